/- Entries and near words of layer 43 as cells; the order of strings.
  Conditions: none. -/
import Derived.Test.YtoejlmpbebjemaaGreatAmFacts
import Derived.Test.YtoejlmpbebjemaaGreatAmC
import GoSem.Op.String
set_option linter.all false
set_option maxRecDepth 100000
namespace im
open Go
abbrev wO:=List UInt8
abbrev slt (a b:wO):Bool:=Op.bytesLess a b
theorem rW (a:wO):slt a a=false:=by
 induction a with
 |nil=>rfl
 |cons x r ih=>simp only[slt] at ih;simp[slt,Op.bytesLess,ih]
theorem uD:∀(a b:wO),slt a b=true->slt b a=false:=by
 intro a
 induction a with
 |nil=>intro b _;cases b<;>rfl
 |cons x r ih=>
  intro b h
  cases b with
  |nil=>exact absurd h (by simp[slt,Op.bytesLess])
  |cons y s=>
   simp only[slt,Op.bytesLess,aic,aht,ahv,ajb] at h;simp only[slt,Op.bytesLess,ajI,ajD,aiD];rcases h with h|⟨rfl,h⟩
   ·refine⟨λh2=>?_,.inl ?_⟩
    ·rw[UInt8.lt_iff_toNat_lt] at h h2;omega
    ·rw[ah5];rintro rfl;rw[UInt8.lt_iff_toNat_lt] at h;omega
   ·exact⟨λh2=>by rw[UInt8.lt_iff_toNat_lt] at h2;omega,.inr (ih s h)⟩
theorem lF:∀(a b:wO),slt a b=false->slt b a=false->a=b:=by
 intro a
 induction a with
 |nil=>intro b h _;cases b with
  |nil=>rfl
  |cons _ _=>exact absurd h (by simp[slt,Op.bytesLess])
 |cons x r ih=>
  intro b h1 h2
  cases b with
  |nil=>exact absurd h2 (by simp[slt,Op.bytesLess])
  |cons y s=>
   simp only[slt,Op.bytesLess,ajI,ajD,aiD] at h1 h2;have e:x=y:=by
    have a1:=h1.1;have a2:=h2.1;rw[UInt8.lt_iff_toNat_lt] at a1 a2;exact UInt8.toNat_inj.1 (by omega)
   subst e;have g1:Op.bytesLess r s=false:=by rcases h1.2 with h|h;exact absurd h (by simp);exact h
   have g2:Op.bytesLess s r=false:=by rcases h2.2 with h|h;exact absurd h (by simp);exact h
   rw[ih s g1 g2]
theorem uC:∀(a b c:wO),slt a b=true->slt b c=true->slt a c=true:=by
 intro a
 induction a with
 |nil=>intro b c h1 h2;cases c with
  |nil=>cases b<;>exact absurd h2 (by simp[slt,Op.bytesLess])
  |cons _ _=>rfl
 |cons x r ih=>
  intro b c h1 h2
  cases b with
  |nil=>exact absurd h1 (by simp[slt,Op.bytesLess])
  |cons y s=>
   cases c with
   |nil=>exact absurd h2 (by simp[slt,Op.bytesLess])
   |cons z t=>
    simp only[slt,Op.bytesLess,aic,aht,ahv,ajb] at h1 h2 ⊢;rcases h1 with h1|⟨rfl,h1⟩
    ·rcases h2 with h2|⟨rfl,h2⟩
     ·refine .inl ?_;rw[UInt8.lt_iff_toNat_lt] at h1 h2 ⊢;omega
     ·exact .inl h1
    ·rcases h2 with h2|⟨rfl,h2⟩
     ·exact .inl h2
     ·exact .inr ⟨rfl,ih s t h1 h2⟩
def Bp {a b:wO}(h:slt a b=true):a≠b:=λe=>by rw[e,rW] at h;cases h
def okW (s:wO):Bool:=s.all (λc=>decide (32<c.toNat))&&decide (1<=s.length/\s.length<=100)
def VJ (n:Int):Bool:=decide (1<=n/\n<=2000)
end im
namespace Go.Proofs.YtoejlmpbebjemaaGreat
open Go Go.Am im
@[simp] theorem M9 (v w:AV):gA [v,w] 2=[v,w]:=rfl
@[simp] theorem VF (u v w:AV):gA [u,v,w] 3=[u,v,w]:=rfl
def vS {α:Type}(l:List α)(k:Nat)(d:α)(h:k<l.length):l.getD k d∈l:=by
 rw[ahg,ahi h];exact ahP h
def ml {α:Type}{l:List α}{x:α}(d:α)(h:x∈l):∃j,j<l.length/\l.getD j d=x:=by
 obtain⟨j,hj,e⟩:=ahB.1 h;exact⟨j,hj,by rw[ahg,ahi hj];exact e⟩
end Go.Proofs.YtoejlmpbebjemaaGreat
