/- Entries and near words of layer 43 as cells; the order of strings.
  Conditions: none. -/
import Derived.Test.YtoejlmpbebjemaaGreatAmFacts
import Derived.Test.YtoejlmpbebjemaaGreatAmC
import GoSem.Op.String
set_option linter.all false
set_option maxRecDepth 100000
namespace ie
open Go
abbrev w9:=List UInt8
abbrev slt (a b:w9):Bool:=Op.bytesLess a b
theorem sA (a:w9):slt a a=false:=by
 induction a with
 |nil=>rfl
 |cons x r ih=>simp only[slt] at ih;simp[slt,Op.bytesLess,ih]
theorem uN:∀(a b:w9),slt a b=true->slt b a=false:=by
 intro a
 induction a with
 |nil=>intro b _;cases b<;>rfl
 |cons x r ih=>
  intro b h
  cases b with
  |nil=>exact absurd h (by simp[slt,Op.bytesLess])
  |cons y s=>
   simp only[slt,Op.bytesLess,aiq,ahG,ahH,ajl] at h;simp only[slt,Op.bytesLess,ajV,ajP,aiP];rcases h with h|⟨rfl,h⟩
   ·refine⟨λh2=>?_,.inl ?_⟩
    ·rw[UInt8.lt_iff_toNat_lt] at h h2;omega
    ·rw[ah8];rintro rfl;rw[UInt8.lt_iff_toNat_lt] at h;omega
   ·exact⟨λh2=>by rw[UInt8.lt_iff_toNat_lt] at h2;omega,.inr (ih s h)⟩
theorem l0:∀(a b:w9),slt a b=false->slt b a=false->a=b:=by
 intro a
 induction a with
 |nil=>intro b h _;cases b with
  |nil=>rfl
  |cons _ _=>exact absurd h (by simp[slt,Op.bytesLess])
 |cons x r ih=>
  intro b h1 h2
  cases b with
  |nil=>exact absurd h2 (by simp[slt,Op.bytesLess])
  |cons y s=>
   simp only[slt,Op.bytesLess,ajV,ajP,aiP] at h1 h2;have e:x=y:=by
    have a1:=h1.1;have a2:=h2.1;rw[UInt8.lt_iff_toNat_lt] at a1 a2;exact UInt8.toNat_inj.1 zO
   subst e;have g1:Op.bytesLess r s=false:=by rcases h1.2 with h|h;exact absurd h zS;exact h
   have g2:Op.bytesLess s r=false:=by rcases h2.2 with h|h;exact absurd h zS;exact h
   rw[ih s g1 g2]
theorem uM:∀(a b c:w9),slt a b=true->slt b c=true->slt a c=true:=by
 intro a
 induction a with
 |nil=>intro b c h1 h2;cases c with
  |nil=>cases b<;>exact absurd h2 (by simp[slt,Op.bytesLess])
  |cons _ _=>rfl
 |cons x r ih=>
  intro b c h1 h2
  cases b with
  |nil=>exact absurd h1 (by simp[slt,Op.bytesLess])
  |cons y s=>
   cases c with
   |nil=>exact absurd h2 (by simp[slt,Op.bytesLess])
   |cons z t=>
    simp only[slt,Op.bytesLess,aiq,ahG,ahH,ajl] at h1 h2 ⊢;rcases h1 with h1|⟨rfl,h1⟩
    ·rcases h2 with h2|⟨rfl,h2⟩
     ·refine .inl ?_;rw[UInt8.lt_iff_toNat_lt] at h1 h2 ⊢;omega
     ·exact .inl h1
    ·rcases h2 with h2|⟨rfl,h2⟩
     ·exact .inl h2
     ·exact .inr ⟨rfl,ih s t h1 h2⟩
def BJ {a b:w9}(h:slt a b=true):a≠b:=λe=>by rw[e,sA] at h;cases h
def okW (s:w9):Bool:=s.all (λc=>decide (32<c.toNat))&&decide (1<=s.length/\s.length<=100)
def Vw (n:Int):Bool:=decide (1<=n/\n<=2000)
end ie
namespace Go.Proofs.YtoejlmpbebjemaaGreat
open Go Go.Am ie
@[simp] theorem M1 (v w:AV):iq [v,w] 2=[v,w]:=rfl
@[simp] theorem Vs (u v w:AV):iq [u,v,w] 3=[u,v,w]:=rfl
theorem sQ {α:Type}(l:List α)(k:Nat)(d:α)(h:k<l.length):l.getD k d∈l:=by
 rw[ahs,ahu h];exact ah2 h
theorem jQ {α:Type}{l:List α}{x:α}(d:α)(h:x∈l):∃j,j<l.length/\l.getD j d=x:=by
 obtain⟨j,hj,e⟩:=ahN.1 h;exact⟨j,hj,by rw[ahs,ahu hj];exact e⟩
end Go.Proofs.YtoejlmpbebjemaaGreat
