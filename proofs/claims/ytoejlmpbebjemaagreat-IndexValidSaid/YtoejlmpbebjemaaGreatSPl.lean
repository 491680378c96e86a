/- Entries and near words of layer 43 as cells; the order of strings.
  Conditions: none. -/
import Derived.Test.YtoejlmpbebjemaaGreatAmFacts
import Derived.Test.YtoejlmpbebjemaaGreatAmC
import GoSem.Op.String
set_option linter.all false
set_option maxRecDepth 100000
namespace Sug
open Go
abbrev Str:=List UInt8
abbrev slt (a b:Str):Bool:=Op.bytesLess a b
theorem slt_irrefl (a:Str):slt a a=false:=by
 induction a with
 |nil=>rfl
 |cons x r ih=>simp only[slt] at ih;simp[slt,Op.bytesLess,ih]
theorem slt_asymm:∀(a b:Str),slt a b=true→slt b a=false:=by
 intro a
 induction a with
 |nil=>intro b _;cases b<;>rfl
 |cons x r ih=>
  intro b h
  cases b with
  |nil=>exact absurd h (by simp[slt,Op.bytesLess])
  |cons y s=>
   simp only[slt,Op.bytesLess,Bool.or_eq_true,Bool.and_eq_true,decide_eq_true_eq,beq_iff_eq] at h;simp only[slt,Op.bytesLess,Bool.or_eq_false_iff,Bool.and_eq_false_iff,decide_eq_false_iff_not];rcases h with h|⟨rfl,h⟩
   ·refine⟨fun h2=>?_,.inl ?_⟩
    ·rw[UInt8.lt_iff_toNat_lt] at h h2;omega
    ·rw[beq_eq_false_iff_ne];rintro rfl;rw[UInt8.lt_iff_toNat_lt] at h;omega
   ·exact⟨fun h2=>by rw[UInt8.lt_iff_toNat_lt] at h2;omega,.inr (ih s h)⟩
theorem slt_total:∀(a b:Str),slt a b=false→slt b a=false→a=b:=by
 intro a
 induction a with
 |nil=>intro b h _;cases b with
  |nil=>rfl
  |cons _ _=>exact absurd h (by simp[slt,Op.bytesLess])
 |cons x r ih=>
  intro b h1 h2
  cases b with
  |nil=>exact absurd h2 (by simp[slt,Op.bytesLess])
  |cons y s=>
   simp only[slt,Op.bytesLess,Bool.or_eq_false_iff,Bool.and_eq_false_iff,decide_eq_false_iff_not] at h1 h2;have e:x=y:=by
    have a1:=h1.1;have a2:=h2.1;rw[UInt8.lt_iff_toNat_lt] at a1 a2;exact UInt8.toNat_inj.1 (by omega)
   subst e;have g1:Op.bytesLess r s=false:=by rcases h1.2 with h|h;exact absurd h (by simp);exact h
   have g2:Op.bytesLess s r=false:=by rcases h2.2 with h|h;exact absurd h (by simp);exact h
   rw[ih s g1 g2]
theorem slt_trans:∀(a b c:Str),slt a b=true→slt b c=true→slt a c=true:=by
 intro a
 induction a with
 |nil=>intro b c h1 h2;cases c with
  |nil=>cases b<;>exact absurd h2 (by simp[slt,Op.bytesLess])
  |cons _ _=>rfl
 |cons x r ih=>
  intro b c h1 h2
  cases b with
  |nil=>exact absurd h1 (by simp[slt,Op.bytesLess])
  |cons y s=>
   cases c with
   |nil=>exact absurd h2 (by simp[slt,Op.bytesLess])
   |cons z t=>
    simp only[slt,Op.bytesLess,Bool.or_eq_true,Bool.and_eq_true,decide_eq_true_eq,beq_iff_eq] at h1 h2 ⊢;rcases h1 with h1|⟨rfl,h1⟩
    ·rcases h2 with h2|⟨rfl,h2⟩
     ·refine .inl ?_;rw[UInt8.lt_iff_toNat_lt] at h1 h2 ⊢;omega
     ·exact .inl h1
    ·rcases h2 with h2|⟨rfl,h2⟩
     ·exact .inl h2
     ·exact .inr ⟨rfl,ih s t h1 h2⟩
theorem slt_ne {a b:Str}(h:slt a b=true):a≠b:=fun e=>by rw[e,slt_irrefl] at h;cases h
def okW (s:Str):Bool:=s.all (fun c=>decide (32<c.toNat))&&decide (1≤s.length∧s.length≤100)
def okC (n:Int):Bool:=decide (1≤n∧n≤2000)
end Sug
namespace Go.Proofs.YtoejlmpbebjemaaGreat
open Go Go.Am Sug
@[simp] theorem amade_two (v w:AV):amade [v,w] 2=[v,w]:=rfl
@[simp] theorem amade_three (u v w:AV):amade [u,v,w] 3=[u,v,w]:=rfl
theorem memD {α:Type}(l:List α)(k:Nat)(d:α)(h:k<l.length):l.getD k d∈l:=by
 rw[List.getD_eq_getElem?_getD,List.getElem?_eq_getElem h];exact List.getElem_mem h
theorem memD_inv {α:Type}{l:List α}{x:α}(d:α)(h:x∈l):∃j,j<l.length∧l.getD j d=x:=by
 obtain⟨j,hj,e⟩:=List.mem_iff_getElem.1 h;exact⟨j,hj,by rw[List.getD_eq_getElem?_getD,List.getElem?_eq_getElem hj];exact e⟩
end Go.Proofs.YtoejlmpbebjemaaGreat
