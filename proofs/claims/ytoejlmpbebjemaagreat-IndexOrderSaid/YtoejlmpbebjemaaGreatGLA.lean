/- The law's same, SameTexts, the reference's Small (layer 39). The example of the document (layer 39): it holds.
  Conditions: lengths below 1000 or 1000, as each theorem says. -/
import Derived.Test.YtoejlmpbebjemaaGreatGV
import Derived.Test.YtoejlmpbebjemaaGreatGBC
import Derived.Test.YtoejlmpbebjemaaGreatGFA
import Derived.Test.YtoejlmpbebjemaaGreatGFB
set_option linter.all false
set_option maxRecDepth 100000
open List (getD_eq_getElem?_getD)
namespace Go.Proofs.YtoejlmpbebjemaaGreat
open Go Go.Am ia eN cO
def BU (a b:List (List UInt8))(ha:a.length<=maxLen)(hb:b.length<=maxLen)(H:List aA)(T:au)(ta tb:Tag):ar Tryz.prog 41 [.sl a.length (strs a) ta,.sl b.length (strs b) tb] H T (Is (.bool (a==b)) H T):=by
 refine ar.cF ?_;have kC:maxLen<=9223372036854775807:=by decide
 have XW:=agJ ha kC;have yF:=agJ hb kC;refine ah 6 [] Tryz.ntmps41 Tryz.func41 rfl (λ_ _=>Tryz.call41 _ _) (by simp) (λHO=>?_);refine ae λK hK=>?_;simp(disch:=omega)[-getD_eq_getElem?_getD];apply hK;refine af λK1 aP=>?_;refine ae λK hK=>?_;simp(disch:=omega)[-getD_eq_getElem?_getD];apply hK;refine aU rfl (λh=>?_) (λh=>?_)
 ·simp[-getD_eq_getElem?_getD] at h;refine ae λK hK=>?_;simp(disch:=omega)[-getD_eq_getElem?_getD];apply hK;apply az;simp(disch:=omega)[-getD_eq_getElem?_getD];have:(a==b)=false:=by simp;intro e;subst e;exact h rfl
  rw[this];exact⟨rfl,rfl,rfl⟩
 ·simp[-getD_eq_getElem?_getD] at h;have hl:a.length=b.length:=by omega
  apply aq;simp(disch:=omega)[-getD_eq_getElem?_getD];apply aP;clear aP;refine af λK1 aP=>?_;refine ae λK hK=>?_;simp(disch:=omega)[-getD_eq_getElem?_getD];apply hK;apply aj;refine aJ (X:=Nat) (λi=>⟨[(0,.sl a.length (strs a) .none),(1,.sl b.length (strs b) .none),(5,.int .i64 (i:Nat))],H,T⟩) (λi=>i<=a.length/\∀j,j<i->a.getD j []=b.getD j []) (λi=>a.length-i) 0 ?_ ?_ ?_
  ·exact⟨by omega,λj hj=>by omega⟩
  ·refine ag [] [] ?_ ?_ ?_ ?_ HO ?_
   all_goals simp
  ·rintro i ⟨hi,hj⟩;refine af λK2 bp=>?_;refine ae λK hK=>?_;simp(disch:=omega)[-getD_eq_getElem?_getD];apply hK;refine aU rfl (λh=>?_) (λh=>?_)
   ·simp[-getD_eq_getElem?_getD] at h;apply aq;simp(disch:=omega)[-getD_eq_getElem?_getD];apply bp;clear bp;refine af λK3 bG=>?_;apply aj
    by_cases he:a.getD i []=b.getD i []
    ·refine aK [] [] [] aw (by kernel_rfl) (by kernel_rfl) λK hK=>?_;simp(disch:=omega)[-getD_eq_getElem?_getD,Ar,he];apply hK;apply aF rfl;apply aq;simp(disch:=omega)[-getD_eq_getElem?_getD];apply bG;clear bG;refine aC λK hK=>?_;simp(disch:=omega)[-getD_eq_getElem?_getD];apply hK;refine⟨i+1,⟨by omega,λj bQ=>?_⟩,by omega,?_⟩
     ·rcases agM j i with h1|h1
      ·exact hj j h1
      ·have:j=i:=by omega
       subst this;exact he
     ·refine ag [] [] ?_ ?_ ?_ ?_ HO ?_
      all_goals simp
    ·have Ci:(a.getD i []!=b.getD i [])=true:=bne_iff_ne.2 he;have yA:¬a[i]?.getD []=b[i]?.getD []:=by rwa [agB,agB] at he
     refine aK [] [] [] aw (by kernel_rfl) (by kernel_rfl) λK hK=>?_;simp(disch:=omega)[-getD_eq_getElem?_getD,Ar,Ci,yA];apply hK;refine aU rfl (λh=>?_) (λh=>absurd h (by simpa using yA));refine ae λK hK=>?_;simp(disch:=omega)[-getD_eq_getElem?_getD];apply hK;apply az;simp(disch:=omega)[-getD_eq_getElem?_getD];have:(a==b)=false:=by simp;intro e;subst e;exact he rfl
     rw[this];exact⟨rfl,rfl,rfl⟩
   ·simp[-getD_eq_getElem?_getD] at h;apply aG;simp(disch:=omega)[-getD_eq_getElem?_getD];apply aP;clear aP;refine ae λK hK=>?_;simp(disch:=omega)[-getD_eq_getElem?_getD];apply hK;apply az;simp(disch:=omega)[-getD_eq_getElem?_getD];refine⟨?_,rfl,rfl⟩;have:a=b:=BE [] hl (λj bQ=>hj j (by omega));simp[this]
end Go.Proofs.YtoejlmpbebjemaaGreat
