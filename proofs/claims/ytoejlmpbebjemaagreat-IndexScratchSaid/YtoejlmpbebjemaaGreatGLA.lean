/- The law's same, SameTexts, the reference's Small (layer 39). The example of the document (layer 39): it holds.
  Conditions: lengths below 1000 or 1000, as each theorem says. -/
import Derived.Test.YtoejlmpbebjemaaGreatGV
import Derived.Test.YtoejlmpbebjemaaGreatGBC
import Derived.Test.YtoejlmpbebjemaaGreatGFA
import Derived.Test.YtoejlmpbebjemaaGreatGFB
set_option linter.all false
set_option maxRecDepth 100000
open List (getD_eq_getElem?_getD)
namespace Go.Proofs.YtoejlmpbebjemaaGreat
open Go Go.Am ie eN cN
def CA (a b:List (List UInt8))(ha:a.length<=maxLen)(hb:b.length<=maxLen)(H:List aA)(T:au)(ta tb:Tag):aq Tryz.prog 41 [.sl a.length (strs a) ta,.sl b.length (strs b) tb] H T (Is (.bool (a==b)) H T):=by
 refine aq.bR ?_;have jU:maxLen<=9223372036854775807:=by decide
 have YJ:=ahA ha jU;have wZ:=ahA hb jU;refine ah 6 [] Tryz.ntmps41 Tryz.func41 rfl (λ_ _=>Tryz.call41 _ _) (by simp) (λHO=>?_);refine aK λK hK=>?_;simp(disch:=omega)[-getD_eq_getElem?_getD];apply hK;refine ae λK1 aN=>?_;refine aK λK hK=>?_;simp(disch:=omega)[-getD_eq_getElem?_getD];apply hK;refine aV rfl (λh=>?_) (λh=>?_)
 ·simp[-getD_eq_getElem?_getD] at h;refine aK λK hK=>?_;simp(disch:=omega)[-getD_eq_getElem?_getD];apply hK;apply bu;simp(disch:=omega)[-getD_eq_getElem?_getD];have:(a==b)=false:=by simp;intro e;subst e;exact h rfl
  rw[this];exact⟨rfl,rfl,rfl⟩
 ·simp[-getD_eq_getElem?_getD] at h;have hl:a.length=b.length:=by omega
  apply aj;simp(disch:=omega)[-getD_eq_getElem?_getD];apply aN;clear aN;refine ae λK1 aN=>?_;refine aK λK hK=>?_;simp(disch:=omega)[-getD_eq_getElem?_getD];apply hK;apply ag;refine aG (X:=Nat) (λi=>⟨[(0,.sl a.length (strs a) .none),(1,.sl b.length (strs b) .none),(5,.int .i64 (i:Nat))],H,T⟩) (λi=>i<=a.length/\∀j,j<i->a.getD j []=b.getD j []) (λi=>a.length-i) 0 ?_ ?_ ?_
  ·exact⟨by omega,λj hj=>by omega⟩
  ·refine ak [] [] ?_ ?_ ?_ ?_ HO ?_
   all_goals simp
  ·rintro i ⟨hi,hj⟩;refine ae λK2 ba=>?_;refine aK λK hK=>?_;simp(disch:=omega)[-getD_eq_getElem?_getD];apply hK;refine aV rfl (λh=>?_) (λh=>?_)
   ·simp[-getD_eq_getElem?_getD] at h;apply aj;simp(disch:=omega)[-getD_eq_getElem?_getD];apply ba;clear ba;refine ae λK3 bH=>?_;apply ag
    by_cases he:a.getD i []=b.getD i []
    ·refine cQ [] [] [] aO (by kernel_rfl) (by kernel_rfl) λK hK=>?_;simp(disch:=omega)[-getD_eq_getElem?_getD,A3,he];apply hK;apply aB rfl;apply aj;simp(disch:=omega)[-getD_eq_getElem?_getD];apply bH;clear bH;refine br λK hK=>?_;simp(disch:=omega)[-getD_eq_getElem?_getD];apply hK;refine⟨i+1,⟨by omega,λj bU=>?_⟩,by omega,?_⟩
     ·rcases ahD j i with h1|h1
      ·exact hj j h1
      ·have:j=i:=by omega
       subst this;exact he
     ·refine ak [] [] ?_ ?_ ?_ ?_ HO ?_
      all_goals simp
    ·have CW:(a.getD i []!=b.getD i [])=true:=bne_iff_ne.2 he;have wY:¬a[i]?.getD []=b[i]?.getD []:=by rwa [ahs,ahs] at he
     refine cQ [] [] [] aO (by kernel_rfl) (by kernel_rfl) λK hK=>?_;simp(disch:=omega)[-getD_eq_getElem?_getD,A3,CW,wY];apply hK;refine aV rfl (λh=>?_) (λh=>absurd h (by simpa using wY));refine aK λK hK=>?_;simp(disch:=omega)[-getD_eq_getElem?_getD];apply hK;apply bu;simp(disch:=omega)[-getD_eq_getElem?_getD];have:(a==b)=false:=by simp;intro e;subst e;exact he rfl
     rw[this];exact⟨rfl,rfl,rfl⟩
   ·simp[-getD_eq_getElem?_getD] at h;apply aD;simp(disch:=omega)[-getD_eq_getElem?_getD];apply aN;clear aN;refine aK λK hK=>?_;simp(disch:=omega)[-getD_eq_getElem?_getD];apply hK;apply bu;simp(disch:=omega)[-getD_eq_getElem?_getD];refine⟨?_,rfl,rfl⟩;have:a=b:=Cj [] hl (λj bU=>hj j (by omega));simp[this]
end Go.Proofs.YtoejlmpbebjemaaGreat
