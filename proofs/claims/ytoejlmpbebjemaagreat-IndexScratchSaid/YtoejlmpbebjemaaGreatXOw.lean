/- IndexOrder (layer 40): it returns true.
  Conditions: none. -/
import Derived.Test.YtoejlmpbebjemaaGreatXOrd
import Derived.Test.YtoejlmpbebjemaaGreatXWd
import Derived.Test.YtoejlmpbebjemaaGreatXDo
import Derived.Test.YtoejlmpbebjemaaGreatXP
import Derived.Test.YtoejlmpbebjemaaGreatGSW
import Derived.Test.YtoejlmpbebjemaaGreatGLA
import Derived.Test.YtoejlmpbebjemaaGreatGZc
set_option linter.all false
set_option maxRecDepth 100000
namespace Go.Proofs.YtoejlmpbebjemaaGreat
open Go Go.Am ie cN eN
attribute [-simp] List.getD_eq_getElem?_getD in
def Lt (a b:List (Int×List Int))(ha:a.length<=5000)(hb:b.length<=5000)(RH:∀p∈a,p.2.length<=maxLen)(RG:∀p∈b,p.2.length<=maxLen)(H:List aA)(T:au) :
  aq Tryz.prog 39 [.sl a.length (bD a) .none,.sl b.length (bD b) .none] H T (Is (.bool (decide (a=b))) H T):=by
 have ct:=λH T=>KZ a ha H T .none;have cs:=λH T=>Py a b ha hb RH RG H T .none .none;refine ah 5 [] Tryz.ntmps39 Tryz.func39 rfl (λ_ _=>Tryz.call39 _ _) zS (λHO=>?_);refine af ?_;apply ar;refine zQ ?_;refine ai (ct _ _) ?_;refine zQ ?_;refine ai (cs _ _) ?_;refine zQ ?_;refine aI ?_;exact⟨rfl,rfl,rfl⟩
def Hm {m:Nat}{x:List Sd}(h:BX m x)(f:Int)(p:Bs):(kb x f p).length<=x.length*1000:=by
 unfold kb;refine ahA (ahX _ _) (ahA (qB _) ?_);rw[od];exact tV h f p x.length (ahv _)
end Go.Proofs.YtoejlmpbebjemaaGreat
