/- The readers of layer 1 over the read of one number.
  Conditions: lengths below 2^40. -/
import Derived.Test.YtneohapkboaplaaGreatPW2
set_option linter.all false
set_option maxRecDepth 100000
namespace Go.Proofs.YtneohapkboaplaaGreat
open Go Go.Am gB
theorem Jz {H:List aG}{i:Nat}{x:aG}(h:H[i]?=some x):H.set i x=H:=by
 apply List.ext_getElem?;intro j
 by_cases hj:i=j
 ·subst hj;rw[List.getElem?_set_self (List.getElem?_eq_some_iff.1 h).1,h]
 ·rw[List.getElem?_set_ne hj]
theorem Kp (bs:List UInt8)(lo hi:Int)(s:Rd)(h:s.bad=true):aI bs lo hi s=(0,s):=by simp[aI,h]
attribute [-simp] List.getD_eq_getElem?_getD in
theorem qe (bs:List UInt8)(s:Rd)(lo hi:Int)(hs:s.at_≤bs.length)(hb:bs.length≤1099511627776)(H:List aG)(T:ay)(i:Nat)(fV:H[i]?=some (.cells (rd bs s))) :
  al Tryz.prog 127 [.ptr i 0,.int .i64 lo,.int .i64 hi] H T (Is (.int .i64 (aI bs lo hi s).1) (H.set i (.cells (rd bs (aI bs lo hi s).2))) T):=by
 have hl:=(List.getElem?_eq_some_iff.1 fV).1;have et:=(List.getElem?_eq_some_iff.1 fV).2;have hgl:=x8 bs s.at_ hs;refine aj 9 [] Tryz.ntmps127 Tryz.func127 rfl (fun _ _=>Tryz.call127 _ _) (by simp) (fun HO=>?_);apply ae;intro K h;simp(disch:=omega);apply h;clear h K;refine af fun K1 aO=>?_
 cases dG:s.bad
 ·refine ae fun K hK=>?_;simp(disch:=omega)[fV,et,hl,rd,dG];apply hK;clear hK K;apply aC rfl;apply ak;simp(disch:=omega) ;apply aO;clear aO;refine ae fun K hK=>?_;simp(disch:=omega)[fV,et,hl,rd,dG];refine ah (Kq bs s hs hb H T i fV) ?_;simp(disch:=omega)[P5];apply hK;clear hK K;generalize hv:sW (fZ bs s.at_)=v at *;generalize hn:sX (fZ bs s.at_)=n at *;refine af fun K1 aO=>?_;refine ae fun K hK=>?_;have key:∀e,b9 H.length T.length e [(0,.ptr i 0),(7,.int .i64 v),(8,.int .i64 (n:Nat)),(33,.bool (decide (n=0∨v<lo∨v>hi)))]→K ⟨e,H,T⟩:=by
   intro e he;refine hK _ (aQ ⟨[(0,.ptr i 0),(7,.int .i64 v),(8,.int .i64 (n:Nat)),(33,.bool (decide (n=0∨v<lo∨v>hi)))],H,T⟩ (ag [] [] (by simp) (by simp) (by simp) (by simp) HO he) ?_);refine aP rfl (fun h=>?_) (fun h=>?_)
   ·simp only[decide_eq_true_eq] at h;refine ae fun K hK=>?_;simp(disch:=omega)[fV,et,hl,rd];apply hK;clear hK K;apply ae;intro K h;simp(disch:=omega);apply h;clear h K;apply an;simp(disch:=omega) ;simp only[aI,dG,hv,hn,if_pos h];exact⟨rfl,rfl,rfl⟩
   ·simp only[decide_eq_false_iff_not] at h;apply ak;simp(disch:=omega) ;apply aO;clear aO;refine ae fun K hK=>?_;simp(disch:=omega)[fV,et,hl,rd];apply hK;clear hK K;apply ae;intro K h;simp(disch:=omega);apply h;clear h K;apply an;simp(disch:=omega) ;simp only[aI,dG,hv,hn,if_neg h];exact⟨rfl,rfl,rfl⟩
  clear hK
  by_cases h0:n=0
  ·simp(disch:=omega)[h0];exact key _ (by simp[h0,hl])
  ·have Rh:((n:Int)==0)=false:=by simp;omega
   by_cases h1:v<lo
   ·have qR:decide (v<lo)=true:=by simpa using h1
    simp(disch:=omega)[Rh,qR];exact key _ (by simp[h1,hl])
   ·have qR:decide (v<lo)=false:=by simpa using h1
    simp(disch:=omega)[Rh,qR];exact key _ (by simp[h0,h1,hl])
 ·refine ae fun K hK=>?_;simp(disch:=omega)[fV,et,hl,rd,dG];apply hK;clear hK K;apply aH rfl;apply ae;intro K h;simp(disch:=omega);apply h;clear h K;apply an;simp(disch:=omega) ;rw[Kp _ _ _ _ dG,Jz fV];exact⟨rfl,rfl,rfl⟩
attribute [-simp] List.getD_eq_getElem?_getD in
theorem zl (bs:List UInt8)(s:Rd)(hs:s.at_≤bs.length)(hb:bs.length≤1099511627776)(H:List aG)(T:ay)(i:Nat)(fV:H[i]?=some (.cells (rd bs s))) :
  al Tryz.prog 128 [.ptr i 0] H T (Is (.int .i64 ((bs.length-s.at_:Nat):Int)) H T):=by
 have hl:=(List.getElem?_eq_some_iff.1 fV).1;have et:=(List.getElem?_eq_some_iff.1 fV).2;refine aj 3 [] Tryz.ntmps128 Tryz.func128 rfl (fun _ _=>Tryz.call128 _ _) (by simp) (fun HO=>?_);apply ae;intro K h;simp(disch:=omega);apply h;clear h K;refine af fun K1 aO=>?_;apply ae;intro K h;simp(disch:=omega);apply h;clear h K;apply aC rfl;apply ak;simp(disch:=omega) ;apply aO;clear aO;refine aM [] [] [] au (by kernel_rfl) (by kernel_rfl) fun K hK=>?_;simp(disch:=omega)[fV,et,hl,rd];apply hK;clear hK K;apply an;simp(disch:=omega) ;refine⟨?_,rfl,rfl⟩
 congr 1
 omega
def dt (bs:List UInt8)(s:Rd):Int:=if s.bad=true∨s.at_<bs.length then 5 else 0
attribute [-simp] List.getD_eq_getElem?_getD in
theorem zm (bs:List UInt8)(s:Rd)(hs:s.at_≤bs.length)(hb:bs.length≤1099511627776)(H:List aG)(T:ay)(i:Nat)(fV:H[i]?=some (.cells (rd bs s))) :
  al Tryz.prog 131 [.ptr i 0] H T (Is (.int .i64 (dt bs s)) H T):=by
 have hl:=(List.getElem?_eq_some_iff.1 fV).1;have et:=(List.getElem?_eq_some_iff.1 fV).2;refine aj 3 [] Tryz.ntmps131 Tryz.func131 rfl (fun _ _=>Tryz.call131 _ _) (by simp) (fun HO=>?_);apply ae;intro K h;simp(disch:=omega);apply h;clear h K;refine af fun K1 aO=>?_;apply ai;apply ae;intro K h;simp(disch:=omega);apply h;clear h K;apply aC rfl
 cases dG:s.bad
 ·refine aM [] [] [] au (by kernel_rfl) (by kernel_rfl) fun K hK=>?_;simp(disch:=omega)[fV,et,hl,rd,dG];apply hK;clear hK K;refine aP rfl (fun h=>?_) (fun h=>?_)
  ·simp at h;apply ae;intro K h;simp(disch:=omega);apply h;clear h K;apply an;simp(disch:=omega) ;have h':s.at_<bs.length:=by omega
   simp only[dt,dG,h',or_true,if_true];exact⟨rfl,rfl,rfl⟩
  ·simp at h;apply ak;simp(disch:=omega) ;apply aO;clear aO;apply ae;intro K h;simp(disch:=omega);apply h;clear h K;apply an;simp(disch:=omega) ;have h':¬(s.bad=true∨s.at_<bs.length):=by rw[dG];simp;omega
   simp only[dt,if_neg h'];exact⟨rfl,rfl,rfl⟩
 ·refine aM [] [] [] au (by kernel_rfl) (by kernel_rfl) fun K hK=>?_;simp(disch:=omega)[fV,et,hl,rd,dG];apply hK;clear hK K;apply aH rfl;apply ae;intro K h;simp(disch:=omega);apply h;clear h K;apply an;simp(disch:=omega) ;simp only[dt,dG,true_or,if_true];exact⟨rfl,rfl,rfl⟩
end Go.Proofs.YtneohapkboaplaaGreat
