/- SegmentMerge (layer 39): it returns true.
  Conditions: none. -/
import Derived.Test.YtneohapkboaplaaGreatGZy
import Derived.Test.YtneohapkboaplaaGreatGZw
set_option linter.all false
set_option maxRecDepth 100000
set_option maxHeartbeats 16000000
namespace Go.Proofs.YtneohapkboaplaaGreat
open Go Go.Am iF eJ dh
attribute [-simp] List.getD_eq_getElem?_getD in
theorem tF (s t:Sg)(hs:RP s)(ht:RP t)(ids:List Int)(hi:ids.length≤maxLen):aq Tryz.prog 8 [ec s,ec t,.sl ids.length (ints ids) .none] [] [] (fun r _ _=>r=.bool true):=by
 have hm:1000≤maxLen:=by decide
 have ca:=fun H=>Im H [];have cs:=fun H=>xb s hs H [];have ct:=fun H=>xb t ht H [];refine aj 11 [] Tryz.ntmps8 Tryz.func8 rfl (fun _ _=>Tryz.call8 _ _) (by simp) (fun HO=>?_);apply ae;intro K h;simp(disch:=omega);apply h;clear h K;refine af fun K1 aQ=>?_;refine ae fun K hK=>?_;simp(disch:=omega) ;refine ak (ca _) ?_;simp(disch:=omega) ;apply hK;clear hK K;apply aD rfl;apply ai;simp(disch:=omega) ;apply aQ;clear aQ;refine af fun K1 aQ=>?_
 cases hb:ko s with
 |false=>
  rw[hb] at cs;refine ae fun K hK=>?_;simp(disch:=omega) ;refine ak (cs _) ?_;simp(disch:=omega) ;apply hK;clear hK K;apply aF rfl;apply ae;intro K h;simp(disch:=omega);apply h;clear h K;apply az;simp(disch:=omega) 
 |true=>
 rw[hb] at cs
 cases iE:ko t with
 |false=>
  rw[iE] at ct;refine ae fun K hK=>?_;simp(disch:=omega) ;refine ak (cs _) ?_;simp(disch:=omega) ;refine ak (ct _) ?_;simp(disch:=omega) ;apply hK;clear hK K;apply aF rfl;apply ae;intro K h;simp(disch:=omega);apply h;clear h K;apply az;simp(disch:=omega) 
 |true=>
 rw[iE] at ct
 by_cases cC:(20:Int)<ids.length
 ·have b1:decide ((20:Int)<ids.length)=true:=decide_eq_true cC;refine ae fun K hK=>?_;simp(disch:=omega) ;refine ak (cs _) ?_;simp(disch:=omega) ;refine ak (ct _) ?_;simp(disch:=omega)[b1,cC];apply hK;clear hK K;apply aF rfl;apply ae;intro K h;simp(disch:=omega);apply h;clear h K;apply az;simp(disch:=omega) 
 have b1:decide ((20:Int)<ids.length)=false:=decide_eq_false cC;have hz:=AB hb hs;have Ox:=AB iE ht;have co:=fun H=>JS s hz.sz H [];have cot:=fun H=>JS t Ox.sz H [];obtain⟨p1,p2⟩:=qK hz;obtain⟨q1,q2⟩:=qK Ox;have P7:=JQ (l:=bI s++bI t) (by rw[List.length_append];omega) (fun d hd=>(List.mem_append.1 hd).elim (p2 d) (q2 d));have Ml:=JQ (l:=ig s ids) (Nat.le_trans (List.length_filter_le _ _) (by omega)) (fun d hd=>p2 d (List.mem_filter.1 hd).1);have c1:=fun H=>DP s t hz.sz Ox.sz (fun _ _=>by have:=hz.d;have:=Ox.d;omega) H [];have c2:=fun H=>DO s t hz.sz Ox.sz P7.1 P7.2 H [];have c3:=fun H=>Ba _ (KZ hz Ox) H [];have c4:=fun H=>H5 s hz.sz (fun _=>by have:=hz.d;omega) ids hi H [] .none;have c5:=fun H=>H4 s hz.sz ids hi Ml.1 Ml.2 H [] .none;have c6:=fun H=>Ba _ (N5 hz ids) H [];clear P7 Ml;generalize gO s t=r at *;obtain⟨u,e⟩:=r;simp only at c1 c2 c3;generalize qE s ids=v at *;have b2:(e==e)=true:=by simp
 refine ae fun K hK=>?_;simp(disch:=omega) ;refine ak (cs _) ?_;simp(disch:=omega) ;refine ak (ct _) ?_;simp(disch:=omega)[b1,cC];apply hK;clear hK K;apply aD rfl;apply ai;simp(disch:=omega) ;apply aQ;clear aQ;refine aI [8,9] [0,0,0,0,0,0,0,0,0,1,2] [[0,1,2,3,4,5,6,7],[7]] al (by kernel_rfl) (by kernel_rfl) fun K hK=>?_;simp(disch:=omega) ;refine aB (co _) rfl ?_;simp(disch:=omega) ;refine aB (cot _) rfl ?_;simp(disch:=omega) ;refine aB (c1 _) rfl ?_;simp(disch:=omega) ;refine⟨⟨co _,cot _,c1 _⟩,?_⟩;apply hK;clear hK K;refine ae fun K hK=>?_;simp(disch:=omega) ;refine ak (c2 _) ?_;simp(disch:=omega) ;apply hK;clear hK K;refine aI [] [] [] al (by kernel_rfl) (by kernel_rfl) fun K hK=>?_;simp(disch:=omega) ;refine aB (c3 _) rfl ?_;simp(disch:=omega) ;refine aB (co _) rfl ?_;simp(disch:=omega) ;refine aB (c4 _) rfl ?_;simp(disch:=omega) ;refine aB (c5 _) rfl ?_;simp(disch:=omega) ;refine aB (c6 _) rfl ?_;simp(disch:=omega) ;apply hK;clear hK K;apply az;simp(disch:=omega) 
end Go.Proofs.YtneohapkboaplaaGreat
