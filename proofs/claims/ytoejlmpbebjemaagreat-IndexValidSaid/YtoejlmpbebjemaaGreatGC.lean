/- Comparing numbers, strings, terms, items. Valid documents (layer 37). Valid documents: the program's test (layer 37). Copies of lists of documents, sorting them by their IDs, testing them.
  Conditions: lengths below 400 or 1000, as each theorem says. -/
import Derived.Test.YtoejlmpbebjemaaGreatGA
import Derived.Test.YtoejlmpbebjemaaGreatGSt
set_option linter.all false
set_option maxRecDepth 100000
set_option maxHeartbeats 8000000
namespace Sug
def cmpI (x y:Int):Int:=if x<y then -1 else if y<x then 1 else 0
def cmpS (a b:Str):Int:=if slt a b=true then -1 else if slt b a=true then 1 else 0
theorem cmpI_zero (x y:Int):cmpI x y=0↔x=y:=by unfold cmpI;split<;>(try split)<;>omega
theorem cmpI_neg (x y:Int):cmpI x y<0↔x<y:=by unfold cmpI;split<;>(try split)<;>omega
theorem cmpS_neg (a b:Str):cmpS a b<0↔slt a b=true:=by
 unfold cmpS
 split
 ·rename_i h;simp[h]
 ·rename_i h;split<;>simp[h]
theorem cmpS_gt (a b:Str):slt b a=(!(slt a b||a==b)):=by
 cases h1:slt a b with
 |true=>rw[slt_asymm _ _ h1];rfl
 |false=>
  cases h2:slt b a with
  |true=>have:=slt_ne h2;simp[Ne.symm this]
  |false=>rw[slt_total _ _ h1 h2];simp
theorem cmpS_zero (a b:Str):cmpS a b=0↔a=b:=by
 unfold cmpS
 split
 ·rename_i h;simp[slt_ne h]
 ·rename_i h;split
  ·rename_i h2;simp[Ne.symm (slt_ne h2)]
  ·rename_i h2;simp only[true_iff];exact slt_total _ _ (by simpa using h) (by simpa using h2)
end Sug
namespace Go.Proofs.YtoejlmpbebjemaaGreat
open Go Go.Am Sug
attribute [-simp] List.getD_eq_getElem?_getD in
theorem compI_ok (x y:Int)(H:List Blk)(T:Toks):ACall Tryz.prog 124 [.int .i64 x,.int .i64 y] H T (Is (.int .i64 (cmpI x y)) H T):=by
 have n1:∀z,ACall Tryz.prog 174 [.int .i64 z] H T (Is (.bool false) H T):=fun z=>by
  refine acall_enter 3 [] Tryz.ntmps174 Tryz.func174 rfl (fun _ _=>Tryz.call174 _ _) (by simp) (fun HO=>?_);apply aw_reg;intro K h;simp(disch:=omega);apply h;clear h K;apply aw_reg;intro K h;simp(disch:=omega);apply h;clear h K;apply aw_ret;simp(disch:=omega) ;exact⟨rfl,rfl,rfl⟩
 generalize hq:cmpI x y=q;refine acall_enter 7 [] Tryz.ntmps124 Tryz.func124 rfl (fun _ _=>Tryz.call124 _ _) (by simp) (fun HO=>?_);apply aw_reg;intro K h;simp(disch:=omega);apply h;clear h K;refine aw_reg fun K hK=>?_;simp(disch:=omega) ;refine acall_is (n1 x) ?_;simp(disch:=omega) ;apply hK;clear hK K;refine aw_reg fun K hK=>?_;simp(disch:=omega) ;refine acall_is (n1 y) ?_;simp(disch:=omega) ;apply hK;clear hK K;refine aw_then fun K1 hK1=>?_;apply aw_reg;intro K h;simp(disch:=omega);apply h;clear h K;apply aw_iff rfl;apply aw_skip;simp(disch:=omega) ;apply hK1;clear hK1;refine aw_then fun K1 hK1=>?_;apply aw_reg;intro K h;simp(disch:=omega);apply h;clear h K;apply aw_iff rfl;apply aw_skip;simp(disch:=omega) ;apply hK1;clear hK1;refine aw_then fun K1 hK1=>?_
 by_cases h1:x<y
 ·have b1:decide (x<y)=true:=decide_eq_true h1;refine aw_reg fun K hK=>?_;simp(disch:=omega)[b1,h1];apply hK;clear hK K;apply aw_ift rfl;apply aw_reg;intro K h;simp(disch:=omega);apply h;clear h K;apply aw_ret;simp(disch:=omega) ;rw[←hq,cmpI,if_pos h1];exact⟨rfl,rfl,rfl⟩
 ·have b1:decide (x<y)=false:=decide_eq_false h1;refine aw_reg fun K hK=>?_;simp(disch:=omega)[b1,h1];apply hK;clear hK K;apply aw_iff rfl;apply aw_skip;simp(disch:=omega) ;apply hK1;clear hK1;refine aw_then fun K1 hK1=>?_
  by_cases h2:y<x
  ·have b2:decide (y<x)=true:=decide_eq_true h2;refine aw_reg fun K hK=>?_;simp(disch:=omega)[b2,h2];apply hK;clear hK K;apply aw_ift rfl;apply aw_reg;intro K h;simp(disch:=omega);apply h;clear h K;apply aw_ret;simp(disch:=omega) ;rw[←hq,cmpI,if_neg h1,if_pos h2];exact⟨rfl,rfl,rfl⟩
  ·have b2:decide (y<x)=false:=decide_eq_false h2;refine aw_reg fun K hK=>?_;simp(disch:=omega)[b2,h2];apply hK;clear hK K;apply aw_iff rfl;apply aw_skip;simp(disch:=omega) ;apply hK1;clear hK1;apply aw_reg;intro K h;simp(disch:=omega);apply h;clear h K;apply aw_ret;simp(disch:=omega) ;rw[←hq,cmpI,if_neg h1,if_neg h2];exact⟨rfl,rfl,rfl⟩
attribute [-simp] List.getD_eq_getElem?_getD in
theorem compS_ok (x y:Str)(H:List Blk)(T:Toks):ACall Tryz.prog 168 [.str x,.str y] H T (Is (.int .i64 (cmpS x y)) H T):=by
 have n1:∀z,ACall Tryz.prog 200 [.str z] H T (Is (.bool false) H T):=fun z=>by
  refine acall_enter 3 [] Tryz.ntmps200 Tryz.func200 rfl (fun _ _=>Tryz.call200 _ _) (by simp) (fun HO=>?_);apply aw_reg;intro K h;simp(disch:=omega);apply h;clear h K;apply aw_reg;intro K h;simp(disch:=omega);apply h;clear h K;apply aw_ret;simp(disch:=omega) ;exact⟨rfl,rfl,rfl⟩
 have hgt:=cmpS_gt x y;generalize hq:cmpS x y=q;refine acall_enter 7 [] Tryz.ntmps168 Tryz.func168 rfl (fun _ _=>Tryz.call168 _ _) (by simp) (fun HO=>?_);apply aw_reg;intro K h;simp(disch:=omega);apply h;clear h K;refine aw_reg fun K hK=>?_;simp(disch:=omega) ;refine acall_is (n1 x) ?_;simp(disch:=omega) ;apply hK;clear hK K;refine aw_reg fun K hK=>?_;simp(disch:=omega) ;refine acall_is (n1 y) ?_;simp(disch:=omega) ;apply hK;clear hK K;refine aw_then fun K1 hK1=>?_;apply aw_reg;intro K h;simp(disch:=omega);apply h;clear h K;apply aw_iff rfl;apply aw_skip;simp(disch:=omega) ;apply hK1;clear hK1;refine aw_then fun K1 hK1=>?_;apply aw_reg;intro K h;simp(disch:=omega);apply h;clear h K;apply aw_iff rfl;apply aw_skip;simp(disch:=omega) ;apply hK1;clear hK1;refine aw_then fun K1 hK1=>?_;unfold slt at hgt
 cases h1:Op.bytesLess x y with
 |true=>
  refine aw_reg fun K hK=>?_;simp(disch:=omega)[h1];apply hK;clear hK K;apply aw_ift rfl;apply aw_reg;intro K h;simp(disch:=omega);apply h;clear h K;apply aw_ret;simp(disch:=omega) ;rw[←hq,cmpS,if_pos h1];exact⟨rfl,rfl,rfl⟩
 |false=>
  refine aw_reg fun K hK=>?_;simp(disch:=omega)[h1];apply hK;clear hK K;apply aw_iff rfl;apply aw_skip;simp(disch:=omega) ;apply hK1;clear hK1;refine aw_then fun K1 hK1=>?_;rw[h1,Bool.false_or] at hgt
  cases h2:(x==y) with
  |false=>
   rw[h2] at hgt;refine aw_reg fun K hK=>?_;simp(disch:=omega)[h1,h2];apply hK;clear hK K;apply aw_ift rfl;apply aw_reg;intro K h;simp(disch:=omega);apply h;clear h K;apply aw_ret;simp(disch:=omega) ;rw[←hq,cmpS,if_neg (by simp[slt,h1]),if_pos (show slt y x=true from hgt)];exact⟨rfl,rfl,rfl⟩
  |true=>
   rw[h2] at hgt;refine aw_reg fun K hK=>?_;simp(disch:=omega)[h1,h2];apply hK;clear hK K;apply aw_iff rfl;apply aw_skip;simp(disch:=omega) ;apply hK1;clear hK1;apply aw_reg;intro K h;simp(disch:=omega);apply h;clear h K;apply aw_ret;simp(disch:=omega) ;rw[←hq,cmpS,if_neg (by simp[slt,h1]),if_neg (by simp[slt,hgt])];exact⟨rfl,rfl,rfl⟩
def orI:List Int→Int
 |[]=>0
 |x::r=>if x=0 then orI r else x
theorem orI_skip:∀(l:List Int)(k:Nat),(∀j,j<k→l.getD j 0=0)→k≤l.length→orI l=orI (l.drop k):=by
 intro l
 induction l with
 |nil=>intro k _ _;simp
 |cons x r ih=>
  intro k h hk
  cases k with
  |zero=>rfl
  |succ k=>
   have h0:x=0:=h 0 (by omega);rw[orI,if_pos h0,ih k (fun j hj=>h (j+1) (by omega)) (by simpa using hk)];rfl
attribute [-simp] List.getD_eq_getElem?_getD in
theorem orL_ok (l:List Int)(hl:l.length≤1000)(H:List Blk)(T:Toks)(tg:Tag):ACall Tryz.prog 167 [.sl l.length (ints l) tg] H T (Is (.int .i64 (orI l)) H T):=by
 refine ACall.untag1 ?_;generalize hq:orI l=q;refine acall_enter 9 [] Tryz.ntmps167 Tryz.func167 rfl (fun _ _=>Tryz.call167 _ _) (by simp) (fun HO=>?_);apply aw_reg;intro K h;simp(disch:=omega);apply h;clear h K;apply aw_reg;intro K h;simp(disch:=omega);apply h;clear h K;refine aw_then fun K1 hK1=>?_;apply aw_reg;intro K h;simp(disch:=omega);apply h;clear h K;apply aw_block;refine aw_loop (X:=Nat) (fun k=>⟨[(0,.sl l.length (ints l) .none),(3,.int .i64 0),(6,.sl l.length (ints l) .none),(7,.int .i64 (l.length:Nat)),(8,.int .i64 (k:Nat))],H,T⟩) (fun k=>k≤l.length∧∀j,j<k→l.getD j 0=0) (fun k=>l.length-k) 0 ?_ ?_ ?_
 ·exact⟨Nat.zero_le _,fun j hj=>absurd hj (Nat.not_lt_zero _)⟩
 ·refine weak_to [] [] ?_ ?_ ?_ ?_ HO ?_
  all_goals simp
 ·rintro k ⟨h1,h2⟩;apply aw_reg;intro K h;simp(disch:=omega);apply h;clear h K;refine aw_then fun K2 hK2=>?_;refine aw_if rfl (fun hk=>?_) (fun hk=>?_)
  ·simp  at hk;have hg:=getD_ints (xs:=l) (k:=k) hk;have hd:orI l=orI (l.getD k 0::l.drop (k+1)):=by
    rw[orI_skip l k h2 (by omega),List.drop_eq_getElem_cons hk,List.getD_eq_getElem?_getD,List.getElem?_eq_getElem hk];rfl
   apply aw_skip;simp(disch:=omega) ;apply hK2;clear hK2;refine aw_then fun K3 hK3=>?_;apply aw_block;refine aw_reg fun K hK=>?_;simp(disch:=omega)[hg];apply hK;clear hK K
   by_cases hc:l.getD k 0=0
   ·have b:(l.getD k 0!=0)=false:=by rw[hc];rfl
    refine aw_reg fun K hK=>?_;simp(disch:=omega)[b,hc];apply hK;clear hK K;apply aw_iff rfl;apply aw_skip;simp(disch:=omega) ;apply hK3;clear hK3;refine aw_reg0 fun K hK=>?_;simp(disch:=omega) ;apply hK;clear hK K;refine⟨k+1,⟨by show k+1≤_;omega,fun j hj=>?_⟩,by show l.length-(k+1)<l.length-k;omega,?_⟩
    ·rcases Nat.lt_or_ge j k with h3|h3
     ·exact h2 j h3
     ·have:j=k:=by omega
      subst this;exact hc
    ·refine weak_to [] [] ?_ ?_ ?_ ?_ HO ?_
     all_goals simp
   ·have b:(l.getD k 0!=0)=true:=bne_iff_ne.2 hc;refine aw_reg fun K hK=>?_;simp(disch:=omega)[b,hc];apply hK;clear hK K;apply aw_ift rfl;apply aw_reg;intro K h;simp(disch:=omega);apply h;clear h K;apply aw_ret;simp(disch:=omega) ;rw[←hq,hd,orI,if_neg hc];exact⟨rfl,rfl,rfl⟩
  ·simp  at hk;have e:k=l.length:=by omega
   subst e;apply aw_exit;simp(disch:=omega) ;apply hK1;clear hK1;apply aw_reg;intro K h;simp(disch:=omega);apply h;clear h K;apply aw_ret;simp(disch:=omega) ;rw[←hq,orI_skip l l.length h2 (Nat.le_refl _),List.drop_length];exact⟨rfl,rfl,rfl⟩
end Go.Proofs.YtoejlmpbebjemaaGreat
namespace Seg
open Sug Go.Proofs.YtoejlmpbebjemaaGreat
def nmlt (a b:Nm):Bool:=decide (a.1<b.1)||(decide (a.1=b.1)&&decide (a.2<b.2))
def cmpN (a b:Nm):Int:=orI [cmpI a.1 b.1,cmpI a.2 b.2]
theorem orI2 (x y:Int):orI [x,y]=if x=0 then y else x:=by
 unfold orI;split
 ·unfold orI;split
  ·rename_i h;unfold orI;exact h.symm
  ·rfl
 ·rfl
theorem cmpN_neg (a b:Nm):cmpN a b<0↔nmlt a b=true:=by
 have h1:=cmpI_zero a.1 b.1;have h2:=cmpI_neg a.1 b.1;have h3:=cmpI_neg a.2 b.2;unfold cmpN nmlt;rw[orI2];simp only[Bool.or_eq_true,Bool.and_eq_true,decide_eq_true_eq]
 split
 ·rename_i h;rw[h3];have:=h1.1 h;omega
 ·rename_i h;rw[h2];have:¬a.1=b.1:=fun e=>h (h1.2 e);omega
theorem cmpN_ge (a b:Nm):0≤cmpN a b↔nmlt a b=false:=by
 have:=cmpN_neg a b
 cases h:nmlt a b with
 |true=>have:=this.2 h;simp;omega
 |false=>rw[h] at this;simp at this;simp;exact this
abbrev Ky:=Int×Bs
def kylt (a b:Ky):Bool:=decide (a.1<b.1)||(decide (a.1=b.1)&&slt a.2 b.2)
def cmpK (a b:Ky):Int:=orI [cmpI a.1 b.1,cmpS a.2 b.2]
theorem cmpK_neg (a b:Ky):cmpK a b<0↔kylt a b=true:=by
 have h1:=cmpI_zero a.1 b.1;have h2:=cmpI_neg a.1 b.1;have h3:=cmpS_neg a.2 b.2;unfold cmpK kylt;rw[orI2];simp only[Bool.or_eq_true,Bool.and_eq_true,decide_eq_true_eq]
 split
 ·rename_i h;rw[h3];have:=h1.1 h
  constructor
  ·exact fun q=>.inr ⟨this,q⟩
  ·rintro (q|q)
   ·omega
   ·exact q.2
 ·rename_i h;rw[h2];have:¬a.1=b.1:=fun e=>h (h1.2 e)
  constructor
  ·exact .inl
  ·rintro (q|q)
   ·exact q
   ·exact absurd q.1 this
theorem cmpK_zero (a b:Ky):cmpK a b=0↔a=b:=by
 unfold cmpK;rw[orI2]
 split
 ·rename_i h;rw[cmpS_zero]
  constructor
  ·exact fun q=>Prod.ext ((cmpI_zero _ _).1 h) q
  ·rintro rfl;rfl
 ·rename_i h
  constructor
  ·exact fun q=>absurd q h
  ·rintro rfl;exact absurd ((cmpI_zero _ _).2 rfl) h
theorem cmpK_ge (a b:Ky):0≤cmpK a b↔kylt a b=false:=by
 have:=cmpK_neg a b
 cases h:kylt a b with
 |true=>have:=this.2 h;simp;omega
 |false=>rw[h] at this;simp at this;simp;exact this
end Seg
namespace Go.Proofs.YtoejlmpbebjemaaGreat
open Go Go.Am Sug Seg
attribute [-simp] List.getD_eq_getElem?_getD in
theorem order_ok (x y:Nm)(H:List Blk)(T:Toks):ACall Tryz.prog 120 [.agg [.int .i64 x.1,.int .i64 x.2],.agg [.int .i64 y.1,.int .i64 y.2]] H T (Is (.int .i64 (cmpN x y)) H T):=by
 refine ACall.drop' ?_ (by simp);have c1:=fun H T=>compI_ok x.1 y.1 H T;have c2:=fun H T=>compI_ok x.2 y.2 H T;unfold cmpN;generalize cmpI x.1 y.1=a at *;generalize cmpI x.2 y.2=b at *;have c4:=fun H T=>orL_ok [a,b] (by simp) H T;refine acall_enter 5 [] Tryz.ntmps120 Tryz.func120 rfl (fun _ _=>Tryz.call120 _ _) (by simp) (fun HO=>?_);apply aw_reg;intro K h;simp(disch:=omega);apply h;clear h K;refine aw_draw [] [] [] drawMixed (by kernel_rfl) (by kernel_rfl) fun K hK=>?_;simp(disch:=omega) ;refine dcall_is (c1 _ _) rfl ?_;simp(disch:=omega) ;refine dcall_is (c2 _ _) rfl ?_;simp(disch:=omega) ;refine dcall_is (c4 _ _ _) rfl ?_;simp(disch:=omega) ;apply hK;clear hK K;apply aw_ret;simp(disch:=omega) 
attribute [-simp] List.getD_eq_getElem?_getD in
theorem byNumber_ok (x y:Nm)(H:List Blk)(T:Toks):ACall Tryz.prog 114 [.agg [.int .i64 x.1,.int .i64 x.2],.agg [.int .i64 y.1,.int .i64 y.2]] H T (Is (.int .i64 (cmpN x y)) H T):=by
 refine ACall.drop' ?_ (by simp);have c1:=fun H T=>compI_ok x.1 y.1 H T;have c2:=fun H T=>compI_ok x.2 y.2 H T;unfold cmpN;generalize cmpI x.1 y.1=a at *;generalize cmpI x.2 y.2=b at *;have c4:=fun H T=>orL_ok [a,b] (by simp) H T;refine acall_enter 5 [] Tryz.ntmps114 Tryz.func114 rfl (fun _ _=>Tryz.call114 _ _) (by simp) (fun HO=>?_);apply aw_reg;intro K h;simp(disch:=omega);apply h;clear h K;refine aw_draw [] [] [] drawMixed (by kernel_rfl) (by kernel_rfl) fun K hK=>?_;simp(disch:=omega) ;refine dcall_is (c1 _ _) rfl ?_;simp(disch:=omega) ;refine dcall_is (c2 _ _) rfl ?_;simp(disch:=omega) ;refine dcall_is (c4 _ _ _) rfl ?_;simp(disch:=omega) ;apply hK;clear hK K;apply aw_ret;simp(disch:=omega) 
attribute [-simp] List.getD_eq_getElem?_getD in
theorem byWord_ok (x y:Ky)(u v:AV)(H:List Blk)(T:Toks):ACall Tryz.prog 111 [.agg [.int .i64 x.1,.str x.2,u],.agg [.int .i64 y.1,.str y.2,v]] H T (Is (.int .i64 (cmpK x y)) H T):=by
 refine ACall.drop' ?_ (by simp);have c1:=fun H T=>compI_ok x.1 y.1 H T;have c2:=fun H T=>compS_ok x.2 y.2 H T;unfold cmpK;generalize cmpI x.1 y.1=a at *;generalize cmpS x.2 y.2=b at *;have c4:=fun H T=>orL_ok [a,b] (by simp) H T;refine acall_enter 5 [] Tryz.ntmps111 Tryz.func111 rfl (fun _ _=>Tryz.call111 _ _) (by simp) (fun HO=>?_);apply aw_reg;intro K h;simp(disch:=omega);apply h;clear h K;refine aw_draw [] [] [] drawMixed (by kernel_rfl) (by kernel_rfl) fun K hK=>?_;simp(disch:=omega) ;refine dcall_is (c1 _ _) rfl ?_;simp(disch:=omega) ;refine dcall_is (c2 _ _) rfl ?_;simp(disch:=omega) ;refine dcall_is (c4 _ _ _) rfl ?_;simp(disch:=omega) ;apply hK;clear hK K;apply aw_ret;simp(disch:=omega) 
attribute [-simp] List.getD_eq_getElem?_getD in
theorem byID_ok:CmpD 123:=by
 intro x y H T;refine⟨cmpI x.id y.id,?_,cmpI_neg _ _⟩;refine ACall.drop' ?_ (by simp);have c1:=fun H T=>compI_ok x.id y.id H T;generalize cmpI x.id y.id=a at *;refine acall_enter 5 [] Tryz.ntmps123 Tryz.func123 rfl (fun _ _=>Tryz.call123 _ _) (by simp) (fun HO=>?_);apply aw_reg;intro K h;simp(disch:=omega);apply h;clear h K;refine aw_reg fun K hK=>?_;simp(disch:=omega) ;refine acall_is (c1 _ _) ?_;simp(disch:=omega) ;apply hK;clear hK K;apply aw_ret;simp(disch:=omega) 
attribute [-simp] List.getD_eq_getElem?_getD in
theorem byPos_ok (x y:Int)(u v:AV)(H:List Blk)(T:Toks):ACall Tryz.prog 154 [.agg [u,.int .i64 x],.agg [v,.int .i64 y]] H T (Is (.int .i64 (cmpI x y)) H T):=by
 refine ACall.drop' ?_ (by simp);have c1:=fun H T=>compI_ok x y H T;generalize cmpI x y=a at *;refine acall_enter 5 [] Tryz.ntmps154 Tryz.func154 rfl (fun _ _=>Tryz.call154 _ _) (by simp) (fun HO=>?_);apply aw_reg;intro K h;simp(disch:=omega);apply h;clear h K;refine aw_reg fun K hK=>?_;simp(disch:=omega) ;refine acall_is (c1 _ _) ?_;simp(disch:=omega) ;apply hK;clear hK K;apply aw_ret;simp(disch:=omega) 
end Go.Proofs.YtoejlmpbebjemaaGreat
namespace Seg
open Sug Go.Am
def lastW (ws:List Wd)(k:Nat):Int:=if k=0 then -1 else (ws.getD (k-1) w0).2
def okWd (ws:List Wd)(k:Nat):Bool:=okW (ws.getD k w0).1&&(decide (lastW ws k<(ws.getD k w0).2)&&decide ((ws.getD k w0).2≤1000000))
def okWs (ws:List Wd):Bool:=(List.range ws.length).all (okWd ws)
def lastZ (zs:List Zn)(i:Nat):Int:=if i=0 then 0 else (zs.getD (i-1) z0).f
def okZn (zs:List Zn)(i:Nat):Bool:=(decide (lastZ zs i<(zs.getD i z0).f)&&decide ((zs.getD i z0).f≤4))&&(decide ((zs.getD i z0).ws.length≠0)&&okWs (zs.getD i z0).ws)
def okZs (zs:List Zn):Bool:=(List.range zs.length).all (okZn zs)
def okNv (x:Nm):Bool:=decide (5≤x.1∧x.1≤7)&&decide (0≤x.2∧x.2≤1000000000000)
def okNm (ns:List Nm)(i:Nat):Bool:=okNv (ns.getD i n0)&&(decide (i=0)||nmlt (ns.getD (i-1) n0) (ns.getD i n0))
def okNs (ns:List Nm):Bool:=(List.range ns.length).all (okNm ns)
def validD (d:Dc):Bool:=decide (1≤d.id∧d.id≤1000000000)&&(okZs d.zs&&okNs d.ns)
structure SzD (d:Dc):Prop where
 z:d.zs.length≤Go.maxLen
 w:∀z∈d.zs,z.ws.length≤Go.maxLen∧∀w∈z.ws,w.1.length≤Go.maxLen
 n:d.ns.length≤Go.maxLen
theorem all_bad {n:Nat}{p:Nat→Bool}{k:Nat}(hk:k<n)(h:p k=false):(List.range n).all p=false:=by
 rw[List.all_eq_false];exact⟨k,List.mem_range.2 hk,by simp[h]⟩
theorem all_good {n:Nat}{p:Nat→Bool}(h:∀j,j<n→p j=true):(List.range n).all p=true:=by
 rw[List.all_eq_true];intro j hj;exact h j (List.mem_range.1 hj)
theorem all_at {n:Nat}{p:Nat→Bool}(h:(List.range n).all p=true){j:Nat}(hj:j<n):p j=true:=by
 rw[List.all_eq_true] at h;exact h j (List.mem_range.2 hj)
theorem validD_id {d:Dc}(h:¬(1≤d.id∧d.id≤1000000000)):validD d=false:=by
 unfold validD;rw[decide_eq_false h];rfl
theorem validD_z {d:Dc}{i:Nat}(hi:i<d.zs.length)(h:okZn d.zs i=false):validD d=false:=by
 unfold validD okZs;rw[all_bad hi h];simp
theorem validD_n {d:Dc}{i:Nat}(hi:i<d.ns.length)(h:okNm d.ns i=false):validD d=false:=by
 unfold validD okNs;rw[all_bad hi h];simp
theorem validD_good {d:Dc}(h1:1≤d.id∧d.id≤1000000000)(h2:∀i,i<d.zs.length→okZn d.zs i=true)(h3:∀i,i<d.ns.length→okNm d.ns i=true):validD d=true:=by
 unfold validD okZs okNs;rw[decide_eq_true h1,all_good h2,all_good h3];rfl
theorem okZn_bad {zs:List Zn}{i:Nat}(h:¬(lastZ zs i<(zs.getD i z0).f∧(zs.getD i z0).f≤4∧(zs.getD i z0).ws.length≠0)):okZn zs i=false:=by
 cases hk:okZn zs i with
 |false=>rfl
 |true=>
  unfold okZn at hk;simp only[Bool.and_eq_true,decide_eq_true_eq] at hk;exact absurd ⟨hk.1.1,hk.1.2,hk.2.1⟩ h
theorem okZn_w {zs:List Zn}{i k:Nat}(hk:k<(zs.getD i z0).ws.length)(h:okWd (zs.getD i z0).ws k=false):okZn zs i=false:=by
 unfold okZn okWs;rw[all_bad hk h];simp
theorem okZn_good {zs:List Zn}{i:Nat}(h1:lastZ zs i<(zs.getD i z0).f)(h2:(zs.getD i z0).f≤4)(h3:(zs.getD i z0).ws.length≠0)(h:∀k,k<(zs.getD i z0).ws.length→okWd (zs.getD i z0).ws k=true):okZn zs i=true:=by
 unfold okZn okWs;rw[all_good h,decide_eq_true h1,decide_eq_true h2,decide_eq_true h3];rfl
end Seg
namespace Go.Proofs.YtoejlmpbebjemaaGreat
open Go Go.Am Sug Seg
attribute [-simp] List.getD_eq_getElem?_getD in
theorem extV_ok (d:Dc)(hs:SzD d)(H:List Blk)(T:Toks):ACall Tryz.prog 66 [.agg (dcC d)] H T (Is (.bool (validD d)) H T):=by
 refine ACall.drop' ?_ (by simp);have hml:maxLen≤9223372036854775807:=by decide
 obtain⟨id,zs,ns⟩:=d;obtain⟨hz,hw,hn⟩:=hs;simp only at hz hw hn ⊢;have hz':=Nat.le_trans hz hml;have hn':=Nat.le_trans hn hml;generalize hq:validD ⟨id,zs,ns⟩=q;refine acall_enter 73 [] Tryz.ntmps66 Tryz.func66 rfl (fun _ _=>Tryz.call66 _ _) (by simp) (fun HO=>?_);apply aw_reg;intro K h;simp(disch:=omega);apply h;clear h K;refine aw_then fun K1 hK1=>?_;have HO1:HOk (H++[.cells (dcC ⟨id,zs,ns⟩)]) T:=HO.snoc (by simp)
 by_cases h1:id<1
 ·have b1:decide (id<1)=true:=decide_eq_true h1;refine aw_reg fun K hK=>?_;simp(disch:=omega)[b1,h1];apply hK;clear hK K;apply aw_ift rfl;apply aw_reg;intro K h;simp(disch:=omega);apply h;clear h K;apply aw_ret;simp(disch:=omega) ;rw[←hq,validD_id (by simp only;omega)]
 have b1:decide (id<1)=false:=decide_eq_false h1
 by_cases h2:1000000000<id
 ·have b2:decide (1000000000<id)=true:=decide_eq_true h2;refine aw_reg fun K hK=>?_;simp(disch:=omega)[b1,h1,b2,h2];apply hK;clear hK K;apply aw_ift rfl;apply aw_reg;intro K h;simp(disch:=omega);apply h;clear h K;apply aw_ret;simp(disch:=omega) ;rw[←hq,validD_id (by simp only;omega)]
 have b2:decide (1000000000<id)=false:=decide_eq_false h2;refine aw_reg fun K hK=>?_;simp(disch:=omega)[b1,h1,b2,h2];apply hK;clear hK K;apply aw_iff rfl;apply aw_skip;simp(disch:=omega) ;apply hK1;clear hK1;apply aw_reg;intro K h;simp(disch:=omega);apply h;clear h K;refine aw_then fun K1 hK1=>?_;apply aw_reg;intro K h;simp(disch:=omega);apply h;clear h K;apply aw_block;refine aw_loop (X:=Nat) (fun i=>⟨[(1,.ptr H.length 0),(3,.int .i64 (lastZ zs i)),(20,.sl zs.length (znAV zs) .none),(21,.int .i64 (zs.length:Nat)),(22,.int .i64 (i:Nat))],H++[.cells (dcC ⟨id,zs,ns⟩)],T⟩)
  (fun i=>i≤zs.length∧∀j,j<i→okZn zs j=true) (fun i=>zs.length-i) 0 ?_ ?_ ?_
 ·exact⟨Nat.zero_le _,fun j hj=>absurd hj (Nat.not_lt_zero _)⟩
 ·refine weak_to [] [] ?_ ?_ ?_ ?_ HO1 ?_
  all_goals simp[lastZ]
 ·rintro i ⟨g1,g2⟩;apply aw_reg;intro K h;simp(disch:=omega);apply h;clear h K;refine aw_then fun K2 hK2=>?_;refine aw_if rfl (fun hk=>?_) (fun hk=>?_)
  ·simp  at hk;have hcut:=znAV_cut zs i hk;obtain⟨hw1,hw2⟩:=hw _ (getD_mem zs i z0 hk);have hl0:lastZ zs (i+1)=(zs.getD i z0).f:=by simp[lastZ]
   have ebad:=okZn_bad (zs:=zs) (i:=i);have ewd:=fun k=>okZn_w (zs:=zs) (i:=i) (k:=k);have egood:=okZn_good (zs:=zs) (i:=i);generalize hzz:zs.getD i z0=z at *;obtain⟨f,ws⟩:=z;simp only at hcut hw1 hw2 hl0 ebad ewd egood;have hw':=Nat.le_trans hw1 hml;generalize hl:lastZ zs i=la at *;apply aw_skip;simp(disch:=omega) ;apply hK2;clear hK2;refine aw_then fun K3 hK3=>?_;apply aw_block;refine aw_reg fun K hK=>?_;simp(disch:=omega)[hcut,znAV_len];apply hK;clear hK K;refine aw_then fun K4 hK4=>?_;have HO2:HOk (H++[.cells (dcC ⟨id,zs,ns⟩),.cells (znC ⟨f,ws⟩)]) T:=by
    have:=HOk.snoc (vs:=znC ⟨f,ws⟩) HO1 (by simp);simpa using this
   by_cases h3:f≤la
   ·have b3:decide (f≤la)=true:=decide_eq_true h3;refine aw_reg fun K hK=>?_;simp(disch:=omega)[b3,h3];apply hK;clear hK K;apply aw_ift rfl;apply aw_reg;intro K h;simp(disch:=omega);apply h;clear h K;apply aw_ret;simp(disch:=omega) ;rw[←hq,validD_z hk (ebad (by omega))]
   have b3:decide (f≤la)=false:=decide_eq_false h3
   by_cases h4:4<f
   ·have b4:decide (4<f)=true:=decide_eq_true h4;refine aw_reg fun K hK=>?_;simp(disch:=omega)[b3,h3,b4,h4];apply hK;clear hK K;apply aw_ift rfl;apply aw_reg;intro K h;simp(disch:=omega);apply h;clear h K;apply aw_ret;simp(disch:=omega) ;rw[←hq,validD_z hk (ebad (by omega))]
   have b4:decide (4<f)=false:=decide_eq_false h4
   by_cases h5:ws.length=0
   ·have e5:ws=[]:=List.length_eq_zero_iff.1 h5;refine aw_reg fun K hK=>?_;simp(disch:=omega)[b3,h3,b4,h4,e5];apply hK;clear hK K;apply aw_ift rfl;apply aw_reg;intro K h;simp(disch:=omega);apply h;clear h K;apply aw_ret;simp(disch:=omega) ;rw[←hq,validD_z hk (ebad (by omega))]
   have e5:((ws.length:Int)==0)=false:=beq_eq_false_iff_ne.2 (by omega);have n5:ws≠[]:=fun e=>h5 (by rw[e];rfl);refine aw_reg fun K hK=>?_;simp(disch:=omega)[b3,h3,b4,h4,e5,n5];apply hK;clear hK K;apply aw_iff rfl;apply aw_skip;simp(disch:=omega) ;apply hK4;clear hK4;apply aw_reg;intro K h;simp(disch:=omega);apply h;clear h K;apply aw_reg;intro K h;simp(disch:=omega);apply h;clear h K;apply aw_reg;intro K h;simp(disch:=omega);apply h;clear h K;apply aw_block;refine aw_loop (X:=Nat) (fun k=>⟨[(1,.ptr H.length 0),(3,.int .i64 f),(20,.sl zs.length (znAV zs) .none),(21,.int .i64 (zs.length:Nat)),(22,.int .i64 (i:Nat)),(6,.int .i64 (lastW ws k)),(44,.sl ws.length (wdAV ws) .none),(45,.int .i64 (ws.length:Nat)),(46,.int .i64 (k:Nat))],H++[.cells (dcC ⟨id,zs,ns⟩),.cells (znC ⟨f,ws⟩)],T⟩)
    (fun k=>k≤ws.length∧∀j,j<k→okWd ws j=true) (fun k=>ws.length-k) 0 ?_ ?_ ?_
   ·exact⟨Nat.zero_le _,fun j hj=>absurd hj (Nat.not_lt_zero _)⟩
   ·refine weak_to [] [] ?_ ?_ ?_ ?_ HO2 ?_
    all_goals simp[lastW]
   ·rintro k ⟨k1,k2⟩;apply aw_reg;intro K h;simp(disch:=omega);apply h;clear h K;refine aw_then fun K5 hK5=>?_;refine aw_if rfl (fun hk5=>?_) (fun hk5=>?_)
    ·simp  at hk5;have hcw:=wdAV_cut ws k hk5;have hwl:=hw2 _ (getD_mem ws k w0 hk5);have hl1:lastW ws (k+1)=(ws.getD k w0).2:=by simp[lastW]
     have eok:okWd ws k=(okW (ws.getD k w0).1&&(decide (lastW ws k<(ws.getD k w0).2)&&decide ((ws.getD k w0).2≤1000000))):=rfl;generalize hww:ws.getD k w0=x at *;obtain⟨s,p⟩:=x;simp only at hcw hwl hl1 eok;generalize hla:lastW ws k=lw at *;apply aw_skip;simp(disch:=omega) ;apply hK5;clear hK5;refine aw_then fun K6 hK6=>?_;apply aw_block;refine aw_reg fun K hK=>?_;simp(disch:=omega)[hcw,wdAV_len];apply hK;clear hK K;refine aw_then fun K7 hK7=>?_;have c:=wordP_ok s hwl (H++[.cells (dcC ⟨id,zs,ns⟩),.cells (znC ⟨f,ws⟩),.cells [.str s,.int .i64 p]]) T
     cases hok:okW s with
     |false=>
      rw[hok] at c eok;refine aw_reg fun K hK=>?_;simp(disch:=omega) ;refine acall_is (c) ?_;simp(disch:=omega) ;apply hK;clear hK K;apply aw_ift rfl;apply aw_reg;intro K h;simp(disch:=omega);apply h;clear h K;apply aw_ret;simp(disch:=omega) ;rw[←hq,validD_z hk (ewd k hk5 (by rw[eok];rfl))]
     |true=>
     rw[hok] at c eok
     by_cases h6:p≤lw
     ·have b6:decide (p≤lw)=true:=decide_eq_true h6;refine aw_reg fun K hK=>?_;simp(disch:=omega) ;refine acall_is (c) ?_;simp(disch:=omega)[b6,h6];apply hK;clear hK K;apply aw_ift rfl;apply aw_reg;intro K h;simp(disch:=omega);apply h;clear h K;apply aw_ret;simp(disch:=omega) ;rw[←hq,validD_z hk (ewd k hk5 (by rw[eok,decide_eq_false (by omega:¬lw<p)];rfl))]
     have b6:decide (p≤lw)=false:=decide_eq_false h6
     by_cases h7:1000000<p
     ·have b7:decide (1000000<p)=true:=decide_eq_true h7;refine aw_reg fun K hK=>?_;simp(disch:=omega) ;refine acall_is (c) ?_;simp(disch:=omega)[b6,h6,b7,h7];apply hK;clear hK K;apply aw_ift rfl;apply aw_reg;intro K h;simp(disch:=omega);apply h;clear h K;apply aw_ret;simp(disch:=omega) ;rw[←hq,validD_z hk (ewd k hk5 (by rw[eok,decide_eq_false (by omega:¬p≤1000000)];simp))]
     have b7:decide (1000000<p)=false:=decide_eq_false h7;refine aw_reg fun K hK=>?_;simp(disch:=omega) ;refine acall_is (c) ?_;simp(disch:=omega)[b6,h6,b7,h7];apply hK;clear hK K;apply aw_iff rfl;apply aw_skip;simp(disch:=omega) ;apply hK7;clear hK7;refine aw_reg0 fun K hK=>?_;simp(disch:=omega) ;apply hK;clear hK K;apply hK6;clear hK6;refine aw_reg0 fun K hK=>?_;simp(disch:=omega) ;apply hK;clear hK K;refine⟨k+1,⟨by show k+1≤_;omega,fun j hj=>?_⟩,by show ws.length-(k+1)<ws.length-k;omega,?_⟩
     ·rcases Nat.lt_or_ge j k with h|h
      ·exact k2 j h
      ·have:j=k:=by omega
       subst this;rw[eok,decide_eq_true (by omega:lw<p),decide_eq_true (by omega:p≤1000000)];rfl
     ·refine weak_to [.cells [.str s,.int .i64 p]] [] ?_ ?_ ?_ ?_ HO2 ?_
      all_goals simp[hl1]
    ·simp  at hk5;apply aw_exit;simp(disch:=omega) ;apply hK3;clear hK3;refine aw_reg0 fun K hK=>?_;simp(disch:=omega) ;apply hK;clear hK K;refine⟨i+1,⟨by show i+1≤_;omega,fun j hj=>?_⟩,by show zs.length-(i+1)<zs.length-i;omega,?_⟩
     ·rcases Nat.lt_or_ge j i with h|h
      ·exact g2 j h
      ·have:j=i:=by omega
       subst this;exact egood (by omega) (by omega) h5 (fun k hk=>k2 k (by omega))
     ·refine weak_to [.cells (znC ⟨f,ws⟩)] [] ?_ ?_ ?_ ?_ HO1 ?_
      all_goals simp[hl0]
  ·simp  at hk;apply aw_exit;simp(disch:=omega) ;apply hK1;clear hK1;refine aw_then fun K1 hK1=>?_;apply aw_reg;intro K h;simp(disch:=omega);apply h;clear h K;apply aw_block;refine aw_loop (X:=Nat) (fun i=>⟨[(1,.ptr H.length 0),(70,.sl ns.length (nmAV ns) .none),(71,.int .i64 (ns.length:Nat)),(72,.int .i64 (i:Nat))],H++[.cells (dcC ⟨id,zs,ns⟩)],T⟩)
    (fun i=>i≤ns.length∧∀j,j<i→okNm ns j=true) (fun i=>ns.length-i) 0 ?_ ?_ ?_
   ·exact⟨Nat.zero_le _,fun j hj=>absurd hj (Nat.not_lt_zero _)⟩
   ·refine weak_to [] [] ?_ ?_ ?_ ?_ HO1 ?_
    all_goals simp
   ·rintro m ⟨m1,m2⟩;apply aw_reg;intro K h;simp(disch:=omega);apply h;clear h K;refine aw_then fun K2 hK2=>?_;refine aw_if rfl (fun hk2=>?_) (fun hk2=>?_)
    ·simp  at hk2;have hcn:=nmAV_cut ns m hk2;have eok:okNm ns m=(okNv (ns.getD m n0)&&(decide (m=0)||nmlt (ns.getD (m-1) n0) (ns.getD m n0))):=rfl;have cn:=fun H T=>order_ok (ns.getD (m-1) n0) (ns.getD m n0) H T;have hge:=cmpN_ge (ns.getD (m-1) n0) (ns.getD m n0);generalize cmpN (ns.getD (m-1) n0) (ns.getD m n0)=cq at *;have hcp:=fun h=>nmAV_cut ns (m-1) h;generalize ns.getD (m-1) n0=y at *;generalize hnn:ns.getD m n0=x at *;obtain⟨x1,x2⟩:=x;obtain⟨y1,y2⟩:=y;simp only at hcn hcp;apply aw_skip;simp(disch:=omega) ;apply hK2;clear hK2;refine aw_then fun K3 hK3=>?_;apply aw_block;refine aw_reg fun K hK=>?_;simp(disch:=omega)[hcn,nmAV_len];apply hK;clear hK K;refine aw_draw [] [] [] drawMixed (by kernel_rfl) (by kernel_rfl) fun K hK=>?_;have key:∀e b,b=okNm ns m→envLe H.length.succ T.length e [(1,.ptr H.length 0),(70,.sl ns.length (nmAV ns) .none),(71,.int .i64 (ns.length:Nat)),(72,.int .i64 (m:Nat)),(109,.bool (!b))]→K ⟨e,H++[.cells (dcC ⟨id,zs,ns⟩),.cells [.int .i64 x1,.int .i64 x2]],T⟩:=by
      intro e b hb he;refine hK _ (aw_weak ⟨[(1,.ptr H.length 0),(70,.sl ns.length (nmAV ns) .none),(71,.int .i64 (ns.length:Nat)),(72,.int .i64 (m:Nat)),(109,.bool (!b))],H++[.cells (dcC ⟨id,zs,ns⟩)],T⟩ (weak_to [.cells [.int .i64 x1,.int .i64 x2]] [] (by simp) (by simp) (by simp) (by simp) HO1 (by simpa using he)) ?_)
      cases b with
      |false=>
       apply aw_ift rfl;apply aw_reg;intro K h;simp(disch:=omega);apply h;clear h K;apply aw_ret;simp(disch:=omega) ;rw[←hq,validD_n hk2 hb.symm]
      |true=>
       apply aw_iff rfl;apply aw_skip;simp(disch:=omega) ;apply hK3;clear hK3;refine aw_reg0 fun K hK=>?_;simp(disch:=omega) ;apply hK;clear hK K;refine⟨m+1,⟨by show m+1≤_;omega,fun j hj=>?_⟩,by show ns.length-(m+1)<ns.length-m;omega,?_⟩
       ·rcases Nat.lt_or_ge j m with h|h
        ·exact m2 j h
        ·have:j=m:=by omega
         subst this;exact hb.symm
       ·refine weak_to [] [] ?_ ?_ ?_ ?_ HO1 ?_
        all_goals simp
     clear hK;have c:=cn (H++[.cells (dcC ⟨id,zs,ns⟩),.cells [.int .i64 x1,.int .i64 x2]]) T;have ebv:¬((5≤x1∧x1≤7)∧0≤x2∧x2≤1000000000000)→okNm ns m=false:=fun h=>by
      have:okNv (x1,x2)=false:=by
       unfold okNv;simp only[Bool.and_eq_false_iff,decide_eq_false_iff_not];rcases Classical.em (5≤x1∧x1≤7) with h'|h'
       ·exact .inr fun h2=>h ⟨h',h2⟩
       ·exact .inl h'
      rw[eok,this];rfl
     by_cases v1:x1<5
     ·have w1:decide (x1<5)=true:=decide_eq_true v1;simp(disch:=omega)[w1,v1];refine key _ false (ebv (by omega)).symm (by simp)
     have w1:decide (x1<5)=false:=decide_eq_false v1
     by_cases v2:7<x1
     ·have w2:decide (7<x1)=true:=decide_eq_true v2;simp(disch:=omega)[w1,v1,w2,v2];refine key _ false (ebv (by omega)).symm (by simp)
     have w2:decide (7<x1)=false:=decide_eq_false v2
     by_cases v3:x2<0
     ·have w3:decide (x2<0)=true:=decide_eq_true v3;simp(disch:=omega)[w1,v1,w2,v2,w3,v3];refine key _ false (ebv (by omega)).symm (by simp)
     have w3:decide (x2<0)=false:=decide_eq_false v3
     by_cases v4:1000000000000<x2
     ·have w4:decide (1000000000000<x2)=true:=decide_eq_true v4;simp(disch:=omega)[w1,v1,w2,v2,w3,v3,w4,v4];refine key _ false (ebv (by omega)).symm (by simp)
     have w4:decide (1000000000000<x2)=false:=decide_eq_false v4;have eo:okNv (x1,x2)=true:=by
      unfold okNv;rw[decide_eq_true (by omega:5≤x1∧x1≤7),decide_eq_true (by omega:0≤x2∧x2≤1000000000000)];rfl
     rw[eo,Bool.true_and] at eok;rcases Nat.eq_zero_or_pos m with h5|h5
     ·subst h5;simp(disch:=omega)[w1,v1,w2,v2,w3,v3,w4,v4];refine key _ true (by rw[eok];rfl) (by simp)
     ·have e6:((m:Int)-1)=((m-1:Nat):Int):=by omega
      have b5:decide ((0:Int)<(m:Int))=true:=decide_eq_true (by omega);have hcp':=hcp (by omega);rw[decide_eq_false (by omega:¬m=0),Bool.false_or] at eok
      cases hlt:nmlt (y1,y2) (x1,x2) with
      |false=>
       have b7:decide (0≤cq)=true:=decide_eq_true (hge.2 hlt);have n7:=hge.2 hlt;rw[hlt] at eok;simp(disch:=omega)[w1,v1,w2,v2,w3,v3,w4,v4,b5,h5,e6,hcp',nmAV_len];refine dcall_is (c) rfl ?_;simp(disch:=omega)[b7,n7];refine key _ false eok.symm (by simp)
      |true=>
       have n7:¬0≤cq:=fun e=>by rw[hge.1 e] at hlt;cases hlt
       have b7:decide (0≤cq)=false:=decide_eq_false n7;rw[hlt] at eok;simp(disch:=omega)[w1,v1,w2,v2,w3,v3,w4,v4,b5,h5,e6,hcp',nmAV_len];refine dcall_is (c) rfl ?_;simp(disch:=omega)[b7,n7];refine key _ true eok.symm (by simp)
    ·simp  at hk2;apply aw_exit;simp(disch:=omega) ;apply hK1;clear hK1;apply aw_reg;intro K h;simp(disch:=omega);apply h;clear h K;apply aw_ret;simp(disch:=omega) ;rw[←hq,validD_good (by simp only;omega) (fun i hi=>g2 i (by simp only at hi;omega)) (fun i hi=>m2 i (by simp only at hi;omega))]
end Go.Proofs.YtoejlmpbebjemaaGreat
namespace Seg
open Sst
structure InOrd (l l':List Dc):Prop where
 perm:l'.Perm l
 ord:l'.Pairwise fun x y=>x.id≤y.id
theorem InOrd.len {l l':List Dc}(h:InOrd l l'):l'.length=l.length:=h.perm.length_eq
theorem InOrd.nil:InOrd [] []:=⟨.refl _,.nil⟩
def idx (l:List Dc):List GE:=(List.range l.length).map fun i=>(i,l.getD i d0)
theorem idx_len (l:List Dc):(idx l).length=l.length:=by simp[idx]
theorem idx_get (l:List Dc){i:Nat}(hi:i<l.length):(idx l).getD i ze=(i,l.getD i d0):=by
 rw[List.getD_eq_getElem?_getD,List.getElem?_eq_getElem (by rw[idx_len];exact hi)];simp[idx]
theorem idx_map (l:List Dc):(idx l).map (·.2)=l:=by
 apply List.ext_getElem
 ·simp[idx]
 ·intro i h1 h2;simp only[idx,List.getElem_map,List.getElem_range];rw[List.getD_eq_getElem?_getD,List.getElem?_eq_getElem h2];rfl
end Seg
namespace Go.Proofs.YtoejlmpbebjemaaGreat
open Go Go.Am Sug Seg Sst
theorem stableD_ok {g:Nat}(hg:CmpD g)(l:List Dc)(rest:List AV)(i:Nat)(hl:l.length≤40)(H:List Blk)(T:Toks)(hi:H[i]?=some (.cells (dcAV l++rest)))(hr:BelowAll H.length T.length rest) :
  ACall Tryz.prog 91 [.msl i 0 l.length,.fn g [] []] H T (fun r H' T'=>r=.tup []∧T'=T∧∃l',H'=H.set i (.cells (dcAV l'++rest))∧InOrd l l'):=by
 have hm:geAV (idx l)=dcAV l:=by rw[geAV_map,idx_map]
 have hw:Wg (idx l) 0 (idx l).length:=fun p q _ h2 h3=>by
  rw[idx_len] at h3;rw[idx_get l (by omega),idx_get l h3];exact decide_eq_true h2
 have c:=stable_ok hg (idx l).length (by rw[idx_len];exact hl) (idx l) rest i rfl hw H T (by rw[hm];exact hi) hr;rw[idx_len] at c;refine acall_enter 3 [] Tryz.ntmps91 Tryz.func91 rfl (fun _ _=>Tryz.call91 _ _) (by simp) (fun HO=>?_);refine aw_reg0 fun K hK=>?_;simp(disch:=omega)[-List.getD_eq_getElem?_getD];refine⟨_,c,?_⟩;rintro v H' T' ⟨rfl,rfl,d',rfl,k1,k2⟩;simp(disch:=omega)[-List.getD_eq_getElem?_getD];apply hK;clear hK K;refine⟨rfl,rfl,d'.map (·.2),by rw[geAV_map],?_,?_⟩
 ·have:=k1.perm.map (·.2)
  rwa [idx_map] at this
 ·rw[List.pairwise_map,List.pairwise_iff_getElem];intro a b ha hb hab;have hlen:=k1.len;rw[idx_len] at hlen;have:=fb_ge (k2 a b (Nat.zero_le _) hab (by omega));rw[List.getD_eq_getElem?_getD,List.getD_eq_getElem?_getD,List.getElem?_eq_getElem ha,List.getElem?_eq_getElem hb] at this;simp only[Option.getD_some,ky] at this;omega
attribute [-simp] List.getD_eq_getElem?_getD in
theorem stableD0_ok (g:Nat)(H:List Blk)(T:Toks)(tg:Tag) :
  ACall Tryz.prog 91 [.sl 0 [] tg,.fn g [] []] H T (Is (.tup []) H T):=by
 refine ACall.untag1 ?_;have c1:ACall Tryz.prog 185 [.sl 0 [] .none,.int .i64 0,.int .i64 0,.fn g [] []] H T (Is (.tup []) H T):=by
  refine acall_enter 10 [] Tryz.ntmps185 Tryz.func185 rfl (fun _ _=>Tryz.call185 _ _) (by simp) (fun HO=>?_);apply aw_reg;intro K h;simp(disch:=omega);apply h;clear h K;apply aw_block;refine aw_loop (X:=Unit) (fun _=>⟨[(2,.int .i64 0),(8,.int .i64 1)],H,T⟩) (fun _=>True) (fun _=>0) () trivial ?_ ?_
  ·refine weak_to [] [] ?_ ?_ ?_ ?_ HO ?_
   all_goals simp
  ·rintro _ _;refine aw_then fun K2 hK2=>?_;apply aw_reg;intro K h;simp(disch:=omega);apply h;clear h K;apply aw_iff rfl;apply aw_exit;simp(disch:=omega) ;exact⟨rfl,rfl,rfl⟩
 have c:ACall Tryz.prog 156 [.sl 0 [] .none,.int .i64 0,.fn g [] []] H T (Is (.tup []) H T):=by
  refine acall_enter 10 [] Tryz.ntmps156 Tryz.func156 rfl (fun _ _=>Tryz.call156 _ _) (by simp) (fun HO=>?_);apply aw_reg;intro K h;simp(disch:=omega);apply h;clear h K;apply aw_reg;intro K h;simp(disch:=omega);apply h;clear h K;refine aw_then fun K1 hK1=>?_;apply aw_block;refine aw_loop (X:=Unit) (fun _=>⟨[(0,.sl 0 [] .none),(1,.int .i64 0),(2,.fn g [] []),(6,.int .i64 20),(7,.int .i64 0),(8,.int .i64 20)],H,T⟩) (fun _=>True) (fun _=>0) () trivial ?_ ?_
  ·refine weak_to [] [] ?_ ?_ ?_ ?_ HO ?_
   all_goals simp
  ·rintro _ _;refine aw_then fun K2 hK2=>?_;apply aw_reg;intro K h;simp(disch:=omega);apply h;clear h K;apply aw_iff rfl;apply aw_exit;simp(disch:=omega) ;apply hK1;clear hK1;refine aw_reg fun K hK=>?_;simp(disch:=omega) ;refine acall_is (c1) ?_;simp(disch:=omega) ;apply hK;clear hK K;apply aw_block;refine aw_loop (X:=Unit) (fun _=>⟨[(1,.int .i64 0),(6,.int .i64 20)],H,T⟩) (fun _=>True) (fun _=>0) () trivial ?_ ?_
   ·refine weak_to [] [] ?_ ?_ ?_ ?_ HO ?_
    all_goals simp
   ·rintro _ _;refine aw_then fun K3 hK3=>?_;apply aw_reg;intro K h;simp(disch:=omega);apply h;clear h K;apply aw_iff rfl;apply aw_exit;simp(disch:=omega) ;exact⟨rfl,rfl,rfl⟩
 refine acall_enter 3 [] Tryz.ntmps91 Tryz.func91 rfl (fun _ _=>Tryz.call91 _ _) (by simp) (fun HO=>?_);refine aw_reg0 fun K hK=>?_;simp(disch:=omega) ;refine acall_is (c) ?_;simp(disch:=omega) ;apply hK;clear hK K;exact⟨rfl,rfl,rfl⟩
attribute [-simp] List.getD_eq_getElem?_getD in
theorem cloneD_ok (l:List Dc)(h0:l≠[])(hl:l.length≤1000)(H:List Blk)(T:Toks)(tg:Tag) :
  ACall Tryz.prog 122 [.sl l.length (dcAV l) tg] H T (fun r H' T'=>T'=T∧∃k,H'=H++[.cells (dcAV l++List.replicate k .top)]∧r=.msl H.length 0 l.length):=by
 refine ACall.untag1 ?_;have hpos:0<l.length:=List.length_pos_iff.2 h0;have hne:¬l=[]:=h0;have hlen:=dcAV_len l;have hd:¬dcAV l=[]:=fun e=>by rw[e] at hlen;simp at hlen;omega
 refine acall_enter 3 [7] Tryz.ntmps122 Tryz.func122 rfl (fun _ _=>Tryz.call122 _ _) (by simp) (fun HO=>?_);apply aw_reg;intro K h;simp(disch:=omega);apply h;clear h K;refine aw_then fun K1 hK1=>?_;refine aw_reg fun K hK=>?_;simp(disch:=omega) ;refine⟨?_,fun he=>absurd he (by first|exact hne|exact hd)⟩;apply hK;clear hK K;apply aw_iff rfl;apply aw_skip;simp(disch:=omega) ;apply hK1;clear hK1;refine aw_reg fun K hK=>?_;simp(disch:=omega)[amade_zero,dcAV_len,hpos];intro k;apply hK;clear hK K;apply aw_ret;simp(disch:=omega) 
attribute [-simp] List.getD_eq_getElem?_getD in
theorem cloneD0_ok (H:List Blk)(T:Toks)(tg:Tag) :
  ACall Tryz.prog 122 [.sl 0 [] tg] H T (Is (.sl 0 [] .none) H T):=by
 refine ACall.untag1 ?_;refine ACall.drop' ?_ (by simp);refine acall_enter 3 [] Tryz.ntmps122 Tryz.func122 rfl (fun _ _=>Tryz.call122 _ _) (by simp) (fun HO=>?_);apply aw_reg;intro K h;simp(disch:=omega);apply h;clear h K;refine aw_then fun K1 hK1=>?_;refine aw_reg fun K hK=>?_;simp(disch:=omega) 
 constructor
 ·apply hK;clear hK K;apply aw_iff rfl;apply aw_skip;simp(disch:=omega) ;apply hK1;clear hK1;refine aw_reg fun K hK=>?_;simp(disch:=omega)[amade_zero];apply hK;clear hK K;apply aw_ret;simp(disch:=omega) 
 ·apply hK;clear hK K;apply aw_ift rfl;apply aw_reg;intro K h;simp(disch:=omega);apply h;clear h K;apply aw_ret;simp(disch:=omega) 
attribute [-simp] List.getD_eq_getElem?_getD in
theorem badD_ok (d:Dc)(hs:SzD d)(H:List Blk)(T:Toks):ACall Tryz.prog 126 [.agg (dcC d)] H T (Is (.bool (!validD d)) H T):=by
 refine ACall.drop' ?_ (by simp);have c:=fun H T=>extV_ok d hs H T;generalize validD d=q at *;refine acall_enter 3 [] Tryz.ntmps126 Tryz.func126 rfl (fun _ _=>Tryz.call126 _ _) (by simp) (fun HO=>?_);apply aw_reg;intro K h;simp(disch:=omega);apply h;clear h K;refine aw_reg fun K hK=>?_;simp(disch:=omega) ;refine acall_is (c _ _) ?_;simp(disch:=omega) ;apply hK;clear hK K;apply aw_ret;simp(disch:=omega) 
attribute [-simp] List.getD_eq_getElem?_getD in
theorem indexD_ok (l:List Dc)(hl:l.length≤maxLen)(hs:∀d∈l,SzD d)(H:List Blk)(T:Toks) :
  ACall Tryz.prog 175 [.sl l.length (dcAV l) .none,.fn 126 [] []] H T (fun r H' T'=>H'=H∧T'=T∧∃v:Int,r=.int .i64 v∧decide (0≤v)=l.any (fun d=>!validD d)):=by
 have hml:maxLen≤9223372036854775807:=by decide
 have hl':=Nat.le_trans hl hml;generalize hq:l.any (fun d=>!validD d)=q;refine acall_enter 9 [] Tryz.ntmps175 Tryz.func175 rfl (fun _ _=>Tryz.call175 _ _) (by simp) (fun HO=>?_);apply aw_reg;intro K h;simp(disch:=omega);apply h;clear h K;refine aw_then fun K1 hK1=>?_;apply aw_reg;intro K h;simp(disch:=omega);apply h;clear h K;apply aw_block;refine aw_loop (X:=Nat) (fun k=>⟨[(0,.sl l.length (dcAV l) .none),(1,.fn 126 [] []),(7,.int .i64 (l.length:Nat)),(8,.int .i64 (k:Nat))],H,T⟩) (fun k=>k≤l.length∧∀j,j<k→validD (l.getD j d0)=true) (fun k=>l.length-k) 0 ?_ ?_ ?_
 ·exact⟨Nat.zero_le _,fun j hj=>absurd hj (Nat.not_lt_zero _)⟩
 ·refine weak_to [] [] ?_ ?_ ?_ ?_ HO ?_
  all_goals simp
 ·rintro k ⟨h1,h2⟩;apply aw_reg;intro K h;simp(disch:=omega);apply h;clear h K;refine aw_then fun K2 hK2=>?_;refine aw_if rfl (fun hk=>?_) (fun hk=>?_)
  ·simp  at hk;have hcut:=dcAV_cut l k hk;have hm:=getD_mem l k d0 hk;have c:=badD_ok (l.getD k d0) (hs _ hm) H T;apply aw_skip;simp(disch:=omega) ;apply hK2;clear hK2;refine aw_then fun K3 hK3=>?_;apply aw_block;apply aw_reg;intro K h;simp(disch:=omega);apply h;clear h K
   cases hb:validD (l.getD k d0) with
   |false=>
    rw[hb] at c;refine aw_reg fun K hK=>?_;simp(disch:=omega)[hcut,dcAV_len];refine acall_is (c) ?_;simp(disch:=omega) ;apply hK;clear hK K;apply aw_ift rfl;apply aw_reg;intro K h;simp(disch:=omega);apply h;clear h K;apply aw_ret;simp(disch:=omega) ;have:l.any (fun d=>!validD d)=true:=List.any_eq_true.2 ⟨_,hm,by rw[hb];rfl⟩;rw[hq] at this;simp[this]
   |true=>
    rw[hb] at c;refine aw_reg fun K hK=>?_;simp(disch:=omega)[hcut,dcAV_len];refine acall_is (c) ?_;simp(disch:=omega) ;apply hK;clear hK K;apply aw_iff rfl;apply aw_skip;simp(disch:=omega) ;apply hK3;clear hK3;refine aw_reg0 fun K hK=>?_;simp(disch:=omega) ;apply hK;clear hK K;refine⟨k+1,⟨by show k+1≤_;omega,fun j hj=>?_⟩,by show l.length-(k+1)<l.length-k;omega,?_⟩
    ·rcases Nat.lt_or_ge j k with h3|h3
     ·exact h2 j h3
     ·have:j=k:=by omega
      subst this;exact hb
    ·refine weak_to [] [] ?_ ?_ ?_ ?_ HO ?_
     all_goals simp
  ·simp  at hk;have hn:l.any (fun d=>!validD d)=false:=by
    rw[List.any_eq_false];intro p hp';obtain⟨j,hj,e⟩:=mem_getD d0 hp';have:=h2 j (by omega);rw[e] at this;simp[this]
   apply aw_exit;simp(disch:=omega) ;apply hK1;clear hK1;apply aw_reg;intro K h;simp(disch:=omega);apply h;clear h K;apply aw_ret;simp(disch:=omega) ;rw[hq] at hn;simp[hn]
attribute [-simp] List.getD_eq_getElem?_getD in
theorem containsD_ok (l:List Dc)(hl:l.length≤maxLen)(hs:∀d∈l,SzD d)(H:List Blk)(T:Toks)(tg:Tag) :
  ACall Tryz.prog 125 [.sl l.length (dcAV l) tg,.fn 126 [] []] H T (Is (.bool (l.any (fun d=>!validD d))) H T):=by
 refine ACall.untag1 ?_;have c:=indexD_ok l hl hs H T;generalize l.any (fun d=>!validD d)=q at *;refine acall_enter 5 [] Tryz.ntmps125 Tryz.func125 rfl (fun _ _=>Tryz.call125 _ _) (by simp) (fun HO=>?_);apply aw_reg;intro K h;simp(disch:=omega);apply h;clear h K;refine aw_reg fun K hK=>?_;simp(disch:=omega) ;refine⟨_,c,?_⟩;rintro r H' T' ⟨rfl,rfl,v,rfl,hv⟩;simp(disch:=omega)[hv];apply hK;clear hK K;apply aw_ret;simp(disch:=omega) ;exact⟨rfl,rfl,rfl⟩
end Go.Proofs.YtoejlmpbebjemaaGreat
