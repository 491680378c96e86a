/- The reference's positions and columns (layer 39).
  Conditions: lengths below 400 or 1000, as each theorem says. -/
import Derived.Test.YtneohapkboaplaaGreatGTb
set_option linter.all false
set_option maxRecDepth 100000
namespace Seg
open Sug Go.Am
def posZ (ws:List Wd)(w:Bs):List Int:=(ws.filter fun x=>x.1==w).map (·.2)
theorem posZ_take (ws:List Wd)(w:Bs)(i:Nat)(h:i<ws.length):posZ (ws.take (i+1)) w=posZ (ws.take i) w++(if (ws.getD i w0).1=w then [(ws.getD i w0).2] else []):=by
 unfold posZ
 rw[take_getD ws i w0 h,List.filter_append,List.map_append]
 congr 1
 rw[List.filter_cons]
 by_cases h1:(ws.getD i w0).1=w
 ·rw[if_pos h1,if_pos (by simpa using h1)];rfl
 ·rw[if_neg h1,if_neg (by simpa using h1)];rfl
def its1 (f:Int)(d:Dc):List Nm:=(nmf d.ns f).map fun n=>(n,d.id)
theorem itsF_its1 (L:List Dc)(f:Int):itsF L f=L.flatMap (its1 f):=by
 unfold itsF its1 nmf
 congr 1
 funext d
 rw[List.map_map]
 exact List.map_congr_left fun x _=>rfl
end Seg
namespace Go.Proofs.YtneohapkboaplaaGreat
open Go Go.Am Sug Seg
attribute [-simp] List.getD_eq_getElem?_getD in
set_option maxHeartbeats 4000000 in
theorem positionsR_ok (d:Dc)(hs:SzD d)(hw6:∀z∈d.zs,z.ws.length≤1000000)(f:Int)(w:Bs)(H:List Blk)(T:Toks):ACall Tryz.prog 68 [.agg (dcC d),.int .i64 f,.str w] H T (Is (.sl (posZ (wzf d.zs f) w).length (ints (posZ (wzf d.zs f) w)) .none) H T):=by
 refine ACall.drop' ?_ (by simp)
 have c:=fun H T=>words37_ok d hs hw6 f H T
 have hwl:(wzf d.zs f).length≤1000000:=by
  have key:∀zs:List Zn,(∀z∈zs,z.ws.length≤1000000)→(wzf zs f).length≤1000000:=by
   intro zs
   induction zs with
   |nil=>intro _;simp[wzf]
   |cons z r ih=>
    intro h
    unfold wzf
    split
    ·exact h z (by simp)
    ·exact ih fun y hy=>h y (by simp[hy])
  exact key _ hw6
 generalize wzf d.zs f=ws at *
 refine acall_enter 10 [] Tryz.ntmps68 Tryz.func68 rfl (fun _ _=>Tryz.call68 _ _) (by simp) (fun HO=>?_)
 refine aw_reg fun K hK=>?_;simp(disch:=omega) ;refine hK _ ?_;clear hK K
 have HO1:HOk (H++[.cells (dcC d)]) T:=HO.snoc (by simp)
 refine aw_reg fun K hK=>?_;simp(disch:=omega) ;refine hK _ ?_;clear hK K
 refine aw_reg fun K hK=>?_;simp(disch:=omega) 
 refine acall_is (c _ _) ?_;simp(disch:=omega) 
 refine hK _ ?_;clear hK K
 refine aw_then fun K1 hK1=>?_
 refine aw_reg fun K hK=>?_;simp(disch:=omega) ;refine hK _ ?_;clear hK K
 refine aw_block ?_
 refine aw_own 7 0 1 [] (by omega) (by simp) ?_
 refine aw_loop (X:=Nat) (fun i=>⟨[(2,.str w),(7,.sl (posZ (ws.take i) w).length (ints (posZ (ws.take i) w)) (.own T.length)),(8,.sl ws.length (wdAV ws) .none),(9,.int .i64 (i:Nat))],H++[.cells (dcC d)],T++[((posZ (ws.take i) w).length,1)]⟩)
  (fun i=>i≤ws.length) (fun i=>ws.length-i) 0 ?_ ?_ ?_
 ·exact Nat.zero_le _
 ·refine weak_to [] [] ?_ ?_ ?_ ?_ (HO1.toks (by simp)) ?_
  all_goals simp[posZ]
 ·intro i g1
  refine aw_then fun K2 hK2=>?_
  refine aw_reg fun K hK=>?_;simp(disch:=omega) ;refine hK _ ?_;clear hK K
  refine aw_if rfl (fun hk=>?_) (fun hk=>?_)
  ·simp  at hk
   obtain⟨a1,a2⟩:=wdAV_at ws i hk
   have htk:=posZ_take ws w i hk
   have hll:(posZ (ws.take i) w).length≤1000000:=by
    unfold posZ
    rw[List.length_map]
    exact Nat.le_trans (List.length_filter_le _ _) (by rw[List.length_take];omega)
   generalize posZ (ws.take i) w=out at *
   generalize ws.getD i w0=x at *
   obtain⟨xt,xp⟩:=x
   simp only at a1 a2 htk
   refine aw_skip ?_;simp(disch:=omega) 
   refine hK2 _ ?_;clear hK2
   refine aw_then fun K3 hK3=>?_
   refine aw_block ?_
   by_cases h1:xt=w
   ·have b1:(xt==w)=true:=by simpa using h1
    rw[if_pos h1] at htk
    refine aw_reg fun K hK=>?_;simp(disch:=omega)[a1,a2,wdAV_len,hk,b1,h1];refine hK _ ?_;clear hK K
    refine aw_ift rfl ?_
    refine aw_reg0 fun K hK=>?_;simp(disch:=omega)[a1,a2,wdAV_len,hk,ints_snoc]
    refine hK _ ?_;clear hK K
    refine hK3 _ ?_;clear hK3
    refine aw_reg0 fun K hK=>?_;simp(disch:=omega) 
    refine hK _ ?_;clear hK K
    refine⟨i+1,by show i+1≤_;omega,by show ws.length-(i+1)<ws.length-i;omega,?_⟩
    refine weak_to [] [] ?_ ?_ ?_ ?_ (HO1.toks (by simp)) ?_
    all_goals simp[htk]
   ·have b1:(xt==w)=false:=by simpa using h1
    rw[if_neg h1,List.append_nil] at htk
    refine aw_reg fun K hK=>?_;simp(disch:=omega)[a1,a2,wdAV_len,hk,b1,h1];refine hK _ ?_;clear hK K
    refine aw_iff rfl ?_
    refine aw_skip ?_;simp(disch:=omega) 
    refine hK3 _ ?_;clear hK3
    refine aw_reg0 fun K hK=>?_;simp(disch:=omega) 
    refine hK _ ?_;clear hK K
    refine⟨i+1,by show i+1≤_;omega,by show ws.length-(i+1)<ws.length-i;omega,?_⟩
    refine weak_to [] [] ?_ ?_ ?_ ?_ (HO1.toks (by simp)) ?_
    all_goals simp[htk]
  ·simp  at hk
   have hie:i=ws.length:=by omega
   subst hie
   rw[List.take_length]
   refine aw_exit ?_;simp(disch:=omega) 
   refine hK1 _ ?_;clear hK1
   refine aw_reg fun K hK=>?_;simp(disch:=omega) ;refine hK _ ?_;clear hK K
   refine aw_ret ?_;simp(disch:=omega) 
attribute [-simp] List.getD_eq_getElem?_getD in
set_option maxHeartbeats 8000000 in
theorem columnR_ok (L:List Dc)(f:Int)(hL:L.length≤1000000)(hs:∀d∈L,SzD d)(hn:∀d∈L,d.ns.length≤1000000)(hi:(itsF L f).length≤1000000)(H:List Blk)(T:Toks)(tg:Tag):ACall Tryz.prog 69 [.sl L.length (dcAV L) tg,.int .i64 f] H T (Is (.sl (isortN (itsF L f)).length (nmAV (isortN (itsF L f))) .none) H T):=by
 refine ACall.untag1 ?_
 refine ACall.drop' ?_ (by simp)
 rw[itsF_its1] at *
 refine acall_enter 11 [] Tryz.ntmps69 Tryz.func69 rfl (fun _ _=>Tryz.call69 _ _) (by simp) (fun HO=>?_)
 refine aw_reg fun K hK=>?_;simp(disch:=omega) ;refine hK _ ?_;clear hK K
 refine aw_reg fun K hK=>?_;simp(disch:=omega) ;refine hK _ ?_;clear hK K
 refine aw_then fun K1 hK1=>?_
 refine aw_reg fun K hK=>?_;simp(disch:=omega) ;refine hK _ ?_;clear hK K
 refine aw_block ?_
 refine aw_loop (X:=Nat) (fun k=>⟨[(0,.sl L.length (dcAV L) .none),(1,.int .i64 f),(5,.sl (isortN ((L.take k).flatMap (its1 f))).length (nmAV (isortN ((L.take k).flatMap (its1 f)))) .none),(6,.int .i64 (k:Nat))],H,T⟩)
  (fun k=>k≤L.length) (fun k=>L.length-k) 0 ?_ ?_ ?_
 ·exact Nat.zero_le _
 ·refine weak_to [] [] ?_ ?_ ?_ ?_ HO ?_
  all_goals simp[isortN,nmAV_nil]
 ·intro k h1
  refine aw_then fun K2 hK2=>?_
  refine aw_reg fun K hK=>?_;simp(disch:=omega) ;refine hK _ ?_;clear hK K
  refine aw_if rfl (fun hk=>?_) (fun hk=>?_)
  ·simp  at hk
   have hat:=(dcAV_at L k hk).1
   have hcut:=dcAV_cut L k hk
   have hft:(L.take (k+1)).flatMap (its1 f)=(L.take k).flatMap (its1 f)++(nmf (L.getD k d0).ns f).map fun n=>(n,(L.getD k d0).id):=by rw[take_getD L k d0 hk,List.flatMap_append];simp[its1]
   have hdl:((L.take k).flatMap (its1 f)).length+(nmf (L.getD k d0).ns f).length≤1000000:=by
    have h3:L.flatMap (its1 f)=(L.take k).flatMap (its1 f)++(its1 f (L.getD k d0)++(L.drop (k+1)).flatMap (its1 f)):=by
     conv=>lhs;rw[←List.take_append_drop k L,getD_cons_drop L k d0 hk,List.flatMap_append,List.flatMap_cons]
    rw[h3,List.length_append,List.length_append] at hi
    have h4:(its1 f (L.getD k d0)).length=(nmf (L.getD k d0).ns f).length:=by simp[its1]
    omega
   have c0:=fun H T=>nums37_ok (L.getD k d0) (hs _ (getD_mem L k d0 hk)) (Nat.le_trans (hn _ (getD_mem L k d0 hk)) (by omega)) f H T
   generalize (L.take k).flatMap (its1 f)=pre at *
   generalize nmf (L.getD k d0).ns f=nl at *
   generalize L.getD k d0=x at *
   have hil:(nl.map fun n=>(n,x.id)).length=nl.length:=by simp
   have hig:∀m,m<nl.length→(nl.map fun n=>(n,x.id)).getD m n0=(nl.getD m 0,x.id):=fun m hm=>by
    rw[List.getD_eq_getElem?_getD,List.getElem?_map,List.getD_eq_getElem?_getD,List.getElem?_eq_getElem hm];rfl
   generalize nl.map (fun n=>(n,x.id))=il at *
   refine aw_skip ?_;simp(disch:=omega) 
   refine hK2 _ ?_;clear hK2
   refine aw_then fun K3 hK3=>?_
   refine aw_block ?_
   refine aw_reg fun K hK=>?_;simp(disch:=omega)[hcut,dcAV_len,hk]
   refine acall_is (c0 _ _) ?_;simp(disch:=omega) 
   refine hK _ ?_;clear hK K
   refine aw_reg fun K hK=>?_;simp(disch:=omega) ;refine hK _ ?_;clear hK K
   refine aw_block ?_
   refine aw_loop (X:=Nat) (fun m=>⟨[(0,.sl L.length (dcAV L) .none),(1,.int .i64 f),(5,.sl (isortN (pre++il.take m)).length (nmAV (isortN (pre++il.take m))) .none),(6,.int .i64 (k:Nat)),(7,.sl nl.length (ints nl) .none),(8,.int .i64 (m:Nat))],H,T⟩)
    (fun m=>m≤nl.length) (fun m=>nl.length-m) 0 ?_ ?_ ?_
   ·exact Nat.zero_le _
   ·refine weak_to [] [] ?_ ?_ ?_ ?_ HO ?_
    all_goals simp
   ·intro m hm1
    refine aw_then fun K4 hK4=>?_
    refine aw_reg fun K hK=>?_;simp(disch:=omega) ;refine hK _ ?_;clear hK K
    refine aw_if rfl (fun hm=>?_) (fun hm=>?_)
    ·simp  at hm
     have hnat:=getD_ints hm
     have hft2:pre++il.take (m+1)=(pre++il.take m)++[(nl.getD m 0,x.id)]:=by rw[take_getD il m n0 (by omega),hig m hm,List.append_assoc]
     have hdl':(isortN (pre++il.take m)).length≤1000000:=by rw[(isortN_perm _).length_eq,List.length_append,List.length_take];omega
     generalize pre++il.take m=pm at *
     have hft3:isortN (pre++il.take (m+1))=insN (nl.getD m 0,x.id) (isortN pm):=by rw[hft2];exact isortN_snoc _ _
     generalize isortN pm=d at *
     generalize nl.getD m 0=nv at *
     refine aw_skip ?_;simp(disch:=omega) 
     refine hK4 _ ?_;clear hK4
     refine aw_then fun K4 hK4=>?_
     refine aw_block ?_
     refine aw_draw [10,11] [0,0,0,0,0,0,0,0,0,0,0,1] [[0,1,2,3,4,5,6,7,8,9],[]] drawMixed (by kernel_rfl) (by kernel_rfl) fun K hK=>?_;simp(disch:=omega)[hnat,hat,ints_len,dcAV_len,hk,hm]
     refine hK _ ?_;clear hK K
     have HO':HOk (H++[.cells (nmC (nv,x.id))]) T:=HO.snoc (by simp)
     rw[show Blk.cells [.int .i64 nv,.int .i64 x.id]=.cells (nmC (nv,x.id)) from rfl]
     refine aw_reg fun K hK=>?_;simp(disch:=omega) ;refine hK _ ?_;clear hK K
     refine aw_then fun K5 hK5=>?_
     refine aw_block ?_
     refine aw_loop (X:=Nat) (fun n=>⟨[(0,.sl L.length (dcAV L) .none),(1,.int .i64 f),(5,.sl d.length (nmAV d) .none),(6,.int .i64 (k:Nat)),(7,.sl nl.length (ints nl) .none),(8,.int .i64 (m:Nat)),(9,.ptr H.length 0),(10,.int .i64 (n:Nat))],H++[.cells (nmC (nv,x.id))],T⟩)
      (fun n=>n≤d.length∧∀j,j<n→nmlt (d.getD j n0) (nv,x.id)=true) (fun n=>d.length-n) 0 ?_ ?_ ?_
     ·exact⟨Nat.zero_le _,fun j hj=>absurd hj (Nat.not_lt_zero _)⟩
     ·refine weak_to [] [] ?_ ?_ ?_ ?_ HO' ?_
      all_goals simp
     ·rintro n ⟨hn1,hn2⟩
      have go:(n<d.length→nmlt (d.getD n n0) (nv,x.id)=false)→∀e,envLe (H.length+1) T.length e [(0,.sl L.length (dcAV L) .none),(1,.int .i64 f),(5,.sl d.length (nmAV d) .none),(6,.int .i64 (k:Nat)),(7,.sl nl.length (ints nl) .none),(8,.int .i64 (m:Nat)),(9,.ptr H.length 0),(10,.int .i64 (n:Nat))]→
        K5 ⟨e,H++[.cells (nmC (nv,x.id))],T⟩:=by
       intro hn3 e he
       have hins:=insN_at (nv,x.id) d n hn1 hn2 hn3
       refine hK5 _ (aw_weak ⟨[(0,.sl L.length (dcAV L) .none),(1,.int .i64 f),(5,.sl d.length (nmAV d) .none),(6,.int .i64 (k:Nat)),(7,.sl nl.length (ints nl) .none),(8,.int .i64 (m:Nat)),(9,.ptr H.length 0),(10,.int .i64 (n:Nat))],H++[.cells (nmC (nv,x.id))],T⟩ (weak_to [] [] (by simp) (by simp) (by simp) (by simp) HO' (by simpa using he)) ?_)
       have ht:=nmAV_tk d n
       have hdr:=nmAV_drop d n
       have hlt:(nmAV (d.take n)).length=n*2:=by rw[nmAV_len,List.length_take];omega
       have hld:(nmAV (d.drop n)).length=(d.length-n)*2:=by rw[nmAV_len,List.length_drop]
       have htk:(nmAV (d.drop n)).take ((d.length-n)*2)=nmAV (d.drop n):=by rw[←hld,List.take_length]
       have hres:nmAV (d.take n)++.int .i64 nv::.int .i64 x.id::nmAV (d.drop n)=nmAV (insN (nv,x.id) d):=by rw[hins];simp[nmAV]
       have hlen:n+1+(d.length-n)=(insN (nv,x.id) d).length:=by rw[hins];simp;omega
       refine aw_draw0 [4,7,11] [0,0,0,0,0,0,0,1,0,0,0,2,3] [[],[],[]] drawMixed (by kernel_rfl) (by kernel_rfl) fun K hK=>?_;simp(disch:=omega)[amade_zero,nmAV_len,ht,hdr,hlt,hld,htk]
       rw[hres,hlen]
       refine hK _ ?_;clear hK K
       refine hK4 _ ?_;clear hK4
       refine aw_reg0 fun K hK=>?_;simp(disch:=omega) 
       refine hK _ ?_;clear hK K
       refine⟨m+1,by show m+1≤_;omega,by show nl.length-(m+1)<nl.length-m;omega,?_⟩
       simp only[hft3]
       refine weak_to [.cells (nmC (nv,x.id))] [((insN (nv,x.id) d).length*2,2)] ?_ ?_ ?_ ?_ HO ?_
       all_goals simp
      clear hK5
      refine aw_then fun K6 hK6=>?_
      by_cases hn3:n<d.length
      ·have hcut2:=nmAV_cut d n hn3
       have hst:nmlt (d.getD n n0) (nv,x.id)=true→∀j,j<n+1→nmlt (d.getD j n0) (nv,x.id)=true:=fun h j hj=>by
        rcases Nat.lt_or_ge j n with h3|h3
        ·exact hn2 j h3
        ·have:j=n:=by omega
         subst this;exact h
       have c:=itemLess_ok (d.getD n n0) (nv,x.id) (H++[.cells (nmC (nv,x.id))]) T
       generalize d.getD n n0=y at *
       have b4:decide ((n:Int)<d.length)=true:=decide_eq_true (by omega)
       cases ha:nmlt y (nv,x.id) with
       |true=>
        rw[ha] at c
        refine aw_draw [] [] [] drawMixed (by kernel_rfl) (by kernel_rfl) fun K hK=>?_;simp(disch:=omega)[b4,hn3,hcut2,nmAV_len]
        refine dcall_is (c) rfl ?_;simp(disch:=omega) 
        refine hK _ ?_;clear hK K
        refine aw_ift rfl ?_
        refine aw_skip ?_;simp(disch:=omega) 
        refine hK6 _ ?_;clear hK6
        refine aw_block ?_
        refine aw_reg0 fun K hK=>?_;simp(disch:=omega) 
        refine hK _ ?_;clear hK K
        refine⟨n+1,⟨by show n+1≤_;omega,hst ha⟩,by show d.length-(n+1)<d.length-n;omega,?_⟩
        refine weak_to [] [] ?_ ?_ ?_ ?_ HO' ?_
        all_goals simp
       |false=>
        rw[ha] at c
        refine aw_draw [] [] [] drawMixed (by kernel_rfl) (by kernel_rfl) fun K hK=>?_;simp(disch:=omega)[b4,hn3,hcut2,nmAV_len]
        refine dcall_is (c) rfl ?_;simp(disch:=omega) 
        refine hK _ ?_;clear hK K
        refine aw_iff rfl ?_
        refine aw_exit ?_;simp(disch:=omega) 
        refine go (fun _=>ha) _ ?_
        simp
      ·have b4:decide ((n:Int)<d.length)=false:=decide_eq_false (by omega)
       refine aw_draw [] [] [] drawMixed (by kernel_rfl) (by kernel_rfl) fun K hK=>?_;simp(disch:=omega)[b4,hn3]
       refine hK _ ?_;clear hK K
       refine aw_iff rfl ?_
       refine aw_exit ?_;simp(disch:=omega) 
       refine go (fun h=>absurd h hn3) _ ?_
       simp
    ·simp  at hm
     have e:m=nl.length:=by omega
     subst e
     rw[show il.take nl.length=il by rw[←hil,List.take_length],←hft]
     refine aw_exit ?_;simp(disch:=omega) 
     refine hK3 _ ?_;clear hK3
     refine aw_reg0 fun K hK=>?_;simp(disch:=omega) 
     refine hK _ ?_;clear hK K
     refine⟨k+1,by show k+1≤_;omega,by show L.length-(k+1)<L.length-k;omega,?_⟩
     refine weak_to [] [] ?_ ?_ ?_ ?_ HO ?_
     all_goals simp
  ·simp  at hk
   have e:k=L.length:=by omega
   subst e
   rw[List.take_length]
   refine aw_exit ?_;simp(disch:=omega) 
   refine hK1 _ ?_;clear hK1
   refine aw_reg fun K hK=>?_;simp(disch:=omega) ;refine hK _ ?_;clear hK K
   refine aw_ret ?_;simp(disch:=omega) 
end Go.Proofs.YtneohapkboaplaaGreat
