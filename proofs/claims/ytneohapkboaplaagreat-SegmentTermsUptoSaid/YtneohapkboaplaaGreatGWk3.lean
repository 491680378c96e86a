/- SegmentTerms (layer 39): its loops.
  Conditions: sizes, as each theorem says. -/
import Derived.Test.YtneohapkboaplaaGreatGLA
import Derived.Test.YtneohapkboaplaaGreatGTp
import Derived.Test.YtneohapkboaplaaGreatGWk2
set_option linter.all false
set_option maxRecDepth 100000
namespace Go.Proofs.YtneohapkboaplaaGreat
open Go Go.Am Sug Seg Post
abbrev askC (f:Int)(w:Bs)(lo hi:Int):List AV:=[.int .i64 f,.str w,.int .i64 lo,.int .i64 hi]
attribute [-simp] List.getD_eq_getElem?_getD in
set_option maxHeartbeats 4000000 in
theorem termsA (l:List Dc)(P:List Ps)(D nl at_:List Int)(f lo hi:Int)(w:Bs)(s:Sg)(ws:List Wd)(c i:Nat)(hc:c≤1000000000)(hwl:ws.length≤1000000)(hal:at_.length≤maxLen)
  (hB:∀k,k<ws.length→decide ((ws.getD k w0).2∈at_)=((ws.getD k w0).1==w)) (HO:HOk [.cells (askC f w lo hi),.cells (sgC s)] []) (Q:Exit→St→Prop)
  (go:∀e:Env,envLe 2 0 e [(0,.sl l.length (dcAV l) .none),(3,.ptr 0 0),(5,.ptr 1 0),(7,.sl P.length (psAV P) .none),(8,.sl D.length (ints D) .none),(9,.int .i64 ((c+(posZ ws w).length:Nat):Int)),(10,.int .i64 (i:Nat)),(12,.sl nl.length (ints nl) .none)]→Q .normal ⟨e,[.cells (askC f w lo hi),.cells (sgC s)],[]⟩) :
  AW ⟨Tryz.prog,227,22,0,0,[]⟩ (subC [1,1,1,1,1,1,1,1,0,1,0,0,1,0,0,1,1,0] (Tryz.f5.body.getD .skip)) Q
   ⟨[(0,.sl l.length (dcAV l) .none),(3,.ptr 0 0),(5,.ptr 1 0),(7,.sl P.length (psAV P) .none),(8,.sl D.length (ints D) .none),(9,.int .i64 (c:Nat)),(10,.int .i64 (i:Nat)),(11,.sl ws.length (wdAV ws) .none),(12,.sl nl.length (ints nl) .none),(13,.sl at_.length (ints at_) .none)],[.cells (askC f w lo hi),.cells (sgC s)],[]⟩:=by
 conv=>arg 2;whnf
 refine aw_reg fun K hK=>?_;simp(disch:=omega) ;refine hK _ ?_;clear hK K
 refine aw_block ?_
 refine aw_loop (X:=Nat) (fun k=>⟨[(0,.sl l.length (dcAV l) .none),(3,.ptr 0 0),(5,.ptr 1 0),(7,.sl P.length (psAV P) .none),(8,.sl D.length (ints D) .none),(9,.int .i64 ((c+(posZ (ws.take k) w).length:Nat):Int)),(10,.int .i64 (i:Nat)),(11,.sl ws.length (wdAV ws) .none),(12,.sl nl.length (ints nl) .none),(13,.sl at_.length (ints at_) .none),(14,.int .i64 (k:Nat))],[.cells (askC f w lo hi),.cells (sgC s)],[]⟩)
  (fun k=>k≤ws.length) (fun k=>ws.length-k) 0 ?_ ?_ ?_
 ·exact Nat.zero_le _
 ·refine weak_to [] [] (by simp) (by simp) (Nat.zero_le _) (Nat.zero_le _) HO ?_
  simp[posZ]
 ·intro k g1
  refine aw_then fun K2 hK2=>?_
  refine aw_reg fun K hK=>?_;simp(disch:=omega) ;refine hK _ ?_;clear hK K
  refine aw_if rfl (fun hk=>?_) (fun hk=>?_)
  ·simp  at hk
   obtain⟨a1,a2⟩:=wdAV_at ws k hk
   have hb:=hB k hk
   have htk:=posZ_take ws w k hk
   have hpl:(posZ (ws.take k) w).length≤1000000:=by
    unfold posZ
    rw[List.length_map]
    exact Nat.le_trans (List.length_filter_le _ _) (by rw[List.length_take];omega)
   have c0:=has_ok at_ (ws.getD k w0).2 hal [.cells (askC f w lo hi),.cells (sgC s)] [] .none
   rw[hb] at c0
   generalize posZ (ws.take k) w=out at *
   generalize hq:posZ (ws.take (k+1)) w=out2 at *
   generalize ws.getD k w0=x at *
   obtain⟨x1,x2⟩:=x
   simp only at a1 a2 hb htk c0
   refine aw_skip ?_
   refine hK2 _ ?_;clear hK2
   refine aw_then fun K3 hK3=>?_
   refine aw_block ?_
   refine aw_then fun K4 hK4=>?_
   by_cases hx:x1=w
   ·have b1:(x1==w)=true:=by simpa using hx
    rw[b1] at c0
    rw[if_pos hx] at htk
    refine aw_draw [] [] [] drawMixed (by kernel_rfl) (by kernel_rfl) fun K hK=>?_;simp(disch:=omega)[a2,wdAV_len,hk]
    refine dcall_is (c0) rfl ?_;simp(disch:=omega)[a1,wdAV_len,hk,b1,hx]
    refine hK _ ?_;clear hK K
    refine aw_iff rfl ?_
    refine aw_skip ?_
    refine hK4 _ ?_;clear hK4
    refine aw_draw [] [] [] drawMixed (by kernel_rfl) (by kernel_rfl) fun K hK=>?_;simp(disch:=omega)[a1,wdAV_len,hk,b1,hx]
    refine hK _ ?_;clear hK K
    refine aw_ift rfl ?_
    have w1:-9223372036854775808≤((c+out.length:Nat):Int)+1∧((c+out.length:Nat):Int)+1≤9223372036854775807:=by omega
    refine aw_reg0 fun K hK=>?_;simp(disch:=omega) 
    refine hK _ ?_;clear hK K
    refine hK3 _ ?_;clear hK3
    refine aw_reg0 fun K hK=>?_;simp(disch:=omega) 
    refine hK _ ?_;clear hK K
    refine⟨k+1,by show k+1≤_;omega,by show ws.length-(k+1)<ws.length-k;omega,?_⟩
    refine weak_to [] [] (by simp) (by simp) (Nat.zero_le _) (Nat.zero_le _) HO ?_
    simp[hq,htk]
    omega
   ·have b1:(x1==w)=false:=by simpa using hx
    rw[b1] at c0
    rw[if_neg hx,List.append_nil] at htk
    refine aw_draw [] [] [] drawMixed (by kernel_rfl) (by kernel_rfl) fun K hK=>?_;simp(disch:=omega)[a2,wdAV_len,hk]
    refine dcall_is (c0) rfl ?_;simp(disch:=omega)[a1,wdAV_len,hk,b1,hx]
    refine hK _ ?_;clear hK K
    refine aw_iff rfl ?_
    refine aw_skip ?_
    refine hK4 _ ?_;clear hK4
    refine aw_draw [] [] [] drawMixed (by kernel_rfl) (by kernel_rfl) fun K hK=>?_;simp(disch:=omega)[a1,wdAV_len,hk,b1,hx]
    refine hK _ ?_;clear hK K
    refine aw_iff rfl ?_
    refine aw_skip ?_
    refine hK3 _ ?_;clear hK3
    refine aw_reg0 fun K hK=>?_;simp(disch:=omega) 
    refine hK _ ?_;clear hK K
    refine⟨k+1,by show k+1≤_;omega,by show ws.length-(k+1)<ws.length-k;omega,?_⟩
    refine weak_to [] [] (by simp) (by simp) (Nat.zero_le _) (Nat.zero_le _) HO ?_
    simp[hq,htk]
  ·simp  at hk
   have hke:k=ws.length:=by omega
   subst hke
   rw[List.take_length]
   refine aw_exit ?_;simp(disch:=omega) 
   refine go _ ?_
   simp
def btwB (lo hi:Int)(nl:List Int):Bool:=nl.any fun n=>decide (lo≤n)&&decide (n≤hi)
theorem btwB_take (lo hi:Int)(nl:List Int)(k:Nat)(h:k<nl.length):btwB lo hi (nl.take (k+1))=(btwB lo hi (nl.take k)||(decide (lo≤nl.getD k 0)&&decide (nl.getD k 0≤hi))):=by
 unfold btwB
 rw[take_getD nl k 0 h,List.any_append]
 simp
attribute [-simp] List.getD_eq_getElem?_getD in
set_option maxHeartbeats 4000000 in
theorem termsB (l:List Dc)(P:List Ps)(D nl:List Int)(f lo hi:Int)(w:Bs)(s:Sg)(c i:Nat)(hnl:nl.length≤1000000)(HO:HOk [.cells (askC f w lo hi),.cells (sgC s)] [])(Q:Exit→St→Prop)
  (go:∀e:Env,envLe 2 0 e [(0,.sl l.length (dcAV l) .none),(3,.ptr 0 0),(5,.ptr 1 0),(7,.sl P.length (psAV P) .none),(8,.sl D.length (ints D) .none),(9,.int .i64 (c:Nat)),(10,.int .i64 (i:Nat)),(15,.bool (btwB lo hi nl))]→Q .normal ⟨e,[.cells (askC f w lo hi),.cells (sgC s)],[]⟩) :
  AW ⟨Tryz.prog,227,22,0,0,[]⟩ (subC [1,1,1,1,1,1,1,1,0,1,0,0,1,0,0,1,1,1,1,0] (Tryz.f5.body.getD .skip)) Q
   ⟨[(0,.sl l.length (dcAV l) .none),(3,.ptr 0 0),(5,.ptr 1 0),(7,.sl P.length (psAV P) .none),(8,.sl D.length (ints D) .none),(9,.int .i64 (c:Nat)),(10,.int .i64 (i:Nat)),(12,.sl nl.length (ints nl) .none),(15,.bool false)],[.cells (askC f w lo hi),.cells (sgC s)],[]⟩:=by
 conv=>arg 2;whnf
 refine aw_reg fun K hK=>?_;simp(disch:=omega) ;refine hK _ ?_;clear hK K
 refine aw_block ?_
 refine aw_loop (X:=Nat) (fun k=>⟨[(0,.sl l.length (dcAV l) .none),(3,.ptr 0 0),(5,.ptr 1 0),(7,.sl P.length (psAV P) .none),(8,.sl D.length (ints D) .none),(9,.int .i64 (c:Nat)),(10,.int .i64 (i:Nat)),(12,.sl nl.length (ints nl) .none),(15,.bool (btwB lo hi (nl.take k))),(16,.int .i64 (k:Nat))],[.cells (askC f w lo hi),.cells (sgC s)],[]⟩)
  (fun k=>k≤nl.length) (fun k=>nl.length-k) 0 ?_ ?_ ?_
 ·exact Nat.zero_le _
 ·refine weak_to [] [] (by simp) (by simp) (Nat.zero_le _) (Nat.zero_le _) HO ?_
  simp[btwB]
 ·intro k g1
  refine aw_then fun K2 hK2=>?_
  refine aw_reg fun K hK=>?_;simp(disch:=omega) ;refine hK _ ?_;clear hK K
  refine aw_if rfl (fun hk=>?_) (fun hk=>?_)
  ·simp  at hk
   have a1:=getD_ints hk
   have htk:=btwB_take lo hi nl k hk
   generalize btwB lo hi (nl.take k)=b at *
   generalize hq:btwB lo hi (nl.take (k+1))=b2 at *
   generalize nl.getD k 0=n at *
   refine aw_skip ?_
   refine hK2 _ ?_;clear hK2
   refine aw_then fun K3 hK3=>?_
   refine aw_block ?_
   have fin:∀e,envLe 2 0 e [(0,.sl l.length (dcAV l) .none),(3,.ptr 0 0),(5,.ptr 1 0),(7,.sl P.length (psAV P) .none),(8,.sl D.length (ints D) .none),(9,.int .i64 (c:Nat)),(10,.int .i64 (i:Nat)),(12,.sl nl.length (ints nl) .none),(15,.bool b2),(16,.int .i64 (k:Nat))]→K3 ⟨e,[.cells (askC f w lo hi),.cells (sgC s)],[]⟩:=by
    intro e he
    refine hK3 _ (aw_weak ⟨[(0,.sl l.length (dcAV l) .none),(3,.ptr 0 0),(5,.ptr 1 0),(7,.sl P.length (psAV P) .none),(8,.sl D.length (ints D) .none),(9,.int .i64 (c:Nat)),(10,.int .i64 (i:Nat)),(12,.sl nl.length (ints nl) .none),(15,.bool b2),(16,.int .i64 (k:Nat))],[.cells (askC f w lo hi),.cells (sgC s)],[]⟩ (weak_to [] [] (by simp) (by simp) (Nat.zero_le _) (Nat.zero_le _) HO he) ?_)
    refine aw_reg0 fun K hK=>?_;simp(disch:=omega) 
    refine hK _ ?_;clear hK K
    refine⟨k+1,by show k+1≤_;omega,by show nl.length-(k+1)<nl.length-k;omega,?_⟩
    refine weak_to [] [] (by simp) (by simp) (Nat.zero_le _) (Nat.zero_le _) HO ?_
    simp[hq]
   clear hK3
   cases b with
   |true=>
    rw[Bool.true_or] at htk
    subst htk
    refine aw_draw0 [] [] [] drawMixed (by kernel_rfl) (by kernel_rfl) fun K hK=>?_;simp(disch:=omega) 
    refine hK _ ?_;clear hK K
    refine fin _ ?_
    simp
   |false=>
    rw[Bool.false_or] at htk
    by_cases v1:lo≤n
    ·have w1:decide (lo≤n)=true:=decide_eq_true v1
     rw[w1,Bool.true_and] at htk
     subst htk
     refine aw_draw0 [] [] [] drawMixed (by kernel_rfl) (by kernel_rfl) fun K hK=>?_;simp(disch:=omega)[a1,ints_len,hk,w1,v1]
     refine hK _ ?_;clear hK K
     refine fin _ ?_
     simp
    ·have w1:decide (lo≤n)=false:=decide_eq_false v1
     rw[w1,Bool.false_and] at htk
     subst htk
     refine aw_draw0 [] [] [] drawMixed (by kernel_rfl) (by kernel_rfl) fun K hK=>?_;simp(disch:=omega)[a1,ints_len,hk,w1,v1]
     refine hK _ ?_;clear hK K
     refine fin _ ?_
     simp
  ·simp  at hk
   have hke:k=nl.length:=by omega
   subst hke
   rw[List.take_length]
   refine aw_exit ?_;simp(disch:=omega) 
   refine go _ ?_
   simp
theorem filter_get {α:Type}(p:α→Bool)(d:α):∀(l:List α)(j:Nat),j<l.length→p (l.getD j d)=true→((l.take j).filter p).length<(l.filter p).length∧(l.filter p).getD ((l.take j).filter p).length d=l.getD j d:=by
 intro l j hj hp
 have h1:l=l.take j++(l.getD j d::l.drop (j+1)):=by rw[←getD_cons_drop l j d hj,List.take_append_drop]
 have h2:l.filter p=(l.take j).filter p++(l.getD j d::(l.drop (j+1)).filter p):=by
  conv=>lhs;rw[h1]
  rw[List.filter_append,List.filter_cons_of_pos hp]
 generalize l.getD j d=x at *
 rw[h2]
 refine⟨by simp,?_⟩
 rw[List.getD_eq_getElem?_getD,List.getElem?_append_right (Nat.le_refl _)]
 simp
attribute [-simp] List.getD_eq_getElem?_getD in
set_option maxHeartbeats 8000000 in
theorem termsC (all:List Bs)(hall:all.length≤1000000)(hol:∀x∈all,x.length≤maxLen)(hord:all.Pairwise fun x y=>slt x y=true)(f lo hi:Int)(w:Bs)(hw:w.length≤maxLen)(s:Sg)(c:Nat)(HO:HOk [.cells (askC f w lo hi),.cells (sgC s)] [])(Q:Exit→St→Prop)
  (go:∀e:Env,envLe 2 0 e [(3,.ptr 0 0),(5,.ptr 1 0),(9,.int .i64 (c:Nat)),(17,.bool (all.any (·==w))),(19,.sl (all.filter (hasP w)).length (strs (all.filter (hasP w))) .none),(20,.int .i64 ((all.filter (hasP w)).length:Nat))]→Q .normal ⟨e,[.cells (askC f w lo hi),.cells (sgC s)],[]⟩) :
  AW ⟨Tryz.prog,227,22,0,0,[]⟩ (subC [1,1,1,1,1,1,1,1,1,1,1,1,1,0] (Tryz.f5.body.getD .skip)) Q
   ⟨[(3,.ptr 0 0),(5,.ptr 1 0),(9,.int .i64 (c:Nat)),(17,.bool false),(18,.sl all.length (strs all) .none),(19,.sl (all.filter (hasP w)).length (strs (all.filter (hasP w))) .none),(20,.int .i64 0)],[.cells (askC f w lo hi),.cells (sgC s)],[]⟩:=by
 conv=>arg 2;whnf
 have hfl:(all.filter (hasP w)).length≤1000000:=Nat.le_trans (List.length_filter_le _ _) hall
 refine aw_reg fun K hK=>?_;simp(disch:=omega) ;refine hK _ ?_;clear hK K
 refine aw_block ?_
 refine aw_loop (X:=Nat) (fun k=>⟨[(3,.ptr 0 0),(5,.ptr 1 0),(9,.int .i64 (c:Nat)),(17,.bool ((all.take k).any (·==w))),(18,.sl all.length (strs all) .none),(19,.sl (all.filter (hasP w)).length (strs (all.filter (hasP w))) .none),(20,.int .i64 (((all.take k).filter (hasP w)).length:Nat)),(21,.int .i64 (k:Nat))],[.cells (askC f w lo hi),.cells (sgC s)],[]⟩)
  (fun k=>k≤all.length) (fun k=>all.length-k) 0 ?_ ?_ ?_
 ·exact Nat.zero_le _
 ·refine weak_to [] [] (by simp) (by simp) (Nat.zero_le _) (Nat.zero_le _) HO ?_
  simp
 ·intro k g1
  refine aw_then fun K2 hK2=>?_
  refine aw_reg fun K hK=>?_;simp(disch:=omega) ;refine hK _ ?_;clear hK K
  refine aw_if rfl (fun hk=>?_) (fun hk=>?_)
  ·simp  at hk
   have a1:=getD_strs hk
   have a0:0<k→(strs all).getD (k-1) .top=.str (all.getD (k-1) []):=fun h=>getD_strs (by omega)
   have hadj:0<k→slt (all.getD (k-1) []) (all.getD k [])=true:=fun h=>pw_adj hord [] h hk
   have hany:(all.take (k+1)).any (·==w)=((all.take k).any (·==w)||(all.getD k []==w)):=by rw[take_getD all k [] hk,List.any_append];simp
   have hfil:(all.take (k+1)).filter (hasP w)=(all.take k).filter (hasP w)++(if hasP w (all.getD k [])=true then [all.getD k []] else []):=by
    rw[take_getD all k [] hk,List.filter_append]
    congr 1
    rw[List.filter_cons]
    rfl
   have hget:=filter_get (hasP w) [] all k hk
   have cb:=begins_ok (all.getD k []) w (hol _ (getD_mem all k [] hk)) hw [.cells (askC f w lo hi),.cells (sgC s)] []
   have hl1:((all.take k).filter (hasP w)).length≤1000000:=Nat.le_trans (List.length_filter_le _ _) (by rw[List.length_take];omega)
   generalize hn1:(all.take k).filter (hasP w)=f1 at *
   generalize hn2:(all.take (k+1)).filter (hasP w)=f2 at *
   generalize hb1:(all.take k).any (·==w)=b1 at *
   generalize hb2:(all.take (k+1)).any (·==w)=b2 at *
   generalize all.getD (k-1) []=y at *
   generalize all.getD k []=x at *
   refine aw_skip ?_
   refine hK2 _ ?_;clear hK2
   refine aw_then fun K3 hK3=>?_
   refine aw_block ?_
   have r1:∀e,envLe 2 0 e [(3,.ptr 0 0),(5,.ptr 1 0),(9,.int .i64 (c:Nat)),(17,.bool b2),(18,.sl all.length (strs all) .none),(19,.sl (all.filter (hasP w)).length (strs (all.filter (hasP w))) .none),(20,.int .i64 (f1.length:Nat)),(21,.int .i64 (k:Nat))]→
     AW ⟨Tryz.prog,227,22,0,0,[]⟩ (subC [1,1,1,1,1,1,1,1,1,1,1,1,1,0,1,0,0,1,0,0,1] (Tryz.f5.body.getD .skip)) (BlockQ 7 (ExitK K3 (ExitK (fun s'=>∃x',x'≤all.length∧all.length-x'<all.length-k∧Weak ⟨Tryz.prog,227,22,0,0,[]⟩ s' ⟨[(3,.ptr 0 0),(5,.ptr 1 0),(9,.int .i64 (c:Nat)),(17,.bool ((all.take x').any (·==w))),(18,.sl all.length (strs all) .none),(19,.sl (all.filter (hasP w)).length (strs (all.filter (hasP w))) .none),(20,.int .i64 (((all.take x').filter (hasP w)).length:Nat)),(21,.int .i64 (x':Nat))],[.cells (askC f w lo hi),.cells (sgC s)],[]⟩) (BlockQ 6 Q)))) ⟨e,[.cells (askC f w lo hi),.cells (sgC s)],[]⟩:=by
    intro e he
    conv=>arg 2;whnf
    refine aw_weak ⟨[(3,.ptr 0 0),(5,.ptr 1 0),(9,.int .i64 (c:Nat)),(17,.bool b2),(18,.sl all.length (strs all) .none),(19,.sl (all.filter (hasP w)).length (strs (all.filter (hasP w))) .none),(20,.int .i64 (f1.length:Nat)),(21,.int .i64 (k:Nat))],[.cells (askC f w lo hi),.cells (sgC s)],[]⟩ (weak_to [] [] (by simp) (by simp) (Nat.zero_le _) (Nat.zero_le _) HO he) ?_
    have fin:∀e,envLe 2 0 e [(3,.ptr 0 0),(5,.ptr 1 0),(9,.int .i64 (c:Nat)),(17,.bool b2),(18,.sl all.length (strs all) .none),(19,.sl (all.filter (hasP w)).length (strs (all.filter (hasP w))) .none),(20,.int .i64 (f2.length:Nat)),(21,.int .i64 (k:Nat))]→K3 ⟨e,[.cells (askC f w lo hi),.cells (sgC s)],[]⟩:=by
     intro e he
     refine hK3 _ (aw_weak ⟨[(3,.ptr 0 0),(5,.ptr 1 0),(9,.int .i64 (c:Nat)),(17,.bool b2),(18,.sl all.length (strs all) .none),(19,.sl (all.filter (hasP w)).length (strs (all.filter (hasP w))) .none),(20,.int .i64 (f2.length:Nat)),(21,.int .i64 (k:Nat))],[.cells (askC f w lo hi),.cells (sgC s)],[]⟩ (weak_to [] [] (by simp) (by simp) (Nat.zero_le _) (Nat.zero_le _) HO he) ?_)
     refine aw_reg0 fun K hK=>?_;simp(disch:=omega) 
     refine hK _ ?_;clear hK K
     refine⟨k+1,by show k+1≤_;omega,by show all.length-(k+1)<all.length-k;omega,?_⟩
     refine weak_to [] [] (by simp) (by simp) (Nat.zero_le _) (Nat.zero_le _) HO ?_
     simp[hn2,hb2]
    clear hK3
    refine aw_then fun K4 hK4=>?_
    have r2:∀e,envLe 2 0 e [(3,.ptr 0 0),(5,.ptr 1 0),(9,.int .i64 (c:Nat)),(17,.bool b2),(18,.sl all.length (strs all) .none),(19,.sl (all.filter (hasP w)).length (strs (all.filter (hasP w))) .none),(20,.int .i64 (f1.length:Nat)),(21,.int .i64 (k:Nat))]→K4 ⟨e,[.cells (askC f w lo hi),.cells (sgC s)],[]⟩:=by
     intro e he
     refine hK4 _ (aw_weak ⟨[(3,.ptr 0 0),(5,.ptr 1 0),(9,.int .i64 (c:Nat)),(17,.bool b2),(18,.sl all.length (strs all) .none),(19,.sl (all.filter (hasP w)).length (strs (all.filter (hasP w))) .none),(20,.int .i64 (f1.length:Nat)),(21,.int .i64 (k:Nat))],[.cells (askC f w lo hi),.cells (sgC s)],[]⟩ (weak_to [] [] (by simp) (by simp) (Nat.zero_le _) (Nat.zero_le _) HO he) ?_)
     clear hK4 he
     cases hp:hasP w x with
     |false=>
      rw[hp] at cb hfil
      simp only[Bool.false_eq_true,if_false,List.append_nil] at hfil
      refine aw_draw [] [] [] drawMixed (by kernel_rfl) (by kernel_rfl) fun K hK=>?_;simp(disch:=omega)[a1,hk]
      refine dcall_is (cb) rfl ?_;simp(disch:=omega) 
      refine hK _ ?_;clear hK K
      refine aw_iff rfl ?_
      refine aw_skip ?_
      refine fin _ ?_
      rw[hfil]
      simp
     |true=>
      rw[hp] at cb hfil
      simp only[if_true] at hfil
      obtain⟨hg1,hg2⟩:=hget hp
      have a3:=getD_strs hg1
      rw[hg2] at a3
      have hf2:f2.length=f1.length+1:=by rw[hfil];simp
      have b3:decide (((all.filter (hasP w)).length:Int)≤(f1.length:Int))=false:=decide_eq_false (by omega)
      have n3:¬((all.filter (hasP w)).length:Int)≤(f1.length:Int):=by omega
      have w1:-9223372036854775808≤((f1.length:Nat):Int)+1∧((f1.length:Nat):Int)+1≤9223372036854775807:=by omega
      generalize all.filter (hasP w)=ff at *
      refine aw_draw [] [] [] drawMixed (by kernel_rfl) (by kernel_rfl) fun K hK=>?_;simp(disch:=omega)[a1,hk]
      refine dcall_is (cb) rfl ?_;simp(disch:=omega) 
      refine hK _ ?_;clear hK K
      refine aw_ift rfl ?_
      refine aw_then fun K5 hK5=>?_
      refine aw_draw [] [] [] drawMixed (by kernel_rfl) (by kernel_rfl) fun K hK=>?_;simp(disch:=omega)[a1,a3,hk,hg1,b3,n3]
      refine hK _ ?_;clear hK K
      refine aw_iff rfl ?_
      refine aw_skip ?_
      refine hK5 _ ?_;clear hK5
      refine aw_reg0 fun K hK=>?_;simp(disch:=omega) 
      refine hK _ ?_;clear hK K
      refine fin _ ?_
      simp[hf2]
    clear hK4
    rcases Nat.eq_zero_or_pos k with h0|h0
    ·subst h0
     refine aw_draw [] [] [] drawMixed (by kernel_rfl) (by kernel_rfl) fun K hK=>?_;simp(disch:=omega) 
     refine hK _ ?_;clear hK K
     refine aw_iff rfl ?_
     refine aw_skip ?_
     refine r2 _ ?_
     simp
    ·have e6:((k:Int)-1)=((k-1:Nat):Int):=by omega
     have b5:decide ((0:Int)<(k:Int))=true:=decide_eq_true (by omega)
     have a0':=a0 h0
     have hk1:k-1<all.length:=by omega
     have hs1:=hadj h0
     refine aw_draw [] [] [] drawMixed (by kernel_rfl) (by kernel_rfl) fun K hK=>?_;simp(disch:=omega)[b5,h0,e6,a0',a1,hk,hk1,hs1]
     refine hK _ ?_;clear hK K
     refine aw_iff rfl ?_
     refine aw_skip ?_
     refine r2 _ ?_
     simp
   cases b1 with
   |true=>
    rw[Bool.true_or] at hany
    subst hany
    refine aw_draw [] [] [] drawMixed (by kernel_rfl) (by kernel_rfl) fun K hK=>?_;simp(disch:=omega) 
    refine hK _ ?_;clear hK K
    exact r1 _ (by simp)
   |false=>
    rw[Bool.false_or] at hany
    by_cases hx:x=w
    ·have bx:(x==w)=true:=by simpa using hx
     rw[bx] at hany
     subst hany
     refine aw_draw [] [] [] drawMixed (by kernel_rfl) (by kernel_rfl) fun K hK=>?_;simp(disch:=omega)[a1,hk,bx,hx]
     refine hK _ ?_;clear hK K
     exact r1 _ (by simp)
    ·have bx:(x==w)=false:=by simpa using hx
     rw[bx] at hany
     subst hany
     refine aw_draw [] [] [] drawMixed (by kernel_rfl) (by kernel_rfl) fun K hK=>?_;simp(disch:=omega)[a1,hk,bx,hx]
     refine hK _ ?_;clear hK K
     exact r1 _ (by simp)
  ·simp  at hk
   have hke:k=all.length:=by omega
   subst hke
   rw[List.take_length]
   refine aw_exit ?_;simp(disch:=omega) 
   refine go _ ?_
   simp
end Go.Proofs.YtneohapkboaplaaGreat
