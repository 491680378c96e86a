/- segment.Documents (layer 39): the terms, the columns.
  Conditions: at most 400 documents, 1000 terms of at most 400 postings of at most 400 positions, as the theorems say. -/
import Derived.Test.YtneohapkboaplaaGreatGDc
set_option linter.all false
set_option maxRecDepth 100000
namespace Go.Proofs.YtneohapkboaplaaGreat
open Go Go.Am Sug Seg
attribute [-simp] List.getD_eq_getElem?_getD in
set_option maxHeartbeats 16000000 in
theorem term_step (H:List Blk)(T:Toks)(ts:List Tm)(vi b1 bo bm nd:Nat)(N:Nat)(ids:List Int)(R:List (Nat×Blk))(J:List Blk)(U:Toks)(D:List Dz)
  (hS:DS H T R bo N J U D) (hids:D.map (·.id)=ids) (hndl:nd=ids.length) (hnd:ids.Nodup) (hft:∀i∈ids,1≤i∧i≤1000000000) (hk:vi<ts.length) (hll:(ts.getD vi t0).l.length≤400) (hpm:∀p∈(ts.getD vi t0).l,p.1∈ids∧p.2.length≤400) (hN:N+160400≤1099511627776) (hb1:b1<J.length) (hbo:H.length≤bo)
  (hm:(bm,.map (mapE ids))∈R) (Q:Exit→St→Prop)
  (go:∀(e:Env)(J':List Blk)(D':List Dz),DS H T R bo (N+160400) J' U D'→J.length≤J'.length→D'.map (·.id)=ids→D'.map Dz.dc=stepT (D.map Dz.dc) (ts.getD vi t0)→
   envLe J'.length U.length e [(1,.ptr b1 0),(3,.csl bo nd nd),(4,.mref bm),(51,.sl ts.length (tmAV ts) .none),(52,.int .i64 (ts.length:Nat)),(53,.int .i64 (vi:Nat))]→Q .normal ⟨e,J',U⟩) :
  AW ⟨Tryz.prog,192,190,H.length,T.length,[100100,100131]⟩ (subC [1,1,1,1,1,0,1,0,0,1,1,0,0] (Tryz.f40.body.getD .skip)) Q ⟨[(1,.ptr b1 0),(3,.csl bo nd nd),(4,.mref bm),(51,.sl ts.length (tmAV ts) .none),(52,.int .i64 (ts.length:Nat)),(53,.int .i64 (vi:Nat))],J,U⟩:=by
 conv=>arg 2;whnf
 have lm:=hS.hJ.lt (List.mem_append_left _ hm)
 have lo:=hS.hJ.lt (i:=bo) (b:=.cells (drs D)) (by simp)
 have lH:=hS.pJ.le
 have lT:=hS.pU.le
 have hcut:=tmAV_cut ts vi hk
 generalize ts.getD vi t0=t at *
 obtain⟨f,w,l⟩:=t
 simp only at hcut hll hpm go
 have hll':l.length≤9223372036854775807:=by omega
 refine aw_reg fun K hK=>?_;simp(disch:=omega)[hcut,tmAV_len];refine hK _ ?_;clear hK K
 have ho1:HOk (J++[.cells [.int .i64 f,.str w,.sl l.length (psAV l) .none]]) U:=hS.ok.snoc (by simp)
 have hS2:=hS.new _ ho1
 have hll2:(J++[Blk.cells [.int .i64 f,.str w,.sl l.length (psAV l) .none]]).length=J.length+1:=by simp
 obtain⟨p8,h8⟩:∃i,i=J.length:=⟨_,rfl⟩
 rw[←h8] at hS2
 simp only[←h8]
 generalize J++[Blk.cells [.int .i64 f,.str w,.sl l.length (psAV l) .none]]=J1 at *
 have g8:=hS2.hJ.get (i:=p8) (b:=.cells [.int .i64 f,.str w,.sl l.length (psAV l) .none]) (by simp)
 have l8:=(List.getElem?_eq_some_iff.1 g8).1
 have e8:=at_of g8
 refine aw_reg fun K hK=>?_;simp(disch:=omega)[e8];refine hK _ ?_;clear hK K
 refine aw_block ?_
 refine aw_loop (X:=Nat×List Blk×List Dz) (fun x=>⟨[(1,.ptr b1 0),(3,.csl bo nd nd),(4,.mref bm),(51,.sl ts.length (tmAV ts) .none),(52,.int .i64 (ts.length:Nat)),(53,.int .i64 (vi:Nat)),(8,.ptr p8 0),(58,.sl l.length (psAV l) .none),(59,.int .i64 (l.length:Nat)),(60,.int .i64 (x.1:Nat))],x.2.1,U⟩)
  (fun x=>x.1≤l.length∧DS H T ((p8,.cells [.int .i64 f,.str w,.sl l.length (psAV l) .none])::R) bo (N+401*x.1) x.2.1 U x.2.2∧J1.length≤x.2.1.length∧x.2.2.map (·.id)=ids∧x.2.2.map Dz.dc=(l.take x.1).foldl (stepP f w) (D.map Dz.dc)) (fun x=>l.length-x.1) (0,J1,D) ?_ ?_ ?_
 ·exact⟨Nat.zero_le _,hS2,Nat.le_refl _,hids,by simp⟩
 ·refine weak_to [] [] ?_ ?_ ?_ ?_ hS2.ok ?_
  all_goals simp
  all_goals omega
 ·rintro⟨k,J2,D2⟩ ⟨k1,k2,k3,k4,k5⟩
  simp only at k1 k2 k3 k4 k5
  have lH2:=k2.pJ.le
  have lT2:=k2.pU.le
  refine aw_reg fun K hK=>?_;simp(disch:=omega) ;refine hK _ ?_;clear hK K
  refine aw_then fun K2 hK2=>?_
  refine aw_if rfl (fun hk5=>?_) (fun hk5=>?_)
  ·simp  at hk5
   have hp:=hpm _ (getD_mem l k p0 hk5)
   refine aw_skip ?_;simp(disch:=omega) 
   refine hK2 _ ?_;clear hK2
   refine aw_then fun K3 hK3=>?_
   refine aw_block ?_
   refine aw_weak ⟨[(1,.ptr b1 0),(3,.csl bo nd nd),(4,.mref bm),(51,.sl ts.length (tmAV ts) .none),(52,.int .i64 (ts.length:Nat)),(53,.int .i64 (vi:Nat)),(8,.ptr p8 0),(58,.sl l.length (psAV l) .none),(59,.int .i64 (l.length:Nat)),(60,.int .i64 (k:Nat))],J2,U⟩ (weak_to [] [] (by simp) (by simp) (by show H.length≤_;omega) (by show T.length≤_;omega) k2.ok (by simp;omega)) ?_
   refine post_step H T ts l vi k b1 bo bm nd p8 (N+401*k) f w _ ids _ J2 U D2 k2 k4 hnd hft hndl hk5 (by omega) hp.1 hp.2 (by omega) (by omega) hbo (by simp[hm]) (List.mem_cons_self ..) _ fun e J' D' a1 a2 a3 a4 a5=>?_
   have lH3:=a1.pJ.le
   have lT3:=a1.pU.le
   refine hK3 _ (aw_weak ⟨[(1,.ptr b1 0),(3,.csl bo nd nd),(4,.mref bm),(51,.sl ts.length (tmAV ts) .none),(52,.int .i64 (ts.length:Nat)),(53,.int .i64 (vi:Nat)),(8,.ptr p8 0),(58,.sl l.length (psAV l) .none),(59,.int .i64 (l.length:Nat)),(60,.int .i64 (k:Nat))],J',U⟩ (weak_to [] [] (by simp) (by simp) (by show H.length≤_;omega) (by show T.length≤_;omega) a1.ok a5) ?_)
   clear hK3
   refine aw_reg0 fun K hK=>?_;simp(disch:=omega) 
   refine hK _ ?_;clear hK K
   refine⟨(k+1,J',D'),⟨by show k+1≤_;omega,a1.more (by omega),by show J1.length≤J'.length;omega,a3,?_⟩,by show l.length-(k+1)<l.length-k;omega,?_⟩
   ·show D'.map Dz.dc=(l.take (k+1)).foldl _ _
    rw[foldl_take _ _ _ p0 k hk5,a4,k5]
   ·refine weak_to [] [] ?_ ?_ ?_ ?_ a1.ok ?_
    all_goals simp
    all_goals omega
  ·simp  at hk5
   have hkk:k=l.length:=by omega
   subst hkk
   refine aw_exit ?_;simp(disch:=omega) 
   rw[List.take_length] at k5
   refine go _ J2 D2 ((k2.more (by omega)).sub (by simp)) (by omega) k4 k5 ?_
   simp;omega
attribute [-simp] List.getD_eq_getElem?_getD in
set_option maxHeartbeats 16000000 in
theorem terms_loop39 (H:List Blk)(T:Toks)(s:Sg)(b1 bo bm nd:Nat)(N:Nat)(ids:List Int)(R:List (Nat×Blk))(J:List Blk)(U:Toks)(D:List Dz)
  (hS:DS H T R bo N J U D) (hids:D.map (·.id)=ids) (hndl:nd=ids.length) (hnd:ids.Nodup) (hft:∀i∈ids,1≤i∧i≤1000000000) (hs:SzS s) (hpm:∀t∈s.tms,∀p∈t.l,p.1∈ids) (hN:N+160400000≤1099511627776) (h1:(b1,.cells (sgC s))∈R) (hbo:H.length≤bo)
  (hm:(bm,.map (mapE ids))∈R) (Q:Exit→St→Prop)
  (go:∀(e:Env)(J':List Blk)(D':List Dz),DS H T R bo (N+160400000) J' U D'→D'.map (·.id)=ids→D'.map Dz.dc=s.tms.foldl stepT (D.map Dz.dc)→
   envLe J'.length U.length e [(1,.ptr b1 0),(3,.csl bo nd nd),(4,.mref bm)]→AW ⟨Tryz.prog,192,190,H.length,T.length,[100100,100131]⟩ (subC [1,1,1,1,1,1] (Tryz.f40.body.getD .skip)) Q ⟨e,J',U⟩) :
  AW ⟨Tryz.prog,192,190,H.length,T.length,[100100,100131]⟩ (subC [1,1,1,1,1] (Tryz.f40.body.getD .skip)) Q ⟨[(1,.ptr b1 0),(3,.csl bo nd nd),(4,.mref bm)],J,U⟩:=by
 conv=>arg 2;whnf
 have lm:=hS.hJ.lt (List.mem_append_left _ hm)
 have lo:=hS.hJ.lt (i:=bo) (b:=.cells (drs D)) (by simp)
 have g1:=hS.hJ.get (List.mem_append_left _ h1)
 have l1:=(List.getElem?_eq_some_iff.1 g1).1
 have e1:=at_of g1
 have lH:=hS.pJ.le
 have lT:=hS.pU.le
 obtain⟨docs,ts,cols⟩:=s
 obtain⟨sd,st,sw,sc,sx⟩:=hs
 simp only at e1 sd st sw sc sx hpm go
 have htl:ts.length≤9223372036854775807:=by omega
 refine aw_then fun K1 hK1=>?_
 refine aw_reg fun K hK=>?_;simp(disch:=omega)[e1];refine hK _ ?_;clear hK K
 refine aw_block ?_
 refine aw_loop (X:=Nat×List Blk×List Dz) (fun x=>⟨[(1,.ptr b1 0),(3,.csl bo nd nd),(4,.mref bm),(51,.sl ts.length (tmAV ts) .none),(52,.int .i64 (ts.length:Nat)),(53,.int .i64 (x.1:Nat))],x.2.1,U⟩)
  (fun x=>x.1≤ts.length∧DS H T R bo (N+160400*x.1) x.2.1 U x.2.2∧J.length≤x.2.1.length∧x.2.2.map (·.id)=ids∧x.2.2.map Dz.dc=(ts.take x.1).foldl stepT (D.map Dz.dc)) (fun x=>ts.length-x.1) (0,J,D) ?_ ?_ ?_
 ·exact⟨Nat.zero_le _,hS,Nat.le_refl _,hids,by simp⟩
 ·refine weak_to [] [] ?_ ?_ ?_ ?_ hS.ok ?_
  all_goals simp
  all_goals omega
 ·rintro⟨k,J2,D2⟩ ⟨k1,k2,k3,k4,k5⟩
  simp only at k1 k2 k3 k4 k5
  have lH2:=k2.pJ.le
  have lT2:=k2.pU.le
  refine aw_reg fun K hK=>?_;simp(disch:=omega) ;refine hK _ ?_;clear hK K
  refine aw_then fun K2 hK2=>?_
  refine aw_if rfl (fun hk5=>?_) (fun hk5=>?_)
  ·simp  at hk5
   have htm:=getD_mem ts k t0 hk5
   have hw:=sw _ htm
   refine aw_skip ?_;simp(disch:=omega) 
   refine hK2 _ ?_;clear hK2
   refine aw_then fun K3 hK3=>?_
   refine aw_block ?_
   refine aw_weak ⟨[(1,.ptr b1 0),(3,.csl bo nd nd),(4,.mref bm),(51,.sl ts.length (tmAV ts) .none),(52,.int .i64 (ts.length:Nat)),(53,.int .i64 (k:Nat))],J2,U⟩ (weak_to [] [] (by simp) (by simp) (by show H.length≤_;omega) (by show T.length≤_;omega) k2.ok (by simp;omega)) ?_
   refine term_step H T ts k b1 bo bm nd (N+160400*k) ids _ J2 U D2 k2 k4 hndl hnd hft hk5 hw.2.1 (fun p hp=>⟨hpm _ htm p hp,hw.2.2 p hp⟩) (by omega) (by omega) hbo hm _ fun e J' D' a1 a2 a3 a4 a5=>?_
   have lH3:=a1.pJ.le
   have lT3:=a1.pU.le
   refine hK3 _ (aw_weak ⟨[(1,.ptr b1 0),(3,.csl bo nd nd),(4,.mref bm),(51,.sl ts.length (tmAV ts) .none),(52,.int .i64 (ts.length:Nat)),(53,.int .i64 (k:Nat))],J',U⟩ (weak_to [] [] (by simp) (by simp) (by show H.length≤_;omega) (by show T.length≤_;omega) a1.ok a5) ?_)
   clear hK3
   refine aw_reg0 fun K hK=>?_;simp(disch:=omega) 
   refine hK _ ?_;clear hK K
   refine⟨(k+1,J',D'),⟨by show k+1≤_;omega,a1.more (by omega),by show J.length≤J'.length;omega,a3,?_⟩,by show ts.length-(k+1)<ts.length-k;omega,?_⟩
   ·show D'.map Dz.dc=(ts.take (k+1)).foldl _ _
    rw[foldl_take _ _ _ t0 k hk5,a4,k5]
   ·refine weak_to [] [] ?_ ?_ ?_ ?_ a1.ok ?_
    all_goals simp
    all_goals omega
  ·simp  at hk5
   have hkk:k=ts.length:=by omega
   subst hkk
   refine aw_exit ?_;simp(disch:=omega) 
   rw[List.take_length] at k5
   refine hK1 _ ?_;clear hK1
   refine go _ J2 D2 (k2.more (by omega)) k4 k5 ?_
   simp;omega
attribute [-simp] List.getD_eq_getElem?_getD in
set_option maxHeartbeats 16000000 in
theorem item_step (H:List Blk)(T:Toks)(cols:List Cl)(x:List Nm)(vi vk b1 bo bm nd p17:Nat)(N:Nat)(f:Int)(xv:AV)(ids:List Int)(R:List (Nat×Blk))(J:List Blk)(U:Toks)(D:List Dz)
  (hS:DS H T R bo N J U D) (hids:D.map (·.id)=ids) (hndl:nd=ids.length) (hnd:ids.Nodup) (hft:∀i∈ids,1≤i∧i≤1000000000) (hk:vk<x.length) (hll:x.length≤1000) (hpm:(x.getD vk n0).2∈ids) (hN:N+1≤1099511627776) (hb1:b1<J.length) (hbo:H.length≤bo)
  (hm:(bm,.map (mapE ids))∈R) (h17:(p17,.cells [.int .i64 f,xv])∈R) (Q:Exit→St→Prop)
  (go:∀(e:Env)(J':List Blk)(U':Toks)(D':List Dz),(HOk J' U'→DS H T R bo (N+1) J' U' D')→J.length≤J'.length→D'.map (·.id)=ids→D'.map Dz.dc=stepI f (D.map Dz.dc) (x.getD vk n0)→
   envLe J'.length U'.length e [(1,.ptr b1 0),(3,.csl bo nd nd),(4,.mref bm),(138,.sl cols.length (clAV cols) .none),(139,.int .i64 (cols.length:Nat)),(140,.int .i64 (vi:Nat)),(17,.ptr p17 0),(145,.sl x.length (nmAV x) .none),(146,.int .i64 (x.length:Nat)),(147,.int .i64 (vk:Nat))]→Q .normal ⟨e,J',U'⟩) :
  AW ⟨Tryz.prog,192,190,H.length,T.length,[100100,100131]⟩ (subC [1,1,1,1,1,1,0,1,0,0,1,1,0,0,1,1,0,0,1,1,0,0] (Tryz.f40.body.getD .skip)) Q ⟨[(1,.ptr b1 0),(3,.csl bo nd nd),(4,.mref bm),(138,.sl cols.length (clAV cols) .none),(139,.int .i64 (cols.length:Nat)),(140,.int .i64 (vi:Nat)),(17,.ptr p17 0),(145,.sl x.length (nmAV x) .none),(146,.int .i64 (x.length:Nat)),(147,.int .i64 (vk:Nat))],J,U⟩:=by
 conv=>arg 2;whnf
 have lm:=hS.hJ.lt (List.mem_append_left _ hm)
 have l17:=hS.hJ.lt (List.mem_append_left _ h17)
 have lo:=hS.hJ.lt (i:=bo) (b:=.cells (drs D)) (by simp)
 have lH:=hS.pJ.le
 have lT:=hS.pU.le
 have hcut:=nmAV_cut x vk hk
 generalize x.getD vk n0=y at *
 obtain⟨yn,yd⟩:=y
 simp only at hcut hpm go
 refine aw_reg fun K hK=>?_;simp(disch:=omega)[hcut,nmAV_len];refine hK _ ?_;clear hK K
 have ho1:HOk (J++[.cells [.int .i64 yn,.int .i64 yd]]) U:=hS.ok.snoc (by simp)
 have hS2:=hS.new _ ho1
 have hll2:(J++[Blk.cells [.int .i64 yn,.int .i64 yd]]).length=J.length+1:=by simp
 obtain⟨p19,h19⟩:∃i,i=J.length:=⟨_,rfl⟩
 rw[←h19] at hS2
 simp only[←h19]
 generalize J++[Blk.cells [.int .i64 yn,.int .i64 yd]]=J1 at *
 obtain⟨k,hkl,hkp⟩:=mem_getD 0 hpm
 have hDl:D.length=ids.length:=by rw[←hids,List.length_map]
 obtain⟨D1,d,D2,hD,hD1⟩:=split_at (D:=D) (k:=k) (by omega)
 have hdid:d.id=yd:=by
  rw[←hkp,←hids,hD,List.getD_eq_getElem?_getD,List.getElem?_map,List.getElem?_append_right (by omega),hD1,Nat.sub_self];rfl
 subst hD
 have g19:=hS2.hJ.get (i:=p19) (b:=.cells [.int .i64 yn,.int .i64 yd]) (by simp)
 have g17:=hS2.hJ.get (i:=p17) (b:=.cells [.int .i64 f,xv]) (by simp[h17])
 have g2:=hS2.hJ.get (i:=bm) (b:=.map (mapE ids)) (by simp[hm])
 have go_:=hS2.hJ.get (i:=bo) (b:=.cells (drs (D1++d::D2))) (by simp)
 have l19:=(List.getElem?_eq_some_iff.1 g19).1
 have l17':=(List.getElem?_eq_some_iff.1 g17).1
 have l2:=(List.getElem?_eq_some_iff.1 g2).1
 have lo':=(List.getElem?_eq_some_iff.1 go_).1
 have e19:=at_of g19
 have e17:=at_of g17
 have e2:=at_of g2
 have eo:=at_of go_
 have hlook:=mapE_get hnd hkl
 rw[hkp] at hlook
 have hfm:=fitD hft
 have hfi:=fitF yd (by have:=hft yd hpm;omega)
 have hkey:keyF yd=.one (.int .i64 yd):=rfl
 rw[hkey] at hfi
 have hkn:k<nd:=by omega
 refine aw_reg fun K hK=>?_;simp(disch:=omega)[mapT160,e19,e2,hlook,hfm,hfi];refine hK _ ?_;clear hK K
 subst hD1
 obtain⟨r1,r2,r3⟩:=drs_at (D1:=D1) (D2:=D2) d
 have hrl:(drs (D1++d::D2)).length=(D1.length+1+D2.length)*3:=by rw[drs_len];simp;omega
 have hset:=fun v=>(drs_set (D1:=D1) (D2:=D2) d v).2
 obtain⟨hz1,hz2,hz3,hz4⟩:=hS2.hD d (by simp)
 obtain⟨id,zs,i,cap,rest,ns,tk⟩:=d
 simp only at r1 r2 r3 hset hdid hz1 hz2 hz3 hz4
 have hT:(D1++⟨id,zs,i,cap,rest,ns,tk⟩::D2).flatMap Dz.tx=D1.flatMap Dz.tx++(Dz.tx ⟨id,zs,i,cap,rest,ns,tk⟩++D2.flatMap Dz.tx):=by simp
 have hU2:=hS2.hU
 rw[hT] at hU2
 have fin:∀(e:Env)(U2:Toks)(tk2:Nat),Has U2 (D1.flatMap Dz.tx++((tk2,((ns.length+1)*2,2))::D2.flatMap Dz.tx))→T.length≤tk2→Pre T U2→U.length≤U2.length→
   envLe J1.length U2.length e [(1,.ptr b1 0),(3,.csl bo nd nd),(4,.mref bm),(138,.sl cols.length (clAV cols) .none),(139,.int .i64 (cols.length:Nat)),(140,.int .i64 (vi:Nat)),(17,.ptr p17 0),(145,.sl x.length (nmAV x) .none),(146,.int .i64 (x.length:Nat)),(147,.int .i64 (vk:Nat))]→Q .normal ⟨e,J1.set bo (.cells (drs D1++([.int .i64 id,gv zs.length i cap,.sl (ns.length+1) (nmAV (ns++[(f,yn)])) (.own tk2)]++drs D2))),U2⟩:=by
  intro e U2 tk2 hU' htk hP hUl he
  have hdr:drs (D1++⟨id,zs,i,cap,rest,ns++[(f,yn)],tk2⟩::D2)=drs D1++([.int .i64 id,gv zs.length i cap,.sl (ns.length+1) (nmAV (ns++[(f,yn)])) (.own tk2)]++drs D2):=by simp[drs,ov]
  rw[←hdr]
  refine go _ _ _ (D1++⟨id,zs,i,cap,rest,ns++[(f,yn)],tk2⟩::D2) (fun ho=>⟨?_,?_,?_,hS2.pJ.set hbo _,hP,ho⟩) (by simp;omega) ?_ ?_ (by simpa using he)
  ·have:=Has.set (A:=(p19,.cells [.int .i64 yn,.int .i64 yd])::R) (B:=(D1++⟨id,zs,i,cap,rest,ns,tk⟩::D2).flatMap Dz.bx) hS2.hJ (.cells (drs (D1++⟨id,zs,i,cap,rest,ns++[(f,yn)],tk2⟩::D2)))
   have h2:=this.sub ((List.sublist_cons_self (p19,Blk.cells [.int .i64 yn,.int .i64 yd]) R).append_right _)
   simpa[Dz.bx] using h2
  ·rw[List.flatMap_append,List.flatMap_cons]
   simpa[Dz.tx] using hU'
  ·intro y hy
   rcases List.mem_append.1 hy with hy|hy
   ·exact(hS2.hD y (by simp[hy])).more (Nat.le_succ _)
   rcases List.mem_cons.1 hy with rfl|hy
   ·exact⟨hz1.more (Nat.le_succ _),fun z hz=>(hz2 z hz).more (Nat.le_succ _),⟨by simp;omega,fun _=>htk⟩⟩
   ·exact(hS2.hD y (by simp[hy])).more (Nat.le_succ _)
  ·rw[←hids];simp
  ·unfold stepI
   simp only
   rw[←hdid]
   exact updD_mid (d:=⟨id,zs,i,cap,rest,ns,tk⟩) (by rw[hids];exact hnd) (by simp[Dz.dc,addN])
 rcases List.eq_nil_or_concat ns with hn|⟨ns0,x0,hn⟩
 ·subst hn
  simp only[ov,if_true] at r3
  simp only[Dz.tx,if_true,List.nil_append] at hU2
  refine aw_draw0 [11,14] [0,0,0,0,0,0,0,0,0,0,0,0,1,1,1] [[0],[]] drawMixed (by kernel_rfl) (by kernel_rfl) fun K hK=>?_;simp(disch:=omega)[eo,r3,hrl,e17,e19,hset]
  refine hK _ (fin _ _ U.length ?_ lT (hS2.pU.app _) (by simp) (by simp;omega))
  have:=hU2.new (2,2)
  refine this.perm ?_
  rw[List.append_assoc]
  exact(List.perm_append_singleton _ _).symm.append_left _
 ·rw[List.concat_eq_append] at hn
  subst hn
  have hne:¬ns0++[x0]=[]:=by simp
  simp only[ov,if_neg hne] at r3
  simp only[Dz.tx,if_neg hne,List.singleton_append] at hU2
  have gU:=hU2.get (i:=tk) (b:=((ns0++[x0]).length*2,2)) (by simp)
  have lU:=(List.getElem?_eq_some_iff.1 gU).1
  have eU:=at_of gU
  have hnl:=nmAV_len (ns0++[x0])
  have hq:ns0.length+1≤N:=by simpa using hz3
  have hsn:=nmAV_snoc (ns0++[x0]) (f,yn)
  simp only at hsn
  refine aw_draw0 [11,14] [0,0,0,0,0,0,0,0,0,0,0,0,1,1,1] [[0],[]] drawMixed (by kernel_rfl) (by kernel_rfl) fun K hK=>?_;simp(disch:=omega)[eo,r3,hrl,e17,e19,hset,eU,hnl,hsn]
  simp only[List.length_append,List.length_singleton] at fin
  have hap:ns0++[x0,(f,yn)]=ns0++[x0]++[(f,yn)]:=by simp
  first|rw[hap]|skip
  refine hK _ ?_
  refine fin _ (U.set tk ((ns0.length+1+1)*2,2)) tk ?_ (hz4 hne) (hS2.pU.set (hz4 hne) _) (by simp) ?_
  ·have:=Has.set hU2 ((ns0.length+1+1)*2,2)
   simpa using this
  ·simp;omega
attribute [-simp] List.getD_eq_getElem?_getD in
set_option maxHeartbeats 16000000 in
theorem col_step (H:List Blk)(T:Toks)(cols:List Cl)(vi b1 bo bm nd:Nat)(N:Nat)(ids:List Int)(R:List (Nat×Blk))(J:List Blk)(U:Toks)(D:List Dz)
  (hS:DS H T R bo N J U D) (hids:D.map (·.id)=ids) (hndl:nd=ids.length) (hnd:ids.Nodup) (hft:∀i∈ids,1≤i∧i≤1000000000) (hk:vi<cols.length) (hll:(cols.getD vi c0).x.length≤1000) (hpm:∀y∈(cols.getD vi c0).x,y.2∈ids) (hN:N+1000≤1099511627776) (hb1:b1<J.length) (hbo:H.length≤bo)
  (hm:(bm,.map (mapE ids))∈R) (Q:Exit→St→Prop)
  (go:∀(e:Env)(J':List Blk)(U':Toks)(D':List Dz),DS H T R bo (N+1000) J' U' D'→J.length≤J'.length→D'.map (·.id)=ids→D'.map Dz.dc=stepC (D.map Dz.dc) (cols.getD vi c0)→
   envLe J'.length U'.length e [(1,.ptr b1 0),(3,.csl bo nd nd),(4,.mref bm),(138,.sl cols.length (clAV cols) .none),(139,.int .i64 (cols.length:Nat)),(140,.int .i64 (vi:Nat))]→Q .normal ⟨e,J',U'⟩) :
  AW ⟨Tryz.prog,192,190,H.length,T.length,[100100,100131]⟩ (subC [1,1,1,1,1,1,0,1,0,0,1,1,0,0] (Tryz.f40.body.getD .skip)) Q ⟨[(1,.ptr b1 0),(3,.csl bo nd nd),(4,.mref bm),(138,.sl cols.length (clAV cols) .none),(139,.int .i64 (cols.length:Nat)),(140,.int .i64 (vi:Nat))],J,U⟩:=by
 conv=>arg 2;whnf
 have lm:=hS.hJ.lt (List.mem_append_left _ hm)
 have lo:=hS.hJ.lt (i:=bo) (b:=.cells (drs D)) (by simp)
 have lH:=hS.pJ.le
 have lT:=hS.pU.le
 have hcut:=clAV_cut cols vi hk
 generalize cols.getD vi c0=t at *
 obtain⟨f,x⟩:=t
 simp only at hcut hll hpm go
 have hll':x.length≤9223372036854775807:=by omega
 refine aw_reg fun K hK=>?_;simp(disch:=omega)[hcut,clAV_len];refine hK _ ?_;clear hK K
 have ho1:HOk (J++[.cells [.int .i64 f,.sl x.length (nmAV x) .none]]) U:=hS.ok.snoc (by simp)
 have hS2:=hS.new _ ho1
 have hll2:(J++[Blk.cells [.int .i64 f,.sl x.length (nmAV x) .none]]).length=J.length+1:=by simp
 obtain⟨p17,h17⟩:∃i,i=J.length:=⟨_,rfl⟩
 rw[←h17] at hS2
 simp only[←h17]
 generalize J++[Blk.cells [.int .i64 f,.sl x.length (nmAV x) .none]]=J1 at *
 have g17:=hS2.hJ.get (i:=p17) (b:=.cells [.int .i64 f,.sl x.length (nmAV x) .none]) (by simp)
 have l17:=(List.getElem?_eq_some_iff.1 g17).1
 have e17:=at_of g17
 refine aw_reg fun K hK=>?_;simp(disch:=omega)[e17];refine hK _ ?_;clear hK K
 refine aw_block ?_
 refine aw_loop (X:=Nat×List Blk×Toks×List Dz) (fun y=>⟨[(1,.ptr b1 0),(3,.csl bo nd nd),(4,.mref bm),(138,.sl cols.length (clAV cols) .none),(139,.int .i64 (cols.length:Nat)),(140,.int .i64 (vi:Nat)),(17,.ptr p17 0),(145,.sl x.length (nmAV x) .none),(146,.int .i64 (x.length:Nat)),(147,.int .i64 (y.1:Nat))],y.2.1,y.2.2.1⟩)
  (fun y=>y.1≤x.length∧DS H T ((p17,.cells [.int .i64 f,.sl x.length (nmAV x) .none])::R) bo (N+y.1) y.2.1 y.2.2.1 y.2.2.2∧J1.length≤y.2.1.length∧y.2.2.2.map (·.id)=ids∧y.2.2.2.map Dz.dc=(x.take y.1).foldl (stepI f) (D.map Dz.dc)) (fun y=>x.length-y.1) (0,J1,U,D) ?_ ?_ ?_
 ·exact⟨Nat.zero_le _,hS2,Nat.le_refl _,hids,by simp⟩
 ·refine weak_to [] [] ?_ ?_ ?_ ?_ hS2.ok ?_
  all_goals simp
  all_goals omega
 ·rintro⟨k,J2,U2,D2⟩ ⟨k1,k2,k3,k4,k5⟩
  simp only at k1 k2 k3 k4 k5
  have lH2:=k2.pJ.le
  have lT2:=k2.pU.le
  refine aw_reg fun K hK=>?_;simp(disch:=omega) ;refine hK _ ?_;clear hK K
  refine aw_then fun K2 hK2=>?_
  refine aw_if rfl (fun hk5=>?_) (fun hk5=>?_)
  ·simp  at hk5
   have hp:=hpm _ (getD_mem x k n0 hk5)
   refine aw_skip ?_;simp(disch:=omega) 
   refine hK2 _ ?_;clear hK2
   refine aw_then fun K3 hK3=>?_
   refine aw_block ?_
   refine aw_weak ⟨[(1,.ptr b1 0),(3,.csl bo nd nd),(4,.mref bm),(138,.sl cols.length (clAV cols) .none),(139,.int .i64 (cols.length:Nat)),(140,.int .i64 (vi:Nat)),(17,.ptr p17 0),(145,.sl x.length (nmAV x) .none),(146,.int .i64 (x.length:Nat)),(147,.int .i64 (k:Nat))],J2,U2⟩ (weak_to [] [] (by simp) (by simp) (by show H.length≤_;omega) (by show T.length≤_;omega) k2.ok (by simp;omega)) ?_
   refine item_step H T cols x vi k b1 bo bm nd p17 (N+k) f _ ids _ J2 U2 D2 k2 k4 hndl hnd hft hk5 hll hp (by omega) (by omega) hbo (by simp[hm]) (List.mem_cons_self ..) _ fun e J' U' D' a1 a2 a3 a4 a5=>?_
   refine hK3 _ (aw_hok fun HO3=>?_)
   replace a1:=a1 HO3
   have lH3:=a1.pJ.le
   have lT3:=a1.pU.le
   refine aw_weak ⟨[(1,.ptr b1 0),(3,.csl bo nd nd),(4,.mref bm),(138,.sl cols.length (clAV cols) .none),(139,.int .i64 (cols.length:Nat)),(140,.int .i64 (vi:Nat)),(17,.ptr p17 0),(145,.sl x.length (nmAV x) .none),(146,.int .i64 (x.length:Nat)),(147,.int .i64 (k:Nat))],J',U'⟩ (weak_to [] [] (by simp) (by simp) (by show H.length≤_;omega) (by show T.length≤_;omega) a1.ok a5) ?_
   clear hK3
   refine aw_reg0 fun K hK=>?_;simp(disch:=omega) 
   refine hK _ ?_;clear hK K
   refine⟨(k+1,J',U',D'),⟨by show k+1≤_;omega,a1,by show J1.length≤J'.length;omega,a3,?_⟩,by show x.length-(k+1)<x.length-k;omega,?_⟩
   ·show D'.map Dz.dc=(x.take (k+1)).foldl _ _
    rw[foldl_take _ _ _ n0 k hk5,a4,k5]
   ·refine weak_to [] [] ?_ ?_ ?_ ?_ a1.ok ?_
    all_goals simp
    all_goals omega
  ·simp  at hk5
   have hkk:k=x.length:=by omega
   subst hkk
   refine aw_exit ?_;simp(disch:=omega) 
   rw[List.take_length] at k5
   refine go _ J2 U2 D2 ((k2.more (by omega)).sub (by simp)) (by omega) k4 k5 ?_
   simp;omega
attribute [-simp] List.getD_eq_getElem?_getD in
set_option maxHeartbeats 16000000 in
theorem cols_loop39 (H:List Blk)(T:Toks)(s:Sg)(b1 bo bm nd:Nat)(N:Nat)(ids:List Int)(R:List (Nat×Blk))(J:List Blk)(U:Toks)(D:List Dz)
  (hS:DS H T R bo N J U D) (hids:D.map (·.id)=ids) (hndl:nd=ids.length) (hnd:ids.Nodup) (hft:∀i∈ids,1≤i∧i≤1000000000) (hs:SzS s) (hpm:∀c∈s.cols,∀y∈c.x,y.2∈ids) (hN:N+1000000≤1099511627776) (h1:(b1,.cells (sgC s))∈R) (hbo:H.length≤bo)
  (hm:(bm,.map (mapE ids))∈R) (Q:Exit→St→Prop)
  (go:∀(e:Env)(J':List Blk)(U':Toks)(D':List Dz),DS H T R bo (N+1000000) J' U' D'→D'.map (·.id)=ids→D'.map Dz.dc=s.cols.foldl stepC (D.map Dz.dc)→
   envLe J'.length U'.length e [(1,.ptr b1 0),(3,.csl bo nd nd),(4,.mref bm)]→AW ⟨Tryz.prog,192,190,H.length,T.length,[100100,100131]⟩ (subC [1,1,1,1,1,1,1] (Tryz.f40.body.getD .skip)) Q ⟨e,J',U'⟩) :
  AW ⟨Tryz.prog,192,190,H.length,T.length,[100100,100131]⟩ (subC [1,1,1,1,1,1] (Tryz.f40.body.getD .skip)) Q ⟨[(1,.ptr b1 0),(3,.csl bo nd nd),(4,.mref bm)],J,U⟩:=by
 conv=>arg 2;whnf
 have lm:=hS.hJ.lt (List.mem_append_left _ hm)
 have lo:=hS.hJ.lt (i:=bo) (b:=.cells (drs D)) (by simp)
 have g1:=hS.hJ.get (List.mem_append_left _ h1)
 have l1:=(List.getElem?_eq_some_iff.1 g1).1
 have e1:=at_of g1
 have lH:=hS.pJ.le
 have lT:=hS.pU.le
 obtain⟨docs,ts,cols⟩:=s
 obtain⟨sd,st,sw,sc,sx⟩:=hs
 simp only at e1 sd st sw sc sx hpm go
 have htl:cols.length≤9223372036854775807:=by omega
 refine aw_then fun K1 hK1=>?_
 refine aw_reg fun K hK=>?_;simp(disch:=omega)[e1];refine hK _ ?_;clear hK K
 refine aw_block ?_
 refine aw_loop (X:=Nat×List Blk×Toks×List Dz) (fun x=>⟨[(1,.ptr b1 0),(3,.csl bo nd nd),(4,.mref bm),(138,.sl cols.length (clAV cols) .none),(139,.int .i64 (cols.length:Nat)),(140,.int .i64 (x.1:Nat))],x.2.1,x.2.2.1⟩)
  (fun x=>x.1≤cols.length∧DS H T R bo (N+1000*x.1) x.2.1 x.2.2.1 x.2.2.2∧J.length≤x.2.1.length∧x.2.2.2.map (·.id)=ids∧x.2.2.2.map Dz.dc=(cols.take x.1).foldl stepC (D.map Dz.dc)) (fun x=>cols.length-x.1) (0,J,U,D) ?_ ?_ ?_
 ·exact⟨Nat.zero_le _,hS,Nat.le_refl _,hids,by simp⟩
 ·refine weak_to [] [] ?_ ?_ ?_ ?_ hS.ok ?_
  all_goals simp
  all_goals omega
 ·rintro⟨k,J2,U2,D2⟩ ⟨k1,k2,k3,k4,k5⟩
  simp only at k1 k2 k3 k4 k5
  have lH2:=k2.pJ.le
  have lT2:=k2.pU.le
  refine aw_reg fun K hK=>?_;simp(disch:=omega) ;refine hK _ ?_;clear hK K
  refine aw_then fun K2 hK2=>?_
  refine aw_if rfl (fun hk5=>?_) (fun hk5=>?_)
  ·simp  at hk5
   have htm:=getD_mem cols k c0 hk5
   have hw:=sx _ htm
   refine aw_skip ?_;simp(disch:=omega) 
   refine hK2 _ ?_;clear hK2
   refine aw_then fun K3 hK3=>?_
   refine aw_block ?_
   refine aw_weak ⟨[(1,.ptr b1 0),(3,.csl bo nd nd),(4,.mref bm),(138,.sl cols.length (clAV cols) .none),(139,.int .i64 (cols.length:Nat)),(140,.int .i64 (k:Nat))],J2,U2⟩ (weak_to [] [] (by simp) (by simp) (by show H.length≤_;omega) (by show T.length≤_;omega) k2.ok (by simp;omega)) ?_
   refine col_step H T cols k b1 bo bm nd (N+1000*k) ids _ J2 U2 D2 k2 k4 hndl hnd hft hk5 hw (fun p hp=>hpm _ htm p hp) (by omega) (by omega) hbo hm _ fun e J' U' D' a1 a2 a3 a4 a5=>?_
   have lH3:=a1.pJ.le
   have lT3:=a1.pU.le
   refine hK3 _ (aw_weak ⟨[(1,.ptr b1 0),(3,.csl bo nd nd),(4,.mref bm),(138,.sl cols.length (clAV cols) .none),(139,.int .i64 (cols.length:Nat)),(140,.int .i64 (k:Nat))],J',U'⟩ (weak_to [] [] (by simp) (by simp) (by show H.length≤_;omega) (by show T.length≤_;omega) a1.ok a5) ?_)
   clear hK3
   refine aw_reg0 fun K hK=>?_;simp(disch:=omega) 
   refine hK _ ?_;clear hK K
   refine⟨(k+1,J',U',D'),⟨by show k+1≤_;omega,a1.more (by omega),by show J.length≤J'.length;omega,a3,?_⟩,by show cols.length-(k+1)<cols.length-k;omega,?_⟩
   ·show D'.map Dz.dc=(cols.take (k+1)).foldl _ _
    rw[foldl_take _ _ _ c0 k hk5,a4,k5]
   ·refine weak_to [] [] ?_ ?_ ?_ ?_ a1.ok ?_
    all_goals simp
    all_goals omega
  ·simp  at hk5
   have hkk:k=cols.length:=by omega
   subst hkk
   refine aw_exit ?_;simp(disch:=omega) 
   rw[List.take_length] at k5
   refine hK1 _ ?_;clear hK1
   refine go _ J2 U2 D2 (k2.more (by omega)) k4 k5 ?_
   simp;omega
end Go.Proofs.YtneohapkboaplaaGreat
