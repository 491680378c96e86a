/- segment.Documents (layer 39): the postings of the terms.
  Conditions: at most 400 documents, 1000 terms of at most 400 postings of at most 400 positions, as the theorems say. -/
import Derived.Test.YtneohapkboaplaaGreatGDb
set_option linter.all false
set_option maxRecDepth 100000
namespace Go.Proofs.YtneohapkboaplaaGreat
open Go Go.Am Sug Seg
def addZ (zs:List Zn)(f:Int)(ws:List Wd):List Zn:=match (opn zs f).getLast? with
 |some z=>(opn zs f).dropLast++[⟨z.f,z.ws++ws⟩]
 |none=>[]
theorem addZ_of {zs l:List Zn}{f:Int}{z:Zn}(h:opn zs f=l++[z])(ws:List Wd):addZ zs f ws=l++[⟨z.f,z.ws++ws⟩]:=by
 unfold addZ;rw[h];simp
def addW (f:Int)(ws:List Wd)(d:Dc):Dc:={ d with zs:=addZ d.zs f ws }
def addN (x:Nm)(d:Dc):Dc:={ d with ns:=d.ns++[x] }
def updD (L:List Dc)(id:Int)(g:Dc→Dc):List Dc:=L.map fun d=>if d.id=id then g d else d
def stepP (f:Int)(w:Bs)(L:List Dc)(p:Ps):List Dc:=updD L p.1 (addW f (p.2.map fun a=>(w,a)))
def stepT (L:List Dc)(t:Tm):List Dc:=t.l.foldl (stepP t.f t.w) L
def stepI (f:Int)(L:List Dc)(x:Nm):List Dc:=updD L x.2 (addN (f,x.1))
def stepC (L:List Dc)(c:Cl):List Dc:=c.x.foldl (stepI c.f) L
theorem foldl_take {α β:Type}(g:β→α→β)(l:List α)(b:β)(d:α)(j:Nat)(h:j<l.length):(l.take (j+1)).foldl g b=g ((l.take j).foldl g b) (l.getD j d):=by
 rw[take_getD l j d h,List.foldl_append];rfl
theorem updD_mid {D1 D2:List Dz}{d d':Dz}{g:Dc→Dc}(hn:((D1++d::D2).map (·.id)).Nodup)(hg:d'.dc=g d.dc):(D1++d'::D2).map Dz.dc=updD ((D1++d::D2).map Dz.dc) d.id g:=by
 rw[List.map_append,List.map_cons,List.nodup_append,List.nodup_cons] at hn
 obtain⟨_,⟨n1,_⟩,n2⟩:=hn
 have e1:∀x∈D1,(if x.dc.id=d.id then g x.dc else x.dc)=x.dc:=fun x hx=>if_neg fun h=>n2 x.id (List.mem_map.2 ⟨x,hx,rfl⟩) d.id (by simp) h
 have e2:∀x∈D2,(if x.dc.id=d.id then g x.dc else x.dc)=x.dc:=fun x hx=>if_neg fun h=>n1 (List.mem_map.2 ⟨x,hx,h⟩)
 unfold updD
 rw[List.map_map,List.map_append,List.map_append,List.map_cons,List.map_cons]
 congr 1
 ·exact List.map_congr_left fun x hx=>(e1 x hx).symm
 ·congr 1
  ·show d'.dc=if d.dc.id=d.id then g d.dc else d.dc
   rw[if_pos (show d.dc.id=d.id from rfl),hg]
  ·exact List.map_congr_left fun x hx=>(e2 x hx).symm
def mapE (ids:List Int):List (MKey×AV):=(List.range ids.length).map fun k=>(keyF (ids.getD k 0),.int .i64 (k:Nat))
theorem mapE_keys (ids:List Int):(mapE ids).map (·.1)=ids.map keyF:=by
 unfold mapE
 apply List.ext_getElem
 ·simp
 ·intro i h1 h2
  simp at h1
  simp[List.getD_eq_getElem?_getD,List.getElem?_eq_getElem h1]
theorem mapE_get {ids:List Int}(hn:ids.Nodup){k:Nat}(hk:k<ids.length):lookV (mapE ids) (.one (.int .i64 (ids.getD k 0))) (.int .i64 0) false=.int .i64 (k:Nat):=by
 have hn':((mapE ids).map (·.1)).Nodup:=by rw[mapE_keys];exact nodup_map (fun a b hab=>keyF_inj.1 hab) hn
 have hj:k<(mapE ids).length:=by simpa[mapE] using hk
 have he:(mapE ids)[k]'hj=(keyF (ids.getD k 0),.int .i64 (k:Nat)):=by simp[mapE]
 unfold lookV
 rw[show (MKey.one (.int .i64 (ids.getD k 0)):MKey)=keyF (ids.getD k 0) from rfl,mget_at hn' hj (by rw[he]),he]
 rfl
theorem fitD {ids:List Int}(h:∀i∈ids,1≤i∧i≤1000000000):keysFit Tryz.prog 3 (mapE ids)=true:=by
 unfold keysFit
 rw[List.all_eq_true]
 intro x hx
 have:x.1∈(mapE ids).map (·.1):=List.mem_map.2 ⟨x,hx,rfl⟩
 rw[mapE_keys] at this
 obtain⟨i,hi,e⟩:=List.mem_map.1 this
 rw[←e]
 have:=h i hi
 exact fitF i (by omega)
attribute [-simp] List.getD_eq_getElem?_getD in
set_option maxHeartbeats 16000000 in
theorem pos_loop (H:List Blk)(T:Toks)(ts:List Tm)(l:List Ps)(vi vj b1 bo bm nd p8 p10:Nat)(N:Nat)(f id:Int)(w:Bs)(lv:AV)(at_:List Int)(R:List (Nat×Blk))(J:List Blk)(U:Toks)(D1 D2:List Dz)(d:Dz)(zs:List Wz)(z:Wz)
  (hS:DS H T R bo N J U (D1++d::D2)) (hz:d.zs=zs++[z]) (hN:N+at_.length≤1099511627776) (hal:at_.length≤1000) (hb1:b1<J.length) (hbm:bm<J.length) (h8:(p8,.cells [.int .i64 f,.str w,lv])∈R) (h10:(p10,.cells [.int .i64 id,.sl at_.length (ints at_) .none])∈R) (Q:Exit→St→Prop)
  (go:∀(e:Env)(J':List Blk)(d':Dz)(z':Wz),DS H T R bo (N+at_.length) J' U (D1++d'::D2)→J.length≤J'.length→d'.id=d.id→d'.ns=d.ns→d'.zs=zs++[z']→z'.f=z.f→z'.ws=z.ws++at_.map (fun a=>(w,a))→
   envLe J'.length U.length e [(1,.ptr b1 0),(3,.csl bo nd nd),(4,.mref bm),(51,.sl ts.length (tmAV ts) .none),(52,.int .i64 (ts.length:Nat)),(53,.int .i64 (vi:Nat)),(8,.ptr p8 0),(58,.sl l.length (psAV l) .none),(59,.int .i64 (l.length:Nat)),(60,.int .i64 (vj:Nat))]→Q .normal ⟨e,J',U⟩) :
  AW ⟨Tryz.prog,192,190,H.length,T.length,[100100,100131]⟩ (subC [1,1,1,1,1,0,1,0,0,1,1,0,0,1,1,0,0,1,1,0,0,1,1,1,1] (Tryz.f40.body.getD .skip)) Q ⟨[(1,.ptr b1 0),(3,.csl bo nd nd),(4,.mref bm),(51,.sl ts.length (tmAV ts) .none),(52,.int .i64 (ts.length:Nat)),(53,.int .i64 (vi:Nat)),(8,.ptr p8 0),(58,.sl l.length (psAV l) .none),(59,.int .i64 (l.length:Nat)),(60,.int .i64 (vj:Nat)),(10,.ptr p10 0),(11,.ptr bo (D1.length*3)),(13,.ptr d.i (zs.length*2))],J,U⟩:=by
 conv=>arg 2;whnf
 have g10:=hS.hJ.get (List.mem_append_left _ h10)
 have l10:=(List.getElem?_eq_some_iff.1 g10).1
 have e10:=at_of g10
 have lo:=hS.hJ.lt (i:=bo) (b:=.cells (drs (D1++d::D2))) (by simp)
 have l8:=hS.hJ.lt (List.mem_append_left _ h8)
 have lH:=hS.pJ.le
 have lT:=hS.pU.le
 have ldi:d.i<J.length:=hS.hJ.lt (b:=.cells (zrs d.zs++d.rest)) (by simp[Dz.bx,gb,hz])
 refine aw_reg fun K hK=>?_;simp(disch:=omega)[e10];refine hK _ ?_;clear hK K
 refine aw_block ?_
 refine aw_loop (X:=Nat×List Blk×Dz×Wz) (fun x=>⟨[(1,.ptr b1 0),(3,.csl bo nd nd),(4,.mref bm),(51,.sl ts.length (tmAV ts) .none),(52,.int .i64 (ts.length:Nat)),(53,.int .i64 (vi:Nat)),(8,.ptr p8 0),(58,.sl l.length (psAV l) .none),(59,.int .i64 (l.length:Nat)),(60,.int .i64 (vj:Nat)),(10,.ptr p10 0),(11,.ptr bo (D1.length*3)),(13,.ptr d.i (zs.length*2)),(115,.sl at_.length (ints at_) .none),(116,.int .i64 (at_.length:Nat)),(117,.int .i64 (x.1:Nat))],x.2.1,U⟩)
  (fun x=>x.1≤at_.length∧DS H T R bo (N+x.1) x.2.1 U (D1++x.2.2.1::D2)∧J.length≤x.2.1.length∧(x.2.2.1.id=d.id∧x.2.2.1.ns=d.ns∧x.2.2.1.i=d.i)∧x.2.2.1.zs=zs++[x.2.2.2]∧x.2.2.2.f=z.f∧x.2.2.2.ws=z.ws++(at_.take x.1).map (fun a=>(w,a))) (fun x=>at_.length-x.1) (0,J,d,z) ?_ ?_ ?_
 ·exact⟨Nat.zero_le _,hS,Nat.le_refl _,⟨rfl,rfl,rfl⟩,hz,rfl,by simp⟩
 ·refine weak_to [] [] ?_ ?_ ?_ ?_ hS.ok ?_
  all_goals simp
  all_goals omega
 ·rintro⟨k,J2,d2,z2⟩ ⟨k1,k2,k3,⟨k4,k5,k6⟩,k7,k8,k9⟩
  simp only at k1 k2 k3 k4 k5 k6 k7 k8 k9
  have lH2:=k2.pJ.le
  have lT2:=k2.pU.le
  refine aw_reg fun K hK=>?_;simp(disch:=omega) ;refine hK _ ?_;clear hK K
  refine aw_then fun K2 hK2=>?_
  refine aw_if rfl (fun hk5=>?_) (fun hk5=>?_)
  ·simp  at hk5
   refine aw_skip ?_;simp(disch:=omega) 
   refine hK2 _ ?_;clear hK2
   refine aw_then fun K3 hK3=>?_
   refine aw_block ?_
   rw[←k6]
   refine aw_weak ⟨[(1,.ptr b1 0),(3,.csl bo nd nd),(4,.mref bm),(51,.sl ts.length (tmAV ts) .none),(52,.int .i64 (ts.length:Nat)),(53,.int .i64 (vi:Nat)),(8,.ptr p8 0),(58,.sl l.length (psAV l) .none),(59,.int .i64 (l.length:Nat)),(60,.int .i64 (vj:Nat)),(10,.ptr p10 0),(11,.ptr bo (D1.length*3)),(13,.ptr d2.i (zs.length*2)),(115,.sl at_.length (ints at_) .none),(116,.int .i64 (at_.length:Nat)),(117,.int .i64 (k:Nat))],J2,U⟩ (weak_to [] [] (by simp) (by simp) (by show H.length≤_;omega) (by show T.length≤_;omega) k2.ok (by simp;omega)) ?_
   refine wpush H T ts l vi vj b1 bo bm nd p8 p10 (N+k) f (at_.getD k 0) w lv at_ k R J2 U D1 D2 d2 zs z2 k2 k7 (by omega) hal hk5 (by omega) (by omega) (by omega) h8 _ fun e J' d' z' a1 a2 a3 a4 a5 a6 a7 a8 a9=>?_
   refine hK3 _ (aw_hok fun HO3=>?_)
   replace a1:=a1 HO3
   have lH3:=a1.pJ.le
   have lT3:=a1.pU.le
   refine aw_weak ⟨[(1,.ptr b1 0),(3,.csl bo nd nd),(4,.mref bm),(51,.sl ts.length (tmAV ts) .none),(52,.int .i64 (ts.length:Nat)),(53,.int .i64 (vi:Nat)),(8,.ptr p8 0),(58,.sl l.length (psAV l) .none),(59,.int .i64 (l.length:Nat)),(60,.int .i64 (vj:Nat)),(10,.ptr p10 0),(11,.ptr bo (D1.length*3)),(13,.ptr d2.i (zs.length*2)),(115,.sl at_.length (ints at_) .none),(116,.int .i64 (at_.length:Nat)),(117,.int .i64 (k:Nat))],J',U⟩ (weak_to [] [] (by simp) (by simp) (by show H.length≤_;omega) (by show T.length≤_;omega) a1.ok a9) ?_
   clear hK3
   refine aw_reg0 fun K hK=>?_;simp(disch:=omega) 
   refine hK _ ?_;clear hK K
   refine⟨(k+1,J',d',z'),⟨by show k+1≤_;omega,a1,by show J.length≤J'.length;omega,⟨a3.trans k4,a4.trans k5,a6.trans k6⟩,a5,a7.trans k8,?_⟩,by show at_.length-(k+1)<at_.length-k;omega,?_⟩
   ·show z'.ws=z.ws++(at_.take (k+1)).map _
    rw[a8,k9,take_getD at_ k 0 hk5,List.map_append,List.append_assoc];rfl
   ·rw[←k6]
    refine weak_to [] [] ?_ ?_ ?_ ?_ a1.ok ?_
    all_goals simp
    all_goals omega
  ·simp  at hk5
   have hkk:k=at_.length:=by omega
   subst hkk
   refine aw_exit ?_;simp(disch:=omega) 
   rw[List.take_length] at k9
   refine go _ J2 d2 z2 k2 k3 k4 k5 k7 k8 k9 ?_
   simp;omega
theorem split_at {D:List Dz}{k:Nat}(hk:k<D.length):∃D1 d D2,D=D1++d::D2∧D1.length=k:=by
 refine⟨D.take k,D[k],D.drop (k+1),?_,by simp;omega⟩
 rw[List.getElem_cons_drop,List.take_append_drop]
set_option maxHeartbeats 16000000 in
theorem post_step (H:List Blk)(T:Toks)(ts:List Tm)(l:List Ps)(vi vj b1 bo bm nd p8:Nat)(N:Nat)(f:Int)(w:Bs)(lv:AV)(ids:List Int)(R:List (Nat×Blk))(J:List Blk)(U:Toks)(D:List Dz)
  (hS:DS H T R bo N J U D) (hids:D.map (·.id)=ids) (hnd:ids.Nodup) (hft:∀i∈ids,1≤i∧i≤1000000000) (hndl:nd=ids.length) (hk:vj<l.length) (hll:l.length≤1000) (hpm:(l.getD vj p0).1∈ids) (hpl:(l.getD vj p0).2.length≤400) (hN:N+401≤1099511627776) (hb1:b1<J.length) (hbo:H.length≤bo)
  (hm:(bm,.map (mapE ids))∈R) (h8:(p8,.cells [.int .i64 f,.str w,lv])∈R) (Q:Exit→St→Prop)
  (go:∀(e:Env)(J':List Blk)(D':List Dz),DS H T R bo (N+401) J' U D'→J.length≤J'.length→D'.map (·.id)=ids→D'.map Dz.dc=stepP f w (D.map Dz.dc) (l.getD vj p0)→
   envLe J'.length U.length e [(1,.ptr b1 0),(3,.csl bo nd nd),(4,.mref bm),(51,.sl ts.length (tmAV ts) .none),(52,.int .i64 (ts.length:Nat)),(53,.int .i64 (vi:Nat)),(8,.ptr p8 0),(58,.sl l.length (psAV l) .none),(59,.int .i64 (l.length:Nat)),(60,.int .i64 (vj:Nat))]→Q .normal ⟨e,J',U⟩) :
  AW ⟨Tryz.prog,192,190,H.length,T.length,[100100,100131]⟩ (subC [1,1,1,1,1,0,1,0,0,1,1,0,0,1,1,0,0,1,1,0,0] (Tryz.f40.body.getD .skip)) Q ⟨[(1,.ptr b1 0),(3,.csl bo nd nd),(4,.mref bm),(51,.sl ts.length (tmAV ts) .none),(52,.int .i64 (ts.length:Nat)),(53,.int .i64 (vi:Nat)),(8,.ptr p8 0),(58,.sl l.length (psAV l) .none),(59,.int .i64 (l.length:Nat)),(60,.int .i64 (vj:Nat))],J,U⟩:=by
 conv=>arg 2;whnf
 have gm:=hS.hJ.get (List.mem_append_left _ hm)
 have lm:=(List.getElem?_eq_some_iff.1 gm).1
 have l8:=hS.hJ.lt (List.mem_append_left _ h8)
 have lo:=hS.hJ.lt (i:=bo) (b:=.cells (drs D)) (by simp)
 have lH:=hS.pJ.le
 have lT:=hS.pU.le
 have hcut:=psAV_cut l vj hk
 generalize l.getD vj p0=p at *
 obtain⟨pd,ps⟩:=p
 simp only at hcut hpm hpl go
 have hpl':ps.length≤9223372036854775807:=by omega
 refine aw_reg fun K hK=>?_;simp(disch:=omega)[-List.getD_eq_getElem?_getD,hcut,psAV_len];refine hK _ ?_;clear hK K
 have ho1:HOk (J++[.cells [.int .i64 pd,.sl ps.length (ints ps) .none]]) U:=hS.ok.snoc (by simp)
 have hS2:=hS.new _ ho1
 have hll2:(J++[Blk.cells [.int .i64 pd,.sl ps.length (ints ps) .none]]).length=J.length+1:=by simp
 obtain⟨p10,h10⟩:∃i,i=J.length:=⟨_,rfl⟩
 rw[←h10] at hS2
 simp only[←h10]
 generalize J++[Blk.cells [.int .i64 pd,.sl ps.length (ints ps) .none]]=J1 at *
 obtain⟨k,hkl,hkp⟩:=mem_getD 0 hpm
 have hDl:D.length=ids.length:=by rw[←hids,List.length_map]
 obtain⟨D1,d,D2,hD,hD1⟩:=split_at (D:=D) (k:=k) (by omega)
 have hdid:d.id=pd:=by
  rw[←hkp,←hids,hD,List.getD_eq_getElem?_getD,List.getElem?_map,List.getElem?_append_right (by omega),hD1,Nat.sub_self];rfl
 subst hD
 have g10:=hS2.hJ.get (i:=p10) (b:=.cells [.int .i64 pd,.sl ps.length (ints ps) .none]) (by simp)
 have g2:=hS2.hJ.get (i:=bm) (b:=.map (mapE ids)) (by simp[hm])
 have l10:=(List.getElem?_eq_some_iff.1 g10).1
 have l2:=(List.getElem?_eq_some_iff.1 g2).1
 have e10:=at_of g10
 have e2:=at_of g2
 have hlook:=mapE_get hnd hkl
 rw[hkp] at hlook
 have hfm:=fitD hft
 have hfi:=fitF pd (by have:=hft pd hpm;omega)
 have hkey:keyF pd=.one (.int .i64 pd):=rfl
 rw[hkey] at hfi
 have hkn:k<nd:=by omega
 refine aw_reg fun K hK=>?_;simp(disch:=omega)[-List.getD_eq_getElem?_getD,mapT160,e10,e2,hlook,hfm,hfi];refine hK _ ?_;clear hK K
 subst hD1
 refine aw_weak ⟨[(1,.ptr b1 0),(3,.csl bo nd nd),(4,.mref bm),(51,.sl ts.length (tmAV ts) .none),(52,.int .i64 (ts.length:Nat)),(53,.int .i64 (vi:Nat)),(8,.ptr p8 0),(58,.sl l.length (psAV l) .none),(59,.int .i64 (l.length:Nat)),(60,.int .i64 (vj:Nat)),(10,.ptr p10 0),(11,.ptr bo (D1.length*3))],J1,U⟩ (weak_to [] [] (by simp) (by simp) (by show H.length≤_;omega) (by show T.length≤_;omega) hS2.ok (by simp;omega)) ?_
 refine zpush H T ts l vi vj b1 bo bm nd p8 p10 N f w lv _ J1 U D1 D2 d hS2 (by omega) (by omega) (by omega) hbo (by omega) (by simp[h8]) Q fun e J' d' zs z c1 c2 c3 c4 c5 c6 c7 c8=>?_
 have lH3:=c1.pJ.le
 have lT3:=c1.pU.le
 refine aw_weak ⟨[(1,.ptr b1 0),(3,.csl bo nd nd),(4,.mref bm),(51,.sl ts.length (tmAV ts) .none),(52,.int .i64 (ts.length:Nat)),(53,.int .i64 (vi:Nat)),(8,.ptr p8 0),(58,.sl l.length (psAV l) .none),(59,.int .i64 (l.length:Nat)),(60,.int .i64 (vj:Nat)),(10,.ptr p10 0),(11,.ptr bo (D1.length*3)),(13,.ptr d'.i (zs.length*2))],J',U⟩ (weak_to [] [] (by simp) (by simp) (by show H.length≤_;omega) (by show T.length≤_;omega) c1.ok c8) ?_
 refine pos_loop H T ts l vi vj b1 bo bm nd p8 p10 (N+1) f pd w lv ps _ J' U D1 D2 d' zs z c1 c5 (by omega) (by omega) (by omega) (by omega) (by simp[h8]) (by simp) Q fun e J2 d2 z2 q1 q2 q3 q4 q5 q6 q7 q8=>?_
 refine go e J2 (D1++d2::D2) ((q1.more (by omega)).sub (by simp)) (by omega) ?_ ?_ q8
 ·rw[←hids];simp[q3,c3]
 ·unfold stepP
  simp only
  rw[←hdid]
  refine updD_mid (by rw[hids];exact hnd) ?_
  have e1:=addZ_of (zs:=d.dc.zs) (l:=zs.map Wz.zn) (z:=z.zn) (f:=f) (by rw[←c7];simp[Dz.dc,c5]) (ps.map fun a=>(w,a))
  have e2:d2.dc.zs=zs.map Wz.zn++[⟨z.f,z.ws++ps.map fun a=>(w,a)⟩]:=by simp[Dz.dc,q5,Wz.zn,q6,q7]
  have e3:d2.dc=⟨d.id,d2.dc.zs,d.ns⟩:=by show (⟨d2.id,_,d2.ns⟩:Dc)=_;rw[q3,c3,q4,c4];rfl
  rw[e3,e2]
  show _=(⟨d.id,addZ d.dc.zs f _,d.ns⟩:Dc)
  rw[e1];rfl
end Go.Proofs.YtneohapkboaplaaGreat
