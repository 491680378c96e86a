/- Documents of the reference (layer 39).
  Conditions: the sizes of SzS. -/
import Derived.Test.YtneohapkboaplaaGreatGRd
import Derived.Test.YtneohapkboaplaaGreatGRA
import Derived.Test.YtneohapkboaplaaGreatAmC
set_option linter.all false
set_option maxRecDepth 100000
namespace Go.Proofs.YtneohapkboaplaaGreat
open Go Go.Am Sug Post Seg
def zT (g:Int→List Wd)(k:Nat):List Zn:=(List.range k).flatMap fun j=>if g (1+(j:Nat))=[] then [] else [⟨1+(j:Nat),g (1+(j:Nat))⟩]
theorem zT_four (g:Int→List Wd):zT g 4=zonesOf g:=by
 simp[zT,zonesOf,List.range_succ]
theorem zT_succ (g:Int→List Wd)(k:Nat):zT g (k+1)=zT g k++if g (1+(k:Nat))=[] then [] else [⟨1+(k:Nat),g (1+(k:Nat))⟩]:=by
 simp[zT,List.range_succ]
theorem zT_len (g:Int→List Wd)(k:Nat):(zT g k).length≤k:=by
 induction k with
 |zero=>simp[zT]
 |succ k ih=>rw[zT_succ,List.length_append];split<;>simp<;>omega
def refW (s:Sg)(id f:Int):List Wd:=isortW (s.tms.flatMap (wdT id f))
def nmT (id:Int)(c:Cl):List Nm:=(c.x.filter fun y=>y.2==id).map fun y=>(c.f,y.1)
def refD (s:Sg)(id:Int):Dc:=⟨id,zonesOf (refW s id),s.cols.flatMap (nmT id)⟩
def docsR (s:Sg):List Dc:=if validS s=true then s.docs.map (refD s) else []
abbrev dB (id:Int)(zs:List Zn)(ns:List Nm)(t:Nat):Blk:=.cells [.int .i64 id,.sl zs.length (znAV zs) (.own t),.sl ns.length (nmAV ns) (.own (t+1))]
abbrev dT (zs:List Zn)(ns:List Nm):List (Nat×Nat):=[(zs.length*2,2),(ns.length*2,2)]
attribute [-simp] List.getD_eq_getElem?_getD in
set_option maxHeartbeats 8000000 in
theorem rzone_loop (s:Sg)(hs:SzS s)(id:Int)(vo:AV)(i tb:Nat)(H:List Blk)(T:Toks)(htb:tb≤T.length)(hb:Below H.length T.length vo)(HO:HOk (H++[.cells (sgC s),dB id [] [] T.length]) (T++dT [] []))(Q:Exit→St→Prop)
  (go:∀e,HOk (H++[.cells (sgC s),dB id (zonesOf (refW s id)) [] T.length]) (T++dT (zonesOf (refW s id)) [])→envLe (H.length+2) (T.length+2) e [(1,.ptr H.length 0),(3,vo),(4,.int .i64 (i:Nat)),(5,.ptr (H.length+1) 0)]→Q .normal ⟨e,H++[.cells (sgC s),dB id (zonesOf (refW s id)) [] T.length],T++dT (zonesOf (refW s id)) []⟩) :
  AW ⟨Tryz.prog,104,10,H.length,tb,[]⟩ (subC [1,1,1,0,1,0,0,1,0,0,1,0] (Tryz.f41.body.getD .skip)) Q ⟨[(1,.ptr H.length 0),(3,vo),(4,.int .i64 (i:Nat)),(5,.ptr (H.length+1) 0)],H++[.cells (sgC s),dB id [] [] T.length],T++dT [] []⟩:=by
 conv=>arg 2;whnf
 have cw:=fun f H T=>refWords_ok s hs id f H T
 refine aw_reg fun K hK=>?_;simp(disch:=omega) ;refine hK _ ?_;clear hK K
 refine aw_block ?_
 refine aw_loop (X:=Nat) (fun k=>⟨[(1,.ptr H.length 0),(3,vo),(4,.int .i64 (i:Nat)),(5,.ptr (H.length+1) 0),(6,.int .i64 (1+(k:Nat)))],H++[.cells (sgC s),dB id (zT (refW s id) k) [] T.length],T++dT (zT (refW s id) k) []⟩)
  (fun k=>k≤4∧HOk (H++[.cells (sgC s),dB id (zT (refW s id) k) [] T.length]) (T++dT (zT (refW s id) k) [])) (fun k=>4-k) 0 ?_ ?_ ?_
 ·exact⟨Nat.zero_le _,by simpa[zT] using HO⟩
 ·refine weak_to [] [] ?_ ?_ ?_ ?_ (by simpa[zT] using HO) ?_
  all_goals simp[zT]
  all_goals first|omega|exact hb.more (by omega) (by omega)|exact⟨hb.more (by omega) (by omega),by omega⟩
 ·rintro k ⟨k1,HO2⟩
  have hzl:=zT_len (refW s id) k
  have hsu:=zT_succ (refW s id) k
  have cwk:=fun H T=>cw (1+(k:Nat)) H T
  have hrw:refW s id (1+(k:Nat))=isortW (s.tms.flatMap (wdT id (1+(k:Nat)))):=rfl
  rw[←hrw] at cwk
  generalize hzz:zT (refW s id) k=zs at *
  generalize refW s id (1+(k:Nat))=ws at *
  refine aw_then fun K2 hK2=>?_
  by_cases hk:k<4
  ·have bk:decide ((1:Int)+k≤4)=true:=decide_eq_true (by omega)
   refine aw_reg fun K hK=>?_;simp(disch:=omega)[bk];refine hK _ ?_;clear hK K
   refine aw_ift rfl ?_
   refine aw_skip ?_;simp(disch:=omega) 
   refine hK2 _ ?_;clear hK2
   refine aw_then fun K3 hK3=>?_
   refine aw_block ?_
   refine aw_reg fun K hK=>?_;simp(disch:=omega) 
   refine acall_is (cwk _ _) ?_;simp(disch:=omega) 
   refine hK _ ?_;clear hK K
   by_cases hw:ws=[]
   ·subst hw
    rw[if_pos rfl,List.append_nil] at hsu
    refine aw_reg fun K hK=>?_;simp(disch:=omega) ;refine hK _ ?_;clear hK K
    refine aw_iff rfl ?_
    refine aw_skip ?_;simp(disch:=omega) 
    refine hK3 _ ?_;clear hK3
    refine aw_reg0 fun K hK=>?_;simp(disch:=omega) 
    refine hK _ ?_;clear hK K
    refine⟨k+1,⟨by omega,by rw[hsu];exact HO2⟩,by omega,?_⟩
    simp only[hsu]
    refine weak_to [] [] ?_ ?_ ?_ ?_ HO2 ?_
    all_goals simp
    all_goals first|omega|exact hb.more (by omega) (by omega)|exact⟨hb.more (by omega) (by omega),by omega⟩
   ·have hwl:0<ws.length:=List.length_pos_iff.2 hw
    have bw:decide ((0:Int)<ws.length)=true:=decide_eq_true (by omega)
    rw[if_neg hw] at hsu
    refine aw_reg fun K hK=>?_;simp(disch:=omega)[bw];refine hK _ ?_;clear hK K
    refine aw_if rfl (fun h=>?_) (fun h=>absurd h (by simp[hw]))
    refine aw_reg0 fun K hK=>?_;simp(disch:=omega)[znAV_len];refine hK _ ?_;clear hK K
    refine hK3 _ (aw_hok fun HO3=>?_)
    simp only at HO3
    have hbx:Blk.cells [AV.int IntKind.i64 id,AV.sl (zs.length+1) (znAV zs++[AV.int IntKind.i64 (1+(k:Nat)),AV.sl ws.length (wdAV ws) Tag.none]) (Tag.own T.length),AV.sl 0 (nmAV []) (Tag.own (T.length+1))]=dB id (zs++[⟨1+(k:Nat),ws⟩]) [] T.length:=by simp[dB,←znAV_snoc]
    have htk:T++[((zs.length+1)*2,2),(0,2)]=T++dT (zs++[⟨1+(k:Nat),ws⟩]) []:=by simp[dT]
    rw[hbx,htk] at HO3 ⊢
    rw[←hsu] at HO3 ⊢
    refine aw_reg0 fun K hK=>?_;simp(disch:=omega) 
    refine hK _ ?_;clear hK K
    refine⟨k+1,⟨by omega,HO3⟩,by omega,?_⟩
    refine weak_to [] [] ?_ ?_ ?_ ?_ HO3 ?_
    all_goals simp
    all_goals first|omega|exact hb.more (by omega) (by omega)|exact⟨hb.more (by omega) (by omega),by omega⟩
  ·have hk4:k=4:=by omega
   subst hk4
   have bk:decide ((1:Int)+(4:Nat)≤4)=false:=by decide
   refine aw_reg fun K hK=>?_;simp(disch:=omega)[bk];refine hK _ ?_;clear hK K
   refine aw_iff rfl ?_
   refine aw_exit ?_;simp(disch:=omega) 
   rw[←hzz,zT_four] at HO2 ⊢
   refine go _ HO2 ?_
   simp
   exact hb.more (by omega) (by omega)
attribute [-simp] List.getD_eq_getElem?_getD in
set_option maxHeartbeats 8000000 in
theorem rnum_loop (s:Sg)(hs:SzS s)(id:Int)(vo:AV)(i tb:Nat)(zs:List Zn)(H:List Blk)(T:Toks)(htb:tb≤T.length)(hb:Below H.length T.length vo)(HO:HOk (H++[.cells (sgC s),dB id zs [] T.length]) (T++dT zs []))(Q:Exit→St→Prop)
  (go:∀e,HOk (H++[.cells (sgC s),dB id zs (s.cols.flatMap (nmT id)) T.length]) (T++dT zs (s.cols.flatMap (nmT id)))→envLe (H.length+2) (T.length+2) e [(1,.ptr H.length 0),(3,vo),(4,.int .i64 (i:Nat)),(5,.ptr (H.length+1) 0)]→Q .normal ⟨e,H++[.cells (sgC s),dB id zs (s.cols.flatMap (nmT id)) T.length],T++dT zs (s.cols.flatMap (nmT id))⟩) :
  AW ⟨Tryz.prog,104,10,H.length,tb,[]⟩ (subC [1,1,1,0,1,0,0,1,0,0,1,1,0] (Tryz.f41.body.getD .skip)) Q ⟨[(1,.ptr H.length 0),(3,vo),(4,.int .i64 (i:Nat)),(5,.ptr (H.length+1) 0)],H++[.cells (sgC s),dB id zs [] T.length],T++dT zs []⟩:=by
 conv=>arg 2;whnf
 obtain⟨docs,ts,cols⟩:=s
 obtain⟨sd,st,sw,sc,sx⟩:=hs
 simp only at sd st sw sc sx go HO ⊢
 have hbnd:∀j,j≤cols.length→((cols.take j).flatMap (nmT id)).length≤1000*j:=by
  intro j
  induction j with
  |zero=>intro _;simp
  |succ j ih=>
   intro hj
   have h1:=ih (by omega)
   rw[take_getD cols j c0 (by omega),List.flatMap_append,List.length_append]
   have h2:(nmT id (cols.getD j c0)).length≤1000:=by
    unfold nmT
    rw[List.length_map]
    exact Nat.le_trans (List.length_filter_le _ _) (sx _ (getD_mem cols j c0 (by omega)))
   simp only[List.flatMap_cons,List.flatMap_nil,List.append_nil]
   omega
 refine aw_reg fun K hK=>?_;simp(disch:=omega) ;refine hK _ ?_;clear hK K
 refine aw_block ?_
 refine aw_loop (X:=Nat) (fun j=>⟨[(1,.ptr H.length 0),(3,vo),(4,.int .i64 (i:Nat)),(5,.ptr (H.length+1) 0),(8,.int .i64 (j:Nat))],H++[.cells (sgC ⟨docs,ts,cols⟩),dB id zs ((cols.take j).flatMap (nmT id)) T.length],T++dT zs ((cols.take j).flatMap (nmT id))⟩)
  (fun j=>j≤cols.length∧HOk (H++[.cells (sgC ⟨docs,ts,cols⟩),dB id zs ((cols.take j).flatMap (nmT id)) T.length]) (T++dT zs ((cols.take j).flatMap (nmT id)))) (fun j=>cols.length-j) 0 ?_ ?_ ?_
 ·exact⟨Nat.zero_le _,by simpa using HO⟩
 ·refine weak_to [] [] ?_ ?_ ?_ ?_ (by simpa using HO) ?_
  all_goals simp
  all_goals first|omega|exact hb.more (by omega) (by omega)|exact⟨hb.more (by omega) (by omega),by omega⟩
 ·rintro j ⟨j1,HO2⟩
  refine aw_then fun K2 hK2=>?_
  refine aw_reg fun K hK=>?_;simp(disch:=omega) ;refine hK _ ?_;clear hK K
  refine aw_if rfl (fun hk=>?_) (fun hk=>?_)
  ·simp  at hk
   have hcat:=clAV_at cols j hk
   have hft:(cols.take (j+1)).flatMap (nmT id)=(cols.take j).flatMap (nmT id)++nmT id (cols.getD j c0):=flat_take cols (nmT id) c0 j hk
   have hb1:=hbnd j j1
   have hxl:=sx _ (getD_mem cols j c0 hk)
   generalize hpre:(cols.take j).flatMap (nmT id)=pre at *
   generalize cols.getD j c0=c at *
   obtain⟨cf,x⟩:=c
   simp only at hcat hxl
   obtain⟨hc1,hc2⟩:=hcat
   have hnm:nmT id ⟨cf,x⟩=(x.filter fun y=>y.2==id).map fun y=>(cf,y.1):=rfl
   refine aw_skip ?_;simp(disch:=omega) 
   refine hK2 _ ?_;clear hK2
   refine aw_then fun K3 hK3=>?_
   refine aw_block ?_
   refine aw_reg fun K hK=>?_;simp(disch:=omega) ;refine hK _ ?_;clear hK K
   refine aw_block ?_
   refine aw_loop (X:=Nat) (fun m=>⟨[(1,.ptr H.length 0),(3,vo),(4,.int .i64 (i:Nat)),(5,.ptr (H.length+1) 0),(8,.int .i64 (j:Nat)),(9,.int .i64 (m:Nat))],H++[.cells (sgC ⟨docs,ts,cols⟩),dB id zs (pre++nmT id ⟨cf,x.take m⟩) T.length],T++dT zs (pre++nmT id ⟨cf,x.take m⟩)⟩)
    (fun m=>m≤x.length∧HOk (H++[.cells (sgC ⟨docs,ts,cols⟩),dB id zs (pre++nmT id ⟨cf,x.take m⟩) T.length]) (T++dT zs (pre++nmT id ⟨cf,x.take m⟩))) (fun m=>x.length-m) 0 ?_ ?_ ?_
   ·exact⟨Nat.zero_le _,by simpa[nmT] using HO2⟩
   ·refine weak_to [] [] ?_ ?_ ?_ ?_ (by simpa[nmT] using HO2) ?_
    all_goals simp[nmT]
    all_goals first|omega|exact hb.more (by omega) (by omega)|exact⟨hb.more (by omega) (by omega),by omega⟩
   ·rintro m ⟨m1,HO3⟩
    refine aw_then fun K4 hK4=>?_
    refine aw_reg fun K hK=>?_;simp(disch:=omega)[hc2,clAV_len,hk];refine hK _ ?_;clear hK K
    refine aw_if rfl (fun hm=>?_) (fun hm=>?_)
    ·simp  at hm
     obtain⟨hi1,hi2⟩:=nmAV_at x m hm
     have hsu:nmT id ⟨cf,x.take (m+1)⟩=nmT id ⟨cf,x.take m⟩++if (x.getD m n0).2=id then [(cf,(x.getD m n0).1)] else []:=by
      unfold nmT
      rw[take_getD x m n0 hm,List.filter_append,List.map_append]
      congr 1
      by_cases h:(x.getD m n0).2=id
      ·rw[if_pos h,List.filter_cons_of_pos (by simpa using h)];rfl
      ·rw[if_neg h,List.filter_cons_of_neg (by simpa using h)];rfl
     have hpl:(pre++nmT id ⟨cf,x.take m⟩).length≤2000000:=by
      rw[List.length_append]
      have:(nmT id ⟨cf,x.take m⟩).length≤1000:=by
       unfold nmT
       rw[List.length_map]
       refine Nat.le_trans (List.length_filter_le _ _) ?_
       rw[List.length_take];omega
      omega
     have hps:pre++nmT id ⟨cf,x.take (m+1)⟩=(pre++nmT id ⟨cf,x.take m⟩)++if (x.getD m n0).2=id then [(cf,(x.getD m n0).1)] else []:=by rw[hsu,List.append_assoc]
     generalize pre++nmT id ⟨cf,x.take m⟩=ns at *
     generalize x.getD m n0=y at *
     obtain⟨yn,yd⟩:=y
     simp only at hi1 hi2 hps
     refine aw_skip ?_;simp(disch:=omega) 
     refine hK4 _ ?_;clear hK4
     refine aw_then fun K4 hK4=>?_
     refine aw_block ?_
     by_cases hd:yd=id
     ·rw[if_pos hd] at hps
      have bd:(yd==id)=true:=by simpa using hd
      refine aw_draw [] [] [] drawMixed (by kernel_rfl) (by kernel_rfl) fun K hK=>?_;simp(disch:=omega)[hc1,hc2,clAV_len,nmAV_len,hk,hm,hi1,hi2,bd]
      refine hK _ ?_
      refine aw_ift rfl ?_
      refine aw_draw0 [20,22] [0,0,0,0,0,0,0,0,0,0,0,0,0,0,0,0,0,0,0,0,0,1,1] [[0,1],[]] drawMixed (by kernel_rfl) (by kernel_rfl) fun K hK=>?_;simp(disch:=omega)[hc1,hc2,clAV_len,nmAV_len,hk,hm,hi1,hi2]
      refine hK _ ?_
      refine hK4 _ (aw_hok fun HO4=>?_)
      simp only at HO4
      have hsn:=nmAV_snoc ns (cf,yn)
      simp only at hsn
      have hbx:Blk.cells [AV.int IntKind.i64 id,AV.sl zs.length (znAV zs) (Tag.own T.length),AV.sl (ns.length+1) (nmAV ns++[AV.int IntKind.i64 cf,AV.int IntKind.i64 yn]) (Tag.own (T.length+1))]=dB id zs (ns++[(cf,yn)]) T.length:=by rw[hsn];simp[dB]
      have htk:T++[(zs.length*2,2),((ns.length+1)*2,2)]=T++dT zs (ns++[(cf,yn)]):=by simp[dT]
      rw[hbx,htk] at HO4 ⊢
      rw[←hps] at HO4 ⊢
      refine aw_reg0 fun K hK=>?_;simp(disch:=omega) 
      refine hK _ ?_;clear hK K
      refine⟨m+1,⟨by omega,HO4⟩,by omega,?_⟩
      refine weak_to [] [] ?_ ?_ ?_ ?_ HO4 ?_
      all_goals simp
      all_goals first|omega|exact hb.more (by omega) (by omega)|exact⟨hb.more (by omega) (by omega),by omega⟩
     ·rw[if_neg hd,List.append_nil] at hps
      have bd:(yd==id)=false:=by simpa using hd
      refine aw_draw [] [] [] drawMixed (by kernel_rfl) (by kernel_rfl) fun K hK=>?_;simp(disch:=omega)[hc1,hc2,clAV_len,nmAV_len,hk,hm,hi1,hi2,bd]
      refine hK _ ?_
      refine aw_iff rfl ?_
      refine aw_skip ?_;simp(disch:=omega) 
      refine hK4 _ ?_;clear hK4
      refine aw_reg0 fun K hK=>?_;simp(disch:=omega) 
      refine hK _ ?_;clear hK K
      refine⟨m+1,⟨by omega,by rw[hps];exact HO3⟩,by omega,?_⟩
      simp only[hps]
      refine weak_to [] [] ?_ ?_ ?_ ?_ HO3 ?_
      all_goals simp
      all_goals first|omega|exact hb.more (by omega) (by omega)|exact⟨hb.more (by omega) (by omega),by omega⟩
    ·simp  at hm
     have e:m=x.length:=by omega
     subst e
     rw[List.take_length] at HO3 ⊢
     refine aw_exit ?_;simp(disch:=omega) 
     refine hK3 _ ?_;clear hK3
     refine aw_reg0 fun K hK=>?_;simp(disch:=omega) 
     refine hK _ ?_;clear hK K
     refine⟨j+1,⟨by omega,by rw[hft];exact HO3⟩,by omega,?_⟩
     simp only[hft]
     refine weak_to [] [] ?_ ?_ ?_ ?_ HO3 ?_
     all_goals simp
     all_goals first|omega|exact hb.more (by omega) (by omega)|exact⟨hb.more (by omega) (by omega),by omega⟩
  ·simp  at hk
   have hje:j=cols.length:=by omega
   subst hje
   rw[List.take_length] at HO2 ⊢
   refine aw_exit ?_;simp(disch:=omega) 
   refine go _ HO2 ?_
   simp
   exact hb.more (by omega) (by omega)
def RQ (s:Sg)(H:List Blk)(T:Toks):AV→List Blk→Toks→Prop:=fun r J U=>
 (validS s=false∧r=.sl 0 [] .full∧Pre H J∧Pre T U)∨
 (validS s=true∧∃oc,r=.sl s.docs.length oc (.own T.length)∧oc.map untag=dcAV (s.docs.map (refD s))∧U[T.length]?=some (s.docs.length*3,3)∧Pre H J∧Pre T U)
attribute [-simp] List.getD_eq_getElem?_getD in
set_option maxHeartbeats 8000000 in
theorem refDocs_raw (s:Sg)(hs:SzS s)(H:List Blk)(T:Toks):ACall Tryz.prog 41 [sgAV s] H T (RQ s H T):=by
 have cv:=fun H T=>validSR_ok s hs H T
 have hdl:=hs.d
 refine acall_enter 10 [] Tryz.ntmps41 Tryz.func41 rfl (fun _ _=>Tryz.call41 _ _) (by simp) (fun HO=>?_)
 have HO1:HOk (H++[.cells (sgC s)]) T:=HO.snoc (by simp)
 refine aw_reg fun K hK=>?_;simp(disch:=omega) ;refine hK _ ?_;clear hK K
 refine aw_reg fun K hK=>?_;simp(disch:=omega) ;refine hK _ ?_;clear hK K
 refine aw_then fun K1 hK1=>?_
 cases hv:validS s with
 |false=>
  rw[hv] at cv
  refine aw_reg fun K hK=>?_;simp(disch:=omega) 
  refine acall_is (cv _ _) ?_;simp(disch:=omega) 
  refine hK _ ?_;clear hK K
  refine aw_ift rfl ?_
  refine aw_reg fun K hK=>?_;simp(disch:=omega) ;refine hK _ ?_;clear hK K
  refine aw_ret ?_;simp(disch:=omega) 
  exact .inl ⟨hv,rfl,⟨_,rfl⟩,⟨[],by simp⟩⟩
 |true=>
  rw[hv] at cv
  refine aw_reg fun K hK=>?_;simp(disch:=omega) 
  refine acall_is (cv _ _) ?_;simp(disch:=omega) 
  refine hK _ ?_;clear hK K
  refine aw_iff rfl ?_
  refine aw_skip ?_;simp(disch:=omega) 
  refine hK1 _ ?_;clear hK1
  refine aw_then fun K1 hK1=>?_
  refine aw_reg fun K hK=>?_;simp(disch:=omega) ;refine hK _ ?_;clear hK K
  refine aw_block ?_
  refine aw_own 3 0 3 [] (by omega) rfl ?_
  refine aw_hok fun HOa=>?_
  simp only at HOa
  refine aw_loop (X:=Nat×Toks×List AV) (fun x=>⟨[(1,.ptr H.length 0),(3,.sl x.1 x.2.2 (.own T.length)),(4,.int .i64 (x.1:Nat))],H++[.cells (sgC s)],x.2.1⟩)
   (fun x=>x.1≤s.docs.length∧x.2.2.map untag=dcAV ((s.docs.take x.1).map (refD s))∧x.2.1[T.length]?=some (x.1*3,3)∧Pre T x.2.1∧HOk (H++[.cells (sgC s)]) x.2.1∧BelowAll H.length x.2.1.length x.2.2) (fun x=>s.docs.length-x.1) (0,T++[(0,3)],[]) ?_ ?_ ?_
  ·exact⟨Nat.zero_le _,by simp[dcAV_nil],by simp,⟨_,rfl⟩,HOa,by simp⟩
  ·refine weak_to [] [] ?_ ?_ ?_ ?_ HOa ?_
   all_goals simp
  ·rintro⟨i,U,oc⟩ ⟨h1,h2,h3,h4,h5,h6⟩
   simp only at h1 h2 h3 h4 h5 h6
   have hol:oc.length=i*3:=by
    have:=congrArg List.length h2
    rw[List.length_map,dcAV_len,List.length_map,List.length_take] at this
    rw[this];congr 1;omega
   have hUl:=(List.getElem?_eq_some_iff.1 h3).1
   have lT:=h4.le
   have eU:=at_of h3
   refine aw_then fun K2 hK2=>?_
   refine aw_reg fun K hK=>?_;simp(disch:=omega) ;refine hK _ ?_;clear hK K
   refine aw_if rfl (fun hk=>?_) (fun hk=>?_)
   ·simp  at hk
    have hnat:=getD_ints hk
    have hkl:i<(ints s.docs).length:=by simpa using hk
    have htk:dcAV ((s.docs.take (i+1)).map (refD s))=dcAV ((s.docs.take i).map (refD s))++dcC (refD s (s.docs.getD i 0)):=by rw[take_getD s.docs i 0 hk,List.map_append];exact(dcAV_snoc _ _).symm
    rw[←h2] at htk
    generalize s.docs.getD i 0=id at *
    refine aw_skip ?_;simp(disch:=omega) 
    refine hK2 _ ?_;clear hK2
    refine aw_then fun K3 hK3=>?_
    refine aw_block ?_
    refine aw_reg fun K hK=>?_;simp(disch:=omega)[hnat];refine hK _ ?_;clear hK K
    refine aw_ownC 2 1 (H++[.cells (sgC s)]) [.int .i64 id,.sl 0 [] .full,.sl 0 [] .full] 0 [] (by omega) rfl (by simp) ?_
    refine aw_ownC 2 2 (H++[.cells (sgC s)]) [.int .i64 id,.sl 0 [] (.own U.length),.sl 0 [] .full] 0 [] (by omega) rfl (by simp) ?_
    have hSt:∀{P:St→Prop} {e:Env},P ⟨e,H++[.cells (sgC s),dB id [] [] U.length],U++dT [] []⟩→P ⟨e,H++[.cells (sgC s)]++[.cells (([.int .i64 id,.sl 0 [] (.own U.length),.sl 0 [] .full]:List AV).set 2 (.sl 0 [] (.own (U++[(0,2)]).length)))],U++[(0,2)]++[(0,2)]⟩:=by
     intro P e h
     have e1:H++[Blk.cells (sgC s)]++[Blk.cells (([.int .i64 id,.sl 0 [] (.own U.length),.sl 0 [] .full]:List AV).set 2 (.sl 0 [] (.own (U++[(0,2)]).length)))]=H++[.cells (sgC s),dB id [] [] U.length]:=by simp[dB,znAV_nil,nmAV_nil]
     have e2:U++[(0,2)]++[(0,2)]=U++dT [] []:=by simp[dT]
     rw[e1,e2];exact h
    refine hSt (P:=fun st=>AW _ _ _ st) ?_
    refine aw_hok fun HO2=>?_
    simp only at HO2
    have hbe:∀n t,H.length≤n→U.length≤t→BelowAll n t oc:=fun n t hn ht v hv=>(h6 v hv).more hn ht
    refine aw_weak ⟨[(1,.ptr H.length 0),(3,.sl i oc (.own T.length)),(4,.int .i64 (i:Nat)),(5,.ptr (H.length+1) 0)],H++[.cells (sgC s),dB id [] [] U.length],U++dT [] []⟩ (weak_to [] [] (by simp) (by simp) (by simp) (by simp;omega) HO2 (by simp;exact⟨hbe _ _ (by omega) (by omega),by omega⟩)) ?_
    have hbv:Below H.length U.length (.sl i oc (.own T.length)):=.sl _ _ _ h6 (by simp;omega)
    refine aw_then fun K4 hK4=>?_
    refine rzone_loop s hs id (.sl i oc (.own T.length)) i T.length H U lT hbv HO2 _ fun e HO3 he=>?_
    refine hK4 _ ?_;clear hK4
    refine aw_weak ⟨[(1,.ptr H.length 0),(3,.sl i oc (.own T.length)),(4,.int .i64 (i:Nat)),(5,.ptr (H.length+1) 0)],H++[.cells (sgC s),dB id (zonesOf (refW s id)) [] U.length],U++dT (zonesOf (refW s id)) []⟩ (weak_to [] [] (by simp) (by simp) (by simp) (by simp;omega) HO3 (by simpa using he)) ?_
    refine aw_then fun K4 hK4=>?_
    refine rnum_loop s hs id (.sl i oc (.own T.length)) i T.length _ H U lT hbv HO3 _ fun e2 HO4 he2=>?_
    refine hK4 _ ?_;clear hK4
    have hrd:refD s id=⟨id,zonesOf (refW s id),s.cols.flatMap (nmT id)⟩:=rfl
    rw[hrd] at htk
    generalize zonesOf (refW s id)=zs at *
    generalize s.cols.flatMap (nmT id)=ns at *
    refine aw_weak ⟨[(1,.ptr H.length 0),(3,.sl i oc (.own T.length)),(4,.int .i64 (i:Nat)),(5,.ptr (H.length+1) 0)],H++[.cells (sgC s),dB id zs ns U.length],U++dT zs ns⟩ (weak_to [] [] (by simp) (by simp) (by simp) (by simp;omega) HO4 (by simpa using he2)) ?_
    have eU2:(U++dT zs ns)[T.length]?=some (i*3,3):=by rw[List.getElem?_append_left hUl];exact h3
    refine aw_reg0 fun K hK=>?_;simp(disch:=omega)[hol,eU,hUl,List.getElem_append_left,List.set_append_left,List.getElem?_append_left];refine hK _ ?_;clear hK K
    refine hK3 _ ?_
    obtain⟨U2,hU2⟩:∃U2,U2=List.set U T.length ((i+1)*3,3)++dT zs ns:=⟨_,rfl⟩
    rw[←hU2]
    have hU2l:U2.length=U.length+2:=by rw[hU2];simp
    have h5':HOk (H++[.cells (sgC s)]) U2:=h5.toks (by omega)
    have h4':Pre T U2:=by rw[hU2];exact(h4.set (Nat.le_refl _) _).app _
    have h3':U2[T.length]?=some ((i+1)*3,3):=by rw[hU2,List.getElem?_append_left (by simpa using hUl),List.getElem?_set_self hUl]
    refine aw_reg0 fun K hK=>?_;simp(disch:=omega) 
    refine hK _ ?_;clear hK K
    refine⟨(i+1,U2,oc++[AV.int .i64 id,.sl zs.length (znAV zs) (.own U.length),.sl ns.length (nmAV ns) (.own (U.length+1))]),⟨by show i+1≤_;omega,?_,h3',h4',h5',?_⟩,by show s.docs.length-(i+1)<s.docs.length-i;omega,?_⟩
    ·show List.map untag (oc++_)=dcAV ((s.docs.take (i+1)).map (refD s))
     rw[htk,List.map_append];rfl
    ·show BelowAll H.length U2.length (oc++_)
     intro v hv
     rcases List.mem_append.1 hv with hv|hv
     ·exact(h6 v hv).more (Nat.le_refl _) (by omega)
     ·simp at hv
      rcases hv with rfl|rfl|rfl
      ·exact .int _ _
      ·exact .sl _ _ _ (below_zn _ _ _) (by simp;omega)
      ·exact .sl _ _ _ (below_nm _ _ _) (by simp;omega)
    ·refine weak_to [dB id zs ns U.length] [] ?_ ?_ ?_ ?_ h5' ?_
     all_goals simp
     all_goals first|omega|exact⟨⟨fun v hv=>(h6 v hv).more (by omega) (by omega),by omega,by omega⟩,by omega⟩
   ·simp  at hk
    have hie:i=s.docs.length:=by omega
    subst hie
    refine aw_exit ?_;simp(disch:=omega) 
    refine hK1 _ ?_;clear hK1
    refine aw_reg fun K hK=>?_;simp(disch:=omega) ;refine hK _ ?_;clear hK K
    refine aw_ret ?_;simp(disch:=omega) 
    rw[List.take_length] at h2
    exact .inr ⟨hv,oc,rfl,h2,h3,⟨_,rfl⟩,h4⟩
theorem untag_at {l:List Dc}{oc:List AV}(h2:oc.map untag=dcAV l)(n0 t0:Nat)(H:List Blk)(j:Nat)(hj:j<(dcAV l).length):Frz n0 t0 H (oc.getD j .top) ((dcAV l)[j]'hj):=by
 have hjo:j<oc.length:=by rw[←List.length_map (f:=untag),h2];exact hj
 refine .keep (.inr ?_) (below_dc _ _ _ _ (List.getElem_mem hj))
 rw[List.getD_eq_getElem?_getD,List.getElem?_eq_getElem hjo]
 simp only[←h2,List.getElem_map,Option.getD_some]
theorem docsR_len {s:Sg}(hv:validS s=true):docsR s=s.docs.map (refD s)∧(docsR s).length=s.docs.length:=by
 have hP:docsR s=s.docs.map (refD s):=by unfold docsR;rw[hv];rfl
 exact⟨hP,by rw[hP,List.length_map]⟩
theorem refDocs_ok (s:Sg)(hs:SzS s)(H:List Blk)(T:Toks):ACall Tryz.prog 41 [sgAV s] H T (Is (.sl (docsR s).length (dcAV (docsR s)) .none) H T):=by
 refine ACall.frz ((refDocs_raw s hs H T).mono fun r J U h=>?_)
 rcases h with⟨hv,rfl,hJ,hU⟩|⟨hv,oc,rfl,h2,h3,hJ,hU⟩
 ·have hP:docsR s=[]:=by unfold docsR;rw[hv];rfl
  rw[hP]
  exact⟨hJ,hU,.keep (.inr rfl) (by simp[dcAV_nil])⟩
 ·obtain⟨hP,hl⟩:=docsR_len hv
  rw[hl,hP]
  exact⟨hJ,hU,.sl (by rw[←h2,List.length_map]) (untag_at h2 _ _ _)⟩
end Go.Proofs.YtneohapkboaplaaGreat
