/- segment.Documents (layer 39). The reference's words and Documents (layer 39). Documents of the reference (layer 39). Both Documents are one (layer 39).
  Conditions: as the theorems say. -/
import Derived.Test.YtoejlmpbebjemaaGreatGZa
import Derived.Test.YtoejlmpbebjemaaGreatGRA
import Derived.Test.YtoejlmpbebjemaaGreatAmC
import Derived.Test.YtoejlmpbebjemaaGreatPZ
set_option linter.all false
set_option maxRecDepth 100000
set_option maxHeartbeats 16000000
namespace Go.Proofs.YtoejlmpbebjemaaGreat
open Go Go.Am Sug Seg
theorem frz_wds {n0 t0:Nat}{H:List Blk}{z:Wz}(h:z.ws≠[]→n0≤z.i∧H[z.i]?=some (.cells (wdAV z.ws++z.rest))):Frz n0 t0 H (gv z.ws.length z.i z.cap) (.sl z.ws.length (wdAV z.ws) .none):=by
 by_cases hw:z.ws=[]
 ·rw[hw];exact .keep (.inr rfl) (by simp[wdAV_nil])
 ·have hl:z.ws.length≠0:=fun e=>hw (List.length_eq_zero_iff.1 e);rw[gv,if_neg hl];obtain⟨a,b⟩:=h hw;exact .csl0 a b (rows_below (f:=wdC) (fun x v hv=>by simp at hv;rcases hv with rfl|rfl<;>first|exact .int _ _|exact .str _) _)
theorem frz_zns {n0 t0:Nat}{H:List Blk}{d:Dz}(h:d.zs≠[]→n0≤d.i∧H[d.i]?=some (.cells (zrs d.zs++d.rest)))(hz:∀z∈d.zs,z.ws≠[]→n0≤z.i∧H[z.i]?=some (.cells (wdAV z.ws++z.rest))) :
  Frz n0 t0 H (gv d.zs.length d.i d.cap) (.sl d.dc.zs.length (znAV d.dc.zs) .none):=by
 have hl2:d.dc.zs.length=d.zs.length:=by simp[Dz.dc]
 by_cases hw:d.zs=[]
 ·have:d.dc.zs=[]:=by simp[Dz.dc,hw]
  rw[this,hw];exact .keep (.inr rfl) (by simp[znAV_nil])
 ·have hl:d.zs.length≠0:=fun e=>hw (List.length_eq_zero_iff.1 e);rw[gv,if_neg hl,hl2];obtain⟨a,b⟩:=h hw;have h2:znAV d.dc.zs=d.zs.flatMap fun z=>znC z.zn:=by simp[znAV,Dz.dc,List.flatMap_map]
  rw[h2];refine .csl a b ?_ fun j hj=>?_
  ·rw[List.length_append,zrs_len,rows_len (f:=fun z:Wz=>znC z.zn) (k:=2) (fun _=>rfl)];omega
  ·refine frz_rows (fa:=Wz.row) (fb:=fun z=>znC z.zn) (k:=2) zr_rows (fun _=>rfl) d.zs (fun z hzm j hj=>?_) d.rest j hj
   match j,hj with
   |0,_=>exact .same (.int _ _)
   |1,_=>exact frz_wds (hz z hzm)
theorem frz_drs {H:List Blk}{T:Toks}{R:List (Nat×Blk)}{bo N n0:Nat}{J:List Blk}{U:Toks}{D:List Dz}(hS:DS H T R bo N J U D)(hn:∀x∈D.flatMap Dz.bx,n0≤x.1)(j:Nat)(hj:j<(dcAV (D.map Dz.dc)).length) :
  Frz n0 T.length J ((drs D).getD j .top) ((dcAV (D.map Dz.dc))[j]'hj):=by
 have h2:dcAV (D.map Dz.dc)=D.flatMap fun d=>dcC d.dc:=by simp[dcAV,List.flatMap_map]
 have hm:∀d∈D,∀x∈d.bx,n0≤x.1∧J[x.1]?=some x.2:=fun d hd x hx=>by
  have hx2:x∈D.flatMap Dz.bx:=List.mem_flatMap.2 ⟨d,hd,hx⟩;exact⟨hn x hx2,hS.hJ.2 x (List.mem_append_right _ (List.mem_cons_of_mem _ hx2))⟩
 simp only[h2];rw[h2] at hj;have:=frz_rows (n0:=n0) (t0:=T.length) (H:=J) (fa:=Dz.row) (fb:=fun d=>dcC d.dc) (k:=3) dr_rows (fun _=>rfl) D (fun d hd j hj=>?_) [] j hj
 ·rw[List.append_nil] at this;exact this
 ·match j,hj with
  |0,_=>exact .same (.int _ _)
  |1,_=>
   refine frz_zns (fun hz=>?_) fun z hz hw=>?_
   ·exact hm d hd (d.i,.cells (zrs d.zs++d.rest)) (by simp[Dz.bx,gb,hz])
   ·exact hm d hd (z.i,.cells (wdAV z.ws++z.rest)) (by
     unfold Dz.bx;exact List.mem_append_right _ (List.mem_flatMap.2 ⟨z,hz,by simp[Wz.bx,gb,hw]⟩))
  |2,_=>
   show Frz _ _ _ (ov d.ns d.tk) (.sl d.ns.length (nmAV d.ns) .none)
   by_cases hn:d.ns=[]
   ·rw[hn];exact .keep (.inr rfl) (by simp[nmAV_nil])
   ·rw[ov,if_neg hn];exact .keep (.inr rfl) (.sl _ _ _ (below_nm _ _ _) (by simp))
theorem drs_bx {H:List Blk}{T:Toks}{R:List (Nat×Blk)}{bo N:Nat}{J:List Blk}{U:Toks}{D:List Dz}(hS:DS H T R bo N J U D):∀x∈D.flatMap Dz.bx,H.length≤x.1:=by
 intro x hx;obtain⟨d,hd,hx⟩:=List.mem_flatMap.1 hx;have hok:=hS.hD d hd;unfold Dz.bx gb at hx;rcases List.mem_append.1 hx with h|h
 ·split at h
  ·simp at h
  ·rename_i hl;rw[List.mem_singleton.1 h];exact(hok.z.2 hl).2.2
 ·obtain⟨z,hz,h⟩:=List.mem_flatMap.1 h;unfold Wz.bx gb at h
  split at h
  ·simp at h
  ·rename_i hl;rw[List.mem_singleton.1 h];exact((hok.w z hz).2 hl).2.2
theorem drs_lens (D:List Dz):(dcAV (D.map Dz.dc)).length=(drs D).length:=by
 rw[drs_len,dcAV_len,List.length_map]
attribute [-simp] List.getD_eq_getElem?_getD in
theorem sort_loop (H:List Blk)(T:Toks)(b1 bo bm nd:Nat)(N:Nat)(R:List (Nat×Blk))(J:List Blk)(U:Toks)(D:List Dz)
  (hS:DS H T R bo N J U D) (hN:N≤1099511627776) (hnd:nd=D.length) (hnl:nd≤1000) (hW:∀d∈D,∀z∈d.zs,z.ws≠[]∧z.ws.Pairwise fun x y=>x.2≠y.2) (hb1:b1<J.length) (hbm:bm<J.length) (Q:Exit→St→Prop)
  (go:∀(e:Env)(J':List Blk),DS H T R bo N J' U (D.map srtDz)→
   envLe J'.length U.length e [(1,.ptr b1 0),(3,.csl bo nd nd),(4,.mref bm)]→AW ⟨Tryz.prog,192,190,H.length,T.length,[100100,100131]⟩ (subC [1,1,1,1,1,1,1,1] (Tryz.f88.body.getD .skip)) Q ⟨e,J',U⟩) :
  AW ⟨Tryz.prog,192,190,H.length,T.length,[100100,100131]⟩ (subC [1,1,1,1,1,1,1] (Tryz.f88.body.getD .skip)) Q ⟨[(1,.ptr b1 0),(3,.csl bo nd nd),(4,.mref bm)],J,U⟩:=by
 conv=>arg 2;whnf
 have lo:=hS.hJ.lt (i:=bo) (b:=.cells (drs D)) (by simp);have lH:=hS.pJ.le;have lT:=hS.pU.le;refine aw_then fun K1 hK1=>?_;apply aw_reg;intro K h;simp(disch:=omega);apply h;clear h K;apply aw_block;refine aw_loop (X:=Nat×List Blk) (fun x=>⟨[(1,.ptr b1 0),(3,.csl bo nd nd),(4,.mref bm),(173,.msl bo 0 nd),(174,.int .i64 (nd:Nat)),(175,.int .i64 (x.1:Nat))],x.2,U⟩)
  (fun x=>x.1≤nd∧DS H T R bo N x.2 U ((D.take x.1).map srtDz++D.drop x.1)∧J.length≤x.2.length) (fun x=>nd-x.1) (0,J) ?_ ?_ ?_
 ·exact⟨Nat.zero_le _,by simpa using hS,Nat.le_refl _⟩
 ·refine weak_to [] [] ?_ ?_ ?_ ?_ hS.ok ?_
  all_goals simp
  all_goals omega
 ·rintro⟨k,J2⟩ ⟨k1,k2,k3⟩;simp only at k1 k2 k3;have lH2:=k2.pJ.le;have lT2:=k2.pU.le;apply aw_reg;intro K h;simp(disch:=omega);apply h;clear h K;refine aw_then fun K2 hK2=>?_;refine aw_if rfl (fun hk5=>?_) (fun hk5=>?_)
  ·simp  at hk5;apply aw_skip;simp(disch:=omega) ;apply hK2;clear hK2;refine aw_then fun K3 hK3=>?_;apply aw_block;refine aw_weak ⟨[(1,.ptr b1 0),(3,.csl bo nd nd),(4,.mref bm),(173,.msl bo 0 nd),(174,.int .i64 (nd:Nat)),(175,.int .i64 (k:Nat))],J2,U⟩ (weak_to [] [] (by simp) (by simp) (by show H.length≤_;omega) (by show T.length≤_;omega) k2.ok (by simp;omega)) ?_;have hkD:k<D.length:=by omega
   have hdk:D.drop k=D[k]::D.drop (k+1):=(List.getElem_cons_drop ..).symm;have htk:D.take (k+1)=D.take k++[D[k]]:=by rw[List.take_append_getElem]
   rw[hdk] at k2;have hlen:((D.take k).map srtDz).length=k:=by simp;omega
   refine dsort H T b1 bo bm nd k N _ J2 U _ _ D[k] k2 hN hlen.symm (by rw[hlen,List.length_drop];omega) (hW _ (List.getElem_mem _)) (by omega) (by omega) _ fun e J' a1 a2 a3=>?_;have lH3:=a1.pJ.le;have lT3:=a1.pU.le;refine hK3 _ (aw_weak ⟨[(1,.ptr b1 0),(3,.csl bo nd nd),(4,.mref bm),(173,.msl bo 0 nd),(174,.int .i64 (nd:Nat)),(175,.int .i64 (k:Nat))],J',U⟩ (weak_to [] [] (by simp) (by simp) (by show H.length≤_;omega) (by show T.length≤_;omega) a1.ok a3) ?_);clear hK3;refine aw_reg0 fun K hK=>?_;simp(disch:=omega) ;apply hK;clear hK K;refine⟨(k+1,J'),⟨by show k+1≤_;omega,by show DS _ _ _ _ _ _ _ ((D.take (k+1)).map srtDz++D.drop (k+1));rw[htk,List.map_append,List.append_assoc];exact a1,by show J.length≤J'.length;omega⟩,by show nd-(k+1)<nd-k;omega,?_⟩;refine weak_to [] [] ?_ ?_ ?_ ?_ a1.ok ?_
   all_goals simp
   all_goals omega
  ·simp  at hk5;have hkk:k=nd:=by omega
   subst hkk;apply aw_exit;simp(disch:=omega) ;rw[hnd,List.take_length,List.drop_length,List.append_nil] at k2;apply hK1;clear hK1;refine go _ J2 k2 ?_;simp;omega
def mkD (id:Int):Dz:=⟨id,[],0,0,[],[],0⟩
def iniD (ids:List Int)(k:Nat):List Dz:=(ids.take k).map mkD++List.replicate (ids.length-k) (mkD 0)
theorem iniD_tx (ids:List Int)(k:Nat):(iniD ids k).flatMap Dz.tx=[]∧(iniD ids k).flatMap Dz.bx=[]:=by
 have h:∀d∈iniD ids k,Dz.tx d=[]∧Dz.bx d=[]:=by
  intro d hd;rcases List.mem_append.1 hd with hd|hd
  ·obtain⟨i,_,rfl⟩:=List.mem_map.1 hd;exact⟨rfl,rfl⟩
  ·obtain rfl:=List.eq_of_mem_replicate hd;exact⟨rfl,rfl⟩
 exact⟨List.flatMap_eq_nil_iff.2 fun d hd=>(h d hd).1,List.flatMap_eq_nil_iff.2 fun d hd=>(h d hd).2⟩
theorem iniD_ok (ids:List Int)(k nb tb N:Nat):∀d∈iniD ids k,DzOk nb tb N d:=by
 have h:∀i,DzOk nb tb N (mkD i):=fun i=>⟨⟨Nat.zero_le _,fun h=>absurd rfl h⟩,fun z hz=>by simp[mkD] at hz,⟨Nat.zero_le _,fun h=>absurd rfl h⟩⟩
 intro d hd;rcases List.mem_append.1 hd with hd|hd
 ·obtain⟨i,_,rfl⟩:=List.mem_map.1 hd;exact h i
 ·obtain rfl:=List.eq_of_mem_replicate hd;exact h 0
theorem drs_set0 (D1 D2:List Dz)(d d':Dz)(h:d'.zs=d.zs∧d'.i=d.i∧d'.cap=d.cap∧d'.ns=d.ns∧d'.tk=d.tk):(drs (D1++d::D2)).set (D1.length*3) (.int .i64 d'.id)=drs (D1++d'::D2):=by
 have hl:=drs_len D1;have e:∀x:Dz,drs (D1++x::D2)=drs D1++(x.row++drs D2):=fun x=>by simp[drs]
 obtain⟨h1,h2,h3,h4,h5⟩:=h;rw[e,e,List.set_append_right _ _ (by omega),hl,Nat.sub_self];simp[Dz.row,h1,h2,h3,h4,h5]
theorem iniD_step {ids:List Int}{k:Nat}(hk:k<ids.length):(drs (iniD ids k)).set (k*3) (.int .i64 (ids.getD k 0))=drs (iniD ids (k+1)):=by
 have h1:iniD ids k=(ids.take k).map mkD++mkD 0::List.replicate (ids.length-(k+1)) (mkD 0):=by
  unfold iniD;rw[show ids.length-k=ids.length-(k+1)+1 by omega,List.replicate_succ]
 have h2:iniD ids (k+1)=(ids.take k).map mkD++mkD (ids.getD k 0)::List.replicate (ids.length-(k+1)) (mkD 0):=by
  unfold iniD;rw[take_getD ids k 0 hk,List.map_append,List.append_assoc];rfl
 rw[h1,h2];have:=drs_set0 ((ids.take k).map mkD) (List.replicate (ids.length-(k+1)) (mkD 0)) (mkD 0) (mkD (ids.getD k 0)) ⟨rfl,rfl,rfl,rfl,rfl⟩;rw[List.length_map,List.length_take,Nat.min_eq_left (Nat.le_of_lt hk)] at this;exact this
theorem mapE_step {ids:List Int}{k:Nat}(hn:ids.Nodup)(hk:k<ids.length):mput (mapE (ids.take k)) (.one (.int .i64 (ids.getD k 0))) (.int .i64 (k:Nat))=mapE (ids.take (k+1)):=by
 have hkey:(MKey.one (.int .i64 (ids.getD k 0)):MKey)=keyF (ids.getD k 0):=rfl;have hno:∀e∈mapE (ids.take k),e.1≠keyF (ids.getD k 0):=by
  intro e he h;have h1:e.1∈(mapE (ids.take k)).map (·.1):=List.mem_map.2 ⟨e,he,rfl⟩;rw[mapE_keys] at h1;obtain⟨i,hi,e1⟩:=List.mem_map.1 h1;have:i=ids.getD k 0:=keyF_inj.1 (e1.trans h);subst this;have h2:ids=ids.take k++(ids.getD k 0::ids.drop (k+1)):=by rw[←getD_cons_drop ids k 0 hk,List.take_append_drop]
  rw[h2,List.nodup_append] at hn;exact hn.2.2 _ hi _ (by simp) rfl
 rw[hkey,mput_none hno];unfold mapE;have hl:(ids.take k).length=k:=by simp;omega
 have hl2:(ids.take (k+1)).length=k+1:=by simp;omega
 rw[hl,hl2,List.range_succ,List.map_append]
 congr 1
 ·refine List.map_congr_left fun j hj=>?_;rw[List.mem_range] at hj;rw[List.getD_eq_getElem?_getD,List.getD_eq_getElem?_getD,List.getElem?_take,List.getElem?_take,if_pos hj,if_pos (by omega)]
 ·simp[List.getD_eq_getElem?_getD,List.getElem?_take]
theorem drs_zero (n:Nat):amade [.int .i64 0,.sl 0 [] .full,.sl 0 [] .full] (n*3)=drs (List.replicate n (mkD 0)):=by
 induction n with
 |zero=>rfl
 |succ n ih=>
  rw[List.replicate_succ',show drs (List.replicate n (mkD 0)++[mkD 0])=drs (List.replicate n (mkD 0))++(mkD 0).row by simp[drs],←ih];unfold amade;rw[Nat.add_mul,Nat.one_mul,List.range_add,List.map_append]
  congr 1
  simp[mkD,gv,ov,Nat.add_mod,List.range_succ]
attribute [-simp] List.getD_eq_getElem?_getD in
theorem init_loop (H:List Blk)(T:Toks)(s:Sg)(hs:s.docs.length≤1000)(hnd:s.docs.Nodup)(hft:∀i∈s.docs,1≤i∧i≤1000000000)(HO:HOk (H++[.cells (sgC s),.cells (drs (iniD s.docs 0)),.map []]) T)(Q:Exit→St→Prop)
  (go:∀(e:Env),DS H T [(H.length,.cells (sgC s)),(H.length+2,.map (mapE s.docs))] (H.length+1) 0 (H++[.cells (sgC s),.cells (drs (iniD s.docs s.docs.length)),.map (mapE s.docs)]) T (iniD s.docs s.docs.length)→
   envLe (H.length+3) T.length e [(1,.ptr H.length 0),(3,.csl (H.length+1) s.docs.length s.docs.length),(4,.mref (H.length+2))]→AW ⟨Tryz.prog,192,190,H.length,T.length,[100100,100131]⟩ (subC [1,1,1,1,1] (Tryz.f88.body.getD .skip)) Q ⟨e,H++[.cells (sgC s),.cells (drs (iniD s.docs s.docs.length)),.map (mapE s.docs)],T⟩) :
  AW ⟨Tryz.prog,192,190,H.length,T.length,[100100,100131]⟩ (subC [1,1,1,1] (Tryz.f88.body.getD .skip)) Q ⟨[(1,.ptr H.length 0),(3,.csl (H.length+1) s.docs.length s.docs.length),(4,.mref (H.length+2))],H++[.cells (sgC s),.cells (drs (iniD s.docs 0)),.map []],T⟩:=by
 conv=>arg 2;whnf
 refine aw_then fun K1 hK1=>?_;apply aw_reg;intro K h;simp(disch:=omega);apply h;clear h K;apply aw_block;refine aw_loop (X:=Nat) (fun k=>⟨[(1,.ptr H.length 0),(3,.csl (H.length+1) s.docs.length s.docs.length),(4,.mref (H.length+2)),(34,.sl s.docs.length (ints s.docs) .none),(35,.int .i64 (s.docs.length:Nat)),(36,.int .i64 (k:Nat))],H++[.cells (sgC s),.cells (drs (iniD s.docs k)),.map (mapE (s.docs.take k))],T⟩)
  (fun k=>k≤s.docs.length∧HOk (H++[.cells (sgC s),.cells (drs (iniD s.docs k)),.map (mapE (s.docs.take k))]) T) (fun k=>s.docs.length-k) 0 ?_ ?_ ?_
 ·exact⟨Nat.zero_le _,by simpa[mapE] using HO⟩
 ·refine weak_to [] [] ?_ ?_ ?_ ?_ (by simpa[mapE] using HO) ?_
  all_goals simp[mapE]
  all_goals omega
 ·rintro k ⟨k1,k2⟩;apply aw_reg;intro K h;simp(disch:=omega);apply h;clear h K;refine aw_then fun K2 hK2=>?_;refine aw_if rfl (fun hk5=>?_) (fun hk5=>?_)
  ·simp  at hk5;apply aw_skip;simp(disch:=omega) ;apply hK2;clear hK2;refine aw_then fun K3 hK3=>?_;apply aw_block;have hk2:k<(ints s.docs).length:=by simpa using hk5
   have hga:=getD_ints (xs:=s.docs) (k:=k) hk5;have hil:(drs (iniD s.docs k)).length=s.docs.length*3:=by rw[drs_len];simp[iniD];omega
   have hst:=iniD_step hk5;have hmp:=mapE_step hnd hk5;have hfm:keysFit Tryz.prog 3 (mapE (s.docs.take k))=true:=fitD fun i hi=>hft i (List.mem_of_mem_take hi);have hfi:=fitF (s.docs.getD k 0) (by have:=hft _ (getD_mem s.docs k 0 hk5);omega);rw[show keyF (s.docs.getD k 0)=.one (.int .i64 (s.docs.getD k 0)) from rfl] at hfi;generalize s.docs.getD k 0=id at *;refine aw_reg fun K hK=>?_;simp(disch:=omega)[hga];apply hK;clear hK K;refine aw_reg fun K hK=>?_;simp(disch:=omega)[hil,hst];apply hK;clear hK K;refine aw_reg0 fun K hK=>?_;simp(disch:=omega)[mapT216,hfm,hfi,hmp];apply hK;clear hK K;refine hK3 _ ?_;clear hK3;refine aw_hok fun HO3=>?_;simp only at HO3;refine aw_reg0 fun K hK=>?_;simp(disch:=omega) ;apply hK;clear hK K;refine⟨k+1,⟨by omega,HO3⟩,by omega,?_⟩;refine weak_to [] [] ?_ ?_ ?_ ?_ HO3 ?_
   all_goals simp
   all_goals omega
  ·simp  at hk5;have hkk:k=s.docs.length:=by omega
   subst hkk;apply aw_exit;simp(disch:=omega) ;rw[List.take_length] at k2;apply hK1;clear hK1;refine go _ ⟨⟨?_,fun p hp=>?_⟩,?_,iniD_ok _ _ _ _ _,⟨_,rfl⟩,⟨[],by simp⟩,k2⟩ ?_
   ·rw[(iniD_tx _ _).2];simp
   ·rw[(iniD_tx _ _).2] at hp;simp at hp;rcases hp with rfl|rfl|rfl<;>simp
   ·rw[(iniD_tx _ _).1];exact⟨by simp,fun p hp=>by simp at hp⟩
   ·simp
theorem occs_snd (id f:Int):∀ts:List Tm,(occs ts id f).map (·.2)=((pls ts).filter fun k=>k.1==f&&k.2.1==id).map (·.2.2)
 |[]=>rfl
 |t::ts=>by
  have h1:occs (t::ts) id f=occE (((t.l.filter fun p=>p.1==id).map fun p=>(t.f,p.2.map fun a=>(t.w,a)))) f++occs ts id f:=by
   unfold occs evs occE;rw[List.flatMap_cons,List.filter_append,List.flatMap_append]
  have h2:pls (t::ts)=plsT t++pls ts:=by simp[pls]
  rw[h1,h2,List.map_append,List.filter_append,List.map_append,occs_snd id f ts]
  congr 1
  unfold occE plsT;have key:∀l:List Ps,(((((l.filter fun p=>p.1==id).map fun p=>(t.f,p.2.map fun a=>(t.w,a)))).filter fun e=>e.1==f).flatMap (·.2)).map (·.2)=((l.flatMap (plsP t.f)).filter fun k=>k.1==f&&k.2.1==id).map (·.2.2):=by
   intro l
   induction l with
   |nil=>rfl
   |cons p l ih=>
    rw[List.flatMap_cons,List.filter_append,List.map_append,←ih];have e:(plsP t.f p).filter (fun k=>k.1==f&&k.2.1==id)=if t.f=f∧p.1=id then plsP t.f p else []:=by
     unfold plsP
     by_cases h:t.f=f∧p.1=id
     ·rw[if_pos h,List.filter_eq_self];intro k hk;obtain⟨a,_,rfl⟩:=List.mem_map.1 hk;simpa using h
     ·rw[if_neg h,List.filter_eq_nil_iff];intro k hk;obtain⟨a,_,rfl⟩:=List.mem_map.1 hk;simpa using h
    rw[e]
    by_cases hp:p.1=id
    ·rw[List.filter_cons_of_pos (by simp[hp]),List.map_cons]
     by_cases hf:t.f=f
     ·rw[List.filter_cons_of_pos (by simp[hf]),if_pos ⟨hf,hp⟩,List.flatMap_cons,List.map_append]
      congr 1
      simp[plsP]
     ·rw[List.filter_cons_of_neg (by simp[hf]),if_neg fun h=>hf h.1];rfl
    ·rw[List.filter_cons_of_neg (by simp[hp]),if_neg fun h=>hp h.2];rfl
  exact key t.l
theorem occs_nd {ts:List Tm}(h:(pls ts).Nodup)(id f:Int):(occs ts id f).Pairwise fun x y=>x.2≠y.2:=by
 rw[←List.pairwise_map (R:=fun a b:Int=>a≠b),occs_snd];rw[List.pairwise_map];refine((h.filter _).imp_of_mem fun {a b} ha hb hab he=>hab ?_);rw[List.mem_filter] at ha hb;obtain⟨a1,a2,a3⟩:=a;obtain⟨b1,b2,b3⟩:=b;simp at ha hb he;simp[ha.2,hb.2,he]
def docsP (s:Sg):List Dc:=if validS s=true then docsF s else []
theorem zonesOf_mem {g:Int→List Wd}{z:Zn}(h:z∈zonesOf g):z.ws≠[]∧z.ws=g z.f∧1≤z.f∧z.f≤4:=by
 unfold zonesOf at h;obtain⟨f,hf,hz⟩:=List.mem_flatMap.1 h
 by_cases hg:g f=[]
 ·rw[if_pos hg] at hz;cases hz
 ·rw[if_neg hg] at hz;obtain rfl:=List.mem_singleton.1 hz;refine⟨hg,rfl,?_⟩;simp at hf;show 1≤f∧f≤4;omega
def DQ (s:Sg)(H:List Blk)(T:Toks):AV→List Blk→Toks→Prop:=fun r J U=>
 (validS s=false∧r=.sl 0 [] .full∧Pre H J∧Pre T U)∨
 (validS s=true∧r=.csl (H.length+1) s.docs.length s.docs.length∧∃R N D,DS H T ((H.length,.cells (sgC s))::R) (H.length+1) N J U D∧D.length=s.docs.length∧D.map Dz.dc=docsF s)
attribute [-simp] List.getD_eq_getElem?_getD in
theorem documents_raw (s:Sg)(hs:SzS s)(H:List Blk)(T:Toks):ACall Tryz.prog 88 [sgAV s] H T (DQ s H T):=by
 have cv:=fun H T=>validS_ok s hs H T;have hdl:=hs.d;refine acall_enter 190 [100100,100131] Tryz.ntmps88 Tryz.func88 rfl (fun _ _=>Tryz.call88 _ _) (by simp) (fun HO=>?_);have HO1:HOk (H++[.cells (sgC s)]) T:=HO.snoc (by simp);apply aw_reg;intro K h;simp(disch:=omega);apply h;clear h K;refine aw_then fun K1 hK1=>?_
 cases hv:validS s with
 |false=>
  rw[hv] at cv;refine aw_reg fun K hK=>?_;simp(disch:=omega) ;refine acall_is (cv _ _) ?_;simp(disch:=omega) ;apply hK;clear hK K;apply aw_ift rfl;apply aw_reg;intro K h;simp(disch:=omega);apply h;clear h K;apply aw_ret;simp(disch:=omega) ;exact .inl ⟨hv,rfl,⟨_,rfl⟩,⟨[],by simp⟩⟩
 |true=>
  rw[hv] at cv;obtain⟨⟨vd,_⟩,⟨vt,vn⟩,vc⟩:=validS_parts hv;have hbd:=asc_bounds vd;have hndp:=asc_nodup (asc_pair vd);refine aw_reg fun K hK=>?_;simp(disch:=omega) ;refine acall_is (cv _ _) ?_;simp(disch:=omega) ;apply hK;clear hK K;apply aw_iff rfl;apply aw_skip;simp(disch:=omega) ;apply hK1;clear hK1;apply aw_reg;intro K h;simp(disch:=omega);apply h;clear h K;apply aw_reg;intro K h;simp(disch:=omega);apply h;clear h K;have hz0:amade [.int .i64 0,.sl 0 [] .full,.sl 0 [] .full] (s.docs.length*3)=drs (iniD s.docs 0):=by rw[drs_zero];simp[iniD]
  rw[hz0];refine aw_hok fun HO2=>?_;simp only at HO2;refine aw_weak ⟨[(1,.ptr H.length 0),(3,.csl (H.length+1) s.docs.length s.docs.length),(4,.mref (H.length+2))],H++[.cells (sgC s),.cells (drs (iniD s.docs 0)),.map []],T⟩ (weak_to [] [] (by simp) (by simp) (by simp) (by simp) (by simpa using HO2) (by simp)) ?_;refine init_loop H T s (by omega) hndp hbd (by simpa using HO2) _ fun e hD he=>?_;have hids0:(iniD s.docs s.docs.length).map (·.id)=s.docs:=by
   simp[iniD,Function.comp_def,mkD]
  have hdc0:(iniD s.docs s.docs.length).map Dz.dc=s.docs.map fun id=>⟨id,[],[]⟩:=by
   simp[iniD,Function.comp_def,mkD,Dz.dc]
  have hlen3:(H++[Blk.cells (sgC s),.cells (drs (iniD s.docs s.docs.length)),.map (mapE s.docs)]).length=H.length+3:=by simp
  generalize H++[Blk.cells (sgC s),.cells (drs (iniD s.docs s.docs.length)),.map (mapE s.docs)]=J at *;refine aw_weak ⟨[(1,.ptr H.length 0),(3,.csl (H.length+1) s.docs.length s.docs.length),(4,.mref (H.length+2))],J,T⟩ (weak_to [] [] (by simp) (by simp) (by show H.length≤_;omega) (by simp) hD.ok (by rw[hlen3];exact he)) ?_;refine terms_loop39 H T s H.length (H.length+1) (H.length+2) s.docs.length 0 s.docs _ J T _ hD hids0 rfl hndp hbd hs (fun t ht=>(tm_ok hv ht).2.2.2) (by omega) (by simp) (by omega) (by simp) _ fun e1 J1 D1 a1 a2 a3 a4=>?_;have lT1:=a1.pU.le;have lH1:=a1.pJ.le;refine aw_weak ⟨[(1,.ptr H.length 0),(3,.csl (H.length+1) s.docs.length s.docs.length),(4,.mref (H.length+2))],J1,T⟩ (weak_to [] [] (by simp) (by simp) (by show H.length≤_;omega) (by simp) a1.ok a4) ?_;refine cols_loop39 H T s H.length (H.length+1) (H.length+2) s.docs.length _ s.docs _ J1 T D1 a1 a2 rfl hndp hbd hs (fun c hc=>(cl_ok hv hc).2) (by omega) (by simp) (by omega) (by simp) _ fun e2 J2 U2 D2 b1 b2 b3 b4=>?_;have lT2:=b1.pU.le;have lH2:=b1.pJ.le;have l1:=b1.hJ.lt (i:=H.length) (b:=.cells (sgC s)) (by simp);have l3:=b1.hJ.lt (i:=H.length+2) (b:=.map (mapE s.docs)) (by simp);refine aw_weak ⟨[(1,.ptr H.length 0),(3,.csl (H.length+1) s.docs.length s.docs.length),(4,.mref (H.length+2))],J2,U2⟩ (weak_to [] [] (by simp) (by simp) (by show H.length≤_;omega) (by show T.length≤_;omega) b1.ok b4) ?_;rw[a3,hdc0] at b3;rw[foldT,foldC,List.map_map,List.map_map] at b3;simp only[Function.comp_def,List.nil_append] at b3;have hDl:s.docs.length=D2.length:=by rw[←b2,List.length_map]
  have hdcs:∀d∈D2,d.dc=⟨d.id,zonesOf (occs s.tms d.id),nms s.cols d.id⟩:=by
   intro d hd;have h1:d.dc∈D2.map Dz.dc:=List.mem_map.2 ⟨d,hd,rfl⟩;rw[b3] at h1;obtain⟨i,_,h2⟩:=List.mem_map.1 h1;rw[evs_zones hv] at h2;have:i=d.id:=congrArg Dc.id h2;rw[←h2,this]
  refine sort_loop H T H.length (H.length+1) (H.length+2) s.docs.length _ _ J2 U2 D2 b1 (by omega) hDl (by omega) (fun d hd z hz=>?_) l1 l3 _ fun e3 J3 c1 c2=>?_
  ·have h1:z.zn∈d.dc.zs:=List.mem_map.2 ⟨z,hz,rfl⟩;rw[hdcs d hd] at h1;obtain⟨h2,h3,_⟩:=zonesOf_mem h1;refine⟨h2,?_⟩;show z.zn.ws.Pairwise _;rw[h3];exact occs_nd vn _ _
  conv=>arg 2;whnf
  have lT3:=c1.pU.le;have lH3:=c1.pJ.le;refine aw_weak ⟨[(1,.ptr H.length 0),(3,.csl (H.length+1) s.docs.length s.docs.length),(4,.mref (H.length+2))],J3,U2⟩ (weak_to [] [] (by simp) (by simp) (by show H.length≤_;omega) (by show T.length≤_;omega) c1.ok c2) ?_;apply aw_reg;intro K h;simp(disch:=omega);apply h;clear h K;apply aw_ret;simp(disch:=omega) ;have hfin:(D2.map srtDz).map Dz.dc=docsF s:=by
   unfold docsF;rw[List.map_map,←b2,List.map_map];refine List.map_congr_left fun d hd=>?_;simp only[Function.comp];have h1:(srtDz d).dc=⟨d.id,d.dc.zs.map srtZ,d.ns⟩:=by simp[srtDz,Dz.dc,List.map_map,Function.comp_def,srtWz,Wz.zn,srtZ]
   rw[h1,hdcs d hd,zonesOf_srt];have h2:d.ns=nms s.cols d.id:=congrArg Dc.ns (hdcs d hd);rw[h2]
  have hll:(D2.map srtDz).length=s.docs.length:=by rw[List.length_map,←hDl]
  exact .inr ⟨hv,rfl,_,_,_,c1,hll,hfin⟩
theorem documentsP_full (s:Sg)(hs:SzS s)(H:List Blk)(T:Toks):ACall Tryz.prog 88 [sgAV s] H T (Is (.sl (docsP s).length (dcAV (docsP s)) .full) H T):=by
 refine ACall.frz ?_;refine(documents_raw s hs H T).mono fun r J U h=>?_;rcases h with⟨hv,rfl,hJ,hU⟩|⟨hv,rfl,R,N,D,hS,hl,hd⟩
 ·have hP:docsP s=[]:=by unfold docsP;rw[hv];rfl
  rw[hP];exact⟨hJ,hU,.keep (.inl rfl) (by simp[dcAV_nil])⟩
 ·have hP:docsP s=D.map Dz.dc:=by unfold docsP;rw[hv,hd];rfl
  have go_:=hS.hJ.get (i:=H.length+1) (b:=.cells (drs D)) (by simp);rw[hP,List.length_map,hl];refine⟨hS.pJ,hS.pU,.cslF (by omega) go_ (by rw[drs_lens];exact Nat.le_refl _) fun j hj=>frz_drs hS (drs_bx hS) j hj⟩
theorem documentsP_ok (s:Sg)(hs:SzS s)(H:List Blk)(T:Toks):ACall Tryz.prog 88 [sgAV s] H T (Is (.sl (docsP s).length (dcAV (docsP s)) .none) H T):=
 ACall.drop' ((documentsP_full s hs H T).mono fun r J U ⟨h1,h2,h3⟩=>⟨⟨[],by simp[h2]⟩,⟨[],by simp[h3]⟩,.inr (by rw[h1];rfl)⟩) (.sl _ _ _ (below_dc _ _ _) (by simp))
theorem split_two {H J:List Blk}{a b:Blk}(hp:Pre H J)(h0:J[H.length]?=some a)(h1:J[H.length+1]?=some b):∃G,J=(H++[a])++b::G:=by
 obtain⟨X,rfl⟩:=hp;rw[List.getElem?_append_right (Nat.le_refl _),Nat.sub_self] at h0;rw[List.getElem?_append_right (by omega),show H.length+1-H.length=1 by omega] at h1
 match X,h0,h1 with
 |x::y::G,h0,h1=>
  simp at h0 h1;subst h0;subst h1;exact⟨G,by simp⟩
theorem documentsP_box (s:Sg)(hs:SzS s)(hv:validS s=true)(H:List Blk)(T:Toks) :
  ACall Tryz.prog 88 [sgAV s] H T (Is (.csl (H.length+1) s.docs.length s.docs.length) (H++[.cells (sgC s),.cells (dcAV (docsF s))]) T):=by
 have key:=ACall.frzIn (P:=Tryz.prog) (f:=88) (args:=[sgAV s]) (H:=H) (T:=T) (n:=s.docs.length) (cap:=s.docs.length) (vs':=dcAV (docsF s)) (H++[.cells (sgC s)]) (by simp) (fun HO=>HO.snoc (by simp)) ?_
 ·simpa using key
 refine(documents_raw s hs H T).mono fun r J U h=>?_;rcases h with⟨hv2,_⟩|⟨_,rfl,R,N,D,hS,hl,hd⟩
 ·rw[hv] at hv2;cases hv2
 ·have h0:=hS.hJ.get (i:=H.length) (b:=.cells (sgC s)) (by simp);have h1:=hS.hJ.get (i:=H.length+1) (b:=.cells (drs D)) (by simp);obtain⟨G,hG⟩:=split_two hS.pJ h0 h1;rw[←hd];refine⟨drs D,G,hG,hS.pU,drs_lens D,fun j hj=>?_,by simp⟩;refine frz_drs hS (fun x hx=>?_) j hj;have hb:=drs_bx hS x hx;have hnd:=hS.hJ.1;simp only[List.cons_append,List.map_cons,List.map_append,List.nodup_cons,List.nodup_append] at hnd;have n1:x.1≠H.length:=fun e=>hnd.1 (by
   rw[←e];simp only[List.mem_append,List.mem_cons];exact .inr (.inr (List.mem_map.2 ⟨x,hx,rfl⟩)))
  have n2:x.1≠H.length+1:=fun e=>hnd.2.2.1.1 (by rw[←e];exact List.mem_map.2 ⟨x,hx,rfl⟩);simp only[List.length_append,List.length_cons,List.length_nil];omega
theorem documentsP_nil (s:Sg)(hs:SzS s)(hv:validS s=false)(H:List Blk)(T:Toks):ACall Tryz.prog 88 [sgAV s] H T (Is (.sl 0 [] .full) H T):=by
 have h:=documentsP_full s hs H T;have hP:docsP s=[]:=by unfold docsP;rw[hv];rfl
 rw[hP] at h;exact h
end Go.Proofs.YtoejlmpbebjemaaGreat
namespace Seg
open Sug
theorem sortW_spec (l:List Wd):(sortW l).Perm l∧(sortW l).Pairwise fun x y=>x.2≤y.2:=by
 refine⟨List.mergeSort_perm _ _,?_⟩;have:=List.pairwise_mergeSort (le:=fun x y:Wd=>!(decide (y.2<x.2))) (fun a b c h1 h2=>by simp at *;omega) (fun a b=>by simp;omega) l;exact this.imp fun h=>by simpa using h
end Seg
namespace Go.Proofs.YtoejlmpbebjemaaGreat
open Go Go.Am Sug Post Seg
def wdT (d f:Int)(t:Tm):List Wd:=if t.f=f then (posOf t.l d).map fun a=>(t.w,a) else []
def zT (g:Int→List Wd)(k:Nat):List Zn:=(List.range k).flatMap fun j=>if g (1+(j:Nat))=[] then [] else [⟨1+(j:Nat),g (1+(j:Nat))⟩]
theorem zT_four (g:Int→List Wd):zT g 4=zonesOf g:=by
 simp[zT,zonesOf,List.range_succ]
theorem zT_succ (g:Int→List Wd)(k:Nat):zT g (k+1)=zT g k++if g (1+(k:Nat))=[] then [] else [⟨1+(k:Nat),g (1+(k:Nat))⟩]:=by
 simp[zT,List.range_succ]
theorem zT_len (g:Int→List Wd)(k:Nat):(zT g k).length≤k:=by
 induction k with
 |zero=>simp[zT]
 |succ k ih=>rw[zT_succ,List.length_append];split<;>simp<;>omega
theorem occE_app (a b:List (Int×List Wd))(f:Int):occE (a++b) f=occE a f++occE b f:=by
 unfold occE;rw[List.filter_append,List.flatMap_append]
theorem posOf_flt:∀{l:List Ps},Asc' l→∀d:Int,posOf l d=(l.filter fun p=>p.1==d).flatMap (·.2)
 |[],_,d=>rfl
 |p::l,h,d=>by
  have hp:=asc'_tail h
  by_cases e:p.1=d
  ·subst e;have h0:l.filter (fun q=>q.1==p.1)=[]:=by
    rw[List.filter_eq_nil_iff];intro q hq;have:=hp.2 q hq;simp;omega
   rw[posOf_cons_eq,List.filter_cons_of_pos (by simp),h0];simp
  ·rw[posOf_cons_ne e,List.filter_cons_of_neg (by simpa using e)];exact posOf_flt hp.1 d
theorem occs_wdT:∀{ts:List Tm},(∀t∈ts,Asc' t.l)→∀id f:Int,occs ts id f=ts.flatMap (wdT id f)
 |[],_,_,_=>rfl
 |t::ts,h,id,f=>by
  have h1:occs (t::ts) id f=occE ((t.l.filter fun p=>p.1==id).map fun p=>(t.f,p.2.map fun a=>(t.w,a))) f++occs ts id f:=by
   unfold occs evs;rw[List.flatMap_cons,occE_app]
  rw[h1,List.flatMap_cons,occs_wdT (fun t ht=>h t (by simp[ht]))]
  congr 1
  unfold wdT occE;rw[posOf_flt (h t (by simp))]
  by_cases e:t.f=f
  ·rw[if_pos e,List.filter_eq_self.2 (fun x hx=>by obtain⟨p,_,rfl⟩:=List.mem_map.1 hx;simpa using e),List.flatMap_map,List.map_flatMap]
  ·rw[if_neg e,List.filter_eq_nil_iff.2 (fun x hx=>by obtain⟨p,_,rfl⟩:=List.mem_map.1 hx;simpa using e)];rfl
end Go.Proofs.YtoejlmpbebjemaaGreat
