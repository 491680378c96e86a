/- SegmentTerms (layer 39): it returns true.
  Conditions: sizes, as the theorem says. -/
import Derived.Test.YtneohapkboaplaaGreatGWk3
import Derived.Test.YtneohapkboaplaaGreatGWk1
set_option linter.all false
set_option maxRecDepth 100000
namespace Go.Proofs.YtneohapkboaplaaGreat
open Go Go.Am Sug Seg Post
def validB (l:List Dc):Bool:=fewR l&&decide ((buildF l).2=0)
attribute [-simp] List.getD_eq_getElem?_getD in
theorem lawValid_ok (l:List Dc)(hl:l.length≤1000000)(hs:∀d∈l,SzD d)(hdk:(l.flatMap dkeys).length≤1000000)(hnt:(l.flatMap fun d=>d.ns).length≤1000000)(H:List Blk)(T:Toks)(tg:Tag):ACall Tryz.prog 28 [.sl l.length (dcAV l) tg] H T (Is (.bool (validB l)) H T):=by
 refine ACall.untag1 ?_
 refine ACall.drop' ?_ (by simp)
 have hm:1000000≤maxLen:=by decide
 have cr:=fun H T=>buildR_ok l hl hs (fun _=>hdk) hnt H T .none
 have cf:=fun H T=>fewR_ok l (by omega) hs H T .none
 unfold validB
 generalize buildF l=r at *
 obtain⟨s,e⟩:=r
 simp only at cr ⊢
 generalize fewR l=b at *
 refine acall_enter 5 [] Tryz.ntmps28 Tryz.func28 rfl (fun _ _=>Tryz.call28 _ _) (by simp) (fun HO=>?_)
 refine aw_reg fun K hK=>?_;simp(disch:=omega) ;refine hK _ ?_;clear hK K
 refine aw_reg fun K hK=>?_;simp(disch:=omega) 
 refine acall_is (cr _ _) ?_;simp(disch:=omega) 
 refine hK _ ?_;clear hK K
 cases b with
 |false=>
  refine aw_reg fun K hK=>?_;simp(disch:=omega) 
  refine acall_is (cf _ _) ?_;simp(disch:=omega) 
  refine hK _ ?_;clear hK K
  refine aw_ret ?_;simp(disch:=omega) 
 |true=>
  by_cases he:e=0
  ·have b1:(e==0)=true:=by simpa using he
   refine aw_reg fun K hK=>?_;simp(disch:=omega) 
   refine acall_is (cf _ _) ?_;simp(disch:=omega)[b1,he]
   refine hK _ ?_;clear hK K
   refine aw_ret ?_;simp(disch:=omega) 
   exact he
  ·have b1:(e==0)=false:=by simpa using he
   refine aw_reg fun K hK=>?_;simp(disch:=omega) 
   refine acall_is (cf _ _) ?_;simp(disch:=omega)[b1,he]
   refine hK _ ?_;clear hK K
   refine aw_ret ?_;simp(disch:=omega) 
   exact he
structure VL39 (l L:List Dc):Prop where
 len:l.length≤8
 perm:L.Perm l
 lt:L.Pairwise fun x y=>x.id<y.id
 v:∀d∈l,validD d=true
 sm:∀d∈l,smR d=true
 b:buildF l=(sgF L,0)
theorem valid_vl {l:List Dc}(h:validB l=true):VL39 l (sortD l):=by
 unfold validB at h
 rw[Bool.and_eq_true,decide_eq_true_eq] at h
 obtain⟨hf,he⟩:=h
 obtain⟨h8,hsm⟩:=few_parts hf
 unfold buildF at he
 split at he
 ·exact absurd he (by decide)
 rename_i h1
 split at he
 ·exact absurd he (by decide)
 rename_i h2
 split at he
 ·exact absurd he (by decide)
 rename_i h3
 have hnd:(l.map (·.id)).Nodup:=Classical.not_not.1 h3
 have hp:=(sortD_inOrd l).perm
 refine⟨h8,hp,?_,fun d hd=>?_,hsm,?_⟩
 ·have h4:=(sortD_inOrd l).ord
  have h5:((sortD l).map (·.id)).Nodup:=(hp.map _).nodup_iff.2 hnd
  rw[List.Nodup,List.pairwise_map] at h5
  exact(h4.and h5).imp fun {x y} ⟨a,b⟩=>by omega
 ·have:=List.any_eq_false.1 (by simpa using h2:l.any (fun d=>!validD d)=false) d hd
  simpa using this
 ·unfold buildF sgF
  rw[if_neg h1,if_neg h2,if_neg h3]
theorem cntW_take (l:List Dc)(k:Ky)(i:Nat)(h:i<l.length):cntW (l.take (i+1)) k=cntW (l.take i) k+(posD (l.getD i d0) k).length:=by
 unfold cntW
 rw[take_getD l i d0 h,List.map_append,List.sum_append]
 simp
theorem cntW_le {l:List Dc}(k:Ky)(h:∀d∈l,(posD d k).length≤60):cntW l k≤l.length*60:=by
 induction l with
 |nil=>simp[cntW]
 |cons d r ih=>
  have h1:=ih fun x hx=>h x (by simp[hx])
  have h2:=h d (by simp)
  unfold cntW at h1 ⊢
  rw[List.map_cons,List.sum_cons,List.length_cons,Nat.add_mul];omega
attribute [-simp] List.getD_eq_getElem?_getD in
set_option maxHeartbeats 16000000 in
theorem segmentTerms_ok (l:List Dc)(hl:l.length≤1000000)(hs:∀d∈l,SzD d)(hdk:(l.flatMap dkeys).length≤1000000)(hnt:(l.flatMap fun d=>d.ns).length≤1000000)(f lo hi:Int)(w:Bs)(hw:w.length≤maxLen) :
  ACall Tryz.prog 5 [.sl l.length (dcAV l) .none,.agg [.int .i64 f,.str w,.int .i64 lo,.int .i64 hi]] [] [] (fun r _ _=>r=.bool true):=by
 have hm:1000000≤maxLen:=by decide
 have ca:=fun H=>awakeS_ok H []
 have cl:=fun H=>lawValid_ok l hl hs hdk hnt H [] .none
 refine acall_enter 22 [] Tryz.ntmps5 Tryz.func5 rfl (fun _ _=>Tryz.call5 _ _) (by simp) (fun HO=>?_)
 refine aw_reg fun K hK=>?_;simp(disch:=omega) ;refine hK _ ?_;clear hK K
 refine aw_then fun K1 hK1=>?_
 refine aw_reg fun K hK=>?_;simp(disch:=omega) 
 refine acall_is (ca _) ?_;simp(disch:=omega) 
 refine hK _ ?_;clear hK K
 refine aw_iff rfl ?_
 refine aw_skip ?_
 refine hK1 _ ?_;clear hK1
 refine aw_then fun K1 hK1=>?_
 cases hb:validB l with
 |false=>
  rw[hb] at cl
  refine aw_reg fun K hK=>?_;simp(disch:=omega) 
  refine acall_is (cl _) ?_;simp(disch:=omega) 
  refine hK _ ?_;clear hK K
  refine aw_ift rfl ?_
  refine aw_reg fun K hK=>?_;simp(disch:=omega) ;refine hK _ ?_;clear hK K
  refine aw_ret ?_;simp(disch:=omega) 
 |true=>
 rw[hb] at cl
 have vl:=valid_vl hb
 generalize sortD l=L at *
 obtain⟨v8,vp,vlt,vv,vsm,vb⟩:=vl
 have hmL:∀d∈L,d∈l:=fun d hd=>vp.mem_iff.1 hd
 have hLl:L.length≤2000:=by rw[vp.length_eq];omega
 have hvL:∀d∈L,validD d=true:=fun d hd=>vv d (hmL d hd)
 have hsz:SzS (sgF L):=built_sz (by rw[vp.length_eq];omega) (by
  have:=flat_sum (l:=L) fun d hd=>(small_doc (vsm d (hmL d hd)) (hvL d hd)).1
  rw[vp.length_eq] at this;omega) hvL (fun d hd z hz=>by have:=(small_doc (vsm d (hmL d hd)) (hvL d hd)).2 z hz;omega) (fun d hd=>small_ns (vsm d (hmL d hd)))
 have cb:=fun H=>buildP_ok l (by omega) hs (fun d hd=>by have:=small_ns (vsm d hd);omega) H [] .none
 rw[vb] at cb
 have cf:=fun H=>findS_ok (sgF L) hsz f w H []
 have hfb:=findS_built hLl vlt hvL (f,w)
 have hfs:=findS_sz hsz (f,w)
 have cbt:=fun H=>betS_ok (sgF L) hsz f lo hi H []
 have hbs:=betS_sz hsz f lo hi
 have hbb:=betS_built hLl vlt hvL f lo hi
 have cw1:=fun H=>wordsS_ok (sgF L) hsz f [] (by simp) H []
 have cw2:=fun H=>wordsS_ok (sgF L) hsz f w hw H []
 rw[words_all hLl vlt hvL] at cw1
 rw[words_some hLl vlt hvL] at cw2
 have hws:=wordsS_sz hsz f []
 rw[words_all hLl vlt hvL] at hws
 have hword:=wdsK_ord L f
 rw[hfb] at cf hfs
 have hcnt:=cnt_post (f,w) L
 rw[cntW_perm vp] at hcnt
 have hps:∀d∈l,(posD d (f,w)).length≤60:=fun d hd=>by
  rw[posD_posZ (vv d hd)]
  unfold posZ
  rw[List.length_map]
  refine Nat.le_trans (List.length_filter_le _ _) ?_
  rcases Classical.em (wzf d.zs f=[]) with he|he
  ·rw[he];simp
  ·obtain⟨x,hx⟩:=List.exists_mem_of_ne_nil _ he
   obtain⟨z,h1,_,h3⟩:=wzf_mem hx
   rw[h3];exact(small_doc (vsm d hd) (vv d hd)).2 z h1
 have hposd:∀i,i<l.length→posOf (postF L (f,w)) (l.getD i d0).id=posD (l.getD i d0) (f,w):=fun i hi=>posOf_built hLl vlt hvL (f,w) (vp.mem_iff.2 (getD_mem l i d0 hi))
 have hbtw:∀i,i<l.length→decide ((l.getD i d0).id∈betS (sgF L) f lo hi)=btwB lo hi (nmf (l.getD i d0).ns f):=fun i hi=>by
  have hd:=getD_mem l i d0 hi
  rw[Bool.eq_iff_iff,decide_eq_true_eq,hbb]
  unfold btwB nmf
  simp only[List.any_map,List.any_eq_true,Function.comp,Bool.and_eq_true,decide_eq_true_eq,List.mem_filter,beq_iff_eq]
  constructor
  ·rintro⟨n,hn,h1,h2⟩
   obtain⟨d2,hd2,e1,e2⟩:=itsF_mem hn
   have hdd:d2=l.getD i d0:=by
    have hd':=vp.mem_iff.2 hd
    obtain⟨a,ha,ea⟩:=List.mem_iff_getElem.1 hd'
    obtain⟨b,hb2,eb⟩:=List.mem_iff_getElem.1 hd2
    have hp:=List.pairwise_iff_getElem.1 vlt
    simp only at e1
    rcases Nat.lt_trichotomy a b with h3|h3|h3
    ·have:=hp a b ha hb2 h3;rw[ea,eb] at this;omega
    ·subst h3;rw[←ea,←eb]
    ·have:=hp b a hb2 ha h3;rw[ea,eb] at this;omega
   rw[hdd] at e2
   exact⟨(f,n),⟨e2,rfl⟩,h1,h2⟩
  ·rintro⟨x,⟨hx,e⟩,h1,h2⟩
   refine⟨x.2,?_,h1,h2⟩
   unfold itsF
   exact List.mem_flatMap.2 ⟨_,vp.mem_iff.2 hd,List.mem_map.2 ⟨x,List.mem_filter.2 ⟨hx,by simp[e]⟩,rfl⟩⟩
 have hBf:∀i,i<l.length→∀k,k<(wzf (l.getD i d0).zs f).length→decide (((wzf (l.getD i d0).zs f).getD k w0).2∈posD (l.getD i d0) (f,w))=(((wzf (l.getD i d0).zs f).getD k w0).1==w):=fun i hi k hk=>by
  have hd:=vv _ (getD_mem l i d0 hi)
  have hx:=getD_mem (wzf (l.getD i d0).zs f) k w0 hk
  generalize (wzf (l.getD i d0).zs f).getD k w0=x at *
  have hin:x.2∈posD (l.getD i d0) (f,x.1):=by
   rw[posD_posZ hd]
   unfold posZ
   exact List.mem_map.2 ⟨x,List.mem_filter.2 ⟨hx,by simp⟩,rfl⟩
  rw[Bool.eq_iff_iff,decide_eq_true_eq,beq_iff_eq]
  constructor
  ·intro h
   exact(Prod.mk.inj (posD_one hd (k1:=(f,x.1)) (k2:=(f,w)) rfl hin h)).2
  ·intro h
   rw[←h];exact hin
 have hposz:∀i,i<l.length→(posZ (wzf (l.getD i d0).zs f) w).length=(posD (l.getD i d0) (f,w)).length:=fun i hi=>by rw[posD_posZ (vv _ (getD_mem l i d0 hi))]
 have hlist:(wdsK L f).any (·==w)=decide (0<cntW l (f,w)):=by
  rw[Bool.eq_iff_iff,List.any_eq_true,decide_eq_true_eq,←cntW_perm vp,cntW_pos,←wdsK_mem]
  constructor
  ·rintro⟨x,hx,e⟩
   have:x=w:=by simpa using e
   rw[←this];exact hx
  ·intro h
   exact⟨w,h,by simp⟩
 have hcw:=cntW_le (f,w) hps
 have hvp:=validL_post vlt hvL (f,w)
 have hwol:∀x∈wdsK L f,x.length≤maxLen:=fun x hx=>by
  have hk:=(wdsK_mem f x).1 hx
  obtain⟨d,hd,hne⟩:=key_pos hk
  obtain⟨p,hp⟩:=List.exists_mem_of_ne_nil _ hne
  have:=((posD_asc (hvL d hd) (f,x)).2 p hp).2.2.1
  unfold okW at this
  simp only[Bool.and_eq_true,decide_eq_true_eq] at this
  omega
 have hccl:countL (postF L (f,w))=cntW l (f,w):=by unfold countL;rw[if_pos hvp,hcnt]
 have cct:=fun H=>count_ok (postF L (f,w)) (by omega) (fun p hp=>Nat.le_trans (hfs.2 p hp) (by omega)) H [] .none
 rw[hccl] at cct
 have cth:=fun H=>theirs_ok (postF L (f,w)) (by omega) H [] .none
 have cat:=fun(d:Int) H=>atR_ok (postF L (f,w)) d (by omega) H [] .none
 generalize hP:postF L (f,w)=P at *
 generalize betS (sgF L) f lo hi=D at *
 generalize wdsK L f=all at *
 have hsgl:SzS (sgF L):=hsz
 generalize sgF L=s at *
 refine aw_reg fun K hK=>?_;simp(disch:=omega) 
 refine acall_is (cl _) ?_;simp(disch:=omega) 
 refine hK _ ?_;clear hK K
 refine aw_iff rfl ?_
 refine aw_skip ?_
 refine hK1 _ ?_;clear hK1
 refine aw_reg fun K hK=>?_;simp(disch:=omega) 
 refine acall_is (cb _) ?_;simp(disch:=omega) 
 refine hK _ ?_;clear hK K
 have HO2:HOk [.cells (askC f w lo hi),.cells (sgC s)] []:=by
  have:=(HOk.snoc (H:=[]) (vs:=askC f w lo hi) (by simpa using HO) (by simp)).snoc (vs:=sgC s) (by simp)
  simpa using this
 refine aw_then fun K1 hK1=>?_
 refine aw_reg fun K hK=>?_;simp(disch:=omega) ;refine hK _ ?_;clear hK K
 refine aw_iff rfl ?_
 refine aw_skip ?_
 refine hK1 _ ?_;clear hK1
 refine aw_reg fun K hK=>?_;simp(disch:=omega) 
 refine acall_is (cf _) ?_;simp(disch:=omega) 
 refine acall_is (cth _) ?_;simp(disch:=omega) 
 refine hK _ ?_;clear hK K
 refine aw_reg fun K hK=>?_;simp(disch:=omega) 
 refine acall_is (cbt _) ?_;simp(disch:=omega) 
 refine hK _ ?_;clear hK K
 refine aw_reg fun K hK=>?_;simp(disch:=omega) ;refine hK _ ?_;clear hK K
 refine aw_then fun K1 hK1=>?_
 refine aw_reg fun K hK=>?_;simp(disch:=omega) ;refine hK _ ?_;clear hK K
 refine aw_block ?_
 refine aw_loop (X:=Nat) (fun i=>⟨[(0,.sl l.length (dcAV l) .none),(3,.ptr 0 0),(5,.ptr 1 0),(7,.sl P.length (psAV P) .none),(8,.sl D.length (ints D) .none),(9,.int .i64 (cntW (l.take i) (f,w):Nat)),(10,.int .i64 (i:Nat))],[.cells (askC f w lo hi),.cells (sgC s)],[]⟩)
  (fun i=>i≤l.length) (fun i=>l.length-i) 0 ?_ ?_ ?_
 ·exact Nat.zero_le _
 ·refine weak_to [] [] (by simp) (by simp) (Nat.zero_le _) (Nat.zero_le _) HO2 ?_
  simp[cntW]
 ·intro i g1
  refine aw_then fun K2 hK2=>?_
  refine aw_reg fun K hK=>?_;simp(disch:=omega) ;refine hK _ ?_;clear hK K
  refine aw_if rfl (fun hk=>?_) (fun hk=>?_)
  ·simp  at hk
   have hd:=getD_mem l i d0 hk
   have hid:=(dcAV_at l i hk).1
   have hcut:=dcAV_cut l i hk
   have cwd:=fun H=>words37_ok (l.getD i d0) (hs _ hd) (fun z hz=>by have:=(small_doc (vsm _ hd) (vv _ hd)).2 z hz;omega) f H []
   have cnm:=fun H=>nums37_ok (l.getD i d0) (hs _ hd) (by have:=small_ns (vsm _ hd);omega) f H []
   have cai:=fun H=>cat (l.getD i d0).id H
   rw[hposd i hk] at cai
   have hbi:=hbtw i hk
   have hBi:=hBf i hk
   have hpz:=hposz i hk
   have hct:=cntW_take l (f,w) i hk
   have hcl:=cntW_le (l:=l.take i) (f,w) fun d hd=>hps d (List.mem_of_mem_take hd)
   rw[List.length_take] at hcl
   have hpd:=hps _ hd
   have hwzl:(wzf (l.getD i d0).zs f).length≤1000000:=by
    rcases Classical.em (wzf (l.getD i d0).zs f=[]) with he|he
    ·rw[he];simp
    ·obtain⟨x,hx⟩:=List.exists_mem_of_ne_nil _ he
     obtain⟨z,h1,_,h3⟩:=wzf_mem hx
     rw[h3]
     have:=(small_doc (vsm _ hd) (vv _ hd)).2 z h1
     omega
   have hnml:(nmf (l.getD i d0).ns f).length≤1000000:=by
    unfold nmf
    rw[List.length_map]
    have:=small_ns (vsm _ hd)
    exact Nat.le_trans (List.length_filter_le _ _) (by omega)
   have chd:=fun H=>has_ok D (l.getD i d0).id (by omega) H [] .none
   rw[hbi] at chd
   generalize hcc:cntW (l.take i) (f,w)=cc at *
   generalize hcc2:cntW (l.take (i+1)) (f,w)=cc2 at *
   generalize posD (l.getD i d0) (f,w)=at_ at *
   generalize nmf (l.getD i d0).ns f=nl at *
   generalize wzf (l.getD i d0).zs f=ws at *
   generalize l.getD i d0=d at *
   refine aw_skip ?_
   refine hK2 _ ?_;clear hK2
   refine aw_then fun K3 hK3=>?_
   refine aw_block ?_
   refine aw_draw [] [] [] drawMixed (by kernel_rfl) (by kernel_rfl) fun K hK=>?_;simp(disch:=omega)[hcut,dcAV_len,hk]
   refine dcall_is (cwd _) rfl ?_;simp(disch:=omega)[hcut,dcAV_len,hk]
   refine dcall_is (cnm _) rfl ?_;simp(disch:=omega) 
   refine hK _ ?_;clear hK K
   refine aw_reg fun K hK=>?_;simp(disch:=omega)[hid,dcAV_len,hk]
   refine acall_is (cai _) ?_;simp(disch:=omega) 
   refine hK _ ?_;clear hK K
   refine aw_then fun K4 hK4=>?_
   refine aw_weak ⟨[(0,.sl l.length (dcAV l) .none),(3,.ptr 0 0),(5,.ptr 1 0),(7,.sl P.length (psAV P) .none),(8,.sl D.length (ints D) .none),(9,.int .i64 (cc:Nat)),(10,.int .i64 (i:Nat)),(11,.sl ws.length (wdAV ws) .none),(12,.sl nl.length (ints nl) .none),(13,.sl at_.length (ints at_) .none)],[.cells (askC f w lo hi),.cells (sgC s)],[]⟩ (weak_to [] [] (by simp) (by simp) (Nat.zero_le _) (Nat.zero_le _) HO2 (by simp)) ?_
   refine termsA l P D nl at_ f lo hi w s ws cc i (by omega) hwzl (by omega) hBi HO2 _ fun e he=>?_
   rw[hpz,←hct] at he
   refine hK4 _ (aw_weak ⟨[(0,.sl l.length (dcAV l) .none),(3,.ptr 0 0),(5,.ptr 1 0),(7,.sl P.length (psAV P) .none),(8,.sl D.length (ints D) .none),(9,.int .i64 (cc2:Nat)),(10,.int .i64 (i:Nat)),(12,.sl nl.length (ints nl) .none)],[.cells (askC f w lo hi),.cells (sgC s)],[]⟩ (weak_to [] [] (by simp) (by simp) (Nat.zero_le _) (Nat.zero_le _) HO2 he) ?_)
   clear hK4 he
   refine aw_reg fun K hK=>?_;simp(disch:=omega) ;refine hK _ ?_;clear hK K
   refine aw_then fun K5 hK5=>?_
   refine aw_weak ⟨[(0,.sl l.length (dcAV l) .none),(3,.ptr 0 0),(5,.ptr 1 0),(7,.sl P.length (psAV P) .none),(8,.sl D.length (ints D) .none),(9,.int .i64 (cc2:Nat)),(10,.int .i64 (i:Nat)),(12,.sl nl.length (ints nl) .none),(15,.bool false)],[.cells (askC f w lo hi),.cells (sgC s)],[]⟩ (weak_to [] [] (by simp) (by simp) (Nat.zero_le _) (Nat.zero_le _) HO2 (by simp)) ?_
   refine termsB l P D nl f lo hi w s cc2 i hnml HO2 _ fun e he=>?_
   refine hK5 _ (aw_weak ⟨[(0,.sl l.length (dcAV l) .none),(3,.ptr 0 0),(5,.ptr 1 0),(7,.sl P.length (psAV P) .none),(8,.sl D.length (ints D) .none),(9,.int .i64 (cc2:Nat)),(10,.int .i64 (i:Nat)),(15,.bool (btwB lo hi nl))],[.cells (askC f w lo hi),.cells (sgC s)],[]⟩ (weak_to [] [] (by simp) (by simp) (Nat.zero_le _) (Nat.zero_le _) HO2 he) ?_)
   clear hK5 he
   generalize btwB lo hi nl=bb at *
   refine aw_reg fun K hK=>?_;simp(disch:=omega)[hid,dcAV_len,hk]
   refine acall_is (chd _) ?_;simp(disch:=omega) 
   refine hK _ ?_;clear hK K
   refine aw_iff rfl ?_
   refine aw_skip ?_
   refine hK3 _ ?_;clear hK3
   refine aw_reg0 fun K hK=>?_;simp(disch:=omega) 
   refine hK _ ?_;clear hK K
   refine⟨i+1,by show i+1≤_;omega,by show l.length-(i+1)<l.length-i;omega,?_⟩
   refine weak_to [] [] (by simp) (by simp) (Nat.zero_le _) (Nat.zero_le _) HO2 ?_
   simp[hcc2]
  ·simp  at hk
   have hie:i=l.length:=by omega
   subst hie
   rw[List.take_length]
   generalize cntW l (f,w)=cc at *
   refine aw_exit ?_;simp(disch:=omega) 
   refine hK1 _ ?_;clear hK1
   refine aw_reg fun K hK=>?_;simp(disch:=omega) ;refine hK _ ?_;clear hK K
   refine aw_reg fun K hK=>?_;simp(disch:=omega) 
   refine acall_is (cw1 _) ?_;simp(disch:=omega) 
   refine hK _ ?_;clear hK K
   refine aw_reg fun K hK=>?_;simp(disch:=omega) 
   refine acall_is (cw2 _) ?_;simp(disch:=omega) 
   refine hK _ ?_;clear hK K
   refine aw_reg fun K hK=>?_;simp(disch:=omega) ;refine hK _ ?_;clear hK K
   refine aw_then fun K1 hK1=>?_
   refine aw_weak ⟨[(3,.ptr 0 0),(5,.ptr 1 0),(9,.int .i64 (cc:Nat)),(17,.bool false),(18,.sl all.length (strs all) .none),(19,.sl (all.filter (hasP w)).length (strs (all.filter (hasP w))) .none),(20,.int .i64 0)],[.cells (askC f w lo hi),.cells (sgC s)],[]⟩ (weak_to [] [] (by simp) (by simp) (Nat.zero_le _) (Nat.zero_le _) HO2 (by simp)) ?_
   refine termsC all (by omega) hwol hword f lo hi w hw s cc HO2 _ fun e he=>?_
   refine hK1 _ (aw_weak ⟨[(3,.ptr 0 0),(5,.ptr 1 0),(9,.int .i64 (cc:Nat)),(17,.bool (all.any (·==w))),(19,.sl (all.filter (hasP w)).length (strs (all.filter (hasP w))) .none),(20,.int .i64 ((all.filter (hasP w)).length:Nat))],[.cells (askC f w lo hi),.cells (sgC s)],[]⟩ (weak_to [] [] (by simp) (by simp) (Nat.zero_le _) (Nat.zero_le _) HO2 he) ?_)
   clear hK1 he
   rw[hlist]
   by_cases hc0:0<cc
   ·have b1:decide ((0:Int)<(cc:Int))=true:=decide_eq_true (by omega)
    rw[decide_eq_true hc0]
    refine aw_reg fun K hK=>?_;simp(disch:=omega) 
    refine acall_is (cf _) ?_;simp(disch:=omega) 
    refine acall_is (cct _) ?_;simp(disch:=omega)[b1,hc0]
    refine hK _ ?_;clear hK K
    refine aw_ret ?_;simp(disch:=omega) 
   ·have b1:decide ((0:Int)<(cc:Int))=false:=decide_eq_false (by omega)
    rw[decide_eq_false hc0]
    refine aw_reg fun K hK=>?_;simp(disch:=omega) 
    refine acall_is (cf _) ?_;simp(disch:=omega) 
    refine acall_is (cct _) ?_;simp(disch:=omega)[b1,hc0]
    refine hK _ ?_;clear hK K
    refine aw_ret ?_;simp(disch:=omega) 
end Go.Proofs.YtneohapkboaplaaGreat
