/- SegmentFind (layer 39): it returns true. SegmentBuild (layer 39): it returns true. SegmentTerms (layer 39): its loops. SegmentTerms (layer 39): it returns true. SegmentInverse (layer 39): it returns true.
   Conditions: as the theorems say. -/
import Derived.Test.YtneohapkboaplaaGreatGLA
import Derived.Test.YtneohapkboaplaaGreatGRB
import Derived.Test.YtneohapkboaplaaGreatGZw
import Derived.Test.YtneohapkboaplaaGreatGZx
import Derived.Test.YtneohapkboaplaaGreatGSdl
import Derived.Test.YtneohapkboaplaaGreatGQa
import Derived.Test.YtneohapkboaplaaGreatGSW
set_option linter.all false
set_option maxRecDepth 100000
namespace Go.Proofs.YtneohapkboaplaaGreat
open Go Go.Am Sug Seg Post
end Go.Proofs.YtneohapkboaplaaGreat

set_option linter.all false
set_option maxRecDepth 100000
namespace Go.Proofs.YtneohapkboaplaaGreat
open Go Go.Am Sug Seg Post
theorem flat_sum {l:List Dc}(h:∀d∈l,(dkeys d).length≤60):(l.flatMap dkeys).length≤l.length*60:=flat_len dkeys 60 l h
end Go.Proofs.YtneohapkboaplaaGreat

set_option linter.all false
set_option maxRecDepth 100000
namespace Go.Proofs.YtneohapkboaplaaGreat
open Go Go.Am Sug Seg Post
end Go.Proofs.YtneohapkboaplaaGreat

set_option linter.all false
set_option maxRecDepth 100000
namespace Go.Proofs.YtneohapkboaplaaGreat
open Go Go.Am Sug Seg Post
def validB (l:List Dc):Bool:=fewR l&&decide ((buildF l).2=0)
attribute [-simp] List.getD_eq_getElem?_getD in
theorem lawValid_ok (l:List Dc)(hl:l.length≤1000000)(hs:∀d∈l,SzD d)(hdk:(l.flatMap dkeys).length≤1000000)(hnt:(l.flatMap fun d=>d.ns).length≤1000000)(H:List Blk)(T:Toks)(tg:Tag):ACall Tryz.prog 28 [.sl l.length (dcAV l) tg] H T (Is (.bool (validB l)) H T):=by
 refine ACall.untag1 ?_
 refine ACall.drop' ?_ (by simp)
 have hm:1000000≤maxLen:=by decide
 have cr:=fun H T=>buildR_ok l hl hs (fun _=>hdk) hnt H T .none
 have cf:=fun H T=>fewR_ok l (by omega) hs H T .none
 unfold validB
 generalize buildF l=r at *
 obtain⟨s,e⟩:=r
 simp only at cr ⊢
 generalize fewR l=b at *
 refine acall_enter 5 [] Tryz.ntmps28 Tryz.func28 rfl (fun _ _=>Tryz.call28 _ _) (by simp) (fun HO=>?_)
 refine aw_reg fun K hK=>?_;simp(disch:=omega) ;refine hK _ ?_;clear hK K
 refine aw_reg fun K hK=>?_;simp(disch:=omega) 
 refine acall_is (cr _ _) ?_;simp(disch:=omega) 
 refine hK _ ?_;clear hK K
 cases b with
 |false=>
  refine aw_reg fun K hK=>?_;simp(disch:=omega) 
  refine acall_is (cf _ _) ?_;simp(disch:=omega) 
  refine hK _ ?_;clear hK K
  refine aw_ret ?_;simp(disch:=omega) 
 |true=>
  by_cases he:e=0
  ·have b1:(e==0)=true:=by simpa using he
   refine aw_reg fun K hK=>?_;simp(disch:=omega) 
   refine acall_is (cf _ _) ?_;simp(disch:=omega)[b1,he]
   refine hK _ ?_;clear hK K
   refine aw_ret ?_;simp(disch:=omega) 
   exact he
  ·have b1:(e==0)=false:=by simpa using he
   refine aw_reg fun K hK=>?_;simp(disch:=omega) 
   refine acall_is (cf _ _) ?_;simp(disch:=omega)[b1,he]
   refine hK _ ?_;clear hK K
   refine aw_ret ?_;simp(disch:=omega) 
   exact he
structure VL39 (l L:List Dc):Prop where
 len:l.length≤8
 perm:L.Perm l
 lt:L.Pairwise fun x y=>x.id<y.id
 v:∀d∈l,validD d=true
 sm:∀d∈l,smR d=true
 b:buildF l=(sgF L,0)
theorem valid_vl {l:List Dc}(h:validB l=true):VL39 l (sortD l):=by
 unfold validB at h
 rw[Bool.and_eq_true,decide_eq_true_eq] at h
 obtain⟨hf,he⟩:=h
 obtain⟨h8,hsm⟩:=few_parts hf
 unfold buildF at he
 split at he
 ·exact absurd he (by decide)
 rename_i h1
 split at he
 ·exact absurd he (by decide)
 rename_i h2
 split at he
 ·exact absurd he (by decide)
 rename_i h3
 have hnd:(l.map (·.id)).Nodup:=Classical.not_not.1 h3
 have hp:=(sortD_inOrd l).perm
 refine⟨h8,hp,?_,fun d hd=>?_,hsm,?_⟩
 ·have h4:=(sortD_inOrd l).ord
  have h5:((sortD l).map (·.id)).Nodup:=(hp.map _).nodup_iff.2 hnd
  rw[List.Nodup,List.pairwise_map] at h5
  exact(h4.and h5).imp fun {x y} ⟨a,b⟩=>by omega
 ·have:=List.any_eq_false.1 (by simpa using h2:l.any (fun d=>!validD d)=false) d hd
  simpa using this
 ·unfold buildF sgF
  rw[if_neg h1,if_neg h2,if_neg h3]
end Go.Proofs.YtneohapkboaplaaGreat

set_option linter.all false
set_option maxRecDepth 100000
namespace Go.Proofs.YtneohapkboaplaaGreat
open Go Go.Am Sug Seg Post
theorem VL39.good {l L:List Dc}(h:VL39 l L):GoodL l:=⟨by have:=h.len;omega,(h.perm.map _).nodup_iff.1 (lt_nodup h.lt),h.v⟩
theorem GoodL.perm {l m:List Dc}(h:GoodL l)(hp:m.Perm l):GoodL m:=⟨by rw[hp.length_eq];exact h.n,(hp.map _).nodup_iff.2 h.nd,fun d hd=>h.v d (hp.mem_iff.1 hd)⟩
theorem few_sgF {L:List Dc}(hL:VD L)(h8:L.length≤8)(hsm:∀d∈L,smR d=true):SzS (sgF L):=
 built_sz (by omega) (by
  have:=flat_sum (l:=L) fun d hd=>(small_doc (hsm d hd) (hL.v d hd)).1
  omega) hL.v (fun d hd z hz=>by have:=(small_doc (hsm d hd) (hL.v d hd)).2 z hz;omega) (fun d hd=>small_ns (hsm d hd))
def revT (l:List Dc)(k:Nat):List Dc:=l.reverse.take k
theorem revT_len (l:List Dc){k:Nat}(hk:k≤l.length):(revT l k).length=k:=by unfold revT;rw[List.length_take,List.length_reverse];omega
theorem revT_next (l:List Dc){k:Nat}(hk:k<l.length):revT l (k+1)=revT l k++[l.getD (l.length-1-k) d0]:=by
 unfold revT
 rw[take_getD l.reverse k d0 (by rw[List.length_reverse];exact hk)]
 congr 2
 rw[List.getD_eq_getElem?_getD,List.getD_eq_getElem?_getD,List.getElem?_reverse hk]
attribute [-simp] List.getD_eq_getElem?_getD in
set_option maxHeartbeats 16000000 in
theorem segmentInverse_ok (l:List Dc)(hl:l.length≤1000000)(hs:∀d∈l,SzD d)(hdk:(l.flatMap dkeys).length≤1000000)(hnt:(l.flatMap fun d=>d.ns).length≤1000000) :
  ACall Tryz.prog 7 [.sl l.length (dcAV l) .none] [] [] (fun r _ _=>r=.bool true):=by
 have hm:1000000≤maxLen:=by decide
 have ca:=fun H=>awakeS_ok H []
 have cl:=fun H=>lawValid_ok l hl hs hdk hnt H [] .none
 refine acall_enter 10 [] Tryz.ntmps7 Tryz.func7 rfl (fun _ _=>Tryz.call7 _ _) (by simp) (fun HO=>?_)
 refine aw_reg fun K hK=>?_;simp(disch:=omega) ;refine hK _ ?_;clear hK K
 refine aw_then fun K1 hK1=>?_
 refine aw_reg fun K hK=>?_;simp(disch:=omega) 
 refine acall_is (ca _) ?_;simp(disch:=omega) 
 refine hK _ ?_;clear hK K
 refine aw_iff rfl ?_
 refine aw_skip ?_
 refine hK1 _ ?_;clear hK1
 refine aw_then fun K1 hK1=>?_
 cases hb:validB l with
 |false=>
  rw[hb] at cl
  refine aw_reg fun K hK=>?_;simp(disch:=omega) 
  refine acall_is (cl _) ?_;simp(disch:=omega) 
  refine hK _ ?_;clear hK K
  refine aw_ift rfl ?_
  refine aw_reg fun K hK=>?_;simp(disch:=omega) ;refine hK _ ?_;clear hK K
  refine aw_ret ?_;simp(disch:=omega) 
 |true=>
 rw[hb] at cl
 have vl:=valid_vl hb
 have h8:=vl.len
 have hg:=vl.good
 have hvd:=hg.vd
 have hsmL:∀d∈sortD l,smR d=true:=fun d hd=>vl.sm d ((sortD_mem d).1 hd)
 have hszL:∀d∈sortD l,SzD d:=fun d hd=>hs d ((sortD_mem d).1 hd)
 have hsz:SzS (sgF (sortD l)):=few_sgF hvd (by rw[sortD_len];exact h8) hsmL
 have hn20:∀d∈l,d.ns.length≤20:=fun d hd=>small_ns (vl.sm d hd)
 have cb:=fun H=>buildP_ok l (by omega) hs (fun d hd=>by have:=hn20 d hd;omega) H [] .none
 have cb2:=fun H T tg=>buildP_ok l.reverse (by rw[List.length_reverse];omega) (fun d hd=>hs d (List.mem_reverse.1 hd)) (fun d hd=>by have:=hn20 d (List.mem_reverse.1 hd);omega) H T tg
 have hrev:sortD l.reverse=sortD l:=sortD_eq (hg.perm (List.reverse_perm l)).nd hg.nd fun x=>List.mem_reverse
 rw[(hg.perm (List.reverse_perm l)).build,hrev] at cb2
 rw[hg.build] at cb
 have cd:=fun H=>documentsP_ok (sgF (sortD l)) hsz H []
 rw[hvd.docs] at cd
 have cS:=fun H T=>sorted39_ok l hl H T .none
 have cE:=fun H T=>sameDocs_ok (sortD l) (by rw[sortD_len];omega) hszL H T .none .none
 have cQ:=fun H T=>equalP_ok (sgF (sortD l)) (sgF (sortD l)) hsz hsz H T
 rw[eqB_true rfl] at cQ
 rw[List.length_reverse] at cb2
 have hrl:l.reverse=revT l l.length:=by unfold revT;rw[List.take_of_length_le (by rw[List.length_reverse];exact Nat.le_refl _)]
 rw[hrl] at cb2
 clear hrl hrev hdk hnt hszL hsmL hn20 hvd hg vl
 generalize sortD l=L at *
 generalize sgF L=s at *
 have hsl:l.length≤9223372036854775807:=by omega
 refine aw_reg fun K hK=>?_;simp(disch:=omega) 
 refine acall_is (cl _) ?_;simp(disch:=omega) 
 refine hK _ ?_;clear hK K
 refine aw_iff rfl ?_
 refine aw_skip ?_;simp(disch:=omega) 
 refine hK1 _ ?_;clear hK1
 refine aw_reg fun K hK=>?_;simp(disch:=omega) 
 refine acall_is (cb _) ?_;simp(disch:=omega) 
 refine hK _ ?_;clear hK K
 refine aw_reg fun K hK=>?_;simp(disch:=omega) 
 refine acall_is (cd _) ?_;simp(disch:=omega) 
 refine hK _ ?_;clear hK K
 refine aw_reg fun K hK=>?_;simp(disch:=omega) ;refine hK _ ?_;clear hK K
 refine aw_own 6 0 3 [] (by omega) rfl ?_
 refine aw_hok fun HO1=>?_
 simp only at HO1
 refine aw_then fun K1 hK1=>?_
 refine aw_reg fun K hK=>?_;simp(disch:=omega) ;refine hK _ ?_;clear hK K
 refine aw_block ?_
 refine aw_loop (X:=Nat) (fun k=>⟨[(0,.sl l.length (dcAV l) .none),(3,.ptr 0 0),(4,.int .i64 0),(5,.sl L.length (dcAV L) .none),(6,.sl k (dcAV (revT l k)) (.own 0)),(7,.int .i64 ((l.length:Int)-1-k))],[.cells (sgC s)],[(k*3,3)]⟩)
  (fun k=>k≤l.length) (fun k=>l.length-k) 0 ?_ ?_ ?_
 ·exact Nat.zero_le _
 ·refine weak_to [] [] ?_ ?_ ?_ ?_ HO1 ?_
  all_goals simp[revT,dcAV_nil]
 ·intro k h1
  have hrk:=dcAV_len (revT l k)
  rw[revT_len l h1] at hrk
  refine aw_then fun K2 hK2=>?_
  refine aw_reg fun K hK=>?_;simp(disch:=omega) ;refine hK _ ?_;clear hK K
  refine aw_if rfl (fun hj=>?_) (fun hj=>?_)
  ·simp  at hj
   have hk:k<l.length:=by omega
   have e1:((l.length:Int)-1-k).toNat=l.length-1-k:=by omega
   have hi:l.length-1-k<l.length:=by omega
   have e2:(l.length:Int)-1-k=((l.length-1-k:Nat):Int):=by omega
   have hcut:=dcAV_cut l (l.length-1-k) hi
   have hnx:=revT_next l hk
   have hsn:=dcAV_snoc (revT l k) (l.getD (l.length-1-k) d0)
   rw[←hnx] at hsn
   generalize l.getD (l.length-1-k) d0=x at *
   have hlen:=dcAV_len l
   refine aw_skip ?_;simp(disch:=omega) 
   refine hK2 _ ?_;clear hK2
   refine aw_then fun K3 hK3=>?_
   refine aw_block ?_
   rw[e2]
   refine aw_reg0 fun K hK=>?_;simp(disch:=omega)[hcut,hlen,hi,hrk];refine hK _ ?_;clear hK K
   refine hK3 _ ?_;clear hK3
   refine aw_reg0 fun K hK=>?_;simp(disch:=omega) 
   refine hK _ ?_;clear hK K
   refine⟨k+1,by show k+1≤_;omega,by show l.length-(k+1)<l.length-k;omega,?_⟩
   simp only[←hsn]
   refine weak_to [] [] ?_ ?_ ?_ ?_ (HO1.toks (by simp)) ?_
   all_goals simp
   all_goals omega
  ·simp  at hj
   have e:k=l.length:=by omega
   subst e
   refine aw_exit ?_;simp(disch:=omega) 
   refine hK1 _ ?_;clear hK1
   refine aw_reg fun K hK=>?_;simp(disch:=omega) 
   refine acall_is (cb2 _ _ _) ?_;simp(disch:=omega) 
   refine hK _ ?_;clear hK K
   refine aw_reg fun K hK=>?_;simp(disch:=omega) 
   refine acall_is (cS _ _) ?_;simp(disch:=omega) 
   refine acall_is (cE _ _) ?_;simp(disch:=omega) 
   refine acall_is (cQ _ _) ?_;simp(disch:=omega) 
   refine hK _ ?_;clear hK K
   refine aw_ret ?_;simp(disch:=omega) 
end Go.Proofs.YtneohapkboaplaaGreat
