/- SegmentFind (layer 39): it returns true. SegmentBuild (layer 39): it returns true. SegmentTerms (layer 39): its loops. SegmentTerms (layer 39): it returns true. SegmentInverse (layer 39): it returns true.
   Conditions: as the theorems say. -/
import Derived.Test.YtneohapkboaplaaGreatGLA
import Derived.Test.YtneohapkboaplaaGreatGRB
import Derived.Test.YtneohapkboaplaaGreatGZw
import Derived.Test.YtneohapkboaplaaGreatGZx
import Derived.Test.YtneohapkboaplaaGreatGSdl
import Derived.Test.YtneohapkboaplaaGreatGQa
import Derived.Test.YtneohapkboaplaaGreatGSW
set_option linter.all false
set_option maxRecDepth 100000
namespace Go.Proofs.YtneohapkboaplaaGreat
open Go Go.Am Sug Seg Post
theorem findS_sz {s:Sg}(hs:SzS s)(k:Ky):(findS s k).length≤400∧∀p∈findS s k,p.2.length≤400:=by
 unfold findS
 split
 ·unfold postS
  cases hf:s.tms.find? fun t=>decide (t.k=k) with
  |none=>simp
  |some t=>exact(hs.w t (List.mem_of_find?_eq_some hf)).2
 ·simp
theorem betS_sz {s:Sg}(hs:SzS s)(f lo hi:Int):(betS s f lo hi).length≤400:=by
 unfold betS
 split
 ·rename_i h;exact Nat.le_trans (ascL_small (hits_docs h f lo hi)) hs.d
 ·simp
end Go.Proofs.YtneohapkboaplaaGreat

set_option linter.all false
set_option maxRecDepth 100000
namespace Go.Proofs.YtneohapkboaplaaGreat
open Go Go.Am Sug Seg Post
theorem flat_sum {l:List Dc}(h:∀d∈l,(dkeys d).length≤60):(l.flatMap dkeys).length≤l.length*60:=flat_len dkeys 60 l h
end Go.Proofs.YtneohapkboaplaaGreat

set_option linter.all false
set_option maxRecDepth 100000
namespace Go.Proofs.YtneohapkboaplaaGreat
open Go Go.Am Sug Seg Post
end Go.Proofs.YtneohapkboaplaaGreat

set_option linter.all false
set_option maxRecDepth 100000
namespace Go.Proofs.YtneohapkboaplaaGreat
open Go Go.Am Sug Seg Post
def validB (l:List Dc):Bool:=fewR l&&decide ((buildF l).2=0)
attribute [-simp] List.getD_eq_getElem?_getD in
theorem lawValid_ok (l:List Dc)(hl:l.length≤1000000)(hs:∀d∈l,SzD d)(hdk:(l.flatMap dkeys).length≤1000000)(hnt:(l.flatMap fun d=>d.ns).length≤1000000)(H:List Blk)(T:Toks)(tg:Tag):ACall Tryz.prog 28 [.sl l.length (dcAV l) tg] H T (Is (.bool (validB l)) H T):=by
 refine ACall.untag1 ?_;refine ACall.drop' ?_ (by simp);have hm:1000000≤maxLen:=by decide
 have cr:=fun H T=>buildR_ok l hl hs (fun _=>hdk) hnt H T .none;have cf:=fun H T=>fewR_ok l (by omega) hs H T .none;unfold validB;generalize buildF l=r at *;obtain⟨s,e⟩:=r;simp only at cr ⊢;generalize fewR l=b at *;refine acall_enter 5 [] Tryz.ntmps28 Tryz.func28 rfl (fun _ _=>Tryz.call28 _ _) (by simp) (fun HO=>?_);apply aw_reg;intro K h;simp(disch:=omega);apply h;clear h K;refine aw_reg fun K hK=>?_;simp(disch:=omega) ;refine acall_is (cr _ _) ?_;simp(disch:=omega) ;apply hK;clear hK K
 cases b with
 |false=>
  refine aw_reg fun K hK=>?_;simp(disch:=omega) ;refine acall_is (cf _ _) ?_;simp(disch:=omega) ;apply hK;clear hK K;apply aw_ret;simp(disch:=omega) 
 |true=>
  by_cases he:e=0
  ·have b1:(e==0)=true:=by simpa using he
   refine aw_reg fun K hK=>?_;simp(disch:=omega) ;refine acall_is (cf _ _) ?_;simp(disch:=omega)[b1,he];apply hK;clear hK K;apply aw_ret;simp(disch:=omega) ;exact he
  ·have b1:(e==0)=false:=by simpa using he
   refine aw_reg fun K hK=>?_;simp(disch:=omega) ;refine acall_is (cf _ _) ?_;simp(disch:=omega)[b1,he];apply hK;clear hK K;apply aw_ret;simp(disch:=omega) ;exact he
structure VL39 (l L:List Dc):Prop where
 len:l.length≤8
 perm:L.Perm l
 lt:L.Pairwise fun x y=>x.id<y.id
 v:∀d∈l,validD d=true
 sm:∀d∈l,smR d=true
 b:buildF l=(sgF L,0)
theorem valid_vl {l:List Dc}(h:validB l=true):VL39 l (sortD l):=by
 unfold validB at h;rw[Bool.and_eq_true,decide_eq_true_eq] at h;obtain⟨hf,he⟩:=h;obtain⟨h8,hsm⟩:=few_parts hf;unfold buildF at he
 split at he
 ·exact absurd he (by decide)
 rename_i h1
 split at he
 ·exact absurd he (by decide)
 rename_i h2
 split at he
 ·exact absurd he (by decide)
 rename_i h3;have hnd:(l.map (·.id)).Nodup:=Classical.not_not.1 h3;have hp:=(sortD_inOrd l).perm;refine⟨h8,hp,?_,fun d hd=>?_,hsm,?_⟩
 ·have h4:=(sortD_inOrd l).ord;have h5:((sortD l).map (·.id)).Nodup:=(hp.map _).nodup_iff.2 hnd;rw[List.Nodup,List.pairwise_map] at h5;exact(h4.and h5).imp fun {x y} ⟨a,b⟩=>by omega
 ·have:=List.any_eq_false.1 (by simpa using h2:l.any (fun d=>!validD d)=false) d hd;simpa using this
 ·unfold buildF sgF;rw[if_neg h1,if_neg h2,if_neg h3]
end Go.Proofs.YtneohapkboaplaaGreat

set_option linter.all false
set_option maxRecDepth 100000
namespace Go.Proofs.YtneohapkboaplaaGreat
open Go Go.Am Sug Seg Post
theorem VL39.good {l L:List Dc}(h:VL39 l L):GoodL l:=⟨by have:=h.len;omega,(h.perm.map _).nodup_iff.1 (lt_nodup h.lt),h.v⟩
theorem GoodL.perm {l m:List Dc}(h:GoodL l)(hp:m.Perm l):GoodL m:=⟨by rw[hp.length_eq];exact h.n,(hp.map _).nodup_iff.2 h.nd,fun d hd=>h.v d (hp.mem_iff.1 hd)⟩
theorem few_sgF {L:List Dc}(hL:VD L)(h8:L.length≤8)(hsm:∀d∈L,smR d=true):SzS (sgF L):=
 built_sz (by omega) (by
  have:=flat_sum (l:=L) fun d hd=>(small_doc (hsm d hd) (hL.v d hd)).1;omega) hL.v (fun d hd z hz=>by have:=(small_doc (hsm d hd) (hL.v d hd)).2 z hz;omega) (fun d hd=>small_ns (hsm d hd))
end Go.Proofs.YtneohapkboaplaaGreat
