/- SegmentBuild (layer 39): it returns true.
  Conditions: none. -/
import Derived.Test.YtneohapkboaplaaGreatGLA
import Derived.Test.YtneohapkboaplaaGreatGEq
import Derived.Test.YtneohapkboaplaaGreatGBv
import Derived.Test.YtneohapkboaplaaGreatGSdl
set_option linter.all false
set_option maxRecDepth 100000
namespace Go.Proofs.YtneohapkboaplaaGreat
open Go Go.Am Sug Seg Post
theorem flat_sum {l : List Dc} (h : ∀ d ∈ l, (dkeys d).length ≤ 60) : (l.flatMap dkeys).length ≤ l.length * 60 := flat_len dkeys 60 l h
theorem build_few {l : List Dc} (h : fewR l = true) : SzS (buildF l).1 ∧ ((buildF l).2 = 0 → validS (buildF l).1 = true) := by
 obtain ⟨h8, hsm⟩ := few_parts h
 have hno : SzS noSeg := ⟨by simp [noSeg], by simp [noSeg], fun t ht => by simp [noSeg] at ht, by simp [noSeg], fun c hc => by simp [noSeg] at hc⟩
 unfold buildF
 split
 ·exact ⟨hno, fun e => absurd e (by decide)⟩
 split
 ·exact ⟨hno, fun e => absurd e (by decide)⟩
 rename_i hany
 split
 ·exact ⟨hno, fun e => absurd e (by decide)⟩
 rename_i hnd
 have hnd : (l.map (·.id)).Nodup := Classical.not_not.1 hnd
 have hval : ∀ d ∈ l, validD d = true := fun d hd => by
  have := List.any_eq_false.1 (by simpa using hany : l.any (fun d => !validD d) = false) d hd
  simpa using this
 have hp := (sortD_inOrd l).perm
 have hm : ∀ d ∈ sortD l, d ∈ l := fun d hd => hp.mem_iff.1 hd
 have hlen : (sortD l).length = l.length := sortD_len l
 have hlt : (sortD l).Pairwise fun x y => x.id < y.id := by
  have h1 := (sortD_inOrd l).ord
  have h2 : ((sortD l).map (·.id)).Nodup := (hp.map _).nodup_iff.2 hnd
  rw [List.Nodup, List.pairwise_map] at h2
  exact (h1.and h2).imp fun {x y} ⟨a, b⟩ => by omega
 have hv2 : ∀ d ∈ sortD l, validD d = true := fun d hd => hval d (hm d hd)
 refine ⟨built_sz (by omega) ?_ hv2 (fun d hd z hz => by have := (small_doc (hsm d (hm d hd)) (hv2 d hd)).2 z hz; omega) (fun d hd => small_ns (hsm d (hm d hd))), fun _ => valid_built (by omega) hlt hv2⟩
 have := flat_sum (l := sortD l) fun d hd => (small_doc (hsm d (hm d hd)) (hv2 d hd)).1
 omega
set_option maxHeartbeats 8000000 in
theorem segmentBuild_ok (l : List Dc) (hl : l.length ≤ maxLen) (hs : ∀ d ∈ l, SzD d) : ACall Tryz.prog 3 [.sl l.length (dcAV l) .none] [] [] (fun r _ _ => r = .bool true) := by
 have ca := fun H => awakeS_ok H []
 have cs := fun H => fewR_ok l hl hs H [] .none
 refine acall_enter 8 [] Tryz.ntmps3 Tryz.func3 rfl (fun _ _ => Tryz.call3 _ _) (by simp) (fun HO => ?_)
 refine aw_reg fun K hK => ?_; simp (disch := omega) [-List.getD_eq_getElem?_getD]; refine hK _ ?_; clear hK K
 refine aw_then fun K1 hK1 => ?_
 refine aw_reg fun K hK => ?_; simp (disch := omega) [-List.getD_eq_getElem?_getD]
 refine acall_is (ca _) ?_; simp (disch := omega) [-List.getD_eq_getElem?_getD]
 refine hK _ ?_; clear hK K
 refine aw_iff rfl ?_
 refine aw_skip ?_
 refine hK1 _ ?_; clear hK1
 refine aw_then fun K1 hK1 => ?_
 cases hb : fewR l with
 | false =>
  rw [hb] at cs
  refine aw_reg fun K hK => ?_; simp (disch := omega) [-List.getD_eq_getElem?_getD]
  refine acall_is (cs _) ?_; simp (disch := omega) [-List.getD_eq_getElem?_getD]
  refine hK _ ?_; clear hK K
  refine aw_ift rfl ?_
  refine aw_reg fun K hK => ?_; simp (disch := omega) [-List.getD_eq_getElem?_getD]; refine hK _ ?_; clear hK K
  refine aw_ret ?_; simp (disch := omega) [-List.getD_eq_getElem?_getD]
 | true =>
 rw [hb] at cs
 obtain ⟨h8, hsm⟩ := few_parts hb
 obtain ⟨hsz, hv⟩ := build_few hb
 have cb := fun H => buildP_ok l (by omega) hs (fun d hd => by have := small_ns (hsm d hd); omega) H [] .none
 have cr := fun H => buildR_ok l (by omega) hs (fun d hd => by have := small_ns (hsm d hd); omega) (fun d hd hvd z hz => by have := (small_doc (hsm d hd) hvd).2 z hz; omega) H [] .none
 generalize buildF l = r at *
 obtain ⟨s, e⟩ := r
 simp only at hsz hv cb cr
 have ce := fun H => equal_ok s hsz H []
 have cv := fun H => validS_ok s hsz H []
 refine aw_reg fun K hK => ?_; simp (disch := omega) [-List.getD_eq_getElem?_getD]
 refine acall_is (cs _) ?_; simp (disch := omega) [-List.getD_eq_getElem?_getD]
 refine hK _ ?_; clear hK K
 refine aw_iff rfl ?_
 refine aw_skip ?_
 refine hK1 _ ?_; clear hK1
 refine aw_reg fun K hK => ?_; simp (disch := omega) [-List.getD_eq_getElem?_getD]
 refine acall_is (cb _) ?_; simp (disch := omega) [-List.getD_eq_getElem?_getD]
 refine hK _ ?_; clear hK K
 refine aw_reg fun K hK => ?_; simp (disch := omega) [-List.getD_eq_getElem?_getD]
 refine acall_is (cr _) ?_; simp (disch := omega) [-List.getD_eq_getElem?_getD]
 refine hK _ ?_; clear hK K
 by_cases he : e = 0
 ·subst he
  rw [hv rfl] at cv
  refine aw_reg fun K hK => ?_; simp (disch := omega) [-List.getD_eq_getElem?_getD]
  refine acall_is (ce _) ?_; simp (disch := omega) [-List.getD_eq_getElem?_getD]
  refine acall_is (cv _) ?_; simp (disch := omega) [-List.getD_eq_getElem?_getD]
  refine hK _ ?_; clear hK K
  refine aw_ret ?_; simp (disch := omega) [-List.getD_eq_getElem?_getD]
 ·have b1 : (e != 0) = true := by simpa using he
  have b2 : (e == e) = true := by simp
  refine aw_reg fun K hK => ?_; simp (disch := omega) [-List.getD_eq_getElem?_getD]
  refine acall_is (ce _) ?_; simp (disch := omega) [-List.getD_eq_getElem?_getD, b1, he]
  refine hK _ ?_; clear hK K
  refine aw_ret ?_; simp (disch := omega) [-List.getD_eq_getElem?_getD]
end Go.Proofs.YtneohapkboaplaaGreat
