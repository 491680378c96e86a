/- SegmentFind (layer 39): it returns true.
  Conditions: none. -/
import Derived.Test.YtneohapkboaplaaGreatGLA
import Derived.Test.YtneohapkboaplaaGreatGRB
import Derived.Test.YtneohapkboaplaaGreatGOwn
set_option linter.unusedVariables false
set_option maxRecDepth 100000
namespace Go.Proofs.YtneohapkboaplaaGreat
open Go Go.Am Sug Seg Post
theorem findS_sz {s : Sg} (hs : SzS s) (k : Ky) : (findS s k).length ≤ 400 ∧ ∀ p ∈ findS s k, p.2.length ≤ 400 := by
 unfold findS
 split
 ·unfold postS
  cases hf : s.tms.find? fun t => decide (t.k = k) with
  | none => simp
  | some t => exact (hs.w t (List.mem_of_find?_eq_some hf)).2
 ·simp
theorem wordsS_sz {s : Sg} (hs : SzS s) (f : Int) (p : Bs) : (wordsS s f p).length ≤ 1000 := by
 unfold wordsS
 split
 ·unfold wordsL
  rw [List.length_map]
  exact Nat.le_trans (List.length_filter_le _ _) hs.t
 ·simp
theorem betS_sz {s : Sg} (hs : SzS s) (f lo hi : Int) : (betS s f lo hi).length ≤ 400 := by
 unfold betS
 split
 ·rename_i h
  exact Nat.le_trans (ascL_small (hits_docs h f lo hi)) hs.d
 ·simp
set_option maxHeartbeats 8000000 in
theorem segmentFind_ok (s : Sg) (hs : SzA s) (f lo hi : Int) (w : Bs) (hw : w.length ≤ maxLen) : ACall Tryz.prog 4 [sgAV s, .agg [.int .i64 f, .str w, .int .i64 lo, .int .i64 hi]] [] [] (fun r _ _ => r = .bool true) := by
 have hm : 1000 ≤ maxLen := by decide
 have ca := fun H => awakeS_ok H []
 have cs := fun H => smallS_ok s hs H []
 refine acall_enter 8 [] Tryz.ntmps4 Tryz.func4 rfl (fun _ _ => Tryz.call4 _ _) (by simp) (fun HO => ?_)
 refine aw_reg fun K hK => ?_; simp (disch := omega) [-List.getD_eq_getElem?_getD]; refine hK _ ?_; clear hK K
 refine aw_then fun K1 hK1 => ?_
 refine aw_reg fun K hK => ?_; simp (disch := omega) [-List.getD_eq_getElem?_getD]
 refine acall_is (ca _) ?_; simp (disch := omega) [-List.getD_eq_getElem?_getD]
 refine hK _ ?_; clear hK K
 refine aw_iff rfl ?_
 refine aw_skip ?_; simp (disch := omega) [-List.getD_eq_getElem?_getD]
 refine hK1 _ ?_; clear hK1
 refine aw_then fun K1 hK1 => ?_
 cases hb : smallB s with
 | false =>
  rw [hb] at cs
  refine aw_reg fun K hK => ?_; simp (disch := omega) [-List.getD_eq_getElem?_getD]
  refine acall_is (cs _) ?_; simp (disch := omega) [-List.getD_eq_getElem?_getD]
  refine hK _ ?_; clear hK K
  refine aw_ift rfl ?_
  refine aw_reg fun K hK => ?_; simp (disch := omega) [-List.getD_eq_getElem?_getD]; refine hK _ ?_; clear hK K
  refine aw_ret ?_; simp (disch := omega) [-List.getD_eq_getElem?_getD]
 | true =>
 rw [hb] at cs
 have hz := small_sz hb hs
 have co := fun H => own_ok s hz H []
 have c1 := fun H => findS_ok s hz f w H []
 have c2 := fun H => findSR_ok s hz f w H []
 obtain ⟨z1, z2⟩ := findS_sz hz (f, w)
 have c3 := fun H => sameS_ok (findS s (f, w)) (findS s (f, w)) (by omega) (by omega) (fun p hp => by have := z2 p hp; omega) (fun p hp => by have := z2 p hp; omega) H [] .none .none
 rw [decide_eq_true rfl] at c3
 have c4 := fun H => wordsS_ok s hz f w hw H []
 have c5 := fun H => wordsSR_ok s hz f w hw H []
 have z3 := wordsS_sz hz f w
 have c6 := fun H => sameTexts_ok (wordsS s f w) (wordsS s f w) (by omega) (by omega) H [] .none .none
 rw [beq_self_eq_true] at c6
 have c7 := fun H => betS_ok s hz f lo hi H []
 have c8 := fun H => betSR_ok s hz f lo hi H []
 have z4 := betS_sz hz f lo hi
 have c9 := fun H => sameInts_ok (betS s f lo hi) (betS s f lo hi) (by omega) (by omega) H [] .none .none
 rw [beq_self_eq_true] at c9
 generalize findS s (f, w) = fs at *
 generalize wordsS s f w = ws at *
 generalize betS s f lo hi = bs at *
 refine aw_reg fun K hK => ?_; simp (disch := omega) [-List.getD_eq_getElem?_getD]
 refine acall_is (cs _) ?_; simp (disch := omega) [-List.getD_eq_getElem?_getD]
 refine hK _ ?_; clear hK K
 refine aw_iff rfl ?_
 refine aw_skip ?_; simp (disch := omega) [-List.getD_eq_getElem?_getD]
 refine hK1 _ ?_; clear hK1
 refine aw_reg fun K hK => ?_; simp (disch := omega) [-List.getD_eq_getElem?_getD]
 refine acall_is (co _) ?_; simp (disch := omega) [-List.getD_eq_getElem?_getD]
 refine hK _ ?_; clear hK K
 refine aw_draw [] [] [] drawMixed (by kernel_rfl) (by kernel_rfl) fun K hK => ?_; simp (disch := omega) [-List.getD_eq_getElem?_getD]
 refine dcall_is (c1 _) rfl ?_; simp (disch := omega) [-List.getD_eq_getElem?_getD]
 refine dcall_is (c2 _) rfl ?_; simp (disch := omega) [-List.getD_eq_getElem?_getD]
 refine dcall_is (c3 _) rfl ?_; simp (disch := omega) [-List.getD_eq_getElem?_getD]
 refine dcall_is (c4 _) rfl ?_; simp (disch := omega) [-List.getD_eq_getElem?_getD]
 refine dcall_is (c5 _) rfl ?_; simp (disch := omega) [-List.getD_eq_getElem?_getD]
 refine dcall_is (c6 _) rfl ?_; simp (disch := omega) [-List.getD_eq_getElem?_getD]
 refine dcall_is (c7 _) rfl ?_; simp (disch := omega) [-List.getD_eq_getElem?_getD]
 refine dcall_is (c8 _) rfl ?_; simp (disch := omega) [-List.getD_eq_getElem?_getD]
 refine dcall_is (c9 _) rfl ?_; simp (disch := omega) [-List.getD_eq_getElem?_getD]
 refine hK _ ?_; clear hK K
 refine aw_ret ?_; simp (disch := omega) [-List.getD_eq_getElem?_getD]
end Go.Proofs.YtneohapkboaplaaGreat
