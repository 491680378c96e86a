/- Lists of mappings (layer 26): the walk of the law.
   Conditions: lengths of the arguments below 2^47, as arguments have; the library's table of powers of ten. -/
import Derived.Test.YtfdlngemkhiiiaaDoorVWk1
import Derived.Test.YtfdlngemkhiiiaaDoorVPrt
namespace Voc
theorem ofF_le (l : List Mp) : (ofF l).1.length ≤ l.length := by
  unfold ofF
  have := dd_len l
  (repeat' split) <;> simp <;> omega
theorem invF_le (l : List Mp) : (invF l).1.length ≤ l.length := by
  unfold invF
  have := invL_len l
  split <;> simp <;> omega
end Voc
namespace Go.Proofs.YtfdlngemkhiiiaaDoor
open Go Go.Am Voc
set_option linter.unusedVariables false

set_option maxRecDepth 100000 in
set_option maxHeartbeats 8000000 in
/-- VocabmapLists. -/
theorem lists_law (l : List Mp) (id : Int) (hl : l.length ≤ maxLen) (H : List Blk) (hG : Gl H 0 isPow) :
    ACall Tryd.prog 3 [.sl l.length (mpAV l) .none, .int .i64 id] H [] (fun r H' _ => r = .bool true ∧ ∃ G, H' = H ++ G) := by
  have c0 := awake_ok H []
  have c1 := few_ok l H [] .none
  by_cases hf : (decide (l.length ≤ 12) || decide (499 ≤ l.length) && decide (l.length ≤ 502)) = true
  rotate_left
  · have hf2 : (decide (l.length ≤ 12) || decide (499 ≤ l.length) && decide (l.length ≤ 502)) = false := by simpa using hf
    rw [hf2] at c1
    refine acall_enter 17 [] Tryd.ntmps3 Tryd.func3 rfl (fun _ _ => Tryd.call3 _ _) (by simp) (fun HO => ?_)
    refine aw_reg fun K hK => ?_; simp (maxSteps := 1000000) (disch := omega) [-List.getD_eq_getElem?_getD]; refine hK _ ?_; clear hK K
    refine aw_then fun K1 hK1 => ?_
    refine aw_reg fun K hK => ?_; simp (maxSteps := 1000000) (disch := omega) [-List.getD_eq_getElem?_getD]
    refine acall_is (c0) ?_; simp (maxSteps := 1000000) (disch := omega) [-List.getD_eq_getElem?_getD]
    refine hK _ ?_; clear hK K
    refine aw_if rfl (fun h => absurd h (by simp)) (fun h => ?_)
    refine aw_skip ?_; simp (maxSteps := 1000000) (disch := omega) [-List.getD_eq_getElem?_getD]
    refine hK1 _ ?_; clear hK1
    refine aw_then fun K1 hK1 => ?_
    refine aw_reg fun K hK => ?_; simp (maxSteps := 1000000) (disch := omega) [-List.getD_eq_getElem?_getD]
    refine acall_is (c1) ?_; simp (maxSteps := 1000000) (disch := omega) [-List.getD_eq_getElem?_getD]
    refine hK _ ?_; clear hK K
    refine aw_if rfl (fun h => ?_) (fun h => absurd h (by simp))
    refine aw_reg fun K hK => ?_; simp (maxSteps := 1000000) (disch := omega) [-List.getD_eq_getElem?_getD]; refine hK _ ?_; clear hK K
    refine aw_ret ?_; simp (maxSteps := 1000000) (disch := omega) [-List.getD_eq_getElem?_getD]
  · rw [hf] at c1
    have hlen : l.length ≤ 502 := by
      simp only [Bool.or_eq_true, Bool.and_eq_true, decide_eq_true_eq] at hf
      omega
    have o1 := of_ok l (by omega) H [] .none
    have o2 := ofR_ok l (by omega) H [] .none
    have i1 := inverse_ok l (by omega) H [] .none
    have i2 := inverseR_ok l (by omega) H [] .none
    have p1 := print_ok l (by omega) H [] .none hG
    have p2 := printR_ok l (by omega) H [] .none
    have v1 := validP_ok l (by omega) H [] .none
    have v2 := validR_ok l (by omega) H [] .none
    have t1 := translate_ok l id (by omega) H [] .none
    have t2 := translateR_ok l id (by omega) H [] .none
    have h1 := ofF_le l
    have h2 := invF_le l
    have h3 := trT_le (validM l) l id l.length
    have s1 := same_ok (ofF l).1 (by omega) H [] .none .none
    have s2 := same_ok (invF l).1 (by omega) H [] .none .none
    have s3 := same_ok (trT (validM l) l id l.length) (by omega) H [] .none .none
    generalize trT (validM l) l id l.length = t at *
    generalize ofF l = o at *
    generalize invF l = i at *
    generalize printF l = p at *
    generalize validM l = v at *
    have bv : (v == v) = true := by cases v <;> rfl
    refine acall_enter 17 [] Tryd.ntmps3 Tryd.func3 rfl (fun _ _ => Tryd.call3 _ _) (by simp) (fun HO => ?_)
    refine aw_reg fun K hK => ?_; simp (maxSteps := 1000000) (disch := omega) [-List.getD_eq_getElem?_getD]; refine hK _ ?_; clear hK K
    refine aw_then fun K1 hK1 => ?_
    refine aw_reg fun K hK => ?_; simp (maxSteps := 1000000) (disch := omega) [-List.getD_eq_getElem?_getD]
    refine acall_is (c0) ?_; simp (maxSteps := 1000000) (disch := omega) [-List.getD_eq_getElem?_getD]
    refine hK _ ?_; clear hK K
    refine aw_if rfl (fun h => absurd h (by simp)) (fun h => ?_)
    refine aw_skip ?_; simp (maxSteps := 1000000) (disch := omega) [-List.getD_eq_getElem?_getD]
    refine hK1 _ ?_; clear hK1
    refine aw_then fun K1 hK1 => ?_
    refine aw_reg fun K hK => ?_; simp (maxSteps := 1000000) (disch := omega) [-List.getD_eq_getElem?_getD]
    refine acall_is (c1) ?_; simp (maxSteps := 1000000) (disch := omega) [-List.getD_eq_getElem?_getD]
    refine hK _ ?_; clear hK K
    refine aw_if rfl (fun h => absurd h (by simp)) (fun h => ?_)
    refine aw_skip ?_; simp (maxSteps := 1000000) (disch := omega) [-List.getD_eq_getElem?_getD]
    refine hK1 _ ?_; clear hK1
    refine aw_reg fun K hK => ?_; simp (maxSteps := 1000000) (disch := omega) [-List.getD_eq_getElem?_getD]
    refine acall_is (o1) ?_; simp (maxSteps := 1000000) (disch := omega) [-List.getD_eq_getElem?_getD]
    refine hK _ ?_; clear hK K
    refine aw_reg fun K hK => ?_; simp (maxSteps := 1000000) (disch := omega) [-List.getD_eq_getElem?_getD]
    refine acall_is (o2) ?_; simp (maxSteps := 1000000) (disch := omega) [-List.getD_eq_getElem?_getD]
    refine hK _ ?_; clear hK K
    refine aw_reg fun K hK => ?_; simp (maxSteps := 1000000) (disch := omega) [-List.getD_eq_getElem?_getD]
    refine acall_is (i1) ?_; simp (maxSteps := 1000000) (disch := omega) [-List.getD_eq_getElem?_getD]
    refine hK _ ?_; clear hK K
    refine aw_reg fun K hK => ?_; simp (maxSteps := 1000000) (disch := omega) [-List.getD_eq_getElem?_getD]
    refine acall_is (i2) ?_; simp (maxSteps := 1000000) (disch := omega) [-List.getD_eq_getElem?_getD]
    refine hK _ ?_; clear hK K
    refine aw_reg fun K hK => ?_; simp (maxSteps := 1000000) (disch := omega) [-List.getD_eq_getElem?_getD]
    refine acall_is (p1) ?_; simp (maxSteps := 1000000) (disch := omega) [-List.getD_eq_getElem?_getD]
    refine hK _ ?_; clear hK K
    refine aw_reg fun K hK => ?_; simp (maxSteps := 1000000) (disch := omega) [-List.getD_eq_getElem?_getD]
    refine acall_is (p2) ?_; simp (maxSteps := 1000000) (disch := omega) [-List.getD_eq_getElem?_getD]
    refine hK _ ?_; clear hK K
    refine aw_reg fun K hK => ?_; simp (maxSteps := 1000000) (disch := omega) [-List.getD_eq_getElem?_getD]
    refine acall_is (v1) ?_; simp (maxSteps := 1000000) (disch := omega) [-List.getD_eq_getElem?_getD]
    refine acall_is (v2) ?_; simp (maxSteps := 1000000) (disch := omega) [-List.getD_eq_getElem?_getD]
    refine acall_is (s1) ?_; simp (maxSteps := 1000000) (disch := omega) [-List.getD_eq_getElem?_getD]
    refine acall_is (s2) ?_; simp (maxSteps := 1000000) (disch := omega) [-List.getD_eq_getElem?_getD]
    refine acall_is (t1) ?_; simp (maxSteps := 1000000) (disch := omega) [-List.getD_eq_getElem?_getD]
    refine acall_is (t2) ?_; simp (maxSteps := 1000000) (disch := omega) [-List.getD_eq_getElem?_getD]
    refine acall_is (s3) ?_; simp (maxSteps := 1000000) (disch := omega) [-List.getD_eq_getElem?_getD]
    refine hK _ ?_; clear hK K
    refine aw_ret ?_; simp (maxSteps := 1000000) (disch := omega) [-List.getD_eq_getElem?_getD]
end Go.Proofs.YtfdlngemkhiiiaaDoor
