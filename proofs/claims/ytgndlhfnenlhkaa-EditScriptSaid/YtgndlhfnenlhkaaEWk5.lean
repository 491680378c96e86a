/- EditScript: the walk.
   Conditions: none. -/
import Derived.Test.YtgndlhfnenlhkaaEWk1
import Derived.Test.YtgndlhfnenlhkaaEFn13
import Derived.Test.YtgndlhfnenlhkaaEFn14
namespace Go.Proofs.Ytgndlhfnenlhkaa
open Go Go.Am Edit
set_option linter.unusedVariables false

set_option maxRecDepth 100000 in
set_option maxHeartbeats 2000000 in
theorem escript_ok (a b : List Int) (ha : a.length ≤ maxLen) (hb : b.length ≤ maxLen) :
    ACall Try.prog 4 [.sl a.length (ints a) .none, .sl b.length (ints b) .none] [] [] (fun r _ _ => r = .bool true) := by
  have h100 : 1000 ≤ maxLen := by decide
  refine acall_enter 5 [] Try.ntmps4 Try.func4 rfl (fun _ _ => Try.call4 _ _) (by simp) (fun HO => ?_)
  refine aw_reg fun K hK => ?_; simp (maxSteps := 200000) (disch := omega) [-List.getD_eq_getElem?_getD]; refine hK _ ?_; clear hK K
  refine aw_then fun K1 hK1 => ?_
  refine aw_reg fun K hK => ?_; simp (maxSteps := 200000) (disch := omega) [-List.getD_eq_getElem?_getD]
  refine acall_is (awake_ok _ _) ?_; simp (maxSteps := 200000) (disch := omega) [-List.getD_eq_getElem?_getD]
  refine hK _ ?_; clear hK K
  refine aw_if rfl (fun h => absurd h (by simp)) (fun h => ?_)
  refine aw_skip ?_; simp (maxSteps := 200000) (disch := omega) [-List.getD_eq_getElem?_getD]
  refine hK1 _ ?_; clear hK1
  refine aw_then fun K1 hK1 => ?_
  have f1 := few_ok a b ha hb [] []
  by_cases h1 : a.length ≤ 60 ∧ b.length ≤ 60
  · rw [decide_eq_true h1] at f1
    refine aw_reg fun K hK => ?_; simp (maxSteps := 200000) (disch := omega) [-List.getD_eq_getElem?_getD]
    refine acall_is (f1) ?_; simp (maxSteps := 200000) (disch := omega) [-List.getD_eq_getElem?_getD]
    refine hK _ ?_; clear hK K
    refine aw_if rfl (fun h => absurd h (by simp)) (fun h => ?_)
    refine aw_skip ?_; simp (maxSteps := 200000) (disch := omega) [-List.getD_eq_getElem?_getD]
    refine hK1 _ ?_; clear hK1
    obtain ⟨s1, s2, s3, s4⟩ := scN_apply (a.length + b.length) a b (Nat.le_refl _)
    change (sc a b).length ≤ a.length + b.length at s3
    have s5 := ssN_len (a.length + b.length) a b (Nat.le_refl _)
    have s6 := lc_le a b
    change (ss a b).length = lc a b at s5
    have c1 := script_ok a b (by omega) (by omega) [] [] .none .none
    have c2 := theirs_ok (sc a b) (by omega) [] [] .none
    have c3 := scriptR_ok a b (by omega) (by omega) [] [] .none .none
    have c4 := sameOps_ok (sc a b) (sc a b) (by omega) (by omega) [] [] .none .none
    rw [show (sc a b == sc a b) = true from beq_self_eq_true _] at c4
    have c5 := subseq_ok a b (by omega) (by omega) [] [] .none .none
    have c6 := subseqR_ok a b (by omega) (by omega) [] [] .none .none
    have c7 := sameInts_ok (ss a b) (ss a b) (by omega) (by omega) [] [] .none .none
    rw [show (ss a b == ss a b) = true from beq_self_eq_true _] at c7
    refine aw_reg fun K hK => ?_; simp (maxSteps := 200000) (disch := omega) [-List.getD_eq_getElem?_getD]
    refine acall_is (c1) ?_; simp (maxSteps := 200000) (disch := omega) [-List.getD_eq_getElem?_getD]
    refine acall_is (c2) ?_; simp (maxSteps := 200000) (disch := omega) [-List.getD_eq_getElem?_getD]
    refine acall_is (c3) ?_; simp (maxSteps := 200000) (disch := omega) [-List.getD_eq_getElem?_getD]
    refine acall_is (c4) ?_; simp (maxSteps := 200000) (disch := omega) [-List.getD_eq_getElem?_getD]
    refine acall_is (c5) ?_; simp (maxSteps := 200000) (disch := omega) [-List.getD_eq_getElem?_getD]
    refine acall_is (c6) ?_; simp (maxSteps := 200000) (disch := omega) [-List.getD_eq_getElem?_getD]
    refine acall_is (c7) ?_; simp (maxSteps := 200000) (disch := omega) [-List.getD_eq_getElem?_getD]
    refine hK _ ?_; clear hK K
    refine aw_ret ?_; simp (maxSteps := 200000) (disch := omega) [-List.getD_eq_getElem?_getD]
  · rw [decide_eq_false h1] at f1
    refine aw_reg fun K hK => ?_; simp (maxSteps := 200000) (disch := omega) [-List.getD_eq_getElem?_getD]
    refine acall_is (f1) ?_; simp (maxSteps := 200000) (disch := omega) [-List.getD_eq_getElem?_getD]
    refine hK _ ?_; clear hK K
    refine aw_if rfl (fun h => ?_) (fun h => absurd h (by simp))
    refine aw_reg fun K hK => ?_; simp (maxSteps := 200000) (disch := omega) [-List.getD_eq_getElem?_getD]; refine hK _ ?_; clear hK K
    refine aw_ret ?_; simp (maxSteps := 200000) (disch := omega) [-List.getD_eq_getElem?_getD]
end Go.Proofs.Ytgndlhfnenlhkaa
