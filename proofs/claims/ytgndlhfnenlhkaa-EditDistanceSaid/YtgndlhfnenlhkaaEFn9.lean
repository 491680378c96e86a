/- The canary of layer 11.
   Conditions: none. -/
import Derived.Test.YtgndlhfnenlhkaaEFn8
namespace Go.Proofs.Ytgndlhfnenlhkaa
open Go Go.Am Edit
set_option linter.unusedVariables false

set_option maxRecDepth 100000 in
set_option maxHeartbeats 4000000 in
theorem awake_ok (H : List Blk) (T : Toks) : ACall Try.prog 11 [] H T (Is (.bool true) H T) := by
  have e1 : chars [107, 105, 116, 116, 101, 110] = [107, 105, 116, 116, 101, 110] := by decide +kernel
  have e2 : chars [115, 105, 116, 116, 105, 110, 103] = [115, 105, 116, 116, 105, 110, 103] := by decide +kernel
  have e3 : chars [99, 97, 116] = [99, 97, 116] := by decide +kernel
  have e4 : chars [99, 97, 114, 116] = [99, 97, 114, 116] := by decide +kernel
  have e5 : sc [99, 97, 116] [99, 97, 114, 116] = [(1, 0), (1, 0), (4, 114), (1, 0)] := by decide +kernel
  have e6 : ed [107, 105, 116, 116, 101, 110] [115, 105, 116, 116, 105, 110, 103] = 3 := by decide +kernel
  have e7 : ss [107, 105, 116, 116, 101, 110] [115, 105, 116, 116, 105, 110, 103] = [105, 116, 116, 110] := by decide +kernel
  have e8 : ed [99, 97, 116] [99, 97, 114, 116] = 1 := by decide +kernel
  have c1 := chars_ok [107, 105, 116, 116, 101, 110] (by decide) H T
  have c2 := chars_ok [115, 105, 116, 116, 105, 110, 103] (by decide) H T
  have c3 := chars_ok [99, 97, 116] (by decide) H T
  have c4 := chars_ok [99, 97, 114, 116] (by decide) H T
  have c5 := script_ok [99, 97, 116] [99, 97, 114, 116] (by decide) (by decide) H T .none .none
  have c6 := dist_ok [107, 105, 116, 116, 101, 110] [115, 105, 116, 116, 105, 110, 103] (by decide) (by decide) H T .none .none
  have c7 := subseq_ok [107, 105, 116, 116, 101, 110] [115, 105, 116, 116, 105, 110, 103] (by decide) (by decide) H T .none .none
  have c8 := sameInts_ok [105, 116, 116, 110] [105, 116, 116, 110] (by decide) (by decide) H T .none .full
  have c9 := cost_ok [(1, 0), (1, 0), (4, 114), (1, 0)] (by decide) H T .none
  have c10 := text_ok [99, 97, 116] [99, 97, 114, 116] (by decide) (by decide) H T
  rw [e1] at c1
  rw [e2] at c2
  rw [e3] at c3
  rw [e4] at c4
  rw [e5] at c5
  rw [e6] at c6
  rw [e7] at c7
  rw [e3, e4, e8] at c10
  have e9 : cost [(1, 0), (1, 0), (4, 114), (1, 0)] = 1 := by decide +kernel
  rw [e9] at c9
  refine acall_enter 4 [] Try.ntmps11 Try.func11 rfl (fun _ _ => Try.call11 _ _) (by simp) (fun HO => ?_)
  refine aw_reg fun K hK => ?_; simp (maxSteps := 200000) (disch := omega) [-List.getD_eq_getElem?_getD]; refine hK _ ?_; clear hK K
  refine aw_reg fun K hK => ?_; simp (maxSteps := 200000) (disch := omega) [-List.getD_eq_getElem?_getD]
  refine acall_is (c1) ?_; simp (maxSteps := 200000) (disch := omega) [-List.getD_eq_getElem?_getD]
  refine acall_is (c2) ?_; simp (maxSteps := 200000) (disch := omega) [-List.getD_eq_getElem?_getD]
  refine hK _ ?_; clear hK K
  refine aw_reg fun K hK => ?_; simp (maxSteps := 200000) (disch := omega) [-List.getD_eq_getElem?_getD]
  refine acall_is (c3) ?_; simp (maxSteps := 200000) (disch := omega) [-List.getD_eq_getElem?_getD]
  refine acall_is (c4) ?_; simp (maxSteps := 200000) (disch := omega) [-List.getD_eq_getElem?_getD]
  refine acall_is (c5) ?_; simp (maxSteps := 200000) (disch := omega) [-List.getD_eq_getElem?_getD]
  refine hK _ ?_; clear hK K
  refine aw_reg fun K hK => ?_; simp (maxSteps := 200000) (disch := omega) [-List.getD_eq_getElem?_getD]
  refine acall_is (c6) ?_; simp (maxSteps := 200000) (disch := omega) [-List.getD_eq_getElem?_getD]
  refine acall_is (c7) ?_; simp (maxSteps := 200000) (disch := omega) [-List.getD_eq_getElem?_getD]
  refine acall_is (c8) ?_; simp (maxSteps := 200000) (disch := omega) [-List.getD_eq_getElem?_getD]
  (try simp (maxSteps := 200000) (disch := omega) [-List.getD_eq_getElem?_getD, opsAV])
  refine acall_is (c9) ?_; simp (maxSteps := 200000) (disch := omega) [-List.getD_eq_getElem?_getD]
  refine acall_is (c10) ?_; simp (maxSteps := 200000) (disch := omega) [-List.getD_eq_getElem?_getD]
  refine hK _ ?_; clear hK K
  refine aw_ret ?_; simp (maxSteps := 200000) (disch := omega) [-List.getD_eq_getElem?_getD]
  exact ⟨rfl, rfl, rfl⟩
end Go.Proofs.Ytgndlhfnenlhkaa
