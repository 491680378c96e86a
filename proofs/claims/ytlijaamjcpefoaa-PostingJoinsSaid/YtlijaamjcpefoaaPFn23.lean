/- The example of the document of layer 38 holds.
   Conditions: none. -/
import Derived.Test.YtlijaamjcpefoaaPFn22
namespace Go.Proofs.Ytlijaamjcpefoaa
open Go Go.Am Post
set_option linter.unusedVariables false

def war : PL := [(5, [0, 7])]
def peace : PL := [(5, [2, 8])]

set_option maxRecDepth 100000 in
set_option maxHeartbeats 2000000 in
theorem awake_ok (H : List Blk) (T : Toks) : ACall Try.prog 11 [] H T (Is (.bool true) H T) := by
  have hml : 400 ≤ maxLen := by decide
  have c1 := phrase_ok [war, peace] (by decide) (by decide) (by decide) H T .full
  have c2 := near_ok war peace 2 (by decide) (by decide) (by decide) (by decide) H T .none .none
  have e1 : phraseL [war, peace] = [(5, [7])] := by decide
  have e2 : nearL war peace 2 = war := by decide
  rw [e1] at c1
  rw [e2] at c2
  have c3 := theirs_ok [(5, [7])] (by decide) H T .none
  have c4 : ACall Try.prog 49 [.sl 1 (psAV [(5, [7])]) .none, .sl 1 [.int .i64 5, .sl 1 [.int .i64 7] .none] .full] H T (Is (.bool true) H T) :=
    sameP_ok [(5, [7])] [(5, [7])] (by decide) (by decide) (by decide) (by decide) H T .none .full
  have c5 := theirs_ok war (by decide) H T .none
  have c6 : ACall Try.prog 49 [.sl 1 (psAV war) .none, .sl 1 (psAV war) .none] H T (Is (.bool true) H T) := sameP_ok war war (by decide) (by decide) (by decide) (by decide) H T .none .none
  have c7 : ACall Try.prog 21 [.sl 2 [.int .i64 1, .int .i64 2] .full, .sl 2 [.int .i64 2, .int .i64 3] .full] H T (Is (.sl 1 (ints [2]) .none) H T) := and_ok [1, 2] [2, 3] (by decide) (by decide) H T .full .full
  have c8 : ACall Try.prog 50 [.sl 1 (ints [2]) .none, .sl 1 [.int .i64 2] .full] H T (Is (.bool true) H T) := sameInts_ok [2] [2] (by decide) (by decide) H T .none .full
  have c9 : ACall Try.prog 32 [.sl 1 (psAV war) .none] H T (Is (.bool true) H T) := valid_ok war (by decide) (by decide) H T .none
  have c10 : ACall Try.prog 38 [.sl 1 (psAV war) .none] H T (Is (.int .i64 2) H T) := count_ok war (by decide) (by decide) H T .none
  refine acall_enter 3 [] Try.ntmps11 Try.func11 rfl (fun _ _ => Try.call11 _ _) (by simp) (fun HO => ?_)
  refine aw_reg fun K hK => ?_; simp (maxSteps := 200000) (disch := omega) [-List.getD_eq_getElem?_getD]; refine hK _ ?_; clear hK K
  refine aw_reg fun K hK => ?_; simp (maxSteps := 200000) (disch := omega) [-List.getD_eq_getElem?_getD]; refine hK _ ?_; clear hK K
  refine aw_weak ⟨[(1, .sl 1 (psAV war) .none), (2, .sl 1 (psAV peace) .none)], H, T⟩ (weak_to [] [] (by simp) (by simp) ?_ ?_ HO ?_) ?_
  · simp
  · simp
  · simp [war, peace, psAV, ints]
  refine aw_reg fun K hK => ?_; simp (maxSteps := 200000) (disch := omega) [-List.getD_eq_getElem?_getD]
  refine acall_is (c1) ?_; simp (maxSteps := 200000) (disch := omega) [-List.getD_eq_getElem?_getD]
  refine acall_is (c3) ?_; simp (maxSteps := 200000) (disch := omega) [-List.getD_eq_getElem?_getD]
  refine acall_is (c4) ?_; simp (maxSteps := 200000) (disch := omega) [-List.getD_eq_getElem?_getD]
  refine acall_is (c2) ?_; simp (maxSteps := 200000) (disch := omega) [-List.getD_eq_getElem?_getD]
  refine acall_is (c5) ?_; simp (maxSteps := 200000) (disch := omega) [-List.getD_eq_getElem?_getD]
  refine acall_is (c5) ?_; simp (maxSteps := 200000) (disch := omega) [-List.getD_eq_getElem?_getD]
  refine acall_is (c6) ?_; simp (maxSteps := 200000) (disch := omega) [-List.getD_eq_getElem?_getD]
  refine acall_is (c7) ?_; simp (maxSteps := 200000) (disch := omega) [-List.getD_eq_getElem?_getD]
  refine acall_is (c8) ?_; simp (maxSteps := 200000) (disch := omega) [-List.getD_eq_getElem?_getD]
  refine acall_is (c9) ?_; simp (maxSteps := 200000) (disch := omega) [-List.getD_eq_getElem?_getD]
  refine acall_is (c10) ?_; simp (maxSteps := 200000) (disch := omega) [-List.getD_eq_getElem?_getD]
  refine hK _ ?_; clear hK K
  refine aw_ret ?_; simp (maxSteps := 200000) (disch := omega) [-List.getD_eq_getElem?_getD]
  exact ⟨rfl, rfl, rfl⟩
end Go.Proofs.Ytlijaamjcpefoaa
