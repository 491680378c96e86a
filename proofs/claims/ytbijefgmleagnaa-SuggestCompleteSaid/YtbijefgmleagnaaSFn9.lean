/- The example of the document (layer 43).
   Conditions: none. -/
import Derived.Test.YtbijefgmleagnaaSFn8
namespace Sug
def peace : Str := [112, 101, 97, 99, 101]
def peach : Str := [112, 101, 97, 99, 104]
def place : Str := [112, 108, 97, 99, 101]
def peece : Str := [112, 101, 101, 99, 101]
def ents : List Ent := [(peace, 3), (peach, 1), (place, 1)]
theorem ents_valid : validE ents = true := by kernel_rfl
theorem ents_within : insR (foundE ents peece 2) = [(peace, 1, 3), (peach, 2, 1), (place, 2, 1)] := by kernel_rfl
theorem ents_best : insR (foundE ents peece 1) = [(peace, 1, 3)] := by kernel_rfl
theorem ents_count : countE ents peach = 1 := by kernel_rfl
end Sug
namespace Go.Proofs.Ytbijefgmleagnaa
open Go Go.Am Sug Edit
set_option linter.unusedVariables false

set_option maxRecDepth 100000 in
set_option maxHeartbeats 4000000 in
theorem awake_ok (H : List Blk) (T : Toks) : ACall Try.prog 8 [] H T (Is (.bool true) H T) := by
  have hp : ∀ p ∈ ents, p.1.length ≤ 1000 := by
    intro p hp
    simp [ents] at hp
    rcases hp with rfl | rfl | rfl <;> decide
  have c1 := within43_ok ents peece 2 (by decide) (by decide) hp (by decide) H T .full
  have w1 : withinE ents peece 2 = [(peace, 1, 3), (peach, 2, 1), (place, 2, 1)] := by
    rw [withinE, if_pos ⟨ents_valid, by decide, by decide⟩, ← insR_sort, ents_within]
  have w2 : withinE ents peece 1 = [(peace, 1, 3)] := by
    rw [withinE, if_pos ⟨ents_valid, by decide, by decide⟩, ← insR_sort, ents_best]
  have c2 := best_ok ents peece 1 (by decide) (by decide) hp (by decide) H T .full
  have c3 := validP_ok ents (by decide) hp H T .full
  have c4 := count_ok ents peach (by decide) hp H T .full
  rw [w1] at c1
  rw [bestE, w2] at c2
  rw [ents_valid] at c3
  rw [ents_count] at c4
  have c1' : ACall Try.prog 19 [.sl ents.length (entAV ents) .full, .str [112, 101, 101, 99, 101], .int .i64 2] H T (Is (.sl 3 [.str [112, 101, 97, 99, 101], .int .i64 1, .int .i64 3, .str [112, 101, 97, 99, 104], .int .i64 2, .int .i64 1, .str [112, 108, 97, 99, 101], .int .i64 2, .int .i64 1] .none) H T) := c1
  have c2' : ACall Try.prog 11 [.sl ents.length (entAV ents) .full, .str [112, 101, 101, 99, 101], .int .i64 1] H T (Is (.tup [.str [112, 101, 97, 99, 101], .bool true]) H T) := c2
  have c4' : ACall Try.prog 15 [.sl ents.length (entAV ents) .full, .str [112, 101, 97, 99, 104]] H T (Is (.int .i64 1) H T) := c4
  have am : amade [AV.str [], AV.int .i64 0] 6 = [AV.str [], AV.int .i64 0, AV.str [], AV.int .i64 0, AV.str [], AV.int .i64 0] := rfl
  have em : entAV ents = [AV.str [112, 101, 97, 99, 101], AV.int .i64 3, AV.str [112, 101, 97, 99, 104], AV.int .i64 1, AV.str [112, 108, 97, 99, 101], AV.int .i64 1] := rfl
  have el : ents.length = 3 := rfl
  clear c1 c2 c4 w1 w2
  generalize entAV ents = ea at *
  generalize ents.length = n at *
  subst em
  subst el
  refine acall_enter 5 [] Try.ntmps8 Try.func8 rfl (fun _ _ => Try.call8 _ _) (by simp) (fun HO => ?_)
  refine aw_reg fun K hK => ?_; simp (maxSteps := 1000000) (disch := omega) [-List.getD_eq_getElem?_getD]; refine hK _ ?_; clear hK K
  refine aw_reg fun K hK => ?_; simp (maxSteps := 1000000) (disch := omega) [-List.getD_eq_getElem?_getD, am]; refine hK _ ?_; clear hK K
  refine aw_reg fun K hK => ?_; simp (maxSteps := 1000000) (disch := omega) [-List.getD_eq_getElem?_getD]
  refine acall_is (c1') ?_; simp (maxSteps := 1000000) (disch := omega) [-List.getD_eq_getElem?_getD]
  refine hK _ ?_; clear hK K
  refine aw_reg fun K hK => ?_; simp (maxSteps := 1000000) (disch := omega) [-List.getD_eq_getElem?_getD]
  refine acall_is (c2') ?_; simp (maxSteps := 1000000) (disch := omega) [-List.getD_eq_getElem?_getD]
  refine hK _ ?_; clear hK K
  refine aw_reg fun K hK => ?_; simp (maxSteps := 1000000) (disch := omega) [-List.getD_eq_getElem?_getD]
  refine acall_is (c3) ?_; simp (maxSteps := 1000000) (disch := omega) [-List.getD_eq_getElem?_getD]
  refine acall_is (c4') ?_; simp (maxSteps := 1000000) (disch := omega) [-List.getD_eq_getElem?_getD]
  refine hK _ ?_; clear hK K
  refine aw_ret ?_; simp (maxSteps := 1000000) (disch := omega) [-List.getD_eq_getElem?_getD]
  exact ⟨rfl, rfl, rfl⟩
end Go.Proofs.Ytbijefgmleagnaa
