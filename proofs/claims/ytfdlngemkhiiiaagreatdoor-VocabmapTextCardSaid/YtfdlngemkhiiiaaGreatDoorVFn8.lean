/- The reference's inverse; the mappings of a term; the reference's text (layer 26).
   Conditions: lengths below 2^20, as each theorem says. -/
import Derived.Test.YtfdlngemkhiiiaaGreatDoorVLn
namespace Voc
/-- The mappings of a term among the first ones. -/
def trT (v : Bool) (l : List Mp) (id : Int) (i : Nat) : List Mp := if v = true then (l.take i).filter fun x => x.1 == id else []
theorem trT_zero (v : Bool) (l : List Mp) (id : Int) : trT v l id 0 = [] := by unfold trT; split <;> simp
theorem trT_off (l : List Mp) (id : Int) (i : Nat) : trT false l id i = [] := rfl
theorem trT_yes {l : List Mp} {id : Int} {i : Nat} (h : i < l.length) (he : (l.getD i d0).1 = id) : trT true l id (i + 1) = trT true l id i ++ [l.getD i d0] := by
  unfold trT
  rw [if_pos rfl, if_pos rfl, take_succD d0 h, List.filter_append]
  congr 1
  simp [he, -List.getD_eq_getElem?_getD]
theorem trT_no {l : List Mp} {id : Int} {i : Nat} (h : i < l.length) (he : (l.getD i d0).1 ≠ id) : trT true l id (i + 1) = trT true l id i := by
  unfold trT
  rw [if_pos rfl, if_pos rfl, take_succD d0 h, List.filter_append]
  simp [he, -List.getD_eq_getElem?_getD]
theorem trT_le (v : Bool) (l : List Mp) (id : Int) (i : Nat) : (trT v l id i).length ≤ l.length := by
  unfold trT
  split
  · exact Nat.le_trans (List.length_filter_le _ _) (by rw [List.length_take]; omega)
  · simp
end Voc
namespace Go.Proofs.YtfdlngemkhiiiaaGreatDoor
open Go Go.Am Go.Shelf Voc
set_option linter.unusedVariables false

theorem few_ok (l : List Mp) (H : List Blk) (T : Toks) (tg : Tag) : ACall Tryz.prog 5 [.sl l.length (mpAV l) tg] H T (Is (.bool (decide (l.length ≤ 12) || decide (499 ≤ l.length) && decide (l.length ≤ 502))) H T) := by
  refine ACall.untag1 ?_
  by_cases h1 : l.length ≤ 12
  · have b1 : decide ((l.length : Int) ≤ 12) = true := decide_eq_true (by omega)
    rw [decide_eq_true h1]
    refine acall_enter 3 [] Tryz.ntmps5 Tryz.func5 rfl (fun _ _ => Tryz.call5 _ _) (by simp) (fun HO => ?_)
    refine aw_reg fun K hK => ?_; simp (maxSteps := 1000000) (disch := omega) [-List.getD_eq_getElem?_getD]; refine hK _ ?_; clear hK K
    refine aw_reg fun K hK => ?_; simp (maxSteps := 1000000) (disch := omega) [-List.getD_eq_getElem?_getD, b1, h1]; refine hK _ ?_; clear hK K
    refine aw_ret ?_; simp (maxSteps := 1000000) (disch := omega) [-List.getD_eq_getElem?_getD]
    exact ⟨rfl, rfl, rfl⟩
  · have b1 : decide ((l.length : Int) ≤ 12) = false := decide_eq_false (by omega)
    rw [decide_eq_false h1]
    by_cases h2 : 499 ≤ l.length
    · have b2 : decide ((499 : Int) ≤ l.length) = true := decide_eq_true (by omega)
      rw [decide_eq_true h2]
      have b3 : decide ((l.length : Int) ≤ 502) = decide (l.length ≤ 502) := by rw [decide_eq_decide]; omega
      generalize hq : decide (l.length ≤ 502) = q at *
      refine acall_enter 3 [] Tryz.ntmps5 Tryz.func5 rfl (fun _ _ => Tryz.call5 _ _) (by simp) (fun HO => ?_)
      refine aw_reg fun K hK => ?_; simp (maxSteps := 1000000) (disch := omega) [-List.getD_eq_getElem?_getD]; refine hK _ ?_; clear hK K
      refine aw_reg fun K hK => ?_; simp (maxSteps := 1000000) (disch := omega) [-List.getD_eq_getElem?_getD, b1, h1, b2, h2, b3, hq]; refine hK _ ?_; clear hK K
      refine aw_ret ?_; simp (maxSteps := 1000000) (disch := omega) [-List.getD_eq_getElem?_getD]
      exact ⟨rfl, rfl, rfl⟩
    · have b2 : decide ((499 : Int) ≤ l.length) = false := decide_eq_false (by omega)
      rw [decide_eq_false h2]
      refine acall_enter 3 [] Tryz.ntmps5 Tryz.func5 rfl (fun _ _ => Tryz.call5 _ _) (by simp) (fun HO => ?_)
      refine aw_reg fun K hK => ?_; simp (maxSteps := 1000000) (disch := omega) [-List.getD_eq_getElem?_getD]; refine hK _ ?_; clear hK K
      refine aw_reg fun K hK => ?_; simp (maxSteps := 1000000) (disch := omega) [-List.getD_eq_getElem?_getD, b1, h1, b2, h2]; refine hK _ ?_; clear hK K
      refine aw_ret ?_; simp (maxSteps := 1000000) (disch := omega) [-List.getD_eq_getElem?_getD]
      exact ⟨rfl, rfl, rfl⟩






end Go.Proofs.YtfdlngemkhiiiaaGreatDoor
