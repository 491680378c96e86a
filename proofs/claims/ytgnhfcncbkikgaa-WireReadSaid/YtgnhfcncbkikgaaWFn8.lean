/- Comparisons of lists of layer 1, and small readers of the reference.
   Conditions: lengths below 2^40. -/
import Derived.Test.YtgnhfcncbkikgaaWFn3
namespace Go.Proofs.Ytgnhfcncbkikgaa
open Go Go.Am Wire
set_option linter.unusedVariables false

def few (l : List (List UInt8)) (n m : Int) : Bool := decide (∀ x ∈ l, (x.length : Int) ≤ m) && decide ((l.length : Int) ≤ n)

theorem few_at {l : List (List UInt8)} {n m : Int} {i : Nat} (hi : i < l.length) (h : ¬ ((l.getD i []).length : Int) ≤ m) : few l n m = false := by
  have : ¬ ∀ x ∈ l, (x.length : Int) ≤ m := fun k => h (k _ (getD_mem l i [] hi))
  simp [few, this]

theorem few_ok (l : List (List UInt8)) (n m : Int) (hl : l.length ≤ maxLen) (hx : ∀ x ∈ l, x.length ≤ maxLen) (H : List Blk) (T : Toks) : ACall Try.prog 27 [.sl l.length (strs l) .none, .int .i64 n, .int .i64 m] H T (Is (.bool (few l n m)) H T) := by
  have hml : maxLen ≤ 9223372036854775807 := by decide
  have hl' := Nat.le_trans hl hml
  refine acall_enter 8 [] Try.ntmps27 Try.func27 rfl (fun _ _ => Try.call27 _ _) (by simp) (fun HO => ?_)
  refine aw_reg fun K hK => ?_; simp (maxSteps := 200000) (disch := omega) [-List.getD_eq_getElem?_getD]; refine hK _ ?_; clear hK K
  refine aw_then fun K1 hK1 => ?_
  refine aw_reg fun K hK => ?_; simp (maxSteps := 200000) (disch := omega) [-List.getD_eq_getElem?_getD]; refine hK _ ?_; clear hK K
  refine aw_block ?_
  refine aw_loop (X := Nat) (fun i => ⟨[(0, .sl l.length (strs l) .none), (1, .int .i64 n), (2, .int .i64 m), (7, .int .i64 (i : Nat))], H, T⟩) (fun i => i ≤ l.length ∧ ∀ j, j < i → ((l.getD j []).length : Int) ≤ m) (fun i => l.length - i) 0 ?_ ?_ ?_
  · exact ⟨by omega, fun j hj => by omega⟩
  · refine weak_to [] [] ?_ ?_ ?_ ?_ ?_ ?_
    · simp
    · simp
    · simp
    · simp
    · exact HO
    · simp
  · rintro i ⟨hi, hj⟩
    refine aw_then fun K2 hK2 => ?_
    refine aw_reg fun K hK => ?_; simp (maxSteps := 200000) (disch := omega) [-List.getD_eq_getElem?_getD]; refine hK _ ?_; clear hK K
    refine aw_if rfl (fun h => ?_) (fun h => ?_)
    · simp [-List.getD_eq_getElem?_getD] at h
      have hxl := Nat.le_trans (hx _ (getD_mem l i [] h)) hml
      refine aw_skip ?_; simp (maxSteps := 200000) (disch := omega) [-List.getD_eq_getElem?_getD]
      refine hK2 _ ?_; clear hK2
      refine aw_then fun K3 hK3 => ?_
      refine aw_block ?_
      refine aw_reg fun K hK => ?_; simp (maxSteps := 200000) (disch := omega) [-List.getD_eq_getElem?_getD, getD_strs h]; refine hK _ ?_; clear hK K
      refine aw_if rfl (fun h => ?_) (fun h => ?_)
      · simp [-List.getD_eq_getElem?_getD] at h
        refine aw_reg fun K hK => ?_; simp (maxSteps := 200000) (disch := omega) [-List.getD_eq_getElem?_getD]; refine hK _ ?_; clear hK K
        refine aw_ret ?_; simp (maxSteps := 200000) (disch := omega) [-List.getD_eq_getElem?_getD]
        rw [few_at (by omega) (by omega)]
        exact ⟨rfl, rfl, rfl⟩
      · simp [-List.getD_eq_getElem?_getD] at h
        refine aw_skip ?_; simp (maxSteps := 200000) (disch := omega) [-List.getD_eq_getElem?_getD]
        refine hK3 _ ?_; clear hK3
        refine aw_reg0 fun K hK => ?_; simp (maxSteps := 200000) (disch := omega) [-List.getD_eq_getElem?_getD]
        refine hK _ ?_; clear hK K
        refine ⟨i + 1, ⟨by omega, fun j hj' => ?_⟩, by omega, ?_⟩
        · rcases Nat.lt_or_ge j i with h1 | h1
          · exact hj j h1
          · have : j = i := by omega
            subst this; omega
        · refine weak_to [] [] ?_ ?_ ?_ ?_ ?_ ?_
          · simp
          · simp
          · simp
          · simp
          · exact HO
          · simp
    · simp [-List.getD_eq_getElem?_getD] at h
      refine aw_exit ?_; simp (maxSteps := 200000) (disch := omega) [-List.getD_eq_getElem?_getD]
      refine hK1 _ ?_; clear hK1
      refine aw_reg fun K hK => ?_; simp (maxSteps := 200000) (disch := omega) [-List.getD_eq_getElem?_getD]; refine hK _ ?_; clear hK K
      refine aw_ret ?_; simp (maxSteps := 200000) (disch := omega) [-List.getD_eq_getElem?_getD]
      refine ⟨?_, rfl, rfl⟩
      have : ∀ x ∈ l, (x.length : Int) ≤ m := by
        intro x hx'
        obtain ⟨j, hj1, rfl⟩ := List.mem_iff_getElem.1 hx'
        have := hj j (by omega)
        rwa [List.getD_eq_getElem?_getD, List.getElem?_eq_getElem hj1] at this
      have h3 : decide (∀ x ∈ l, (x.length : Int) ≤ m) = true := by simpa using this
      simp only [few, h3, Bool.true_and]
end Go.Proofs.Ytgnhfcncbkikgaa
