/- Distances, counts (layer 43).
   Conditions: lengths below 1000, as each theorem says. -/
import Derived.Test.YtbijefgmleagnaaSFn3
import Derived.Test.YtbijefgmleagnaaSEd
namespace Sug
open Edit
/-- The distance of two words: only equal ones have 0. -/
def distE (a b : Str) : Int := if a = b then 0 else max 1 ((ed (Go.Proofs.Ytbijefgmleagnaa.chars a) (Go.Proofs.Ytbijefgmleagnaa.chars b) : Nat) : Int)
theorem distE_symm (a b : Str) : distE a b = distE b a := by
  unfold distE
  by_cases h : a = b
  · subst h; rfl
  · rw [if_neg h, if_neg (Ne.symm h), ed_symm]
theorem distE_nonneg (a b : Str) : 0 ≤ distE a b := by
  unfold distE
  split
  · exact Int.le_refl 0
  · omega
theorem distE_zero (a b : Str) : distE a b = 0 ↔ a = b := by
  unfold distE
  split
  · rename_i h; simp [h]
  · rename_i h; simp only [h, iff_false]; omega

/-- The count of a word in a list. -/
def lookE (l : List Ent) (w : Str) : Int := ((l.find? fun e => e.1 == w).map (·.2)).getD 0
def countE (l : List Ent) (w : Str) : Int := if validE l = true then lookE l w else 0

theorem validE_asc {l : List Ent} (h : validE l = true) : ∀ (d i : Nat), i + d + 1 < l.length → slt (l.getD i ([], 0)).1 (l.getD (i + d + 1) ([], 0)).1 = true := by
  have hv := (validE_iff l).1 h
  intro d
  induction d with
  | zero =>
    intro i hi
    have := (hv.1 (i + 1) hi).2
    simpa [upE, -List.getD_eq_getElem?_getD] using this
  | succ d ih =>
    intro i hi
    have h1 := ih i (by omega)
    have h2 := (hv.1 (i + d + 1 + 1) (by omega)).2
    simp only [upE, Nat.add_sub_cancel, Bool.or_eq_true, decide_eq_true_eq] at h2
    rcases h2 with h2 | h2
    · omega
    · exact slt_trans _ _ _ h1 h2
theorem validE_lt {l : List Ent} (h : validE l = true) {i j : Nat} (hij : i < j) (hj : j < l.length) : slt (l.getD i ([], 0)).1 (l.getD j ([], 0)).1 = true := by
  have := validE_asc h (j - i - 1) i (by omega)
  rwa [show i + (j - i - 1) + 1 = j by omega] at this
end Sug
namespace Go.Proofs.Ytbijefgmleagnaa
open Go Go.Am Sug Edit
set_option linter.unusedVariables false

theorem look_at {l : List Ent} {i : Nat} (hi : i < l.length) (hn : ∀ j, j < i → (l.getD j ([], 0)).1 ≠ (l.getD i ([], 0)).1) : lookE l (l.getD i ([], 0)).1 = (l.getD i ([], 0)).2 := by
  induction l generalizing i with
  | nil => simp at hi
  | cons e r ih =>
    cases i with
    | zero => simp [lookE]
    | succ i =>
      have h0 : e.1 ≠ (r.getD i ([], 0)).1 := hn 0 (by omega)
      have hb : (e.1 == (r.getD i ([], 0)).1) = false := by simpa [-List.getD_eq_getElem?_getD] using h0
      have := ih (i := i) (by simpa using hi) (fun j hj => hn (j + 1) (by omega))
      show lookE (e :: r) (r.getD i ([], 0)).1 = (r.getD i ([], 0)).2
      rw [← this]
      unfold lookE
      rw [List.find?_cons, hb]
theorem look_none {l : List Ent} {w : Str} (hn : ∀ j, j < l.length → (l.getD j ([], 0)).1 ≠ w) : lookE l w = 0 := by
  have : l.find? (fun e => e.1 == w) = none := by
    rw [List.find?_eq_none]
    intro e he
    obtain ⟨j, hj, e1⟩ := memD_inv ([], 0) he
    rw [← e1]
    simpa [-List.getD_eq_getElem?_getD] using hn j hj
  rw [lookE, this]
  rfl

theorem ahead_ok (x y : Fnd) (H : List Blk) (T : Toks) : ACall Try.prog 40 [.agg [.str x.1, .int .i64 x.2.1, .int .i64 x.2.2], .agg [.str y.1, .int .i64 y.2.1, .int .i64 y.2.2]] H T (Is (.bool (aheadF x y)) H T) := by
  refine ACall.drop' ?_ (by simp)
  generalize hq : aheadF x y = q
  obtain ⟨s, a, b⟩ := x
  obtain ⟨t, c, d⟩ := y
  unfold aheadF at hq
  simp only at *
  refine acall_enter 5 [] Try.ntmps40 Try.func40 rfl (fun _ _ => Try.call40 _ _) (by simp) (fun HO => ?_)
  refine aw_reg fun K hK => ?_; simp (maxSteps := 1000000) (disch := omega) [-List.getD_eq_getElem?_getD]; refine hK _ ?_; clear hK K
  refine aw_then fun K1 hK1 => ?_
  by_cases h1 : a = c
  · have b1 : (a != c) = false := by simp [h1]
    refine aw_reg fun K hK => ?_; simp (maxSteps := 1000000) (disch := omega) [-List.getD_eq_getElem?_getD, b1, h1]; refine hK _ ?_; clear hK K
    refine aw_if rfl (fun h => absurd h (by simp)) (fun h => ?_)
    refine aw_skip ?_; simp (maxSteps := 1000000) (disch := omega) [-List.getD_eq_getElem?_getD]
    refine hK1 _ ?_; clear hK1
    refine aw_then fun K1 hK1 => ?_
    by_cases h2 : b = d
    · have b2 : (b != d) = false := by simp [h2]
      refine aw_reg fun K hK => ?_; simp (maxSteps := 1000000) (disch := omega) [-List.getD_eq_getElem?_getD, b2, h2]; refine hK _ ?_; clear hK K
      refine aw_if rfl (fun h => absurd h (by simp)) (fun h => ?_)
      refine aw_skip ?_; simp (maxSteps := 1000000) (disch := omega) [-List.getD_eq_getElem?_getD]
      refine hK1 _ ?_; clear hK1
      refine aw_reg fun K hK => ?_; simp (maxSteps := 1000000) (disch := omega) [-List.getD_eq_getElem?_getD]; refine hK _ ?_; clear hK K
      refine aw_ret ?_; simp (maxSteps := 1000000) (disch := omega) [-List.getD_eq_getElem?_getD]
      rw [if_neg (fun hh => hh h1), if_neg (fun hh => hh h2)] at hq
      rw [← hq]
    · have b2 : (b != d) = true := bne_iff_ne.2 h2
      refine aw_reg fun K hK => ?_; simp (maxSteps := 1000000) (disch := omega) [-List.getD_eq_getElem?_getD, b2, h2]; refine hK _ ?_; clear hK K
      refine aw_if rfl (fun h => ?_) (fun h => absurd h (by simp))
      refine aw_reg fun K hK => ?_; simp (maxSteps := 1000000) (disch := omega) [-List.getD_eq_getElem?_getD]; refine hK _ ?_; clear hK K
      refine aw_ret ?_; simp (maxSteps := 1000000) (disch := omega) [-List.getD_eq_getElem?_getD]
      rw [if_neg (fun hh => hh h1), if_pos h2] at hq
      rw [← hq]
  · have b1 : (a != c) = true := bne_iff_ne.2 h1
    refine aw_reg fun K hK => ?_; simp (maxSteps := 1000000) (disch := omega) [-List.getD_eq_getElem?_getD, b1, h1]; refine hK _ ?_; clear hK K
    refine aw_if rfl (fun h => ?_) (fun h => absurd h (by simp))
    refine aw_reg fun K hK => ?_; simp (maxSteps := 1000000) (disch := omega) [-List.getD_eq_getElem?_getD]; refine hK _ ?_; clear hK K
    refine aw_ret ?_; simp (maxSteps := 1000000) (disch := omega) [-List.getD_eq_getElem?_getD]
    rw [if_pos h1] at hq
    rw [← hq]

theorem find1_ok (x : Ent) (w : Str) (H : List Blk) (T : Toks) : ACall Try.prog 47 [.agg [.str x.1, .int .i64 x.2], .str w] H T (Is (.int .i64 (cmpS x.1 w)) H T) := by
  refine ACall.drop' ?_ (by simp)
  have c := fun H T => compS_ok x.1 w H T
  generalize cmpS x.1 w = q at *
  refine acall_enter 5 [] Try.ntmps47 Try.func47 rfl (fun _ _ => Try.call47 _ _) (by simp) (fun HO => ?_)
  refine aw_reg fun K hK => ?_; simp (maxSteps := 1000000) (disch := omega) [-List.getD_eq_getElem?_getD]; refine hK _ ?_; clear hK K
  refine aw_reg fun K hK => ?_; simp (maxSteps := 1000000) (disch := omega) [-List.getD_eq_getElem?_getD]
  refine acall_is (c _ _) ?_; simp (maxSteps := 1000000) (disch := omega) [-List.getD_eq_getElem?_getD]
  refine hK _ ?_; clear hK K
  refine aw_ret ?_; simp (maxSteps := 1000000) (disch := omega) [-List.getD_eq_getElem?_getD]

theorem distR_ok2 (a b : Str) (ha : a.length ≤ 1000) (hb : b.length ≤ 1000) (H : List Blk) (T : Toks) : ACall Try.prog 21 [.str a, .str b] H T (Is (.int .i64 (distE a b)) H T) := by
  have c := textR_ok a b ha hb H T
  generalize hq : distE a b = q
  refine acall_enter 5 [] Try.ntmps21 Try.func21 rfl (fun _ _ => Try.call21 _ _) (by simp) (fun HO => ?_)
  refine aw_reg fun K hK => ?_; simp (maxSteps := 1000000) (disch := omega) [-List.getD_eq_getElem?_getD]; refine hK _ ?_; clear hK K
  refine aw_then fun K1 hK1 => ?_
  by_cases hab : a = b
  · have bb : (a == b) = true := by simp [hab]
    refine aw_reg fun K hK => ?_; simp (maxSteps := 1000000) (disch := omega) [-List.getD_eq_getElem?_getD, bb, hab]; refine hK _ ?_; clear hK K
    refine aw_if rfl (fun h => ?_) (fun h => absurd h (by simp))
    refine aw_reg fun K hK => ?_; simp (maxSteps := 1000000) (disch := omega) [-List.getD_eq_getElem?_getD]; refine hK _ ?_; clear hK K
    refine aw_ret ?_; simp (maxSteps := 1000000) (disch := omega) [-List.getD_eq_getElem?_getD]
    rw [← hq, distE, if_pos hab]
    exact ⟨rfl, rfl, rfl⟩
  · have bb : (a == b) = false := by simpa using hab
    refine aw_reg fun K hK => ?_; simp (maxSteps := 1000000) (disch := omega) [-List.getD_eq_getElem?_getD, bb, hab]; refine hK _ ?_; clear hK K
    refine aw_if rfl (fun h => absurd h (by simp)) (fun h => ?_)
    refine aw_skip ?_; simp (maxSteps := 1000000) (disch := omega) [-List.getD_eq_getElem?_getD]
    refine hK1 _ ?_; clear hK1
    unfold distE at hq
    rw [if_neg hab] at hq
    generalize ed (chars a) (chars b) = m at *
    refine aw_reg fun K hK => ?_; simp (maxSteps := 1000000) (disch := omega) [-List.getD_eq_getElem?_getD]
    refine acall_is (c) ?_; simp (maxSteps := 1000000) (disch := omega) [-List.getD_eq_getElem?_getD]
    refine hK _ ?_; clear hK K
    refine aw_ret ?_; simp (maxSteps := 1000000) (disch := omega) [-List.getD_eq_getElem?_getD]
    rw [← hq]
    exact ⟨by rw [Int.max_comm], rfl, rfl⟩
end Go.Proofs.Ytbijefgmleagnaa
