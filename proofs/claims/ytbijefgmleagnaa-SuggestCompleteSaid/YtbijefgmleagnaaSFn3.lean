/- Comparing (layer 43).
   Conditions: none. -/
import Derived.Test.YtbijefgmleagnaaSSort
import Derived.Test.YtbijefgmleagnaaSFn2
namespace Sug
def cmpI (x y : Int) : Int := if x < y then -1 else if y < x then 1 else 0
def cmpS (a b : Str) : Int := if slt a b = true then -1 else if slt b a = true then 1 else 0
def cfF (x y : Fnd) : Int := if cmpI x.2.1 y.2.1 ≠ 0 then cmpI x.2.1 y.2.1 else if cmpI y.2.2 x.2.2 ≠ 0 then cmpI y.2.2 x.2.2 else cmpS x.1 y.1
/-- A near word comes ahead of another one. -/
def aheadF (x y : Fnd) : Bool := if x.2.1 ≠ y.2.1 then decide (x.2.1 < y.2.1) else if x.2.2 ≠ y.2.2 then decide (y.2.2 < x.2.2) else slt x.1 y.1
theorem cmpI_zero (x y : Int) : cmpI x y = 0 ↔ x = y := by unfold cmpI; split <;> (try split) <;> omega
theorem cmpI_neg (x y : Int) : cmpI x y < 0 ↔ x < y := by unfold cmpI; split <;> (try split) <;> omega
theorem cmpS_neg (a b : Str) : cmpS a b < 0 ↔ slt a b = true := by
  unfold cmpS
  split
  · rename_i h; simp [h]
  · rename_i h; split <;> simp [h]
theorem cmpS_gt (a b : Str) : slt b a = (!(slt a b || a == b)) := by
  cases h1 : slt a b with
  | true => rw [slt_asymm _ _ h1]; rfl
  | false =>
    cases h2 : slt b a with
    | true => have := slt_ne h2; simp [Ne.symm this]
    | false => rw [slt_total _ _ h1 h2]; simp
theorem cfF_neg (x y : Fnd) : decide (cfF x y < 0) = aheadF x y := by
  obtain ⟨s, a, b⟩ := x
  obtain ⟨t, c, d⟩ := y
  have z : ∀ u : Int, cmpI u u = 0 := fun u => (cmpI_zero u u).2 rfl
  unfold cfF aheadF
  simp only
  by_cases h1 : a = c
  · subst h1
    simp only [z, ne_eq, not_true_eq_false, if_false]
    by_cases h2 : b = d
    · subst h2
      simp only [z, not_true_eq_false, if_false]
      cases h : slt s t with
      | true => exact decide_eq_true ((cmpS_neg _ _).2 h)
      | false => exact decide_eq_false (fun hh => by rw [(cmpS_neg _ _).1 hh] at h; cases h)
    · have h3 : ¬ cmpI d b = 0 := fun e => h2 ((cmpI_zero _ _).1 e).symm
      simp only [h2, h3, not_false_eq_true, if_true]
      rw [decide_eq_decide, cmpI_neg]
  · have h3 : ¬ cmpI a c = 0 := fun e => h1 ((cmpI_zero _ _).1 e)
    simp only [h1, h3, ne_eq, not_false_eq_true, if_true]
    rw [decide_eq_decide, cmpI_neg]
end Sug
namespace Go.Proofs.Ytbijefgmleagnaa
open Go Go.Am Sug
set_option linter.unusedVariables false

theorem compI_ok (x y : Int) (H : List Blk) (T : Toks) : ACall Try.prog 38 [.int .i64 x, .int .i64 y] H T (Is (.int .i64 (cmpI x y)) H T) := by
  have n1 : ∀ z, ACall Try.prog 50 [.int .i64 z] H T (Is (.bool false) H T) := fun z => by
    refine acall_enter 3 [] Try.ntmps50 Try.func50 rfl (fun _ _ => Try.call50 _ _) (by simp) (fun HO => ?_)
    refine aw_reg fun K hK => ?_; simp (maxSteps := 1000000) (disch := omega) [-List.getD_eq_getElem?_getD]; refine hK _ ?_; clear hK K
    refine aw_reg fun K hK => ?_; simp (maxSteps := 1000000) (disch := omega) [-List.getD_eq_getElem?_getD]; refine hK _ ?_; clear hK K
    refine aw_ret ?_; simp (maxSteps := 1000000) (disch := omega) [-List.getD_eq_getElem?_getD]
    exact ⟨rfl, rfl, rfl⟩
  generalize hq : cmpI x y = q
  refine acall_enter 7 [] Try.ntmps38 Try.func38 rfl (fun _ _ => Try.call38 _ _) (by simp) (fun HO => ?_)
  refine aw_reg fun K hK => ?_; simp (maxSteps := 1000000) (disch := omega) [-List.getD_eq_getElem?_getD]; refine hK _ ?_; clear hK K
  refine aw_reg fun K hK => ?_; simp (maxSteps := 1000000) (disch := omega) [-List.getD_eq_getElem?_getD]
  refine acall_is (n1 x) ?_; simp (maxSteps := 1000000) (disch := omega) [-List.getD_eq_getElem?_getD]
  refine hK _ ?_; clear hK K
  refine aw_reg fun K hK => ?_; simp (maxSteps := 1000000) (disch := omega) [-List.getD_eq_getElem?_getD]
  refine acall_is (n1 y) ?_; simp (maxSteps := 1000000) (disch := omega) [-List.getD_eq_getElem?_getD]
  refine hK _ ?_; clear hK K
  refine aw_then fun K1 hK1 => ?_
  refine aw_reg fun K hK => ?_; simp (maxSteps := 1000000) (disch := omega) [-List.getD_eq_getElem?_getD]; refine hK _ ?_; clear hK K
  refine aw_if rfl (fun h => absurd h (by simp)) (fun h => ?_)
  refine aw_skip ?_; simp (maxSteps := 1000000) (disch := omega) [-List.getD_eq_getElem?_getD]
  refine hK1 _ ?_; clear hK1
  refine aw_then fun K1 hK1 => ?_
  refine aw_reg fun K hK => ?_; simp (maxSteps := 1000000) (disch := omega) [-List.getD_eq_getElem?_getD]; refine hK _ ?_; clear hK K
  refine aw_if rfl (fun h => absurd h (by simp)) (fun h => ?_)
  refine aw_skip ?_; simp (maxSteps := 1000000) (disch := omega) [-List.getD_eq_getElem?_getD]
  refine hK1 _ ?_; clear hK1
  refine aw_then fun K1 hK1 => ?_
  by_cases h1 : x < y
  · have b1 : decide (x < y) = true := decide_eq_true h1
    refine aw_reg fun K hK => ?_; simp (maxSteps := 1000000) (disch := omega) [-List.getD_eq_getElem?_getD, b1, h1]; refine hK _ ?_; clear hK K
    refine aw_if rfl (fun h => ?_) (fun h => absurd h (by simp))
    refine aw_reg fun K hK => ?_; simp (maxSteps := 1000000) (disch := omega) [-List.getD_eq_getElem?_getD]; refine hK _ ?_; clear hK K
    refine aw_ret ?_; simp (maxSteps := 1000000) (disch := omega) [-List.getD_eq_getElem?_getD]
    rw [← hq, cmpI, if_pos h1]
    exact ⟨rfl, rfl, rfl⟩
  · have b1 : decide (x < y) = false := decide_eq_false h1
    refine aw_reg fun K hK => ?_; simp (maxSteps := 1000000) (disch := omega) [-List.getD_eq_getElem?_getD, b1, h1]; refine hK _ ?_; clear hK K
    refine aw_if rfl (fun h => absurd h (by simp)) (fun h => ?_)
    refine aw_skip ?_; simp (maxSteps := 1000000) (disch := omega) [-List.getD_eq_getElem?_getD]
    refine hK1 _ ?_; clear hK1
    refine aw_then fun K1 hK1 => ?_
    by_cases h2 : y < x
    · have b2 : decide (y < x) = true := decide_eq_true h2
      refine aw_reg fun K hK => ?_; simp (maxSteps := 1000000) (disch := omega) [-List.getD_eq_getElem?_getD, b2, h2]; refine hK _ ?_; clear hK K
      refine aw_if rfl (fun h => ?_) (fun h => absurd h (by simp))
      refine aw_reg fun K hK => ?_; simp (maxSteps := 1000000) (disch := omega) [-List.getD_eq_getElem?_getD]; refine hK _ ?_; clear hK K
      refine aw_ret ?_; simp (maxSteps := 1000000) (disch := omega) [-List.getD_eq_getElem?_getD]
      rw [← hq, cmpI, if_neg h1, if_pos h2]
      exact ⟨rfl, rfl, rfl⟩
    · have b2 : decide (y < x) = false := decide_eq_false h2
      refine aw_reg fun K hK => ?_; simp (maxSteps := 1000000) (disch := omega) [-List.getD_eq_getElem?_getD, b2, h2]; refine hK _ ?_; clear hK K
      refine aw_if rfl (fun h => absurd h (by simp)) (fun h => ?_)
      refine aw_skip ?_; simp (maxSteps := 1000000) (disch := omega) [-List.getD_eq_getElem?_getD]
      refine hK1 _ ?_; clear hK1
      refine aw_reg fun K hK => ?_; simp (maxSteps := 1000000) (disch := omega) [-List.getD_eq_getElem?_getD]; refine hK _ ?_; clear hK K
      refine aw_ret ?_; simp (maxSteps := 1000000) (disch := omega) [-List.getD_eq_getElem?_getD]
      rw [← hq, cmpI, if_neg h1, if_neg h2]
      exact ⟨rfl, rfl, rfl⟩

theorem compS_ok (x y : Str) (H : List Blk) (T : Toks) : ACall Try.prog 39 [.str x, .str y] H T (Is (.int .i64 (cmpS x y)) H T) := by
  have n1 : ∀ z, ACall Try.prog 51 [.str z] H T (Is (.bool false) H T) := fun z => by
    refine acall_enter 3 [] Try.ntmps51 Try.func51 rfl (fun _ _ => Try.call51 _ _) (by simp) (fun HO => ?_)
    refine aw_reg fun K hK => ?_; simp (maxSteps := 1000000) (disch := omega) [-List.getD_eq_getElem?_getD]; refine hK _ ?_; clear hK K
    refine aw_reg fun K hK => ?_; simp (maxSteps := 1000000) (disch := omega) [-List.getD_eq_getElem?_getD]; refine hK _ ?_; clear hK K
    refine aw_ret ?_; simp (maxSteps := 1000000) (disch := omega) [-List.getD_eq_getElem?_getD]
    exact ⟨rfl, rfl, rfl⟩
  have hgt := cmpS_gt x y
  generalize hq : cmpS x y = q
  refine acall_enter 7 [] Try.ntmps39 Try.func39 rfl (fun _ _ => Try.call39 _ _) (by simp) (fun HO => ?_)
  refine aw_reg fun K hK => ?_; simp (maxSteps := 1000000) (disch := omega) [-List.getD_eq_getElem?_getD]; refine hK _ ?_; clear hK K
  refine aw_reg fun K hK => ?_; simp (maxSteps := 1000000) (disch := omega) [-List.getD_eq_getElem?_getD]
  refine acall_is (n1 x) ?_; simp (maxSteps := 1000000) (disch := omega) [-List.getD_eq_getElem?_getD]
  refine hK _ ?_; clear hK K
  refine aw_reg fun K hK => ?_; simp (maxSteps := 1000000) (disch := omega) [-List.getD_eq_getElem?_getD]
  refine acall_is (n1 y) ?_; simp (maxSteps := 1000000) (disch := omega) [-List.getD_eq_getElem?_getD]
  refine hK _ ?_; clear hK K
  refine aw_then fun K1 hK1 => ?_
  refine aw_reg fun K hK => ?_; simp (maxSteps := 1000000) (disch := omega) [-List.getD_eq_getElem?_getD]; refine hK _ ?_; clear hK K
  refine aw_if rfl (fun h => absurd h (by simp)) (fun h => ?_)
  refine aw_skip ?_; simp (maxSteps := 1000000) (disch := omega) [-List.getD_eq_getElem?_getD]
  refine hK1 _ ?_; clear hK1
  refine aw_then fun K1 hK1 => ?_
  refine aw_reg fun K hK => ?_; simp (maxSteps := 1000000) (disch := omega) [-List.getD_eq_getElem?_getD]; refine hK _ ?_; clear hK K
  refine aw_if rfl (fun h => absurd h (by simp)) (fun h => ?_)
  refine aw_skip ?_; simp (maxSteps := 1000000) (disch := omega) [-List.getD_eq_getElem?_getD]
  refine hK1 _ ?_; clear hK1
  refine aw_then fun K1 hK1 => ?_
  unfold slt at hgt
  cases h1 : Op.bytesLess x y with
  | true =>
    refine aw_reg fun K hK => ?_; simp (maxSteps := 1000000) (disch := omega) [-List.getD_eq_getElem?_getD, h1]; refine hK _ ?_; clear hK K
    refine aw_if rfl (fun h => ?_) (fun h => absurd h (by simp))
    refine aw_reg fun K hK => ?_; simp (maxSteps := 1000000) (disch := omega) [-List.getD_eq_getElem?_getD]; refine hK _ ?_; clear hK K
    refine aw_ret ?_; simp (maxSteps := 1000000) (disch := omega) [-List.getD_eq_getElem?_getD]
    rw [← hq, cmpS, if_pos h1]
    exact ⟨rfl, rfl, rfl⟩
  | false =>
    refine aw_reg fun K hK => ?_; simp (maxSteps := 1000000) (disch := omega) [-List.getD_eq_getElem?_getD, h1]; refine hK _ ?_; clear hK K
    refine aw_if rfl (fun h => absurd h (by simp)) (fun h => ?_)
    refine aw_skip ?_; simp (maxSteps := 1000000) (disch := omega) [-List.getD_eq_getElem?_getD]
    refine hK1 _ ?_; clear hK1
    refine aw_then fun K1 hK1 => ?_
    rw [h1, Bool.false_or] at hgt
    cases h2 : (x == y) with
    | false =>
      rw [h2] at hgt
      refine aw_reg fun K hK => ?_; simp (maxSteps := 1000000) (disch := omega) [-List.getD_eq_getElem?_getD, h1, h2]; refine hK _ ?_; clear hK K
      refine aw_if rfl (fun h => ?_) (fun h => absurd h (by simp))
      refine aw_reg fun K hK => ?_; simp (maxSteps := 1000000) (disch := omega) [-List.getD_eq_getElem?_getD]; refine hK _ ?_; clear hK K
      refine aw_ret ?_; simp (maxSteps := 1000000) (disch := omega) [-List.getD_eq_getElem?_getD]
      rw [← hq, cmpS, if_neg (by simp [slt, h1]), if_pos (show slt y x = true from hgt)]
      exact ⟨rfl, rfl, rfl⟩
    | true =>
      rw [h2] at hgt
      refine aw_reg fun K hK => ?_; simp (maxSteps := 1000000) (disch := omega) [-List.getD_eq_getElem?_getD, h1, h2]; refine hK _ ?_; clear hK K
      refine aw_if rfl (fun h => absurd h (by simp)) (fun h => ?_)
      refine aw_skip ?_; simp (maxSteps := 1000000) (disch := omega) [-List.getD_eq_getElem?_getD]
      refine hK1 _ ?_; clear hK1
      refine aw_reg fun K hK => ?_; simp (maxSteps := 1000000) (disch := omega) [-List.getD_eq_getElem?_getD]; refine hK _ ?_; clear hK K
      refine aw_ret ?_; simp (maxSteps := 1000000) (disch := omega) [-List.getD_eq_getElem?_getD]
      rw [← hq, cmpS, if_neg (by simp [slt, h1]), if_neg (by simp [slt, hgt])]
      exact ⟨rfl, rfl, rfl⟩

def orI : List Int → Int
  | [] => 0
  | x :: r => if x = 0 then orI r else x

theorem orI_skip : ∀ (l : List Int) (k : Nat), (∀ j, j < k → l.getD j 0 = 0) → k ≤ l.length → orI l = orI (l.drop k) := by
  intro l
  induction l with
  | nil => intro k _ _; simp
  | cons x r ih =>
    intro k h hk
    cases k with
    | zero => rfl
    | succ k =>
      have h0 : x = 0 := h 0 (by omega)
      rw [orI, if_pos h0, ih k (fun j hj => h (j + 1) (by omega)) (by simpa using hk)]
      rfl

theorem or_ok (l : List Int) (hl : l.length ≤ 1000) (H : List Blk) (T : Toks) (tg : Tag) : ACall Try.prog 37 [.sl l.length (ints l) tg] H T (Is (.int .i64 (orI l)) H T) := by
  refine ACall.untag1 ?_
  generalize hq : orI l = q
  refine acall_enter 9 [] Try.ntmps37 Try.func37 rfl (fun _ _ => Try.call37 _ _) (by simp) (fun HO => ?_)
  refine aw_reg fun K hK => ?_; simp (maxSteps := 1000000) (disch := omega) [-List.getD_eq_getElem?_getD]; refine hK _ ?_; clear hK K
  refine aw_reg fun K hK => ?_; simp (maxSteps := 1000000) (disch := omega) [-List.getD_eq_getElem?_getD]; refine hK _ ?_; clear hK K
  refine aw_then fun K1 hK1 => ?_
  refine aw_reg fun K hK => ?_; simp (maxSteps := 1000000) (disch := omega) [-List.getD_eq_getElem?_getD]; refine hK _ ?_; clear hK K
  refine aw_block ?_
  refine aw_loop (X := Nat) (fun k => ⟨[(0, .sl l.length (ints l) .none), (3, .int .i64 0), (6, .sl l.length (ints l) .none), (7, .int .i64 (l.length : Nat)), (8, .int .i64 (k : Nat))], H, T⟩) (fun k => k ≤ l.length ∧ ∀ j, j < k → l.getD j 0 = 0) (fun k => l.length - k) 0 ?_ ?_ ?_
  · exact ⟨Nat.zero_le _, fun j hj => absurd hj (Nat.not_lt_zero _)⟩
  · refine weak_to [] [] ?_ ?_ ?_ ?_ HO ?_
    all_goals simp
  · rintro k ⟨h1, h2⟩
    refine aw_reg fun K hK => ?_; simp (maxSteps := 1000000) (disch := omega) [-List.getD_eq_getElem?_getD]; refine hK _ ?_; clear hK K
    refine aw_then fun K2 hK2 => ?_
    refine aw_if rfl (fun hk => ?_) (fun hk => ?_)
    · simp [-List.getD_eq_getElem?_getD] at hk
      have hg := getD_ints (xs := l) (k := k) hk
      have hd : orI l = orI (l.getD k 0 :: l.drop (k + 1)) := by
        rw [orI_skip l k h2 (by omega), List.drop_eq_getElem_cons hk, List.getD_eq_getElem?_getD, List.getElem?_eq_getElem hk]
        rfl
      refine aw_skip ?_; simp (maxSteps := 1000000) (disch := omega) [-List.getD_eq_getElem?_getD]
      refine hK2 _ ?_; clear hK2
      refine aw_then fun K3 hK3 => ?_
      refine aw_block ?_
      refine aw_reg fun K hK => ?_; simp (maxSteps := 1000000) (disch := omega) [-List.getD_eq_getElem?_getD, hg]; refine hK _ ?_; clear hK K
      by_cases hc : l.getD k 0 = 0
      · have b : (l.getD k 0 != 0) = false := by rw [hc]; rfl
        refine aw_reg fun K hK => ?_; simp (maxSteps := 1000000) (disch := omega) [-List.getD_eq_getElem?_getD, b, hc]; refine hK _ ?_; clear hK K
        refine aw_if rfl (fun h => absurd h (by simp)) (fun h => ?_)
        refine aw_skip ?_; simp (maxSteps := 1000000) (disch := omega) [-List.getD_eq_getElem?_getD]
        refine hK3 _ ?_; clear hK3
        refine aw_reg0 fun K hK => ?_; simp (maxSteps := 1000000) (disch := omega) [-List.getD_eq_getElem?_getD]
        refine hK _ ?_; clear hK K
        refine ⟨k + 1, ⟨by show k + 1 ≤ _; omega, fun j hj => ?_⟩, by show l.length - (k + 1) < l.length - k; omega, ?_⟩
        · rcases Nat.lt_or_ge j k with h3 | h3
          · exact h2 j h3
          · have : j = k := by omega
            subst this; exact hc
        · refine weak_to [] [] ?_ ?_ ?_ ?_ HO ?_
          all_goals simp
      · have b : (l.getD k 0 != 0) = true := bne_iff_ne.2 hc
        refine aw_reg fun K hK => ?_; simp (maxSteps := 1000000) (disch := omega) [-List.getD_eq_getElem?_getD, b, hc]; refine hK _ ?_; clear hK K
        refine aw_if rfl (fun h => ?_) (fun h => absurd h (by simp))
        refine aw_reg fun K hK => ?_; simp (maxSteps := 1000000) (disch := omega) [-List.getD_eq_getElem?_getD]; refine hK _ ?_; clear hK K
        refine aw_ret ?_; simp (maxSteps := 1000000) (disch := omega) [-List.getD_eq_getElem?_getD]
        rw [← hq, hd, orI, if_neg hc]
        exact ⟨rfl, rfl, rfl⟩
    · simp [-List.getD_eq_getElem?_getD] at hk
      have e : k = l.length := by omega
      subst e
      refine aw_exit ?_; simp (maxSteps := 1000000) (disch := omega) [-List.getD_eq_getElem?_getD]
      refine hK1 _ ?_; clear hK1
      refine aw_reg fun K hK => ?_; simp (maxSteps := 1000000) (disch := omega) [-List.getD_eq_getElem?_getD]; refine hK _ ?_; clear hK K
      refine aw_ret ?_; simp (maxSteps := 1000000) (disch := omega) [-List.getD_eq_getElem?_getD]
      rw [← hq, orI_skip l l.length h2 (Nat.le_refl _), List.drop_length]
      exact ⟨rfl, rfl, rfl⟩

theorem cmpF_ok (x y : Fnd) : ACall Try.prog 36 [.agg (encFA x), .agg (encFA y)] [] [] (Is (.int .i64 (cfF x y)) [] []) := by
  refine ACall.drop' ?_ (by simp)
  have hor : cfF x y = orI [cmpI x.2.1 y.2.1, cmpI y.2.2 x.2.2, cmpS x.1 y.1] := by
    unfold cfF
    simp only [orI, ne_eq, ite_not]
    split
    · split
      · split
        · rename_i h; rw [h]
        · rfl
      · rfl
    · rfl
  rw [hor]
  have c1 := fun H T => compI_ok x.2.1 y.2.1 H T
  have c2 := fun H T => compI_ok y.2.2 x.2.2 H T
  have c3 := fun H T => compS_ok x.1 y.1 H T
  generalize cmpI x.2.1 y.2.1 = a at *
  generalize cmpI y.2.2 x.2.2 = b at *
  generalize cmpS x.1 y.1 = c at *
  have c4 := fun H T => or_ok [a, b, c] (by simp) H T
  obtain ⟨x1, x2, x3⟩ := x
  obtain ⟨y1, y2, y3⟩ := y
  simp only [encFA] at *
  refine acall_enter 5 [] Try.ntmps36 Try.func36 rfl (fun _ _ => Try.call36 _ _) (by simp) (fun HO => ?_)
  refine aw_reg fun K hK => ?_; simp (maxSteps := 1000000) (disch := omega) [-List.getD_eq_getElem?_getD]; refine hK _ ?_; clear hK K
  refine aw_draw [] [] [] drawMixed (by kernel_rfl) (by kernel_rfl) fun K hK => ?_; simp (maxSteps := 1000000) (disch := omega) [-List.getD_eq_getElem?_getD]
  refine dcall_is (c1 _ _) rfl ?_; simp (maxSteps := 1000000) (disch := omega) [-List.getD_eq_getElem?_getD]
  refine dcall_is (c2 _ _) rfl ?_; simp (maxSteps := 1000000) (disch := omega) [-List.getD_eq_getElem?_getD]
  refine dcall_is (c3 _ _) rfl ?_; simp (maxSteps := 1000000) (disch := omega) [-List.getD_eq_getElem?_getD]
  refine dcall_is (c4 _ _ _) rfl ?_; simp (maxSteps := 1000000) (disch := omega) [-List.getD_eq_getElem?_getD]
  refine hK _ ?_; clear hK K
  refine aw_ret ?_; simp (maxSteps := 1000000) (disch := omega) [-List.getD_eq_getElem?_getD]
end Go.Proofs.Ytbijefgmleagnaa
