/- Words, dictionaries, copies of lists (layer 43).
   Conditions: lengths below 1000, as each theorem says. -/
import Derived.Test.YtbijefgmleagnaaSPl
namespace Go.Proofs.Ytbijefgmleagnaa
open Go Go.Am Sug
set_option linter.unusedVariables false

theorem drawMixed : Try.prog.follows .mixedOrders = true := by kernel_rfl

theorem okW_bad {s : Str} {k : Nat} (hk : k < s.length) (h : (s.getD k 0).toNat ≤ 32) : okW s = false := by
  have hm := memD s k 0 hk
  have : s.all (fun c => decide (32 < c.toNat)) = false := by
    rw [List.all_eq_false]
    exact ⟨_, hm, by simp only [decide_eq_true_eq]; omega⟩
  simp only [okW, this, Bool.false_and]
theorem okW_good {s : Str} (h : ∀ j, j < s.length → 32 < (s.getD j 0).toNat) : okW s = decide (1 ≤ s.length ∧ s.length ≤ 100) := by
  have : s.all (fun c => decide (32 < c.toNat)) = true := by
    rw [List.all_eq_true]
    intro c hc
    obtain ⟨j, hj, e⟩ := memD_inv 0 hc
    have := h j hj
    rw [e] at this
    simpa using this
  simp only [okW, this, Bool.true_and]

theorem wordP_ok (s : Str) (hs : s.length ≤ 1000) (H : List Blk) (T : Toks) : ACall Try.prog 30 [.str s] H T (Is (.bool (okW s)) H T) := by
  generalize hq : okW s = q
  refine acall_enter 7 [] Try.ntmps30 Try.func30 rfl (fun _ _ => Try.call30 _ _) (by simp) (fun HO => ?_)
  refine aw_reg fun K hK => ?_; simp (maxSteps := 1000000) (disch := omega) [-List.getD_eq_getElem?_getD]; refine hK _ ?_; clear hK K
  refine aw_then fun K1 hK1 => ?_
  refine aw_reg fun K hK => ?_; simp (maxSteps := 1000000) (disch := omega) [-List.getD_eq_getElem?_getD]; refine hK _ ?_; clear hK K
  refine aw_block ?_
  refine aw_loop (X := Nat) (fun k => ⟨[(0, .str s), (5, .int .i64 (s.length : Nat)), (6, .int .i64 (k : Nat))], H, T⟩) (fun k => k ≤ s.length ∧ ∀ j, j < k → 32 < (s.getD j 0).toNat) (fun k => s.length - k) 0 ?_ ?_ ?_
  · exact ⟨Nat.zero_le _, fun j hj => absurd hj (Nat.not_lt_zero _)⟩
  · refine weak_to [] [] ?_ ?_ ?_ ?_ HO ?_
    all_goals simp
  · rintro k ⟨h1, h2⟩
    refine aw_reg fun K hK => ?_; simp (maxSteps := 1000000) (disch := omega) [-List.getD_eq_getElem?_getD]; refine hK _ ?_; clear hK K
    refine aw_then fun K2 hK2 => ?_
    refine aw_if rfl (fun hk => ?_) (fun hk => ?_)
    · simp [-List.getD_eq_getElem?_getD] at hk
      refine aw_skip ?_; simp (maxSteps := 1000000) (disch := omega) [-List.getD_eq_getElem?_getD]
      refine hK2 _ ?_; clear hK2
      refine aw_then fun K3 hK3 => ?_
      refine aw_block ?_
      refine aw_reg fun K hK => ?_; simp (maxSteps := 1000000) (disch := omega) [-List.getD_eq_getElem?_getD]; refine hK _ ?_; clear hK K
      by_cases hc : (s.getD k 0).toNat ≤ 32
      · have b : decide (((s.getD k 0).toNat : Int) ≤ 32) = true := by simp [-List.getD_eq_getElem?_getD]; omega
        refine aw_reg fun K hK => ?_; simp (maxSteps := 1000000) (disch := omega) [-List.getD_eq_getElem?_getD, b, hc, hk]; refine hK _ ?_; clear hK K
        refine aw_if rfl (fun h => ?_) (fun h => absurd h (by simp))
        refine aw_reg fun K hK => ?_; simp (maxSteps := 1000000) (disch := omega) [-List.getD_eq_getElem?_getD]; refine hK _ ?_; clear hK K
        refine aw_ret ?_; simp (maxSteps := 1000000) (disch := omega) [-List.getD_eq_getElem?_getD]
        rw [← hq, okW_bad hk hc]
        exact ⟨rfl, rfl, rfl⟩
      · have b : decide (((s.getD k 0).toNat : Int) ≤ 32) = false := by simp [-List.getD_eq_getElem?_getD]; omega
        refine aw_reg fun K hK => ?_; simp (maxSteps := 1000000) (disch := omega) [-List.getD_eq_getElem?_getD, b, hc, hk]; refine hK _ ?_; clear hK K
        refine aw_if rfl (fun h => absurd h (by simp)) (fun h => ?_)
        refine aw_skip ?_; simp (maxSteps := 1000000) (disch := omega) [-List.getD_eq_getElem?_getD]
        refine hK3 _ ?_; clear hK3
        refine aw_reg0 fun K hK => ?_; simp (maxSteps := 1000000) (disch := omega) [-List.getD_eq_getElem?_getD]
        refine hK _ ?_; clear hK K
        refine ⟨k + 1, ⟨by show k + 1 ≤ _; omega, fun j hj => ?_⟩, by show s.length - (k + 1) < s.length - k; omega, ?_⟩
        · rcases Nat.lt_or_ge j k with h3 | h3
          · exact h2 j h3
          · have : j = k := by omega
            subst this; omega
        · refine weak_to [] [] ?_ ?_ ?_ ?_ HO ?_
          all_goals simp
    · simp [-List.getD_eq_getElem?_getD] at hk
      have hn := okW_good (s := s) (fun j hj => h2 j (by omega))
      rw [hq] at hn
      subst hn
      refine aw_exit ?_; simp (maxSteps := 1000000) (disch := omega) [-List.getD_eq_getElem?_getD]
      refine hK1 _ ?_; clear hK1
      by_cases h3 : 1 ≤ s.length
      · have b3 : decide ((1 : Int) ≤ s.length) = true := by simp; omega
        by_cases h4 : s.length ≤ 100
        · have b4 : decide ((s.length : Int) ≤ 100) = true := by simp; omega
          refine aw_reg fun K hK => ?_; simp (maxSteps := 1000000) (disch := omega) [-List.getD_eq_getElem?_getD, b3, b4, h3, h4]; refine hK _ ?_; clear hK K
          refine aw_ret ?_; simp (maxSteps := 1000000) (disch := omega) [-List.getD_eq_getElem?_getD]
          exact ⟨by simp [h3, h4], rfl, rfl⟩
        · have b4 : decide ((s.length : Int) ≤ 100) = false := by simp; omega
          refine aw_reg fun K hK => ?_; simp (maxSteps := 1000000) (disch := omega) [-List.getD_eq_getElem?_getD, b3, b4, h3, h4]; refine hK _ ?_; clear hK K
          refine aw_ret ?_; simp (maxSteps := 1000000) (disch := omega) [-List.getD_eq_getElem?_getD]
          exact ⟨by simp [h3, h4], rfl, rfl⟩
      · have b3 : decide ((1 : Int) ≤ s.length) = false := by simp; omega
        refine aw_reg fun K hK => ?_; simp (maxSteps := 1000000) (disch := omega) [-List.getD_eq_getElem?_getD, b3, h3]; refine hK _ ?_; clear hK K
        refine aw_ret ?_; simp (maxSteps := 1000000) (disch := omega) [-List.getD_eq_getElem?_getD]
        exact ⟨by simp [h3], rfl, rfl⟩

theorem wordR_ok (s : Str) (hs : s.length ≤ 1000) (H : List Blk) (T : Toks) : ACall Try.prog 31 [.str s] H T (Is (.bool (okW s)) H T) := by
  generalize hq : okW s = q
  refine acall_enter 7 [] Try.ntmps31 Try.func31 rfl (fun _ _ => Try.call31 _ _) (by simp) (fun HO => ?_)
  refine aw_reg fun K hK => ?_; simp (maxSteps := 1000000) (disch := omega) [-List.getD_eq_getElem?_getD]; refine hK _ ?_; clear hK K
  refine aw_then fun K1 hK1 => ?_
  refine aw_reg fun K hK => ?_; simp (maxSteps := 1000000) (disch := omega) [-List.getD_eq_getElem?_getD]; refine hK _ ?_; clear hK K
  refine aw_block ?_
  refine aw_loop (X := Nat) (fun k => ⟨[(0, .str s), (3, .int .i64 (k : Nat))], H, T⟩) (fun k => k ≤ s.length ∧ ∀ j, j < k → 32 < (s.getD j 0).toNat) (fun k => s.length - k) 0 ?_ ?_ ?_
  · exact ⟨Nat.zero_le _, fun j hj => absurd hj (Nat.not_lt_zero _)⟩
  · refine weak_to [] [] ?_ ?_ ?_ ?_ HO ?_
    all_goals simp
  · rintro k ⟨h1, h2⟩
    refine aw_then fun K2 hK2 => ?_
    refine aw_reg fun K hK => ?_; simp (maxSteps := 1000000) (disch := omega) [-List.getD_eq_getElem?_getD]; refine hK _ ?_; clear hK K
    refine aw_if rfl (fun hk => ?_) (fun hk => ?_)
    · simp [-List.getD_eq_getElem?_getD] at hk
      refine aw_skip ?_; simp (maxSteps := 1000000) (disch := omega) [-List.getD_eq_getElem?_getD]
      refine hK2 _ ?_; clear hK2
      refine aw_then fun K3 hK3 => ?_
      refine aw_block ?_
      by_cases hc : (s.getD k 0).toNat ≤ 32
      · have b : decide (((s.getD k 0).toNat : Int) ≤ 32) = true := by simp [-List.getD_eq_getElem?_getD]; omega
        refine aw_reg fun K hK => ?_; simp (maxSteps := 1000000) (disch := omega) [-List.getD_eq_getElem?_getD, b, hc, hk]; refine hK _ ?_; clear hK K
        refine aw_if rfl (fun h => ?_) (fun h => absurd h (by simp))
        refine aw_reg fun K hK => ?_; simp (maxSteps := 1000000) (disch := omega) [-List.getD_eq_getElem?_getD]; refine hK _ ?_; clear hK K
        refine aw_ret ?_; simp (maxSteps := 1000000) (disch := omega) [-List.getD_eq_getElem?_getD]
        rw [← hq, okW_bad hk hc]
        exact ⟨rfl, rfl, rfl⟩
      · have b : decide (((s.getD k 0).toNat : Int) ≤ 32) = false := by simp [-List.getD_eq_getElem?_getD]; omega
        refine aw_reg fun K hK => ?_; simp (maxSteps := 1000000) (disch := omega) [-List.getD_eq_getElem?_getD, b, hc, hk]; refine hK _ ?_; clear hK K
        refine aw_if rfl (fun h => absurd h (by simp)) (fun h => ?_)
        refine aw_skip ?_; simp (maxSteps := 1000000) (disch := omega) [-List.getD_eq_getElem?_getD]
        refine hK3 _ ?_; clear hK3
        refine aw_reg0 fun K hK => ?_; simp (maxSteps := 1000000) (disch := omega) [-List.getD_eq_getElem?_getD]
        refine hK _ ?_; clear hK K
        refine ⟨k + 1, ⟨by show k + 1 ≤ _; omega, fun j hj => ?_⟩, by show s.length - (k + 1) < s.length - k; omega, ?_⟩
        · rcases Nat.lt_or_ge j k with h3 | h3
          · exact h2 j h3
          · have : j = k := by omega
            subst this; omega
        · refine weak_to [] [] ?_ ?_ ?_ ?_ HO ?_
          all_goals simp
    · simp [-List.getD_eq_getElem?_getD] at hk
      have hn := okW_good (s := s) (fun j hj => h2 j (by omega))
      rw [hq] at hn
      subst hn
      refine aw_exit ?_; simp (maxSteps := 1000000) (disch := omega) [-List.getD_eq_getElem?_getD]
      refine hK1 _ ?_; clear hK1
      by_cases h3 : 1 ≤ s.length
      · have b3 : decide ((1 : Int) ≤ s.length) = true := by simp; omega
        by_cases h4 : s.length ≤ 100
        · have b4 : decide ((s.length : Int) ≤ 100) = true := by simp; omega
          refine aw_reg fun K hK => ?_; simp (maxSteps := 1000000) (disch := omega) [-List.getD_eq_getElem?_getD, b3, b4, h3, h4]; refine hK _ ?_; clear hK K
          refine aw_ret ?_; simp (maxSteps := 1000000) (disch := omega) [-List.getD_eq_getElem?_getD]
          exact ⟨by simp [h3, h4], rfl, rfl⟩
        · have b4 : decide ((s.length : Int) ≤ 100) = false := by simp; omega
          refine aw_reg fun K hK => ?_; simp (maxSteps := 1000000) (disch := omega) [-List.getD_eq_getElem?_getD, b3, b4, h3, h4]; refine hK _ ?_; clear hK K
          refine aw_ret ?_; simp (maxSteps := 1000000) (disch := omega) [-List.getD_eq_getElem?_getD]
          exact ⟨by simp [h3, h4], rfl, rfl⟩
      · have b3 : decide ((1 : Int) ≤ s.length) = false := by simp; omega
        refine aw_reg fun K hK => ?_; simp (maxSteps := 1000000) (disch := omega) [-List.getD_eq_getElem?_getD, b3, h3]; refine hK _ ?_; clear hK K
        refine aw_ret ?_; simp (maxSteps := 1000000) (disch := omega) [-List.getD_eq_getElem?_getD]
        exact ⟨by simp [h3], rfl, rfl⟩
end Go.Proofs.Ytbijefgmleagnaa
