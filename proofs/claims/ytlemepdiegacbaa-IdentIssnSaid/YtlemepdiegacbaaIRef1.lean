/- The reference's sums and texts of digits.
   Conditions: none. -/
import Derived.Test.YtlemepdiegacbaaIMath3
namespace Go.Proofs.Ytlemepdiegacbaa
open Go Go.Am Ident
set_option linter.unusedVariables false

/-- Digits as numbers. -/
def nums (t : List UInt8) : List AV := t.map fun c => .int .i64 ((valN c : Nat) : Int)
@[simp] theorem nums_len (t : List UInt8) : (nums t).length = t.length := by simp [nums]
@[simp] theorem nums_nil : nums [] = [] := rfl
@[simp] theorem below_nums {t : List UInt8} {n m : Nat} : BelowAll n m (nums t) := by
  have e : nums t = ints (t.map fun c => ((valN c : Nat) : Int)) := by simp [nums, ints]
  rw [e]
  exact below_ints
theorem nums_at (s : List UInt8) (k : Nat) (h : k < s.length) : (nums s).getD k .top = .int .i64 ((valN (s.getD k 0) : Nat) : Int) := by
  simp [nums, h]
theorem nums_snoc (s : List UInt8) (c : UInt8) : nums s ++ [.int .i64 ((valN c : Nat) : Int)] = nums (s ++ [c]) := by simp [nums]

/-- The sum with the weights n, n - 1 and so on. -/
def falN (n : Nat) (s : List UInt8) : Int := wsum (fV s) (wF n) s.length
theorem falN_part {s : List UInt8} {n : Nat} (h : okD s) (hn : s.length ≤ n) (hl : n ≤ 100) : ∀ k, k ≤ s.length → 0 ≤ wsum (fV s) (wF n) k ∧ wsum (fV s) (wF n) k ≤ (k : Int) * (10 * 100) := fun k hk =>
  wsum_bounds (by omega) (by omega) k (fun i hi => okD_val h (by omega)) (fun i hi => by unfold wF; omega)

set_option maxRecDepth 100000 in
theorem descending_ok (s : List UInt8) (n : Nat) (h : okD s) (hn : s.length ≤ n) (hl : n ≤ 100) (tg : Tag) (H : List Blk) (T : Toks) : ACall Try.prog 30 [.sl s.length (nums s) tg, .int .i64 (n : Nat)] H T (Is (.int .i64 (falN n s)) H T) := by
  refine ACall.untag1 ?_
  refine acall_enter 7 [] Try.ntmps30 Try.func30 rfl (fun _ _ => Try.call30 _ _) (by simp) (fun HO => ?_)
  refine aw_reg fun K hK => ?_; simp (maxSteps := 1000000) (disch := omega) [-List.getD_eq_getElem?_getD]; refine hK _ ?_; clear hK K
  refine aw_reg fun K hK => ?_; simp (maxSteps := 1000000) (disch := omega) [-List.getD_eq_getElem?_getD]; refine hK _ ?_; clear hK K
  refine aw_then fun K1 hK1 => ?_
  refine aw_reg fun K hK => ?_; simp (maxSteps := 1000000) (disch := omega) [-List.getD_eq_getElem?_getD]; refine hK _ ?_; clear hK K
  refine aw_block ?_
  refine aw_loop (X := Nat) (fun k => ⟨[(0, .sl s.length (nums s) .none), (1, .int .i64 (n : Nat)), (5, .int .i64 (wsum (fV s) (wF n) k)), (6, .int .i64 (k : Nat))], H, T⟩) (fun k => k ≤ s.length) (fun k => s.length - k) 0 ?_ ?_ ?_
  · exact Nat.zero_le _
  · refine weak_to [] [] ?_ ?_ ?_ ?_ HO ?_
    all_goals simp [wsum]
  · intro k hk0
    obtain ⟨p1, p2⟩ := falN_part h hn hl k hk0
    have hst : wsum (fV s) (wF n) (k + 1) = wsum (fV s) (wF n) k + ((valN (s.getD k 0) : Nat) : Int) * ((n : Int) - k) := rfl
    refine aw_then fun K2 hK2 => ?_
    refine aw_reg fun K hK => ?_; simp (maxSteps := 1000000) (disch := omega) [-List.getD_eq_getElem?_getD]; refine hK _ ?_; clear hK K
    refine aw_if rfl (fun hk => ?_) (fun hk => ?_)
    · simp [-List.getD_eq_getElem?_getD] at hk
      have hvl := valN_le _ (h k hk)
      have hat := nums_at s k hk
      generalize wsum (fV s) (wF n) k = w at *
      generalize hgc : s.getD k 0 = c at *
      generalize valN c = v at *
      have q1 : 0 ≤ (v : Int) * ((n : Int) - k) := Int.mul_nonneg (by omega) (by omega)
      have q2 : (v : Int) * ((n : Int) - k) ≤ 10 * 100 := Int.mul_le_mul (by omega) (by omega) (by omega) (by omega)
      refine aw_skip ?_; simp (maxSteps := 1000000) (disch := omega) [-List.getD_eq_getElem?_getD]
      refine hK2 _ ?_; clear hK2
      refine aw_then fun K3 hK3 => ?_
      refine aw_block ?_
      refine aw_reg0 fun K hK => ?_; simp (maxSteps := 1000000) (disch := omega) [-List.getD_eq_getElem?_getD, hat]
      refine hK _ ?_; clear hK K
      refine hK3 _ ?_; clear hK3
      refine aw_reg0 fun K hK => ?_; simp (maxSteps := 1000000) (disch := omega) [-List.getD_eq_getElem?_getD]
      refine hK _ ?_; clear hK K
      refine ⟨k + 1, by show k + 1 ≤ _; omega, by show s.length - (k + 1) < s.length - k; omega, ?_⟩
      simp only [hst]
      refine weak_to [] [] ?_ ?_ ?_ ?_ HO ?_
      all_goals simp
    · simp at hk
      have : k = s.length := by omega
      subst this
      refine aw_exit ?_; simp (maxSteps := 1000000) (disch := omega) [-List.getD_eq_getElem?_getD]
      refine hK1 _ ?_; clear hK1
      refine aw_reg fun K hK => ?_; simp (maxSteps := 1000000) (disch := omega) [-List.getD_eq_getElem?_getD]; refine hK _ ?_; clear hK K
      refine aw_ret ?_; simp (maxSteps := 1000000) (disch := omega) [-List.getD_eq_getElem?_getD]
      exact ⟨rfl, rfl, rfl⟩

set_option maxRecDepth 100000 in
theorem ralternating_ok (s : List UInt8) (h : okD s) (hl : s.length ≤ 100) (tg : Tag) (H : List Blk) (T : Toks) : ACall Try.prog 35 [.sl s.length (nums s) tg] H T (Is (.int .i64 (altn s)) H T) := by
  refine ACall.untag1 ?_
  refine acall_enter 5 [] Try.ntmps35 Try.func35 rfl (fun _ _ => Try.call35 _ _) (by simp) (fun HO => ?_)
  refine aw_reg fun K hK => ?_; simp (maxSteps := 1000000) (disch := omega) [-List.getD_eq_getElem?_getD]; refine hK _ ?_; clear hK K
  refine aw_reg fun K hK => ?_; simp (maxSteps := 1000000) (disch := omega) [-List.getD_eq_getElem?_getD]; refine hK _ ?_; clear hK K
  refine aw_then fun K1 hK1 => ?_
  refine aw_reg fun K hK => ?_; simp (maxSteps := 1000000) (disch := omega) [-List.getD_eq_getElem?_getD]; refine hK _ ?_; clear hK K
  refine aw_block ?_
  refine aw_loop (X := Nat) (fun k => ⟨[(0, .sl s.length (nums s) .none), (3, .int .i64 (wsum (fV s) wA k)), (4, .int .i64 (k : Nat))], H, T⟩) (fun k => k ≤ s.length) (fun k => s.length - k) 0 ?_ ?_ ?_
  · exact Nat.zero_le _
  · refine weak_to [] [] ?_ ?_ ?_ ?_ HO ?_
    all_goals simp [wsum]
  · intro k hk0
    obtain ⟨p1, p2⟩ := altn_part h hl k hk0
    have hst : wsum (fV s) wA (k + 1) = wsum (fV s) wA k + ((valN (s.getD k 0) : Nat) : Int) * (1 + 2 * ((k % 2 : Nat) : Int)) := rfl
    refine aw_then fun K2 hK2 => ?_
    refine aw_reg fun K hK => ?_; simp (maxSteps := 1000000) (disch := omega) [-List.getD_eq_getElem?_getD]; refine hK _ ?_; clear hK K
    refine aw_if rfl (fun hk => ?_) (fun hk => ?_)
    · simp [-List.getD_eq_getElem?_getD] at hk
      have hvl := valN_le _ (h k hk)
      have hat := nums_at s k hk
      generalize wsum (fV s) wA k = w at *
      generalize hgc : s.getD k 0 = c at *
      generalize valN c = v at *
      have hm := tmod2 k
      have hm2 : k % 2 < 2 := Nat.mod_lt _ (by omega)
      generalize k % 2 = m at *
      have q1 : 0 ≤ (v : Int) * (1 + 2 * (m : Int)) := Int.mul_nonneg (by omega) (by omega)
      have q2 : (v : Int) * (1 + 2 * (m : Int)) ≤ 10 * 3 := Int.mul_le_mul (by omega) (by omega) (by omega) (by omega)
      refine aw_skip ?_; simp (maxSteps := 1000000) (disch := omega) [-List.getD_eq_getElem?_getD]
      refine hK2 _ ?_; clear hK2
      refine aw_then fun K3 hK3 => ?_
      refine aw_block ?_
      refine aw_reg0 fun K hK => ?_; simp (maxSteps := 1000000) (disch := omega) [-List.getD_eq_getElem?_getD, hat, hm]
      refine hK _ ?_; clear hK K
      refine hK3 _ ?_; clear hK3
      refine aw_reg0 fun K hK => ?_; simp (maxSteps := 1000000) (disch := omega) [-List.getD_eq_getElem?_getD]
      refine hK _ ?_; clear hK K
      refine ⟨k + 1, by show k + 1 ≤ _; omega, by show s.length - (k + 1) < s.length - k; omega, ?_⟩
      simp only [hst]
      refine weak_to [] [] ?_ ?_ ?_ ?_ HO ?_
      all_goals simp
    · simp at hk
      have : k = s.length := by omega
      subst this
      refine aw_exit ?_; simp (maxSteps := 1000000) (disch := omega) [-List.getD_eq_getElem?_getD]
      refine hK1 _ ?_; clear hK1
      refine aw_reg fun K hK => ?_; simp (maxSteps := 1000000) (disch := omega) [-List.getD_eq_getElem?_getD]; refine hK _ ?_; clear hK K
      refine aw_ret ?_; simp (maxSteps := 1000000) (disch := omega) [-List.getD_eq_getElem?_getD]
      exact ⟨rfl, rfl, rfl⟩
end Go.Proofs.Ytlemepdiegacbaa
