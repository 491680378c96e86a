/- Comparing mappings; what is permitted (layer 26).
   Conditions: none. -/
import Derived.Test.YtfdlngemkhiiiaaGreatDoorVPl2
namespace Go.Proofs.YtfdlngemkhiiiaaGreatDoor
open Go Go.Am Voc
set_option linter.unusedVariables false

theorem drawMixed : Tryz.prog.follows .mixedOrders = true := by kernel_rfl

theorem compI_ok (x y : Int) (H : List Blk) (T : Toks) : ACall Tryz.prog 23 [.int .i64 x, .int .i64 y] H T (Is (.int .i64 (cmpI x y)) H T) := by
  have n1 : ∀ z, ACall Tryz.prog 38 [.int .i64 z] H T (Is (.bool false) H T) := fun z => by
    refine acall_enter 3 [] Tryz.ntmps38 Tryz.func38 rfl (fun _ _ => Tryz.call38 _ _) (by simp) (fun HO => ?_)
    refine aw_reg fun K hK => ?_; simp (maxSteps := 1000000) (disch := omega) [-List.getD_eq_getElem?_getD]; refine hK _ ?_; clear hK K
    refine aw_reg fun K hK => ?_; simp (maxSteps := 1000000) (disch := omega) [-List.getD_eq_getElem?_getD]; refine hK _ ?_; clear hK K
    refine aw_ret ?_; simp (maxSteps := 1000000) (disch := omega) [-List.getD_eq_getElem?_getD]
    exact ⟨rfl, rfl, rfl⟩
  generalize hq : cmpI x y = q
  refine acall_enter 7 [] Tryz.ntmps23 Tryz.func23 rfl (fun _ _ => Tryz.call23 _ _) (by simp) (fun HO => ?_)
  refine aw_reg fun K hK => ?_; simp (maxSteps := 1000000) (disch := omega) [-List.getD_eq_getElem?_getD]; refine hK _ ?_; clear hK K
  refine aw_reg fun K hK => ?_; simp (maxSteps := 1000000) (disch := omega) [-List.getD_eq_getElem?_getD]
  refine acall_is (n1 x) ?_; simp (maxSteps := 1000000) (disch := omega) [-List.getD_eq_getElem?_getD]
  refine hK _ ?_; clear hK K
  refine aw_reg fun K hK => ?_; simp (maxSteps := 1000000) (disch := omega) [-List.getD_eq_getElem?_getD]
  refine acall_is (n1 y) ?_; simp (maxSteps := 1000000) (disch := omega) [-List.getD_eq_getElem?_getD]
  refine hK _ ?_; clear hK K
  refine aw_then fun K1 hK1 => ?_
  refine aw_reg fun K hK => ?_; simp (maxSteps := 1000000) (disch := omega) [-List.getD_eq_getElem?_getD]; refine hK _ ?_; clear hK K
  refine aw_if rfl (fun h => absurd h (by simp)) (fun h => ?_)
  refine aw_skip ?_; simp (maxSteps := 1000000) (disch := omega) [-List.getD_eq_getElem?_getD]
  refine hK1 _ ?_; clear hK1
  refine aw_then fun K1 hK1 => ?_
  refine aw_reg fun K hK => ?_; simp (maxSteps := 1000000) (disch := omega) [-List.getD_eq_getElem?_getD]; refine hK _ ?_; clear hK K
  refine aw_if rfl (fun h => absurd h (by simp)) (fun h => ?_)
  refine aw_skip ?_; simp (maxSteps := 1000000) (disch := omega) [-List.getD_eq_getElem?_getD]
  refine hK1 _ ?_; clear hK1
  refine aw_then fun K1 hK1 => ?_
  by_cases h1 : x < y
  · have b1 : decide (x < y) = true := decide_eq_true h1
    refine aw_reg fun K hK => ?_; simp (maxSteps := 1000000) (disch := omega) [-List.getD_eq_getElem?_getD, b1, h1]; refine hK _ ?_; clear hK K
    refine aw_if rfl (fun h => ?_) (fun h => absurd h (by simp))
    refine aw_reg fun K hK => ?_; simp (maxSteps := 1000000) (disch := omega) [-List.getD_eq_getElem?_getD]; refine hK _ ?_; clear hK K
    refine aw_ret ?_; simp (maxSteps := 1000000) (disch := omega) [-List.getD_eq_getElem?_getD]
    rw [← hq, cmpI, if_pos h1]
    exact ⟨rfl, rfl, rfl⟩
  · have b1 : decide (x < y) = false := decide_eq_false h1
    refine aw_reg fun K hK => ?_; simp (maxSteps := 1000000) (disch := omega) [-List.getD_eq_getElem?_getD, b1, h1]; refine hK _ ?_; clear hK K
    refine aw_if rfl (fun h => absurd h (by simp)) (fun h => ?_)
    refine aw_skip ?_; simp (maxSteps := 1000000) (disch := omega) [-List.getD_eq_getElem?_getD]
    refine hK1 _ ?_; clear hK1
    refine aw_then fun K1 hK1 => ?_
    by_cases h2 : y < x
    · have b2 : decide (y < x) = true := decide_eq_true h2
      refine aw_reg fun K hK => ?_; simp (maxSteps := 1000000) (disch := omega) [-List.getD_eq_getElem?_getD, b2, h2]; refine hK _ ?_; clear hK K
      refine aw_if rfl (fun h => ?_) (fun h => absurd h (by simp))
      refine aw_reg fun K hK => ?_; simp (maxSteps := 1000000) (disch := omega) [-List.getD_eq_getElem?_getD]; refine hK _ ?_; clear hK K
      refine aw_ret ?_; simp (maxSteps := 1000000) (disch := omega) [-List.getD_eq_getElem?_getD]
      rw [← hq, cmpI, if_neg h1, if_pos h2]
      exact ⟨rfl, rfl, rfl⟩
    · have b2 : decide (y < x) = false := decide_eq_false h2
      refine aw_reg fun K hK => ?_; simp (maxSteps := 1000000) (disch := omega) [-List.getD_eq_getElem?_getD, b2, h2]; refine hK _ ?_; clear hK K
      refine aw_if rfl (fun h => absurd h (by simp)) (fun h => ?_)
      refine aw_skip ?_; simp (maxSteps := 1000000) (disch := omega) [-List.getD_eq_getElem?_getD]
      refine hK1 _ ?_; clear hK1
      refine aw_reg fun K hK => ?_; simp (maxSteps := 1000000) (disch := omega) [-List.getD_eq_getElem?_getD]; refine hK _ ?_; clear hK K
      refine aw_ret ?_; simp (maxSteps := 1000000) (disch := omega) [-List.getD_eq_getElem?_getD]
      rw [← hq, cmpI, if_neg h1, if_neg h2]
      exact ⟨rfl, rfl, rfl⟩

theorem or_ok (l : List Int) (hl : l.length ≤ 1000) (H : List Blk) (T : Toks) (tg : Tag) : ACall Tryz.prog 41 [.sl l.length (ints l) tg] H T (Is (.int .i64 (orI l)) H T) := by
  refine ACall.untag1 ?_
  generalize hq : orI l = q
  refine acall_enter 9 [] Tryz.ntmps41 Tryz.func41 rfl (fun _ _ => Tryz.call41 _ _) (by simp) (fun HO => ?_)
  refine aw_reg fun K hK => ?_; simp (maxSteps := 1000000) (disch := omega) [-List.getD_eq_getElem?_getD]; refine hK _ ?_; clear hK K
  refine aw_reg fun K hK => ?_; simp (maxSteps := 1000000) (disch := omega) [-List.getD_eq_getElem?_getD]; refine hK _ ?_; clear hK K
  refine aw_then fun K1 hK1 => ?_
  refine aw_reg fun K hK => ?_; simp (maxSteps := 1000000) (disch := omega) [-List.getD_eq_getElem?_getD]; refine hK _ ?_; clear hK K
  refine aw_block ?_
  refine aw_loop (X := Nat) (fun k => ⟨[(0, .sl l.length (ints l) .none), (3, .int .i64 0), (6, .sl l.length (ints l) .none), (7, .int .i64 (l.length : Nat)), (8, .int .i64 (k : Nat))], H, T⟩) (fun k => k ≤ l.length ∧ ∀ j, j < k → l.getD j 0 = 0) (fun k => l.length - k) 0 ?_ ?_ ?_
  · exact ⟨Nat.zero_le _, fun j hj => absurd hj (Nat.not_lt_zero _)⟩
  · refine weak_to [] [] ?_ ?_ ?_ ?_ HO ?_
    all_goals simp
  · rintro k ⟨h1, h2⟩
    refine aw_reg fun K hK => ?_; simp (maxSteps := 1000000) (disch := omega) [-List.getD_eq_getElem?_getD]; refine hK _ ?_; clear hK K
    refine aw_then fun K2 hK2 => ?_
    refine aw_if rfl (fun hk => ?_) (fun hk => ?_)
    · simp [-List.getD_eq_getElem?_getD] at hk
      have hg := getD_ints (xs := l) (k := k) hk
      have hd : orI l = orI (l.getD k 0 :: l.drop (k + 1)) := by
        rw [orI_skip l k h2 (by omega), List.drop_eq_getElem_cons hk, List.getD_eq_getElem?_getD, List.getElem?_eq_getElem hk]
        rfl
      refine aw_skip ?_; simp (maxSteps := 1000000) (disch := omega) [-List.getD_eq_getElem?_getD]
      refine hK2 _ ?_; clear hK2
      refine aw_then fun K3 hK3 => ?_
      refine aw_block ?_
      refine aw_reg fun K hK => ?_; simp (maxSteps := 1000000) (disch := omega) [-List.getD_eq_getElem?_getD, hg]; refine hK _ ?_; clear hK K
      by_cases hc : l.getD k 0 = 0
      · have b : (l.getD k 0 != 0) = false := by rw [hc]; rfl
        refine aw_reg fun K hK => ?_; simp (maxSteps := 1000000) (disch := omega) [-List.getD_eq_getElem?_getD, b, hc]; refine hK _ ?_; clear hK K
        refine aw_if rfl (fun h => absurd h (by simp)) (fun h => ?_)
        refine aw_skip ?_; simp (maxSteps := 1000000) (disch := omega) [-List.getD_eq_getElem?_getD]
        refine hK3 _ ?_; clear hK3
        refine aw_reg0 fun K hK => ?_; simp (maxSteps := 1000000) (disch := omega) [-List.getD_eq_getElem?_getD]
        refine hK _ ?_; clear hK K
        refine ⟨k + 1, ⟨by show k + 1 ≤ _; omega, fun j hj => ?_⟩, by show l.length - (k + 1) < l.length - k; omega, ?_⟩
        · rcases Nat.lt_or_ge j k with h3 | h3
          · exact h2 j h3
          · have : j = k := by omega
            subst this; exact hc
        · refine weak_to [] [] ?_ ?_ ?_ ?_ HO ?_
          all_goals simp
      · have b : (l.getD k 0 != 0) = true := bne_iff_ne.2 hc
        refine aw_reg fun K hK => ?_; simp (maxSteps := 1000000) (disch := omega) [-List.getD_eq_getElem?_getD, b, hc]; refine hK _ ?_; clear hK K
        refine aw_if rfl (fun h => ?_) (fun h => absurd h (by simp))
        refine aw_reg fun K hK => ?_; simp (maxSteps := 1000000) (disch := omega) [-List.getD_eq_getElem?_getD]; refine hK _ ?_; clear hK K
        refine aw_ret ?_; simp (maxSteps := 1000000) (disch := omega) [-List.getD_eq_getElem?_getD]
        rw [← hq, hd, orI, if_neg hc]
        exact ⟨rfl, rfl, rfl⟩
    · simp [-List.getD_eq_getElem?_getD] at hk
      have e : k = l.length := by omega
      subst e
      refine aw_exit ?_; simp (maxSteps := 1000000) (disch := omega) [-List.getD_eq_getElem?_getD]
      refine hK1 _ ?_; clear hK1
      refine aw_reg fun K hK => ?_; simp (maxSteps := 1000000) (disch := omega) [-List.getD_eq_getElem?_getD]; refine hK _ ?_; clear hK K
      refine aw_ret ?_; simp (maxSteps := 1000000) (disch := omega) [-List.getD_eq_getElem?_getD]
      rw [← hq, orI_skip l l.length h2 (Nat.le_refl _), List.drop_length]
      exact ⟨rfl, rfl, rfl⟩


theorem order_ok (x y : Mp) (H : List Blk) (T : Toks) : ACall Tryz.prog 27 [.agg (mc x), .agg (mc y)] H T (Is (.int .i64 (ordM x y)) H T) := by
  refine ACall.drop' ?_ (by simp)
  unfold ordM
  have c1 := fun H T => compI_ok x.1 y.1 H T
  have c2 := fun H T => compI_ok x.2.1 y.2.1 H T
  generalize cmpI x.1 y.1 = a at *
  generalize cmpI x.2.1 y.2.1 = b at *
  have c4 := fun H T => or_ok [a, b] (by simp) H T
  obtain ⟨x1, x2, x3⟩ := x
  obtain ⟨y1, y2, y3⟩ := y
  simp only [mc] at *
  refine acall_enter 5 [] Tryz.ntmps27 Tryz.func27 rfl (fun _ _ => Tryz.call27 _ _) (by simp) (fun HO => ?_)
  refine aw_reg fun K hK => ?_; simp (maxSteps := 1000000) (disch := omega) [-List.getD_eq_getElem?_getD]; refine hK _ ?_; clear hK K
  refine aw_draw [] [] [] drawMixed (by kernel_rfl) (by kernel_rfl) fun K hK => ?_; simp (maxSteps := 1000000) (disch := omega) [-List.getD_eq_getElem?_getD]
  refine dcall_is (c1 _ _) rfl ?_; simp (maxSteps := 1000000) (disch := omega) [-List.getD_eq_getElem?_getD]
  refine dcall_is (c2 _ _) rfl ?_; simp (maxSteps := 1000000) (disch := omega) [-List.getD_eq_getElem?_getD]
  refine dcall_is (c4 _ _ _) rfl ?_; simp (maxSteps := 1000000) (disch := omega) [-List.getD_eq_getElem?_getD]
  refine hK _ ?_; clear hK K
  refine aw_ret ?_; simp (maxSteps := 1000000) (disch := omega) [-List.getD_eq_getElem?_getD]

theorem cmp3_ok (x y : Mp) : ACall Tryz.prog 40 [.agg (mc x), .agg (mc y)] [] [] (Is (.int .i64 (cf3 x y)) [] []) := by
  refine ACall.drop' ?_ (by simp)
  unfold cf3
  have c1 := fun H T => order_ok x y H T
  have c2 := fun H T => compI_ok x.2.2 y.2.2 H T
  generalize ordM x y = a at *
  generalize cmpI x.2.2 y.2.2 = b at *
  have c4 := fun H T => or_ok [a, b] (by simp) H T
  obtain ⟨x1, x2, x3⟩ := x
  obtain ⟨y1, y2, y3⟩ := y
  simp only [mc] at *
  refine acall_enter 5 [] Tryz.ntmps40 Tryz.func40 rfl (fun _ _ => Tryz.call40 _ _) (by simp) (fun HO => ?_)
  refine aw_reg fun K hK => ?_; simp (maxSteps := 1000000) (disch := omega) [-List.getD_eq_getElem?_getD]; refine hK _ ?_; clear hK K
  refine aw_draw [] [] [] drawMixed (by kernel_rfl) (by kernel_rfl) fun K hK => ?_; simp (maxSteps := 1000000) (disch := omega) [-List.getD_eq_getElem?_getD]
  refine dcall_is (c1 _ _) rfl ?_; simp (maxSteps := 1000000) (disch := omega) [-List.getD_eq_getElem?_getD]
  refine dcall_is (c2 _ _) rfl ?_; simp (maxSteps := 1000000) (disch := omega) [-List.getD_eq_getElem?_getD]
  refine dcall_is (c4 _ _ _) rfl ?_; simp (maxSteps := 1000000) (disch := omega) [-List.getD_eq_getElem?_getD]
  refine hK _ ?_; clear hK K
  refine aw_ret ?_; simp (maxSteps := 1000000) (disch := omega) [-List.getD_eq_getElem?_getD]

theorem cfrom_ok (x : Mp) (n : Int) (H : List Blk) (T : Toks) : ACall Tryz.prog 22 [.agg (mc x), .int .i64 n] H T (Is (.int .i64 (cmpI x.1 n)) H T) := by
  refine ACall.drop' ?_ (by simp)
  have c1 := fun H T => compI_ok x.1 n H T
  generalize cmpI x.1 n = a at *
  obtain ⟨x1, x2, x3⟩ := x
  simp only [mc] at *
  refine acall_enter 5 [] Tryz.ntmps22 Tryz.func22 rfl (fun _ _ => Tryz.call22 _ _) (by simp) (fun HO => ?_)
  refine aw_reg fun K hK => ?_; simp (maxSteps := 1000000) (disch := omega) [-List.getD_eq_getElem?_getD]; refine hK _ ?_; clear hK K
  refine aw_reg fun K hK => ?_; simp (maxSteps := 1000000) (disch := omega) [-List.getD_eq_getElem?_getD]
  refine acall_is (c1 _ _) ?_; simp (maxSteps := 1000000) (disch := omega) [-List.getD_eq_getElem?_getD]
  refine hK _ ?_; clear hK K
  refine aw_ret ?_; simp (maxSteps := 1000000) (disch := omega) [-List.getD_eq_getElem?_getD]

theorem both_ok (a b : Int) (H : List Blk) (T : Toks) : ACall Tryz.prog 24 [.int .i64 a, .int .i64 b] H T (Is (.int .i64 (joinK a b)) H T) := by
  generalize hq : joinK a b = q
  unfold joinK at hq
  refine acall_enter 5 [] Tryz.ntmps24 Tryz.func24 rfl (fun _ _ => Tryz.call24 _ _) (by simp) (fun HO => ?_)
  refine aw_reg fun K hK => ?_; simp (maxSteps := 1000000) (disch := omega) [-List.getD_eq_getElem?_getD]; refine hK _ ?_; clear hK K
  refine aw_then fun K1 hK1 => ?_
  refine aw_block ?_
  by_cases h1 : a = 1
  · rw [if_pos h1] at hq
    have b1 : (a == 1) = true := beq_iff_eq.2 h1
    refine aw_reg fun K hK => ?_; simp (maxSteps := 1000000) (disch := omega) [-List.getD_eq_getElem?_getD, b1, h1]; refine hK _ ?_; clear hK K
    refine aw_if rfl (fun h => ?_) (fun h => absurd h (by simp))
    refine aw_reg fun K hK => ?_; simp (maxSteps := 1000000) (disch := omega) [-List.getD_eq_getElem?_getD]; refine hK _ ?_; clear hK K
    refine aw_ret ?_; simp (maxSteps := 1000000) (disch := omega) [-List.getD_eq_getElem?_getD]
    exact ⟨by rw [hq], rfl, rfl⟩
  · rw [if_neg h1] at hq
    have b1 : (a == 1) = false := beq_eq_false_iff_ne.2 h1
    refine aw_reg fun K hK => ?_; simp (maxSteps := 1000000) (disch := omega) [-List.getD_eq_getElem?_getD, b1, h1]; refine hK _ ?_; clear hK K
    refine aw_if rfl (fun h => absurd h (by simp)) (fun h => ?_)
    by_cases h2 : b = 1
    · rw [if_pos (.inl h2)] at hq
      have b2 : (b == 1) = true := beq_iff_eq.2 h2
      refine aw_reg fun K hK => ?_; simp (maxSteps := 1000000) (disch := omega) [-List.getD_eq_getElem?_getD, b2, h2]; refine hK _ ?_; clear hK K
      refine aw_if rfl (fun h => ?_) (fun h => absurd h (by simp))
      refine aw_reg fun K hK => ?_; simp (maxSteps := 1000000) (disch := omega) [-List.getD_eq_getElem?_getD]; refine hK _ ?_; clear hK K
      refine aw_ret ?_; simp (maxSteps := 1000000) (disch := omega) [-List.getD_eq_getElem?_getD]
      exact ⟨by rw [hq], rfl, rfl⟩
    · have b2 : (b == 1) = false := beq_eq_false_iff_ne.2 h2
      by_cases h3 : a = b
      · rw [if_pos (.inr h3)] at hq
        have b3 : (a == b) = true := beq_iff_eq.2 h3
        refine aw_reg fun K hK => ?_; simp (maxSteps := 1000000) (disch := omega) [-List.getD_eq_getElem?_getD, b2, h2, b3, h3]; refine hK _ ?_; clear hK K
        refine aw_if rfl (fun h => ?_) (fun h => absurd h (by simp))
        refine aw_reg fun K hK => ?_; simp (maxSteps := 1000000) (disch := omega) [-List.getD_eq_getElem?_getD]; refine hK _ ?_; clear hK K
        refine aw_ret ?_; simp (maxSteps := 1000000) (disch := omega) [-List.getD_eq_getElem?_getD]
        exact ⟨by rw [← hq, ← h3], rfl, rfl⟩
      · rw [if_neg (by simp [h2, h3])] at hq
        have b3 : (a == b) = false := beq_eq_false_iff_ne.2 h3
        refine aw_reg fun K hK => ?_; simp (maxSteps := 1000000) (disch := omega) [-List.getD_eq_getElem?_getD, b2, h2, b3, h3]; refine hK _ ?_; clear hK K
        refine aw_if rfl (fun h => absurd h (by simp)) (fun h => ?_)
        refine aw_skip ?_; simp (maxSteps := 1000000) (disch := omega) [-List.getD_eq_getElem?_getD]
        refine hK1 _ ?_; clear hK1
        refine aw_reg fun K hK => ?_; simp (maxSteps := 1000000) (disch := omega) [-List.getD_eq_getElem?_getD]; refine hK _ ?_; clear hK K
        refine aw_ret ?_; simp (maxSteps := 1000000) (disch := omega) [-List.getD_eq_getElem?_getD]
        exact ⟨by rw [hq], rfl, rfl⟩

set_option maxRecDepth 100000 in
set_option maxHeartbeats 4000000 in
theorem good_ok (x : Mp) (H : List Blk) (T : Toks) : ACall Tryz.prog 26 [.agg (mc x)] H T (Is (.bool (goodM x)) H T) := by
  refine ACall.drop' ?_ (by simp)
  obtain ⟨x1, x2, x3⟩ := x
  simp only [mc, goodM]
  refine acall_enter 3 [] Tryz.ntmps26 Tryz.func26 rfl (fun _ _ => Tryz.call26 _ _) (by simp) (fun HO => ?_)
  refine aw_reg fun K hK => ?_; simp (maxSteps := 1000000) (disch := omega) [-List.getD_eq_getElem?_getD]; refine hK _ ?_; clear hK K
  by_cases h0 : 1 ≤ x1
  rotate_left
  · have b0 : decide (1 ≤ x1) = false := decide_eq_false h0
    refine aw_reg fun K hK => ?_; simp (maxSteps := 1000000) (disch := omega) [-List.getD_eq_getElem?_getD, b0, h0]; refine hK _ ?_; clear hK K
    refine aw_ret ?_; simp (maxSteps := 1000000) (disch := omega) [-List.getD_eq_getElem?_getD]
    all_goals omega
  have b0 : decide (1 ≤ x1) = true := decide_eq_true h0
  by_cases h1 : x1 ≤ 1000000000
  rotate_left
  · have b1 : decide (x1 ≤ 1000000000) = false := decide_eq_false h1
    refine aw_reg fun K hK => ?_; simp (maxSteps := 1000000) (disch := omega) [-List.getD_eq_getElem?_getD, b0, h0, b1, h1]; refine hK _ ?_; clear hK K
    refine aw_ret ?_; simp (maxSteps := 1000000) (disch := omega) [-List.getD_eq_getElem?_getD]
    all_goals omega
  have b1 : decide (x1 ≤ 1000000000) = true := decide_eq_true h1
  by_cases h2 : 1 ≤ x2
  rotate_left
  · have b2 : decide (1 ≤ x2) = false := decide_eq_false h2
    refine aw_reg fun K hK => ?_; simp (maxSteps := 1000000) (disch := omega) [-List.getD_eq_getElem?_getD, b0, h0, b1, h1, b2, h2]; refine hK _ ?_; clear hK K
    refine aw_ret ?_; simp (maxSteps := 1000000) (disch := omega) [-List.getD_eq_getElem?_getD]
    all_goals omega
  have b2 : decide (1 ≤ x2) = true := decide_eq_true h2
  by_cases h3 : x2 ≤ 1000000000
  rotate_left
  · have b3 : decide (x2 ≤ 1000000000) = false := decide_eq_false h3
    refine aw_reg fun K hK => ?_; simp (maxSteps := 1000000) (disch := omega) [-List.getD_eq_getElem?_getD, b0, h0, b1, h1, b2, h2, b3, h3]; refine hK _ ?_; clear hK K
    refine aw_ret ?_; simp (maxSteps := 1000000) (disch := omega) [-List.getD_eq_getElem?_getD]
    all_goals omega
  have b3 : decide (x2 ≤ 1000000000) = true := decide_eq_true h3
  by_cases h4 : 1 ≤ x3
  rotate_left
  · have b4 : decide (1 ≤ x3) = false := decide_eq_false h4
    refine aw_reg fun K hK => ?_; simp (maxSteps := 1000000) (disch := omega) [-List.getD_eq_getElem?_getD, b0, h0, b1, h1, b2, h2, b3, h3, b4, h4]; refine hK _ ?_; clear hK K
    refine aw_ret ?_; simp (maxSteps := 1000000) (disch := omega) [-List.getD_eq_getElem?_getD]
    all_goals omega
  have b4 : decide (1 ≤ x3) = true := decide_eq_true h4
  by_cases h5 : x3 ≤ 3
  rotate_left
  · have b5 : decide (x3 ≤ 3) = false := decide_eq_false h5
    refine aw_reg fun K hK => ?_; simp (maxSteps := 1000000) (disch := omega) [-List.getD_eq_getElem?_getD, b0, h0, b1, h1, b2, h2, b3, h3, b4, h4, b5, h5]; refine hK _ ?_; clear hK K
    refine aw_ret ?_; simp (maxSteps := 1000000) (disch := omega) [-List.getD_eq_getElem?_getD]
    all_goals omega
  have b5 : decide (x3 ≤ 3) = true := decide_eq_true h5
  refine aw_reg fun K hK => ?_; simp (maxSteps := 1000000) (disch := omega) [-List.getD_eq_getElem?_getD, b0, h0, b1, h1, b2, h2, b3, h3, b4, h4, b5, h5]; refine hK _ ?_; clear hK K
  refine aw_ret ?_; simp (maxSteps := 1000000) (disch := omega) [-List.getD_eq_getElem?_getD]
  all_goals omega

set_option maxRecDepth 100000 in
set_option maxHeartbeats 4000000 in
theorem one_ok (x : Mp) (H : List Blk) (T : Toks) : ACall Tryz.prog 33 [.agg (mc x)] H T (Is (.bool (goodM x)) H T) := by
  refine ACall.drop' ?_ (by simp)
  obtain ⟨x1, x2, x3⟩ := x
  simp only [mc, goodM]
  refine acall_enter 3 [] Tryz.ntmps33 Tryz.func33 rfl (fun _ _ => Tryz.call33 _ _) (by simp) (fun HO => ?_)
  refine aw_reg fun K hK => ?_; simp (maxSteps := 1000000) (disch := omega) [-List.getD_eq_getElem?_getD]; refine hK _ ?_; clear hK K
  by_cases h0 : 1 ≤ x1
  rotate_left
  · have b0 : decide (1 ≤ x1) = false := decide_eq_false h0
    refine aw_reg fun K hK => ?_; simp (maxSteps := 1000000) (disch := omega) [-List.getD_eq_getElem?_getD, b0, h0]; refine hK _ ?_; clear hK K
    refine aw_ret ?_; simp (maxSteps := 1000000) (disch := omega) [-List.getD_eq_getElem?_getD]
    all_goals omega
  have b0 : decide (1 ≤ x1) = true := decide_eq_true h0
  by_cases h1 : x1 ≤ 1000000000
  rotate_left
  · have b1 : decide (x1 ≤ 1000000000) = false := decide_eq_false h1
    refine aw_reg fun K hK => ?_; simp (maxSteps := 1000000) (disch := omega) [-List.getD_eq_getElem?_getD, b0, h0, b1, h1]; refine hK _ ?_; clear hK K
    refine aw_ret ?_; simp (maxSteps := 1000000) (disch := omega) [-List.getD_eq_getElem?_getD]
    all_goals omega
  have b1 : decide (x1 ≤ 1000000000) = true := decide_eq_true h1
  by_cases h2 : 1 ≤ x2
  rotate_left
  · have b2 : decide (1 ≤ x2) = false := decide_eq_false h2
    refine aw_reg fun K hK => ?_; simp (maxSteps := 1000000) (disch := omega) [-List.getD_eq_getElem?_getD, b0, h0, b1, h1, b2, h2]; refine hK _ ?_; clear hK K
    refine aw_ret ?_; simp (maxSteps := 1000000) (disch := omega) [-List.getD_eq_getElem?_getD]
    all_goals omega
  have b2 : decide (1 ≤ x2) = true := decide_eq_true h2
  by_cases h3 : x2 ≤ 1000000000
  rotate_left
  · have b3 : decide (x2 ≤ 1000000000) = false := decide_eq_false h3
    refine aw_reg fun K hK => ?_; simp (maxSteps := 1000000) (disch := omega) [-List.getD_eq_getElem?_getD, b0, h0, b1, h1, b2, h2, b3, h3]; refine hK _ ?_; clear hK K
    refine aw_ret ?_; simp (maxSteps := 1000000) (disch := omega) [-List.getD_eq_getElem?_getD]
    all_goals omega
  have b3 : decide (x2 ≤ 1000000000) = true := decide_eq_true h3
  by_cases h4 : 1 ≤ x3
  rotate_left
  · have b4 : decide (1 ≤ x3) = false := decide_eq_false h4
    refine aw_reg fun K hK => ?_; simp (maxSteps := 1000000) (disch := omega) [-List.getD_eq_getElem?_getD, b0, h0, b1, h1, b2, h2, b3, h3, b4, h4]; refine hK _ ?_; clear hK K
    refine aw_ret ?_; simp (maxSteps := 1000000) (disch := omega) [-List.getD_eq_getElem?_getD]
    all_goals omega
  have b4 : decide (1 ≤ x3) = true := decide_eq_true h4
  by_cases h5 : x3 ≤ 3
  rotate_left
  · have b5 : decide (x3 ≤ 3) = false := decide_eq_false h5
    refine aw_reg fun K hK => ?_; simp (maxSteps := 1000000) (disch := omega) [-List.getD_eq_getElem?_getD, b0, h0, b1, h1, b2, h2, b3, h3, b4, h4, b5, h5]; refine hK _ ?_; clear hK K
    refine aw_ret ?_; simp (maxSteps := 1000000) (disch := omega) [-List.getD_eq_getElem?_getD]
    all_goals omega
  have b5 : decide (x3 ≤ 3) = true := decide_eq_true h5
  refine aw_reg fun K hK => ?_; simp (maxSteps := 1000000) (disch := omega) [-List.getD_eq_getElem?_getD, b0, h0, b1, h1, b2, h2, b3, h3, b4, h4, b5, h5]; refine hK _ ?_; clear hK K
  refine aw_ret ?_; simp (maxSteps := 1000000) (disch := omega) [-List.getD_eq_getElem?_getD]
  all_goals omega

set_option maxRecDepth 100000 in
set_option maxHeartbeats 4000000 in
theorem less_ok (x y : Mp) (H : List Blk) (T : Toks) : ACall Tryz.prog 35 [.agg (mc x), .agg (mc y)] H T (Is (.bool (lt2 x y)) H T) := by
  refine ACall.drop' ?_ (by simp)
  obtain ⟨x1, x2, x3⟩ := x
  obtain ⟨y1, y2, y3⟩ := y
  generalize hq : lt2 (x1, x2, x3) (y1, y2, y3) = q
  simp only [lt2] at hq
  simp only [mc]
  refine acall_enter 5 [] Tryz.ntmps35 Tryz.func35 rfl (fun _ _ => Tryz.call35 _ _) (by simp) (fun HO => ?_)
  refine aw_reg fun K hK => ?_; simp (maxSteps := 1000000) (disch := omega) [-List.getD_eq_getElem?_getD]; refine hK _ ?_; clear hK K
  by_cases h1 : x1 < y1
  · have b1 : decide (x1 < y1) = true := decide_eq_true h1
    refine aw_reg fun K hK => ?_; simp (maxSteps := 1000000) (disch := omega) [-List.getD_eq_getElem?_getD, b1, h1]; refine hK _ ?_; clear hK K
    refine aw_ret ?_; simp (maxSteps := 1000000) (disch := omega) [-List.getD_eq_getElem?_getD]
    exact hq.symm.trans (decide_eq_true (.inl h1))
  · have b1 : decide (x1 < y1) = false := decide_eq_false h1
    by_cases h2 : x1 = y1
    · subst h2
      by_cases h3 : x2 < y2
      · have b3 : decide (x2 < y2) = true := decide_eq_true h3
        refine aw_reg fun K hK => ?_; simp (maxSteps := 1000000) (disch := omega) [-List.getD_eq_getElem?_getD, b3, h3]; refine hK _ ?_; clear hK K
        refine aw_ret ?_; simp (maxSteps := 1000000) (disch := omega) [-List.getD_eq_getElem?_getD]
        exact hq.symm.trans (decide_eq_true (.inr ⟨rfl, h3⟩))
      · have b3 : decide (x2 < y2) = false := decide_eq_false h3
        refine aw_reg fun K hK => ?_; simp (maxSteps := 1000000) (disch := omega) [-List.getD_eq_getElem?_getD, b3, h3]; refine hK _ ?_; clear hK K
        refine aw_ret ?_; simp (maxSteps := 1000000) (disch := omega) [-List.getD_eq_getElem?_getD]
        exact hq.symm.trans (decide_eq_false (by omega))
    · have b2 : (x1 == y1) = false := beq_eq_false_iff_ne.2 h2
      refine aw_reg fun K hK => ?_; simp (maxSteps := 1000000) (disch := omega) [-List.getD_eq_getElem?_getD, b1, h1, b2, h2]; refine hK _ ?_; clear hK K
      refine aw_ret ?_; simp (maxSteps := 1000000) (disch := omega) [-List.getD_eq_getElem?_getD]
      exact hq.symm.trans (decide_eq_false (by omega))
end Go.Proofs.YtfdlngemkhiiiaaGreatDoor
