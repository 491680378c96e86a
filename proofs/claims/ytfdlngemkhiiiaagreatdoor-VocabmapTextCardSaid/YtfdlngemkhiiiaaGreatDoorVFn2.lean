/- Valid lists of mappings (layer 26): the program's and the reference's.
   Conditions: lengths below 2^40, as each theorem says. -/
import Derived.Test.YtfdlngemkhiiiaaGreatDoorVFn1
namespace Go.Proofs.YtfdlngemkhiiiaaGreatDoor
open Go Go.Am Voc
set_option linter.unusedVariables false

theorem mcD (l : List Mp) (k : Nat) : mc (l.getD k d0) = [.int .i64 (l.getD k d0).1, .int .i64 (l.getD k d0).2.1, .int .i64 (l.getD k d0).2.2] := rfl

set_option maxRecDepth 100000 in
set_option maxHeartbeats 4000000 in
theorem validP_ok (l : List Mp) (hl : l.length ≤ 1099511627776) (H : List Blk) (T : Toks) (tg : Tag) :
    ACall Tryz.prog 11 [.sl l.length (mpAV l) tg] H T (Is (.bool (validM l)) H T) := by
  refine ACall.untag1 ?_
  refine ACall.drop' ?_ (by simp)
  generalize hq : validM l = q
  refine acall_enter 9 [] Tryz.ntmps11 Tryz.func11 rfl (fun _ _ => Tryz.call11 _ _) (by simp) (fun HO => ?_)
  refine aw_reg fun K hK => ?_; simp (maxSteps := 1000000) (disch := omega) [-List.getD_eq_getElem?_getD]; refine hK _ ?_; clear hK K
  refine aw_then fun K1 hK1 => ?_
  refine aw_reg fun K hK => ?_; simp (maxSteps := 1000000) (disch := omega) [-List.getD_eq_getElem?_getD]; refine hK _ ?_; clear hK K
  refine aw_block ?_
  refine aw_loop (X := Nat) (fun k => ⟨[(0, .sl l.length (mpAV l) .none), (5, .sl l.length (mpAV l) .none), (6, .int .i64 (l.length : Nat)), (7, .int .i64 (k : Nat))], H, T⟩) (fun k => k ≤ l.length ∧ ∀ j, j < k → (goodM (l.getD j d0) && upM l j) = true) (fun k => l.length - k) 0 ?_ ?_ ?_
  · exact ⟨Nat.zero_le _, fun j hj => absurd hj (Nat.not_lt_zero _)⟩
  · refine weak_to [] [] ?_ ?_ ?_ ?_ HO ?_
    all_goals simp
  · rintro k ⟨h1, h2⟩
    refine aw_reg fun K hK => ?_; simp (maxSteps := 1000000) (disch := omega) [-List.getD_eq_getElem?_getD]; refine hK _ ?_; clear hK K
    refine aw_then fun K2 hK2 => ?_
    refine aw_if rfl (fun hk => ?_) (fun hk => ?_)
    · simp [-List.getD_eq_getElem?_getD] at hk
      have hcut := mpAV_cut l k hk
      refine aw_skip ?_; simp (maxSteps := 1000000) (disch := omega) [-List.getD_eq_getElem?_getD]
      refine hK2 _ ?_; clear hK2
      refine aw_then fun K3 hK3 => ?_
      refine aw_block ?_
      refine aw_reg fun K hK => ?_; simp (maxSteps := 1000000) (disch := omega) [-List.getD_eq_getElem?_getD, hcut, mpAV_len]; refine hK _ ?_; clear hK K
      refine aw_draw [] [] [] drawMixed (by kernel_rfl) (by kernel_rfl) fun K hK => ?_
      have key : ∀ e b, b = (goodM (l.getD k d0) && upM l k) → envLe H.length T.length e [(0, .sl l.length (mpAV l) .none), (5, .sl l.length (mpAV l) .none), (6, .int .i64 (l.length : Nat)), (7, .int .i64 (k : Nat)), (28, .bool (!b))] → K ⟨e, H ++ [.cells (mc (l.getD k d0))], T⟩ := by
        intro e b hb he
        refine hK _ (aw_weak ⟨[(0, .sl l.length (mpAV l) .none), (5, .sl l.length (mpAV l) .none), (6, .int .i64 (l.length : Nat)), (7, .int .i64 (k : Nat)), (28, .bool (!b))], H, T⟩ (weak_to [.cells (mc (l.getD k d0))] [] (by simp) (by simp) (by simp) (by simp) HO he) ?_)
        cases b with
        | false =>
          refine aw_if rfl (fun h => ?_) (fun h => absurd h (by simp))
          refine aw_reg fun K hK => ?_; simp (maxSteps := 1000000) (disch := omega) [-List.getD_eq_getElem?_getD]; refine hK _ ?_; clear hK K
          refine aw_ret ?_; simp (maxSteps := 1000000) (disch := omega) [-List.getD_eq_getElem?_getD]
          rw [← hq, validM_bad hk hb.symm]
        | true =>
          refine aw_if rfl (fun h => absurd h (by simp)) (fun h => ?_)
          refine aw_skip ?_; simp (maxSteps := 1000000) (disch := omega) [-List.getD_eq_getElem?_getD]
          refine hK3 _ ?_; clear hK3
          refine aw_reg0 fun K hK => ?_; simp (maxSteps := 1000000) (disch := omega) [-List.getD_eq_getElem?_getD]
          refine hK _ ?_; clear hK K
          refine ⟨k + 1, ⟨by show k + 1 ≤ _; omega, fun j hj => ?_⟩, by show l.length - (k + 1) < l.length - k; omega, ?_⟩
          · rcases Nat.lt_or_ge j k with h3 | h3
            · exact h2 j h3
            · have : j = k := by omega
              subst this; exact hb.symm
          · refine weak_to [] [] ?_ ?_ ?_ ?_ HO ?_
            all_goals simp
      clear hK
      simp only [mcD] at key
      have c := fun H T => good_ok (l.getD k d0) H T
      simp only [mcD] at c
      cases hw : goodM (l.getD k d0) with
      | false =>
        simp only [hw] at c
        simp (maxSteps := 1000000) (disch := omega) [-List.getD_eq_getElem?_getD]
        refine dcall_is (c _ _) rfl ?_; simp (maxSteps := 1000000) (disch := omega) [-List.getD_eq_getElem?_getD]
        refine key _ false ?_ (by simp)
        simp only [hw, Bool.false_and]
      | true =>
        simp only [hw] at c
        rcases Nat.eq_zero_or_pos k with h5 | h5
        · subst h5
          simp (maxSteps := 1000000) (disch := omega) [-List.getD_eq_getElem?_getD]
          refine dcall_is (c _ _) rfl ?_; simp (maxSteps := 1000000) (disch := omega) [-List.getD_eq_getElem?_getD]
          refine key _ true ?_ (by simp)
          simp only [hw, upM]
          rfl
        · obtain ⟨j, rfl⟩ : ∃ j, k = j + 1 := ⟨k - 1, by omega⟩
          have hcut2 := mpAV_cut l j (by omega)
          have hup : upM l (j + 1) = lt2 (l.getD j d0) (l.getD (j + 1) d0) := by simp [upM, -List.getD_eq_getElem?_getD]
          have b5 : decide ((0 : Int) < ((j + 1 : Nat) : Int)) = true := decide_eq_true (by omega)
          have b6 : (0 : Int) < (j : Int) + 1 := by omega
          have c2 := fun H T => order_ok (l.getD j d0) (l.getD (j + 1) d0) H T
          simp only [mcD] at c2
          have hn := ordM_neg (l.getD j d0) (l.getD (j + 1) d0)
          generalize ordM (l.getD j d0) (l.getD (j + 1) d0) = o at *
          by_cases h7 : o < 0
          · have b7 : decide (0 ≤ o) = false := decide_eq_false (by omega)
            have n7 : ¬ 0 ≤ o := by omega
            simp (maxSteps := 1000000) (disch := omega) [-List.getD_eq_getElem?_getD]
            refine dcall_is (c _ _) rfl ?_; simp (maxSteps := 1000000) (disch := omega) [-List.getD_eq_getElem?_getD, b5, b6, hcut2, mpAV_len]
            refine dcall_is (c2 _ _) rfl ?_; simp (maxSteps := 1000000) (disch := omega) [-List.getD_eq_getElem?_getD, b7, n7]
            refine key _ true ?_ (by simp)
            simp only [hw, hup, hn.1 h7, Bool.true_and]
          · have b7 : decide (0 ≤ o) = true := decide_eq_true (by omega)
            have n7 : 0 ≤ o := by omega
            simp (maxSteps := 1000000) (disch := omega) [-List.getD_eq_getElem?_getD]
            refine dcall_is (c _ _) rfl ?_; simp (maxSteps := 1000000) (disch := omega) [-List.getD_eq_getElem?_getD, b5, b6, hcut2, mpAV_len]
            refine dcall_is (c2 _ _) rfl ?_; simp (maxSteps := 1000000) (disch := omega) [-List.getD_eq_getElem?_getD, b7, n7]
            refine key _ false ?_ (by simp)
            have : lt2 (l.getD j d0) (l.getD (j + 1) d0) = false := by
              cases h : lt2 (l.getD j d0) (l.getD (j + 1) d0) with
              | false => rfl
              | true => exact absurd (hn.2 h) h7
            simp only [hw, hup, this, Bool.true_and]
    · simp [-List.getD_eq_getElem?_getD] at hk
      have hn := validM_rest (l := l) (fun j hj => h2 j (by omega))
      rw [hq] at hn
      subst hn
      refine aw_exit ?_; simp (maxSteps := 1000000) (disch := omega) [-List.getD_eq_getElem?_getD]
      refine hK1 _ ?_; clear hK1
      by_cases h3 : l.length ≤ 500
      · have b3 : decide ((l.length : Int) ≤ 500) = true := decide_eq_true (by omega)
        refine aw_reg fun K hK => ?_; simp (maxSteps := 1000000) (disch := omega) [-List.getD_eq_getElem?_getD, b3, h3]; refine hK _ ?_; clear hK K
        refine aw_ret ?_; simp (maxSteps := 1000000) (disch := omega) [-List.getD_eq_getElem?_getD]
        all_goals omega
      · have b3 : decide ((l.length : Int) ≤ 500) = false := decide_eq_false (by omega)
        refine aw_reg fun K hK => ?_; simp (maxSteps := 1000000) (disch := omega) [-List.getD_eq_getElem?_getD, b3, h3]; refine hK _ ?_; clear hK K
        refine aw_ret ?_; simp (maxSteps := 1000000) (disch := omega) [-List.getD_eq_getElem?_getD]
        all_goals omega

set_option maxRecDepth 100000 in
set_option maxHeartbeats 4000000 in
theorem validR_ok (l : List Mp) (hl : l.length ≤ 1099511627776) (H : List Blk) (T : Toks) (tg : Tag) :
    ACall Tryz.prog 17 [.sl l.length (mpAV l) tg] H T (Is (.bool (validM l)) H T) := by
  refine ACall.untag1 ?_
  generalize hq : validM l = q
  refine acall_enter 4 [] Tryz.ntmps17 Tryz.func17 rfl (fun _ _ => Tryz.call17 _ _) (by simp) (fun HO => ?_)
  refine aw_reg fun K hK => ?_; simp (maxSteps := 1000000) (disch := omega) [-List.getD_eq_getElem?_getD]; refine hK _ ?_; clear hK K
  refine aw_then fun K1 hK1 => ?_
  refine aw_reg fun K hK => ?_; simp (maxSteps := 1000000) (disch := omega) [-List.getD_eq_getElem?_getD]; refine hK _ ?_; clear hK K
  refine aw_block ?_
  refine aw_loop (X := Nat) (fun k => ⟨[(0, .sl l.length (mpAV l) .none), (3, .int .i64 (k : Nat))], H, T⟩) (fun k => k ≤ l.length ∧ ∀ j, j < k → (goodM (l.getD j d0) && upM l j) = true) (fun k => l.length - k) 0 ?_ ?_ ?_
  · exact ⟨Nat.zero_le _, fun j hj => absurd hj (Nat.not_lt_zero _)⟩
  · refine weak_to [] [] ?_ ?_ ?_ ?_ HO ?_
    all_goals simp
  · rintro k ⟨h1, h2⟩
    refine aw_then fun K2 hK2 => ?_
    refine aw_reg fun K hK => ?_; simp (maxSteps := 1000000) (disch := omega) [-List.getD_eq_getElem?_getD]; refine hK _ ?_; clear hK K
    refine aw_if rfl (fun hk => ?_) (fun hk => ?_)
    · simp [-List.getD_eq_getElem?_getD] at hk
      have hcut := mpAV_cut l k hk
      refine aw_skip ?_; simp (maxSteps := 1000000) (disch := omega) [-List.getD_eq_getElem?_getD]
      refine hK2 _ ?_; clear hK2
      refine aw_then fun K3 hK3 => ?_
      refine aw_block ?_
      refine aw_draw [] [] [] drawMixed (by kernel_rfl) (by kernel_rfl) fun K hK => ?_
      have key : ∀ e b, b = (goodM (l.getD k d0) && upM l k) → envLe H.length T.length e [(0, .sl l.length (mpAV l) .none), (3, .int .i64 (k : Nat)), (32, .bool (!b))] → K ⟨e, H, T⟩ := by
        intro e b hb he
        refine hK _ (aw_weak ⟨[(0, .sl l.length (mpAV l) .none), (3, .int .i64 (k : Nat)), (32, .bool (!b))], H, T⟩ (weak_to [] [] (by simp) (by simp) (by simp) (by simp) HO he) ?_)
        cases b with
        | false =>
          refine aw_if rfl (fun h => ?_) (fun h => absurd h (by simp))
          refine aw_reg fun K hK => ?_; simp (maxSteps := 1000000) (disch := omega) [-List.getD_eq_getElem?_getD]; refine hK _ ?_; clear hK K
          refine aw_ret ?_; simp (maxSteps := 1000000) (disch := omega) [-List.getD_eq_getElem?_getD]
          rw [← hq, validM_bad hk hb.symm]
          exact ⟨rfl, rfl, rfl⟩
        | true =>
          refine aw_if rfl (fun h => absurd h (by simp)) (fun h => ?_)
          refine aw_skip ?_; simp (maxSteps := 1000000) (disch := omega) [-List.getD_eq_getElem?_getD]
          refine hK3 _ ?_; clear hK3
          refine aw_reg0 fun K hK => ?_; simp (maxSteps := 1000000) (disch := omega) [-List.getD_eq_getElem?_getD]
          refine hK _ ?_; clear hK K
          refine ⟨k + 1, ⟨by show k + 1 ≤ _; omega, fun j hj => ?_⟩, by show l.length - (k + 1) < l.length - k; omega, ?_⟩
          · rcases Nat.lt_or_ge j k with h3 | h3
            · exact h2 j h3
            · have : j = k := by omega
              subst this; exact hb.symm
          · refine weak_to [] [] ?_ ?_ ?_ ?_ HO ?_
            all_goals simp
      clear hK
      have c := fun H T => one_ok (l.getD k d0) H T
      simp only [mcD] at c
      cases hw : goodM (l.getD k d0) with
      | false =>
        simp only [hw] at c
        simp (maxSteps := 1000000) (disch := omega) [-List.getD_eq_getElem?_getD, hcut, mpAV_len]
        refine dcall_is (c _ _) rfl ?_; simp (maxSteps := 1000000) (disch := omega) [-List.getD_eq_getElem?_getD]
        refine key _ false ?_ (by simp)
        simp only [hw, Bool.false_and]
      | true =>
        simp only [hw] at c
        rcases Nat.eq_zero_or_pos k with h5 | h5
        · subst h5
          have hc0 : (mpAV l).take 3 = [.int .i64 (l.getD 0 d0).1, .int .i64 (l.getD 0 d0).2.1, .int .i64 (l.getD 0 d0).2.2] := by rw [← hcut, Nat.zero_mul, List.drop_zero]
          simp (maxSteps := 1000000) (disch := omega) [-List.getD_eq_getElem?_getD, hc0, mpAV_len]
          refine dcall_is (c _ _) rfl ?_; simp (maxSteps := 1000000) (disch := omega) [-List.getD_eq_getElem?_getD]
          refine key _ true ?_ (by simp)
          simp only [hw, upM]
          rfl
        · obtain ⟨j, rfl⟩ : ∃ j, k = j + 1 := ⟨k - 1, by omega⟩
          have hcut2 := mpAV_cut l j (by omega)
          have hup : upM l (j + 1) = lt2 (l.getD j d0) (l.getD (j + 1) d0) := by simp [upM, -List.getD_eq_getElem?_getD]
          have b5 : decide ((0 : Int) < ((j + 1 : Nat) : Int)) = true := decide_eq_true (by omega)
          have b6 : (0 : Int) < (j : Int) + 1 := by omega
          have c2 := fun H T => less_ok (l.getD j d0) (l.getD (j + 1) d0) H T
          simp only [mcD] at c2
          simp (maxSteps := 1000000) (disch := omega) [-List.getD_eq_getElem?_getD, hcut, mpAV_len]
          refine dcall_is (c _ _) rfl ?_; simp (maxSteps := 1000000) (disch := omega) [-List.getD_eq_getElem?_getD, b5, b6, hcut, hcut2, mpAV_len]
          refine dcall_is (c2 _ _) rfl ?_; simp (maxSteps := 1000000) (disch := omega) [-List.getD_eq_getElem?_getD]
          refine key _ (lt2 (l.getD j d0) (l.getD (j + 1) d0)) ?_ (by simp)
          simp only [hw, hup, Bool.true_and]
    · simp [-List.getD_eq_getElem?_getD] at hk
      have hn := validM_rest (l := l) (fun j hj => h2 j (by omega))
      rw [hq] at hn
      subst hn
      refine aw_exit ?_; simp (maxSteps := 1000000) (disch := omega) [-List.getD_eq_getElem?_getD]
      refine hK1 _ ?_; clear hK1
      by_cases h3 : l.length ≤ 500
      · have b3 : decide ((l.length : Int) ≤ 500) = true := decide_eq_true (by omega)
        refine aw_reg fun K hK => ?_; simp (maxSteps := 1000000) (disch := omega) [-List.getD_eq_getElem?_getD, b3, h3]; refine hK _ ?_; clear hK K
        refine aw_ret ?_; simp (maxSteps := 1000000) (disch := omega) [-List.getD_eq_getElem?_getD]
        exact ⟨by simp [h3], rfl, rfl⟩
      · have b3 : decide ((l.length : Int) ≤ 500) = false := decide_eq_false (by omega)
        refine aw_reg fun K hK => ?_; simp (maxSteps := 1000000) (disch := omega) [-List.getD_eq_getElem?_getD, b3, h3]; refine hK _ ?_; clear hK K
        refine aw_ret ?_; simp (maxSteps := 1000000) (disch := omega) [-List.getD_eq_getElem?_getD]
        exact ⟨by simp [h3], rfl, rfl⟩
end Go.Proofs.YtfdlngemkhiiiaaGreatDoor
