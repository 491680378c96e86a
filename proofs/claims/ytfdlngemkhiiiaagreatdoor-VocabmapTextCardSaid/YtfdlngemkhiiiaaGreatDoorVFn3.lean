/- Copies in order; searching by From (layer 26).
   Conditions: lengths below 2^40, as each theorem says. -/
import Derived.Test.YtfdlngemkhiiiaaGreatDoorVSort
namespace Go.Proofs.YtfdlngemkhiiiaaGreatDoor
open Go Go.Am Voc
set_option linter.unusedVariables false

theorem amade_zero (zs : List AV) : amade zs 0 = [] := rfl

theorem clone_ok (l : List Mp) (h0 : l ≠ []) (hl : l.length ≤ 1099511627776) (H : List Blk) (T : Toks) (tg : Tag) :
    ACall Tryz.prog 14 [.sl l.length (mpAV l) tg] H T
      (fun r H' T' => T' = T ∧ ∃ nc, l.length ≤ nc ∧ H' = H ++ [.cells (mpAV l ++ List.replicate ((nc - l.length) * 3) .top)] ∧ r = .csl H.length l.length nc) := by
  refine ACall.untag1 ?_
  have hpos : 0 < l.length := List.length_pos_iff.2 h0
  have hne : ¬ l = [] := h0
  refine acall_enter 3 [100007] Tryz.ntmps14 Tryz.func14 rfl (fun _ _ => Tryz.call14 _ _) (by simp) (fun HO => ?_)
  refine aw_reg fun K hK => ?_; simp (maxSteps := 1000000) (disch := omega) [-List.getD_eq_getElem?_getD]; refine hK _ ?_; clear hK K
  refine aw_then fun K1 hK1 => ?_
  refine aw_reg fun K hK => ?_; simp (maxSteps := 1000000) (disch := omega) [-List.getD_eq_getElem?_getD]
  refine ⟨?_, fun he => absurd he hne⟩
  refine hK _ ?_; clear hK K
  refine aw_if rfl (fun h => absurd h (by simp)) (fun h => ?_)
  refine aw_skip ?_; simp (maxSteps := 1000000) (disch := omega) [-List.getD_eq_getElem?_getD]
  refine hK1 _ ?_; clear hK1
  refine aw_reg fun K hK => ?_; simp (maxSteps := 1000000) (disch := omega) [-List.getD_eq_getElem?_getD, amade_zero, mpAV_len, hpos]
  intro nc hnc
  refine hK _ ?_; clear hK K
  refine aw_ret ?_; simp (maxSteps := 1000000) (disch := omega) [-List.getD_eq_getElem?_getD]
  exact hnc

theorem clone0_ok (H : List Blk) (T : Toks) (tg : Tag) :
    ACall Tryz.prog 14 [.sl 0 [] tg] H T (Is (.sl 0 [] .none) H T) := by
  refine ACall.untag1 ?_
  refine ACall.drop' ?_ (by simp)
  refine acall_enter 3 [] Tryz.ntmps14 Tryz.func14 rfl (fun _ _ => Tryz.call14 _ _) (by simp) (fun HO => ?_)
  refine aw_reg fun K hK => ?_; simp (maxSteps := 1000000) (disch := omega) [-List.getD_eq_getElem?_getD]; refine hK _ ?_; clear hK K
  refine aw_then fun K1 hK1 => ?_
  refine aw_reg fun K hK => ?_; simp (maxSteps := 1000000) (disch := omega) [-List.getD_eq_getElem?_getD]
  constructor
  · refine hK _ ?_; clear hK K
    refine aw_if rfl (fun h => absurd h (by simp)) (fun h => ?_)
    refine aw_skip ?_; simp (maxSteps := 1000000) (disch := omega) [-List.getD_eq_getElem?_getD]
    refine hK1 _ ?_; clear hK1
    refine aw_reg fun K hK => ?_; simp (maxSteps := 1000000) (disch := omega) [-List.getD_eq_getElem?_getD, amade_zero]
    refine hK _ ?_; clear hK K
    refine aw_ret ?_; simp (maxSteps := 1000000) (disch := omega) [-List.getD_eq_getElem?_getD]
  · refine hK _ ?_; clear hK K
    refine aw_if rfl (fun h => ?_) (fun h => absurd h (by simp))
    refine aw_reg fun K hK => ?_; simp (maxSteps := 1000000) (disch := omega) [-List.getD_eq_getElem?_getD]; refine hK _ ?_; clear hK K
    refine aw_ret ?_; simp (maxSteps := 1000000) (disch := omega) [-List.getD_eq_getElem?_getD]

theorem sortedB_ok (l : List Mp) (h0 : l ≠ []) (hl : l.length ≤ 1099511627776) (H : List Blk) (T : Toks) (tg : Tag) :
    ACall Tryz.prog 25 [.sl l.length (mpAV l) tg] H T
      (fun r H' T' => T' = T ∧ ∃ nc, l.length ≤ nc ∧ H' = H ++ [.cells (mpAV (sortM l) ++ List.replicate ((nc - l.length) * 3) .top)] ∧ r = .csl H.length l.length nc) := by
  refine ACall.untag1 ?_
  have c := clone_ok l h0 hl H T .none
  refine acall_enter 4 [] Tryz.ntmps25 Tryz.func25 rfl (fun _ _ => Tryz.call25 _ _) (by simp) (fun HO => ?_)
  refine aw_reg fun K hK => ?_; simp (maxSteps := 1000000) (disch := omega) [-List.getD_eq_getElem?_getD]; refine hK _ ?_; clear hK K
  refine aw_reg fun K hK => ?_; simp (maxSteps := 1000000) (disch := omega) [-List.getD_eq_getElem?_getD]
  refine ⟨_, c, ?_⟩
  rintro v H' T' ⟨rfl, nc, hnc, rfl, rfl⟩
  simp (maxSteps := 1000000) (disch := omega) [-List.getD_eq_getElem?_getD]
  refine hK _ ?_; clear hK K
  have c2 := sortFn_ok l (List.replicate ((nc - l.length) * 3) .top) H.length nc hl (H ++ [.cells (mpAV l ++ List.replicate ((nc - l.length) * 3) .top)]) T' (by simp)
  refine aw_reg fun K hK => ?_; simp (maxSteps := 1000000) (disch := omega) [-List.getD_eq_getElem?_getD]
  refine acall_is (c2) ?_; simp (maxSteps := 1000000) (disch := omega) [-List.getD_eq_getElem?_getD]
  refine hK _ ?_; clear hK K
  refine aw_reg fun K hK => ?_; simp (maxSteps := 1000000) (disch := omega) [-List.getD_eq_getElem?_getD]; refine hK _ ?_; clear hK K
  refine aw_ret ?_; simp (maxSteps := 1000000) (disch := omega) [-List.getD_eq_getElem?_getD]
  exact hnc

theorem sorted_ok (l : List Mp) (hl : l.length ≤ 1099511627776) (H : List Blk) (T : Toks) (tg : Tag) :
    ACall Tryz.prog 25 [.sl l.length (mpAV l) tg] H T (Is (.sl l.length (mpAV (sortM l)) .none) H T) := by
  by_cases h0 : l = []
  · subst h0
    refine ACall.untag1 ?_
    refine ACall.drop' ?_ (by simp [sortM])
    have c := clone0_ok H T .none
    have c2 := sortFn0_ok H T .none
    have e : sortM [] = [] := by simp [sortM]
    refine acall_enter 4 [] Tryz.ntmps25 Tryz.func25 rfl (fun _ _ => Tryz.call25 _ _) (by simp) (fun HO => ?_)
    refine aw_reg fun K hK => ?_; simp (maxSteps := 1000000) (disch := omega) [-List.getD_eq_getElem?_getD]; refine hK _ ?_; clear hK K
    refine aw_reg fun K hK => ?_; simp (maxSteps := 1000000) (disch := omega) [-List.getD_eq_getElem?_getD, mpAV_nil]
    refine acall_is (c) ?_; simp (maxSteps := 1000000) (disch := omega) [-List.getD_eq_getElem?_getD]
    refine hK _ ?_; clear hK K
    refine aw_reg fun K hK => ?_; simp (maxSteps := 1000000) (disch := omega) [-List.getD_eq_getElem?_getD]
    refine acall_is (c2) ?_; simp (maxSteps := 1000000) (disch := omega) [-List.getD_eq_getElem?_getD]
    refine hK _ ?_; clear hK K
    refine aw_reg fun K hK => ?_; simp (maxSteps := 1000000) (disch := omega) [-List.getD_eq_getElem?_getD]; refine hK _ ?_; clear hK K
    refine aw_ret ?_; simp (maxSteps := 1000000) (disch := omega) [-List.getD_eq_getElem?_getD]
    all_goals simp [e, mpAV_nil]
  · refine ACall.freezeAt (by simp) ?_
    refine (sortedB_ok l h0 hl H T tg).mono ?_
    rintro r H' T' ⟨rfl, nc, hnc, rfl, rfl⟩
    exact ⟨⟨_, rfl⟩, ⟨[], by simp⟩, .inr ⟨H.length, nc, List.replicate ((nc - l.length) * 3) .top, rfl, Nat.le_refl _, by simp⟩⟩

/-- The first mapping of a list whose From is not less than a number. -/
def LowQ (l : List Mp) (n : Int) (H : List Blk) (T : Toks) : AV → List Blk → Toks → Prop := fun r H' T' => H' = H ∧ T' = T ∧ ∃ (i : Nat) (b : Bool), r = .tup [.int .i64 (i : Nat), .bool b] ∧ i ≤ l.length ∧
  (validM l = true → (∀ j, j < i → (l.getD j d0).1 < n) ∧ ∀ j, i ≤ j → j < l.length → n ≤ (l.getD j d0).1)

theorem validM_le {l : List Mp} (hv : validM l = true) : ∀ {i j : Nat}, i ≤ j → j < l.length → (l.getD i d0).1 ≤ (l.getD j d0).1 := by
  intro i j hij
  induction j with
  | zero => intro _; have : i = 0 := by omega
            subst this; exact Int.le_refl _
  | succ j ih =>
    intro hj
    rcases Nat.lt_or_ge i (j + 1) with h | h
    · have h1 := ih (by omega) (by omega)
      have h2 := (((validM_iff l).1 hv).1 (j + 1) hj).2
      simp only [upM, Nat.add_eq_zero_iff, Nat.one_ne_zero, and_false, decide_false, Bool.false_or, Nat.add_sub_cancel, lt2, decide_eq_true_eq] at h2
      omega
    · have : i = j + 1 := by omega
      subst this; exact Int.le_refl _

set_option maxRecDepth 100000 in
set_option maxHeartbeats 4000000 in
theorem bsearch_ok (l : List Mp) (w : Int) (hl : l.length ≤ 1099511627776) (H : List Blk) (T : Toks) (tg : Tag) :
    ACall Tryz.prog 21 [.sl l.length (mpAV l) tg, .int .i64 w, .fn 22 [] []] H T (LowQ l w H T) := by
  refine ACall.untag1 ?_
  refine acall_enter 12 [] Tryz.ntmps21 Tryz.func21 rfl (fun _ _ => Tryz.call21 _ _) (by simp) (fun HO => ?_)
  refine aw_reg fun K hK => ?_; simp (maxSteps := 1000000) (disch := omega) [-List.getD_eq_getElem?_getD]; refine hK _ ?_; clear hK K
  refine aw_reg fun K hK => ?_; simp (maxSteps := 1000000) (disch := omega) [-List.getD_eq_getElem?_getD]; refine hK _ ?_; clear hK K
  refine aw_reg fun K hK => ?_; simp (maxSteps := 1000000) (disch := omega) [-List.getD_eq_getElem?_getD]; refine hK _ ?_; clear hK K
  refine aw_then fun K1 hK1 => ?_
  refine aw_block ?_
  refine aw_loop (X := Nat × Nat) (fun x => ⟨[(0, .sl l.length (mpAV l) .none), (1, .int .i64 w), (2, .fn 22 [] []), (8, .int .i64 (l.length : Nat)), (9, .int .i64 (x.1 : Nat)), (10, .int .i64 (x.2 : Nat))], H, T⟩)
    (fun x => x.1 ≤ x.2 ∧ x.2 ≤ l.length ∧ (validM l = true → (∀ j, j < x.1 → (l.getD j d0).1 < w) ∧ (∀ j, x.2 ≤ j → j < l.length → w ≤ (l.getD j d0).1))) (fun x => x.2 - x.1) (0, l.length) ?_ ?_ ?_
  · exact ⟨Nat.zero_le _, Nat.le_refl _, fun _ => ⟨fun j hj => absurd hj (Nat.not_lt_zero _), fun j h1 h2 => absurd h2 (Nat.not_lt.2 h1)⟩⟩
  · refine weak_to [] [] ?_ ?_ ?_ ?_ HO ?_
    all_goals simp
  · rintro ⟨lo, hi⟩ ⟨h1, h2, h3⟩
    simp only at h1 h2 h3
    refine aw_then fun K2 hK2 => ?_
    refine aw_reg fun K hK => ?_; simp (maxSteps := 1000000) (disch := omega) [-List.getD_eq_getElem?_getD]; refine hK _ ?_; clear hK K
    refine aw_if rfl (fun hk => ?_) (fun hk => ?_)
    · simp [-List.getD_eq_getElem?_getD] at hk
      have hm : (lo + hi) / 2 < l.length := by omega
      have hcut := mpAV_cut l ((lo + hi) / 2) hm
      refine aw_skip ?_; simp (maxSteps := 1000000) (disch := omega) [-List.getD_eq_getElem?_getD]
      refine hK2 _ ?_; clear hK2
      refine aw_block ?_
      refine aw_reg fun K hK => ?_; simp (maxSteps := 1000000) (disch := omega) [-List.getD_eq_getElem?_getD]; refine hK _ ?_; clear hK K
      rw [show ((lo : Int) + hi) / 2 = (((lo + hi) / 2 : Nat) : Int) by omega]
      have hge : lo ≤ (lo + hi) / 2 := by omega
      have hlt : (lo + hi) / 2 < hi := by omega
      generalize (lo + hi) / 2 = m at *
      have c := cfrom_ok (l.getD m d0) w H T
      simp only [mcD] at c
      have hz := cmpI_neg (l.getD m d0).1 w
      generalize cmpI (l.getD m d0).1 w = q at *
      by_cases hc : (l.getD m d0).1 < w
      · have hneg := hz.2 hc
        have bq : decide (q < 0) = true := decide_eq_true hneg
        refine aw_reg fun K hK => ?_; simp (maxSteps := 1000000) (disch := omega) [-List.getD_eq_getElem?_getD, hcut, mpAV_len]
        refine acall_is (c) ?_; simp (maxSteps := 1000000) (disch := omega) [-List.getD_eq_getElem?_getD, bq, hneg]
        refine hK _ ?_; clear hK K
        refine aw_if rfl (fun h => ?_) (fun h => absurd h (by simp))
        refine aw_reg0 fun K hK => ?_; simp (maxSteps := 1000000) (disch := omega) [-List.getD_eq_getElem?_getD]
        refine hK _ ?_; clear hK K
        refine ⟨(m + 1, hi), ⟨by show m + 1 ≤ hi; omega, h2, fun hv => ⟨fun j hj => ?_, (h3 hv).2⟩⟩, by show hi - (m + 1) < hi - lo; omega, ?_⟩
        · have hj' : j ≤ m := Nat.le_of_lt_succ hj
          have := validM_le hv hj' hm
          omega
        · refine weak_to [] [] ?_ ?_ ?_ ?_ HO ?_
          all_goals simp
      · have hneg : ¬ q < 0 := fun h => hc (hz.1 h)
        have bq : decide (q < 0) = false := decide_eq_false hneg
        refine aw_reg fun K hK => ?_; simp (maxSteps := 1000000) (disch := omega) [-List.getD_eq_getElem?_getD, hcut, mpAV_len]
        refine acall_is (c) ?_; simp (maxSteps := 1000000) (disch := omega) [-List.getD_eq_getElem?_getD, bq, hneg]
        refine hK _ ?_; clear hK K
        refine aw_if rfl (fun h => absurd h (by simp)) (fun h => ?_)
        refine aw_reg0 fun K hK => ?_; simp (maxSteps := 1000000) (disch := omega) [-List.getD_eq_getElem?_getD]
        refine hK _ ?_; clear hK K
        refine ⟨(lo, m), ⟨hge, by show m ≤ l.length; omega, fun hv => ⟨(h3 hv).1, fun j hj hj2 => ?_⟩⟩, by show m - lo < hi - lo; omega, ?_⟩
        · have h5 := validM_le hv (i := m) (j := j) hj hj2
          have h6 : w ≤ (l.getD m d0).1 := Int.not_lt.1 hc
          exact Int.le_trans h6 h5
        · refine weak_to [] [] ?_ ?_ ?_ ?_ HO ?_
          all_goals simp
    · simp [-List.getD_eq_getElem?_getD] at hk
      have e : hi = lo := by omega
      subst e
      refine aw_exit ?_; simp (maxSteps := 1000000) (disch := omega) [-List.getD_eq_getElem?_getD]
      refine hK1 _ ?_; clear hK1
      by_cases hn : hi < l.length
      · have hcut := mpAV_cut l hi hn
        have c := cfrom_ok (l.getD hi d0) w H T
        simp only [mcD] at c
        generalize cmpI (l.getD hi d0).1 w = q at *
        cases bq : (q == 0) with
        | true =>
          refine aw_reg fun K hK => ?_; simp (maxSteps := 1000000) (disch := omega) [-List.getD_eq_getElem?_getD, hcut, mpAV_len, hn]
          refine acall_is (c) ?_; simp (maxSteps := 1000000) (disch := omega) [-List.getD_eq_getElem?_getD, bq, beq_iff_eq.1 bq]
          refine hK _ ?_; clear hK K
          refine aw_ret ?_; simp (maxSteps := 1000000) (disch := omega) [-List.getD_eq_getElem?_getD]
          exact ⟨rfl, rfl, hi, true, rfl, by omega, h3⟩
        | false =>
          have hq0 : ¬ q = 0 := beq_eq_false_iff_ne.1 bq
          refine aw_reg fun K hK => ?_; simp (maxSteps := 1000000) (disch := omega) [-List.getD_eq_getElem?_getD, hcut, mpAV_len, hn]
          refine acall_is (c) ?_; simp (maxSteps := 1000000) (disch := omega) [-List.getD_eq_getElem?_getD, bq, hq0]
          refine hK _ ?_; clear hK K
          refine aw_ret ?_; simp (maxSteps := 1000000) (disch := omega) [-List.getD_eq_getElem?_getD]
          exact ⟨rfl, rfl, hi, false, rfl, by omega, h3⟩
      · have bn : decide ((hi : Int) < l.length) = false := by simp; omega
        refine aw_reg fun K hK => ?_; simp (maxSteps := 1000000) (disch := omega) [-List.getD_eq_getElem?_getD, bn, hn]; refine hK _ ?_; clear hK K
        refine aw_ret ?_; simp (maxSteps := 1000000) (disch := omega) [-List.getD_eq_getElem?_getD]
        exact ⟨rfl, rfl, hi, false, rfl, by omega, h3⟩
end Go.Proofs.YtfdlngemkhiiiaaGreatDoor
