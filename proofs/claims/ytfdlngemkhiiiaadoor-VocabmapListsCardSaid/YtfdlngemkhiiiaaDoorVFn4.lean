/- What is not permitted; compacting; the program's Of (layer 26).
   Conditions: lengths below 2^40, as each theorem says. -/
import Derived.Test.YtfdlngemkhiiiaaDoorVPl5
import Derived.Test.YtfdlngemkhiiiaaDoorSFrz
import Derived.Test.YtfdlngemkhiiiaaDoorSFrz2
namespace Go.Proofs.YtfdlngemkhiiiaaDoor
open Go Go.Am Voc
set_option linter.unusedVariables false

theorem bad_ok (x : Mp) (H : List Blk) (T : Toks) : ACall Tryd.prog 19 [.agg (mc x)] H T (Is (.bool (!goodM x)) H T) := by
  refine ACall.drop' ?_ (by simp)
  have c := fun H T => good_ok x H T
  generalize goodM x = b at *
  obtain ⟨x1, x2, x3⟩ := x
  simp only [mc] at *
  refine acall_enter 3 [] Tryd.ntmps19 Tryd.func19 rfl (fun _ _ => Tryd.call19 _ _) (by simp) (fun HO => ?_)
  refine aw_reg fun K hK => ?_; simp (maxSteps := 1000000) (disch := omega) [-List.getD_eq_getElem?_getD]; refine hK _ ?_; clear hK K
  refine aw_reg fun K hK => ?_; simp (maxSteps := 1000000) (disch := omega) [-List.getD_eq_getElem?_getD]
  refine acall_is (c _ _) ?_; simp (maxSteps := 1000000) (disch := omega) [-List.getD_eq_getElem?_getD]
  refine hK _ ?_; clear hK K
  refine aw_ret ?_; simp (maxSteps := 1000000) (disch := omega) [-List.getD_eq_getElem?_getD]

set_option maxRecDepth 100000 in
set_option maxHeartbeats 4000000 in
theorem idxBad_ok (l : List Mp) (hl : l.length ≤ 1099511627776) (H : List Blk) (T : Toks) (tg : Tag) :
    ACall Tryd.prog 36 [.sl l.length (mpAV l) tg, .fn 19 [] []] H T
      (fun r H' T' => H' = H ∧ T' = T ∧ ((l.all goodM = true ∧ r = .int .i64 (-1)) ∨ (l.all goodM = false ∧ ∃ k : Nat, r = .int .i64 (k : Nat)))) := by
  refine ACall.untag1 ?_
  generalize hq : l.all goodM = q
  refine acall_enter 9 [] Tryd.ntmps36 Tryd.func36 rfl (fun _ _ => Tryd.call36 _ _) (by simp) (fun HO => ?_)
  refine aw_reg fun K hK => ?_; simp (maxSteps := 1000000) (disch := omega) [-List.getD_eq_getElem?_getD]; refine hK _ ?_; clear hK K
  refine aw_then fun K1 hK1 => ?_
  refine aw_reg fun K hK => ?_; simp (maxSteps := 1000000) (disch := omega) [-List.getD_eq_getElem?_getD]; refine hK _ ?_; clear hK K
  refine aw_block ?_
  refine aw_loop (X := Nat) (fun k => ⟨[(0, .sl l.length (mpAV l) .none), (1, .fn 19 [] []), (7, .int .i64 (l.length : Nat)), (8, .int .i64 (k : Nat))], H, T⟩) (fun k => k ≤ l.length ∧ ∀ j, j < k → goodM (l.getD j d0) = true) (fun k => l.length - k) 0 ?_ ?_ ?_
  · exact ⟨Nat.zero_le _, fun j hj => absurd hj (Nat.not_lt_zero _)⟩
  · refine weak_to [] [] ?_ ?_ ?_ ?_ HO ?_
    all_goals simp
  · rintro k ⟨h1, h2⟩
    refine aw_reg fun K hK => ?_; simp (maxSteps := 1000000) (disch := omega) [-List.getD_eq_getElem?_getD]; refine hK _ ?_; clear hK K
    refine aw_then fun K2 hK2 => ?_
    refine aw_if rfl (fun hk => ?_) (fun hk => ?_)
    · simp [-List.getD_eq_getElem?_getD] at hk
      have hcut := mpAV_cut l k hk
      have c := fun H T => bad_ok (l.getD k d0) H T
      simp only [mcD] at c
      refine aw_skip ?_; simp (maxSteps := 1000000) (disch := omega) [-List.getD_eq_getElem?_getD]
      refine hK2 _ ?_; clear hK2
      refine aw_then fun K3 hK3 => ?_
      refine aw_block ?_
      refine aw_reg fun K hK => ?_; simp (maxSteps := 1000000) (disch := omega) [-List.getD_eq_getElem?_getD]; refine hK _ ?_; clear hK K
      cases hg : goodM (l.getD k d0) with
      | true =>
        rw [hg] at c
        refine aw_reg fun K hK => ?_; simp (maxSteps := 1000000) (disch := omega) [-List.getD_eq_getElem?_getD, hcut, mpAV_len]
        refine acall_is (c _ _) ?_; simp (maxSteps := 1000000) (disch := omega) [-List.getD_eq_getElem?_getD]
        refine hK _ ?_; clear hK K
        refine aw_if rfl (fun h => absurd h (by simp)) (fun h => ?_)
        refine aw_skip ?_; simp (maxSteps := 1000000) (disch := omega) [-List.getD_eq_getElem?_getD]
        refine hK3 _ ?_; clear hK3
        refine aw_reg0 fun K hK => ?_; simp (maxSteps := 1000000) (disch := omega) [-List.getD_eq_getElem?_getD]
        refine hK _ ?_; clear hK K
        refine ⟨k + 1, ⟨by show k + 1 ≤ _; omega, fun j hj => ?_⟩, by show l.length - (k + 1) < l.length - k; omega, ?_⟩
        · rcases Nat.lt_or_ge j k with h3 | h3
          · exact h2 j h3
          · have : j = k := by omega
            subst this; exact hg
        · refine weak_to [] [] ?_ ?_ ?_ ?_ HO ?_
          all_goals simp
      | false =>
        rw [hg] at c
        have hall : l.all goodM = false := by
          cases h : l.all goodM with
          | false => rfl
          | true => have := List.all_eq_true.1 h _ (memD l k d0 hk); rw [hg] at this; cases this
        refine aw_reg fun K hK => ?_; simp (maxSteps := 1000000) (disch := omega) [-List.getD_eq_getElem?_getD, hcut, mpAV_len]
        refine acall_is (c _ _) ?_; simp (maxSteps := 1000000) (disch := omega) [-List.getD_eq_getElem?_getD]
        refine hK _ ?_; clear hK K
        refine aw_if rfl (fun h => ?_) (fun h => absurd h (by simp))
        refine aw_reg fun K hK => ?_; simp (maxSteps := 1000000) (disch := omega) [-List.getD_eq_getElem?_getD]; refine hK _ ?_; clear hK K
        refine aw_ret ?_; simp (maxSteps := 1000000) (disch := omega) [-List.getD_eq_getElem?_getD]
        exact ⟨hq.symm.trans hall, k, rfl⟩
    · simp [-List.getD_eq_getElem?_getD] at hk
      have hall : l.all goodM = true := List.all_eq_true.2 fun x hx => by
        obtain ⟨j, hj, e⟩ := memD_inv d0 hx
        rw [← e]; exact h2 j (by omega)
      refine aw_exit ?_; simp (maxSteps := 1000000) (disch := omega) [-List.getD_eq_getElem?_getD]
      refine hK1 _ ?_; clear hK1
      refine aw_reg fun K hK => ?_; simp (maxSteps := 1000000) (disch := omega) [-List.getD_eq_getElem?_getD]; refine hK _ ?_; clear hK K
      refine aw_ret ?_; simp (maxSteps := 1000000) (disch := omega) [-List.getD_eq_getElem?_getD]
      exact hq.symm.trans hall

theorem hasBad_ok (l : List Mp) (hl : l.length ≤ 1099511627776) (H : List Blk) (T : Toks) (tg : Tag) :
    ACall Tryd.prog 18 [.sl l.length (mpAV l) tg, .fn 19 [] []] H T (Is (.bool (!l.all goodM)) H T) := by
  refine ACall.untag1 ?_
  have c := idxBad_ok l hl H T .none
  generalize l.all goodM = q at *
  refine acall_enter 5 [] Tryd.ntmps18 Tryd.func18 rfl (fun _ _ => Tryd.call18 _ _) (by simp) (fun HO => ?_)
  refine aw_reg fun K hK => ?_; simp (maxSteps := 1000000) (disch := omega) [-List.getD_eq_getElem?_getD]; refine hK _ ?_; clear hK K
  refine aw_reg fun K hK => ?_; simp (maxSteps := 1000000) (disch := omega) [-List.getD_eq_getElem?_getD]
  refine ⟨_, c, ?_⟩
  rintro v H' T' ⟨rfl, rfl, ⟨ha, rfl⟩ | ⟨ha, k, rfl⟩⟩
  · subst ha
    simp (maxSteps := 1000000) (disch := omega) [-List.getD_eq_getElem?_getD]
    refine hK _ ?_; clear hK K
    refine aw_ret ?_; simp (maxSteps := 1000000) (disch := omega) [-List.getD_eq_getElem?_getD]
    exact ⟨rfl, rfl, rfl⟩
  · subst ha
    have bk : decide ((0 : Int) ≤ (k : Int)) = true := decide_eq_true (by omega)
    simp (maxSteps := 1000000) (disch := omega) [-List.getD_eq_getElem?_getD, bk]
    refine hK _ ?_; clear hK K
    refine aw_ret ?_; simp (maxSteps := 1000000) (disch := omega) [-List.getD_eq_getElem?_getD]
    exact ⟨rfl, rfl, rfl⟩
end Go.Proofs.YtfdlngemkhiiiaaDoor
