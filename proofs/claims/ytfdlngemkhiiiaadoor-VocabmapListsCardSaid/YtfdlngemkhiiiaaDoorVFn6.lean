/- The program's Of; inverses; exact mappings (layer 26).
   Conditions: lengths below 2^40, as each theorem says. -/
import Derived.Test.YtfdlngemkhiiiaaDoorVFn5
import Derived.Test.YtfdlngemkhiiiaaDoorAmFrz
namespace Go.Proofs.YtfdlngemkhiiiaaDoor
open Go Go.Am Voc
set_option linter.unusedVariables false

theorem compact0_ok (H : List Blk) (T : Toks) (tg : Tag) : ACall Tryd.prog 21 [.sl 0 [] tg] H T (Is (.sl 0 [] .none) H T) := by
  refine ACall.untag1 ?_
  refine acall_enter 6 [] Tryd.ntmps21 Tryd.func21 rfl (fun _ _ => Tryd.call21 _ _) (by simp) (fun HO => ?_)
  refine aw_reg fun K hK => ?_; simp (maxSteps := 1000000) (disch := omega) [-List.getD_eq_getElem?_getD]; refine hK _ ?_; clear hK K
  refine aw_then fun K1 hK1 => ?_
  refine aw_reg fun K hK => ?_; simp (maxSteps := 1000000) (disch := omega) [-List.getD_eq_getElem?_getD]; refine hK _ ?_; clear hK K
  refine aw_if rfl (fun h => ?_) (fun h => absurd h (by simp))
  refine aw_reg fun K hK => ?_; simp (maxSteps := 1000000) (disch := omega) [-List.getD_eq_getElem?_getD]; refine hK _ ?_; clear hK K
  refine aw_ret ?_; simp (maxSteps := 1000000) (disch := omega) [-List.getD_eq_getElem?_getD]
  exact ⟨rfl, rfl, rfl⟩

set_option maxRecDepth 100000 in
set_option maxHeartbeats 4000000 in
theorem of_ok (l : List Mp) (hl : l.length ≤ 1099511627776) (H : List Blk) (T : Toks) (tg : Tag) :
    ACall Tryd.prog 6 [.sl l.length (mpAV l) tg] H T (Is (.tup [.sl (ofF l).1.length (mpAV (ofF l).1) .none, .int .i64 (ofF l).2]) H T) := by
  refine ACall.untag1 ?_
  have c0 := hasBad_ok l hl H T .none
  cases hall : l.all goodM with
  | false =>
    have hF : ofF l = ([], 1) := by rw [ofF, if_neg (by rw [hall]; simp)]
    rw [hall] at c0
    refine ACall.dropT ?_ (by simp)
    refine acall_enter 6 [] Tryd.ntmps6 Tryd.func6 rfl (fun _ _ => Tryd.call6 _ _) (by simp) (fun HO => ?_)
    refine aw_reg fun K hK => ?_; simp (maxSteps := 1000000) (disch := omega) [-List.getD_eq_getElem?_getD]; refine hK _ ?_; clear hK K
    refine aw_then fun K1 hK1 => ?_
    refine aw_reg fun K hK => ?_; simp (maxSteps := 1000000) (disch := omega) [-List.getD_eq_getElem?_getD]
    refine acall_is (c0) ?_; simp (maxSteps := 1000000) (disch := omega) [-List.getD_eq_getElem?_getD]
    refine hK _ ?_; clear hK K
    refine aw_if rfl (fun h => ?_) (fun h => absurd h (by simp))
    refine aw_reg fun K hK => ?_; simp (maxSteps := 1000000) (disch := omega) [-List.getD_eq_getElem?_getD]; refine hK _ ?_; clear hK K
    refine aw_ret ?_; simp (maxSteps := 1000000) (disch := omega) [-List.getD_eq_getElem?_getD]
    simp [hF, mpAV_nil]
  | true =>
    rw [hall] at c0
    by_cases h0 : l = []
    · subst h0
      have hF : ofF [] = ([], 0) := by exact ofF_same (l := []) rfl fun x => Iff.rfl
      have c1 := sorted_ok [] (by simp) H T .none
      have c2 := compact0_ok H T .none
      have e : sortM [] = [] := by simp [sortM]
      rw [e] at c1
      refine ACall.dropT ?_ (by simp)
      refine acall_enter 6 [] Tryd.ntmps6 Tryd.func6 rfl (fun _ _ => Tryd.call6 _ _) (by simp) (fun HO => ?_)
      refine aw_reg fun K hK => ?_; simp (maxSteps := 1000000) (disch := omega) [-List.getD_eq_getElem?_getD]; refine hK _ ?_; clear hK K
      refine aw_then fun K1 hK1 => ?_
      refine aw_reg fun K hK => ?_; simp (maxSteps := 1000000) (disch := omega) [-List.getD_eq_getElem?_getD]
      refine acall_is (c0) ?_; simp (maxSteps := 1000000) (disch := omega) [-List.getD_eq_getElem?_getD]
      refine hK _ ?_; clear hK K
      refine aw_if rfl (fun h => absurd h (by simp)) (fun h => ?_)
      refine aw_skip ?_; simp (maxSteps := 1000000) (disch := omega) [-List.getD_eq_getElem?_getD]
      refine hK1 _ ?_; clear hK1
      refine aw_reg fun K hK => ?_; simp (maxSteps := 1000000) (disch := omega) [-List.getD_eq_getElem?_getD, mpAV_nil]
      refine acall_is (c1) ?_; simp (maxSteps := 1000000) (disch := omega) [-List.getD_eq_getElem?_getD]
      refine acall_is (c2) ?_; simp (maxSteps := 1000000) (disch := omega) [-List.getD_eq_getElem?_getD]
      refine hK _ ?_; clear hK K
      refine aw_then fun K1 hK1 => ?_
      refine aw_reg fun K hK => ?_; simp (maxSteps := 1000000) (disch := omega) [-List.getD_eq_getElem?_getD]; refine hK _ ?_; clear hK K
      refine aw_block ?_
      refine aw_loop (X := Unit) (fun _ => ⟨[(4, .sl 0 [] .none), (5, .int .i64 1)], H, T⟩) (fun _ => True) (fun _ => 0) () trivial ?_ ?_
      · refine weak_to [] [] ?_ ?_ ?_ ?_ HO ?_
        all_goals simp
      · intro _ _
        refine aw_then fun K2 hK2 => ?_
        refine aw_reg fun K hK => ?_; simp (maxSteps := 1000000) (disch := omega) [-List.getD_eq_getElem?_getD]; refine hK _ ?_; clear hK K
        refine aw_if rfl (fun h => absurd h (by simp)) (fun h => ?_)
        refine aw_exit ?_; simp (maxSteps := 1000000) (disch := omega) [-List.getD_eq_getElem?_getD]
        refine hK1 _ ?_; clear hK1
        refine aw_then fun K1 hK1 => ?_
        refine aw_reg fun K hK => ?_; simp (maxSteps := 1000000) (disch := omega) [-List.getD_eq_getElem?_getD]; refine hK _ ?_; clear hK K
        refine aw_if rfl (fun h => absurd h (by simp)) (fun h => ?_)
        refine aw_skip ?_; simp (maxSteps := 1000000) (disch := omega) [-List.getD_eq_getElem?_getD]
        refine hK1 _ ?_; clear hK1
        refine aw_reg fun K hK => ?_; simp (maxSteps := 1000000) (disch := omega) [-List.getD_eq_getElem?_getD]; refine hK _ ?_; clear hK K
        refine aw_ret ?_; simp (maxSteps := 1000000) (disch := omega) [-List.getD_eq_getElem?_getD]
        simp [hF, mpAV_nil]
    · have c1 := sortedB_ok l h0 hl H T .none
      refine ACall.frz ?_
      generalize hq : ofF l = q
      refine acall_enter 6 [] Tryd.ntmps6 Tryd.func6 rfl (fun _ _ => Tryd.call6 _ _) (by simp) (fun HO => ?_)
      refine aw_reg fun K hK => ?_; simp (maxSteps := 1000000) (disch := omega) [-List.getD_eq_getElem?_getD]; refine hK _ ?_; clear hK K
      refine aw_then fun K1 hK1 => ?_
      refine aw_reg fun K hK => ?_; simp (maxSteps := 1000000) (disch := omega) [-List.getD_eq_getElem?_getD]
      refine acall_is (c0) ?_; simp (maxSteps := 1000000) (disch := omega) [-List.getD_eq_getElem?_getD]
      refine hK _ ?_; clear hK K
      refine aw_if rfl (fun h => absurd h (by simp)) (fun h => ?_)
      refine aw_skip ?_; simp (maxSteps := 1000000) (disch := omega) [-List.getD_eq_getElem?_getD]
      refine hK1 _ ?_; clear hK1
      refine aw_reg fun K hK => ?_; simp (maxSteps := 1000000) (disch := omega) [-List.getD_eq_getElem?_getD]
      refine ⟨_, c1, ?_⟩
      rintro v H' T' ⟨rfl, nc, hnc, rfl, rfl⟩
      have c2 := compact_ok (sortM l) (List.replicate ((nc - l.length) * 3) .top) (by rw [sortM_len]; exact hl) H T'
      rw [sortM_len] at c2
      have c2' : ACall Tryd.prog 21 [.csl H.length l.length nc] _ _ _ := ACall.untag1 c2
      simp (maxSteps := 1000000) (disch := omega) [-List.getD_eq_getElem?_getD]
      refine ⟨_, c2', ?_⟩
      rintro v H2 T2 ⟨rfl, rest, rfl, rfl⟩
      have hcs : cpt (sortM l) = cs l := rfl
      rw [hcs]
      simp (maxSteps := 1000000) (disch := omega) [-List.getD_eq_getElem?_getD]
      refine hK _ ?_; clear hK K
      refine aw_hok fun HO2 => ?_
      simp only at HO2
      have hcl := cs_len l
      have hlen := box_len (cs l) rest
      refine aw_then fun K1 hK1 => ?_
      refine aw_reg fun K hK => ?_; simp (maxSteps := 1000000) (disch := omega) [-List.getD_eq_getElem?_getD]; refine hK _ ?_; clear hK K
      refine aw_block ?_
      refine aw_loop (X := Nat) (fun i => ⟨[(4, .msl H.length 0 (cs l).length), (5, .int .i64 ((i + 1 : Nat) : Int))], H ++ [.cells (mpAV (cs l) ++ rest)], T2⟩) (fun i => (i + 1 ≤ (cs l).length ∨ i = 0) ∧ ∀ j, j + 1 < (cs l).length → j < i → ends ((cs l).getD j d0) ≠ ends ((cs l).getD (j + 1) d0)) (fun i => (cs l).length - i) 0 ?_ ?_ ?_
      · exact ⟨.inr rfl, fun j _ hj => absurd hj (Nat.not_lt_zero _)⟩
      · refine weak_to [] [] ?_ ?_ ?_ ?_ HO2 ?_
        all_goals simp
      · rintro i ⟨h1, h2⟩
        refine aw_then fun K2 hK2 => ?_
        refine aw_reg fun K hK => ?_; simp (maxSteps := 1000000) (disch := omega) [-List.getD_eq_getElem?_getD]; refine hK _ ?_; clear hK K
        refine aw_if rfl (fun hk => ?_) (fun hk => ?_)
        · simp [-List.getD_eq_getElem?_getD] at hk
          have hk' : i + 1 < (cs l).length := by omega
          have hc1 := box_cut (cs l) rest (i + 1) hk'
          have hc2 := box_cut (cs l) rest i (by omega)
          have hz := ordM_zero ((cs l).getD i d0) ((cs l).getD (i + 1) d0)
          have c := fun H T => order_ok ((cs l).getD i d0) ((cs l).getD (i + 1) d0) H T
          have hconf := fun he => cs_conf (l := l) (j := i) hall hk' he
          simp only [mcD] at c
          generalize ordM ((cs l).getD i d0) ((cs l).getD (i + 1) d0) = o at *
          refine aw_skip ?_; simp (maxSteps := 1000000) (disch := omega) [-List.getD_eq_getElem?_getD]
          refine hK2 _ ?_; clear hK2
          refine aw_then fun K3 hK3 => ?_
          refine aw_block ?_
          by_cases ho : o = 0
          · subst ho
            have hF := hconf (Prod.ext (hz.1 rfl).1 (hz.1 rfl).2)
            rw [hq] at hF
            refine aw_draw [] [] [] drawMixed (by kernel_rfl) (by kernel_rfl) fun K hK => ?_; simp (maxSteps := 1000000) (disch := omega) [-List.getD_eq_getElem?_getD, hk', hc1, hc2, hlen]
            refine dcall_is (c _ _) rfl ?_; simp (maxSteps := 1000000) (disch := omega) [-List.getD_eq_getElem?_getD]
            refine hK _ ?_; clear hK K
            refine aw_if rfl (fun h => ?_) (fun h => absurd h (by simp))
            refine aw_reg fun K hK => ?_; simp (maxSteps := 1000000) (disch := omega) [-List.getD_eq_getElem?_getD]; refine hK _ ?_; clear hK K
            refine aw_ret ?_; simp (maxSteps := 1000000) (disch := omega) [-List.getD_eq_getElem?_getD]
            rw [hF]
            refine Frz.pair (.keep (.inr rfl) (by simp [mpAV_nil])) (.same (by simp))
          · have bo : (o == 0) = false := beq_eq_false_iff_ne.2 ho
            refine aw_draw [] [] [] drawMixed (by kernel_rfl) (by kernel_rfl) fun K hK => ?_; simp (maxSteps := 1000000) (disch := omega) [-List.getD_eq_getElem?_getD, hk', hc1, hc2, hlen]
            refine dcall_is (c _ _) rfl ?_; simp (maxSteps := 1000000) (disch := omega) [-List.getD_eq_getElem?_getD, bo, ho]
            refine hK _ ?_; clear hK K
            refine aw_if rfl (fun h => absurd h (by simp)) (fun h => ?_)
            refine aw_skip ?_; simp (maxSteps := 1000000) (disch := omega) [-List.getD_eq_getElem?_getD]
            refine hK3 _ ?_; clear hK3
            refine aw_reg0 fun K hK => ?_; simp (maxSteps := 1000000) (disch := omega) [-List.getD_eq_getElem?_getD]
            refine hK _ ?_; clear hK K
            refine ⟨i + 1, ⟨.inl (by show i + 1 + 1 ≤ _; omega), fun j hj hj2 => ?_⟩, by show (cs l).length - (i + 1) < (cs l).length - i; omega, ?_⟩
            · rcases Nat.lt_or_ge j i with h3 | h3
              · exact h2 j hj h3
              · have : j = i := by omega
                subst this
                intro he
                exact ho (hz.2 ⟨(Prod.mk.inj he).1, (Prod.mk.inj he).2⟩)
            · refine weak_to [] [] ?_ ?_ ?_ ?_ HO2 ?_
              all_goals simp
        · simp [-List.getD_eq_getElem?_getD] at hk
          have hF := cs_ok hall (l := l) fun j hj => h2 j hj (by omega)
          rw [hq] at hF
          refine aw_exit ?_; simp (maxSteps := 1000000) (disch := omega) [-List.getD_eq_getElem?_getD]
          refine hK1 _ ?_; clear hK1
          refine aw_then fun K1 hK1 => ?_
          by_cases h5 : (cs l).length ≤ 500
          · rw [if_pos h5] at hF
            have b5 : decide ((500 : Int) < (cs l).length) = false := decide_eq_false (by omega)
            have n5 : ¬ (500 : Int) < (cs l).length := by omega
            refine aw_reg fun K hK => ?_; simp (maxSteps := 1000000) (disch := omega) [-List.getD_eq_getElem?_getD, b5, n5]; refine hK _ ?_; clear hK K
            refine aw_if rfl (fun h => absurd h (by simp)) (fun h => ?_)
            refine aw_skip ?_; simp (maxSteps := 1000000) (disch := omega) [-List.getD_eq_getElem?_getD]
            refine hK1 _ ?_; clear hK1
            refine aw_reg fun K hK => ?_; simp (maxSteps := 1000000) (disch := omega) [-List.getD_eq_getElem?_getD]; refine hK _ ?_; clear hK K
            refine aw_ret ?_; simp (maxSteps := 1000000) (disch := omega) [-List.getD_eq_getElem?_getD]
            rw [hF]
            exact Frz.pair (Frz.msl0 (rest := rest) (Nat.le_refl _) (by simp) (by simp)) (.same (by simp))
          · rw [if_neg h5] at hF
            have b5 : decide ((500 : Int) < (cs l).length) = true := decide_eq_true (by omega)
            have n5 : (500 : Int) < (cs l).length := by omega
            refine aw_reg fun K hK => ?_; simp (maxSteps := 1000000) (disch := omega) [-List.getD_eq_getElem?_getD, b5, n5]; refine hK _ ?_; clear hK K
            refine aw_if rfl (fun h => ?_) (fun h => absurd h (by simp))
            refine aw_reg fun K hK => ?_; simp (maxSteps := 1000000) (disch := omega) [-List.getD_eq_getElem?_getD]; refine hK _ ?_; clear hK K
            refine aw_ret ?_; simp (maxSteps := 1000000) (disch := omega) [-List.getD_eq_getElem?_getD]
            rw [hF]
            refine Frz.pair (.keep (.inr rfl) (by simp [mpAV_nil])) (.same (by simp))

theorem opp_ok (k : Int) (H : List Blk) (T : Toks) : ACall Tryd.prog 26 [.int .i64 k] H T (Is (.int .i64 (opp k)) H T) := by
  generalize hq : opp k = q
  unfold opp at hq
  refine acall_enter 4 [] Tryd.ntmps26 Tryd.func26 rfl (fun _ _ => Tryd.call26 _ _) (by simp) (fun HO => ?_)
  refine aw_reg fun K hK => ?_; simp (maxSteps := 1000000) (disch := omega) [-List.getD_eq_getElem?_getD]; refine hK _ ?_; clear hK K
  refine aw_then fun K1 hK1 => ?_
  refine aw_reg fun K hK => ?_; simp (maxSteps := 1000000) (disch := omega) [-List.getD_eq_getElem?_getD]; refine hK _ ?_; clear hK K
  refine aw_block ?_
  by_cases h1 : k = 2
  · subst h1
    refine aw_reg fun K hK => ?_; simp (maxSteps := 1000000) (disch := omega) [-List.getD_eq_getElem?_getD]; refine hK _ ?_; clear hK K
    refine aw_if rfl (fun h => ?_) (fun h => absurd h (by simp))
    refine aw_reg fun K hK => ?_; simp (maxSteps := 1000000) (disch := omega) [-List.getD_eq_getElem?_getD]; refine hK _ ?_; clear hK K
    refine aw_ret ?_; simp (maxSteps := 1000000) (disch := omega) [-List.getD_eq_getElem?_getD]
    exact ⟨by rw [← hq]; rfl, rfl, rfl⟩
  · have b1 : (k == 2) = false := beq_eq_false_iff_ne.2 h1
    rw [if_neg h1] at hq
    refine aw_reg fun K hK => ?_; simp (maxSteps := 1000000) (disch := omega) [-List.getD_eq_getElem?_getD, b1, h1]; refine hK _ ?_; clear hK K
    refine aw_if rfl (fun h => absurd h (by simp)) (fun h => ?_)
    by_cases h2 : k = 3
    · subst h2
      refine aw_reg fun K hK => ?_; simp (maxSteps := 1000000) (disch := omega) [-List.getD_eq_getElem?_getD]; refine hK _ ?_; clear hK K
      refine aw_if rfl (fun h => ?_) (fun h => absurd h (by simp))
      refine aw_reg fun K hK => ?_; simp (maxSteps := 1000000) (disch := omega) [-List.getD_eq_getElem?_getD]; refine hK _ ?_; clear hK K
      refine aw_ret ?_; simp (maxSteps := 1000000) (disch := omega) [-List.getD_eq_getElem?_getD]
      exact ⟨by rw [← hq]; rfl, rfl, rfl⟩
    · have b2 : (k == 3) = false := beq_eq_false_iff_ne.2 h2
      rw [if_neg h2] at hq
      refine aw_reg fun K hK => ?_; simp (maxSteps := 1000000) (disch := omega) [-List.getD_eq_getElem?_getD, b2, h2]; refine hK _ ?_; clear hK K
      refine aw_if rfl (fun h => absurd h (by simp)) (fun h => ?_)
      refine aw_skip ?_; simp (maxSteps := 1000000) (disch := omega) [-List.getD_eq_getElem?_getD]
      refine hK1 _ ?_; clear hK1
      refine aw_reg fun K hK => ?_; simp (maxSteps := 1000000) (disch := omega) [-List.getD_eq_getElem?_getD]; refine hK _ ?_; clear hK K
      refine aw_ret ?_; simp (maxSteps := 1000000) (disch := omega) [-List.getD_eq_getElem?_getD]
      exact ⟨by rw [← hq], rfl, rfl⟩
end Go.Proofs.YtfdlngemkhiiiaaDoor
