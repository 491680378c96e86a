/- The table of layer 11: the walk.
   Conditions: lengths below 1000. -/
import Derived.Test.YtgndlhfnenlhkaaEFn3
namespace Go.Proofs.Ytgndlhfnenlhkaa
open Go Go.Am Edit
set_option linter.unusedVariables false

/-- All of the table. -/
def full (a b : List Int) (R : List (List Int)) : Prop := Shape (a.length + 1) (b.length + 1) R ∧ ∀ i j, i ≤ a.length → j ≤ b.length → at2 R i j = D a b i j

set_option maxRecDepth 100000 in
set_option maxHeartbeats 4000000 in
theorem table_ok (a b : List Int) (ha : a.length ≤ 1000) (hb : b.length ≤ 1000) (H : List Blk) (T : Toks) :
    ACall Try.prog 34 [.sl a.length (ints a) .none, .sl b.length (ints b) .none] H T (fun r H' T' => T' = T ∧ r = .msl H.length 0 (a.length + 1) ∧ ∃ R, full a b R ∧ H' = H ++ .cells (ptrs (H.length + 1) (b.length + 1) (a.length + 1)) :: tb R) := by
  refine acall_enter 36 [] Try.ntmps34 Try.func34 rfl (fun _ _ => Try.call34 _ _) (by simp) (fun HO => ?_)
  refine aw_reg fun K hK => ?_; simp (maxSteps := 200000) (disch := omega) [-List.getD_eq_getElem?_getD]; refine hK _ ?_; clear hK K
  refine aw_reg fun K hK => ?_; simp (maxSteps := 200000) (disch := omega) [-List.getD_eq_getElem?_getD]; refine hK _ ?_; clear hK K
  refine aw_then fun K1 hK1 => ?_
  refine aw_reg fun K hK => ?_; simp (maxSteps := 200000) (disch := omega) [-List.getD_eq_getElem?_getD]; refine hK _ ?_; clear hK K
  refine aw_block ?_
  refine aw_loop (X := Nat) (fun k => ⟨[(0, .sl a.length (ints a) .none), (1, .sl b.length (ints b) .none), (5, .msl H.length 0 (a.length + 1)), (13, .msl H.length 0 (a.length + 1)), (14, .int .i64 (a.length + 1 : Nat)), (15, .int .i64 (k : Nat))],
      H ++ .cells (ptrs (H.length + 1) (b.length + 1) k ++ List.replicate (a.length + 1 - k) (.sl 0 [] .full)) :: tb (List.replicate k (List.replicate (b.length + 1) 0)), T⟩)
    (fun k => k ≤ a.length + 1) (fun k => a.length + 1 - k) 0 ?_ ?_ ?_
  · show 0 ≤ _; omega
  · refine weak_to [] [] ?_ ?_ ?_ ?_ (hok_tb HO _ _ ?_) ?_
    · simp [ptrs, tb]
    · simp
    · simp
    · simp
    · intro v hv
      simp [ptrs] at hv
      rw [hv]
      simp
    · simp
  · rintro k hk
    refine aw_reg fun K hK => ?_; simp (maxSteps := 200000) (disch := omega) [-List.getD_eq_getElem?_getD]; refine hK _ ?_; clear hK K
    refine aw_then fun K2 hK2 => ?_
    refine aw_if rfl (fun h => ?_) (fun h => ?_)
    · simp [-List.getD_eq_getElem?_getD] at h
      refine aw_skip ?_; simp (maxSteps := 200000) (disch := omega) [-List.getD_eq_getElem?_getD]
      refine hK2 _ ?_; clear hK2
      refine aw_then fun K3 hK3 => ?_
      refine aw_block ?_
      refine aw_reg fun K hK => ?_; simp (maxSteps := 200000) (disch := omega) [-List.getD_eq_getElem?_getD]; refine hK _ ?_; clear hK K
      have hk3 : k + 1 ≤ k + (a.length + 1 - k) := by omega
      refine aw_reg0 fun K hK => ?_; simp (maxSteps := 200000) (disch := omega) [-List.getD_eq_getElem?_getD, tb_len, ints_rep, ptrs_len, hk3]
      refine hK _ ?_; clear hK K
      refine hK3 _ ?_; clear hK3
      refine aw_reg0 fun K hK => ?_; simp (maxSteps := 200000) (disch := omega) [-List.getD_eq_getElem?_getD]
      refine hK _ ?_; clear hK K
      refine ⟨k + 1, by show k + 1 ≤ _; omega, by show a.length + 1 - (k + 1) < a.length + 1 - k; omega, ?_⟩
      have hz : tb (List.replicate k (List.replicate (b.length + 1) 0)) ++ [.cells (ints (List.replicate (b.length + 1) 0))] = tb (List.replicate (k + 1) (List.replicate (b.length + 1) 0)) := by rw [tb_snoc]; exact congrArg tb List.replicate_succ'.symm
      have hp := ptrs_set (H.length + 1) (b.length + 1) (a.length + 1) k (by omega) (.sl 0 [] .full)
      rw [hz, show H.length + (k + 1) = H.length + 1 + k by omega, hp]
      refine weak_to [] [] ?_ ?_ ?_ ?_ (hok_tb HO _ _ ?_) ?_
      · simp
      · simp
      · simp
      · simp
      · intro v hv
        rw [List.mem_append] at hv
        rcases hv with hv | hv
        · exact below_ptrs (by simp; try omega) v hv
        · rw [List.mem_replicate] at hv
          rw [hv.2]
          simp
      · simp
    · simp [-List.getD_eq_getElem?_getD] at h
      have hk2 : k = a.length + 1 := by omega
      subst hk2
      refine aw_exit ?_; simp (maxSteps := 200000) (disch := omega) [-List.getD_eq_getElem?_getD]
      refine hK1 _ ?_; clear hK1
      refine aw_then fun K2 hK2 => ?_
      refine aw_reg fun K hK => ?_; simp (maxSteps := 200000) (disch := omega) [-List.getD_eq_getElem?_getD]; refine hK _ ?_; clear hK K
      refine aw_block ?_
      refine aw_loop (X := Nat × List (List Int)) (fun x => ⟨[(0, .sl a.length (ints a) .none), (1, .sl b.length (ints b) .none), (5, .msl H.length 0 (a.length + 1)), (7, .int .i64 ((x.1 : Nat) - 1 : Int))],
          H ++ .cells (ptrs (H.length + 1) (b.length + 1) (a.length + 1)) :: tb x.2, T⟩)
        (fun x => x.1 ≤ a.length + 1 ∧ Shape (a.length + 1) (b.length + 1) x.2 ∧ ∀ i j, x.1 ≤ i → i ≤ a.length → j ≤ b.length → at2 x.2 i j = D a b i j) (fun x => x.1) (a.length + 1, List.replicate (a.length + 1) (List.replicate (b.length + 1) 0)) ?_ ?_ ?_
      · refine ⟨Nat.le_refl _, ⟨by simp, fun i hi => ?_⟩, fun i j h1 h2 => by simp only at h1; omega⟩
        rw [List.getD_eq_getElem?_getD, List.getElem?_replicate, if_pos hi]
        simp
      · refine weak_to [] [] ?_ ?_ ?_ ?_ (hok_tb HO _ _ (below_ptrs (by simp))) ?_
        · simp
        · simp
        · simp
        · simp
        · simp
      · rintro ⟨c, R⟩ ⟨h1, h2, h3⟩
        simp only at h1 h2 h3
        have hl : R.length = a.length + 1 := h2.1
        cases c with
        | zero =>
          refine aw_then fun K3 hK3 => ?_
          refine aw_reg fun K hK => ?_; simp (maxSteps := 200000) (disch := omega) [-List.getD_eq_getElem?_getD]; refine hK _ ?_; clear hK K
          refine aw_if rfl (fun h => absurd h (by simp)) (fun h => ?_)
          refine aw_exit ?_; simp (maxSteps := 200000) (disch := omega) [-List.getD_eq_getElem?_getD]
          refine hK2 _ ?_; clear hK2
          refine aw_reg fun K hK => ?_; simp (maxSteps := 200000) (disch := omega) [-List.getD_eq_getElem?_getD]; refine hK _ ?_; clear hK K
          refine aw_ret ?_; simp (maxSteps := 200000) (disch := omega) [-List.getD_eq_getElem?_getD]
          exact ⟨R, ⟨h2, fun i j hi hj => h3 i j (by omega) hi hj⟩, rfl⟩
        | succ i =>
          refine aw_then fun K3 hK3 => ?_
          refine aw_reg fun K hK => ?_; simp (maxSteps := 200000) (disch := omega) [-List.getD_eq_getElem?_getD]; refine hK _ ?_; clear hK K
          refine aw_if rfl (fun h => ?_) (fun h => absurd h (by simp))
          refine aw_skip ?_; simp (maxSteps := 200000) (disch := omega) [-List.getD_eq_getElem?_getD]
          refine hK3 _ ?_; clear hK3
          refine aw_then fun K4 hK4 => ?_
          refine aw_block ?_
          refine aw_reg fun K hK => ?_; simp (maxSteps := 200000) (disch := omega) [-List.getD_eq_getElem?_getD]; refine hK _ ?_; clear hK K
          refine aw_block ?_
          refine aw_loop (X := Nat × List (List Int)) (fun x => ⟨[(0, .sl a.length (ints a) .none), (1, .sl b.length (ints b) .none), (5, .msl H.length 0 (a.length + 1)), (7, .int .i64 (i : Nat)), (8, .int .i64 ((x.1 : Nat) - 1 : Int))], H ++ .cells (ptrs (H.length + 1) (b.length + 1) (a.length + 1)) :: tb x.2, T⟩)
            (fun x => x.1 ≤ b.length + 1 ∧ Shape (a.length + 1) (b.length + 1) x.2 ∧ (∀ p q, i + 1 ≤ p → p ≤ a.length → q ≤ b.length → at2 x.2 p q = D a b p q) ∧ (∀ q, x.1 ≤ q → q ≤ b.length → at2 x.2 i q = D a b i q)) (fun x => x.1) (b.length + 1, R) ?_ ?_ ?_
          · exact ⟨Nat.le_refl _, h2, h3, fun q hq hq2 => by simp only at hq; omega⟩
          · refine weak_to [] [] ?_ ?_ ?_ ?_ (hok_tb HO _ _ (below_ptrs (by simp; try omega))) ?_
            all_goals simp
          · rintro ⟨d, R'⟩ ⟨g1, g2, g3, g4⟩
            simp only at g1 g2 g3 g4
            have hl' : R'.length = a.length + 1 := g2.1
            have hri := g2.2 i (by omega)
            cases d with
            | zero =>
              refine aw_then fun K5 hK5 => ?_
              refine aw_reg fun K hK => ?_; simp (maxSteps := 200000) (disch := omega) [-List.getD_eq_getElem?_getD]; refine hK _ ?_; clear hK K
              refine aw_if rfl (fun h => absurd h (by simp)) (fun h => ?_)
              refine aw_exit ?_; simp (maxSteps := 200000) (disch := omega) [-List.getD_eq_getElem?_getD]
              refine hK4 _ ?_; clear hK4
              refine aw_reg0 fun K hK => ?_; simp (maxSteps := 200000) (disch := omega) [-List.getD_eq_getElem?_getD]
              refine hK _ ?_; clear hK K
              refine ⟨(i, R'), ⟨by show i ≤ _; omega, g2, fun p q hp hp2 hq => ?_⟩, by show i < i + 1; omega, ?_⟩
              · rcases Nat.lt_or_ge i p with hip | hip
                · exact g3 p q hip hp2 hq
                · have : p = i := by simp only at hp; omega
                  subst this
                  exact g4 q (Nat.zero_le _) hq
              · refine weak_to [] [] ?_ ?_ ?_ ?_ (hok_tb HO _ _ (below_ptrs (by simp; try omega))) ?_
                all_goals simp
            | succ j =>
              refine aw_then fun K5 hK5 => ?_
              refine aw_reg fun K hK => ?_; simp (maxSteps := 200000) (disch := omega) [-List.getD_eq_getElem?_getD]; refine hK _ ?_; clear hK K
              refine aw_if rfl (fun h => ?_) (fun h => absurd h (by simp))
              refine aw_skip ?_; simp (maxSteps := 200000) (disch := omega) [-List.getD_eq_getElem?_getD]
              refine hK5 _ ?_; clear hK5
              refine aw_then fun K6 hK6 => ?_
              refine aw_block ?_
              refine aw_block ?_
              have key : ∀ e v, v = D a b i j → envLe (H.length + (a.length + 1 + 1)) T.length e [(0, .sl a.length (ints a) .none), (1, .sl b.length (ints b) .none), (5, .msl H.length 0 (a.length + 1)), (7, .int .i64 (i : Nat)), (8, .int .i64 (j : Nat))] → K6 ⟨e, H ++ .cells (ptrs (H.length + 1) (b.length + 1) (a.length + 1)) :: tb (put2 R' i j v), T⟩ := by
                intro e v hv he
                have gs := g2.put i j v
                have hb1 := below_ptrs (base := H.length + 1) (m := b.length + 1) (n := a.length + 1) (N := H.length + 1 + (put2 R' i j v).length) (t := T.length) (by rw [gs.1]; omega)
                have hb2 : (H ++ Blk.cells (ptrs (H.length + 1) (b.length + 1) (a.length + 1)) :: tb (put2 R' i j v)).length = H.length + (a.length + 1 + 1) := by rw [List.length_append, List.length_cons, tb_len, gs.1]
                refine hK6 _ (aw_weak ⟨[(0, .sl a.length (ints a) .none), (1, .sl b.length (ints b) .none), (5, .msl H.length 0 (a.length + 1)), (7, .int .i64 (i : Nat)), (8, .int .i64 (j : Nat))], H ++ .cells (ptrs (H.length + 1) (b.length + 1) (a.length + 1)) :: tb (put2 R' i j v), T⟩ (weak_to [] [] (by simp) (by simp) (by simp) (by simp) (hok_tb HO _ _ hb1) (by rw [hb2]; exact he)) ?_)
                refine aw_reg0 fun K hK => ?_; simp (maxSteps := 200000) (disch := omega) [-List.getD_eq_getElem?_getD]
                refine hK _ ?_; clear hK K
                refine ⟨(j, put2 R' i j v), ⟨by show j ≤ _; omega, gs, fun p q hp hp2 hq => ?_, fun q hq hq2 => ?_⟩, by show j < j + 1; omega, ?_⟩
                · rw [at2_put g2 (by omega) (by omega), if_neg (by omega)]
                  exact g3 p q hp hp2 hq
                · rw [at2_put g2 (by omega) (by omega)]
                  by_cases hqj : q = j
                  · rw [if_pos ⟨rfl, hqj⟩, hv, hqj]
                  · rw [if_neg (fun hh => hqj hh.2)]
                    exact g4 q (by simp only at hq; omega) hq2
                · refine weak_to [] [] ?_ ?_ ?_ ?_ (hok_tb HO _ _ hb1) ?_
                  all_goals simp
              clear hK6
              by_cases hi : i = a.length
              · have b1 : ((i : Int) == (a.length : Int)) = true := by simp; omega
                have hv : (b.length : Int) - j = D a b i j := by rw [hi, D_row a b j (by omega)]
                refine aw_reg fun K hK => ?_; simp (maxSteps := 200000) (disch := omega) [-List.getD_eq_getElem?_getD, b1]; refine hK _ ?_; clear hK K
                refine aw_if rfl (fun h => ?_) (fun h => absurd h (by simp))
                refine aw_reg0 fun K hK => ?_; simp (maxSteps := 200000) (disch := omega) [-List.getD_eq_getElem?_getD, -List.set_append_right, ptrs_at, ptrs_len, tb_at, tb_set, new_at1, new_set1, tb_len, getD_ints, ints_set, hl', hri]
                refine hK _ ?_; clear hK K
                refine key _ _ hv ?_; simp; try omega
              · have b1 : ((i : Int) == (a.length : Int)) = false := by simp; omega
                have hri1 := g2.2 (i + 1) (by omega)
                refine aw_reg fun K hK => ?_; simp (maxSteps := 200000) (disch := omega) [-List.getD_eq_getElem?_getD, b1]; refine hK _ ?_; clear hK K
                refine aw_if rfl (fun h => absurd h (by simp)) (fun h => ?_)
                by_cases hj : j = b.length
                · have b2 : ((j : Int) == (b.length : Int)) = true := by simp; omega
                  have hv : (a.length : Int) - i = D a b i j := by rw [hj, D_col a b i (by omega)]
                  refine aw_reg fun K hK => ?_; simp (maxSteps := 200000) (disch := omega) [-List.getD_eq_getElem?_getD, b2]; refine hK _ ?_; clear hK K
                  refine aw_if rfl (fun h => ?_) (fun h => absurd h (by simp))
                  refine aw_reg0 fun K hK => ?_; simp (maxSteps := 200000) (disch := omega) [-List.getD_eq_getElem?_getD, -List.set_append_right, ptrs_at, ptrs_len, tb_at, tb_set, new_at1, new_set1, tb_len, getD_ints, ints_set, hl', hri]
                  refine hK _ ?_; clear hK K
                  refine key _ _ hv ?_; simp; try omega
                · have b2 : ((j : Int) == (b.length : Int)) = false := by simp; omega
                  have r1 : (R'.getD (i + 1) []).getD (j + 1) 0 = D a b (i + 1) (j + 1) := g3 (i + 1) (j + 1) (by omega) (by omega) (by omega)
                  have r2 : (R'.getD (i + 1) []).getD j 0 = D a b (i + 1) j := g3 (i + 1) j (by omega) (by omega) (by omega)
                  have r3 : (R'.getD i []).getD (j + 1) 0 = D a b i (j + 1) := g4 (j + 1) (by omega) (by omega)
                  have l1 := D_le a b (i + 1) (j + 1)
                  have l2 := D_le a b (i + 1) j
                  have l3 := D_le a b i (j + 1)
                  refine aw_reg fun K hK => ?_; simp (maxSteps := 200000) (disch := omega) [-List.getD_eq_getElem?_getD, b2]; refine hK _ ?_; clear hK K
                  refine aw_if rfl (fun h => absurd h (by simp)) (fun h => ?_)
                  by_cases hc : a.getD i 0 = b.getD j 0
                  · have b3 : (a.getD i 0 == b.getD j 0) = true := by simpa using hc
                    refine aw_draw [] [] [] drawMixed (by kernel_rfl) (by kernel_rfl) fun K hK => ?_; simp (maxSteps := 200000) (disch := omega) [-List.getD_eq_getElem?_getD, getD_ints, b3]
                    refine hK _ ?_; clear hK K
                    refine aw_if rfl (fun h => ?_) (fun h => absurd h (by simp))
                    refine aw_draw0 [15] [0, 0, 0, 0, 0, 0, 0, 0, 0, 0, 0, 0, 0, 0, 0, 0] [[]] drawMixed (by kernel_rfl) (by kernel_rfl) fun K hK => ?_; simp (maxSteps := 200000) (disch := omega) [-List.getD_eq_getElem?_getD, -List.set_append_right, ptrs_at, ptrs_len, tb_at, tb_set, new_at1, new_set1, tb_len, getD_ints, ints_set, hl', hri, hri1, r1]
                    refine hK _ ?_; clear hK K
                    refine key _ _ (D_eq (by omega) (by omega) hc).symm ?_; simp; try omega
                  · have b3 : (a.getD i 0 == b.getD j 0) = false := by simpa using hc
                    refine aw_draw [] [] [] drawMixed (by kernel_rfl) (by kernel_rfl) fun K hK => ?_; simp (maxSteps := 200000) (disch := omega) [-List.getD_eq_getElem?_getD, getD_ints, b3]
                    refine hK _ ?_; clear hK K
                    refine aw_if rfl (fun h => absurd h (by simp)) (fun h => ?_)
                    refine aw_draw0 [33] [0, 0, 0, 0, 0, 0, 0, 0, 0, 0, 0, 0, 0, 0, 0, 0, 0, 0, 0, 0, 0, 0, 0, 0, 0, 0, 0, 0, 0, 0, 0, 0, 0, 0] [[]] drawMixed (by kernel_rfl) (by kernel_rfl) fun K hK => ?_; simp (maxSteps := 200000) (disch := omega) [-List.getD_eq_getElem?_getD, -List.set_append_right, ptrs_at, ptrs_len, tb_at, tb_set, new_at1, new_set1, tb_len, getD_ints, ints_set, hl', hri, hri1, r1, r2, r3]
                    refine hK _ ?_; clear hK K
                    refine key _ _ ?_ ?_; rotate_left 1; simp; try omega
                    rw [D_ne (by omega) (by omega) hc]
                    omega
end Go.Proofs.Ytgndlhfnenlhkaa
