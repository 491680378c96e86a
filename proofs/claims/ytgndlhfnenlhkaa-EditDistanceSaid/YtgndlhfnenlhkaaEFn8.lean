/- Subsequence of layer 11.
   Conditions: lengths below 500. -/
import Derived.Test.YtgndlhfnenlhkaaEFn7
namespace Go.Proofs.Ytgndlhfnenlhkaa
open Go Go.Am Edit
set_option linter.unusedVariables false

/-- The greatest common number of two ends. -/
def LC (a b : List Int) (i j : Nat) : Int := (lc (a.drop i) (b.drop j) : Nat)

theorem LC_eq {a b : List Int} {i j : Nat} (hi : i < a.length) (hj : j < b.length) (h : a.getD i 0 = b.getD j 0) : LC a b i j = max (max (LC a b (i + 1) j) (LC a b i (j + 1))) (1 + LC a b (i + 1) (j + 1)) := by
  unfold LC
  rw [drop_cons0 a i hi, drop_cons0 b j hj, h, lc_eq]
  have h1 := lc_ins (b.getD j 0) (a.drop (i + 1)) (b.drop (j + 1))
  have h2 := lc_del (b.getD j 0) (a.drop (i + 1)) (b.drop (j + 1))
  omega
theorem LC_ne {a b : List Int} {i j : Nat} (hi : i < a.length) (hj : j < b.length) (h : a.getD i 0 ≠ b.getD j 0) : LC a b i j = max (LC a b (i + 1) j) (LC a b i (j + 1)) := by
  unfold LC
  rw [drop_cons0 a i hi, drop_cons0 b j hj, lc_ne h]
  omega
theorem LC_row (a b : List Int) (j : Nat) : LC a b a.length j = 0 := by
  unfold LC
  rw [List.drop_length, lc_nil]; rfl
theorem LC_col (a b : List Int) (i : Nat) : LC a b i b.length = 0 := by
  unfold LC
  rw [List.drop_length, lc_nil2]; rfl
theorem LC_le (a b : List Int) (i j : Nat) : 0 ≤ LC a b i j ∧ LC a b i j ≤ a.length := by
  unfold LC
  have := lc_le (a.drop i) (b.drop j)
  rw [List.length_drop] at this
  omega

/-- What is left of the subsequence at two places. -/
def SS (a b : List Int) (n i j : Nat) : List Int := ssN n (a.drop i) (b.drop j)
section
variable {a b : List Int} {n i j : Nat}
theorem SS_keep (hn : 0 < n) (hi : i < a.length) (hj : j < b.length) (h : a.getD i 0 = b.getD j 0) : SS a b n i j = a.getD i 0 :: SS a b (n - 1) (i + 1) (j + 1) := by
  obtain ⟨m, rfl⟩ : ∃ m, n = m + 1 := ⟨n - 1, by omega⟩
  unfold SS
  rw [drop_cons0 a i hi, drop_cons0 b j hj, ssN, if_pos h]
  rfl
theorem SS_del (hn : 0 < n) (hi : i < a.length) (hj : j < b.length) (h : a.getD i 0 ≠ b.getD j 0) (h1 : LC a b (i + 1) j ≥ LC a b i (j + 1)) : SS a b n i j = SS a b (n - 1) (i + 1) j := by
  obtain ⟨m, rfl⟩ : ∃ m, n = m + 1 := ⟨n - 1, by omega⟩
  unfold LC at h1
  unfold SS
  rw [drop_cons0 a i hi, drop_cons0 b j hj] at h1 ⊢
  rw [ssN, if_neg h, if_pos (by omega)]
  rfl
theorem SS_ins (hn : 0 < n) (hi : i < a.length) (hj : j < b.length) (h : a.getD i 0 ≠ b.getD j 0) (h1 : ¬ LC a b (i + 1) j ≥ LC a b i (j + 1)) : SS a b n i j = SS a b (n - 1) i (j + 1) := by
  obtain ⟨m, rfl⟩ : ∃ m, n = m + 1 := ⟨n - 1, by omega⟩
  unfold LC at h1
  unfold SS
  rw [drop_cons0 a i hi, drop_cons0 b j hj] at h1 ⊢
  rw [ssN, if_neg h, if_neg (by omega)]
  rfl
theorem SS_end (h : i = a.length ∨ j = b.length) : SS a b n i j = [] := by
  unfold SS
  rcases h with h | h
  · rw [h, List.drop_length, ssN_nil1]
  · rw [h, List.drop_length, ssN_nil]
end

set_option maxRecDepth 100000 in
set_option maxHeartbeats 8000000 in
theorem subseq_ok (a b : List Int) (ha : a.length ≤ 500) (hb : b.length ≤ 500) (H : List Blk) (T : Toks) (ta tb_ : Tag) : ACall Try.prog 22 [.sl a.length (ints a) ta, .sl b.length (ints b) tb_] H T (Is (.sl (ss a b).length (ints (ss a b)) .none) H T) := by
  refine ACall.untag1 (ACall.untag2 ?_)
  refine ACall.drop' ?_ (by simp)
  refine acall_enter 28 [] Try.ntmps22 Try.func22 rfl (fun _ _ => Try.call22 _ _) (by simp) (fun HO => ?_)
  refine aw_reg fun K hK => ?_; simp (maxSteps := 200000) (disch := omega) [-List.getD_eq_getElem?_getD]; refine hK _ ?_; clear hK K
  refine aw_reg fun K hK => ?_; simp (maxSteps := 200000) (disch := omega) [-List.getD_eq_getElem?_getD]; refine hK _ ?_; clear hK K
  refine aw_then fun K1 hK1 => ?_
  refine aw_reg fun K hK => ?_; simp (maxSteps := 200000) (disch := omega) [-List.getD_eq_getElem?_getD]; refine hK _ ?_; clear hK K
  refine aw_block ?_
  refine aw_loop (X := Nat) (fun k => ⟨[(0, .sl a.length (ints a) .none), (1, .sl b.length (ints b) .none), (5, .msl H.length 0 (a.length + 1)), (16, .msl H.length 0 (a.length + 1)), (17, .int .i64 (a.length + 1 : Nat)), (18, .int .i64 (k : Nat))],
      H ++ .cells (ptrs (H.length + 1) (b.length + 1) k ++ List.replicate (a.length + 1 - k) (.sl 0 [] .full)) :: tb (List.replicate k (List.replicate (b.length + 1) 0)), T⟩)
    (fun k => k ≤ a.length + 1) (fun k => a.length + 1 - k) 0 ?_ ?_ ?_
  · show 0 ≤ _; omega
  · refine weak_to [] [] ?_ ?_ ?_ ?_ (hok_tb HO _ _ ?_) ?_
    · simp [ptrs, tb]
    · simp
    · simp
    · simp
    · intro v hv
      simp [ptrs] at hv
      rw [hv]
      simp
    · simp
  · rintro k hk
    refine aw_reg fun K hK => ?_; simp (maxSteps := 200000) (disch := omega) [-List.getD_eq_getElem?_getD]; refine hK _ ?_; clear hK K
    refine aw_then fun K2 hK2 => ?_
    refine aw_if rfl (fun h => ?_) (fun h => ?_)
    · simp [-List.getD_eq_getElem?_getD] at h
      refine aw_skip ?_; simp (maxSteps := 200000) (disch := omega) [-List.getD_eq_getElem?_getD]
      refine hK2 _ ?_; clear hK2
      refine aw_then fun K3 hK3 => ?_
      refine aw_block ?_
      refine aw_reg fun K hK => ?_; simp (maxSteps := 200000) (disch := omega) [-List.getD_eq_getElem?_getD]; refine hK _ ?_; clear hK K
      have hk3 : k + 1 ≤ k + (a.length + 1 - k) := by omega
      refine aw_reg0 fun K hK => ?_; simp (maxSteps := 200000) (disch := omega) [-List.getD_eq_getElem?_getD, tb_len, ints_rep, ptrs_len, hk3]
      refine hK _ ?_; clear hK K
      refine hK3 _ ?_; clear hK3
      refine aw_reg0 fun K hK => ?_; simp (maxSteps := 200000) (disch := omega) [-List.getD_eq_getElem?_getD]
      refine hK _ ?_; clear hK K
      refine ⟨k + 1, by show k + 1 ≤ _; omega, by show a.length + 1 - (k + 1) < a.length + 1 - k; omega, ?_⟩
      have hz : tb (List.replicate k (List.replicate (b.length + 1) 0)) ++ [.cells (ints (List.replicate (b.length + 1) 0))] = tb (List.replicate (k + 1) (List.replicate (b.length + 1) 0)) := by rw [tb_snoc]; exact congrArg tb List.replicate_succ'.symm
      have hp := ptrs_set (H.length + 1) (b.length + 1) (a.length + 1) k (by omega) (.sl 0 [] .full)
      rw [hz, show H.length + (k + 1) = H.length + 1 + k by omega, hp]
      refine weak_to [] [] ?_ ?_ ?_ ?_ (hok_tb HO _ _ ?_) ?_
      · simp
      · simp
      · simp
      · simp
      · intro v hv
        rw [List.mem_append] at hv
        rcases hv with hv | hv
        · exact below_ptrs (by simp; try omega) v hv
        · rw [List.mem_replicate] at hv
          rw [hv.2]
          simp
      · simp
    · simp [-List.getD_eq_getElem?_getD] at h
      have hk2 : k = a.length + 1 := by omega
      subst hk2
      refine aw_exit ?_; simp (maxSteps := 200000) (disch := omega) [-List.getD_eq_getElem?_getD]
      refine hK1 _ ?_; clear hK1
      refine aw_then fun K2 hK2 => ?_
      refine aw_reg fun K hK => ?_; simp (maxSteps := 200000) (disch := omega) [-List.getD_eq_getElem?_getD]; refine hK _ ?_; clear hK K
      refine aw_block ?_
      have hk0 : a.length + 1 - 1 = a.length := rfl
      refine aw_loop (X := Nat × List (List Int)) (fun x => ⟨[(0, .sl a.length (ints a) .none), (1, .sl b.length (ints b) .none), (5, .msl H.length 0 (a.length + 1)), (7, .int .i64 ((x.1 : Nat) - 1 : Int))],
          H ++ .cells (ptrs (H.length + 1) (b.length + 1) (a.length + 1)) :: tb x.2, T⟩)
        (fun x => x.1 ≤ a.length ∧ Shape (a.length + 1) (b.length + 1) x.2 ∧ (∀ i j, x.1 ≤ i → i ≤ a.length → j ≤ b.length → at2 x.2 i j = LC a b i j) ∧ (∀ i, i < x.1 → at2 x.2 i b.length = 0)) (fun x => x.1) (a.length, List.replicate (a.length + 1) (List.replicate (b.length + 1) 0)) ?_ ?_ ?_
      · have hz : ∀ i j, i ≤ a.length → at2 (List.replicate (a.length + 1) (List.replicate (b.length + 1) 0)) i j = 0 := by
          intro i j hi
          have e1 : (List.replicate (a.length + 1) (List.replicate (b.length + 1) (0 : Int))).getD i [] = List.replicate (b.length + 1) 0 := by
            rw [List.getD_eq_getElem?_getD, List.getElem?_replicate, if_pos (by omega), Option.getD_some]
          unfold at2
          rw [e1, List.getD_eq_getElem?_getD, List.getElem?_replicate]
          split <;> rfl
        refine ⟨Nat.le_refl _, ⟨by simp, fun i hi => ?_⟩, fun i j h1 h2 h3 => ?_, fun i hi => hz i _ (by simp only at hi; omega)⟩
        · rw [List.getD_eq_getElem?_getD, List.getElem?_replicate, if_pos hi]
          simp
        · have : i = a.length := by simp only at h1; omega
          rw [hz i j h2, this, LC_row]
      · refine weak_to [] [] ?_ ?_ ?_ ?_ (hok_tb HO _ _ (below_ptrs (by simp))) ?_
        all_goals simp
      · rintro ⟨c, R⟩ ⟨h1, h2, h3, h6⟩
        simp only at h1 h2 h3 h6
        have hl : R.length = a.length + 1 := h2.1
        cases c with
        | zero =>
          refine aw_then fun K3 hK3 => ?_
          refine aw_reg fun K hK => ?_; simp (maxSteps := 200000) (disch := omega) [-List.getD_eq_getElem?_getD]; refine hK _ ?_; clear hK K
          refine aw_if rfl (fun h => absurd h (by simp)) (fun h => ?_)
          refine aw_exit ?_; simp (maxSteps := 200000) (disch := omega) [-List.getD_eq_getElem?_getD]
          refine hK2 _ ?_; clear hK2
          have h7 : ∀ i j, i ≤ a.length → j ≤ b.length → at2 R i j = LC a b i j := fun i j hi hj => h3 i j (Nat.zero_le _) hi hj
          clear h3 h6 h1
          refine aw_reg fun K hK => ?_; simp (maxSteps := 200000) (disch := omega) [-List.getD_eq_getElem?_getD]; refine hK _ ?_; clear hK K
          refine aw_then fun K2 hK2 => ?_
          refine aw_reg fun K hK => ?_; simp (maxSteps := 200000) (disch := omega) [-List.getD_eq_getElem?_getD]; refine hK _ ?_; clear hK K
          refine aw_block ?_
          refine aw_own 9 0 1 [] (by omega) (by simp) ?_
          have hok : ∀ k, HOk (H ++ .cells (ptrs (H.length + 1) (b.length + 1) (a.length + 1)) :: tb R) (T ++ [(k, 1)]) := fun k => (hok_tb HO _ _ (below_ptrs (by rw [hl]; omega))).toks (by simp)
          refine aw_loop (X := Nat × Nat × Nat × List Int) (fun x => ⟨[(0, .sl a.length (ints a) .none), (1, .sl b.length (ints b) .none), (5, .msl H.length 0 (a.length + 1)), (9, .sl x.2.2.2.length (ints x.2.2.2) (.own T.length)), (10, .int .i64 (x.2.1 : Nat)), (11, .int .i64 (x.2.2.1 : Nat))], H ++ .cells (ptrs (H.length + 1) (b.length + 1) (a.length + 1)) :: tb R, T ++ [(x.2.2.2.length, 1)]⟩)
            (fun x => x.2.1 ≤ a.length ∧ x.2.2.1 ≤ b.length ∧ (a.length - x.2.1) + (b.length - x.2.2.1) ≤ x.1 ∧ ss a b = x.2.2.2 ++ SS a b x.1 x.2.1 x.2.2.1 ∧ x.2.2.2.length + x.1 ≤ a.length + b.length) (fun x => x.1) (a.length + b.length, 0, 0, []) ?_ ?_ ?_
          · exact ⟨by simp only; omega, by simp only; omega, by simp only; omega, rfl, by simp only [List.length_nil]; omega⟩
          · refine weak_to [] [] ?_ ?_ ?_ ?_ (hok _) ?_
            all_goals simp
          · rintro ⟨n, i, j, out⟩ ⟨h1, h2', h3, h4, h5⟩
            simp only at h1 h2' h3 h4 h5
            by_cases hi : i < a.length
            · have bi : decide ((i : Int) < a.length) = true := by simp; omega
              by_cases hj : j < b.length
              · have bj : decide ((j : Int) < b.length) = true := by simp; omega
                have hn : 0 < n := by omega
                have hri := h2.2 i (by omega)
                have hri1 := h2.2 (i + 1) (by omega)
                have e1 : (R.getD (i + 1) []).getD j 0 = LC a b (i + 1) j := h7 (i + 1) j (by omega) h2'
                have e2 : (R.getD i []).getD (j + 1) 0 = LC a b i (j + 1) := h7 i (j + 1) h1 (by omega)
                refine aw_then fun K3 hK3 => ?_
                refine aw_reg fun K hK => ?_; simp (maxSteps := 200000) (disch := omega) [-List.getD_eq_getElem?_getD, bi, bj, hi, hj]; refine hK _ ?_; clear hK K
                refine aw_if rfl (fun h => ?_) (fun h => absurd h (by simp))
                refine aw_skip ?_; simp (maxSteps := 200000) (disch := omega) [-List.getD_eq_getElem?_getD]
                refine hK3 _ ?_; clear hK3
                refine aw_block ?_
                refine aw_block ?_
                by_cases hc : a.getD i 0 = b.getD j 0
                · have hst := SS_keep hn hi hj hc
                  have b3 : (a.getD i 0 == b.getD j 0) = true := by simpa using hc
                  refine aw_draw [] [] [] drawMixed (by kernel_rfl) (by kernel_rfl) fun K hK => ?_; simp (maxSteps := 200000) (disch := omega) [-List.getD_eq_getElem?_getD, getD_ints, b3]
                  refine hK _ ?_; clear hK K
                  refine aw_if rfl (fun h => ?_) (fun h => absurd h (by simp))
                  refine aw_reg fun K hK => ?_; simp (maxSteps := 200000) (disch := omega) [-List.getD_eq_getElem?_getD, getD_ints]; refine hK _ ?_; clear hK K
                  refine aw_reg0 fun K hK => ?_; simp (maxSteps := 200000) (disch := omega) [-List.getD_eq_getElem?_getD]
                  refine hK _ ?_; clear hK K
                  refine ⟨(n - 1, i + 1, j + 1, out ++ [a.getD i 0]), ⟨by show i + 1 ≤ a.length; omega, by show j + 1 ≤ b.length; omega, by show (a.length - (i + 1)) + (b.length - (j + 1)) ≤ n - 1; omega, by rw [h4, hst]; simp, by simp only [List.length_append, List.length_cons, List.length_nil]; omega⟩, by show n - 1 < n; omega, ?_⟩
                  refine weak_to [] [] ?_ ?_ ?_ ?_ (hok _) ?_
                  · simp
                  · simp
                  · simp
                  · simp
                  · simp [-List.getD_eq_getElem?_getD, ints_snoc]; try omega
                · have b3 : (a.getD i 0 == b.getD j 0) = false := by simpa using hc
                  refine aw_draw [] [] [] drawMixed (by kernel_rfl) (by kernel_rfl) fun K hK => ?_; simp (maxSteps := 200000) (disch := omega) [-List.getD_eq_getElem?_getD, getD_ints, b3]
                  refine hK _ ?_; clear hK K
                  refine aw_if rfl (fun h => absurd h (by simp)) (fun h => ?_)
                  by_cases hd : LC a b (i + 1) j ≥ LC a b i (j + 1)
                  · have hst := SS_del hn hi hj hc hd
                    have b4 : decide (LC a b i (j + 1) ≤ LC a b (i + 1) j) = true := by simpa using hd
                    refine aw_draw [] [] [] drawMixed (by kernel_rfl) (by kernel_rfl) fun K hK => ?_; simp (maxSteps := 200000) (disch := omega) [-List.getD_eq_getElem?_getD, ptrs_at, ptrs_len, tb_at, new_at1, getD_ints, hl, hri, hri1, e1, e2, b4, hd]
                    refine hK _ ?_; clear hK K
                    refine aw_if rfl (fun h => ?_) (fun h => absurd h (by simp))
                    refine aw_reg0 fun K hK => ?_; simp (maxSteps := 200000) (disch := omega) [-List.getD_eq_getElem?_getD]
                    refine hK _ ?_; clear hK K
                    refine ⟨(n - 1, i + 1, j, out), ⟨by show i + 1 ≤ a.length; omega, by show j ≤ b.length; omega, by show (a.length - (i + 1)) + (b.length - (j)) ≤ n - 1; omega, by rw [h4, hst], by show out.length + (n - 1) ≤ _; omega⟩, by show n - 1 < n; omega, ?_⟩
                    refine weak_to [] [] ?_ ?_ ?_ ?_ (hok _) ?_
                    · simp
                    · simp
                    · simp
                    · simp
                    · simp [-List.getD_eq_getElem?_getD, ints_snoc]; try omega
                  · have hst := SS_ins hn hi hj hc hd
                    have b4 : decide (LC a b i (j + 1) ≤ LC a b (i + 1) j) = false := by simpa using hd
                    refine aw_draw [] [] [] drawMixed (by kernel_rfl) (by kernel_rfl) fun K hK => ?_; simp (maxSteps := 200000) (disch := omega) [-List.getD_eq_getElem?_getD, ptrs_at, ptrs_len, tb_at, new_at1, getD_ints, hl, hri, hri1, e1, e2, b4, hd]
                    refine hK _ ?_; clear hK K
                    refine aw_if rfl (fun h => absurd h (by simp)) (fun h => ?_)
                    refine aw_reg0 fun K hK => ?_; simp (maxSteps := 200000) (disch := omega) [-List.getD_eq_getElem?_getD]
                    refine hK _ ?_; clear hK K
                    refine ⟨(n - 1, i, j + 1, out), ⟨by show i ≤ a.length; omega, by show j + 1 ≤ b.length; omega, by show (a.length - (i)) + (b.length - (j + 1)) ≤ n - 1; omega, by rw [h4, hst], by show out.length + (n - 1) ≤ _; omega⟩, by show n - 1 < n; omega, ?_⟩
                    refine weak_to [] [] ?_ ?_ ?_ ?_ (hok _) ?_
                    · simp
                    · simp
                    · simp
                    · simp
                    · simp [-List.getD_eq_getElem?_getD, ints_snoc]; try omega
              · have bj : decide ((j : Int) < b.length) = false := by simp; omega
                have hend := SS_end (a := a) (b := b) (n := n) (i := i) (j := j) (.inr (by omega))
                rw [hend, List.append_nil] at h4
                refine aw_then fun K3 hK3 => ?_
                refine aw_reg fun K hK => ?_; simp (maxSteps := 200000) (disch := omega) [-List.getD_eq_getElem?_getD, bi, bj, hi, hj]; refine hK _ ?_; clear hK K
                refine aw_if rfl (fun h => absurd h (by simp)) (fun h => ?_)
                refine aw_exit ?_; simp (maxSteps := 200000) (disch := omega) [-List.getD_eq_getElem?_getD]
                refine hK2 _ ?_; clear hK2
                refine aw_reg fun K hK => ?_; simp (maxSteps := 200000) (disch := omega) [-List.getD_eq_getElem?_getD]; refine hK _ ?_; clear hK K
                refine aw_ret ?_; simp (maxSteps := 200000) (disch := omega) [-List.getD_eq_getElem?_getD]
                rw [h4]
                exact ⟨rfl, rfl⟩
            · have bi : decide ((i : Int) < a.length) = false := by simp; omega
              have hend := SS_end (a := a) (b := b) (n := n) (i := i) (j := j) (.inl (by omega))
              rw [hend, List.append_nil] at h4
              refine aw_then fun K3 hK3 => ?_
              refine aw_reg fun K hK => ?_; simp (maxSteps := 200000) (disch := omega) [-List.getD_eq_getElem?_getD, bi, hi]; refine hK _ ?_; clear hK K
              refine aw_if rfl (fun h => absurd h (by simp)) (fun h => ?_)
              refine aw_exit ?_; simp (maxSteps := 200000) (disch := omega) [-List.getD_eq_getElem?_getD]
              refine hK2 _ ?_; clear hK2
              refine aw_reg fun K hK => ?_; simp (maxSteps := 200000) (disch := omega) [-List.getD_eq_getElem?_getD]; refine hK _ ?_; clear hK K
              refine aw_ret ?_; simp (maxSteps := 200000) (disch := omega) [-List.getD_eq_getElem?_getD]
              rw [h4]
              exact ⟨rfl, rfl⟩
        | succ i =>
          refine aw_then fun K3 hK3 => ?_
          refine aw_reg fun K hK => ?_; simp (maxSteps := 200000) (disch := omega) [-List.getD_eq_getElem?_getD]; refine hK _ ?_; clear hK K
          refine aw_if rfl (fun h => ?_) (fun h => absurd h (by simp))
          refine aw_skip ?_; simp (maxSteps := 200000) (disch := omega) [-List.getD_eq_getElem?_getD]
          refine hK3 _ ?_; clear hK3
          refine aw_then fun K4 hK4 => ?_
          refine aw_block ?_
          refine aw_reg fun K hK => ?_; simp (maxSteps := 200000) (disch := omega) [-List.getD_eq_getElem?_getD]; refine hK _ ?_; clear hK K
          refine aw_block ?_
          refine aw_loop (X := Nat × List (List Int)) (fun x => ⟨[(0, .sl a.length (ints a) .none), (1, .sl b.length (ints b) .none), (5, .msl H.length 0 (a.length + 1)), (7, .int .i64 (i : Nat)), (8, .int .i64 ((x.1 : Nat) - 1 : Int))], H ++ .cells (ptrs (H.length + 1) (b.length + 1) (a.length + 1)) :: tb x.2, T⟩)
            (fun x => x.1 ≤ b.length ∧ Shape (a.length + 1) (b.length + 1) x.2 ∧ (∀ p q, i + 1 ≤ p → p ≤ a.length → q ≤ b.length → at2 x.2 p q = LC a b p q) ∧ (∀ q, x.1 ≤ q → q ≤ b.length → at2 x.2 i q = LC a b i q) ∧ (∀ p, p < i → at2 x.2 p b.length = 0)) (fun x => x.1) (b.length, R) ?_ ?_ ?_
          · refine ⟨Nat.le_refl _, h2, h3, fun q hq hq2 => ?_, fun p hp => h6 p (by omega)⟩
            have : q = b.length := by simp only at hq; omega
            rw [this, LC_col]
            exact h6 i (by omega)
          · refine weak_to [] [] ?_ ?_ ?_ ?_ (hok_tb HO _ _ (below_ptrs (by simp; try omega))) ?_
            all_goals simp
          · rintro ⟨d, R'⟩ ⟨g1, g2, g3, g4, g6⟩
            simp only at g1 g2 g3 g4 g6
            have hl' : R'.length = a.length + 1 := g2.1
            have hri := g2.2 i (by omega)
            have hri1 := g2.2 (i + 1) (by omega)
            cases d with
            | zero =>
              refine aw_then fun K5 hK5 => ?_
              refine aw_reg fun K hK => ?_; simp (maxSteps := 200000) (disch := omega) [-List.getD_eq_getElem?_getD]; refine hK _ ?_; clear hK K
              refine aw_if rfl (fun h => absurd h (by simp)) (fun h => ?_)
              refine aw_exit ?_; simp (maxSteps := 200000) (disch := omega) [-List.getD_eq_getElem?_getD]
              refine hK4 _ ?_; clear hK4
              refine aw_reg0 fun K hK => ?_; simp (maxSteps := 200000) (disch := omega) [-List.getD_eq_getElem?_getD]
              refine hK _ ?_; clear hK K
              refine ⟨(i, R'), ⟨by show i ≤ _; omega, g2, fun p q hp hp2 hq => ?_, fun p hp => g6 p hp⟩, by show i < i + 1; omega, ?_⟩
              · rcases Nat.lt_or_ge i p with hip | hip
                · exact g3 p q hip hp2 hq
                · have : p = i := by simp only at hp; omega
                  subst this
                  exact g4 q (Nat.zero_le _) hq
              · refine weak_to [] [] ?_ ?_ ?_ ?_ (hok_tb HO _ _ (below_ptrs (by simp; try omega))) ?_
                all_goals simp
            | succ j =>
              refine aw_then fun K5 hK5 => ?_
              refine aw_reg fun K hK => ?_; simp (maxSteps := 200000) (disch := omega) [-List.getD_eq_getElem?_getD]; refine hK _ ?_; clear hK K
              refine aw_if rfl (fun h => ?_) (fun h => absurd h (by simp))
              refine aw_skip ?_; simp (maxSteps := 200000) (disch := omega) [-List.getD_eq_getElem?_getD]
              refine hK5 _ ?_; clear hK5
              refine aw_then fun K6 hK6 => ?_
              refine aw_block ?_
              have key : ∀ e R2, Shape (a.length + 1) (b.length + 1) R2 → (∀ p q, at2 R2 p q = if p = i ∧ q = j then LC a b i j else at2 R' p q) → envLe (H.length + (a.length + 1 + 1)) T.length e [(0, .sl a.length (ints a) .none), (1, .sl b.length (ints b) .none), (5, .msl H.length 0 (a.length + 1)), (7, .int .i64 (i : Nat)), (8, .int .i64 (j : Nat))] → K6 ⟨e, H ++ .cells (ptrs (H.length + 1) (b.length + 1) (a.length + 1)) :: tb R2, T⟩ := by
                intro e R2 gs hat he
                have hb1 := below_ptrs (base := H.length + 1) (m := b.length + 1) (n := a.length + 1) (N := H.length + 1 + R2.length) (t := T.length) (by rw [gs.1]; omega)
                have hb2 : (H ++ Blk.cells (ptrs (H.length + 1) (b.length + 1) (a.length + 1)) :: tb R2).length = H.length + (a.length + 1 + 1) := by rw [List.length_append, List.length_cons, tb_len, gs.1]
                refine hK6 _ (aw_weak ⟨[(0, .sl a.length (ints a) .none), (1, .sl b.length (ints b) .none), (5, .msl H.length 0 (a.length + 1)), (7, .int .i64 (i : Nat)), (8, .int .i64 (j : Nat))], H ++ .cells (ptrs (H.length + 1) (b.length + 1) (a.length + 1)) :: tb R2, T⟩ (weak_to [] [] (by simp) (by simp) (by simp) (by simp) (hok_tb HO _ _ hb1) (by rw [hb2]; exact he)) ?_)
                refine aw_reg0 fun K hK => ?_; simp (maxSteps := 200000) (disch := omega) [-List.getD_eq_getElem?_getD]
                refine hK _ ?_; clear hK K
                refine ⟨(j, R2), ⟨by show j ≤ _; omega, gs, fun p q hp hp2 hq => ?_, fun q hq hq2 => ?_, fun p hp => ?_⟩, by show j < j + 1; omega, ?_⟩
                · rw [hat, if_neg (by omega)]
                  exact g3 p q hp hp2 hq
                · rw [hat]
                  by_cases hqj : q = j
                  · rw [if_pos ⟨rfl, hqj⟩, hqj]
                  · rw [if_neg (fun hh => hqj hh.2)]
                    exact g4 q (by simp only at hq; omega) hq2
                · rw [hat, if_neg (by omega)]
                  exact g6 p hp
                · refine weak_to [] [] ?_ ?_ ?_ ?_ (hok_tb HO _ _ hb1) ?_
                  all_goals simp
              clear hK6
              have r1 : (R'.getD (i + 1) []).getD (j + 1) 0 = LC a b (i + 1) (j + 1) := g3 (i + 1) (j + 1) (by omega) (by omega) (by omega)
              have r2 : (R'.getD (i + 1) []).getD j 0 = LC a b (i + 1) j := g3 (i + 1) j (by omega) (by omega) (by omega)
              have r3 : (R'.getD i []).getD (j + 1) 0 = LC a b i (j + 1) := g4 (j + 1) (by omega) (by omega)
              have l1 := LC_le a b (i + 1) (j + 1)
              have l2 := LC_le a b (i + 1) j
              have l3 := LC_le a b i (j + 1)
              refine aw_draw [23] [0, 0, 0, 0, 0, 0, 0, 0, 0, 0, 0, 0, 0, 0, 0, 0, 0, 0, 0, 0, 0, 0, 0, 0] [[]] drawMixed (by kernel_rfl) (by kernel_rfl) fun K hK => ?_; simp (maxSteps := 200000) (disch := omega) [-List.getD_eq_getElem?_getD, -List.set_append_right, ptrs_at, ptrs_len, tb_at, tb_set, new_at1, new_set1, tb_len, getD_ints, ints_set, hl', hri, hri1, r2, r3]
              refine hK _ ?_; clear hK K
              rw [show R'.set i ((R'.getD i []).set j (max (LC a b (i + 1) j) (LC a b i (j + 1)))) = put2 R' i j (max (LC a b (i + 1) j) (LC a b i (j + 1))) from rfl]
              have gs1 := g2.put i j (max (LC a b (i + 1) j) (LC a b i (j + 1)))
              have hat1 : ∀ p q, at2 (put2 R' i j (max (LC a b (i + 1) j) (LC a b i (j + 1)))) p q = if p = i ∧ q = j then max (LC a b (i + 1) j) (LC a b i (j + 1)) else at2 R' p q := fun p q => at2_put g2 (by omega) (by omega) _ p q
              generalize put2 R' i j (max (LC a b (i + 1) j) (LC a b i (j + 1))) = R1 at *
              have hl1 : R1.length = a.length + 1 := gs1.1
              have hq0 := gs1.2 i (by omega)
              have hq1 := gs1.2 (i + 1) (by omega)
              have f1 : (R1.getD i []).getD j 0 = max (LC a b (i + 1) j) (LC a b i (j + 1)) := by
                have := hat1 i j
                rw [if_pos ⟨rfl, rfl⟩] at this
                exact this
              have f2 : (R1.getD (i + 1) []).getD (j + 1) 0 = LC a b (i + 1) (j + 1) := by
                have := hat1 (i + 1) (j + 1)
                rw [if_neg (by omega)] at this
                exact this.trans r1
              by_cases hc : a.getD i 0 = b.getD j 0
              · have b3 : (a.getD i 0 == b.getD j 0) = true := by simpa using hc
                refine aw_draw [] [] [] drawMixed (by kernel_rfl) (by kernel_rfl) fun K hK => ?_; simp (maxSteps := 200000) (disch := omega) [-List.getD_eq_getElem?_getD, getD_ints, b3]
                refine hK _ ?_; clear hK K
                refine aw_if rfl (fun h => ?_) (fun h => absurd h (by simp))
                refine aw_draw0 [24] [0, 0, 0, 0, 0, 0, 0, 0, 0, 0, 0, 0, 0, 0, 0, 0, 0, 0, 0, 0, 0, 0, 0, 0, 0] [[]] drawMixed (by kernel_rfl) (by kernel_rfl) fun K hK => ?_; simp (maxSteps := 200000) (disch := omega) [-List.getD_eq_getElem?_getD, -List.set_append_right, ptrs_at, ptrs_len, tb_at, tb_set, new_at1, new_set1, tb_len, getD_ints, ints_set, hl1, hq0, hq1, f1, f2]
                refine hK _ ?_; clear hK K
                refine key _ (put2 R1 i j (max (LC a b (i + 1) j) (max (LC a b i (j + 1)) (1 + LC a b (i + 1) (j + 1))))) (gs1.put _ _ _) (fun p q => ?_) ?_
                · rw [at2_put gs1 (by omega) (by omega), LC_eq (by omega) (by omega) hc, hat1]
                  split
                  · omega
                  · rfl
                · simp; try omega
              · have b3 : (a.getD i 0 == b.getD j 0) = false := by simpa using hc
                refine aw_draw [] [] [] drawMixed (by kernel_rfl) (by kernel_rfl) fun K hK => ?_; simp (maxSteps := 200000) (disch := omega) [-List.getD_eq_getElem?_getD, getD_ints, b3]
                refine hK _ ?_; clear hK K
                refine aw_if rfl (fun h => absurd h (by simp)) (fun h => ?_)
                refine aw_skip ?_; simp (maxSteps := 200000) (disch := omega) [-List.getD_eq_getElem?_getD]
                refine key _ R1 gs1 (fun p q => ?_) ?_
                · rw [hat1, LC_ne (by omega) (by omega) hc]
                · simp; try omega
end Go.Proofs.Ytgndlhfnenlhkaa
