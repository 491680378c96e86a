/- Script of layer 11.
   Conditions: lengths below 500. -/
import Derived.Test.YtgndlhfnenlhkaaEFn6
namespace Go.Proofs.Ytgndlhfnenlhkaa
open Go Go.Am Edit
set_option linter.unusedVariables false

@[simp] theorem amade_two (v w : AV) : amade [v, w] 2 = [v, w] := rfl

/-- What is left of the script at two places. -/
def S (a b : List Int) (n i j : Nat) : List (Int × Int) := scN n (a.drop i) (b.drop j)

section
variable {a b : List Int} {n i j : Nat}
theorem S_keep (hn : 0 < n) (hi : i < a.length) (hj : j < b.length) (h : a.getD i 0 = b.getD j 0) : S a b n i j = (1, 0) :: S a b (n - 1) (i + 1) (j + 1) := by
  obtain ⟨m, rfl⟩ : ∃ m, n = m + 1 := ⟨n - 1, by omega⟩
  unfold S
  rw [drop_cons0 a i hi, drop_cons0 b j hj, scN, if_pos h]
  rfl
theorem S_rep (hn : 0 < n) (hi : i < a.length) (hj : j < b.length) (h : a.getD i 0 ≠ b.getD j 0) (h1 : D a b i j = 1 + D a b (i + 1) (j + 1)) : S a b n i j = (2, b.getD j 0) :: S a b (n - 1) (i + 1) (j + 1) := by
  obtain ⟨m, rfl⟩ : ∃ m, n = m + 1 := ⟨n - 1, by omega⟩
  unfold D at h1
  unfold S
  rw [drop_cons0 a i hi, drop_cons0 b j hj] at h1 ⊢
  rw [scN, if_neg h, if_pos (by omega)]
  rfl
theorem S_del (hn : 0 < n) (hi : i < a.length) (hj : j < b.length) (h : a.getD i 0 ≠ b.getD j 0) (h1 : D a b i j ≠ 1 + D a b (i + 1) (j + 1)) (h2 : D a b i j = 1 + D a b (i + 1) j) : S a b n i j = (3, 0) :: S a b (n - 1) (i + 1) j := by
  obtain ⟨m, rfl⟩ : ∃ m, n = m + 1 := ⟨n - 1, by omega⟩
  unfold D at h1 h2
  unfold S
  rw [drop_cons0 a i hi, drop_cons0 b j hj] at h1 h2 ⊢
  rw [scN, if_neg h, if_neg (by omega), if_pos (by omega)]
  rfl
theorem S_ins (hn : 0 < n) (hi : i < a.length) (hj : j < b.length) (h : a.getD i 0 ≠ b.getD j 0) (h1 : D a b i j ≠ 1 + D a b (i + 1) (j + 1)) (h2 : D a b i j ≠ 1 + D a b (i + 1) j) : S a b n i j = (4, b.getD j 0) :: S a b (n - 1) i (j + 1) := by
  obtain ⟨m, rfl⟩ : ∃ m, n = m + 1 := ⟨n - 1, by omega⟩
  unfold D at h1 h2
  unfold S
  rw [drop_cons0 a i hi, drop_cons0 b j hj] at h1 h2 ⊢
  rw [scN, if_neg h, if_neg (by omega), if_neg (by omega)]
  rfl
theorem S_del0 (hn : 0 < n) (hi : i < a.length) (hj : j = b.length) : S a b n i j = (3, 0) :: S a b (n - 1) (i + 1) j := by
  obtain ⟨m, rfl⟩ : ∃ m, n = m + 1 := ⟨n - 1, by omega⟩
  unfold S
  rw [drop_cons0 a i hi, hj, List.drop_length, scN]
  rfl
theorem S_ins0 (hn : 0 < n) (hi : i = a.length) (hj : j < b.length) : S a b n i j = (4, b.getD j 0) :: S a b (n - 1) i (j + 1) := by
  obtain ⟨m, rfl⟩ : ∃ m, n = m + 1 := ⟨n - 1, by omega⟩
  unfold S
  rw [drop_cons0 b j hj, hi, List.drop_length, scN]
  rfl
theorem S_end (hi : i = a.length) (hj : j = b.length) : S a b n i j = [] := by
  unfold S
  rw [hi, hj, List.drop_length, List.drop_length]
  cases n <;> rfl
end

set_option maxRecDepth 100000 in
set_option maxHeartbeats 4000000 in
theorem script_ok (a b : List Int) (ha : a.length ≤ 500) (hb : b.length ≤ 500) (H : List Blk) (T : Toks) (ta tb_ : Tag) : ACall Try.prog 20 [.sl a.length (ints a) ta, .sl b.length (ints b) tb_] H T (Is (.sl (sc a b).length (opsAV (sc a b)) .none) H T) := by
  refine ACall.untag1 (ACall.untag2 ?_)
  refine ACall.drop' ?_ (by simp)
  refine acall_enter 10 [] Try.ntmps20 Try.func20 rfl (fun _ _ => Try.call20 _ _) (by simp) (fun HO => ?_)
  refine aw_reg fun K hK => ?_; simp (maxSteps := 200000) (disch := omega) [-List.getD_eq_getElem?_getD]; refine hK _ ?_; clear hK K
  refine aw_reg fun K hK => ?_; simp (maxSteps := 200000) (disch := omega) [-List.getD_eq_getElem?_getD]
  refine ⟨_, table_ok a b (by omega) (by omega) _ _, ?_⟩
  rintro v H' T' ⟨hT, rfl, R, hR, rfl⟩
  obtain rfl := hT.symm
  simp (maxSteps := 200000) (disch := omega) [-List.getD_eq_getElem?_getD]
  refine hK _ ?_; clear hK K
  refine aw_reg fun K hK => ?_; simp (maxSteps := 200000) (disch := omega) [-List.getD_eq_getElem?_getD]; refine hK _ ?_; clear hK K
  refine aw_then fun K1 hK1 => ?_
  refine aw_reg fun K hK => ?_; simp (maxSteps := 200000) (disch := omega) [-List.getD_eq_getElem?_getD]; refine hK _ ?_; clear hK K
  refine aw_block ?_
  refine aw_own 6 0 2 [] (by omega) (by simp) ?_
  have hl : R.length = a.length + 1 := hR.1.1
  have hok : ∀ k, HOk (H ++ .cells (ptrs (H.length + 1) (b.length + 1) (a.length + 1)) :: tb R) (T ++ [(k, 2)]) := fun k => (hok_tb HO _ _ (below_ptrs (by rw [hl]; omega))).toks (by simp)
  refine aw_loop (X := Nat × Nat × Nat × List (Int × Int)) (fun x => ⟨[(0, .sl a.length (ints a) .none), (1, .sl b.length (ints b) .none), (5, .msl H.length 0 (a.length + 1)), (6, .sl x.2.2.2.length (opsAV x.2.2.2) (.own T.length)), (7, .int .i64 (x.2.1 : Nat)), (8, .int .i64 (x.2.2.1 : Nat))], H ++ .cells (ptrs (H.length + 1) (b.length + 1) (a.length + 1)) :: tb R, T ++ [(x.2.2.2.length * 2, 2)]⟩)
    (fun x => x.2.1 ≤ a.length ∧ x.2.2.1 ≤ b.length ∧ (a.length - x.2.1) + (b.length - x.2.2.1) ≤ x.1 ∧ sc a b = x.2.2.2 ++ S a b x.1 x.2.1 x.2.2.1 ∧ x.2.2.2.length + x.1 = a.length + b.length) (fun x => x.1) (a.length + b.length, 0, 0, []) ?_ ?_ ?_
  · exact ⟨by simp only; omega, by simp only; omega, by simp only; omega, rfl, by simp only [List.length_nil]; omega⟩
  · refine weak_to [] [] ?_ ?_ ?_ ?_ (hok_tb HO _ _ (below_ptrs (by rw [hl]; omega)) |>.toks (by simp)) ?_
    all_goals simp [opsAV]
  · rintro ⟨n, i, j, out⟩ ⟨h1, h2, h3, h4, h5⟩
    simp only at h1 h2 h3 h4 h5
    have hri := hR.1.2 i (by omega)
    have l0 := D_le a b i j
    have e0 : (R.getD i []).getD j 0 = D a b i j := hR.2 i j h1 h2
    by_cases hi : i < a.length
    · have bi : decide ((i : Int) < a.length) = true := by simp; omega
      have hri1 := hR.1.2 (i + 1) (by omega)
      have l2 := D_le a b (i + 1) j
      have e2 : (R.getD (i + 1) []).getD j 0 = D a b (i + 1) j := hR.2 (i + 1) j (by omega) h2
      by_cases hj : j < b.length
      · have bj : decide ((j : Int) < b.length) = true := by simp; omega
        have l1 := D_le a b (i + 1) (j + 1)
        have e1 : (R.getD (i + 1) []).getD (j + 1) 0 = D a b (i + 1) (j + 1) := hR.2 (i + 1) (j + 1) (by omega) (by omega)
        have hn : 0 < n := by omega
        refine aw_then fun K2 hK2 => ?_
        refine aw_reg fun K hK => ?_; simp (maxSteps := 200000) (disch := omega) [-List.getD_eq_getElem?_getD, bi, bj, hi, hj]; refine hK _ ?_; clear hK K
        refine aw_if rfl (fun h => ?_) (fun h => absurd h (by simp))
        refine aw_skip ?_; simp (maxSteps := 200000) (disch := omega) [-List.getD_eq_getElem?_getD]
        refine hK2 _ ?_; clear hK2
        refine aw_block ?_
        refine aw_reg fun K hK => ?_; simp (maxSteps := 200000) (disch := omega) [-List.getD_eq_getElem?_getD, ptrs_at, ptrs_len, tb_at, new_at1, getD_ints, hl, hri, opsAV_len, e0]; refine hK _ ?_; clear hK K
        refine aw_block ?_
        by_cases hc : a.getD i 0 = b.getD j 0
        · have hst := S_keep hn hi hj hc
          have b3 : (a.getD i 0 == b.getD j 0) = true := by simpa using hc
          refine aw_draw [] [] [] drawMixed (by kernel_rfl) (by kernel_rfl) fun K hK => ?_; simp (maxSteps := 200000) (disch := omega) [-List.getD_eq_getElem?_getD, bi, bj, hi, hj, getD_ints, b3]
          refine hK _ ?_; clear hK K
          refine aw_if rfl (fun h => ?_) (fun h => absurd h (by simp))
          refine aw_reg fun K hK => ?_; simp (maxSteps := 200000) (disch := omega) [-List.getD_eq_getElem?_getD, opsAV_len]; refine hK _ ?_; clear hK K
          refine aw_reg0 fun K hK => ?_; simp (maxSteps := 200000) (disch := omega) [-List.getD_eq_getElem?_getD]
          refine hK _ ?_; clear hK K
          refine ⟨(n - 1, i + 1, j + 1, out ++ [(1, 0)]), ⟨by show i + 1 ≤ a.length; omega, by show j + 1 ≤ b.length; omega, by show (a.length - (i + 1)) + (b.length - (j + 1)) ≤ n - 1; omega, by rw [h4, hst]; simp, by simp only [List.length_append, List.length_cons, List.length_nil]; omega⟩, by show n - 1 < n; omega, ?_⟩
          refine weak_to [] [] ?_ ?_ ?_ ?_ (hok _) ?_
          · simp
          · simp
          · simp
          · simp
          · simp [-List.getD_eq_getElem?_getD, opsAV_snoc]; try omega
        · have b3 : (a.getD i 0 == b.getD j 0) = false := by simpa using hc
          refine aw_draw [] [] [] drawMixed (by kernel_rfl) (by kernel_rfl) fun K hK => ?_; simp (maxSteps := 200000) (disch := omega) [-List.getD_eq_getElem?_getD, bi, bj, hi, hj, getD_ints, b3]
          refine hK _ ?_; clear hK K
          refine aw_if rfl (fun h => absurd h (by simp)) (fun h => ?_)
          by_cases hd : D a b i j = 1 + D a b (i + 1) (j + 1)
          · have hst := S_rep hn hi hj hc hd
            have b4 : (D a b (i + 1) (j + 1) == D a b i j - 1) = true := by simp; omega
            refine aw_reg fun K hK => ?_; simp (maxSteps := 200000) (disch := omega) [-List.getD_eq_getElem?_getD, bi, bj, hi, hj, ptrs_at, ptrs_len, tb_at, new_at1, getD_ints, hl, hri, opsAV_len, hri1, e1, b4]; refine hK _ ?_; clear hK K
            refine aw_if rfl (fun h => ?_) (fun h => absurd h (by simp))
            refine aw_reg fun K hK => ?_; simp (maxSteps := 200000) (disch := omega) [-List.getD_eq_getElem?_getD, opsAV_len, getD_ints]; refine hK _ ?_; clear hK K
            refine aw_reg0 fun K hK => ?_; simp (maxSteps := 200000) (disch := omega) [-List.getD_eq_getElem?_getD]
            refine hK _ ?_; clear hK K
            refine ⟨(n - 1, i + 1, j + 1, out ++ [(2, b.getD j 0)]), ⟨by show i + 1 ≤ a.length; omega, by show j + 1 ≤ b.length; omega, by show (a.length - (i + 1)) + (b.length - (j + 1)) ≤ n - 1; omega, by rw [h4, hst]; simp, by simp only [List.length_append, List.length_cons, List.length_nil]; omega⟩, by show n - 1 < n; omega, ?_⟩
            refine weak_to [] [] ?_ ?_ ?_ ?_ (hok _) ?_
            · simp
            · simp
            · simp
            · simp
            · simp [-List.getD_eq_getElem?_getD, opsAV_snoc]; try omega
          · have b4 : (D a b (i + 1) (j + 1) == D a b i j - 1) = false := by simp; omega
            refine aw_reg fun K hK => ?_; simp (maxSteps := 200000) (disch := omega) [-List.getD_eq_getElem?_getD, bi, bj, hi, hj, ptrs_at, ptrs_len, tb_at, new_at1, getD_ints, hl, hri, opsAV_len, hri1, e1, b4]; refine hK _ ?_; clear hK K
            refine aw_if rfl (fun h => absurd h (by simp)) (fun h => ?_)
            by_cases he : D a b i j = 1 + D a b (i + 1) j
            · have hst := S_del hn hi hj hc hd he
              have b5 : (D a b (i + 1) j == D a b i j - 1) = true := by simp; omega
              refine aw_reg fun K hK => ?_; simp (maxSteps := 200000) (disch := omega) [-List.getD_eq_getElem?_getD, bi, bj, hi, hj, ptrs_at, ptrs_len, tb_at, new_at1, getD_ints, hl, hri, opsAV_len, hri1, e2, b5]; refine hK _ ?_; clear hK K
              refine aw_if rfl (fun h => ?_) (fun h => absurd h (by simp))
              refine aw_reg fun K hK => ?_; simp (maxSteps := 200000) (disch := omega) [-List.getD_eq_getElem?_getD, opsAV_len, getD_ints]; refine hK _ ?_; clear hK K
              refine aw_reg0 fun K hK => ?_; simp (maxSteps := 200000) (disch := omega) [-List.getD_eq_getElem?_getD]
              refine hK _ ?_; clear hK K
              refine ⟨(n - 1, i + 1, j, out ++ [(3, 0)]), ⟨by show i + 1 ≤ a.length; omega, by show j ≤ b.length; omega, by show (a.length - (i + 1)) + (b.length - (j)) ≤ n - 1; omega, by rw [h4, hst]; simp, by simp only [List.length_append, List.length_cons, List.length_nil]; omega⟩, by show n - 1 < n; omega, ?_⟩
              refine weak_to [] [] ?_ ?_ ?_ ?_ (hok _) ?_
              · simp
              · simp
              · simp
              · simp
              · simp [-List.getD_eq_getElem?_getD, opsAV_snoc]; try omega
            · have hst := S_ins hn hi hj hc hd he
              have b5 : (D a b (i + 1) j == D a b i j - 1) = false := by simp; omega
              refine aw_reg fun K hK => ?_; simp (maxSteps := 200000) (disch := omega) [-List.getD_eq_getElem?_getD, bi, bj, hi, hj, ptrs_at, ptrs_len, tb_at, new_at1, getD_ints, hl, hri, opsAV_len, hri1, e2, b5]; refine hK _ ?_; clear hK K
              refine aw_if rfl (fun h => absurd h (by simp)) (fun h => ?_)
              refine aw_reg fun K hK => ?_; simp (maxSteps := 200000) (disch := omega) [-List.getD_eq_getElem?_getD, opsAV_len, getD_ints]; refine hK _ ?_; clear hK K
              refine aw_reg0 fun K hK => ?_; simp (maxSteps := 200000) (disch := omega) [-List.getD_eq_getElem?_getD]
              refine hK _ ?_; clear hK K
              refine ⟨(n - 1, i, j + 1, out ++ [(4, b.getD j 0)]), ⟨by show i ≤ a.length; omega, by show j + 1 ≤ b.length; omega, by show (a.length - (i)) + (b.length - (j + 1)) ≤ n - 1; omega, by rw [h4, hst]; simp, by simp only [List.length_append, List.length_cons, List.length_nil]; omega⟩, by show n - 1 < n; omega, ?_⟩
              refine weak_to [] [] ?_ ?_ ?_ ?_ (hok _) ?_
              · simp
              · simp
              · simp
              · simp
              · simp [-List.getD_eq_getElem?_getD, opsAV_snoc]; try omega
      · have bj : decide ((j : Int) < b.length) = false := by simp; omega
        have hjb : j = b.length := by omega
        have hn : 0 < n := by omega
        have hst := S_del0 hn hi hjb
        have c1 := D_col a b i (by omega)
        have c2 := D_col a b (i + 1) (by omega)
        rw [← hjb] at c1 c2
        have b5 : (D a b (i + 1) j == D a b i j - 1) = true := by simp; omega
        refine aw_then fun K2 hK2 => ?_
        refine aw_reg fun K hK => ?_; simp (maxSteps := 200000) (disch := omega) [-List.getD_eq_getElem?_getD, bi, bj, hi, hj]; refine hK _ ?_; clear hK K
        refine aw_if rfl (fun h => ?_) (fun h => absurd h (by simp))
        refine aw_skip ?_; simp (maxSteps := 200000) (disch := omega) [-List.getD_eq_getElem?_getD]
        refine hK2 _ ?_; clear hK2
        refine aw_block ?_
        refine aw_reg fun K hK => ?_; simp (maxSteps := 200000) (disch := omega) [-List.getD_eq_getElem?_getD, ptrs_at, ptrs_len, tb_at, new_at1, getD_ints, hl, hri, opsAV_len, e0]; refine hK _ ?_; clear hK K
        refine aw_block ?_
        refine aw_draw [] [] [] drawMixed (by kernel_rfl) (by kernel_rfl) fun K hK => ?_; simp (maxSteps := 200000) (disch := omega) [-List.getD_eq_getElem?_getD, bi, bj, hi, hj]
        refine hK _ ?_; clear hK K
        refine aw_if rfl (fun h => absurd h (by simp)) (fun h => ?_)
        refine aw_reg fun K hK => ?_; simp (maxSteps := 200000) (disch := omega) [-List.getD_eq_getElem?_getD, bi, bj, hi, hj]; refine hK _ ?_; clear hK K
        refine aw_if rfl (fun h => absurd h (by simp)) (fun h => ?_)
        refine aw_reg fun K hK => ?_; simp (maxSteps := 200000) (disch := omega) [-List.getD_eq_getElem?_getD, bi, bj, hi, hj, ptrs_at, ptrs_len, tb_at, new_at1, getD_ints, hl, hri, opsAV_len, hri1, e2, b5]; refine hK _ ?_; clear hK K
        refine aw_if rfl (fun h => ?_) (fun h => absurd h (by simp))
        refine aw_reg fun K hK => ?_; simp (maxSteps := 200000) (disch := omega) [-List.getD_eq_getElem?_getD, opsAV_len, getD_ints]; refine hK _ ?_; clear hK K
        refine aw_reg0 fun K hK => ?_; simp (maxSteps := 200000) (disch := omega) [-List.getD_eq_getElem?_getD]
        refine hK _ ?_; clear hK K
        refine ⟨(n - 1, i + 1, j, out ++ [(3, 0)]), ⟨by show i + 1 ≤ a.length; omega, by show j ≤ b.length; omega, by show (a.length - (i + 1)) + (b.length - (j)) ≤ n - 1; omega, by rw [h4, hst]; simp, by simp only [List.length_append, List.length_cons, List.length_nil]; omega⟩, by show n - 1 < n; omega, ?_⟩
        refine weak_to [] [] ?_ ?_ ?_ ?_ (hok _) ?_
        · simp
        · simp
        · simp
        · simp
        · simp [-List.getD_eq_getElem?_getD, opsAV_snoc]; try omega
    · have bi : decide ((i : Int) < a.length) = false := by simp; omega
      have hia : i = a.length := by omega
      by_cases hj : j < b.length
      · have bj : decide ((j : Int) < b.length) = true := by simp; omega
        have hn : 0 < n := by omega
        have hst := S_ins0 hn hia hj
        refine aw_then fun K2 hK2 => ?_
        refine aw_reg fun K hK => ?_; simp (maxSteps := 200000) (disch := omega) [-List.getD_eq_getElem?_getD, bi, bj, hi, hj]; refine hK _ ?_; clear hK K
        refine aw_if rfl (fun h => ?_) (fun h => absurd h (by simp))
        refine aw_skip ?_; simp (maxSteps := 200000) (disch := omega) [-List.getD_eq_getElem?_getD]
        refine hK2 _ ?_; clear hK2
        refine aw_block ?_
        refine aw_reg fun K hK => ?_; simp (maxSteps := 200000) (disch := omega) [-List.getD_eq_getElem?_getD, ptrs_at, ptrs_len, tb_at, new_at1, getD_ints, hl, hri, opsAV_len, e0]; refine hK _ ?_; clear hK K
        refine aw_block ?_
        refine aw_draw [] [] [] drawMixed (by kernel_rfl) (by kernel_rfl) fun K hK => ?_; simp (maxSteps := 200000) (disch := omega) [-List.getD_eq_getElem?_getD, bi, bj, hi, hj]
        refine hK _ ?_; clear hK K
        refine aw_if rfl (fun h => absurd h (by simp)) (fun h => ?_)
        refine aw_reg fun K hK => ?_; simp (maxSteps := 200000) (disch := omega) [-List.getD_eq_getElem?_getD, bi, bj, hi, hj]; refine hK _ ?_; clear hK K
        refine aw_if rfl (fun h => absurd h (by simp)) (fun h => ?_)
        refine aw_reg fun K hK => ?_; simp (maxSteps := 200000) (disch := omega) [-List.getD_eq_getElem?_getD, bi, bj, hi, hj]; refine hK _ ?_; clear hK K
        refine aw_if rfl (fun h => absurd h (by simp)) (fun h => ?_)
        refine aw_reg fun K hK => ?_; simp (maxSteps := 200000) (disch := omega) [-List.getD_eq_getElem?_getD, opsAV_len, getD_ints]; refine hK _ ?_; clear hK K
        refine aw_reg0 fun K hK => ?_; simp (maxSteps := 200000) (disch := omega) [-List.getD_eq_getElem?_getD]
        refine hK _ ?_; clear hK K
        refine ⟨(n - 1, i, j + 1, out ++ [(4, b.getD j 0)]), ⟨by show i ≤ a.length; omega, by show j + 1 ≤ b.length; omega, by show (a.length - (i)) + (b.length - (j + 1)) ≤ n - 1; omega, by rw [h4, hst]; simp, by simp only [List.length_append, List.length_cons, List.length_nil]; omega⟩, by show n - 1 < n; omega, ?_⟩
        refine weak_to [] [] ?_ ?_ ?_ ?_ (hok _) ?_
        · simp
        · simp
        · simp
        · simp
        · simp [-List.getD_eq_getElem?_getD, opsAV_snoc]; try omega
      · have bj : decide ((j : Int) < b.length) = false := by simp; omega
        have hend := S_end (n := n) hia (show j = b.length by omega)
        rw [hend, List.append_nil] at h4
        refine aw_then fun K2 hK2 => ?_
        refine aw_reg fun K hK => ?_; simp (maxSteps := 200000) (disch := omega) [-List.getD_eq_getElem?_getD, bi, bj, hi, hj]; refine hK _ ?_; clear hK K
        refine aw_if rfl (fun h => absurd h (by simp)) (fun h => ?_)
        refine aw_exit ?_; simp (maxSteps := 200000) (disch := omega) [-List.getD_eq_getElem?_getD]
        refine hK1 _ ?_; clear hK1
        refine aw_reg fun K hK => ?_; simp (maxSteps := 200000) (disch := omega) [-List.getD_eq_getElem?_getD]; refine hK _ ?_; clear hK K
        refine aw_ret ?_; simp (maxSteps := 200000) (disch := omega) [-List.getD_eq_getElem?_getD]
        rw [h4]
        exact ⟨rfl, rfl⟩
end Go.Proofs.Ytgndlhfnenlhkaa
