/- Subsequence of the reference of layer 11.
   Conditions: lengths below 500. -/
import Derived.Test.YtgndlhfnenlhkaaEFn8
namespace Go.Proofs.Ytgndlhfnenlhkaa
open Go Go.Am Edit
set_option linter.unusedVariables false

theorem LC_eq' {a b : List Int} {i j : Nat} (hi : i < a.length) (hj : j < b.length) (h : a.getD i 0 = b.getD j 0) : LC a b i j = 1 + LC a b (i + 1) (j + 1) := by
  unfold LC
  rw [drop_cons0 a i hi, drop_cons0 b j hj, h, lc_eq]
  omega

theorem at2_zero (R : List (List Int)) (s m q : Nat) (h : R.length = s) : at2 (R ++ [List.replicate m 0]) s q = 0 := by
  have e : (R ++ [List.replicate m (0 : Int)]).getD s [] = List.replicate m 0 := by
    rw [List.getD_eq_getElem?_getD, List.getElem?_append_right (by omega), h, Nat.sub_self]; rfl
  unfold at2
  rw [e, List.getD_eq_getElem?_getD, List.getElem?_replicate]
  split <;> rfl

set_option maxRecDepth 100000 in
set_option maxHeartbeats 8000000 in
theorem subseqR_ok (a b : List Int) (ha : a.length ≤ 500) (hb : b.length ≤ 500) (H : List Blk) (T : Toks) (ta tb_ : Tag) : ACall Try.prog 23 [.sl a.length (ints a) ta, .sl b.length (ints b) tb_] H T (Is (.sl (ss a b).length (ints (ss a b)) .none) H T) := by
  refine ACall.untag1 (ACall.untag2 ?_)
  refine ACall.drop' ?_ (by simp)
  refine acall_enter 39 [] Try.ntmps23 Try.func23 rfl (fun _ _ => Try.call23 _ _) (by simp) (fun HO => ?_)
  refine aw_reg fun K hK => ?_; simp (maxSteps := 200000) (disch := omega) [-List.getD_eq_getElem?_getD]; refine hK _ ?_; clear hK K
  refine aw_reg fun K hK => ?_; simp (maxSteps := 200000) (disch := omega) [-List.getD_eq_getElem?_getD, ← ptrR_zero (H.length + 1) (b.length + 1) a.length]; refine hK _ ?_; clear hK K
  refine aw_then fun K1 hK1 => ?_
  refine aw_reg fun K hK => ?_; simp (maxSteps := 200000) (disch := omega) [-List.getD_eq_getElem?_getD]; refine hK _ ?_; clear hK K
  refine aw_block ?_
  refine aw_loop (X := Nat × List (List Int)) (fun x => ⟨[(0, .sl a.length (ints a) .none), (1, .sl b.length (ints b) .none), (5, .msl H.length 0 (a.length + 1)), (6, .int .i64 ((x.1 : Nat) - 1 : Int))],
      H ++ .cells (ptrR (H.length + 1) (b.length + 1) a.length x.1) :: tb x.2, T⟩)
    (fun x => x.1 ≤ a.length + 1 ∧ Shape (a.length + 1 - x.1) (b.length + 1) x.2 ∧ ∀ i j, x.1 ≤ i → i ≤ a.length → j ≤ b.length → at2 x.2 (a.length - i) j = LC a b i j) (fun x => x.1) (a.length + 1, []) ?_ ?_ ?_
  · exact ⟨Nat.le_refl _, ⟨by simp, fun i hi => by simp at hi⟩, fun i j h1 h2 => by simp only at h1; omega⟩
  · refine weak_to [] [] ?_ ?_ ?_ ?_ (hok_tb HO _ _ (below_ptrR (by simp))) ?_
    all_goals simp [tb]
  · rintro ⟨c, R⟩ ⟨h1, h2, h3⟩
    simp only at h1 h2 h3
    cases c with
    | zero =>
      refine aw_then fun K3 hK3 => ?_
      refine aw_reg fun K hK => ?_; simp (maxSteps := 200000) (disch := omega) [-List.getD_eq_getElem?_getD]; refine hK _ ?_; clear hK K
      refine aw_if rfl (fun h => absurd h (by simp)) (fun h => ?_)
      refine aw_exit ?_; simp (maxSteps := 200000) (disch := omega) [-List.getD_eq_getElem?_getD]
      refine hK1 _ ?_; clear hK1
      have hl : R.length = a.length + 1 := h2.1
      have h2 : Shape (a.length + 1) (b.length + 1) R := h2
      have h7 : ∀ i j, i ≤ a.length → j ≤ b.length → at2 R (a.length - i) j = LC a b i j := fun i j hi hj => h3 i j (Nat.zero_le _) hi hj
      clear h3 h1
      refine aw_reg fun K hK => ?_; simp (maxSteps := 200000) (disch := omega) [-List.getD_eq_getElem?_getD]; refine hK _ ?_; clear hK K
      refine aw_reg fun K hK => ?_; simp (maxSteps := 200000) (disch := omega) [-List.getD_eq_getElem?_getD]; refine hK _ ?_; clear hK K
      refine aw_then fun K2 hK2 => ?_
      refine aw_block ?_
      refine aw_own 8 0 1 [] (by omega) (by simp) ?_
      have hok : ∀ k, HOk (H ++ .cells (ptrR (H.length + 1) (b.length + 1) a.length 0) :: tb R) (T ++ [(k, 1)]) := fun k => (hok_tb HO _ _ (below_ptrR (by rw [hl]; omega))).toks (by simp)
      refine aw_loop (X := Nat × Nat × Nat × List Int) (fun x => ⟨[(0, .sl a.length (ints a) .none), (1, .sl b.length (ints b) .none), (5, .msl H.length 0 (a.length + 1)), (8, .sl x.2.2.2.length (ints x.2.2.2) (.own T.length)), (9, .int .i64 (x.2.1 : Nat)), (10, .int .i64 (x.2.2.1 : Nat))], H ++ .cells (ptrR (H.length + 1) (b.length + 1) a.length 0) :: tb R, T ++ [(x.2.2.2.length, 1)]⟩)
        (fun x => x.2.1 ≤ a.length ∧ x.2.2.1 ≤ b.length ∧ (a.length - x.2.1) + (b.length - x.2.2.1) ≤ x.1 ∧ ss a b = x.2.2.2 ++ SS a b x.1 x.2.1 x.2.2.1 ∧ x.2.2.2.length + x.1 ≤ a.length + b.length) (fun x => x.1) (a.length + b.length, 0, 0, []) ?_ ?_ ?_
      · exact ⟨by simp only; omega, by simp only; omega, by simp only; omega, rfl, by simp only [List.length_nil]; omega⟩
      · refine weak_to [] [] ?_ ?_ ?_ ?_ (hok _) ?_
        all_goals simp
      · rintro ⟨n, i, j, out⟩ ⟨h1, h2', h3, h4, h5⟩
        simp only at h1 h2' h3 h4 h5
        by_cases hi : i < a.length
        · have bi : decide ((i : Int) < a.length) = true := by simp; omega
          by_cases hj : j < b.length
          · have bj : decide ((j : Int) < b.length) = true := by simp; omega
            have hn : 0 < n := by omega
            have hri := h2.2 (a.length - i) (by omega)
            have hri1 := h2.2 (a.length - (i + 1)) (by omega)
            have e1 : (R.getD (a.length - (i + 1)) []).getD j 0 = LC a b (i + 1) j := h7 (i + 1) j (by omega) h2'
            have e2 : (R.getD (a.length - i) []).getD (j + 1) 0 = LC a b i (j + 1) := h7 i (j + 1) h1 (by omega)
            refine aw_then fun K3 hK3 => ?_
            refine aw_reg fun K hK => ?_; simp (maxSteps := 200000) (disch := omega) [-List.getD_eq_getElem?_getD, bi, bj, hi, hj]; refine hK _ ?_; clear hK K
            refine aw_if rfl (fun h => ?_) (fun h => absurd h (by simp))
            refine aw_skip ?_; simp (maxSteps := 200000) (disch := omega) [-List.getD_eq_getElem?_getD]
            refine hK3 _ ?_; clear hK3
            refine aw_block ?_
            refine aw_block ?_
            by_cases hc : a.getD i 0 = b.getD j 0
            · have hst := SS_keep hn hi hj hc
              have b3 : (a.getD i 0 == b.getD j 0) = true := by simpa using hc
              refine aw_draw [] [] [] drawMixed (by kernel_rfl) (by kernel_rfl) fun K hK => ?_; simp (maxSteps := 200000) (disch := omega) [-List.getD_eq_getElem?_getD, getD_ints, b3]
              refine hK _ ?_; clear hK K
              refine aw_if rfl (fun h => ?_) (fun h => absurd h (by simp))
              refine aw_reg fun K hK => ?_; simp (maxSteps := 200000) (disch := omega) [-List.getD_eq_getElem?_getD, getD_ints]; refine hK _ ?_; clear hK K
              refine aw_reg0 fun K hK => ?_; simp (maxSteps := 200000) (disch := omega) [-List.getD_eq_getElem?_getD]
              refine hK _ ?_; clear hK K
              refine ⟨(n - 1, i + 1, j + 1, out ++ [a.getD i 0]), ⟨by show i + 1 ≤ a.length; omega, by show j + 1 ≤ b.length; omega, by show (a.length - (i + 1)) + (b.length - (j + 1)) ≤ n - 1; omega, by rw [h4, hst]; simp, by simp only [List.length_append, List.length_cons, List.length_nil]; omega⟩, by show n - 1 < n; omega, ?_⟩
              refine weak_to [] [] ?_ ?_ ?_ ?_ (hok _) ?_
              · simp
              · simp
              · simp
              · simp
              · simp [-List.getD_eq_getElem?_getD, ints_snoc]
            · have b3 : (a.getD i 0 == b.getD j 0) = false := by simpa using hc
              refine aw_draw [] [] [] drawMixed (by kernel_rfl) (by kernel_rfl) fun K hK => ?_; simp (maxSteps := 200000) (disch := omega) [-List.getD_eq_getElem?_getD, getD_ints, b3]
              refine hK _ ?_; clear hK K
              refine aw_if rfl (fun h => absurd h (by simp)) (fun h => ?_)
              by_cases hd : LC a b (i + 1) j ≥ LC a b i (j + 1)
              · have hst := SS_del hn hi hj hc hd
                have b4 : decide (LC a b i (j + 1) ≤ LC a b (i + 1) j) = true := by simpa using hd
                refine aw_draw [] [] [] drawMixed (by kernel_rfl) (by kernel_rfl) fun K hK => ?_; simp (maxSteps := 200000) (disch := omega) [-List.getD_eq_getElem?_getD, ptrR_at, ptrR_len, tb_at, new_at1, getD_ints, hl, hri, hri1, e1, e2, b4, hd]
                refine hK _ ?_; clear hK K
                refine aw_if rfl (fun h => ?_) (fun h => absurd h (by simp))
                refine aw_reg0 fun K hK => ?_; simp (maxSteps := 200000) (disch := omega) [-List.getD_eq_getElem?_getD]
                refine hK _ ?_; clear hK K
                refine ⟨(n - 1, i + 1, j, out), ⟨by show i + 1 ≤ a.length; omega, by show j ≤ b.length; omega, by show (a.length - (i + 1)) + (b.length - (j)) ≤ n - 1; omega, by rw [h4, hst], by show out.length + (n - 1) ≤ _; omega⟩, by show n - 1 < n; omega, ?_⟩
                refine weak_to [] [] ?_ ?_ ?_ ?_ (hok _) ?_
                · simp
                · simp
                · simp
                · simp
                · simp [-List.getD_eq_getElem?_getD, ints_snoc]
              · have hst := SS_ins hn hi hj hc hd
                have b4 : decide (LC a b i (j + 1) ≤ LC a b (i + 1) j) = false := by simpa using hd
                refine aw_draw [] [] [] drawMixed (by kernel_rfl) (by kernel_rfl) fun K hK => ?_; simp (maxSteps := 200000) (disch := omega) [-List.getD_eq_getElem?_getD, ptrR_at, ptrR_len, tb_at, new_at1, getD_ints, hl, hri, hri1, e1, e2, b4, hd]
                refine hK _ ?_; clear hK K
                refine aw_if rfl (fun h => absurd h (by simp)) (fun h => ?_)
                refine aw_reg0 fun K hK => ?_; simp (maxSteps := 200000) (disch := omega) [-List.getD_eq_getElem?_getD]
                refine hK _ ?_; clear hK K
                refine ⟨(n - 1, i, j + 1, out), ⟨by show i ≤ a.length; omega, by show j + 1 ≤ b.length; omega, by show (a.length - (i)) + (b.length - (j + 1)) ≤ n - 1; omega, by rw [h4, hst], by show out.length + (n - 1) ≤ _; omega⟩, by show n - 1 < n; omega, ?_⟩
                refine weak_to [] [] ?_ ?_ ?_ ?_ (hok _) ?_
                · simp
                · simp
                · simp
                · simp
                · simp [-List.getD_eq_getElem?_getD, ints_snoc]
          · have bj : decide ((j : Int) < b.length) = false := by simp; omega
            have hend := SS_end (a := a) (b := b) (n := n) (i := i) (j := j) (.inr (by omega))
            rw [hend, List.append_nil] at h4
            refine aw_then fun K3 hK3 => ?_
            refine aw_reg fun K hK => ?_; simp (maxSteps := 200000) (disch := omega) [-List.getD_eq_getElem?_getD, bi, bj, hi, hj]; refine hK _ ?_; clear hK K
            refine aw_if rfl (fun h => absurd h (by simp)) (fun h => ?_)
            refine aw_exit ?_; simp (maxSteps := 200000) (disch := omega) [-List.getD_eq_getElem?_getD]
            refine hK2 _ ?_; clear hK2
            refine aw_reg fun K hK => ?_; simp (maxSteps := 200000) (disch := omega) [-List.getD_eq_getElem?_getD]; refine hK _ ?_; clear hK K
            refine aw_ret ?_; simp (maxSteps := 200000) (disch := omega) [-List.getD_eq_getElem?_getD]
            rw [h4]
            exact ⟨rfl, rfl⟩
        · have bi : decide ((i : Int) < a.length) = false := by simp; omega
          have hend := SS_end (a := a) (b := b) (n := n) (i := i) (j := j) (.inl (by omega))
          rw [hend, List.append_nil] at h4
          refine aw_then fun K3 hK3 => ?_
          refine aw_reg fun K hK => ?_; simp (maxSteps := 200000) (disch := omega) [-List.getD_eq_getElem?_getD, bi, hi]; refine hK _ ?_; clear hK K
          refine aw_if rfl (fun h => absurd h (by simp)) (fun h => ?_)
          refine aw_exit ?_; simp (maxSteps := 200000) (disch := omega) [-List.getD_eq_getElem?_getD]
          refine hK2 _ ?_; clear hK2
          refine aw_reg fun K hK => ?_; simp (maxSteps := 200000) (disch := omega) [-List.getD_eq_getElem?_getD]; refine hK _ ?_; clear hK K
          refine aw_ret ?_; simp (maxSteps := 200000) (disch := omega) [-List.getD_eq_getElem?_getD]
          rw [h4]
          exact ⟨rfl, rfl⟩
    | succ i =>
      obtain ⟨s, hs0⟩ : ∃ s, a.length = i + s := ⟨a.length - i, by omega⟩
      have hs : a.length - i = s := by omega
      have hl : R.length = s := by rw [h2.1]; omega
      have hset := ptrR_set (H.length + 1) (b.length + 1) a.length i (by omega)
      rw [hs] at hset
      refine aw_then fun K3 hK3 => ?_
      refine aw_reg fun K hK => ?_; simp (maxSteps := 200000) (disch := omega) [-List.getD_eq_getElem?_getD]; refine hK _ ?_; clear hK K
      refine aw_if rfl (fun h => ?_) (fun h => absurd h (by simp))
      refine aw_skip ?_; simp (maxSteps := 200000) (disch := omega) [-List.getD_eq_getElem?_getD]
      refine hK3 _ ?_; clear hK3
      refine aw_then fun K4 hK4 => ?_
      refine aw_block ?_
      refine aw_reg fun K hK => ?_; simp (maxSteps := 200000) (disch := omega) [-List.getD_eq_getElem?_getD, tb_len, ints_rep, ptrR_len, hl]; refine hK _ ?_; clear hK K
      rw [show H.length + (s + 1) = H.length + 1 + s by omega, hset, tb_snoc]
      refine aw_reg fun K hK => ?_; simp (maxSteps := 200000) (disch := omega) [-List.getD_eq_getElem?_getD]; refine hK _ ?_; clear hK K
      refine aw_block ?_
      have h2' : Shape (s + 1) (b.length + 1) (R ++ [List.replicate (b.length + 1) 0]) := by
        have := Shape.more (n := s) (m := b.length + 1) (R := R) ⟨hl, fun q hq => h2.2 q (by omega)⟩ (List.replicate (b.length + 1) 0) (by simp)
        exact this
      have hz : ∀ q, at2 (R ++ [List.replicate (b.length + 1) 0]) s q = 0 := fun q => at2_zero R s _ q hl
      refine aw_loop (X := Nat × List (List Int)) (fun x => ⟨[(0, .sl a.length (ints a) .none), (1, .sl b.length (ints b) .none), (5, .msl H.length 0 (a.length + 1)), (6, .int .i64 (i : Nat)), (7, .int .i64 ((x.1 : Nat) - 1 : Int))], H ++ .cells (ptrR (H.length + 1) (b.length + 1) a.length i) :: tb x.2, T⟩)
        (fun x => x.1 ≤ b.length ∧ Shape (s + 1) (b.length + 1) x.2 ∧ (∀ p q, i + 1 ≤ p → p ≤ a.length → q ≤ b.length → at2 x.2 (a.length - p) q = LC a b p q) ∧ (∀ q, x.1 ≤ q → q ≤ b.length → at2 x.2 s q = LC a b i q) ∧ (i = a.length → ∀ q, at2 x.2 s q = 0)) (fun x => x.1) (b.length, R ++ [List.replicate (b.length + 1) 0]) ?_ ?_ ?_
      · refine ⟨Nat.le_refl _, h2', fun p q hp hp2 hq => by rw [at2_more _ (by omega)]; exact h3 p q hp hp2 hq, fun q hq hq2 => ?_, fun _ q => hz q⟩
        have : q = b.length := by simp only at hq; omega
        rw [this, LC_col]
        exact hz _
      · refine weak_to [] [] ?_ ?_ ?_ ?_ (hok_tb HO _ _ (below_ptrR (by simp; try omega))) ?_
        all_goals simp
      · rintro ⟨d, R'⟩ ⟨g1, g2, g3, g4, g5⟩
        simp only at g1 g2 g3 g4 g5
        have hl' : R'.length = s + 1 := g2.1
        have hri := g2.2 s (by omega)
        have out : (∀ q, q ≤ b.length → at2 R' s q = LC a b i q) → ∀ e, envLe (H.length + (s + 1 + 1)) T.length e [(0, .sl a.length (ints a) .none), (1, .sl b.length (ints b) .none), (5, .msl H.length 0 (a.length + 1)), (6, .int .i64 (i : Nat))] → K4 ⟨e, H ++ .cells (ptrR (H.length + 1) (b.length + 1) a.length i) :: tb R', T⟩ := by
          intro hrow e he
          have hb1 := below_ptrR (base := H.length + 1) (m := b.length + 1) (n := a.length) (c := i) (N := H.length + 1 + R'.length) (t := T.length) (by rw [hl']; omega)
          have hb2 : (H ++ Blk.cells (ptrR (H.length + 1) (b.length + 1) a.length i) :: tb R').length = H.length + (s + 1 + 1) := by rw [List.length_append, List.length_cons, tb_len, hl']
          refine hK4 _ (aw_weak ⟨[(0, .sl a.length (ints a) .none), (1, .sl b.length (ints b) .none), (5, .msl H.length 0 (a.length + 1)), (6, .int .i64 (i : Nat))], H ++ .cells (ptrR (H.length + 1) (b.length + 1) a.length i) :: tb R', T⟩ (weak_to [] [] (by simp) (by simp) (by simp) (by simp) (hok_tb HO _ _ hb1) (by rw [hb2]; exact he)) ?_)
          refine aw_reg0 fun K hK => ?_; simp (maxSteps := 200000) (disch := omega) [-List.getD_eq_getElem?_getD]
          refine hK _ ?_; clear hK K
          refine ⟨(i, R'), ⟨by show i ≤ _; omega, by show Shape (a.length + 1 - i) _ _; rw [show a.length + 1 - i = s + 1 by omega]; exact g2, fun p q hp hp2 hq => ?_⟩, by show i < i + 1; omega, ?_⟩
          · rcases Nat.lt_or_ge i p with hip | hip
            · exact g3 p q hip hp2 hq
            · have : p = i := by simp only at hp; omega
              subst this
              rw [hs]
              exact hrow q hq
          · refine weak_to [] [] ?_ ?_ ?_ ?_ (hok_tb HO _ _ hb1) ?_
            all_goals simp
        clear hK4
        cases d with
        | zero =>
          refine aw_then fun K5 hK5 => ?_
          refine aw_reg fun K hK => ?_; simp (maxSteps := 200000) (disch := omega) [-List.getD_eq_getElem?_getD]; refine hK _ ?_; clear hK K
          refine aw_if rfl (fun h => absurd h (by simp)) (fun h => ?_)
          refine aw_exit ?_; simp (maxSteps := 200000) (disch := omega) [-List.getD_eq_getElem?_getD]
          refine out (fun q hq => g4 q (Nat.zero_le _) hq) _ ?_
          simp
          try omega
        | succ j =>
          by_cases hi : i < a.length
          · have bi : decide ((i : Int) < a.length) = true := by simp; omega
            have hri1 := g2.2 (s - 1) (by omega)
            have hs1 : a.length - (i + 1) = s - 1 := by omega
            refine aw_then fun K5 hK5 => ?_
            refine aw_reg fun K hK => ?_; simp (maxSteps := 200000) (disch := omega) [-List.getD_eq_getElem?_getD, bi, hi]; refine hK _ ?_; clear hK K
            refine aw_if rfl (fun h => ?_) (fun h => absurd h (by simp))
            refine aw_skip ?_; simp (maxSteps := 200000) (disch := omega) [-List.getD_eq_getElem?_getD]
            refine hK5 _ ?_; clear hK5
            refine aw_then fun K6 hK6 => ?_
            refine aw_block ?_
            clear out
            have key : ∀ e R2, Shape (s + 1) (b.length + 1) R2 → (∀ p q, at2 R2 p q = if p = s ∧ q = j then LC a b i j else at2 R' p q) → envLe (H.length + (s + 1 + 1)) T.length e [(0, .sl a.length (ints a) .none), (1, .sl b.length (ints b) .none), (5, .msl H.length 0 (a.length + 1)), (6, .int .i64 (i : Nat)), (7, .int .i64 (j : Nat))] → K6 ⟨e, H ++ .cells (ptrR (H.length + 1) (b.length + 1) a.length i) :: tb R2, T⟩ := by
              intro e R2 gs hat he
              have hb1 := below_ptrR (base := H.length + 1) (m := b.length + 1) (n := a.length) (c := i) (N := H.length + 1 + R2.length) (t := T.length) (by rw [gs.1]; omega)
              have hb2 : (H ++ Blk.cells (ptrR (H.length + 1) (b.length + 1) a.length i) :: tb R2).length = H.length + (s + 1 + 1) := by rw [List.length_append, List.length_cons, tb_len, gs.1]
              refine hK6 _ (aw_weak ⟨[(0, .sl a.length (ints a) .none), (1, .sl b.length (ints b) .none), (5, .msl H.length 0 (a.length + 1)), (6, .int .i64 (i : Nat)), (7, .int .i64 (j : Nat))], H ++ .cells (ptrR (H.length + 1) (b.length + 1) a.length i) :: tb R2, T⟩ (weak_to [] [] (by simp) (by simp) (by simp) (by simp) (hok_tb HO _ _ hb1) (by rw [hb2]; exact he)) ?_)
              refine aw_reg0 fun K hK => ?_; simp (maxSteps := 200000) (disch := omega) [-List.getD_eq_getElem?_getD]
              refine hK _ ?_; clear hK K
              refine ⟨(j, R2), ⟨by show j ≤ _; omega, gs, fun p q hp hp2 hq => ?_, fun q hq hq2 => ?_, fun h => absurd h (by omega)⟩, by show j < j + 1; omega, ?_⟩
              · rw [hat, if_neg (by omega)]
                exact g3 p q hp hp2 hq
              · rw [hat]
                by_cases hqj : q = j
                · rw [if_pos ⟨rfl, hqj⟩, hqj]
                · rw [if_neg (fun hh => hqj hh.2)]
                  exact g4 q (by simp only at hq; omega) hq2
              · refine weak_to [] [] ?_ ?_ ?_ ?_ (hok_tb HO _ _ hb1) ?_
                all_goals simp
            clear hK6
            have r1 : (R'.getD (s - 1) []).getD (j + 1) 0 = LC a b (i + 1) (j + 1) := by have := g3 (i + 1) (j + 1) (by omega) (by omega) (by omega); rwa [hs1] at this
            have r2 : (R'.getD (s - 1) []).getD j 0 = LC a b (i + 1) j := by have := g3 (i + 1) j (by omega) (by omega) (by omega); rwa [hs1] at this
            have r3 : (R'.getD s []).getD (j + 1) 0 = LC a b i (j + 1) := g4 (j + 1) (by omega) (by omega)
            have l1 := LC_le a b (i + 1) (j + 1)
            refine aw_draw [23] [0, 0, 0, 0, 0, 0, 0, 0, 0, 0, 0, 0, 0, 0, 0, 0, 0, 0, 0, 0, 0, 0, 0, 0] [[]] drawMixed (by kernel_rfl) (by kernel_rfl) fun K hK => ?_; simp (maxSteps := 200000) (disch := omega) [-List.getD_eq_getElem?_getD, -List.set_append_right, ptrR_at, ptrR_len, tb_at, tb_set, new_at1, new_set1, tb_len, getD_ints, ints_set, hl', hri, hs, hri1, hs1, r2, r3]
            refine hK _ ?_; clear hK K
            rw [show R'.set s ((R'.getD s []).set j (max (LC a b (i + 1) j) (LC a b i (j + 1)))) = put2 R' s j (max (LC a b (i + 1) j) (LC a b i (j + 1))) from rfl]
            have gs1 := g2.put s j (max (LC a b (i + 1) j) (LC a b i (j + 1)))
            have hat1 : ∀ p q, at2 (put2 R' s j (max (LC a b (i + 1) j) (LC a b i (j + 1)))) p q = if p = s ∧ q = j then max (LC a b (i + 1) j) (LC a b i (j + 1)) else at2 R' p q := fun p q => at2_put g2 (by omega) (by omega) _ p q
            generalize put2 R' s j (max (LC a b (i + 1) j) (LC a b i (j + 1))) = R1 at *
            have hl1 : R1.length = s + 1 := gs1.1
            have hq0 := gs1.2 s (by omega)
            have hq1 := gs1.2 (s - 1) (by omega)
            have f2 : (R1.getD (s - 1) []).getD (j + 1) 0 = LC a b (i + 1) (j + 1) := by
              have := hat1 (s - 1) (j + 1)
              rw [if_neg (by omega)] at this
              exact this.trans r1
            by_cases hc : a.getD i 0 = b.getD j 0
            · have b3 : (a.getD i 0 == b.getD j 0) = true := by simpa using hc
              refine aw_draw [] [] [] drawMixed (by kernel_rfl) (by kernel_rfl) fun K hK => ?_; simp (maxSteps := 200000) (disch := omega) [-List.getD_eq_getElem?_getD, getD_ints, b3]
              refine hK _ ?_; clear hK K
              refine aw_if rfl (fun h => ?_) (fun h => absurd h (by simp))
              refine aw_draw0 [16] [0, 0, 0, 0, 0, 0, 0, 0, 0, 0, 0, 0, 0, 0, 0, 0, 0] [[]] drawMixed (by kernel_rfl) (by kernel_rfl) fun K hK => ?_; simp (maxSteps := 200000) (disch := omega) [-List.getD_eq_getElem?_getD, -List.set_append_right, ptrR_at, ptrR_len, tb_at, tb_set, new_at1, new_set1, tb_len, getD_ints, ints_set, hl1, hq0, hs, hq1, hs1, f2]
              refine hK _ ?_; clear hK K
              refine key _ (put2 R1 s j (1 + LC a b (i + 1) (j + 1))) (gs1.put _ _ _) (fun p q => ?_) ?_
              · rw [at2_put gs1 (by omega) (by omega), LC_eq' (by omega) (by omega) hc, hat1]
                split <;> rfl
              · simp
                try omega
            · have b3 : (a.getD i 0 == b.getD j 0) = false := by simpa using hc
              refine aw_draw [] [] [] drawMixed (by kernel_rfl) (by kernel_rfl) fun K hK => ?_; simp (maxSteps := 200000) (disch := omega) [-List.getD_eq_getElem?_getD, getD_ints, b3]
              refine hK _ ?_; clear hK K
              refine aw_if rfl (fun h => absurd h (by simp)) (fun h => ?_)
              refine aw_skip ?_; simp (maxSteps := 200000) (disch := omega) [-List.getD_eq_getElem?_getD]
              refine key _ R1 gs1 (fun p q => ?_) ?_
              · rw [hat1, LC_ne (by omega) (by omega) hc]
              · simp
                try omega
          · have bi : decide ((i : Int) < a.length) = false := by simp; omega
            have hia : i = a.length := by omega
            refine aw_then fun K5 hK5 => ?_
            refine aw_reg fun K hK => ?_; simp (maxSteps := 200000) (disch := omega) [-List.getD_eq_getElem?_getD, bi, hi]; refine hK _ ?_; clear hK K
            refine aw_if rfl (fun h => absurd h (by simp)) (fun h => ?_)
            refine aw_exit ?_; simp (maxSteps := 200000) (disch := omega) [-List.getD_eq_getElem?_getD]
            refine out (fun q hq => by rw [g5 hia q, hia, LC_row]) _ ?_
            simp
            try omega
end Go.Proofs.Ytgndlhfnenlhkaa
