/- The table of the reference of layer 11: the walk.
   Conditions: lengths below 1000. -/
import Derived.Test.YtgndlhfnenlhkaaEFn4
namespace Go.Proofs.Ytgndlhfnenlhkaa
open Go Go.Am Edit
set_option linter.unusedVariables false

/-- The rows stand in the opposite order; those before c are not made yet. -/
def ptrR (base m n c : Nat) : List AV := (List.range (n + 1)).map fun q => if c ≤ q then .msl (base + (n - q)) 0 m else .sl 0 [] .full

theorem ptrR_len (base m n c : Nat) : (ptrR base m n c).length = n + 1 := by simp [ptrR]
theorem ptrR_at {base m n c q : Nat} (h : c ≤ q) (hq : q < n + 1) : (ptrR base m n c).getD q .top = .msl (base + (n - q)) 0 m := by
  rw [List.getD_eq_getElem?_getD]
  simp [ptrR, h, hq]
theorem ptrR_zero (base m n : Nat) : ptrR base m n (n + 1) = List.replicate (n + 1) (.sl 0 [] .full) := by
  apply List.ext_getElem
  · simp [ptrR]
  · intro j h1 h2
    have : ¬ n + 1 ≤ j := by simp [ptrR] at h1; omega
    simp [ptrR, this]
theorem ptrR_set (base m n i : Nat) (h : i ≤ n) : (ptrR base m n (i + 1)).set i (.msl (base + (n - i)) 0 m) = ptrR base m n i := by
  apply List.ext_getElem
  · simp [ptrR]
  · intro j h1 h2
    rw [List.getElem_set]
    by_cases hj : i = j
    · subst hj; simp [ptrR]
    · rw [if_neg hj]
      have : (i + 1 ≤ j) ↔ (i ≤ j) := by omega
      simp [ptrR, this]
theorem below_ptrR {base m n c N t : Nat} (h : base + (n + 1 - c) ≤ N) : BelowAll N t (ptrR base m n c) := by
  intro v hv
  obtain ⟨q, hq, rfl⟩ := List.mem_map.1 hv
  rw [List.mem_range] at hq
  show Below N t (if c ≤ q then _ else _)
  split
  · exact .msl _ _ _ (by omega)
  · simp

theorem Shape.more {n m : Nat} {R : List (List Int)} (h : Shape n m R) (r : List Int) (hr : r.length = m) : Shape (n + 1) m (R ++ [r]) := by
  refine ⟨by simp [h.1], fun i hi => ?_⟩
  rcases Nat.lt_or_ge i n with h1 | h1
  · have := h.2 i h1
    rwa [List.getD_eq_getElem?_getD, List.getElem?_append_left (by rw [h.1]; exact h1), ← List.getD_eq_getElem?_getD]
  · have : i = n := by omega
    subst this
    rw [List.getD_eq_getElem?_getD, List.getElem?_append_right (by rw [h.1]; exact Nat.le_refl _), h.1, Nat.sub_self]
    simpa using hr
theorem at2_more {R : List (List Int)} (r : List Int) {p : Nat} (h : p < R.length) (q : Nat) : at2 (R ++ [r]) p q = at2 R p q := by
  have e : (R ++ [r]).getD p [] = R.getD p [] := by rw [List.getD_eq_getElem?_getD, List.getElem?_append_left h, ← List.getD_eq_getElem?_getD]
  unfold at2
  rw [e]

/-- All of the reference's table. -/
def fullR (a b : List Int) (R : List (List Int)) : Prop := Shape (a.length + 1) (b.length + 1) R ∧ ∀ i j, i ≤ a.length → j ≤ b.length → at2 R (a.length - i) j = D a b i j

set_option maxRecDepth 100000 in
set_option maxHeartbeats 4000000 in
theorem tableR_ok (a b : List Int) (ha : a.length ≤ 1000) (hb : b.length ≤ 1000) (H : List Blk) (T : Toks) :
    ACall Try.prog 35 [.sl a.length (ints a) .none, .sl b.length (ints b) .none] H T (fun r H' T' => T' = T ∧ r = .msl H.length 0 (a.length + 1) ∧ ∃ R, fullR a b R ∧ H' = H ++ .cells (ptrR (H.length + 1) (b.length + 1) a.length 0) :: tb R) := by
  refine acall_enter 36 [] Try.ntmps35 Try.func35 rfl (fun _ _ => Try.call35 _ _) (by simp) (fun HO => ?_)
  refine aw_reg fun K hK => ?_; simp (maxSteps := 200000) (disch := omega) [-List.getD_eq_getElem?_getD]; refine hK _ ?_; clear hK K
  refine aw_reg fun K hK => ?_; simp (maxSteps := 200000) (disch := omega) [-List.getD_eq_getElem?_getD, ← ptrR_zero (H.length + 1) (b.length + 1) a.length]; refine hK _ ?_; clear hK K
  refine aw_then fun K1 hK1 => ?_
  refine aw_reg fun K hK => ?_; simp (maxSteps := 200000) (disch := omega) [-List.getD_eq_getElem?_getD]; refine hK _ ?_; clear hK K
  refine aw_block ?_
  refine aw_loop (X := Nat × List (List Int)) (fun x => ⟨[(0, .sl a.length (ints a) .none), (1, .sl b.length (ints b) .none), (5, .msl H.length 0 (a.length + 1)), (6, .int .i64 ((x.1 : Nat) - 1 : Int))],
      H ++ .cells (ptrR (H.length + 1) (b.length + 1) a.length x.1) :: tb x.2, T⟩)
    (fun x => x.1 ≤ a.length + 1 ∧ Shape (a.length + 1 - x.1) (b.length + 1) x.2 ∧ ∀ i j, x.1 ≤ i → i ≤ a.length → j ≤ b.length → at2 x.2 (a.length - i) j = D a b i j) (fun x => x.1) (a.length + 1, []) ?_ ?_ ?_
  · exact ⟨Nat.le_refl _, ⟨by simp, fun i hi => by simp at hi⟩, fun i j h1 h2 => by simp only at h1; omega⟩
  · refine weak_to [] [] ?_ ?_ ?_ ?_ (hok_tb HO _ _ (below_ptrR (by simp))) ?_
    all_goals simp [tb]
  · rintro ⟨c, R⟩ ⟨h1, h2, h3⟩
    simp only at h1 h2 h3
    cases c with
    | zero =>
      refine aw_then fun K3 hK3 => ?_
      refine aw_reg fun K hK => ?_; simp (maxSteps := 200000) (disch := omega) [-List.getD_eq_getElem?_getD]; refine hK _ ?_; clear hK K
      refine aw_if rfl (fun h => absurd h (by simp)) (fun h => ?_)
      refine aw_exit ?_; simp (maxSteps := 200000) (disch := omega) [-List.getD_eq_getElem?_getD]
      refine hK1 _ ?_; clear hK1
      refine aw_reg fun K hK => ?_; simp (maxSteps := 200000) (disch := omega) [-List.getD_eq_getElem?_getD]; refine hK _ ?_; clear hK K
      refine aw_ret ?_; simp (maxSteps := 200000) (disch := omega) [-List.getD_eq_getElem?_getD]
      exact ⟨R, ⟨h2, fun i j hi hj => h3 i j (by omega) hi hj⟩, rfl⟩
    | succ i =>
      obtain ⟨s, hs0⟩ : ∃ s, a.length = i + s := ⟨a.length - i, by omega⟩
      have hs : a.length - i = s := by omega
      have hl : R.length = s := by rw [h2.1]; omega
      have hset := ptrR_set (H.length + 1) (b.length + 1) a.length i (by omega)
      rw [hs] at hset
      refine aw_then fun K3 hK3 => ?_
      refine aw_reg fun K hK => ?_; simp (maxSteps := 200000) (disch := omega) [-List.getD_eq_getElem?_getD]; refine hK _ ?_; clear hK K
      refine aw_if rfl (fun h => ?_) (fun h => absurd h (by simp))
      refine aw_skip ?_; simp (maxSteps := 200000) (disch := omega) [-List.getD_eq_getElem?_getD]
      refine hK3 _ ?_; clear hK3
      refine aw_then fun K4 hK4 => ?_
      refine aw_block ?_
      refine aw_reg fun K hK => ?_; simp (maxSteps := 200000) (disch := omega) [-List.getD_eq_getElem?_getD, tb_len, ints_rep, ptrR_len, hl]; refine hK _ ?_; clear hK K
      rw [show H.length + (s + 1) = H.length + 1 + s by omega, hset, tb_snoc]
      refine aw_reg fun K hK => ?_; simp (maxSteps := 200000) (disch := omega) [-List.getD_eq_getElem?_getD]; refine hK _ ?_; clear hK K
      refine aw_block ?_
      have h2' : Shape (s + 1) (b.length + 1) (R ++ [List.replicate (b.length + 1) 0]) := by
        have := Shape.more (n := s) (m := b.length + 1) (R := R) ⟨hl, fun q hq => h2.2 q (by omega)⟩ (List.replicate (b.length + 1) 0) (by simp)
        exact this
      refine aw_loop (X := Nat × List (List Int)) (fun x => ⟨[(0, .sl a.length (ints a) .none), (1, .sl b.length (ints b) .none), (5, .msl H.length 0 (a.length + 1)), (6, .int .i64 (i : Nat)), (7, .int .i64 ((x.1 : Nat) - 1 : Int))], H ++ .cells (ptrR (H.length + 1) (b.length + 1) a.length i) :: tb x.2, T⟩)
        (fun x => x.1 ≤ b.length + 1 ∧ Shape (s + 1) (b.length + 1) x.2 ∧ (∀ p q, i + 1 ≤ p → p ≤ a.length → q ≤ b.length → at2 x.2 (a.length - p) q = D a b p q) ∧ (∀ q, x.1 ≤ q → q ≤ b.length → at2 x.2 s q = D a b i q)) (fun x => x.1) (b.length + 1, R ++ [List.replicate (b.length + 1) 0]) ?_ ?_ ?_
      · exact ⟨Nat.le_refl _, h2', fun p q hp hp2 hq => by rw [at2_more _ (by omega)]; exact h3 p q hp hp2 hq, fun q hq hq2 => by simp only at hq; omega⟩
      · refine weak_to [] [] ?_ ?_ ?_ ?_ (hok_tb HO _ _ (below_ptrR (by simp; try omega))) ?_
        all_goals simp
      · rintro ⟨d, R'⟩ ⟨g1, g2, g3, g4⟩
        simp only at g1 g2 g3 g4
        have hl' : R'.length = s + 1 := g2.1
        have hri := g2.2 s (by omega)
        cases d with
        | zero =>
          refine aw_then fun K5 hK5 => ?_
          refine aw_reg fun K hK => ?_; simp (maxSteps := 200000) (disch := omega) [-List.getD_eq_getElem?_getD]; refine hK _ ?_; clear hK K
          refine aw_if rfl (fun h => absurd h (by simp)) (fun h => ?_)
          refine aw_exit ?_; simp (maxSteps := 200000) (disch := omega) [-List.getD_eq_getElem?_getD]
          refine hK4 _ ?_; clear hK4
          refine aw_reg0 fun K hK => ?_; simp (maxSteps := 200000) (disch := omega) [-List.getD_eq_getElem?_getD]
          refine hK _ ?_; clear hK K
          refine ⟨(i, R'), ⟨by show i ≤ _; omega, by show Shape (a.length + 1 - i) _ _; rw [show a.length + 1 - i = s + 1 by omega]; exact g2, fun p q hp hp2 hq => ?_⟩, by show i < i + 1; omega, ?_⟩
          · rcases Nat.lt_or_ge i p with hip | hip
            · exact g3 p q hip hp2 hq
            · have : p = i := by simp only at hp; omega
              subst this
              rw [hs]
              exact g4 q (Nat.zero_le _) hq
          · refine weak_to [] [] ?_ ?_ ?_ ?_ (hok_tb HO _ _ (below_ptrR (by simp; try omega))) ?_
            all_goals simp
        | succ j =>
          refine aw_then fun K5 hK5 => ?_
          refine aw_reg fun K hK => ?_; simp (maxSteps := 200000) (disch := omega) [-List.getD_eq_getElem?_getD]; refine hK _ ?_; clear hK K
          refine aw_if rfl (fun h => ?_) (fun h => absurd h (by simp))
          refine aw_skip ?_; simp (maxSteps := 200000) (disch := omega) [-List.getD_eq_getElem?_getD]
          refine hK5 _ ?_; clear hK5
          refine aw_then fun K6 hK6 => ?_
          refine aw_block ?_
          refine aw_block ?_
          have key : ∀ e v, v = D a b i j → envLe (H.length + (s + 1 + 1)) T.length e [(0, .sl a.length (ints a) .none), (1, .sl b.length (ints b) .none), (5, .msl H.length 0 (a.length + 1)), (6, .int .i64 (i : Nat)), (7, .int .i64 (j : Nat))] → K6 ⟨e, H ++ .cells (ptrR (H.length + 1) (b.length + 1) a.length i) :: tb (put2 R' s j v), T⟩ := by
            intro e v hv he
            have gs := g2.put s j v
            have hb1 := below_ptrR (base := H.length + 1) (m := b.length + 1) (n := a.length) (c := i) (N := H.length + 1 + (put2 R' s j v).length) (t := T.length) (by rw [gs.1]; omega)
            have hb2 : (H ++ Blk.cells (ptrR (H.length + 1) (b.length + 1) a.length i) :: tb (put2 R' s j v)).length = H.length + (s + 1 + 1) := by rw [List.length_append, List.length_cons, tb_len, gs.1]
            refine hK6 _ (aw_weak ⟨[(0, .sl a.length (ints a) .none), (1, .sl b.length (ints b) .none), (5, .msl H.length 0 (a.length + 1)), (6, .int .i64 (i : Nat)), (7, .int .i64 (j : Nat))], H ++ .cells (ptrR (H.length + 1) (b.length + 1) a.length i) :: tb (put2 R' s j v), T⟩ (weak_to [] [] (by simp) (by simp) (by simp) (by simp) (hok_tb HO _ _ hb1) (by rw [hb2]; exact he)) ?_)
            refine aw_reg0 fun K hK => ?_; simp (maxSteps := 200000) (disch := omega) [-List.getD_eq_getElem?_getD]
            refine hK _ ?_; clear hK K
            refine ⟨(j, put2 R' s j v), ⟨by show j ≤ _; omega, gs, fun p q hp hp2 hq => ?_, fun q hq hq2 => ?_⟩, by show j < j + 1; omega, ?_⟩
            · rw [at2_put g2 (by omega) (by omega), if_neg (by omega)]
              exact g3 p q hp hp2 hq
            · rw [at2_put g2 (by omega) (by omega)]
              by_cases hqj : q = j
              · rw [if_pos ⟨rfl, hqj⟩, hv, hqj]
              · rw [if_neg (fun hh => hqj hh.2)]
                exact g4 q (by simp only at hq; omega) hq2
            · refine weak_to [] [] ?_ ?_ ?_ ?_ (hok_tb HO _ _ hb1) ?_
              all_goals simp
          clear hK6
          by_cases hi : i = a.length
          · have b1 : ((i : Int) == (a.length : Int)) = true := by simp; omega
            have hv : (b.length : Int) - j = D a b i j := by rw [hi, D_row a b j (by omega)]
            refine aw_reg fun K hK => ?_; simp (maxSteps := 200000) (disch := omega) [-List.getD_eq_getElem?_getD, b1]; refine hK _ ?_; clear hK K
            refine aw_if rfl (fun h => ?_) (fun h => absurd h (by simp))
            refine aw_reg0 fun K hK => ?_; simp (maxSteps := 200000) (disch := omega) [-List.getD_eq_getElem?_getD, -List.set_append_right, ptrR_at, ptrR_len, tb_at, tb_set, new_at1, new_set1, tb_len, getD_ints, ints_set, hl', hri, hs]
            refine hK _ ?_; clear hK K
            refine key _ _ hv ?_; simp; try omega
          · have b1 : ((i : Int) == (a.length : Int)) = false := by simp; omega
            have hri1 := g2.2 (s - 1) (by omega)
            have hs1 : a.length - (i + 1) = s - 1 := by omega
            refine aw_reg fun K hK => ?_; simp (maxSteps := 200000) (disch := omega) [-List.getD_eq_getElem?_getD, b1]; refine hK _ ?_; clear hK K
            refine aw_if rfl (fun h => absurd h (by simp)) (fun h => ?_)
            by_cases hj : j = b.length
            · have b2 : ((j : Int) == (b.length : Int)) = true := by simp; omega
              have hv : (a.length : Int) - i = D a b i j := by rw [hj, D_col a b i (by omega)]
              refine aw_reg fun K hK => ?_; simp (maxSteps := 200000) (disch := omega) [-List.getD_eq_getElem?_getD, b2]; refine hK _ ?_; clear hK K
              refine aw_if rfl (fun h => ?_) (fun h => absurd h (by simp))
              refine aw_reg0 fun K hK => ?_; simp (maxSteps := 200000) (disch := omega) [-List.getD_eq_getElem?_getD, -List.set_append_right, ptrR_at, ptrR_len, tb_at, tb_set, new_at1, new_set1, tb_len, getD_ints, ints_set, hl', hri, hs]
              refine hK _ ?_; clear hK K
              refine key _ _ hv ?_; simp; try omega
            · have b2 : ((j : Int) == (b.length : Int)) = false := by simp; omega
              have r1 : (R'.getD (s - 1) []).getD (j + 1) 0 = D a b (i + 1) (j + 1) := by have := g3 (i + 1) (j + 1) (by omega) (by omega) (by omega); rwa [hs1] at this
              have r2 : (R'.getD (s - 1) []).getD j 0 = D a b (i + 1) j := by have := g3 (i + 1) j (by omega) (by omega) (by omega); rwa [hs1] at this
              have r3 : (R'.getD s []).getD (j + 1) 0 = D a b i (j + 1) := g4 (j + 1) (by omega) (by omega)
              have l1 := D_le a b (i + 1) (j + 1)
              have l2 := D_le a b (i + 1) j
              have l3 := D_le a b i (j + 1)
              refine aw_reg fun K hK => ?_; simp (maxSteps := 200000) (disch := omega) [-List.getD_eq_getElem?_getD, b2]; refine hK _ ?_; clear hK K
              refine aw_if rfl (fun h => absurd h (by simp)) (fun h => ?_)
              by_cases hc : a.getD i 0 = b.getD j 0
              · have b3 : (a.getD i 0 == b.getD j 0) = true := by simpa using hc
                refine aw_draw [] [] [] drawMixed (by kernel_rfl) (by kernel_rfl) fun K hK => ?_; simp (maxSteps := 200000) (disch := omega) [-List.getD_eq_getElem?_getD, getD_ints, b3]
                refine hK _ ?_; clear hK K
                refine aw_if rfl (fun h => ?_) (fun h => absurd h (by simp))
                refine aw_draw0 [15] [0, 0, 0, 0, 0, 0, 0, 0, 0, 0, 0, 0, 0, 0, 0, 0] [[]] drawMixed (by kernel_rfl) (by kernel_rfl) fun K hK => ?_; simp (maxSteps := 200000) (disch := omega) [-List.getD_eq_getElem?_getD, -List.set_append_right, ptrR_at, ptrR_len, tb_at, tb_set, new_at1, new_set1, tb_len, getD_ints, ints_set, hl', hri, hs, hri1, hs1, r1]
                refine hK _ ?_; clear hK K
                refine key _ _ (D_eq (by omega) (by omega) hc).symm ?_; simp; try omega
              · have b3 : (a.getD i 0 == b.getD j 0) = false := by simpa using hc
                refine aw_draw [] [] [] drawMixed (by kernel_rfl) (by kernel_rfl) fun K hK => ?_; simp (maxSteps := 200000) (disch := omega) [-List.getD_eq_getElem?_getD, getD_ints, b3]
                refine hK _ ?_; clear hK K
                refine aw_if rfl (fun h => absurd h (by simp)) (fun h => ?_)
                refine aw_draw0 [33] [0, 0, 0, 0, 0, 0, 0, 0, 0, 0, 0, 0, 0, 0, 0, 0, 0, 0, 0, 0, 0, 0, 0, 0, 0, 0, 0, 0, 0, 0, 0, 0, 0, 0] [[]] drawMixed (by kernel_rfl) (by kernel_rfl) fun K hK => ?_; simp (maxSteps := 200000) (disch := omega) [-List.getD_eq_getElem?_getD, -List.set_append_right, ptrR_at, ptrR_len, tb_at, tb_set, new_at1, new_set1, tb_len, getD_ints, ints_set, hl', hri, hs, hri1, hs1, r1, r2, r3]
                refine hK _ ?_; clear hK K
                refine key _ _ ?_ ?_; rotate_left 1; simp; try omega
                rw [D_ne (by omega) (by omega) hc]
                omega

theorem distR_ok (a b : List Int) (ha : a.length ≤ 1000) (hb : b.length ≤ 1000) (H : List Blk) (T : Toks) : ACall Try.prog 33 [.sl a.length (ints a) .none, .sl b.length (ints b) .none] H T (Is (.int .i64 (ed a b : Nat)) H T) := by
  refine ACall.drop' ?_ (by simp)
  refine acall_enter 5 [] Try.ntmps33 Try.func33 rfl (fun _ _ => Try.call33 _ _) (by simp) (fun HO => ?_)
  refine aw_reg fun K hK => ?_; simp (maxSteps := 200000) (disch := omega) [-List.getD_eq_getElem?_getD]; refine hK _ ?_; clear hK K
  refine aw_reg fun K hK => ?_; simp (maxSteps := 200000) (disch := omega) [-List.getD_eq_getElem?_getD]
  refine ⟨_, tableR_ok a b ha hb _ _, ?_⟩
  rintro v H' T' ⟨rfl, rfl, R, hR, rfl⟩
  have hl : R.length = a.length + 1 := hR.1.1
  have hr := hR.1.2 a.length (by omega)
  have hv := hR.2 0 0 (Nat.zero_le _) (Nat.zero_le _)
  rw [Nat.sub_zero] at hv
  have hv' : (R.getD a.length []).getD 0 0 = (ed a b : Nat) := hv
  simp (maxSteps := 200000) (disch := omega) [-List.getD_eq_getElem?_getD, ptrR_at, ptrR_len, tb_at, new_at1, getD_ints, hr, hv', hl]
  refine hK _ ?_; clear hK K
  refine aw_ret ?_; simp (maxSteps := 200000) (disch := omega) [-List.getD_eq_getElem?_getD]
end Go.Proofs.Ytgndlhfnenlhkaa
