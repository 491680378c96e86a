/- Within of layer 11.
   Conditions: lengths below 1000. -/
import Derived.Test.YtgndlhfnenlhkaaEFn10
namespace Go.Proofs.Ytgndlhfnenlhkaa
open Go Go.Am Edit
set_option linter.unusedVariables false

@[simp] theorem ite_maxN1 (m n : Nat) : (if m < n then (n : Int) else (m : Int)) = max (m : Int) n := by split <;> omega
@[simp] theorem ite_minN1 (m n : Nat) : (if n < m then (n : Int) else (m : Int)) = min (m : Int) n := by split <;> omega

/-- The distance of two beginnings, no more than far. -/
def M (a b : List Int) (far i j : Nat) : Int := min (E a b i j) far

theorem M_far {a b : List Int} {far i j : Nat} (hi : i ≤ a.length) (hj : j ≤ b.length) (h : i + far ≤ j ∨ j + far ≤ i) : M a b far i j = far := by
  unfold M E
  have := ed_len (a.take i) (b.take j)
  rw [List.length_take, List.length_take] at this
  omega
theorem M_le (a b : List Int) (far i j : Nat) : 0 ≤ M a b far i j ∧ M a b far i j ≤ far := by
  have := (E_le a b i j).1
  unfold M
  omega

set_option maxRecDepth 100000 in
set_option maxHeartbeats 4000000 in
theorem within_ok (a b : List Int) (k : Int) (hk : -9223372036854775808 ≤ k ∧ k ≤ 9223372036854775807) (ha : a.length ≤ 1000) (hb : b.length ≤ 1000) (H : List Blk) (T : Toks) (ta tb_ : Tag) :
    ACall Try.prog 31 [.sl a.length (ints a) ta, .sl b.length (ints b) tb_, .int .i64 k] H T (Is (.tup [.int .i64 (if (ed a b : Int) ≤ k then (ed a b : Int) else 0), .bool (decide ((ed a b : Int) ≤ k))]) H T) := by
  refine ACall.untag1 (ACall.untag2 ?_)
  refine ACall.dropT ?_ (by simp)
  have hmax := ed_max a b
  have hlen := ed_len a b
  refine acall_enter 55 [] Try.ntmps31 Try.func31 rfl (fun _ _ => Try.call31 _ _) (by simp) (fun HO => ?_)
  refine aw_reg fun K hK => ?_; simp (maxSteps := 200000) (disch := omega) [-List.getD_eq_getElem?_getD]; refine hK _ ?_; clear hK K
  refine aw_reg fun K hK => ?_; simp (maxSteps := 200000) (disch := omega) [-List.getD_eq_getElem?_getD]; refine hK _ ?_; clear hK K
  refine aw_then fun K1 hK1 => ?_
  generalize hk' : min k (max (a.length : Int) (b.length : Int)) = k' at *
  by_cases g1 : k' < 0
  · have b1 : decide (k' < 0) = true := by simpa using g1
    have hn : ¬ (ed a b : Int) ≤ k := by omega
    refine aw_reg fun K hK => ?_; simp (maxSteps := 200000) (disch := omega) [-List.getD_eq_getElem?_getD, b1, g1, hk']; refine hK _ ?_; clear hK K
    refine aw_if rfl (fun h => ?_) (fun h => absurd h (by simp))
    refine aw_reg fun K hK => ?_; simp (maxSteps := 200000) (disch := omega) [-List.getD_eq_getElem?_getD]; refine hK _ ?_; clear hK K
    refine aw_ret ?_; simp (maxSteps := 200000) (disch := omega) [-List.getD_eq_getElem?_getD]
    omega
  · have b1 : decide (k' < 0) = false := by simp; omega
    obtain ⟨kk, rfl⟩ : ∃ kk : Nat, k' = kk := ⟨k'.toNat, by omega⟩
    by_cases g2 : (kk : Int) < (a.length : Int) - b.length
    · have b2 : decide ((kk : Int) < (a.length : Int) - b.length) = true := by simpa using g2
      have hn : ¬ (ed a b : Int) ≤ k := by omega
      refine aw_reg fun K hK => ?_; simp (maxSteps := 200000) (disch := omega) [-List.getD_eq_getElem?_getD, b1, g1, b2, g2, hk']; refine hK _ ?_; clear hK K
      refine aw_if rfl (fun h => ?_) (fun h => absurd h (by simp))
      refine aw_reg fun K hK => ?_; simp (maxSteps := 200000) (disch := omega) [-List.getD_eq_getElem?_getD]; refine hK _ ?_; clear hK K
      refine aw_ret ?_; simp (maxSteps := 200000) (disch := omega) [-List.getD_eq_getElem?_getD]
      omega
    · have b2 : decide ((kk : Int) < (a.length : Int) - b.length) = false := by simpa using g2
      by_cases g3 : (kk : Int) < (b.length : Int) - a.length
      · have b3 : decide ((kk : Int) < (b.length : Int) - a.length) = true := by simpa using g3
        have hn : ¬ (ed a b : Int) ≤ k := by omega
        refine aw_reg fun K hK => ?_; simp (maxSteps := 200000) (disch := omega) [-List.getD_eq_getElem?_getD, b1, g1, b2, g2, b3, g3, hk']; refine hK _ ?_; clear hK K
        refine aw_if rfl (fun h => ?_) (fun h => absurd h (by simp))
        refine aw_reg fun K hK => ?_; simp (maxSteps := 200000) (disch := omega) [-List.getD_eq_getElem?_getD]; refine hK _ ?_; clear hK K
        refine aw_ret ?_; simp (maxSteps := 200000) (disch := omega) [-List.getD_eq_getElem?_getD]
        omega
      · have b3 : decide ((kk : Int) < (b.length : Int) - a.length) = false := by simpa using g3
        have hkk : kk ≤ 1000 := by omega
        refine aw_reg fun K hK => ?_; simp (maxSteps := 200000) (disch := omega) [-List.getD_eq_getElem?_getD, b1, g1, b2, g2, b3, g3, hk']; refine hK _ ?_; clear hK K
        refine aw_if rfl (fun h => absurd h (by simp)) (fun h => ?_)
        refine aw_skip ?_; simp (maxSteps := 200000) (disch := omega) [-List.getD_eq_getElem?_getD]
        refine hK1 _ ?_; clear hK1
        refine aw_reg fun K hK => ?_; simp (maxSteps := 200000) (disch := omega) [-List.getD_eq_getElem?_getD]; refine hK _ ?_; clear hK K
        refine aw_reg fun K hK => ?_; simp (maxSteps := 200000) (disch := omega) [-List.getD_eq_getElem?_getD, ints_rep]; refine hK _ ?_; clear hK K
        refine aw_then fun K1 hK1 => ?_
        refine aw_reg fun K hK => ?_; simp (maxSteps := 200000) (disch := omega) [-List.getD_eq_getElem?_getD]; refine hK _ ?_; clear hK K
        refine aw_block ?_
        refine aw_loop (X := Nat × List Int) (fun x => ⟨[(0, .sl a.length (ints a) .none), (1, .sl b.length (ints b) .none), (2, .int .i64 (kk : Nat)), (8, .int .i64 (kk + 1 : Nat)), (9, .msl H.length 0 (b.length + 1)), (52, .msl H.length 0 (b.length + 1)), (53, .int .i64 (b.length + 1 : Nat)), (54, .int .i64 (x.1 : Nat))], H ++ [.cells (ints x.2)], T⟩)
          (fun x => x.1 ≤ b.length + 1 ∧ x.2.length = b.length + 1 ∧ ∀ j, j < x.1 → x.2.getD j 0 = M a b (kk + 1) 0 j) (fun x => b.length + 1 - x.1) (0, List.replicate (b.length + 1) 0) ?_ ?_ ?_
        · exact ⟨by simp only; omega, by simp, fun j hj => absurd hj (Nat.not_lt_zero _)⟩
        · refine weak_to [] [] ?_ ?_ ?_ ?_ (HO.snoc ?_) ?_
          all_goals simp
        · rintro ⟨q, r⟩ ⟨h1, h2, h3⟩
          simp only at h1 h2 h3
          refine aw_reg fun K hK => ?_; simp (maxSteps := 200000) (disch := omega) [-List.getD_eq_getElem?_getD]; refine hK _ ?_; clear hK K
          refine aw_then fun K2 hK2 => ?_
          refine aw_if rfl (fun hq => ?_) (fun hq => ?_)
          · simp [-List.getD_eq_getElem?_getD] at hq
            refine aw_skip ?_; simp (maxSteps := 200000) (disch := omega) [-List.getD_eq_getElem?_getD]
            refine hK2 _ ?_; clear hK2
            refine aw_then fun K3 hK3 => ?_
            refine aw_block ?_
            refine aw_reg fun K hK => ?_; simp (maxSteps := 200000) (disch := omega) [-List.getD_eq_getElem?_getD]; refine hK _ ?_; clear hK K
            refine aw_reg0 fun K hK => ?_; simp (maxSteps := 200000) (disch := omega) [-List.getD_eq_getElem?_getD, ints_set]
            refine hK _ ?_; clear hK K
            refine hK3 _ ?_; clear hK3
            refine aw_reg0 fun K hK => ?_; simp (maxSteps := 200000) (disch := omega) [-List.getD_eq_getElem?_getD]
            refine hK _ ?_; clear hK K
            refine ⟨(q + 1, r.set q (min (q : Int) ((kk : Int) + 1))), ⟨by show q + 1 ≤ _; omega, by simpa using h2, fun j hj => ?_⟩, by show b.length + 1 - (q + 1) < b.length + 1 - q; omega, ?_⟩
            · rw [getD_set]
              by_cases hqj : q = j
              · subst hqj
                rw [if_pos ⟨rfl, by omega⟩]
                unfold M
                rw [E_zero a b q (by omega)]
                omega
              · rw [if_neg (fun hh => hqj hh.1)]
                exact h3 j (by simp only at hj; omega)
            · refine weak_to [] [] ?_ ?_ ?_ ?_ (HO.snoc ?_) ?_
              all_goals simp
          · simp [-List.getD_eq_getElem?_getD] at hq
            refine aw_exit ?_; simp (maxSteps := 200000) (disch := omega) [-List.getD_eq_getElem?_getD]
            refine hK1 _ ?_; clear hK1
            have hq2 : q = b.length + 1 := by omega
            subst hq2
            refine aw_then fun K2 hK2 => ?_
            refine aw_reg fun K hK => ?_; simp (maxSteps := 200000) (disch := omega) [-List.getD_eq_getElem?_getD]; refine hK _ ?_; clear hK K
            refine aw_block ?_
            refine aw_loop (X := Nat × List Int) (fun x => ⟨[(0, .sl a.length (ints a) .none), (1, .sl b.length (ints b) .none), (2, .int .i64 (kk : Nat)), (8, .int .i64 (kk + 1 : Nat)), (9, .msl H.length 0 (b.length + 1)), (11, .int .i64 (x.1 + 1 : Nat))], H ++ [.cells (ints x.2)], T⟩)
              (fun x => x.1 ≤ a.length ∧ x.2.length = b.length + 1 ∧ ∀ j, j ≤ b.length → x.1 ≤ j + kk → x.2.getD j 0 = M a b (kk + 1) x.1 j) (fun x => a.length - x.1) (0, r) ?_ ?_ ?_
            · exact ⟨Nat.zero_le _, h2, fun j hj _ => h3 j (by omega)⟩
            · refine weak_to [] [] ?_ ?_ ?_ ?_ (HO.snoc ?_) ?_
              all_goals simp
            · rintro ⟨i, r⟩ ⟨h1, h2, h3⟩
              simp only at h1 h2 h3
              refine aw_then fun K3 hK3 => ?_
              refine aw_reg fun K hK => ?_; simp (maxSteps := 200000) (disch := omega) [-List.getD_eq_getElem?_getD]; refine hK _ ?_; clear hK K
              refine aw_if rfl (fun hi => ?_) (fun hi => ?_)
              · simp [-List.getD_eq_getElem?_getD] at hi
                have hi2 : i < a.length := by omega
                refine aw_skip ?_; simp (maxSteps := 200000) (disch := omega) [-List.getD_eq_getElem?_getD]
                refine hK3 _ ?_; clear hK3
                refine aw_then fun K4 hK4 => ?_
                refine aw_block ?_
                have elo : max 1 ((i : Int) + 1 - kk) = ((i - kk + 1 : Nat) : Int) := by omega
                have ehi : min (b.length : Int) ((i : Int) + 1 + kk) = ((min b.length (i + 1 + kk) : Nat) : Int) := by omega
                have hlo : i - kk ≤ b.length := by omega
                generalize hlo' : i - kk = lo at *
                generalize hhi' : min b.length (i + 1 + kk) = hi3 at *
                have r0 := h3 lo hlo (by omega)
                refine aw_reg fun K hK => ?_; simp (maxSteps := 200000) (disch := omega) [-List.getD_eq_getElem?_getD, elo, ehi]; refine hK _ ?_; clear hK K
                refine aw_reg fun K hK => ?_; simp (maxSteps := 200000) (disch := omega) [-List.getD_eq_getElem?_getD, getD_ints, r0]; refine hK _ ?_; clear hK K
                refine aw_reg fun K hK => ?_; simp (maxSteps := 200000) (disch := omega) [-List.getD_eq_getElem?_getD, ints_set]; refine hK _ ?_; clear hK K
                refine aw_then fun K5 hK5 => ?_
                have key : ∀ e r', r'.length = b.length + 1 → r'.getD lo 0 = M a b (kk + 1) (i + 1) lo → (∀ j, lo < j → j ≤ b.length → r'.getD j 0 = M a b (kk + 1) i j) → envLe (H.length + 1) T.length e [(0, .sl a.length (ints a) .none), (1, .sl b.length (ints b) .none), (2, .int .i64 (kk : Nat)), (8, .int .i64 (kk + 1 : Nat)), (9, .msl H.length 0 (b.length + 1)), (11, .int .i64 (i + 1 : Nat)), (12, .int .i64 (lo + 1 : Nat)), (13, .int .i64 (hi3 : Nat)), (14, .int .i64 (M a b (kk + 1) i lo))] → K5 ⟨e, H ++ [.cells (ints r')], T⟩ := by
                  intro e r' q1 q2 q3 he
                  refine hK5 _ (aw_weak ⟨[(0, .sl a.length (ints a) .none), (1, .sl b.length (ints b) .none), (2, .int .i64 (kk : Nat)), (8, .int .i64 (kk + 1 : Nat)), (9, .msl H.length 0 (b.length + 1)), (11, .int .i64 (i + 1 : Nat)), (12, .int .i64 (lo + 1 : Nat)), (13, .int .i64 (hi3 : Nat)), (14, .int .i64 (M a b (kk + 1) i lo))], H ++ [.cells (ints r')], T⟩ (weak_to [] [] (by simp) (by simp) (by simp) (by simp) (HO.snoc (by simp)) (by simpa using he)) ?_)
                  refine aw_reg fun K hK => ?_; simp (maxSteps := 200000) (disch := omega) [-List.getD_eq_getElem?_getD]; refine hK _ ?_; clear hK K
                  refine aw_block ?_
                  refine aw_loop (X := Nat × List Int) (fun x => ⟨[(0, .sl a.length (ints a) .none), (1, .sl b.length (ints b) .none), (2, .int .i64 (kk : Nat)), (8, .int .i64 (kk + 1 : Nat)), (9, .msl H.length 0 (b.length + 1)), (11, .int .i64 (i + 1 : Nat)), (13, .int .i64 (hi3 : Nat)), (14, .int .i64 (M a b (kk + 1) i x.1)), (15, .int .i64 (x.1 + 1 : Nat))], H ++ [.cells (ints x.2)], T⟩)
                    (fun x => lo ≤ x.1 ∧ x.1 ≤ max lo hi3 ∧ x.2.length = b.length + 1 ∧ (∀ j, lo ≤ j → j ≤ x.1 → x.2.getD j 0 = M a b (kk + 1) (i + 1) j) ∧ (∀ j, x.1 < j → j ≤ b.length → x.2.getD j 0 = M a b (kk + 1) i j)) (fun x => b.length - x.1) (lo, r') ?_ ?_ ?_
                  · refine ⟨Nat.le_refl _, by simp only; omega, q1, fun j hj1 hj2 => ?_, q3⟩
                    have : j = lo := by simp only at hj2; omega
                    rw [this]; exact q2
                  · refine weak_to [] [] ?_ ?_ ?_ ?_ (HO.snoc ?_) ?_
                    all_goals simp
                  · clear q1 q2 q3 he
                    rintro ⟨j, r'⟩ ⟨f1, f2, f3, f4, f5⟩
                    simp only at f1 f2 f3 f4 f5
                    refine aw_then fun K6 hK6 => ?_
                    refine aw_reg fun K hK => ?_; simp (maxSteps := 200000) (disch := omega) [-List.getD_eq_getElem?_getD]; refine hK _ ?_; clear hK K
                    refine aw_if rfl (fun hj => ?_) (fun hj => ?_)
                    · simp [-List.getD_eq_getElem?_getD] at hj
                      have hjb : j < b.length := by omega
                      have s1 := f5 (j + 1) (by omega) (by omega)
                      have s2 := f4 j f1 (Nat.le_refl _)
                      have t1 := M_le a b (kk + 1) i (j + 1)
                      have t2 := M_le a b (kk + 1) i j
                      have t3 := M_le a b (kk + 1) (i + 1) j
                      refine aw_skip ?_; simp (maxSteps := 200000) (disch := omega) [-List.getD_eq_getElem?_getD]
                      refine hK6 _ ?_; clear hK6
                      refine aw_then fun K7 hK7 => ?_
                      refine aw_block ?_
                      refine aw_reg fun K hK => ?_; simp (maxSteps := 200000) (disch := omega) [-List.getD_eq_getElem?_getD, getD_ints, s1]; refine hK _ ?_; clear hK K
                      refine aw_then fun K8 hK8 => ?_
                      have key8 : ∀ e, envLe (H.length + 1) T.length e [(0, .sl a.length (ints a) .none), (1, .sl b.length (ints b) .none), (2, .int .i64 (kk : Nat)), (8, .int .i64 (kk + 1 : Nat)), (9, .msl H.length 0 (b.length + 1)), (11, .int .i64 (i + 1 : Nat)), (13, .int .i64 (hi3 : Nat)), (14, .int .i64 (M a b (kk + 1) i j)), (15, .int .i64 (j + 1 : Nat)), (16, .int .i64 (M a b (kk + 1) i (j + 1)))] → K8 ⟨e, H ++ [.cells (ints r')], T⟩ := by
                        intro e he
                        refine hK8 _ (aw_weak ⟨[(0, .sl a.length (ints a) .none), (1, .sl b.length (ints b) .none), (2, .int .i64 (kk : Nat)), (8, .int .i64 (kk + 1 : Nat)), (9, .msl H.length 0 (b.length + 1)), (11, .int .i64 (i + 1 : Nat)), (13, .int .i64 (hi3 : Nat)), (14, .int .i64 (M a b (kk + 1) i j)), (15, .int .i64 (j + 1 : Nat)), (16, .int .i64 (M a b (kk + 1) i (j + 1)))], H ++ [.cells (ints r')], T⟩ (weak_to [] [] (by simp) (by simp) (by simp) (by simp) (HO.snoc (by simp)) (by simpa using he)) ?_)
                        refine aw_reg fun K hK => ?_; simp (maxSteps := 200000) (disch := omega) [-List.getD_eq_getElem?_getD]; refine hK _ ?_; clear hK K
                        refine aw_then fun K9 hK9 => ?_
                        have key9 : ∀ e n, min n ((kk : Int) + 1) = M a b (kk + 1) (i + 1) (j + 1) → envLe (H.length + 1) T.length e [(0, .sl a.length (ints a) .none), (1, .sl b.length (ints b) .none), (2, .int .i64 (kk : Nat)), (8, .int .i64 (kk + 1 : Nat)), (9, .msl H.length 0 (b.length + 1)), (11, .int .i64 (i + 1 : Nat)), (13, .int .i64 (hi3 : Nat)), (15, .int .i64 (j + 1 : Nat)), (17, .int .i64 n)] → K9 ⟨e, H ++ [.cells (ints r')], T⟩ := by
                          intro e n hn he
                          refine hK9 _ (aw_weak ⟨[(0, .sl a.length (ints a) .none), (1, .sl b.length (ints b) .none), (2, .int .i64 (kk : Nat)), (8, .int .i64 (kk + 1 : Nat)), (9, .msl H.length 0 (b.length + 1)), (11, .int .i64 (i + 1 : Nat)), (13, .int .i64 (hi3 : Nat)), (15, .int .i64 (j + 1 : Nat)), (17, .int .i64 n)], H ++ [.cells (ints r')], T⟩ (weak_to [] [] (by simp) (by simp) (by simp) (by simp) (HO.snoc (by simp)) (by simpa using he)) ?_)
                          refine aw_reg0 fun K hK => ?_; simp (maxSteps := 200000) (disch := omega) [-List.getD_eq_getElem?_getD, getD_ints, s1, ints_set, hn]
                          refine hK _ ?_; clear hK K
                          refine hK7 _ ?_; clear hK7
                          refine aw_reg0 fun K hK => ?_; simp (maxSteps := 200000) (disch := omega) [-List.getD_eq_getElem?_getD]
                          refine hK _ ?_; clear hK K
                          refine ⟨(j + 1, r'.set (j + 1) (M a b (kk + 1) (i + 1) (j + 1))), ⟨by show lo ≤ j + 1; omega, by show j + 1 ≤ _; omega, by simpa using f3, fun q q1 q2 => ?_, fun q q1 q2 => ?_⟩, by show b.length - (j + 1) < b.length - j; omega, ?_⟩
                          · rw [getD_set]
                            by_cases hqj : j + 1 = q
                            · subst hqj; rw [if_pos ⟨rfl, by omega⟩]
                            · rw [if_neg (fun hh => hqj hh.1)]
                              exact f4 q q1 (by simp only at q2; omega)
                          · have q1' : j + 1 < q := q1
                            rw [getD_set, if_neg (by omega)]
                            exact f5 q (by omega) q2
                          · refine weak_to [] [] ?_ ?_ ?_ ?_ (HO.snoc ?_) ?_
                            all_goals simp
                        by_cases hc : a.getD i 0 = b.getD j 0
                        · have b3 : (a.getD i 0 != b.getD j 0) = false := by simpa using hc
                          refine aw_draw [] [] [] drawMixed (by kernel_rfl) (by kernel_rfl) fun K hK => ?_; simp (maxSteps := 200000) (disch := omega) [-List.getD_eq_getElem?_getD, getD_ints, b3]
                          refine hK _ ?_; clear hK K
                          refine aw_if rfl (fun h => absurd h (by simp)) (fun h => ?_)
                          refine aw_skip ?_; simp (maxSteps := 200000) (disch := omega) [-List.getD_eq_getElem?_getD]
                          refine key9 _ (M a b (kk + 1) i j) ?_ ?_
                          · unfold M
                            rw [E_eq hi2 hjb hc]
                            omega
                          · simp
                        · have b3 : (a.getD i 0 != b.getD j 0) = true := by simpa using hc
                          refine aw_draw [] [] [] drawMixed (by kernel_rfl) (by kernel_rfl) fun K hK => ?_; simp (maxSteps := 200000) (disch := omega) [-List.getD_eq_getElem?_getD, getD_ints, b3]
                          refine hK _ ?_; clear hK K
                          refine aw_if rfl (fun h => ?_) (fun h => absurd h (by simp))
                          refine aw_reg0 fun K hK => ?_; simp (maxSteps := 200000) (disch := omega) [-List.getD_eq_getElem?_getD, getD_ints, s2]
                          refine hK _ ?_; clear hK K
                          refine key9 _ (1 + min (M a b (kk + 1) i j) (min (M a b (kk + 1) i (j + 1)) (M a b (kk + 1) (i + 1) j))) ?_ ?_
                          · unfold M
                            rw [E_ne hi2 hjb hc]
                            omega
                          · simp
                      by_cases hd : j + 1 = i + 1 + kk
                      · have b4 : ((j : Int) + 1 == (i : Int) + 1 + kk) = true := by simp; omega
                        have hf := M_far (a := a) (b := b) (far := kk + 1) (i := i) (j := j + 1) (by omega) (by omega) (by omega)
                        refine aw_reg fun K hK => ?_; simp (maxSteps := 200000) (disch := omega) [-List.getD_eq_getElem?_getD, b4]; refine hK _ ?_; clear hK K
                        refine aw_if rfl (fun h => ?_) (fun h => absurd h (by simp))
                        refine aw_reg0 fun K hK => ?_; simp (maxSteps := 200000) (disch := omega) [-List.getD_eq_getElem?_getD]
                        refine hK _ ?_; clear hK K
                        refine key8 _ ?_
                        simp [hf]
                      · have b4 : ((j : Int) + 1 == (i : Int) + 1 + kk) = false := by rw [beq_eq_false_iff_ne]; omega
                        have hd2 : ¬ (j : Int) = (i : Int) + kk := by omega
                        have hd3 : ¬ (j : Int) + 1 = (i : Int) + 1 + kk := by omega
                        refine aw_reg fun K hK => ?_; simp (maxSteps := 200000) (disch := omega) [-List.getD_eq_getElem?_getD, b4, hd, hd2, hd3]; refine hK _ ?_; clear hK K
                        refine aw_if rfl (fun h => absurd h (by simp)) (fun h => ?_)
                        refine aw_skip ?_; simp (maxSteps := 200000) (disch := omega) [-List.getD_eq_getElem?_getD]
                        refine key8 _ ?_
                        simp
                    · simp [-List.getD_eq_getElem?_getD] at hj
                      refine aw_exit ?_; simp (maxSteps := 200000) (disch := omega) [-List.getD_eq_getElem?_getD]
                      refine hK4 _ ?_; clear hK4
                      refine aw_reg0 fun K hK => ?_; simp (maxSteps := 200000) (disch := omega) [-List.getD_eq_getElem?_getD]
                      refine hK _ ?_; clear hK K
                      refine ⟨(i + 1, r'), ⟨by show i + 1 ≤ _; omega, f3, fun q q1 q2 => ?_⟩, by show a.length - (i + 1) < a.length - i; omega, ?_⟩
                      · have q2' : i + 1 ≤ q + kk := q2
                        rcases Nat.lt_or_ge j q with hq | hq
                        · rw [f5 q hq q1, M_far (by omega) q1 (by omega), M_far (by omega) q1 (by omega)]
                        · exact f4 q (by omega) hq
                      · refine weak_to [] [] ?_ ?_ ?_ ?_ (HO.snoc ?_) ?_
                        all_goals simp
                by_cases hl0 : lo = 0
                · subst hl0
                  refine aw_reg fun K hK => ?_; simp (maxSteps := 200000) (disch := omega) [-List.getD_eq_getElem?_getD]; refine hK _ ?_; clear hK K
                  refine aw_if rfl (fun h => ?_) (fun h => absurd h (by simp))
                  refine aw_reg0 fun K hK => ?_; simp (maxSteps := 200000) (disch := omega) [-List.getD_eq_getElem?_getD, ints_set]
                  refine hK _ ?_; clear hK K
                  refine key _ (r.set 0 ((i : Int) + 1)) (by simpa using h2) ?_ (fun j hj1 hj2 => ?_) ?_
                  · rw [getD_set, if_pos ⟨rfl, by omega⟩]
                    unfold M
                    rw [E_col a b _ (by omega)]
                    omega
                  · rw [getD_set, if_neg (by omega)]
                    exact h3 j hj2 (by omega)
                  · simp
                · have hl1 : ¬ (lo : Int) = 0 := by omega
                  have hl2 : ((lo : Int) + 1 == 1) = false := by rw [beq_eq_false_iff_ne]; omega
                  refine aw_reg fun K hK => ?_; simp (maxSteps := 200000) (disch := omega) [-List.getD_eq_getElem?_getD, hl0, hl1, hl2]; refine hK _ ?_; clear hK K
                  refine aw_if rfl (fun h => absurd h (by simp)) (fun h => ?_)
                  refine aw_skip ?_; simp (maxSteps := 200000) (disch := omega) [-List.getD_eq_getElem?_getD]
                  refine key _ (r.set lo ((kk : Int) + 1)) (by simpa using h2) ?_ (fun j hj1 hj2 => ?_) ?_
                  · rw [getD_set, if_pos ⟨rfl, by omega⟩, M_far (by omega) (by omega) (by omega)]
                    omega
                  · rw [getD_set, if_neg (by omega)]
                    exact h3 j hj2 (by omega)
                  · simp
              · simp [-List.getD_eq_getElem?_getD] at hi
                have hia : i = a.length := by omega
                subst hia
                have hfin := h3 b.length (Nat.le_refl _) (by omega)
                have hM : M a b (kk + 1) a.length b.length = min (ed a b : Int) ((kk + 1 : Nat) : Int) := by
                  unfold M E
                  rw [List.take_length, List.take_length]
                rw [hM] at hfin
                refine aw_exit ?_; simp (maxSteps := 200000) (disch := omega) [-List.getD_eq_getElem?_getD]
                refine hK2 _ ?_; clear hK2
                refine aw_then fun K3 hK3 => ?_
                refine aw_reg fun K hK => ?_; simp (maxSteps := 200000) (disch := omega) [-List.getD_eq_getElem?_getD, getD_ints, hfin]; refine hK _ ?_; clear hK K
                by_cases hd : (ed a b : Int) ≤ k
                · have e1 : min (ed a b : Int) ((kk : Int) + 1) = ed a b := by omega
                  have e2 : (ed a b : Int) ≤ kk := by omega
                  have e3 : ed a b ≤ kk := by omega
                  refine aw_reg fun K hK => ?_; simp (maxSteps := 200000) (disch := omega) [-List.getD_eq_getElem?_getD, e1, e2, e3]; refine hK _ ?_; clear hK K
                  refine aw_if rfl (fun h => ?_) (fun h => absurd h (by simp))
                  refine aw_reg fun K hK => ?_; simp (maxSteps := 200000) (disch := omega) [-List.getD_eq_getElem?_getD, e1]; refine hK _ ?_; clear hK K
                  refine aw_ret ?_; simp (maxSteps := 200000) (disch := omega) [-List.getD_eq_getElem?_getD]
                  first | omega | simp [hd]
                · have e1 : min (ed a b : Int) ((kk : Int) + 1) = (kk : Int) + 1 := by omega
                  have e2 : ¬ (kk : Int) + 1 ≤ kk := by omega
                  refine aw_reg fun K hK => ?_; simp (maxSteps := 200000) (disch := omega) [-List.getD_eq_getElem?_getD, e1, e2]; refine hK _ ?_; clear hK K
                  refine aw_if rfl (fun h => absurd h (by simp)) (fun h => ?_)
                  refine aw_skip ?_; simp (maxSteps := 200000) (disch := omega) [-List.getD_eq_getElem?_getD]
                  refine hK3 _ ?_; clear hK3
                  refine aw_reg fun K hK => ?_; simp (maxSteps := 200000) (disch := omega) [-List.getD_eq_getElem?_getD]; refine hK _ ?_; clear hK K
                  refine aw_ret ?_; simp (maxSteps := 200000) (disch := omega) [-List.getD_eq_getElem?_getD]
                  first | omega | simp [hd]
end Go.Proofs.Ytgndlhfnenlhkaa
