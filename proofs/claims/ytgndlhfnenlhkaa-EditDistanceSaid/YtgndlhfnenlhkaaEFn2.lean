/- Distance of layer 11.
   Conditions: lengths below 1000. -/
import Derived.Test.YtgndlhfnenlhkaaEFn1
namespace Go.Proofs.Ytgndlhfnenlhkaa
open Go Go.Am Edit
set_option linter.unusedVariables false

theorem take_snoc (l : List Int) (k : Nat) (h : k < l.length) : l.take (k + 1) = l.take k ++ [l.getD k 0] := by
  rw [List.take_succ_eq_append_getElem h]
  simp [h]

/-- The distance of two beginnings. -/
def E (a b : List Int) (i j : Nat) : Int := (ed (a.take i) (b.take j) : Nat)

theorem E_eq {a b : List Int} {i j : Nat} (hi : i < a.length) (hj : j < b.length) (h : a.getD i 0 = b.getD j 0) : E a b (i + 1) (j + 1) = E a b i j := by
  unfold E
  rw [take_snoc a i hi, take_snoc b j hj, h, ed_snoc_eq]
theorem E_ne {a b : List Int} {i j : Nat} (hi : i < a.length) (hj : j < b.length) (h : a.getD i 0 ≠ b.getD j 0) : E a b (i + 1) (j + 1) = 1 + min (min (E a b i j) (E a b (i + 1) j)) (E a b i (j + 1)) := by
  unfold E
  have := ed_snoc_ne h (a.take i) (b.take j)
  rw [← take_snoc a i hi, ← take_snoc b j hj] at this
  rw [this]
  omega
theorem E_zero (a b : List Int) (j : Nat) (hj : j ≤ b.length) : E a b 0 j = j := by
  unfold E
  rw [List.take_zero, ed_nil, List.length_take]; omega
theorem E_col (a b : List Int) (i : Nat) (hi : i ≤ a.length) : E a b i 0 = i := by
  unfold E
  rw [List.take_zero, ed_nil2, List.length_take]; omega
theorem E_le (a b : List Int) (i j : Nat) : 0 ≤ E a b i j ∧ E a b i j ≤ max a.length b.length := by
  unfold E
  have := ed_max (a.take i) (b.take j)
  rw [List.length_take, List.length_take] at this
  omega

theorem getD_set (l : List Int) (k j : Nat) (x : Int) : (l.set k x).getD j 0 = if k = j ∧ k < l.length then x else l.getD j 0 := by
  rw [List.getD_eq_getElem?_getD, List.getD_eq_getElem?_getD, List.getElem?_set]
  by_cases h : k = j
  · subst h
    by_cases hl : k < l.length
    · simp [hl]
    · simp [hl]
  · simp [h]

set_option maxHeartbeats 1000000 in
theorem dist_ok (a b : List Int) (ha : a.length ≤ 1000) (hb : b.length ≤ 1000) (H : List Blk) (T : Toks) (ta tb : Tag) : ACall Try.prog 24 [.sl a.length (ints a) ta, .sl b.length (ints b) tb] H T (Is (.int .i64 (ed a b : Nat)) H T) := by
  refine ACall.untag1 (ACall.untag2 ?_)
  refine ACall.drop' ?_ (by simp)
  refine acall_enter 44 [] Try.ntmps24 Try.func24 rfl (fun _ _ => Try.call24 _ _) (by simp) (fun HO => ?_)
  refine aw_reg fun K hK => ?_; simp (maxSteps := 200000) (disch := omega) [-List.getD_eq_getElem?_getD]; refine hK _ ?_; clear hK K
  refine aw_reg fun K hK => ?_; simp (maxSteps := 200000) (disch := omega) [-List.getD_eq_getElem?_getD, ints_rep]; refine hK _ ?_; clear hK K
  refine aw_then fun K1 hK1 => ?_
  refine aw_reg fun K hK => ?_; simp (maxSteps := 200000) (disch := omega) [-List.getD_eq_getElem?_getD]; refine hK _ ?_; clear hK K
  refine aw_block ?_
  refine aw_loop (X := Nat × List Int) (fun x => ⟨[(0, .sl a.length (ints a) .none), (1, .sl b.length (ints b) .none), (5, .msl H.length 0 (b.length + 1)), (17, .msl H.length 0 (b.length + 1)), (18, .int .i64 (b.length + 1 : Nat)), (19, .int .i64 (x.1 : Nat))], H ++ [.cells (ints x.2)], T⟩)
    (fun x => x.1 ≤ b.length + 1 ∧ x.2.length = b.length + 1 ∧ ∀ j, j < x.1 → x.2.getD j 0 = j) (fun x => b.length + 1 - x.1) (0, List.replicate (b.length + 1) 0) ?_ ?_ ?_
  · exact ⟨by omega, by simp, fun j hj => by simp at hj⟩
  · refine weak_to [] [] ?_ ?_ ?_ ?_ (HO.snoc ?_) ?_
    all_goals simp
  · rintro ⟨k, r⟩ ⟨h1, h2, h3⟩
    simp only at h1 h2 h3
    refine aw_reg fun K hK => ?_; simp (maxSteps := 200000) (disch := omega) [-List.getD_eq_getElem?_getD]; refine hK _ ?_; clear hK K
    refine aw_then fun K2 hK2 => ?_
    refine aw_if rfl (fun h => ?_) (fun h => ?_)
    · simp [-List.getD_eq_getElem?_getD] at h
      refine aw_skip ?_; simp (maxSteps := 200000) (disch := omega) [-List.getD_eq_getElem?_getD]
      refine hK2 _ ?_; clear hK2
      refine aw_then fun K3 hK3 => ?_
      refine aw_block ?_
      refine aw_reg fun K hK => ?_; simp (maxSteps := 200000) (disch := omega) [-List.getD_eq_getElem?_getD]; refine hK _ ?_; clear hK K
      refine aw_reg0 fun K hK => ?_; simp (maxSteps := 200000) (disch := omega) [-List.getD_eq_getElem?_getD, ints_set]
      refine hK _ ?_; clear hK K
      refine hK3 _ ?_; clear hK3
      refine aw_reg0 fun K hK => ?_; simp (maxSteps := 200000) (disch := omega) [-List.getD_eq_getElem?_getD]
      refine hK _ ?_; clear hK K
      refine ⟨(k + 1, r.set k k), ⟨by show k + 1 ≤ _; omega, by simpa using h2, fun j hj => ?_⟩, by show b.length + 1 - (k + 1) < b.length + 1 - k; omega, ?_⟩
      · rw [getD_set]
        by_cases hkj : k = j
        · subst hkj; rw [if_pos ⟨rfl, by omega⟩]
        · rw [if_neg (fun hh => hkj hh.1)]; exact h3 j (by simp only at hj; omega)
      · refine weak_to [] [] ?_ ?_ ?_ ?_ (HO.snoc ?_) ?_
        all_goals simp
    · simp [-List.getD_eq_getElem?_getD] at h
      refine aw_exit ?_; simp (maxSteps := 200000) (disch := omega) [-List.getD_eq_getElem?_getD]
      refine hK1 _ ?_; clear hK1
      have hk : k = b.length + 1 := by omega
      subst hk
      refine aw_then fun K4 hK4 => ?_
      refine aw_reg fun K hK => ?_; simp (maxSteps := 200000) (disch := omega) [-List.getD_eq_getElem?_getD]; refine hK _ ?_; clear hK K
      refine aw_block ?_
      refine aw_loop (X := Nat × List Int) (fun x => ⟨[(0, .sl a.length (ints a) .none), (1, .sl b.length (ints b) .none), (5, .msl H.length 0 (b.length + 1)), (27, .sl a.length (ints a) .none), (28, .int .i64 (a.length : Nat)), (29, .int .i64 (x.1 : Nat))], H ++ [.cells (ints x.2)], T⟩)
        (fun x => x.1 ≤ a.length ∧ x.2.length = b.length + 1 ∧ ∀ j, j ≤ b.length → x.2.getD j 0 = E a b x.1 j) (fun x => a.length - x.1) (0, r) ?_ ?_ ?_
      · exact ⟨by omega, h2, fun j hj => by rw [E_zero a b j hj]; exact h3 j (by omega)⟩
      · refine weak_to [] [] ?_ ?_ ?_ ?_ (HO.snoc ?_) ?_
        all_goals simp
      · rintro ⟨i, r⟩ ⟨h1, h2, h3⟩
        simp only at h1 h2 h3
        refine aw_reg fun K hK => ?_; simp (maxSteps := 200000) (disch := omega) [-List.getD_eq_getElem?_getD]; refine hK _ ?_; clear hK K
        refine aw_then fun K2 hK2 => ?_
        refine aw_if rfl (fun hi => ?_) (fun hi => ?_)
        · simp [-List.getD_eq_getElem?_getD] at hi
          refine aw_skip ?_; simp (maxSteps := 200000) (disch := omega) [-List.getD_eq_getElem?_getD]
          refine hK2 _ ?_; clear hK2
          refine aw_then fun K3 hK3 => ?_
          refine aw_block ?_
          refine aw_reg fun K hK => ?_; simp (maxSteps := 200000) (disch := omega) [-List.getD_eq_getElem?_getD, getD_ints]; refine hK _ ?_; clear hK K
          refine aw_reg fun K hK => ?_; simp (maxSteps := 200000) (disch := omega) [-List.getD_eq_getElem?_getD, getD_ints]; refine hK _ ?_; clear hK K
          refine aw_reg fun K hK => ?_; simp (maxSteps := 200000) (disch := omega) [-List.getD_eq_getElem?_getD, ints_set]; refine hK _ ?_; clear hK K
          refine aw_reg fun K hK => ?_; simp (maxSteps := 200000) (disch := omega) [-List.getD_eq_getElem?_getD]; refine hK _ ?_; clear hK K
          refine aw_block ?_
          refine aw_loop (X := Nat × Int × List Int) (fun x => ⟨[(0, .sl a.length (ints a) .none), (1, .sl b.length (ints b) .none), (5, .msl H.length 0 (b.length + 1)), (7, .int .i64 (i : Nat)), (8, .int .i64 (a.getD i 0)), (9, .int .i64 x.2.1), (27, .sl a.length (ints a) .none), (28, .int .i64 (a.length : Nat)), (29, .int .i64 (i : Nat)), (41, .sl b.length (ints b) .none), (42, .int .i64 (b.length : Nat)), (43, .int .i64 (x.1 : Nat))], H ++ [.cells (ints x.2.2)], T⟩)
            (fun x => x.1 ≤ b.length ∧ x.2.2.length = b.length + 1 ∧ (∀ j, j ≤ x.1 → x.2.2.getD j 0 = E a b (i + 1) j) ∧ (∀ j, x.1 < j → j ≤ b.length → x.2.2.getD j 0 = E a b i j) ∧ x.2.1 = E a b i x.1) (fun x => b.length - x.1) (0, r.getD 0 0, r.set 0 ((i : Int) + 1)) ?_ ?_ ?_
          · refine ⟨by show 0 ≤ _; omega, by simpa using h2, fun j hj => ?_, fun j hj hj2 => ?_, h3 0 (by omega)⟩
            · have : j = 0 := by simp only at hj; omega
              subst this
              rw [getD_set, if_pos ⟨rfl, by omega⟩, E_col a b _ (by omega)]
              omega
            · have hj' : 0 < j := hj
              rw [getD_set, if_neg (by omega)]
              exact h3 j hj2
          · refine weak_to [] [] ?_ ?_ ?_ ?_ (HO.snoc ?_) ?_
            all_goals simp
          · rintro ⟨j, last, r'⟩ ⟨g1, g2, g3, g4, g5⟩
            simp only at g1 g2 g3 g4 g5
            refine aw_reg fun K hK => ?_; simp (maxSteps := 200000) (disch := omega) [-List.getD_eq_getElem?_getD]; refine hK _ ?_; clear hK K
            refine aw_then fun K4 hK4 => ?_
            refine aw_if rfl (fun h' => ?_) (fun h' => ?_)
            · simp [-List.getD_eq_getElem?_getD] at h'
              refine aw_skip ?_; simp (maxSteps := 200000) (disch := omega) [-List.getD_eq_getElem?_getD]
              refine hK4 _ ?_; clear hK4
              refine aw_then fun K5 hK5 => ?_
              refine aw_block ?_
              refine aw_reg fun K hK => ?_; simp (maxSteps := 200000) (disch := omega) [-List.getD_eq_getElem?_getD, getD_ints]; refine hK _ ?_; clear hK K
              refine aw_reg fun K hK => ?_; simp (maxSteps := 200000) (disch := omega) [-List.getD_eq_getElem?_getD]; refine hK _ ?_; clear hK K
              refine aw_then fun K6 hK6 => ?_
              have b1 := E_le a b i j
              have b2 := E_le a b (i + 1) j
              have b3 := E_le a b i (j + 1)
              have b4 := E_le a b (i + 1) (j + 1)
              have r1 := g3 j (Nat.le_refl _)
              have r2 := g4 (j + 1) (by omega) (by omega)
              have key : ∀ e n, n = E a b (i + 1) (j + 1) → envLe (H.length + 1) T.length e [(0, .sl a.length (ints a) .none), (1, .sl b.length (ints b) .none), (5, .msl H.length 0 (b.length + 1)), (7, .int .i64 (i : Nat)), (8, .int .i64 (a.getD i 0)), (10, .int .i64 (j : Nat)), (12, .int .i64 n), (27, .sl a.length (ints a) .none), (28, .int .i64 (a.length : Nat)), (29, .int .i64 (i : Nat)), (41, .sl b.length (ints b) .none), (42, .int .i64 (b.length : Nat)), (43, .int .i64 (j : Nat))] → K6 ⟨e, H ++ [.cells (ints r')], T⟩ := by
                intro e n hn he
                refine hK6 _ (aw_weak ⟨[(0, .sl a.length (ints a) .none), (1, .sl b.length (ints b) .none), (5, .msl H.length 0 (b.length + 1)), (7, .int .i64 (i : Nat)), (8, .int .i64 (a.getD i 0)), (10, .int .i64 (j : Nat)), (12, .int .i64 n), (27, .sl a.length (ints a) .none), (28, .int .i64 (a.length : Nat)), (29, .int .i64 (i : Nat)), (41, .sl b.length (ints b) .none), (42, .int .i64 (b.length : Nat)), (43, .int .i64 (j : Nat))], H ++ [.cells (ints r')], T⟩ (weak_to [] [] (by simp) (by simp) (by simp) (by simp) (HO.snoc (by simp)) (by simpa using he)) ?_)
                refine aw_reg0 fun K hK => ?_; simp (maxSteps := 200000) (disch := omega) [-List.getD_eq_getElem?_getD, getD_ints, ints_set]
                refine hK _ ?_; clear hK K
                refine hK5 _ ?_; clear hK5
                refine aw_reg0 fun K hK => ?_; simp (maxSteps := 200000) (disch := omega) [-List.getD_eq_getElem?_getD]
                refine hK _ ?_; clear hK K
                refine ⟨(j + 1, E a b i (j + 1), r'.set (j + 1) n), ⟨by show j + 1 ≤ _; omega, by simpa using g2, fun q hq => ?_, fun q hq hq2 => ?_, rfl⟩, by show b.length - (j + 1) < b.length - j; omega, ?_⟩
                · rw [getD_set]
                  by_cases hkj : j + 1 = q
                  · subst hkj; rw [if_pos ⟨rfl, by omega⟩, hn]
                  · rw [if_neg (fun hh => hkj hh.1)]; exact g3 q (by simp only at hq; omega)
                · have hq' : j + 1 < q := hq
                  rw [getD_set, if_neg (by omega)]
                  exact g4 q (by omega) hq2
                · refine weak_to [] [] ?_ ?_ ?_ ?_ (HO.snoc ?_) ?_
                  all_goals simp [-List.getD_eq_getElem?_getD, r2]
              by_cases hc : a.getD i 0 = b.getD j 0
              · have hne : (a.getD i 0 != b.getD j 0) = false := by simpa using hc
                refine aw_reg fun K hK => ?_; simp (maxSteps := 200000) (disch := omega) [-List.getD_eq_getElem?_getD, hne]; refine hK _ ?_; clear hK K
                refine aw_if rfl (fun h => absurd h (by simp)) (fun h => ?_)
                refine aw_skip ?_; simp (maxSteps := 200000) (disch := omega) [-List.getD_eq_getElem?_getD]
                exact key _ last (by rw [g5, E_eq hi h' hc]) (by simp)
              · have hne : (a.getD i 0 != b.getD j 0) = true := by simpa using hc
                refine aw_reg fun K hK => ?_; simp (maxSteps := 200000) (disch := omega) [-List.getD_eq_getElem?_getD, hne]; refine hK _ ?_; clear hK K
                refine aw_if rfl (fun h => ?_) (fun h => absurd h (by simp))
                refine aw_draw0 [] [] [] drawMixed (by kernel_rfl) (by kernel_rfl) fun K hK => ?_; simp (maxSteps := 200000) (disch := omega) [-List.getD_eq_getElem?_getD, getD_ints, r1, r2]
                refine hK _ ?_; clear hK K
                exact key _ (1 + min last (min (E a b (i + 1) j) (E a b i (j + 1)))) (by rw [E_ne hi h' hc, g5]; omega) (by simp)
            · simp [-List.getD_eq_getElem?_getD] at h'
              refine aw_exit ?_; simp (maxSteps := 200000) (disch := omega) [-List.getD_eq_getElem?_getD]
              refine hK3 _ ?_; clear hK3
              refine aw_reg0 fun K hK => ?_; simp (maxSteps := 200000) (disch := omega) [-List.getD_eq_getElem?_getD]
              refine hK _ ?_; clear hK K
              refine ⟨(i + 1, r'), ⟨by show i + 1 ≤ _; omega, g2, fun q hq => g3 q (by omega)⟩, by show a.length - (i + 1) < a.length - i; omega, ?_⟩
              refine weak_to [] [] ?_ ?_ ?_ ?_ (HO.snoc ?_) ?_
              all_goals simp
        · simp [-List.getD_eq_getElem?_getD] at hi
          have hia : i = a.length := by omega
          subst hia
          have hfin := h3 b.length (Nat.le_refl _)
          unfold E at hfin
          rw [List.take_length, List.take_length] at hfin
          refine aw_exit ?_; simp (maxSteps := 200000) (disch := omega) [-List.getD_eq_getElem?_getD]
          refine hK4 _ ?_; clear hK4
          refine aw_reg fun K hK => ?_; simp (maxSteps := 200000) (disch := omega) [-List.getD_eq_getElem?_getD, getD_ints, hfin]; refine hK _ ?_; clear hK K
          refine aw_ret ?_; simp (maxSteps := 200000) (disch := omega) [-List.getD_eq_getElem?_getD]
end Go.Proofs.Ytgndlhfnenlhkaa
