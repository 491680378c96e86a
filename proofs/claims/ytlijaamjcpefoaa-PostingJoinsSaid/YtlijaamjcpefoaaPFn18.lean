/- Searching among ascending numbers.
   Conditions: lengths below 1000. -/
import Derived.Test.YtlijaamjcpefoaaPFn16
namespace Go.Proofs.Ytlijaamjcpefoaa
open Go Go.Am Post
set_option linter.unusedVariables false

theorem asc_get {l : List Int} (h : Asc l) {i j : Nat} (hij : i < j) (hj : j < l.length) : l.getD i 0 < l.getD j 0 := by
  have := (List.pairwise_iff_getElem.1 h) i j (by omega) hj hij
  rw [List.getD_eq_getElem?_getD, List.getD_eq_getElem?_getD, List.getElem?_eq_getElem hj, List.getElem?_eq_getElem (show i < l.length by omega)]
  exact this

theorem bsearch_ok (l : List Int) (t : Int) (hs : Asc l) (hl : l.length ≤ 1000) (H : List Blk) (T : Toks) (tg : Tag) :
    ACall Try.prog 56 [.sl l.length (ints l) tg, .int .i64 t] H T (fun r H' T' => H' = H ∧ T' = T ∧ ∃ i : Int, r = .tup [.int .i64 i, .bool (decide (t ∈ l))]) := by
  refine ACall.untag1 ?_
  refine acall_enter 10 [] Try.ntmps56 Try.func56 rfl (fun _ _ => Try.call56 _ _) (by simp) (fun HO => ?_)
  refine aw_reg fun K hK => ?_; simp (maxSteps := 200000) (disch := omega) [-List.getD_eq_getElem?_getD]; refine hK _ ?_; clear hK K
  refine aw_reg fun K hK => ?_; simp (maxSteps := 200000) (disch := omega) [-List.getD_eq_getElem?_getD]; refine hK _ ?_; clear hK K
  refine aw_reg fun K hK => ?_; simp (maxSteps := 200000) (disch := omega) [-List.getD_eq_getElem?_getD]; refine hK _ ?_; clear hK K
  refine aw_then fun K1 hK1 => ?_
  refine aw_block ?_
  refine aw_loop (X := Nat × Nat) (fun x => ⟨[(0, .sl l.length (ints l) .none), (1, .int .i64 t), (6, .int .i64 (l.length : Nat)), (7, .int .i64 (x.1 : Nat)), (8, .int .i64 (x.2 : Nat))], H, T⟩)
    (fun x => x.1 ≤ x.2 ∧ x.2 ≤ l.length ∧ (∀ j, j < x.1 → l.getD j 0 < t) ∧ (∀ j, x.2 ≤ j → j < l.length → t ≤ l.getD j 0)) (fun x => x.2 - x.1) (0, l.length) ?_ ?_ ?_
  · exact ⟨Nat.zero_le _, Nat.le_refl _, fun j hj => absurd hj (Nat.not_lt_zero _), fun j h1 h2 => absurd h2 (Nat.not_lt.2 h1)⟩
  · refine weak_to [] [] ?_ ?_ ?_ ?_ HO ?_
    all_goals simp
  · rintro ⟨lo, hi⟩ ⟨h1, h2, h3, h4⟩
    simp only at h1 h2 h3 h4
    refine aw_then fun K2 hK2 => ?_
    refine aw_reg fun K hK => ?_; simp (maxSteps := 200000) (disch := omega) [-List.getD_eq_getElem?_getD]; refine hK _ ?_; clear hK K
    refine aw_if rfl (fun hk => ?_) (fun hk => ?_)
    · simp [-List.getD_eq_getElem?_getD] at hk
      have hm : (lo + hi) / 2 < l.length := by omega
      have hmg := getD_ints (xs := l) (k := (lo + hi) / 2) hm
      refine aw_skip ?_; simp (maxSteps := 200000) (disch := omega) [-List.getD_eq_getElem?_getD]
      refine hK2 _ ?_; clear hK2
      refine aw_block ?_
      refine aw_reg fun K hK => ?_; simp (maxSteps := 200000) (disch := omega) [-List.getD_eq_getElem?_getD]; refine hK _ ?_; clear hK K
      rw [show ((lo : Int) + hi) / 2 = (((lo + hi) / 2 : Nat) : Int) by omega]
      have hge : lo ≤ (lo + hi) / 2 := by omega
      have hlt : (lo + hi) / 2 < hi := by omega
      generalize (lo + hi) / 2 = m at *
      by_cases hc : l.getD m 0 < t
      · have c := less_ok (l.getD m 0) t H T
        rw [decide_eq_true hc] at c
        refine aw_reg fun K hK => ?_; simp (maxSteps := 200000) (disch := omega) [-List.getD_eq_getElem?_getD, hmg]
        refine acall_is (c) ?_; simp (maxSteps := 200000) (disch := omega) [-List.getD_eq_getElem?_getD]
        refine hK _ ?_; clear hK K
        refine aw_if rfl (fun h => ?_) (fun h => absurd h (by simp))
        refine aw_reg0 fun K hK => ?_; simp (maxSteps := 200000) (disch := omega) [-List.getD_eq_getElem?_getD]
        refine hK _ ?_; clear hK K
        refine ⟨(m + 1, hi), ⟨by show m + 1 ≤ hi; omega, h2, fun j hj => ?_, h4⟩, by show hi - (m + 1) < hi - lo; omega, ?_⟩
        · rcases Nat.lt_or_ge j m with h5 | h5
          · have := asc_get hs h5 hm
            omega
          · have : j = m := by simp only at hj; omega
            subst this; exact hc
        · refine weak_to [] [] ?_ ?_ ?_ ?_ HO ?_
          all_goals simp
      · have c := less_ok (l.getD m 0) t H T
        rw [decide_eq_false hc] at c
        refine aw_reg fun K hK => ?_; simp (maxSteps := 200000) (disch := omega) [-List.getD_eq_getElem?_getD, hmg]
        refine acall_is (c) ?_; simp (maxSteps := 200000) (disch := omega) [-List.getD_eq_getElem?_getD]
        refine hK _ ?_; clear hK K
        refine aw_if rfl (fun h => absurd h (by simp)) (fun h => ?_)
        refine aw_reg0 fun K hK => ?_; simp (maxSteps := 200000) (disch := omega) [-List.getD_eq_getElem?_getD]
        refine hK _ ?_; clear hK K
        refine ⟨(lo, m), ⟨hge, by show m ≤ l.length; omega, h3, fun j hj hj2 => ?_⟩, by show m - lo < hi - lo; omega, ?_⟩
        · rcases Nat.lt_or_ge m j with h5 | h5
          · have := asc_get hs h5 hj2
            omega
          · have : j = m := by simp only at hj; omega
            subst this; omega
        · refine weak_to [] [] ?_ ?_ ?_ ?_ HO ?_
          all_goals simp
    · simp [-List.getD_eq_getElem?_getD] at hk
      have e : hi = lo := by omega
      subst e
      refine aw_exit ?_; simp (maxSteps := 200000) (disch := omega) [-List.getD_eq_getElem?_getD]
      refine hK1 _ ?_; clear hK1
      have cn := fun z => isNaN_ok z H T
      by_cases hn : hi < l.length
      · have hmg := getD_ints (xs := l) (k := hi) hn
        by_cases he : l.getD hi 0 = t
        · have hmem : t ∈ l := by rw [← he]; exact memD l hi 0 hn
          have b : (l.getD hi 0 == t) = true := by simpa using he
          refine aw_reg fun K hK => ?_; simp (maxSteps := 200000) (disch := omega) [-List.getD_eq_getElem?_getD, hmg, hn, b, he]; refine hK _ ?_; clear hK K
          refine aw_ret ?_; simp (maxSteps := 200000) (disch := omega) [-List.getD_eq_getElem?_getD]
          simp [hmem]
        · have hmem : ¬ t ∈ l := fun hm => by
            obtain ⟨j, hj, e⟩ := memD_inv 0 hm
            rcases Nat.lt_trichotomy j hi with h5 | h5 | h5
            · have := h3 j h5; omega
            · subst h5; exact he e
            · have := asc_get hs h5 hj
              have := h4 hi (Nat.le_refl _) hn
              omega
          have b : (l.getD hi 0 == t) = false := by simpa using he
          refine aw_reg fun K hK => ?_; simp (maxSteps := 200000) (disch := omega) [-List.getD_eq_getElem?_getD, hmg, hn, b, he]
          refine acall_is (cn _) ?_; simp (maxSteps := 200000) (disch := omega) [-List.getD_eq_getElem?_getD]
          refine hK _ ?_; clear hK K
          refine aw_ret ?_; simp (maxSteps := 200000) (disch := omega) [-List.getD_eq_getElem?_getD]
          simp [hmem]
      · have hmem : ¬ t ∈ l := fun hm => by
          obtain ⟨j, hj, e⟩ := memD_inv 0 hm
          have := h3 j (by omega)
          omega
        refine aw_reg fun K hK => ?_; simp (maxSteps := 200000) (disch := omega) [-List.getD_eq_getElem?_getD, hn]; refine hK _ ?_; clear hK K
        refine aw_ret ?_; simp (maxSteps := 200000) (disch := omega) [-List.getD_eq_getElem?_getD]
        simp [hmem]
end Go.Proofs.Ytlijaamjcpefoaa
