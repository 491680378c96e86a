/- Searching a dictionary, counts (layer 43).
   Conditions: lengths below 1000, as each theorem says. -/
import Derived.Test.YtbijefgmleagnaaSFn4
namespace Sug
theorem cmpS_zero (a b : Str) : cmpS a b = 0 ↔ a = b := by
  unfold cmpS
  split
  · rename_i h; simp [slt_ne h]
  · rename_i h; split
    · rename_i h2; simp [Ne.symm (slt_ne h2)]
    · rename_i h2; simp only [true_iff]; exact slt_total _ _ (by simpa using h) (by simpa using h2)
end Sug
namespace Go.Proofs.Ytbijefgmleagnaa
open Go Go.Am Sug Edit
set_option linter.unusedVariables false

def FindQ (l : List Ent) (w : Str) (H : List Blk) (T : Toks) : AV → List Blk → Toks → Prop := fun r H' T' => H' = H ∧ T' = T ∧ ∃ (i : Nat) (b : Bool), r = .tup [.int .i64 (i : Nat), .bool b] ∧ i ≤ l.length ∧
  (b = true → i < l.length ∧ (l.getD i ([], 0)).1 = w) ∧ (b = false → validE l = true → ∀ j, j < l.length → (l.getD j ([], 0)).1 ≠ w) ∧ (validE l = true → (∀ j, j < i → slt (l.getD j ([], 0)).1 w = true) ∧ ∀ j, i ≤ j → j < l.length → slt (l.getD j ([], 0)).1 w = false)

set_option maxRecDepth 100000 in
set_option maxHeartbeats 4000000 in
theorem bsearch_ok (l : List Ent) (w : Str) (hl : l.length ≤ 1000) (H : List Blk) (T : Toks) (tg : Tag) :
    ACall Try.prog 46 [.sl l.length (entAV l) tg, .str w, .fn 47 [] []] H T (FindQ l w H T) := by
  refine ACall.untag1 ?_
  refine acall_enter 12 [] Try.ntmps46 Try.func46 rfl (fun _ _ => Try.call46 _ _) (by simp) (fun HO => ?_)
  refine aw_reg fun K hK => ?_; simp (maxSteps := 1000000) (disch := omega) [-List.getD_eq_getElem?_getD]; refine hK _ ?_; clear hK K
  refine aw_reg fun K hK => ?_; simp (maxSteps := 1000000) (disch := omega) [-List.getD_eq_getElem?_getD]; refine hK _ ?_; clear hK K
  refine aw_reg fun K hK => ?_; simp (maxSteps := 1000000) (disch := omega) [-List.getD_eq_getElem?_getD]; refine hK _ ?_; clear hK K
  refine aw_then fun K1 hK1 => ?_
  refine aw_block ?_
  refine aw_loop (X := Nat × Nat) (fun x => ⟨[(0, .sl l.length (entAV l) .none), (1, .str w), (2, .fn 47 [] []), (8, .int .i64 (l.length : Nat)), (9, .int .i64 (x.1 : Nat)), (10, .int .i64 (x.2 : Nat))], H, T⟩)
    (fun x => x.1 ≤ x.2 ∧ x.2 ≤ l.length ∧ (validE l = true → (∀ j, j < x.1 → slt (l.getD j ([], 0)).1 w = true) ∧ (∀ j, x.2 ≤ j → j < l.length → slt (l.getD j ([], 0)).1 w = false))) (fun x => x.2 - x.1) (0, l.length) ?_ ?_ ?_
  · exact ⟨Nat.zero_le _, Nat.le_refl _, fun _ => ⟨fun j hj => absurd hj (Nat.not_lt_zero _), fun j h1 h2 => absurd h2 (Nat.not_lt.2 h1)⟩⟩
  · refine weak_to [] [] ?_ ?_ ?_ ?_ HO ?_
    all_goals simp
  · rintro ⟨lo, hi⟩ ⟨h1, h2, h3⟩
    simp only at h1 h2 h3
    refine aw_then fun K2 hK2 => ?_
    refine aw_reg fun K hK => ?_; simp (maxSteps := 1000000) (disch := omega) [-List.getD_eq_getElem?_getD]; refine hK _ ?_; clear hK K
    refine aw_if rfl (fun hk => ?_) (fun hk => ?_)
    · simp [-List.getD_eq_getElem?_getD] at hk
      have hm : (lo + hi) / 2 < l.length := by omega
      have hcut := entAV_cut l ((lo + hi) / 2) hm
      refine aw_skip ?_; simp (maxSteps := 1000000) (disch := omega) [-List.getD_eq_getElem?_getD]
      refine hK2 _ ?_; clear hK2
      refine aw_block ?_
      refine aw_reg fun K hK => ?_; simp (maxSteps := 1000000) (disch := omega) [-List.getD_eq_getElem?_getD]; refine hK _ ?_; clear hK K
      rw [show ((lo : Int) + hi) / 2 = (((lo + hi) / 2 : Nat) : Int) by omega]
      have hge : lo ≤ (lo + hi) / 2 := by omega
      have hlt : (lo + hi) / 2 < hi := by omega
      generalize (lo + hi) / 2 = m at *
      have c := find1_ok (l.getD m ([], 0)) w H T
      by_cases hc : slt (l.getD m ([], 0)).1 w = true
      · have hneg := (cmpS_neg (l.getD m ([], 0)).1 w).2 hc
        generalize cmpS (l.getD m ([], 0)).1 w = q at *
        have bq : decide (q < 0) = true := decide_eq_true hneg
        refine aw_reg fun K hK => ?_; simp (maxSteps := 1000000) (disch := omega) [-List.getD_eq_getElem?_getD, hcut, entAV_len]
        refine acall_is (c) ?_; simp (maxSteps := 1000000) (disch := omega) [-List.getD_eq_getElem?_getD, bq, hneg]
        refine hK _ ?_; clear hK K
        refine aw_if rfl (fun h => ?_) (fun h => absurd h (by simp))
        refine aw_reg0 fun K hK => ?_; simp (maxSteps := 1000000) (disch := omega) [-List.getD_eq_getElem?_getD]
        refine hK _ ?_; clear hK K
        refine ⟨(m + 1, hi), ⟨by show m + 1 ≤ hi; omega, h2, fun hv => ⟨fun j hj => ?_, (h3 hv).2⟩⟩, by show hi - (m + 1) < hi - lo; omega, ?_⟩
        · rcases Nat.lt_or_ge j m with h5 | h5
          · exact slt_trans _ _ _ (validE_lt hv h5 hm) hc
          · have : j = m := by omega
            subst this; exact hc
        · refine weak_to [] [] ?_ ?_ ?_ ?_ HO ?_
          all_goals simp
      · have hneg : ¬ cmpS (l.getD m ([], 0)).1 w < 0 := fun h => hc ((cmpS_neg _ _).1 h)
        generalize cmpS (l.getD m ([], 0)).1 w = q at *
        have bq : decide (q < 0) = false := decide_eq_false hneg
        refine aw_reg fun K hK => ?_; simp (maxSteps := 1000000) (disch := omega) [-List.getD_eq_getElem?_getD, hcut, entAV_len]
        refine acall_is (c) ?_; simp (maxSteps := 1000000) (disch := omega) [-List.getD_eq_getElem?_getD, bq, hneg]
        refine hK _ ?_; clear hK K
        refine aw_if rfl (fun h => absurd h (by simp)) (fun h => ?_)
        refine aw_reg0 fun K hK => ?_; simp (maxSteps := 1000000) (disch := omega) [-List.getD_eq_getElem?_getD]
        refine hK _ ?_; clear hK K
        refine ⟨(lo, m), ⟨hge, by show m ≤ l.length; omega, fun hv => ⟨(h3 hv).1, fun j hj hj2 => ?_⟩⟩, by show m - lo < hi - lo; omega, ?_⟩
        · rcases Nat.lt_or_ge m j with h5 | h5
          · cases hs : slt (l.getD j ([], 0)).1 w with
            | false => rfl
            | true => exact absurd (slt_trans _ _ _ (validE_lt hv h5 hj2) hs) hc
          · have : j = m := by omega
            subst this; simpa using hc
        · refine weak_to [] [] ?_ ?_ ?_ ?_ HO ?_
          all_goals simp
    · simp [-List.getD_eq_getElem?_getD] at hk
      have e : hi = lo := by omega
      subst e
      refine aw_exit ?_; simp (maxSteps := 1000000) (disch := omega) [-List.getD_eq_getElem?_getD]
      refine hK1 _ ?_; clear hK1
      by_cases hn : hi < l.length
      · have hcut := entAV_cut l hi hn
        have c := find1_ok (l.getD hi ([], 0)) w H T
        by_cases he : (l.getD hi ([], 0)).1 = w
        · rw [(cmpS_zero _ _).2 he] at c
          refine aw_reg fun K hK => ?_; simp (maxSteps := 1000000) (disch := omega) [-List.getD_eq_getElem?_getD, hcut, entAV_len, hn]
          refine acall_is (c) ?_; simp (maxSteps := 1000000) (disch := omega) [-List.getD_eq_getElem?_getD]
          refine hK _ ?_; clear hK K
          refine aw_ret ?_; simp (maxSteps := 1000000) (disch := omega) [-List.getD_eq_getElem?_getD]
          exact ⟨rfl, rfl, hi, true, rfl, by omega, fun _ => ⟨hn, he⟩, fun h => (by cases h), h3⟩
        · have hz : ¬ cmpS (l.getD hi ([], 0)).1 w = 0 := fun h => he ((cmpS_zero _ _).1 h)
          generalize cmpS (l.getD hi ([], 0)).1 w = q at *
          have bq : (q == 0) = false := by simpa using hz
          refine aw_reg fun K hK => ?_; simp (maxSteps := 1000000) (disch := omega) [-List.getD_eq_getElem?_getD, hcut, entAV_len, hn]
          refine acall_is (c) ?_; simp (maxSteps := 1000000) (disch := omega) [-List.getD_eq_getElem?_getD, bq, hz]
          refine hK _ ?_; clear hK K
          refine aw_ret ?_; simp (maxSteps := 1000000) (disch := omega) [-List.getD_eq_getElem?_getD]
          refine ⟨rfl, rfl, hi, false, rfl, by omega, fun h => (by cases h), fun _ hv j hj hje => ?_, h3⟩
          rcases Nat.lt_trichotomy j hi with h5 | h5 | h5
          · exact slt_ne ((h3 hv).1 j h5) hje
          · subst h5; exact he hje
          · have h6 := (h3 hv).2 hi (Nat.le_refl _) hn
            have h7 := validE_lt hv h5 hj
            rw [hje, h6] at h7
            cases h7
      · have bn : decide ((hi : Int) < l.length) = false := by simp; omega
        refine aw_reg fun K hK => ?_; simp (maxSteps := 1000000) (disch := omega) [-List.getD_eq_getElem?_getD, bn, hn]; refine hK _ ?_; clear hK K
        refine aw_ret ?_; simp (maxSteps := 1000000) (disch := omega) [-List.getD_eq_getElem?_getD]
        refine ⟨rfl, rfl, hi, false, rfl, by omega, fun h => (by cases h), fun _ hv j hj hje => ?_, h3⟩
        exact slt_ne ((h3 hv).1 j (by omega)) hje

theorem find_ok (l : List Ent) (w : Str) (hl : l.length ≤ 1000) (H : List Blk) (T : Toks) (tg : Tag) :
    ACall Try.prog 32 [.sl l.length (entAV l) tg, .str w] H T (FindQ l w H T) := by
  refine ACall.untag1 ?_
  have c := bsearch_ok l w hl H T .none
  refine acall_enter 8 [] Try.ntmps32 Try.func32 rfl (fun _ _ => Try.call32 _ _) (by simp) (fun HO => ?_)
  refine aw_reg fun K hK => ?_; simp (maxSteps := 1000000) (disch := omega) [-List.getD_eq_getElem?_getD]; refine hK _ ?_; clear hK K
  refine aw_reg fun K hK => ?_; simp (maxSteps := 1000000) (disch := omega) [-List.getD_eq_getElem?_getD]
  refine ⟨_, c, ?_⟩
  rintro v H' T' ⟨rfl, rfl, i, b, rfl, hq⟩
  simp (maxSteps := 1000000) (disch := omega) [-List.getD_eq_getElem?_getD]
  refine hK _ ?_; clear hK K
  refine aw_ret ?_; simp (maxSteps := 1000000) (disch := omega) [-List.getD_eq_getElem?_getD]
  exact ⟨rfl, rfl, i, b, rfl, hq⟩

theorem count_ok (l : List Ent) (w : Str) (hl : l.length ≤ 1000) (hp : ∀ p ∈ l, p.1.length ≤ 1000) (H : List Blk) (T : Toks) (tg : Tag) :
    ACall Try.prog 15 [.sl l.length (entAV l) tg, .str w] H T (Is (.int .i64 (countE l w)) H T) := by
  refine ACall.untag1 ?_
  have c := find_ok l w hl H T .none
  have c2 := validP_ok l hl hp H T .none
  generalize hq : countE l w = q
  refine acall_enter 8 [] Try.ntmps15 Try.func15 rfl (fun _ _ => Try.call15 _ _) (by simp) (fun HO => ?_)
  refine aw_reg fun K hK => ?_; simp (maxSteps := 1000000) (disch := omega) [-List.getD_eq_getElem?_getD]; refine hK _ ?_; clear hK K
  refine aw_reg fun K hK => ?_; simp (maxSteps := 1000000) (disch := omega) [-List.getD_eq_getElem?_getD]
  refine ⟨_, c, ?_⟩
  rintro v H' T' ⟨rfl, rfl, i, b, rfl, h0, h1, h2, _⟩
  simp (maxSteps := 1000000) (disch := omega) [-List.getD_eq_getElem?_getD]
  refine hK _ ?_; clear hK K
  refine aw_then fun K1 hK1 => ?_
  cases b with
  | false =>
    refine aw_reg fun K hK => ?_; simp (maxSteps := 1000000) (disch := omega) [-List.getD_eq_getElem?_getD]; refine hK _ ?_; clear hK K
    refine aw_if rfl (fun h => ?_) (fun h => absurd h (by simp))
    refine aw_reg fun K hK => ?_; simp (maxSteps := 1000000) (disch := omega) [-List.getD_eq_getElem?_getD]; refine hK _ ?_; clear hK K
    refine aw_ret ?_; simp (maxSteps := 1000000) (disch := omega) [-List.getD_eq_getElem?_getD]
    have : countE l w = 0 := by
      unfold countE
      split
      · rename_i hv; exact look_none (h2 rfl hv)
      · rfl
    rw [← hq, this]
    exact ⟨rfl, rfl, rfl⟩
  | true =>
    obtain ⟨hi, he⟩ := h1 rfl
    cases hv : validE l with
    | false =>
      rw [hv] at c2
      refine aw_reg fun K hK => ?_; simp (maxSteps := 1000000) (disch := omega) [-List.getD_eq_getElem?_getD]
      refine acall_is (c2) ?_; simp (maxSteps := 1000000) (disch := omega) [-List.getD_eq_getElem?_getD]
      refine hK _ ?_; clear hK K
      refine aw_if rfl (fun h => ?_) (fun h => absurd h (by simp))
      refine aw_reg fun K hK => ?_; simp (maxSteps := 1000000) (disch := omega) [-List.getD_eq_getElem?_getD]; refine hK _ ?_; clear hK K
      refine aw_ret ?_; simp (maxSteps := 1000000) (disch := omega) [-List.getD_eq_getElem?_getD]
      rw [← hq, countE, hv]
      exact ⟨rfl, rfl, rfl⟩
    | true =>
      rw [hv] at c2
      have hat := (entAV_at l i hi).2
      refine aw_reg fun K hK => ?_; simp (maxSteps := 1000000) (disch := omega) [-List.getD_eq_getElem?_getD]
      refine acall_is (c2) ?_; simp (maxSteps := 1000000) (disch := omega) [-List.getD_eq_getElem?_getD]
      refine hK _ ?_; clear hK K
      refine aw_if rfl (fun h => absurd h (by simp)) (fun h => ?_)
      refine aw_skip ?_; simp (maxSteps := 1000000) (disch := omega) [-List.getD_eq_getElem?_getD]
      refine hK1 _ ?_; clear hK1
      refine aw_reg fun K hK => ?_; simp (maxSteps := 1000000) (disch := omega) [-List.getD_eq_getElem?_getD, hat, entAV_len]; refine hK _ ?_; clear hK K
      refine aw_ret ?_; simp (maxSteps := 1000000) (disch := omega) [-List.getD_eq_getElem?_getD]
      have : countE l w = (l.getD i ([], 0)).2 := by
        rw [countE, if_pos hv, ← he, look_at hi (fun j hj => slt_ne (validE_lt hv hj hi))]
      rw [← hq, this]
      exact ⟨rfl, rfl, rfl⟩

theorem countR_ok (l : List Ent) (w : Str) (hl : l.length ≤ 1000) (hp : ∀ p ∈ l, p.1.length ≤ 1000) (H : List Blk) (T : Toks) (tg : Tag) :
    ACall Try.prog 16 [.sl l.length (entAV l) tg, .str w] H T (Is (.int .i64 (countE l w)) H T) := by
  refine ACall.untag1 ?_
  have c2 := validR_ok l hl hp H T .none
  generalize hq : countE l w = q
  refine acall_enter 6 [] Try.ntmps16 Try.func16 rfl (fun _ _ => Try.call16 _ _) (by simp) (fun HO => ?_)
  refine aw_reg fun K hK => ?_; simp (maxSteps := 1000000) (disch := omega) [-List.getD_eq_getElem?_getD]; refine hK _ ?_; clear hK K
  refine aw_then fun K1 hK1 => ?_
  cases hv : validE l with
  | false =>
    rw [hv] at c2
    refine aw_reg fun K hK => ?_; simp (maxSteps := 1000000) (disch := omega) [-List.getD_eq_getElem?_getD]
    refine acall_is (c2) ?_; simp (maxSteps := 1000000) (disch := omega) [-List.getD_eq_getElem?_getD]
    refine hK _ ?_; clear hK K
    refine aw_if rfl (fun h => ?_) (fun h => absurd h (by simp))
    refine aw_reg fun K hK => ?_; simp (maxSteps := 1000000) (disch := omega) [-List.getD_eq_getElem?_getD]; refine hK _ ?_; clear hK K
    refine aw_ret ?_; simp (maxSteps := 1000000) (disch := omega) [-List.getD_eq_getElem?_getD]
    rw [← hq, countE, hv]
    exact ⟨rfl, rfl, rfl⟩
  | true =>
    rw [hv] at c2
    refine aw_reg fun K hK => ?_; simp (maxSteps := 1000000) (disch := omega) [-List.getD_eq_getElem?_getD]
    refine acall_is (c2) ?_; simp (maxSteps := 1000000) (disch := omega) [-List.getD_eq_getElem?_getD]
    refine hK _ ?_; clear hK K
    refine aw_if rfl (fun h => absurd h (by simp)) (fun h => ?_)
    refine aw_skip ?_; simp (maxSteps := 1000000) (disch := omega) [-List.getD_eq_getElem?_getD]
    refine hK1 _ ?_; clear hK1
    refine aw_then fun K1 hK1 => ?_
    refine aw_reg fun K hK => ?_; simp (maxSteps := 1000000) (disch := omega) [-List.getD_eq_getElem?_getD]; refine hK _ ?_; clear hK K
    refine aw_block ?_
    refine aw_loop (X := Nat) (fun k => ⟨[(0, .sl l.length (entAV l) .none), (1, .str w), (5, .int .i64 (k : Nat))], H, T⟩) (fun k => k ≤ l.length ∧ ∀ j, j < k → (l.getD j ([], 0)).1 ≠ w) (fun k => l.length - k) 0 ?_ ?_ ?_
    · exact ⟨Nat.zero_le _, fun j hj => absurd hj (Nat.not_lt_zero _)⟩
    · refine weak_to [] [] ?_ ?_ ?_ ?_ HO ?_
      all_goals simp
    · rintro k ⟨h1, h2⟩
      refine aw_then fun K2 hK2 => ?_
      refine aw_reg fun K hK => ?_; simp (maxSteps := 1000000) (disch := omega) [-List.getD_eq_getElem?_getD]; refine hK _ ?_; clear hK K
      refine aw_if rfl (fun hk => ?_) (fun hk => ?_)
      · simp [-List.getD_eq_getElem?_getD] at hk
        have hat1 := (entAV_at l k hk).1
        have hat2 := (entAV_at l k hk).2
        refine aw_skip ?_; simp (maxSteps := 1000000) (disch := omega) [-List.getD_eq_getElem?_getD]
        refine hK2 _ ?_; clear hK2
        refine aw_then fun K3 hK3 => ?_
        refine aw_block ?_
        by_cases hc : (l.getD k ([], 0)).1 = w
        · have b : ((l.getD k ([], 0)).1 == w) = true := by simpa [-List.getD_eq_getElem?_getD] using hc
          refine aw_reg fun K hK => ?_; simp (maxSteps := 1000000) (disch := omega) [-List.getD_eq_getElem?_getD, hat1, entAV_len, b, hc]; refine hK _ ?_; clear hK K
          refine aw_if rfl (fun h => ?_) (fun h => absurd h (by simp))
          refine aw_reg fun K hK => ?_; simp (maxSteps := 1000000) (disch := omega) [-List.getD_eq_getElem?_getD, hat2, entAV_len]; refine hK _ ?_; clear hK K
          refine aw_ret ?_; simp (maxSteps := 1000000) (disch := omega) [-List.getD_eq_getElem?_getD]
          have : countE l w = (l.getD k ([], 0)).2 := by
            rw [countE, if_pos hv, ← hc, look_at hk (fun j hj => by rw [hc]; exact h2 j hj)]
          rw [← hq, this]
          exact ⟨rfl, rfl, rfl⟩
        · have b : ((l.getD k ([], 0)).1 == w) = false := by simpa [-List.getD_eq_getElem?_getD] using hc
          refine aw_reg fun K hK => ?_; simp (maxSteps := 1000000) (disch := omega) [-List.getD_eq_getElem?_getD, hat1, entAV_len, b, hc]; refine hK _ ?_; clear hK K
          refine aw_if rfl (fun h => absurd h (by simp)) (fun h => ?_)
          refine aw_skip ?_; simp (maxSteps := 1000000) (disch := omega) [-List.getD_eq_getElem?_getD]
          refine hK3 _ ?_; clear hK3
          refine aw_reg0 fun K hK => ?_; simp (maxSteps := 1000000) (disch := omega) [-List.getD_eq_getElem?_getD]
          refine hK _ ?_; clear hK K
          refine ⟨k + 1, ⟨by show k + 1 ≤ _; omega, fun j hj => ?_⟩, by show l.length - (k + 1) < l.length - k; omega, ?_⟩
          · rcases Nat.lt_or_ge j k with h3 | h3
            · exact h2 j h3
            · have : j = k := by omega
              subst this; exact hc
          · refine weak_to [] [] ?_ ?_ ?_ ?_ HO ?_
            all_goals simp
      · simp [-List.getD_eq_getElem?_getD] at hk
        refine aw_exit ?_; simp (maxSteps := 1000000) (disch := omega) [-List.getD_eq_getElem?_getD]
        refine hK1 _ ?_; clear hK1
        refine aw_reg fun K hK => ?_; simp (maxSteps := 1000000) (disch := omega) [-List.getD_eq_getElem?_getD]; refine hK _ ?_; clear hK K
        refine aw_ret ?_; simp (maxSteps := 1000000) (disch := omega) [-List.getD_eq_getElem?_getD]
        rw [← hq, countE, if_pos hv, look_none (fun j hj => h2 j (by omega))]
        exact ⟨rfl, rfl, rfl⟩
end Go.Proofs.Ytbijefgmleagnaa
