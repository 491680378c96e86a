/- Valid, Count and Few of the reference of layer 38, and Count of the program.
   Conditions: lengths below 1000, but for Few. -/
import Derived.Test.YtlijaamjcpefoaaPFn13
namespace Go.Proofs.Ytlijaamjcpefoaa
open Go Go.Am Post
set_option linter.unusedVariables false

theorem memD {α : Type} (l : List α) (k : Nat) (d : α) (h : k < l.length) : l.getD k d ∈ l := by
  rw [List.getD_eq_getElem?_getD, List.getElem?_eq_getElem h]
  exact List.getElem_mem h
theorem memD_inv {α : Type} {l : List α} {x : α} (d : α) (h : x ∈ l) : ∃ k, k < l.length ∧ l.getD k d = x := by
  obtain ⟨j, hj, e⟩ := List.mem_iff_getElem.1 h
  refine ⟨j, hj, ?_⟩
  rw [List.getD_eq_getElem?_getD, List.getElem?_eq_getElem hj]
  exact e
theorem take_succD {α : Type} (l : List α) (k : Nat) (d : α) (h : k < l.length) : l.take (k + 1) = l.take k ++ [l.getD k d] := by
  rw [List.take_succ_eq_append_getElem h]
  simp [h]

theorem validL_bad {l : List (Int × List Int)} {k : Nat} (hk : k < l.length) (h : badP (l.getD k (0, [])) = true) : validL l = false := by
  have : l.any badP = true := List.any_eq_true.2 ⟨_, memD l k _ hk, h⟩
  simp [validL, this]
theorem validL_good {l : List (Int × List Int)} (h : ∀ j, j < l.length → badP (l.getD j (0, [])) = false) : validL l = asc (docs l) 1 1000000000 := by
  have : l.any badP = false := by
    rw [List.any_eq_false]
    intro p hp
    obtain ⟨j, hj, e⟩ := memD_inv (0, []) hp
    rw [← e, h j hj]
    simp
  simp [validL, this]

theorem validR_ok (l : List (Int × List Int)) (hl : l.length ≤ 1000) (hp : ∀ p ∈ l, p.2.length ≤ maxLen) (H : List Blk) (T : Toks) (tg : Tag) :
    ACall Try.prog 31 [.sl l.length (psAV l) tg] H T (Is (.bool (validL l)) H T) := by
  refine ACall.untag1 ?_
  have hdl : (docs l).length = l.length := by simp [docs]
  have c1 := docsR_ok l hl H T .none
  have c2 := validDocsR_ok (docs l) (by rw [hdl]; exact Nat.le_trans hl (by decide)) H T .none
  rw [hdl] at c2
  generalize hq : validL l = q
  refine acall_enter 6 [] Try.ntmps31 Try.func31 rfl (fun _ _ => Try.call31 _ _) (by simp) (fun HO => ?_)
  refine aw_reg fun K hK => ?_; simp (maxSteps := 200000) (disch := omega) [-List.getD_eq_getElem?_getD]; refine hK _ ?_; clear hK K
  refine aw_then fun K1 hK1 => ?_
  refine aw_reg fun K hK => ?_; simp (maxSteps := 200000) (disch := omega) [-List.getD_eq_getElem?_getD]; refine hK _ ?_; clear hK K
  refine aw_block ?_
  refine aw_loop (X := Nat) (fun k => ⟨[(0, .sl l.length (psAV l) .none), (3, .int .i64 (k : Nat))], H, T⟩) (fun k => k ≤ l.length ∧ ∀ j, j < k → badP (l.getD j (0, [])) = false) (fun k => l.length - k) 0 ?_ ?_ ?_
  · exact ⟨Nat.zero_le _, fun j hj => absurd hj (Nat.not_lt_zero _)⟩
  · refine weak_to [] [] ?_ ?_ ?_ ?_ HO ?_
    all_goals simp
  · rintro k ⟨h1, h2⟩
    refine aw_then fun K2 hK2 => ?_
    refine aw_reg fun K hK => ?_; simp (maxSteps := 200000) (disch := omega) [-List.getD_eq_getElem?_getD]; refine hK _ ?_; clear hK K
    refine aw_if rfl (fun hk => ?_) (fun hk => ?_)
    · simp [-List.getD_eq_getElem?_getD] at hk
      have hat := (psAV_at l k hk).2
      have c := ascR_ok (l.getD k (0, [])).2 0 1000000 (hp _ (memD l k _ hk)) H T .none
      have hb1 : badP (l.getD k (0, [])) = true → q = false := fun h => by rw [← hq]; exact validL_bad hk h
      have hb2 : badP (l.getD k (0, [])) = false → ∀ j, j < k + 1 → badP (l.getD j (0, [])) = false := fun h j hj => by
        rcases Nat.lt_or_ge j k with h3 | h3
        · exact h2 j h3
        · have : j = k := by omega
          subst this; exact h
      generalize l.getD k (0, []) = p at hat c hb1 hb2
      refine aw_skip ?_; simp (maxSteps := 200000) (disch := omega) [-List.getD_eq_getElem?_getD]
      refine hK2 _ ?_; clear hK2
      refine aw_then fun K3 hK3 => ?_
      refine aw_block ?_
      by_cases h0 : p.2 = []
      · have b : ((p.2.length : Int) == 0) = true := by rw [h0]; rfl
        refine aw_reg fun K hK => ?_; simp (maxSteps := 200000) (disch := omega) [-List.getD_eq_getElem?_getD, hat, psAV_len, b, h0]; refine hK _ ?_; clear hK K
        refine aw_if rfl (fun h => ?_) (fun h => absurd h (by simp))
        refine aw_reg fun K hK => ?_; simp (maxSteps := 200000) (disch := omega) [-List.getD_eq_getElem?_getD]; refine hK _ ?_; clear hK K
        refine aw_ret ?_; simp (maxSteps := 200000) (disch := omega) [-List.getD_eq_getElem?_getD]
        rw [hb1 (by simp [badP, h0])]
        exact ⟨rfl, rfl, rfl⟩
      · have b : ((p.2.length : Int) == 0) = false := by rw [beq_eq_false_iff_ne]; intro e; exact h0 (List.eq_nil_of_length_eq_zero (by omega))
        cases ha : asc p.2 0 1000000
        · rw [ha] at c
          refine aw_reg fun K hK => ?_; simp (maxSteps := 200000) (disch := omega) [-List.getD_eq_getElem?_getD, hat, psAV_len, b, h0]
          refine acall_is (c) ?_; simp (maxSteps := 200000) (disch := omega) [-List.getD_eq_getElem?_getD]
          refine hK _ ?_; clear hK K
          refine aw_if rfl (fun h => ?_) (fun h => absurd h (by simp))
          refine aw_reg fun K hK => ?_; simp (maxSteps := 200000) (disch := omega) [-List.getD_eq_getElem?_getD]; refine hK _ ?_; clear hK K
          refine aw_ret ?_; simp (maxSteps := 200000) (disch := omega) [-List.getD_eq_getElem?_getD]
          rw [hb1 (by simp [badP, ha])]
          exact ⟨rfl, rfl, rfl⟩
        · rw [ha] at c
          refine aw_reg fun K hK => ?_; simp (maxSteps := 200000) (disch := omega) [-List.getD_eq_getElem?_getD, hat, psAV_len, b, h0]
          refine acall_is (c) ?_; simp (maxSteps := 200000) (disch := omega) [-List.getD_eq_getElem?_getD]
          refine hK _ ?_; clear hK K
          refine aw_if rfl (fun h => absurd h (by simp)) (fun h => ?_)
          refine aw_skip ?_; simp (maxSteps := 200000) (disch := omega) [-List.getD_eq_getElem?_getD]
          refine hK3 _ ?_; clear hK3
          refine aw_reg0 fun K hK => ?_; simp (maxSteps := 200000) (disch := omega) [-List.getD_eq_getElem?_getD]
          refine hK _ ?_; clear hK K
          refine ⟨k + 1, ⟨by show k + 1 ≤ _; omega, hb2 (by simp [badP, ha, h0])⟩, by show l.length - (k + 1) < l.length - k; omega, ?_⟩
          refine weak_to [] [] ?_ ?_ ?_ ?_ HO ?_
          all_goals simp
    · simp [-List.getD_eq_getElem?_getD] at hk
      have hn := validL_good (l := l) (fun j hj => h2 j (by omega))
      rw [← hn, hq] at c2
      refine aw_exit ?_; simp (maxSteps := 200000) (disch := omega) [-List.getD_eq_getElem?_getD]
      refine hK1 _ ?_; clear hK1
      refine aw_reg fun K hK => ?_; simp (maxSteps := 200000) (disch := omega) [-List.getD_eq_getElem?_getD]
      refine acall_is (c1) ?_; simp (maxSteps := 200000) (disch := omega) [-List.getD_eq_getElem?_getD]
      refine acall_is (c2) ?_; simp (maxSteps := 200000) (disch := omega) [-List.getD_eq_getElem?_getD]
      refine hK _ ?_; clear hK K
      refine aw_ret ?_; simp (maxSteps := 200000) (disch := omega) [-List.getD_eq_getElem?_getD]
      exact ⟨rfl, rfl, rfl⟩

theorem few_ok (l : List (Int × List Int)) (hl : l.length ≤ maxLen) (hp : ∀ p ∈ l, p.2.length ≤ maxLen) (H : List Blk) (T : Toks) (tg : Tag) :
    ACall Try.prog 12 [.sl l.length (psAV l) tg] H T (Is (.bool (decide (l.length ≤ 30 ∧ ∀ p ∈ l, p.2.length ≤ 30))) H T) := by
  refine ACall.untag1 ?_
  have hml : maxLen ≤ 9223372036854775807 := by decide
  have hl' := Nat.le_trans hl hml
  generalize hq : decide (l.length ≤ 30 ∧ ∀ p ∈ l, p.2.length ≤ 30) = q
  refine acall_enter 6 [] Try.ntmps12 Try.func12 rfl (fun _ _ => Try.call12 _ _) (by simp) (fun HO => ?_)
  refine aw_reg fun K hK => ?_; simp (maxSteps := 200000) (disch := omega) [-List.getD_eq_getElem?_getD]; refine hK _ ?_; clear hK K
  refine aw_then fun K1 hK1 => ?_
  refine aw_reg fun K hK => ?_; simp (maxSteps := 200000) (disch := omega) [-List.getD_eq_getElem?_getD]; refine hK _ ?_; clear hK K
  refine aw_block ?_
  refine aw_loop (X := Nat) (fun k => ⟨[(0, .sl l.length (psAV l) .none), (3, .int .i64 (k : Nat))], H, T⟩) (fun k => k ≤ l.length ∧ ∀ j, j < k → (l.getD j (0, [])).2.length ≤ 30) (fun k => l.length - k) 0 ?_ ?_ ?_
  · exact ⟨Nat.zero_le _, fun j hj => absurd hj (Nat.not_lt_zero _)⟩
  · refine weak_to [] [] ?_ ?_ ?_ ?_ HO ?_
    all_goals simp
  · rintro k ⟨h1, h2⟩
    refine aw_then fun K2 hK2 => ?_
    refine aw_reg fun K hK => ?_; simp (maxSteps := 200000) (disch := omega) [-List.getD_eq_getElem?_getD]; refine hK _ ?_; clear hK K
    refine aw_if rfl (fun hk => ?_) (fun hk => ?_)
    · simp [-List.getD_eq_getElem?_getD] at hk
      have hat := (psAV_at l k hk).2
      have hpk := Nat.le_trans (hp _ (memD l k (0, []) hk)) hml
      have hb1 : ¬ (l.getD k (0, [])).2.length ≤ 30 → q = false := fun h => by rw [← hq]; exact decide_eq_false (fun hh => h (hh.2 _ (memD l k _ hk)))
      have hb2 : (l.getD k (0, [])).2.length ≤ 30 → ∀ j, j < k + 1 → (l.getD j (0, [])).2.length ≤ 30 := fun h j hj => by
        rcases Nat.lt_or_ge j k with h3 | h3
        · exact h2 j h3
        · have : j = k := by omega
          subst this; exact h
      generalize l.getD k (0, []) = p at hat hb1 hb2 hpk
      refine aw_skip ?_; simp (maxSteps := 200000) (disch := omega) [-List.getD_eq_getElem?_getD]
      refine hK2 _ ?_; clear hK2
      refine aw_then fun K3 hK3 => ?_
      refine aw_block ?_
      by_cases h0 : p.2.length ≤ 30
      · have b : decide ((30 : Int) < (p.2.length : Int)) = false := by simp; omega
        have b2 : ¬ 30 < p.2.length := by omega
        refine aw_reg fun K hK => ?_; simp (maxSteps := 200000) (disch := omega) [-List.getD_eq_getElem?_getD, hat, psAV_len, b, b2]; refine hK _ ?_; clear hK K
        refine aw_if rfl (fun h => absurd h (by simp)) (fun h => ?_)
        refine aw_skip ?_; simp (maxSteps := 200000) (disch := omega) [-List.getD_eq_getElem?_getD]
        refine hK3 _ ?_; clear hK3
        refine aw_reg0 fun K hK => ?_; simp (maxSteps := 200000) (disch := omega) [-List.getD_eq_getElem?_getD]
        refine hK _ ?_; clear hK K
        refine ⟨k + 1, ⟨by show k + 1 ≤ _; omega, hb2 h0⟩, by show l.length - (k + 1) < l.length - k; omega, ?_⟩
        refine weak_to [] [] ?_ ?_ ?_ ?_ HO ?_
        all_goals simp
      · have b : decide ((30 : Int) < (p.2.length : Int)) = true := by simp; omega
        have b2 : 30 < p.2.length := by omega
        refine aw_reg fun K hK => ?_; simp (maxSteps := 200000) (disch := omega) [-List.getD_eq_getElem?_getD, hat, psAV_len, b, b2]; refine hK _ ?_; clear hK K
        refine aw_if rfl (fun h => ?_) (fun h => absurd h (by simp))
        refine aw_reg fun K hK => ?_; simp (maxSteps := 200000) (disch := omega) [-List.getD_eq_getElem?_getD]; refine hK _ ?_; clear hK K
        refine aw_ret ?_; simp (maxSteps := 200000) (disch := omega) [-List.getD_eq_getElem?_getD]
        rw [hb1 h0]
        exact ⟨rfl, rfl, rfl⟩
    · simp [-List.getD_eq_getElem?_getD] at hk
      have hall : ∀ p ∈ l, p.2.length ≤ 30 := fun p hp => by
        obtain ⟨j, hj, e⟩ := memD_inv (0, []) hp
        rw [← e]; exact h2 j (by omega)
      have hb : decide ((l.length : Int) ≤ 30) = q := by
        rw [← hq]
        apply decide_eq_decide.2
        constructor
        · intro h; exact ⟨by omega, hall⟩
        · intro h; omega
      refine aw_exit ?_; simp (maxSteps := 200000) (disch := omega) [-List.getD_eq_getElem?_getD]
      refine hK1 _ ?_; clear hK1
      refine aw_reg fun K hK => ?_; simp (maxSteps := 200000) (disch := omega) [-List.getD_eq_getElem?_getD]; refine hK _ ?_; clear hK K
      refine aw_ret ?_; simp (maxSteps := 200000) (disch := omega) [-List.getD_eq_getElem?_getD]
      rw [← hb]
      refine ⟨?_, rfl, rfl⟩
      simp

def cnt (l : List (Int × List Int)) : Nat := (l.map (fun p => p.2.length)).sum
def countL (l : List (Int × List Int)) : Nat := if validL l = true then cnt l else 0
theorem cnt_take (l : List (Int × List Int)) (k : Nat) (h : k < l.length) : cnt (l.take (k + 1)) = cnt (l.take k) + (l.getD k (0, [])).2.length := by
  rw [take_succD l k (0, []) h]
  simp [cnt]
theorem cnt_le (l : List (Int × List Int)) (m : Nat) (hp : ∀ p ∈ l, p.2.length ≤ m) : cnt l ≤ l.length * m := by
  induction l with
  | nil => simp [cnt]
  | cons p l ih =>
    have h1 := hp p (by simp)
    have h2 := ih (fun q hq => hp q (by simp [hq]))
    simp only [cnt, List.map_cons, List.sum_cons, List.length_cons, Nat.succ_mul] at h2 ⊢
    omega

theorem count_ok (l : List (Int × List Int)) (hl : l.length ≤ 1000) (hp : ∀ p ∈ l, p.2.length ≤ 1000) (H : List Blk) (T : Toks) (tg : Tag) :
    ACall Try.prog 38 [.sl l.length (psAV l) tg] H T (Is (.int .i64 (countL l : Nat)) H T) := by
  refine ACall.untag1 ?_
  refine ACall.drop' ?_ (by simp)
  have hml : 1000 ≤ maxLen := by decide
  have c1 := valid_ok l hl (fun p h => Nat.le_trans (hp p h) hml) H T .none
  refine acall_enter 13 [] Try.ntmps38 Try.func38 rfl (fun _ _ => Try.call38 _ _) (by simp) (fun HO => ?_)
  refine aw_reg fun K hK => ?_; simp (maxSteps := 200000) (disch := omega) [-List.getD_eq_getElem?_getD]; refine hK _ ?_; clear hK K
  refine aw_reg fun K hK => ?_; simp (maxSteps := 200000) (disch := omega) [-List.getD_eq_getElem?_getD]; refine hK _ ?_; clear hK K
  refine aw_then fun K1 hK1 => ?_
  cases hv : validL l with
  | false =>
    rw [hv] at c1
    refine aw_reg fun K hK => ?_; simp (maxSteps := 200000) (disch := omega) [-List.getD_eq_getElem?_getD]
    refine acall_is (c1) ?_; simp (maxSteps := 200000) (disch := omega) [-List.getD_eq_getElem?_getD]
    refine hK _ ?_; clear hK K
    refine aw_if rfl (fun h => ?_) (fun h => absurd h (by simp))
    refine aw_reg fun K hK => ?_; simp (maxSteps := 200000) (disch := omega) [-List.getD_eq_getElem?_getD]; refine hK _ ?_; clear hK K
    refine aw_ret ?_; simp (maxSteps := 200000) (disch := omega) [-List.getD_eq_getElem?_getD]
    simp [countL, hv]
  | true =>
    rw [hv] at c1
    refine aw_reg fun K hK => ?_; simp (maxSteps := 200000) (disch := omega) [-List.getD_eq_getElem?_getD]
    refine acall_is (c1) ?_; simp (maxSteps := 200000) (disch := omega) [-List.getD_eq_getElem?_getD]
    refine hK _ ?_; clear hK K
    refine aw_if rfl (fun h => absurd h (by simp)) (fun h => ?_)
    refine aw_skip ?_; simp (maxSteps := 200000) (disch := omega) [-List.getD_eq_getElem?_getD]
    refine hK1 _ ?_; clear hK1
    refine aw_then fun K1 hK1 => ?_
    refine aw_reg fun K hK => ?_; simp (maxSteps := 200000) (disch := omega) [-List.getD_eq_getElem?_getD]; refine hK _ ?_; clear hK K
    refine aw_block ?_
    refine aw_loop (X := Nat) (fun k => ⟨[(3, .int .i64 (cnt (l.take k) : Nat)), (10, .sl l.length (psAV l) .none), (11, .int .i64 (l.length : Nat)), (12, .int .i64 (k : Nat))], H, T⟩) (fun k => k ≤ l.length) (fun k => l.length - k) 0 ?_ ?_ ?_
    · exact Nat.zero_le _
    · refine weak_to [] [] ?_ ?_ ?_ ?_ HO ?_
      all_goals simp [cnt]
    · intro k hk
      refine aw_reg fun K hK => ?_; simp (maxSteps := 200000) (disch := omega) [-List.getD_eq_getElem?_getD]; refine hK _ ?_; clear hK K
      refine aw_then fun K2 hK2 => ?_
      refine aw_if rfl (fun hk2 => ?_) (fun hk2 => ?_)
      · simp [-List.getD_eq_getElem?_getD] at hk2
        have hcut := psAV_cut l k hk2
        have htk := cnt_take l k hk2
        have hle := cnt_le (l.take k) 1000 (fun p h => hp p (List.mem_of_mem_take h))
        have hpk := hp _ (memD l k (0, []) hk2)
        rw [List.length_take] at hle
        generalize l.getD k (0, []) = p at *
        refine aw_skip ?_; simp (maxSteps := 200000) (disch := omega) [-List.getD_eq_getElem?_getD]
        refine hK2 _ ?_; clear hK2
        refine aw_then fun K3 hK3 => ?_
        refine aw_block ?_
        refine aw_reg fun K hK => ?_; simp (maxSteps := 200000) (disch := omega) [-List.getD_eq_getElem?_getD, hcut, psAV_len]; refine hK _ ?_; clear hK K
        refine aw_reg0 fun K hK => ?_; simp (maxSteps := 200000) (disch := omega) [-List.getD_eq_getElem?_getD]
        refine hK _ ?_; clear hK K
        refine hK3 _ ?_; clear hK3
        refine aw_reg0 fun K hK => ?_; simp (maxSteps := 200000) (disch := omega) [-List.getD_eq_getElem?_getD]
        refine hK _ ?_; clear hK K
        refine ⟨k + 1, by show k + 1 ≤ _; omega, by show l.length - (k + 1) < l.length - k; omega, ?_⟩
        refine weak_to [.cells [.int .i64 p.1, .sl p.2.length (ints p.2) .none]] [] ?_ ?_ ?_ ?_ HO ?_
        all_goals simp [htk]
      · simp at hk2
        have : k = l.length := by omega
        subst this
        refine aw_exit ?_; simp (maxSteps := 200000) (disch := omega) [-List.getD_eq_getElem?_getD]
        refine hK1 _ ?_; clear hK1
        refine aw_reg fun K hK => ?_; simp (maxSteps := 200000) (disch := omega) [-List.getD_eq_getElem?_getD]; refine hK _ ?_; clear hK K
        refine aw_ret ?_; simp (maxSteps := 200000) (disch := omega) [-List.getD_eq_getElem?_getD]
        simp [countL, hv]
end Go.Proofs.Ytlijaamjcpefoaa
