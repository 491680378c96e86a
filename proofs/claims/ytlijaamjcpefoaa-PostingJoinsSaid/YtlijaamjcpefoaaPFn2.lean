/- Valid lists of the reference of layer 38, and comparisons.
   Conditions: lengths below 2^40. -/
import Derived.Test.YtlijaamjcpefoaaPFn1
namespace Go.Proofs.Ytlijaamjcpefoaa
open Go Go.Am
set_option linter.unusedVariables false

set_option maxRecDepth 100000 in
set_option maxHeartbeats 2000000 in
theorem ascR_ok (l : List Int) (lo hi : Int) (hl : l.length ≤ maxLen) (H : List Blk) (T : Toks) (tg : Tag) : ACall Try.prog 58 [.sl l.length (ints l) tg, .int .i64 lo, .int .i64 hi] H T (Is (.bool (asc l lo hi)) H T) := by
  refine ACall.untag1 ?_
  have hml : maxLen ≤ 9223372036854775807 := by decide
  have hl' := Nat.le_trans hl hml
  refine acall_enter 8 [] Try.ntmps58 Try.func58 rfl (fun _ _ => Try.call58 _ _) (by simp) (fun HO => ?_)
  refine aw_reg fun K hK => ?_; simp (maxSteps := 200000) (disch := omega) [-List.getD_eq_getElem?_getD]; refine hK _ ?_; clear hK K
  refine aw_then fun K1 hK1 => ?_
  refine aw_reg fun K hK => ?_; simp (maxSteps := 200000) (disch := omega) [-List.getD_eq_getElem?_getD]; refine hK _ ?_; clear hK K
  refine aw_block ?_
  refine aw_loop (X := Nat) (fun k => ⟨[(0, .sl l.length (ints l) .none), (1, .int .i64 lo), (2, .int .i64 hi), (7, .int .i64 (k : Nat))], H, T⟩) (fun k => k ≤ l.length ∧ ∀ j, j < k → ascAt l lo hi j = true) (fun k => l.length - k) 0 ?_ ?_ ?_
  · exact ⟨Nat.zero_le _, fun j hj => absurd hj (Nat.not_lt_zero _)⟩
  · refine weak_to [] [] ?_ ?_ ?_ ?_ HO ?_
    all_goals simp
  · rintro k ⟨h1, h2⟩
    refine aw_then fun K2 hK2 => ?_
    refine aw_reg fun K hK => ?_; simp (maxSteps := 200000) (disch := omega) [-List.getD_eq_getElem?_getD]; refine hK _ ?_; clear hK K
    refine aw_if rfl (fun hk => ?_) (fun hk => ?_)
    · simp [-List.getD_eq_getElem?_getD] at hk
      refine aw_skip ?_; simp (maxSteps := 200000) (disch := omega) [-List.getD_eq_getElem?_getD]
      refine hK2 _ ?_; clear hK2
      refine aw_then fun K3 hK3 => ?_
      refine aw_block ?_
      refine aw_draw [] [] [] drawMixed (by kernel_rfl) (by kernel_rfl) fun K hK => ?_
      have key : ∀ e b, b = (!ascAt l lo hi k) → envLe H.length T.length e [(0, .sl l.length (ints l) .none), (1, .int .i64 lo), (2, .int .i64 hi), (7, .int .i64 (k : Nat)), (43, .bool b)] → K ⟨e, H, T⟩ := by
        intro e b hb he
        refine hK _ (aw_weak ⟨[(0, .sl l.length (ints l) .none), (1, .int .i64 lo), (2, .int .i64 hi), (7, .int .i64 (k : Nat)), (43, .bool b)], H, T⟩ (weak_to [] [] (by simp) (by simp) (by simp) (by simp) HO he) ?_)
        cases hok : ascAt l lo hi k with
        | false =>
          rw [hok] at hb
          subst hb
          refine aw_if rfl (fun h => ?_) (fun h => absurd h (by simp))
          refine aw_reg fun K hK => ?_; simp (maxSteps := 200000) (disch := omega) [-List.getD_eq_getElem?_getD]; refine hK _ ?_; clear hK K
          refine aw_ret ?_; simp (maxSteps := 200000) (disch := omega) [-List.getD_eq_getElem?_getD]
          rw [asc_bad hk hok]
          exact ⟨rfl, rfl, rfl⟩
        | true =>
          rw [hok] at hb
          subst hb
          refine aw_if rfl (fun h => absurd h (by simp)) (fun h => ?_)
          refine aw_skip ?_; simp (maxSteps := 200000) (disch := omega) [-List.getD_eq_getElem?_getD]
          refine hK3 _ ?_; clear hK3
          refine aw_reg0 fun K hK => ?_; simp (maxSteps := 200000) (disch := omega) [-List.getD_eq_getElem?_getD]
          refine hK _ ?_; clear hK K
          refine ⟨k + 1, ⟨by show k + 1 ≤ _; omega, fun j hj => ?_⟩, by show l.length - (k + 1) < l.length - k; omega, ?_⟩
          · rcases Nat.lt_or_ge j k with h3 | h3
            · exact h2 j h3
            · have : j = k := by omega
              subst this; exact hok
          · refine weak_to [] [] ?_ ?_ ?_ ?_ HO ?_
            all_goals simp
      clear hK
      by_cases c1 : l.getD k 0 < lo
      · have b1 : decide (l.getD k 0 < lo) = true := by simpa using c1
        simp (maxSteps := 200000) (disch := omega) [-List.getD_eq_getElem?_getD, getD_ints, b1, c1]
        refine key _ true ?_ (by simp)
        have : ¬ lo ≤ l.getD k 0 := by omega
        simp only [ascAt, decide_eq_false this]
        rfl
      · have b1 : decide (l.getD k 0 < lo) = false := by simpa using c1
        by_cases c2 : hi < l.getD k 0
        · have b2 : decide (hi < l.getD k 0) = true := by simpa using c2
          simp (maxSteps := 200000) (disch := omega) [-List.getD_eq_getElem?_getD, getD_ints, b1, c1, b2, c2]
          refine key _ true ?_ (by simp)
          have : ¬ l.getD k 0 ≤ hi := by omega
          simp only [ascAt, decide_eq_false this, Bool.and_false]
          rfl
        · have b2 : decide (hi < l.getD k 0) = false := by simpa using c2
          have e1 : lo ≤ l.getD k 0 := by omega
          have e2 : l.getD k 0 ≤ hi := by omega
          rcases Nat.eq_zero_or_pos k with h0 | h0
          · subst h0
            simp (maxSteps := 200000) (disch := omega) [-List.getD_eq_getElem?_getD, getD_ints, b1, c1, b2, c2]
            refine key _ false ?_ (by simp)
            simp only [ascAt, decide_eq_true e1, decide_eq_true e2]
            rfl
          · have b3 : decide ((0 : Int) < (k : Int)) = true := by simp; omega
            have c3 : (0 : Int) < k := by omega
            have ek : ((k : Int) - 1).toNat = k - 1 := by omega
            have hat := getD_ints (xs := l) (k := k - 1) (by omega)
            by_cases c4 : l.getD k 0 ≤ l.getD (k - 1) 0
            · have b4 : decide (l.getD k 0 ≤ l.getD (k - 1) 0) = true := by simpa using c4
              simp (maxSteps := 200000) (disch := omega) [-List.getD_eq_getElem?_getD, getD_ints, b1, c1, b2, c2, b3, c3, h0, ek, hat, b4, c4]
              refine key _ true ?_ (by simp)
              have e3 : ¬ l.getD (k - 1) 0 < l.getD k 0 := by omega
              have e4 : ¬ k = 0 := by omega
              simp only [ascAt, decide_eq_true e1, decide_eq_true e2, decide_eq_false e3, decide_eq_false e4]
              rfl
            · have b4 : decide (l.getD k 0 ≤ l.getD (k - 1) 0) = false := by simpa using c4
              simp (maxSteps := 200000) (disch := omega) [-List.getD_eq_getElem?_getD, getD_ints, b1, c1, b2, c2, b3, c3, h0, ek, hat, b4, c4]
              refine key _ false ?_ (by simp)
              have e3 : l.getD (k - 1) 0 < l.getD k 0 := by omega
              simp only [ascAt, decide_eq_true e1, decide_eq_true e2, decide_eq_true e3, Bool.or_true]
              rfl
    · simp [-List.getD_eq_getElem?_getD] at hk
      refine aw_exit ?_; simp (maxSteps := 200000) (disch := omega) [-List.getD_eq_getElem?_getD]
      refine hK1 _ ?_; clear hK1
      refine aw_reg fun K hK => ?_; simp (maxSteps := 200000) (disch := omega) [-List.getD_eq_getElem?_getD]; refine hK _ ?_; clear hK K
      refine aw_ret ?_; simp (maxSteps := 200000) (disch := omega) [-List.getD_eq_getElem?_getD]
      rw [asc_all (fun j hj => h2 j (by omega))]
      exact ⟨rfl, rfl, rfl⟩


theorem validDocsR_ok (l : List Int) (hl : l.length ≤ maxLen) (H : List Blk) (T : Toks) (tg : Tag) : ACall Try.prog 19 [.sl l.length (ints l) tg] H T (Is (.bool (asc l 1 1000000000)) H T) := by
  refine acall_enter 3 [] Try.ntmps19 Try.func19 rfl (fun _ _ => Try.call19 _ _) (by simp) (fun HO => ?_)
  refine aw_reg fun K hK => ?_; simp (maxSteps := 200000) (disch := omega) [-List.getD_eq_getElem?_getD]; refine hK _ ?_; clear hK K
  refine aw_reg fun K hK => ?_; simp (maxSteps := 200000) (disch := omega) [-List.getD_eq_getElem?_getD]
  refine acall_is (ascR_ok l 1 1000000000 hl H T tg) ?_; simp (maxSteps := 200000) (disch := omega) [-List.getD_eq_getElem?_getD]
  refine hK _ ?_; clear hK K
  refine aw_ret ?_; simp (maxSteps := 200000) (disch := omega) [-List.getD_eq_getElem?_getD]
  exact ⟨rfl, rfl, rfl⟩

theorem eq_getD {α : Type} [DecidableEq α] {a b : List α} (d : α) (h : a.length = b.length) (hj : ∀ j, j < a.length → a.getD j d = b.getD j d) : a = b := by
  apply List.ext_getElem h
  intro i h1 h2
  have := hj i h1
  rwa [List.getD_eq_getElem?_getD, List.getD_eq_getElem?_getD, List.getElem?_eq_getElem h1, List.getElem?_eq_getElem h2] at this

theorem sameInts_ok (a b : List Int) (ha : a.length ≤ maxLen) (hb : b.length ≤ maxLen) (H : List Blk) (T : Toks) (ta tb : Tag) : ACall Try.prog 50 [.sl a.length (ints a) ta, .sl b.length (ints b) tb] H T (Is (.bool (a == b)) H T) := by
  refine ACall.untag1 ?_
  have hml : maxLen ≤ 9223372036854775807 := by decide
  have ha' := Nat.le_trans ha hml
  have hb' := Nat.le_trans hb hml
  refine acall_enter 6 [] Try.ntmps50 Try.func50 rfl (fun _ _ => Try.call50 _ _) (by simp) (fun HO => ?_)
  refine aw_reg fun K hK => ?_; simp (maxSteps := 200000) (disch := omega) [-List.getD_eq_getElem?_getD]; refine hK _ ?_; clear hK K
  refine aw_then fun K1 hK1 => ?_
  refine aw_reg fun K hK => ?_; simp (maxSteps := 200000) (disch := omega) [-List.getD_eq_getElem?_getD]; refine hK _ ?_; clear hK K
  refine aw_if rfl (fun h => ?_) (fun h => ?_)
  · simp [-List.getD_eq_getElem?_getD] at h
    refine aw_reg fun K hK => ?_; simp (maxSteps := 200000) (disch := omega) [-List.getD_eq_getElem?_getD]; refine hK _ ?_; clear hK K
    refine aw_ret ?_; simp (maxSteps := 200000) (disch := omega) [-List.getD_eq_getElem?_getD]
    have : (a == b) = false := by simp; intro e; subst e; exact h rfl
    rw [this]
    exact ⟨rfl, rfl, rfl⟩
  · simp [-List.getD_eq_getElem?_getD] at h
    have hl : a.length = b.length := by omega
    refine aw_skip ?_; simp (maxSteps := 200000) (disch := omega) [-List.getD_eq_getElem?_getD]
    refine hK1 _ ?_; clear hK1
    refine aw_then fun K1 hK1 => ?_
    refine aw_reg fun K hK => ?_; simp (maxSteps := 200000) (disch := omega) [-List.getD_eq_getElem?_getD]; refine hK _ ?_; clear hK K
    refine aw_block ?_
    refine aw_loop (X := Nat) (fun i => ⟨[(0, .sl a.length (ints a) .none), (1, .sl b.length (ints b) .none), (5, .int .i64 (i : Nat))], H, T⟩) (fun i => i ≤ a.length ∧ ∀ j, j < i → a.getD j 0 = b.getD j 0) (fun i => a.length - i) 0 ?_ ?_ ?_
    · exact ⟨by omega, fun j hj => by omega⟩
    · refine weak_to [] [] ?_ ?_ ?_ ?_ HO ?_
      all_goals simp
    · rintro i ⟨hi, hj⟩
      refine aw_then fun K2 hK2 => ?_
      refine aw_reg fun K hK => ?_; simp (maxSteps := 200000) (disch := omega) [-List.getD_eq_getElem?_getD]; refine hK _ ?_; clear hK K
      refine aw_if rfl (fun h => ?_) (fun h => ?_)
      · simp [-List.getD_eq_getElem?_getD] at h
        refine aw_skip ?_; simp (maxSteps := 200000) (disch := omega) [-List.getD_eq_getElem?_getD]
        refine hK2 _ ?_; clear hK2
        refine aw_then fun K3 hK3 => ?_
        refine aw_block ?_
        by_cases he : a.getD i 0 = b.getD i 0
        · refine aw_draw [] [] [] drawMixed (by kernel_rfl) (by kernel_rfl) fun K hK => ?_; simp (maxSteps := 200000) (disch := omega) [-List.getD_eq_getElem?_getD, getD_ints, he]
          refine hK _ ?_; clear hK K
          refine aw_if rfl (fun h => absurd h (by simp)) (fun h => ?_)
          refine aw_skip ?_; simp (maxSteps := 200000) (disch := omega) [-List.getD_eq_getElem?_getD]
          refine hK3 _ ?_; clear hK3
          refine aw_reg0 fun K hK => ?_; simp (maxSteps := 200000) (disch := omega) [-List.getD_eq_getElem?_getD]
          refine hK _ ?_; clear hK K
          refine ⟨i + 1, ⟨by omega, fun j hj' => ?_⟩, by omega, ?_⟩
          · rcases Nat.lt_or_ge j i with h1 | h1
            · exact hj j h1
            · have : j = i := by omega
              subst this; exact he
          · refine weak_to [] [] ?_ ?_ ?_ ?_ HO ?_
            all_goals simp
        · have he' : (a.getD i 0 != b.getD i 0) = true := bne_iff_ne.2 he
          refine aw_draw [] [] [] drawMixed (by kernel_rfl) (by kernel_rfl) fun K hK => ?_; simp (maxSteps := 200000) (disch := omega) [-List.getD_eq_getElem?_getD, getD_ints, he']
          refine hK _ ?_; clear hK K
          refine aw_if rfl (fun h => ?_) (fun h => absurd h (by simp))
          refine aw_reg fun K hK => ?_; simp (maxSteps := 200000) (disch := omega) [-List.getD_eq_getElem?_getD]; refine hK _ ?_; clear hK K
          refine aw_ret ?_; simp (maxSteps := 200000) (disch := omega) [-List.getD_eq_getElem?_getD]
          have : (a == b) = false := by simp; intro e; subst e; exact he rfl
          rw [this]
          exact ⟨rfl, rfl, rfl⟩
      · simp [-List.getD_eq_getElem?_getD] at h
        refine aw_exit ?_; simp (maxSteps := 200000) (disch := omega) [-List.getD_eq_getElem?_getD]
        refine hK1 _ ?_; clear hK1
        refine aw_reg fun K hK => ?_; simp (maxSteps := 200000) (disch := omega) [-List.getD_eq_getElem?_getD]; refine hK _ ?_; clear hK K
        refine aw_ret ?_; simp (maxSteps := 200000) (disch := omega) [-List.getD_eq_getElem?_getD]
        refine ⟨?_, rfl, rfl⟩
        have : a = b := eq_getD 0 hl (fun j hj' => hj j (by omega))
        simp [this]

theorem ints_ok (a b : List Int) (ha : a.length ≤ maxLen) (hb : b.length ≤ maxLen) (H : List Blk) (T : Toks) (ta tb : Tag) : ACall Try.prog 20 [.sl a.length (ints a) ta, .sl b.length (ints b) tb] H T (Is (.bool (a == b)) H T) := by
  refine acall_enter 5 [] Try.ntmps20 Try.func20 rfl (fun _ _ => Try.call20 _ _) (by simp) (fun HO => ?_)
  refine aw_reg fun K hK => ?_; simp (maxSteps := 200000) (disch := omega) [-List.getD_eq_getElem?_getD]; refine hK _ ?_; clear hK K
  refine aw_reg fun K hK => ?_; simp (maxSteps := 200000) (disch := omega) [-List.getD_eq_getElem?_getD]
  refine acall_is (sameInts_ok a b ha hb H T ta tb) ?_; simp (maxSteps := 200000) (disch := omega) [-List.getD_eq_getElem?_getD]
  refine hK _ ?_; clear hK K
  refine aw_ret ?_; simp (maxSteps := 200000) (disch := omega) [-List.getD_eq_getElem?_getD]
  exact ⟨rfl, rfl, rfl⟩

theorem short_ok (a b : List Int) (ha : a.length ≤ maxLen) (hb : b.length ≤ maxLen) (H : List Blk) (T : Toks) (tb : Tag) : ACall Try.prog 17 [.sl a.length (ints a) .none, .sl b.length (ints b) tb] H T (Is (.bool (decide (a.length ≤ 60 ∧ b.length ≤ 60))) H T) := by
  refine ACall.untag2 ?_
  have hml : maxLen ≤ 9223372036854775807 := by decide
  have ha' := Nat.le_trans ha hml
  have hb' := Nat.le_trans hb hml
  refine acall_enter 5 [] Try.ntmps17 Try.func17 rfl (fun _ _ => Try.call17 _ _) (by simp) (fun HO => ?_)
  refine aw_reg fun K hK => ?_; simp (maxSteps := 200000) (disch := omega) [-List.getD_eq_getElem?_getD]; refine hK _ ?_; clear hK K
  by_cases h1 : a.length ≤ 60
  · have b1 : decide ((a.length : Int) ≤ 60) = true := by simp; omega
    refine aw_reg fun K hK => ?_; simp (maxSteps := 200000) (disch := omega) [-List.getD_eq_getElem?_getD, b1]; refine hK _ ?_; clear hK K
    refine aw_ret ?_; simp (maxSteps := 200000) (disch := omega) [-List.getD_eq_getElem?_getD]
    refine ⟨?_, rfl, rfl⟩
    simp [h1]
    omega
  · have b1 : decide ((a.length : Int) ≤ 60) = false := by simp; omega
    refine aw_reg fun K hK => ?_; simp (maxSteps := 200000) (disch := omega) [-List.getD_eq_getElem?_getD, b1]; refine hK _ ?_; clear hK K
    refine aw_ret ?_; simp (maxSteps := 200000) (disch := omega) [-List.getD_eq_getElem?_getD]
    exact ⟨by simp [h1], rfl, rfl⟩
end Go.Proofs.Ytlijaamjcpefoaa
