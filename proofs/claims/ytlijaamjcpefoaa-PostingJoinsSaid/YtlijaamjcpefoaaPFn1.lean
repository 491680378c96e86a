/- Valid lists of layer 38.
   Conditions: lengths below 2^40. -/
import Derived.Test.YtlijaamjcpefoaaAmFacts
import Derived.Test.YtlijaamjcpefoaaAmGhost
namespace Go.Proofs.Ytlijaamjcpefoaa
open Go Go.Am
set_option linter.unusedVariables false

theorem drawMixed : Try.prog.follows .mixedOrders = true := by kernel_rfl

/-- The place k of a list is as it should be. -/
def ascAt (l : List Int) (lo hi : Int) (k : Nat) : Bool := decide (lo ≤ l.getD k 0) && decide (l.getD k 0 ≤ hi) && (decide (k = 0) || decide (l.getD (k - 1) 0 < l.getD k 0))
/-- Ascending, between lo and hi. -/
def asc (l : List Int) (lo hi : Int) : Bool := (List.range l.length).all (ascAt l lo hi)

theorem asc_bad {l : List Int} {lo hi : Int} {k : Nat} (hk : k < l.length) (h : ascAt l lo hi k = false) : asc l lo hi = false := by
  unfold asc
  rw [List.all_eq_false]
  exact ⟨k, by simpa using hk, by simp [h]⟩
theorem asc_all {l : List Int} {lo hi : Int} (h : ∀ j, j < l.length → ascAt l lo hi j = true) : asc l lo hi = true := by
  unfold asc
  rw [List.all_eq_true]
  intro j hj
  exact h j (by simpa using hj)

theorem asc_ok (l : List Int) (lo hi : Int) (hl : l.length ≤ maxLen) (H : List Blk) (T : Toks) (tg : Tag) : ACall Try.prog 57 [.sl l.length (ints l) tg, .int .i64 lo, .int .i64 hi] H T (Is (.bool (asc l lo hi)) H T) := by
  refine ACall.untag1 ?_
  have hml : maxLen ≤ 9223372036854775807 := by decide
  have hl' := Nat.le_trans hl hml
  refine acall_enter 12 [] Try.ntmps57 Try.func57 rfl (fun _ _ => Try.call57 _ _) (by simp) (fun HO => ?_)
  refine aw_reg fun K hK => ?_; simp (maxSteps := 200000) (disch := omega) [-List.getD_eq_getElem?_getD]; refine hK _ ?_; clear hK K
  refine aw_then fun K1 hK1 => ?_
  refine aw_reg fun K hK => ?_; simp (maxSteps := 200000) (disch := omega) [-List.getD_eq_getElem?_getD]; refine hK _ ?_; clear hK K
  refine aw_block ?_
  refine aw_loop (X := Nat) (fun k => ⟨[(0, .sl l.length (ints l) .none), (1, .int .i64 lo), (2, .int .i64 hi), (9, .sl l.length (ints l) .none), (10, .int .i64 (l.length : Nat)), (11, .int .i64 (k : Nat))], H, T⟩) (fun k => k ≤ l.length ∧ ∀ j, j < k → ascAt l lo hi j = true) (fun k => l.length - k) 0 ?_ ?_ ?_
  · exact ⟨Nat.zero_le _, fun j hj => absurd hj (Nat.not_lt_zero _)⟩
  · refine weak_to [] [] ?_ ?_ ?_ ?_ HO ?_
    all_goals simp
  · rintro k ⟨h1, h2⟩
    refine aw_reg fun K hK => ?_; simp (maxSteps := 200000) (disch := omega) [-List.getD_eq_getElem?_getD]; refine hK _ ?_; clear hK K
    refine aw_then fun K2 hK2 => ?_
    refine aw_if rfl (fun hk => ?_) (fun hk => ?_)
    · simp [-List.getD_eq_getElem?_getD] at hk
      refine aw_skip ?_; simp (maxSteps := 200000) (disch := omega) [-List.getD_eq_getElem?_getD]
      refine hK2 _ ?_; clear hK2
      refine aw_then fun K3 hK3 => ?_
      refine aw_block ?_
      refine aw_reg fun K hK => ?_; simp (maxSteps := 200000) (disch := omega) [-List.getD_eq_getElem?_getD, getD_ints]; refine hK _ ?_; clear hK K
      refine aw_reg fun K hK => ?_
      have key : ∀ e b, b = (!ascAt l lo hi k) → envLe H.length T.length e [(0, .sl l.length (ints l) .none), (1, .int .i64 lo), (2, .int .i64 hi), (9, .sl l.length (ints l) .none), (10, .int .i64 (l.length : Nat)), (11, .int .i64 (k : Nat)), (36, .bool b)] → K ⟨e, H, T⟩ := by
        intro e b hb he
        refine hK _ (aw_weak ⟨[(0, .sl l.length (ints l) .none), (1, .int .i64 lo), (2, .int .i64 hi), (9, .sl l.length (ints l) .none), (10, .int .i64 (l.length : Nat)), (11, .int .i64 (k : Nat)), (36, .bool b)], H, T⟩ (weak_to [] [] (by simp) (by simp) (by simp) (by simp) HO he) ?_)
        cases hok : ascAt l lo hi k with
        | false =>
          rw [hok] at hb
          subst hb
          refine aw_if rfl (fun h => ?_) (fun h => absurd h (by simp))
          refine aw_reg fun K hK => ?_; simp (maxSteps := 200000) (disch := omega) [-List.getD_eq_getElem?_getD]; refine hK _ ?_; clear hK K
          refine aw_ret ?_; simp (maxSteps := 200000) (disch := omega) [-List.getD_eq_getElem?_getD]
          rw [asc_bad hk hok]
          exact ⟨rfl, rfl, rfl⟩
        | true =>
          rw [hok] at hb
          subst hb
          refine aw_if rfl (fun h => absurd h (by simp)) (fun h => ?_)
          refine aw_skip ?_; simp (maxSteps := 200000) (disch := omega) [-List.getD_eq_getElem?_getD]
          refine hK3 _ ?_; clear hK3
          refine aw_reg0 fun K hK => ?_; simp (maxSteps := 200000) (disch := omega) [-List.getD_eq_getElem?_getD]
          refine hK _ ?_; clear hK K
          refine ⟨k + 1, ⟨by show k + 1 ≤ _; omega, fun j hj => ?_⟩, by show l.length - (k + 1) < l.length - k; omega, ?_⟩
          · rcases Nat.lt_or_ge j k with h3 | h3
            · exact h2 j h3
            · have : j = k := by omega
              subst this; exact hok
          · refine weak_to [] [] ?_ ?_ ?_ ?_ HO ?_
            all_goals simp
      clear hK
      by_cases c1 : l.getD k 0 < lo
      · have b1 : decide (l.getD k 0 < lo) = true := by simpa using c1
        simp (maxSteps := 200000) (disch := omega) [-List.getD_eq_getElem?_getD, b1, c1]
        refine key _ true ?_ (by simp)
        have : ¬ lo ≤ l.getD k 0 := by omega
        simp only [ascAt, decide_eq_false this]
        rfl
      · have b1 : decide (l.getD k 0 < lo) = false := by simpa using c1
        by_cases c2 : hi < l.getD k 0
        · have b2 : decide (hi < l.getD k 0) = true := by simpa using c2
          simp (maxSteps := 200000) (disch := omega) [-List.getD_eq_getElem?_getD, b1, c1, b2, c2]
          refine key _ true ?_ (by simp)
          have : ¬ l.getD k 0 ≤ hi := by omega
          simp only [ascAt, decide_eq_false this, Bool.and_false]
          rfl
        · have b2 : decide (hi < l.getD k 0) = false := by simpa using c2
          have e1 : lo ≤ l.getD k 0 := by omega
          have e2 : l.getD k 0 ≤ hi := by omega
          rcases Nat.eq_zero_or_pos k with h0 | h0
          · subst h0
            simp (maxSteps := 200000) (disch := omega) [-List.getD_eq_getElem?_getD, b1, c1, b2, c2]
            refine key _ false ?_ (by simp)
            simp only [ascAt, decide_eq_true e1, decide_eq_true e2]
            rfl
          · have b3 : decide ((0 : Int) < (k : Int)) = true := by simp; omega
            have c3 : (0 : Int) < k := by omega
            have ek : ((k : Int) - 1).toNat = k - 1 := by omega
            have hat := getD_ints (xs := l) (k := k - 1) (by omega)
            by_cases c4 : l.getD k 0 ≤ l.getD (k - 1) 0
            · have b4 : decide (l.getD k 0 ≤ l.getD (k - 1) 0) = true := by simpa using c4
              simp (maxSteps := 200000) (disch := omega) [-List.getD_eq_getElem?_getD, b1, c1, b2, c2, b3, c3, h0, ek, hat, b4, c4]
              refine key _ true ?_ (by simp)
              have e3 : ¬ l.getD (k - 1) 0 < l.getD k 0 := by omega
              have e4 : ¬ k = 0 := by omega
              simp only [ascAt, decide_eq_true e1, decide_eq_true e2, decide_eq_false e3, decide_eq_false e4]
              rfl
            · have b4 : decide (l.getD k 0 ≤ l.getD (k - 1) 0) = false := by simpa using c4
              simp (maxSteps := 200000) (disch := omega) [-List.getD_eq_getElem?_getD, b1, c1, b2, c2, b3, c3, h0, ek, hat, b4, c4]
              refine key _ false ?_ (by simp)
              have e3 : l.getD (k - 1) 0 < l.getD k 0 := by omega
              simp only [ascAt, decide_eq_true e1, decide_eq_true e2, decide_eq_true e3, Bool.or_true]
              rfl
    · simp [-List.getD_eq_getElem?_getD] at hk
      refine aw_exit ?_; simp (maxSteps := 200000) (disch := omega) [-List.getD_eq_getElem?_getD]
      refine hK1 _ ?_; clear hK1
      refine aw_reg fun K hK => ?_; simp (maxSteps := 200000) (disch := omega) [-List.getD_eq_getElem?_getD]; refine hK _ ?_; clear hK K
      refine aw_ret ?_; simp (maxSteps := 200000) (disch := omega) [-List.getD_eq_getElem?_getD]
      rw [asc_all (fun j hj => h2 j (by omega))]
      exact ⟨rfl, rfl, rfl⟩

theorem validDocs_ok (l : List Int) (hl : l.length ≤ maxLen) (H : List Blk) (T : Toks) (tg : Tag) : ACall Try.prog 18 [.sl l.length (ints l) tg] H T (Is (.bool (asc l 1 1000000000)) H T) := by
  refine acall_enter 3 [] Try.ntmps18 Try.func18 rfl (fun _ _ => Try.call18 _ _) (by simp) (fun HO => ?_)
  refine aw_reg fun K hK => ?_; simp (maxSteps := 200000) (disch := omega) [-List.getD_eq_getElem?_getD]; refine hK _ ?_; clear hK K
  refine aw_reg fun K hK => ?_; simp (maxSteps := 200000) (disch := omega) [-List.getD_eq_getElem?_getD]
  refine acall_is (asc_ok l 1 1000000000 hl H T tg) ?_; simp (maxSteps := 200000) (disch := omega) [-List.getD_eq_getElem?_getD]
  refine hK _ ?_; clear hK K
  refine aw_ret ?_; simp (maxSteps := 200000) (disch := omega) [-List.getD_eq_getElem?_getD]
  exact ⟨rfl, rfl, rfl⟩
end Go.Proofs.Ytlijaamjcpefoaa
