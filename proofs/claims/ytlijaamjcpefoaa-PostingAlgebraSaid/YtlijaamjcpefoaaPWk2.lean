/- PostingAlgebra: the walk.
   Conditions: none. -/
import Derived.Test.YtlijaamjcpefoaaPPl3
namespace Go.Proofs.Ytlijaamjcpefoaa
open Go Go.Am Post
set_option linter.unusedVariables false

theorem An_len (a b : List Int) : (An a b).length ≤ a.length + b.length := comb_len _ a b
theorem Orr_len (a b : List Int) : (Orr a b).length ≤ a.length + b.length := comb_len _ a b
theorem Wo_len (a b : List Int) : (Wo a b).length ≤ a.length + b.length := comb_len _ a b
theorem an_ok (a b : List Int) (ha : a.length ≤ 400) (hb : b.length ≤ 400) : ACall Try.prog 21 [.sl a.length (ints a) .none, .sl b.length (ints b) .none] [] [] (Is (.sl (An a b).length (ints (An a b)) .none) [] []) := and_ok a b ha hb [] [] .none .none
theorem orr_ok (a b : List Int) (ha : a.length ≤ 400) (hb : b.length ≤ 400) : ACall Try.prog 23 [.sl a.length (ints a) .none, .sl b.length (ints b) .none] [] [] (Is (.sl (Orr a b).length (ints (Orr a b)) .none) [] []) := or_ok a b ha hb [] [] .none .none
theorem wo_ok (a b : List Int) (ha : a.length ≤ 400) (hb : b.length ≤ 400) : ACall Try.prog 25 [.sl a.length (ints a) .none, .sl b.length (ints b) .none] [] [] (Is (.sl (Wo a b).length (ints (Wo a b)) .none) [] []) := without_ok a b ha hb [] [] .none .none
theorem ii_ok (a : List Int) (ha : a.length ≤ 400) : ACall Try.prog 20 [.sl a.length (ints a) .none, .sl a.length (ints a) .none] [] [] (Is (.bool true) [] []) := by
  have h : a.length ≤ maxLen := Nat.le_trans ha (by decide)
  have := ints_ok a a h h [] [] .none .none
  rw [beq_self_eq_true] at this
  exact this

set_option maxHeartbeats 2000000 in
theorem palg_ok (a b c : List Int) (ha : a.length ≤ maxLen) (hb : b.length ≤ maxLen) (hc : c.length ≤ maxLen) : ACall Try.prog 5 [.sl a.length (ints a) .none, .sl b.length (ints b) .none, .sl c.length (ints c) .none] [] [] (fun r _ _ => r = .bool true) := by
  have hml : 400 ≤ maxLen := by decide
  have cs := short_ok a b ha hb [] [] .none
  have cs2 : ACall Try.prog 17 [.sl c.length (ints c) .none, .sl 0 [] .full] [] [] (Is (.bool (decide (c.length ≤ 60 ∧ ([] : List Int).length ≤ 60))) [] []) := short_ok c [] hc (Nat.zero_le _) [] [] .full
  have v1 := validDocsR_ok a ha [] [] .none
  have v2 := validDocsR_ok b hb [] [] .none
  have v3 := validDocsR_ok c hc [] [] .none
  refine acall_enter 10 [] Try.ntmps5 Try.func5 rfl (fun _ _ => Try.call5 _ _) (by simp) (fun HO => ?_)
  refine aw_reg fun K hK => ?_; simp (maxSteps := 1000000) (disch := omega) [-List.getD_eq_getElem?_getD]; refine hK _ ?_; clear hK K
  refine aw_then fun K1 hK1 => ?_
  refine aw_reg fun K hK => ?_; simp (maxSteps := 1000000) (disch := omega) [-List.getD_eq_getElem?_getD]
  refine acall_is (awake_ok _ _) ?_; simp (maxSteps := 1000000) (disch := omega) [-List.getD_eq_getElem?_getD]
  refine hK _ ?_; clear hK K
  refine aw_if rfl (fun h => absurd h (by simp)) (fun h => ?_)
  refine aw_skip ?_; simp (maxSteps := 1000000) (disch := omega) [-List.getD_eq_getElem?_getD]
  refine hK1 _ ?_; clear hK1
  refine aw_then fun K1 hK1 => ?_
  by_cases hs : a.length ≤ 60 ∧ b.length ≤ 60
  · rw [decide_eq_true hs] at cs
    by_cases hs2 : c.length ≤ 60 ∧ ([] : List Int).length ≤ 60
    · rw [decide_eq_true hs2] at cs2
      cases ea : asc a 1 1000000000 with
      | false =>
        rw [ea] at v1
        refine aw_reg fun K hK => ?_; simp (maxSteps := 1000000) (disch := omega) [-List.getD_eq_getElem?_getD]
        refine acall_is (cs) ?_; simp (maxSteps := 1000000) (disch := omega) [-List.getD_eq_getElem?_getD]
        refine acall_is (cs2) ?_; simp (maxSteps := 1000000) (disch := omega) [-List.getD_eq_getElem?_getD]
        refine acall_is (v1) ?_; simp (maxSteps := 1000000) (disch := omega) [-List.getD_eq_getElem?_getD]
        refine hK _ ?_; clear hK K
        refine aw_if rfl (fun h => ?_) (fun h => absurd h (by simp))
        refine aw_reg fun K hK => ?_; simp (maxSteps := 1000000) (disch := omega) [-List.getD_eq_getElem?_getD]; refine hK _ ?_; clear hK K
        refine aw_ret ?_; simp (maxSteps := 1000000) (disch := omega) [-List.getD_eq_getElem?_getD]
      | true =>
        rw [ea] at v1
        cases eb : asc b 1 1000000000 with
        | false =>
          rw [eb] at v2
          refine aw_reg fun K hK => ?_; simp (maxSteps := 1000000) (disch := omega) [-List.getD_eq_getElem?_getD]
          refine acall_is (cs) ?_; simp (maxSteps := 1000000) (disch := omega) [-List.getD_eq_getElem?_getD]
          refine acall_is (cs2) ?_; simp (maxSteps := 1000000) (disch := omega) [-List.getD_eq_getElem?_getD]
          refine acall_is (v1) ?_; simp (maxSteps := 1000000) (disch := omega) [-List.getD_eq_getElem?_getD]
          refine acall_is (v2) ?_; simp (maxSteps := 1000000) (disch := omega) [-List.getD_eq_getElem?_getD]
          refine hK _ ?_; clear hK K
          refine aw_if rfl (fun h => ?_) (fun h => absurd h (by simp))
          refine aw_reg fun K hK => ?_; simp (maxSteps := 1000000) (disch := omega) [-List.getD_eq_getElem?_getD]; refine hK _ ?_; clear hK K
          refine aw_ret ?_; simp (maxSteps := 1000000) (disch := omega) [-List.getD_eq_getElem?_getD]
        | true =>
          rw [eb] at v2
          cases ec : asc c 1 1000000000 with
          | false =>
            rw [ec] at v3
            refine aw_reg fun K hK => ?_; simp (maxSteps := 1000000) (disch := omega) [-List.getD_eq_getElem?_getD]
            refine acall_is (cs) ?_; simp (maxSteps := 1000000) (disch := omega) [-List.getD_eq_getElem?_getD]
            refine acall_is (cs2) ?_; simp (maxSteps := 1000000) (disch := omega) [-List.getD_eq_getElem?_getD]
            refine acall_is (v1) ?_; simp (maxSteps := 1000000) (disch := omega) [-List.getD_eq_getElem?_getD]
            refine acall_is (v2) ?_; simp (maxSteps := 1000000) (disch := omega) [-List.getD_eq_getElem?_getD]
            refine acall_is (v3) ?_; simp (maxSteps := 1000000) (disch := omega) [-List.getD_eq_getElem?_getD]
            refine hK _ ?_; clear hK K
            refine aw_if rfl (fun h => ?_) (fun h => absurd h (by simp))
            refine aw_reg fun K hK => ?_; simp (maxSteps := 1000000) (disch := omega) [-List.getD_eq_getElem?_getD]; refine hK _ ?_; clear hK K
            refine aw_ret ?_; simp (maxSteps := 1000000) (disch := omega) [-List.getD_eq_getElem?_getD]
          | true =>
            rw [ec] at v3
            refine aw_reg fun K hK => ?_; simp (maxSteps := 1000000) (disch := omega) [-List.getD_eq_getElem?_getD]
            refine acall_is (cs) ?_; simp (maxSteps := 1000000) (disch := omega) [-List.getD_eq_getElem?_getD]
            refine acall_is (cs2) ?_; simp (maxSteps := 1000000) (disch := omega) [-List.getD_eq_getElem?_getD]
            refine acall_is (v1) ?_; simp (maxSteps := 1000000) (disch := omega) [-List.getD_eq_getElem?_getD]
            refine acall_is (v2) ?_; simp (maxSteps := 1000000) (disch := omega) [-List.getD_eq_getElem?_getD]
            refine acall_is (v3) ?_; simp (maxSteps := 1000000) (disch := omega) [-List.getD_eq_getElem?_getD]
            refine hK _ ?_; clear hK K
            refine aw_if rfl (fun h => absurd h (by simp)) (fun h => ?_)
            refine aw_skip ?_; simp (maxSteps := 1000000) (disch := omega) [-List.getD_eq_getElem?_getD]
            refine hK1 _ ?_; clear hK1
            obtain ⟨ha, hb⟩ := hs
            obtain ⟨hc, _⟩ := hs2
            have l1 := An_len a b
            have l2 := Orr_len a b
            have l3 := Wo_len a b
            have l4 := An_len b c
            have l5 := Orr_len b c
            have l6 := An_len a c
            have l7 := An_len (An a b) c
            have l8 := Orr_len (Orr a b) c
            have l9 := An_len (Orr a b) c
            refine aw_reg fun K hK => ?_; simp (maxSteps := 1000000) (disch := omega) [-List.getD_eq_getElem?_getD]
            refine acall_is (an_ok a b (by omega) (by omega)) ?_; simp (maxSteps := 1000000) (disch := omega) [-List.getD_eq_getElem?_getD]
            refine acall_is (orr_ok a b (by omega) (by omega)) ?_; simp (maxSteps := 1000000) (disch := omega) [-List.getD_eq_getElem?_getD]
            refine acall_is (wo_ok a b (by omega) (by omega)) ?_; simp (maxSteps := 1000000) (disch := omega) [-List.getD_eq_getElem?_getD]
            refine hK _ ?_; clear hK K
            refine aw_reg fun K hK => ?_; simp (maxSteps := 1000000) (disch := omega) [-List.getD_eq_getElem?_getD]
            refine acall_is (an_ok b a (by omega) (by omega)) ?_; simp (maxSteps := 1000000) (disch := omega) [-List.getD_eq_getElem?_getD]
            rw [al1 ea eb]
            refine acall_is (ii_ok (An a b) (by omega)) ?_; simp (maxSteps := 1000000) (disch := omega) [-List.getD_eq_getElem?_getD]
            refine acall_is (orr_ok b a (by omega) (by omega)) ?_; simp (maxSteps := 1000000) (disch := omega) [-List.getD_eq_getElem?_getD]
            rw [al2 ea eb]
            refine acall_is (ii_ok (Orr a b) (by omega)) ?_; simp (maxSteps := 1000000) (disch := omega) [-List.getD_eq_getElem?_getD]
            refine acall_is (an_ok (An a b) c (by omega) (by omega)) ?_; simp (maxSteps := 1000000) (disch := omega) [-List.getD_eq_getElem?_getD]
            refine acall_is (an_ok b c (by omega) (by omega)) ?_; simp (maxSteps := 1000000) (disch := omega) [-List.getD_eq_getElem?_getD]
            refine acall_is (an_ok a (An b c) (by omega) (by omega)) ?_; simp (maxSteps := 1000000) (disch := omega) [-List.getD_eq_getElem?_getD]
            rw [al3 ea eb ec]
            refine acall_is (ii_ok (An (An a b) c) (by omega)) ?_; simp (maxSteps := 1000000) (disch := omega) [-List.getD_eq_getElem?_getD]
            refine acall_is (orr_ok (Orr a b) c (by omega) (by omega)) ?_; simp (maxSteps := 1000000) (disch := omega) [-List.getD_eq_getElem?_getD]
            refine acall_is (orr_ok b c (by omega) (by omega)) ?_; simp (maxSteps := 1000000) (disch := omega) [-List.getD_eq_getElem?_getD]
            refine acall_is (orr_ok a (Orr b c) (by omega) (by omega)) ?_; simp (maxSteps := 1000000) (disch := omega) [-List.getD_eq_getElem?_getD]
            rw [al4 ea eb ec]
            refine acall_is (ii_ok (Orr (Orr a b) c) (by omega)) ?_; simp (maxSteps := 1000000) (disch := omega) [-List.getD_eq_getElem?_getD]
            refine acall_is (an_ok (Orr a b) c (by omega) (by omega)) ?_; simp (maxSteps := 1000000) (disch := omega) [-List.getD_eq_getElem?_getD]
            refine acall_is (an_ok a c (by omega) (by omega)) ?_; simp (maxSteps := 1000000) (disch := omega) [-List.getD_eq_getElem?_getD]
            refine acall_is (an_ok b c (by omega) (by omega)) ?_; simp (maxSteps := 1000000) (disch := omega) [-List.getD_eq_getElem?_getD]
            refine acall_is (orr_ok (An a c) (An b c) (by omega) (by omega)) ?_; simp (maxSteps := 1000000) (disch := omega) [-List.getD_eq_getElem?_getD]
            rw [al5 ea eb ec]
            refine acall_is (ii_ok (An (Orr a b) c) (by omega)) ?_; simp (maxSteps := 1000000) (disch := omega) [-List.getD_eq_getElem?_getD]
            refine acall_is (orr_ok (An a b) (Wo a b) (by omega) (by omega)) ?_; simp (maxSteps := 1000000) (disch := omega) [-List.getD_eq_getElem?_getD]
            rw [al6 ea eb]
            refine acall_is (ii_ok a (by omega)) ?_; simp (maxSteps := 1000000) (disch := omega) [-List.getD_eq_getElem?_getD]
            refine acall_is (an_ok (An a b) (Wo a b) (by omega) (by omega)) ?_; simp (maxSteps := 1000000) (disch := omega) [-List.getD_eq_getElem?_getD]
            rw [al7 ea eb]
            simp (maxSteps := 1000000) (disch := omega) [-List.getD_eq_getElem?_getD]
            refine acall_is (orr_ok (Wo a b) b (by omega) (by omega)) ?_; simp (maxSteps := 1000000) (disch := omega) [-List.getD_eq_getElem?_getD]
            rw [al8 ea eb]
            refine acall_is (ii_ok (Orr a b) (by omega)) ?_; simp (maxSteps := 1000000) (disch := omega) [-List.getD_eq_getElem?_getD]
            refine hK _ ?_; clear hK K
            refine aw_ret ?_; simp (maxSteps := 1000000) (disch := omega) [-List.getD_eq_getElem?_getD]
    · rw [decide_eq_false hs2] at cs2
      refine aw_reg fun K hK => ?_; simp (maxSteps := 1000000) (disch := omega) [-List.getD_eq_getElem?_getD]
      refine acall_is (cs) ?_; simp (maxSteps := 1000000) (disch := omega) [-List.getD_eq_getElem?_getD]
      refine acall_is (cs2) ?_; simp (maxSteps := 1000000) (disch := omega) [-List.getD_eq_getElem?_getD]
      refine hK _ ?_; clear hK K
      refine aw_if rfl (fun h => ?_) (fun h => absurd h (by simp))
      refine aw_reg fun K hK => ?_; simp (maxSteps := 1000000) (disch := omega) [-List.getD_eq_getElem?_getD]; refine hK _ ?_; clear hK K
      refine aw_ret ?_; simp (maxSteps := 1000000) (disch := omega) [-List.getD_eq_getElem?_getD]
  · rw [decide_eq_false hs] at cs
    refine aw_reg fun K hK => ?_; simp (maxSteps := 1000000) (disch := omega) [-List.getD_eq_getElem?_getD]
    refine acall_is (cs) ?_; simp (maxSteps := 1000000) (disch := omega) [-List.getD_eq_getElem?_getD]
    refine hK _ ?_; clear hK K
    refine aw_if rfl (fun h => ?_) (fun h => absurd h (by simp))
    refine aw_reg fun K hK => ?_; simp (maxSteps := 1000000) (disch := omega) [-List.getD_eq_getElem?_getD]; refine hK _ ?_; clear hK K
    refine aw_ret ?_; simp (maxSteps := 1000000) (disch := omega) [-List.getD_eq_getElem?_getD]
end Go.Proofs.Ytlijaamjcpefoaa
