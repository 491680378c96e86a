/- EditText, EditMetric, EditBounds: the walks.
   Conditions: none. -/
import Derived.Test.YtgndlhfnenlhkaaEFn9
namespace Go.Proofs.Ytgndlhfnenlhkaa
open Go Go.Am Edit
set_option linter.unusedVariables false

theorem etext_ok (s t : List UInt8) (hs : s.length ≤ maxLen) (ht : t.length ≤ maxLen) : ACall Try.prog 3 [.str s, .str t] [] [] (fun r _ _ => r = .bool true) := by
  have hml : maxLen ≤ 9223372036854775807 := by decide
  have hs' := Nat.le_trans hs hml
  have ht' := Nat.le_trans ht hml
  refine acall_enter 5 [] Try.ntmps3 Try.func3 rfl (fun _ _ => Try.call3 _ _) (by simp) (fun HO => ?_)
  refine aw_reg fun K hK => ?_; simp (maxSteps := 200000) (disch := omega) [-List.getD_eq_getElem?_getD]; refine hK _ ?_; clear hK K
  refine aw_then fun K1 hK1 => ?_
  refine aw_reg fun K hK => ?_; simp (maxSteps := 200000) (disch := omega) [-List.getD_eq_getElem?_getD]
  refine acall_is (awake_ok _ _) ?_; simp (maxSteps := 200000) (disch := omega) [-List.getD_eq_getElem?_getD]
  refine hK _ ?_; clear hK K
  refine aw_if rfl (fun h => absurd h (by simp)) (fun h => ?_)
  refine aw_skip ?_; simp (maxSteps := 200000) (disch := omega) [-List.getD_eq_getElem?_getD]
  refine hK1 _ ?_; clear hK1
  refine aw_then fun K1 hK1 => ?_
  by_cases h1 : 80 < s.length
  · have b1 : decide ((80 : Int) < s.length) = true := by simp; omega
    refine aw_reg fun K hK => ?_; simp (maxSteps := 200000) (disch := omega) [-List.getD_eq_getElem?_getD, b1, h1]; refine hK _ ?_; clear hK K
    refine aw_if rfl (fun h => ?_) (fun h => absurd h (by simp))
    refine aw_reg fun K hK => ?_; simp (maxSteps := 200000) (disch := omega) [-List.getD_eq_getElem?_getD]; refine hK _ ?_; clear hK K
    refine aw_ret ?_; simp (maxSteps := 200000) (disch := omega) [-List.getD_eq_getElem?_getD]
  · have b1 : decide ((80 : Int) < s.length) = false := by simp; omega
    refine aw_reg fun K hK => ?_; simp (maxSteps := 200000) (disch := omega) [-List.getD_eq_getElem?_getD, b1, h1]; refine hK _ ?_; clear hK K
    refine aw_if rfl (fun h => ?_) (fun h => ?_)
    · refine aw_reg fun K hK => ?_; simp (maxSteps := 200000) (disch := omega) [-List.getD_eq_getElem?_getD]; refine hK _ ?_; clear hK K
      refine aw_ret ?_; simp (maxSteps := 200000) (disch := omega) [-List.getD_eq_getElem?_getD]
    · simp [-List.getD_eq_getElem?_getD] at h
      have l1 := chars_len s
      have l2 := chars_len t
      refine aw_skip ?_; simp (maxSteps := 200000) (disch := omega) [-List.getD_eq_getElem?_getD]
      refine hK1 _ ?_; clear hK1
      refine aw_reg fun K hK => ?_; simp (maxSteps := 200000) (disch := omega) [-List.getD_eq_getElem?_getD]
      refine acall_is (chars_ok s (by omega) _ _) ?_; simp (maxSteps := 200000) (disch := omega) [-List.getD_eq_getElem?_getD]
      refine acall_is (charsR_ok s (by omega) _ _) ?_; simp (maxSteps := 200000) (disch := omega) [-List.getD_eq_getElem?_getD]
      refine acall_is (sameInts_ok (chars s) (chars s) (Nat.le_trans (show _ ≤ 80 by omega) (by decide)) (Nat.le_trans (show _ ≤ 80 by omega) (by decide)) _ _ _ _) ?_; simp (maxSteps := 200000) (disch := omega) [-List.getD_eq_getElem?_getD]
      refine acall_is (text_ok s t (by omega) (by omega) _ _) ?_; simp (maxSteps := 200000) (disch := omega) [-List.getD_eq_getElem?_getD]
      refine acall_is (textR_ok s t (by omega) (by omega) _ _) ?_; simp (maxSteps := 200000) (disch := omega) [-List.getD_eq_getElem?_getD]
      refine hK _ ?_; clear hK K
      refine aw_ret ?_; simp (maxSteps := 200000) (disch := omega) [-List.getD_eq_getElem?_getD]

theorem few_nil (a : List Int) (ha : a.length ≤ maxLen) (H : List Blk) (T : Toks) : ACall Try.prog 17 [.sl a.length (ints a) .none, .sl 0 [] .full] H T (Is (.bool (decide (a.length ≤ 60))) H T) := by
  have := few_ok a [] ha (Nat.zero_le _) H T
  simp only [List.length_nil, Nat.zero_le, and_true] at this
  exact ACall.untag2 this

theorem ed_le60 {a b : List Int} (ha : a.length ≤ 1000) (hb : b.length ≤ 1000) : ed a b ≤ 1000 := by
  have := ed_max a b
  omega

theorem emetric_ok (a b c : List Int) (ha : a.length ≤ maxLen) (hb : b.length ≤ maxLen) (hc : c.length ≤ maxLen) :
    ACall Try.prog 5 [.sl a.length (ints a) .none, .sl b.length (ints b) .none, .sl c.length (ints c) .none] [] [] (fun r _ _ => r = .bool true) := by
  refine acall_enter 8 [] Try.ntmps5 Try.func5 rfl (fun _ _ => Try.call5 _ _) (by simp) (fun HO => ?_)
  refine aw_reg fun K hK => ?_; simp (maxSteps := 200000) (disch := omega) [-List.getD_eq_getElem?_getD]; refine hK _ ?_; clear hK K
  refine aw_then fun K1 hK1 => ?_
  refine aw_reg fun K hK => ?_; simp (maxSteps := 200000) (disch := omega) [-List.getD_eq_getElem?_getD]
  refine acall_is (awake_ok _ _) ?_; simp (maxSteps := 200000) (disch := omega) [-List.getD_eq_getElem?_getD]
  refine hK _ ?_; clear hK K
  refine aw_if rfl (fun h => absurd h (by simp)) (fun h => ?_)
  refine aw_skip ?_; simp (maxSteps := 200000) (disch := omega) [-List.getD_eq_getElem?_getD]
  refine hK1 _ ?_; clear hK1
  refine aw_then fun K1 hK1 => ?_
  have f1 := few_ok a b ha hb [] []
  have f2 := few_nil c hc [] []
  by_cases h1 : a.length ≤ 60 ∧ b.length ≤ 60
  · rw [decide_eq_true h1] at f1
    by_cases h2 : c.length ≤ 60
    · rw [decide_eq_true h2] at f2
      refine aw_reg fun K hK => ?_; simp (maxSteps := 200000) (disch := omega) [-List.getD_eq_getElem?_getD]
      refine acall_is (f1) ?_; simp (maxSteps := 200000) (disch := omega) [-List.getD_eq_getElem?_getD]
      refine acall_is (f2) ?_; simp (maxSteps := 200000) (disch := omega) [-List.getD_eq_getElem?_getD]
      refine hK _ ?_; clear hK K
      refine aw_if rfl (fun h => absurd h (by simp)) (fun h => ?_)
      refine aw_skip ?_; simp (maxSteps := 200000) (disch := omega) [-List.getD_eq_getElem?_getD]
      refine hK1 _ ?_; clear hK1
      refine aw_reg fun K hK => ?_; simp (maxSteps := 200000) (disch := omega) [-List.getD_eq_getElem?_getD]
      refine acall_is (dist_ok a b (by omega) (by omega) _ _ _ _) ?_; simp (maxSteps := 200000) (disch := omega) [-List.getD_eq_getElem?_getD]
      refine hK _ ?_; clear hK K
      have d1 := dist_ok b a (by omega) (by omega) [] [] .none .none
      rw [ed_symm b a] at d1
      have d2 := sameInts_ok a b ha hb [] [] .none .none
      have m1 := ed_le60 (a := a) (b := c) (by omega) (by omega)
      have m2 := ed_le60 (a := c) (b := b) (by omega) (by omega)
      have t1 := ed_tri a c b
      have b3 : decide ((ed a b : Int) ≤ (ed a c : Int) + (ed c b : Int)) = true := by simp; omega
      by_cases hab : a = b
      · have z : ed a b = 0 := (ed_zero a b).2 hab
        have b2 : (a == b) = true := by simpa using hab
        rw [b2] at d2
        refine aw_reg fun K hK => ?_; simp (maxSteps := 200000) (disch := omega) [-List.getD_eq_getElem?_getD]
        refine acall_is (d1) ?_; simp (maxSteps := 200000) (disch := omega) [-List.getD_eq_getElem?_getD]
        refine acall_is (d2) ?_; simp (maxSteps := 200000) (disch := omega) [-List.getD_eq_getElem?_getD, z]
        refine acall_is (dist_ok a c (by omega) (by omega) _ _ _ _) ?_; simp (maxSteps := 200000) (disch := omega) [-List.getD_eq_getElem?_getD]
        refine acall_is (dist_ok c b (by omega) (by omega) _ _ _ _) ?_; simp (maxSteps := 200000) (disch := omega) [-List.getD_eq_getElem?_getD]
        refine hK _ ?_; clear hK K
        refine aw_ret ?_; simp (maxSteps := 200000) (disch := omega) [-List.getD_eq_getElem?_getD]
        try omega
      · have z : ed a b ≠ 0 := fun h => hab ((ed_zero a b).1 h)
        have b1 : ((ed a b : Int) == 0) = false := by simpa using z
        have b2 : (a == b) = false := by simpa using hab
        rw [b2] at d2
        refine aw_reg fun K hK => ?_; simp (maxSteps := 200000) (disch := omega) [-List.getD_eq_getElem?_getD]
        refine acall_is (d1) ?_; simp (maxSteps := 200000) (disch := omega) [-List.getD_eq_getElem?_getD]
        (try simp (maxSteps := 200000) (disch := omega) [-List.getD_eq_getElem?_getD, b1])
        refine acall_is (d2) ?_; simp (maxSteps := 200000) (disch := omega) [-List.getD_eq_getElem?_getD]
        (try simp (maxSteps := 200000) (disch := omega) [-List.getD_eq_getElem?_getD, b1, z])
        refine acall_is (dist_ok a c (by omega) (by omega) _ _ _ _) ?_; simp (maxSteps := 200000) (disch := omega) [-List.getD_eq_getElem?_getD]
        refine acall_is (dist_ok c b (by omega) (by omega) _ _ _ _) ?_; simp (maxSteps := 200000) (disch := omega) [-List.getD_eq_getElem?_getD]
        refine hK _ ?_; clear hK K
        refine aw_ret ?_; simp (maxSteps := 200000) (disch := omega) [-List.getD_eq_getElem?_getD]
        try omega
    · rw [decide_eq_false h2] at f2
      refine aw_reg fun K hK => ?_; simp (maxSteps := 200000) (disch := omega) [-List.getD_eq_getElem?_getD]
      refine acall_is (f1) ?_; simp (maxSteps := 200000) (disch := omega) [-List.getD_eq_getElem?_getD]
      refine acall_is (f2) ?_; simp (maxSteps := 200000) (disch := omega) [-List.getD_eq_getElem?_getD]
      refine hK _ ?_; clear hK K
      refine aw_if rfl (fun h => ?_) (fun h => absurd h (by simp))
      refine aw_reg fun K hK => ?_; simp (maxSteps := 200000) (disch := omega) [-List.getD_eq_getElem?_getD]; refine hK _ ?_; clear hK K
      refine aw_ret ?_; simp (maxSteps := 200000) (disch := omega) [-List.getD_eq_getElem?_getD]
  · rw [decide_eq_false h1] at f1
    refine aw_reg fun K hK => ?_; simp (maxSteps := 200000) (disch := omega) [-List.getD_eq_getElem?_getD]
    refine acall_is (f1) ?_; simp (maxSteps := 200000) (disch := omega) [-List.getD_eq_getElem?_getD]
    refine hK _ ?_; clear hK K
    refine aw_if rfl (fun h => ?_) (fun h => absurd h (by simp))
    refine aw_reg fun K hK => ?_; simp (maxSteps := 200000) (disch := omega) [-List.getD_eq_getElem?_getD]; refine hK _ ?_; clear hK K
    refine aw_ret ?_; simp (maxSteps := 200000) (disch := omega) [-List.getD_eq_getElem?_getD]

theorem ints_app (a b : List Int) : ints a ++ ints b = ints (a ++ b) := by simp [ints]
theorem dist_app (a b c d : List Int) (h1 : a.length + b.length ≤ 1000) (h2 : c.length + d.length ≤ 1000) (H : List Blk) (T : Toks) (ta tb : Tag) :
    ACall Try.prog 24 [.sl (a.length + b.length) (ints a ++ ints b) ta, .sl (c.length + d.length) (ints c ++ ints d) tb] H T (Is (.int .i64 (ed (a ++ b) (c ++ d) : Nat)) H T) := by
  have := dist_ok (a ++ b) (c ++ d) (by simpa using h1) (by simpa using h2) H T ta tb
  rw [List.length_append, List.length_append, ← ints_app, ← ints_app] at this
  exact this

set_option maxRecDepth 100000 in
set_option maxHeartbeats 2000000 in
theorem ebounds_ok (a b c : List Int) (ha : a.length ≤ maxLen) (hb : b.length ≤ maxLen) (hc : c.length ≤ maxLen) :
    ACall Try.prog 6 [.sl a.length (ints a) .none, .sl b.length (ints b) .none, .sl c.length (ints c) .none] [] [] (fun r _ _ => r = .bool true) := by
  have hml : maxLen ≤ 9223372036854775807 := by decide
  have ha' := Nat.le_trans ha hml
  have hb' := Nat.le_trans hb hml
  have hc' := Nat.le_trans hc hml
  refine acall_enter 12 [] Try.ntmps6 Try.func6 rfl (fun _ _ => Try.call6 _ _) (by simp) (fun HO => ?_)
  refine aw_reg fun K hK => ?_; simp (maxSteps := 200000) (disch := omega) [-List.getD_eq_getElem?_getD]; refine hK _ ?_; clear hK K
  refine aw_then fun K1 hK1 => ?_
  refine aw_reg fun K hK => ?_; simp (maxSteps := 200000) (disch := omega) [-List.getD_eq_getElem?_getD]
  refine acall_is (awake_ok _ _) ?_; simp (maxSteps := 200000) (disch := omega) [-List.getD_eq_getElem?_getD]
  refine hK _ ?_; clear hK K
  refine aw_if rfl (fun h => absurd h (by simp)) (fun h => ?_)
  refine aw_skip ?_; simp (maxSteps := 200000) (disch := omega) [-List.getD_eq_getElem?_getD]
  refine hK1 _ ?_; clear hK1
  refine aw_then fun K1 hK1 => ?_
  by_cases h1 : 30 < a.length
  · have b1 : decide ((30 : Int) < a.length) = true := by simp; omega
    refine aw_reg fun K hK => ?_; simp (maxSteps := 200000) (disch := omega) [-List.getD_eq_getElem?_getD, b1, h1]; refine hK _ ?_; clear hK K
    refine aw_if rfl (fun h => ?_) (fun h => absurd h (by simp))
    refine aw_reg fun K hK => ?_; simp (maxSteps := 200000) (disch := omega) [-List.getD_eq_getElem?_getD]; refine hK _ ?_; clear hK K
    refine aw_ret ?_; simp (maxSteps := 200000) (disch := omega) [-List.getD_eq_getElem?_getD]
  · have b1 : decide ((30 : Int) < a.length) = false := by simp; omega
    by_cases h2 : 30 < b.length
    · have b2 : decide ((30 : Int) < b.length) = true := by simp; omega
      refine aw_reg fun K hK => ?_; simp (maxSteps := 200000) (disch := omega) [-List.getD_eq_getElem?_getD, b1, h1, b2, h2]; refine hK _ ?_; clear hK K
      refine aw_if rfl (fun h => ?_) (fun h => absurd h (by simp))
      refine aw_reg fun K hK => ?_; simp (maxSteps := 200000) (disch := omega) [-List.getD_eq_getElem?_getD]; refine hK _ ?_; clear hK K
      refine aw_ret ?_; simp (maxSteps := 200000) (disch := omega) [-List.getD_eq_getElem?_getD]
    · have b2 : decide ((30 : Int) < b.length) = false := by simp; omega
      by_cases h3 : 30 < c.length
      · have b3 : decide ((30 : Int) < c.length) = true := by simp; omega
        refine aw_reg fun K hK => ?_; simp (maxSteps := 200000) (disch := omega) [-List.getD_eq_getElem?_getD, b1, h1, b2, h2, b3, h3]; refine hK _ ?_; clear hK K
        refine aw_if rfl (fun h => ?_) (fun h => absurd h (by simp))
        refine aw_reg fun K hK => ?_; simp (maxSteps := 200000) (disch := omega) [-List.getD_eq_getElem?_getD]; refine hK _ ?_; clear hK K
        refine aw_ret ?_; simp (maxSteps := 200000) (disch := omega) [-List.getD_eq_getElem?_getD]
      · have b3 : decide ((30 : Int) < c.length) = false := by simp; omega
        refine aw_reg fun K hK => ?_; simp (maxSteps := 200000) (disch := omega) [-List.getD_eq_getElem?_getD, b1, h1, b2, h2, b3, h3]; refine hK _ ?_; clear hK K
        refine aw_if rfl (fun h => absurd h (by simp)) (fun h => ?_)
        refine aw_skip ?_; simp (maxSteps := 200000) (disch := omega) [-List.getD_eq_getElem?_getD]
        refine hK1 _ ?_; clear hK1
        refine aw_reg fun K hK => ?_; simp (maxSteps := 200000) (disch := omega) [-List.getD_eq_getElem?_getD]
        refine acall_is (dist_ok a b (by omega) (by omega) _ _ _ _) ?_; simp (maxSteps := 200000) (disch := omega) [-List.getD_eq_getElem?_getD]
        refine hK _ ?_; clear hK K
        refine aw_reg fun K hK => ?_; simp (maxSteps := 200000) (disch := omega) [-List.getD_eq_getElem?_getD]; refine hK _ ?_; clear hK K
        refine aw_reg fun K hK => ?_; simp (maxSteps := 200000) (disch := omega) [-List.getD_eq_getElem?_getD]; refine hK _ ?_; clear hK K
        refine aw_then fun K1 hK1 => ?_
        have l1 := ed_len a b
        have l2 := ed_max a b
        have m1 := ed_le60 (a := c) (b := b) (by omega) (by omega)
        have m2 := ed_le60 (a := a) (b := c) (by omega) (by omega)
        have t1 := ed_app c b a c
        have e1 := fun H T ta tb => dist_app c a c b (by omega) (by omega) H T ta tb
        have e2 := fun H T ta tb => dist_app a c b c (by omega) (by omega) H T ta tb
        rw [ed_pre] at e1
        rw [ed_suf] at e2
        have q1 : decide ((ed a b : Int) < (a.length : Int) - b.length) = false := by simp; omega
        have q2 : decide ((ed a b : Int) < (b.length : Int) - a.length) = false := by simp; omega
        have q3 : decide (max (a.length : Int) b.length < (ed a b : Int)) = false := by simp; omega
        refine aw_reg fun K hK => ?_; simp (maxSteps := 200000) (disch := omega) [-List.getD_eq_getElem?_getD, q1, q2, q3]
        refine acall_is (e1 _ _ _ _) ?_; simp (maxSteps := 200000) (disch := omega) [-List.getD_eq_getElem?_getD]
        refine acall_is (e2 _ _ _ _) ?_; simp (maxSteps := 200000) (disch := omega) [-List.getD_eq_getElem?_getD]
        refine hK _ ?_; clear hK K
        refine aw_if rfl (fun h => absurd h (by simp)) (fun h => ?_)
        refine aw_skip ?_; simp (maxSteps := 200000) (disch := omega) [-List.getD_eq_getElem?_getD]
        refine hK1 _ ?_; clear hK1
        refine aw_reg fun K hK => ?_; simp (maxSteps := 200000) (disch := omega) [-List.getD_eq_getElem?_getD]
        refine acall_is (dist_app c a b c (by omega) (by omega) _ _ _ _) ?_; simp (maxSteps := 200000) (disch := omega) [-List.getD_eq_getElem?_getD]
        refine acall_is (dist_ok c b (by omega) (by omega) _ _ _ _) ?_; simp (maxSteps := 200000) (disch := omega) [-List.getD_eq_getElem?_getD]
        refine acall_is (dist_ok a c (by omega) (by omega) _ _ _ _) ?_; simp (maxSteps := 200000) (disch := omega) [-List.getD_eq_getElem?_getD]
        refine hK _ ?_; clear hK K
        refine aw_ret ?_; simp (maxSteps := 200000) (disch := omega) [-List.getD_eq_getElem?_getD]
        have t2 := ed_tri (c ++ a) (c ++ b) (b ++ c)
        try omega
end Go.Proofs.Ytgndlhfnenlhkaa
