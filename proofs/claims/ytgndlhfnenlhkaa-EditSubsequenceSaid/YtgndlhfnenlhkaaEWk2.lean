/- EditSubsequence: the walk.
   Conditions: none. -/
import Derived.Test.YtgndlhfnenlhkaaEWk1
namespace Go.Proofs.Ytgndlhfnenlhkaa
open Go Go.Am Edit
set_option linter.unusedVariables false

@[simp] theorem ite_maxN (m n : Nat) : (if m < n then (n : Int) else (m : Int)) = max (m : Int) n := by split <;> omega
@[simp] theorem ite_minN (m n : Nat) : (if n < m then (n : Int) else (m : Int)) = min (m : Int) n := by split <;> omega

def inside : List Int → List Int → Bool
  | l, [] => l.isEmpty
  | [], _ :: _ => true
  | x :: l, y :: a => if y = x then inside l a else inside (x :: l) a

theorem inside_nil (a : List Int) : inside [] a = true := by cases a <;> rfl
theorem inside_sub : ∀ (a l : List Int), inside l a = true ↔ l.Sublist a := by
  intro a
  induction a with
  | nil =>
    intro l
    cases l with
    | nil => simp [inside]
    | cons x l => simp [inside]
  | cons y a ih =>
    intro l
    cases l with
    | nil => simp [inside]
    | cons x l =>
      rw [inside]
      by_cases h : y = x
      · subst h
        rw [if_pos rfl, ih l, List.cons_sublist_cons]
      · rw [if_neg h, ih (x :: l)]
        constructor
        · intro g; exact g.cons y
        · intro g
          cases g with
          | cons _ g => exact g
          | cons_cons _ g => exact absurd rfl h

theorem inside_ok (l a : List Int) (hl : l.length ≤ maxLen) (ha : a.length ≤ maxLen) (H : List Blk) (T : Toks) (tl ta : Tag) : ACall Try.prog 25 [.sl l.length (ints l) tl, .sl a.length (ints a) ta] H T (Is (.bool (inside l a)) H T) := by
  refine ACall.untag1 (ACall.untag2 ?_)
  have hml : maxLen ≤ 9223372036854775807 := by decide
  have ha' := Nat.le_trans ha hml
  have hl' := Nat.le_trans hl hml
  refine acall_enter 7 [] Try.ntmps25 Try.func25 rfl (fun _ _ => Try.call25 _ _) (by simp) (fun HO => ?_)
  refine aw_reg fun K hK => ?_; simp (maxSteps := 200000) (disch := omega) [-List.getD_eq_getElem?_getD]; refine hK _ ?_; clear hK K
  refine aw_reg fun K hK => ?_; simp (maxSteps := 200000) (disch := omega) [-List.getD_eq_getElem?_getD]; refine hK _ ?_; clear hK K
  refine aw_then fun K1 hK1 => ?_
  refine aw_reg fun K hK => ?_; simp (maxSteps := 200000) (disch := omega) [-List.getD_eq_getElem?_getD]; refine hK _ ?_; clear hK K
  refine aw_block ?_
  refine aw_loop (X := Nat × Nat) (fun x => ⟨[(0, .sl l.length (ints l) .none), (1, .sl a.length (ints a) .none), (5, .int .i64 (x.1 : Nat)), (6, .int .i64 (x.2 : Nat))], H, T⟩) (fun x => x.1 ≤ l.length ∧ x.2 ≤ a.length ∧ inside l a = inside (l.drop x.1) (a.drop x.2)) (fun x => a.length - x.2) (0, 0) ?_ ?_ ?_
  · exact ⟨Nat.zero_le _, Nat.zero_le _, rfl⟩
  · refine weak_to [] [] ?_ ?_ ?_ ?_ HO ?_
    all_goals simp
  · rintro ⟨k, i⟩ ⟨h1, h2, h3⟩
    simp only at h1 h2 h3
    by_cases hi : i < a.length
    · have bi : decide ((i : Int) < a.length) = true := by simp; omega
      by_cases hk : k < l.length
      · have bk : decide ((k : Int) < l.length) = true := by simp; omega
        rw [drop_cons0 l k hk, drop_cons0 a i hi, inside] at h3
        refine aw_then fun K2 hK2 => ?_
        refine aw_reg fun K hK => ?_; simp (maxSteps := 200000) (disch := omega) [-List.getD_eq_getElem?_getD, bi, bk, hi, hk]; refine hK _ ?_; clear hK K
        refine aw_if rfl (fun h => ?_) (fun h => absurd h (by simp))
        refine aw_skip ?_; simp (maxSteps := 200000) (disch := omega) [-List.getD_eq_getElem?_getD]
        refine hK2 _ ?_; clear hK2
        refine aw_then fun K3 hK3 => ?_
        refine aw_block ?_
        by_cases hc : a.getD i 0 = l.getD k 0
        · have b3 : (a.getD i 0 == l.getD k 0) = true := by simpa using hc
          rw [if_pos hc] at h3
          refine aw_draw [] [] [] drawMixed (by kernel_rfl) (by kernel_rfl) fun K hK => ?_; simp (maxSteps := 200000) (disch := omega) [-List.getD_eq_getElem?_getD, getD_ints, b3]
          refine hK _ ?_; clear hK K
          refine aw_if rfl (fun h => ?_) (fun h => absurd h (by simp))
          refine aw_reg0 fun K hK => ?_; simp (maxSteps := 200000) (disch := omega) [-List.getD_eq_getElem?_getD]
          refine hK _ ?_; clear hK K
          refine hK3 _ ?_; clear hK3
          refine aw_reg0 fun K hK => ?_; simp (maxSteps := 200000) (disch := omega) [-List.getD_eq_getElem?_getD]
          refine hK _ ?_; clear hK K
          refine ⟨(k + 1, i + 1), ⟨by show k + 1 ≤ _; omega, by show i + 1 ≤ _; omega, h3⟩, by show a.length - (i + 1) < a.length - i; omega, ?_⟩
          refine weak_to [] [] ?_ ?_ ?_ ?_ HO ?_
          all_goals simp
        · have b3 : (a.getD i 0 == l.getD k 0) = false := by simpa using hc
          rw [if_neg hc, ← drop_cons0 l k hk] at h3
          refine aw_draw [] [] [] drawMixed (by kernel_rfl) (by kernel_rfl) fun K hK => ?_; simp (maxSteps := 200000) (disch := omega) [-List.getD_eq_getElem?_getD, getD_ints, b3]
          refine hK _ ?_; clear hK K
          refine aw_if rfl (fun h => absurd h (by simp)) (fun h => ?_)
          refine aw_skip ?_; simp (maxSteps := 200000) (disch := omega) [-List.getD_eq_getElem?_getD]
          refine hK3 _ ?_; clear hK3
          refine aw_reg0 fun K hK => ?_; simp (maxSteps := 200000) (disch := omega) [-List.getD_eq_getElem?_getD]
          refine hK _ ?_; clear hK K
          refine ⟨(k, i + 1), ⟨h1, by show i + 1 ≤ _; omega, h3⟩, by show a.length - (i + 1) < a.length - i; omega, ?_⟩
          refine weak_to [] [] ?_ ?_ ?_ ?_ HO ?_
          all_goals simp
      · have bk : decide ((k : Int) < l.length) = false := by simp; omega
        have hkl : k = l.length := by omega
        rw [hkl, List.drop_length, inside_nil] at h3
        refine aw_then fun K2 hK2 => ?_
        refine aw_reg fun K hK => ?_; simp (maxSteps := 200000) (disch := omega) [-List.getD_eq_getElem?_getD, bi, bk, hi, hk]; refine hK _ ?_; clear hK K
        refine aw_if rfl (fun h => absurd h (by simp)) (fun h => ?_)
        refine aw_exit ?_; simp (maxSteps := 200000) (disch := omega) [-List.getD_eq_getElem?_getD]
        refine hK1 _ ?_; clear hK1
        refine aw_reg fun K hK => ?_; simp (maxSteps := 200000) (disch := omega) [-List.getD_eq_getElem?_getD]; refine hK _ ?_; clear hK K
        refine aw_ret ?_; simp (maxSteps := 200000) (disch := omega) [-List.getD_eq_getElem?_getD]
        rw [h3]
        simp [hkl]
        exact ⟨rfl, rfl, rfl⟩
    · have bi : decide ((i : Int) < a.length) = false := by simp; omega
      have hia : i = a.length := by omega
      rw [hia, List.drop_length] at h3
      refine aw_then fun K2 hK2 => ?_
      refine aw_reg fun K hK => ?_; simp (maxSteps := 200000) (disch := omega) [-List.getD_eq_getElem?_getD, bi, hi]; refine hK _ ?_; clear hK K
      refine aw_if rfl (fun h => absurd h (by simp)) (fun h => ?_)
      refine aw_exit ?_; simp (maxSteps := 200000) (disch := omega) [-List.getD_eq_getElem?_getD]
      refine hK1 _ ?_; clear hK1
      refine aw_reg fun K hK => ?_; simp (maxSteps := 200000) (disch := omega) [-List.getD_eq_getElem?_getD]; refine hK _ ?_; clear hK K
      refine aw_ret ?_; simp (maxSteps := 200000) (disch := omega) [-List.getD_eq_getElem?_getD]
      rw [h3]
      by_cases hk : k = l.length
      · rw [hk, List.drop_length]
        simp [inside]
        exact ⟨rfl, rfl, rfl⟩
      · have hk2 : k < l.length := by omega
        have e : ((k : Int) == (l.length : Int)) = false := by simp; omega
        rw [drop_cons0 l k hk2, e]
        simp [inside]
        exact ⟨rfl, rfl, rfl⟩

set_option maxRecDepth 100000 in
set_option maxHeartbeats 2000000 in
theorem esub_ok (a b c : List Int) (ha : a.length ≤ maxLen) (hb : b.length ≤ maxLen) (hc : c.length ≤ maxLen) :
    ACall Try.prog 7 [.sl a.length (ints a) .none, .sl b.length (ints b) .none, .sl c.length (ints c) .none] [] [] (fun r _ _ => r = .bool true) := by
  have hml : (60 : Nat) ≤ maxLen := by decide
  refine acall_enter 9 [] Try.ntmps7 Try.func7 rfl (fun _ _ => Try.call7 _ _) (by simp) (fun HO => ?_)
  refine aw_reg fun K hK => ?_; simp (maxSteps := 200000) (disch := omega) [-List.getD_eq_getElem?_getD]; refine hK _ ?_; clear hK K
  refine aw_then fun K1 hK1 => ?_
  refine aw_reg fun K hK => ?_; simp (maxSteps := 200000) (disch := omega) [-List.getD_eq_getElem?_getD]
  refine acall_is (awake_ok _ _) ?_; simp (maxSteps := 200000) (disch := omega) [-List.getD_eq_getElem?_getD]
  refine hK _ ?_; clear hK K
  refine aw_if rfl (fun h => absurd h (by simp)) (fun h => ?_)
  refine aw_skip ?_; simp (maxSteps := 200000) (disch := omega) [-List.getD_eq_getElem?_getD]
  refine hK1 _ ?_; clear hK1
  refine aw_then fun K1 hK1 => ?_
  have f1 := few_ok a b ha hb [] []
  have f2 := few_nil c hc [] []
  by_cases h1 : a.length ≤ 60 ∧ b.length ≤ 60
  · rw [decide_eq_true h1] at f1
    by_cases h2 : c.length ≤ 60
    · rw [decide_eq_true h2] at f2
      refine aw_reg fun K hK => ?_; simp (maxSteps := 200000) (disch := omega) [-List.getD_eq_getElem?_getD]
      refine acall_is (f1) ?_; simp (maxSteps := 200000) (disch := omega) [-List.getD_eq_getElem?_getD]
      refine acall_is (f2) ?_; simp (maxSteps := 200000) (disch := omega) [-List.getD_eq_getElem?_getD]
      refine hK _ ?_; clear hK K
      refine aw_if rfl (fun h => absurd h (by simp)) (fun h => ?_)
      refine aw_skip ?_; simp (maxSteps := 200000) (disch := omega) [-List.getD_eq_getElem?_getD]
      refine hK1 _ ?_; clear hK1
      have s1 := (ssN_sub (a.length + b.length) a b).1
      have s2 := (ssN_sub (a.length + b.length) a b).2
      have s3 := ssN_len (a.length + b.length) a b (Nat.le_refl _)
      have s4 := lc_le a b
      have s5 := lc_sub a b c
      have s6 := (edAl a b).lc
      have s7 := (al_sub a b _ s1 s2).le
      have m1 := ed_le60 (a := a) (b := b) (by omega) (by omega)
      have c1 := subseq_ok a b (by omega) (by omega) [] [] .none .none
      change (ss a b).Sublist a at s1
      change (ss a b).Sublist b at s2
      change (ss a b).length = lc a b at s3
      change ed a b ≤ a.length + b.length - 2 * (ss a b).length at s7
      generalize ss a b = s at *
      have c2 := inside_ok s a (by omega) ha [] [] .none .none
      have c3 := inside_ok s b (by omega) hb [] [] .none .none
      rw [(inside_sub a s).2 s1] at c2
      rw [(inside_sub b s).2 s2] at c3
      have c4 := inside_ok c a hc ha [] [] .none .none
      have c5 := inside_ok c b hc hb [] [] .none .none
      refine aw_reg fun K hK => ?_; simp (maxSteps := 200000) (disch := omega) [-List.getD_eq_getElem?_getD]
      refine acall_is (c1) ?_; simp (maxSteps := 200000) (disch := omega) [-List.getD_eq_getElem?_getD]
      refine hK _ ?_; clear hK K
      refine aw_then fun K1 hK1 => ?_
      refine aw_reg fun K hK => ?_
      have key : ∀ e, envLe 0 0 e [(0, .sl a.length (ints a) .none), (1, .sl b.length (ints b) .none), (7, .sl s.length (ints s) .none), (49, .bool false)] → K ⟨e, [], []⟩ := by
        intro e he
        refine hK _ (aw_weak ⟨[(0, .sl a.length (ints a) .none), (1, .sl b.length (ints b) .none), (7, .sl s.length (ints s) .none), (49, .bool false)], [], []⟩ (weak_to [] [] (by simp) (by simp) (by simp) (by simp) HO he) ?_)
        refine aw_if rfl (fun h => absurd h (by simp)) (fun h => ?_)
        refine aw_skip ?_; simp (maxSteps := 200000) (disch := omega) [-List.getD_eq_getElem?_getD]
        refine hK1 _ ?_; clear hK1
        refine aw_reg fun K hK => ?_; simp (maxSteps := 200000) (disch := omega) [-List.getD_eq_getElem?_getD]
        refine acall_is (dist_ok a b (by omega) (by omega) _ _ _ _) ?_; simp (maxSteps := 200000) (disch := omega) [-List.getD_eq_getElem?_getD]
        refine hK _ ?_; clear hK K
        have q1 : decide (max (a.length : Int) b.length - s.length ≤ (ed a b : Int)) = true := by simp; omega
        have q2 : decide ((ed a b : Int) ≤ (a.length : Int) + b.length - 2 * s.length) = true := by simp; omega
        have q3 : max (a.length : Int) b.length - s.length ≤ (ed a b : Int) := by simpa using q1
        have q4 : (ed a b : Int) ≤ (a.length : Int) + b.length - 2 * s.length := by simpa using q2
        have w1 : IntKind.i64.wrap (max (a.length : Int) b.length - s.length) = max (a.length : Int) b.length - s.length := by rw [IntKind.wrap_i64]; omega
        have w2 : IntKind.i64.wrap ((a.length : Int) + b.length) = (a.length : Int) + b.length := by rw [IntKind.wrap_i64]; omega
        have w3 : IntKind.i64.wrap (2 * (s.length : Int)) = 2 * (s.length : Int) := by rw [IntKind.wrap_i64]; omega
        have w4 : IntKind.i64.wrap ((a.length : Int) + b.length - 2 * s.length) = (a.length : Int) + b.length - 2 * s.length := by rw [IntKind.wrap_i64]; omega
        refine aw_reg fun K hK => ?_; simp (maxSteps := 200000) (disch := omega) [-List.getD_eq_getElem?_getD, q1, q2, q3, q4, w1, w2, w3, w4]; refine hK _ ?_; clear hK K
        refine aw_ret ?_; simp (maxSteps := 200000) (disch := omega) [-List.getD_eq_getElem?_getD]
      clear hK
      simp (maxSteps := 200000) (disch := omega) [-List.getD_eq_getElem?_getD]
      refine acall_is (c2) ?_; simp (maxSteps := 200000) (disch := omega) [-List.getD_eq_getElem?_getD]
      refine acall_is (c3) ?_; simp (maxSteps := 200000) (disch := omega) [-List.getD_eq_getElem?_getD]
      cases e1 : inside c a with
      | false =>
        rw [e1] at c4
        refine acall_is (c4) ?_; simp (maxSteps := 200000) (disch := omega) [-List.getD_eq_getElem?_getD]
        refine key _ ?_
        simp
      | true =>
        rw [e1] at c4
        refine acall_is (c4) ?_; simp (maxSteps := 200000) (disch := omega) [-List.getD_eq_getElem?_getD]
        cases e2 : inside c b with
        | false =>
          rw [e2] at c5
          refine acall_is (c5) ?_; simp (maxSteps := 200000) (disch := omega) [-List.getD_eq_getElem?_getD]
          refine key _ ?_
          simp
        | true =>
          rw [e2] at c5
          have s8 := s5 ((inside_sub a c).1 e1) ((inside_sub b c).1 e2)
          have q3 : decide ((s.length : Int) < c.length) = false := by simp; omega
          have q4 : ¬ s.length < c.length := by omega
          refine acall_is (c5) ?_; simp (maxSteps := 200000) (disch := omega) [-List.getD_eq_getElem?_getD, q3, q4]
          refine key _ ?_
          simp
    · rw [decide_eq_false h2] at f2
      refine aw_reg fun K hK => ?_; simp (maxSteps := 200000) (disch := omega) [-List.getD_eq_getElem?_getD]
      refine acall_is (f1) ?_; simp (maxSteps := 200000) (disch := omega) [-List.getD_eq_getElem?_getD]
      refine acall_is (f2) ?_; simp (maxSteps := 200000) (disch := omega) [-List.getD_eq_getElem?_getD]
      refine hK _ ?_; clear hK K
      refine aw_if rfl (fun h => ?_) (fun h => absurd h (by simp))
      refine aw_reg fun K hK => ?_; simp (maxSteps := 200000) (disch := omega) [-List.getD_eq_getElem?_getD]; refine hK _ ?_; clear hK K
      refine aw_ret ?_; simp (maxSteps := 200000) (disch := omega) [-List.getD_eq_getElem?_getD]
  · rw [decide_eq_false h1] at f1
    refine aw_reg fun K hK => ?_; simp (maxSteps := 200000) (disch := omega) [-List.getD_eq_getElem?_getD]
    refine acall_is (f1) ?_; simp (maxSteps := 200000) (disch := omega) [-List.getD_eq_getElem?_getD]
    refine hK _ ?_; clear hK K
    refine aw_if rfl (fun h => ?_) (fun h => absurd h (by simp))
    refine aw_reg fun K hK => ?_; simp (maxSteps := 200000) (disch := omega) [-List.getD_eq_getElem?_getD]; refine hK _ ?_; clear hK K
    refine aw_ret ?_; simp (maxSteps := 200000) (disch := omega) [-List.getD_eq_getElem?_getD]
end Go.Proofs.Ytgndlhfnenlhkaa
