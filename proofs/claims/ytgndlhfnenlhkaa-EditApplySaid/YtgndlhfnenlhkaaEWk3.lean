/- EditLeast: the walk.
   Conditions: none. -/
import Derived.Test.YtgndlhfnenlhkaaEWk1
import Derived.Test.YtgndlhfnenlhkaaEFn11
namespace Go.Proofs.Ytgndlhfnenlhkaa
open Go Go.Am Edit
set_option linter.unusedVariables false

theorem apply_len : ∀ (l : List (Int × Int)) (a y : List Int), apply a l = some y → y.length ≤ l.length := by
  intro l
  induction l with
  | nil =>
    intro a y h
    cases a with
    | nil => simp [apply] at h; subst h; exact Nat.le_refl _
    | cons x a => simp [apply] at h
  | cons p l ih =>
    intro a y h
    obtain ⟨k, c⟩ := p
    by_cases h4 : k = 4
    · subst h4
      rw [apply_ins] at h
      obtain ⟨y', h1, rfl⟩ := Option.map_eq_some_iff.1 h
      have := ih a y' h1
      simp only [List.length_cons]
      omega
    · cases a with
      | nil => simp [apply, h4] at h
      | cons x a =>
        simp only [apply, if_neg h4] at h
        by_cases h1 : k = 1
        · rw [if_pos h1] at h
          obtain ⟨y', h2, rfl⟩ := Option.map_eq_some_iff.1 h
          have := ih a y' h2
          simp only [List.length_cons]
          omega
        · rw [if_neg h1] at h
          by_cases h3 : k = 2
          · rw [if_pos h3] at h
            obtain ⟨y', h2, rfl⟩ := Option.map_eq_some_iff.1 h
            have := ih a y' h2
            simp only [List.length_cons]
            omega
          · rw [if_neg h3] at h
            have := ih a y h
            simp only [List.length_cons]
            omega

theorem applyR_sc (a b : List Int) : applyR a (sc a b) = (0, b) := by
  obtain ⟨h1, _, _, h4⟩ := scN_apply (a.length + b.length) a b (Nat.le_refl _)
  have hall : (sc a b).all okOp = true := by
    rw [List.all_eq_true]
    intro p hp
    obtain ⟨g1, g2⟩ := h4 p hp
    unfold okOp
    rcases g1 with g | g | g | g
    · have := g2 (.inl g); simp [g, this]
    · simp [g]
    · have := g2 (.inr g); simp [g, this]
    · simp [g]
  have h1' : apply a (sc a b) = some b := h1
  unfold applyR
  rw [if_pos hall, h1']

theorem applyR_ok {a : List Int} {l : List (Int × Int)} (h : (applyR a l).1 = 0) : ed a (applyR a l).2 ≤ cost l ∧ (applyR a l).2.length ≤ l.length := by
  unfold applyR at h ⊢
  split at h
  · rename_i hall
    rw [if_pos hall]
    cases hy : apply a l with
    | none => rw [hy] at h; exact absurd h (by decide)
    | some y =>
      refine ⟨(apply_al l a y (fun p hp => ?_) hy).le, apply_len l a y hy⟩
      rcases okOp_cases (List.all_eq_true.1 hall p hp) with h | h | h | h
      · exact .inl h.1
      · exact .inr (.inl h)
      · exact .inr (.inr (.inl h.1))
      · exact .inr (.inr (.inr h))
  · exact absurd h (by decide)

theorem cost_le (l : List (Int × Int)) : cost l ≤ l.length := List.length_filter_le _ _

set_option maxRecDepth 100000 in
set_option maxHeartbeats 2000000 in
theorem eleast_ok (a b : List Int) (l : List (Int × Int)) (ha : a.length ≤ maxLen) (hb : b.length ≤ maxLen) (hl : l.length ≤ maxLen) :
    ACall Try.prog 9 [.sl a.length (ints a) .none, .sl b.length (ints b) .none, .sl l.length (opsAV l) .none] [] [] (fun r _ _ => r = .bool true) := by
  have hml : maxLen ≤ 9223372036854775807 := by decide
  have hl' := Nat.le_trans hl hml
  refine acall_enter 12 [] Try.ntmps9 Try.func9 rfl (fun _ _ => Try.call9 _ _) (by simp) (fun HO => ?_)
  refine aw_reg fun K hK => ?_; simp (maxSteps := 200000) (disch := omega) [-List.getD_eq_getElem?_getD]; refine hK _ ?_; clear hK K
  refine aw_then fun K1 hK1 => ?_
  refine aw_reg fun K hK => ?_; simp (maxSteps := 200000) (disch := omega) [-List.getD_eq_getElem?_getD]
  refine acall_is (awake_ok _ _) ?_; simp (maxSteps := 200000) (disch := omega) [-List.getD_eq_getElem?_getD]
  refine hK _ ?_; clear hK K
  refine aw_if rfl (fun h => absurd h (by simp)) (fun h => ?_)
  refine aw_skip ?_; simp (maxSteps := 200000) (disch := omega) [-List.getD_eq_getElem?_getD]
  refine hK1 _ ?_; clear hK1
  refine aw_then fun K1 hK1 => ?_
  have f1 := few_ok a b ha hb [] []
  by_cases h1 : a.length ≤ 60 ∧ b.length ≤ 60
  · rw [decide_eq_true h1] at f1
    by_cases h2 : 60 < l.length
    · have b2 : decide ((60 : Int) < l.length) = true := by simp; omega
      refine aw_reg fun K hK => ?_; simp (maxSteps := 200000) (disch := omega) [-List.getD_eq_getElem?_getD]
      refine acall_is (f1) ?_; simp (maxSteps := 200000) (disch := omega) [-List.getD_eq_getElem?_getD, b2, h2]
      refine hK _ ?_; clear hK K
      refine aw_if rfl (fun h => ?_) (fun h => absurd h (by simp))
      refine aw_reg fun K hK => ?_; simp (maxSteps := 200000) (disch := omega) [-List.getD_eq_getElem?_getD]; refine hK _ ?_; clear hK K
      refine aw_ret ?_; simp (maxSteps := 200000) (disch := omega) [-List.getD_eq_getElem?_getD]
    · have b2 : decide ((60 : Int) < l.length) = false := by simp; omega
      refine aw_reg fun K hK => ?_; simp (maxSteps := 200000) (disch := omega) [-List.getD_eq_getElem?_getD]
      refine acall_is (f1) ?_; simp (maxSteps := 200000) (disch := omega) [-List.getD_eq_getElem?_getD, b2, h2]
      refine hK _ ?_; clear hK K
      refine aw_if rfl (fun h => absurd h (by simp)) (fun h => ?_)
      refine aw_skip ?_; simp (maxSteps := 200000) (disch := omega) [-List.getD_eq_getElem?_getD]
      refine hK1 _ ?_; clear hK1
      obtain ⟨s1, s2, s3, s4⟩ := scN_apply (a.length + b.length) a b (Nat.le_refl _)
      change cost (sc a b) = ed a b at s2
      change (sc a b).length ≤ a.length + b.length at s3
      have c1 := script_ok a b (by omega) (by omega) [] [] .none .none
      have c2 := apply_ok a (sc a b) (by omega) (by omega) [] [] .none .none
      rw [applyR_sc] at c2
      have c3 := sameInts_ok b b hb hb [] [] .none .none
      rw [show (b == b) = true from by simp] at c3
      have c4 := cost_ok (sc a b) (by omega) [] [] .none
      rw [s2] at c4
      have c5 := dist_ok a b (by omega) (by omega) [] [] .none .none
      have c6 := own_ok l (by omega) [] [] .none
      have c7 := apply_ok a l (by omega) (by omega) [] [] .none .none
      have c8 := cost_ok l (by omega) [] [] .none
      have hap := applyR_ok (a := a) (l := l)
      have hcl := cost_le l
      generalize sc a b = s at *
      generalize applyR a l = q at *
      obtain ⟨e, y⟩ := q
      simp only at hap c7
      refine aw_reg fun K hK => ?_; simp (maxSteps := 200000) (disch := omega) [-List.getD_eq_getElem?_getD]
      refine acall_is (c1) ?_; simp (maxSteps := 200000) (disch := omega) [-List.getD_eq_getElem?_getD]
      refine hK _ ?_; clear hK K
      refine aw_reg fun K hK => ?_; simp (maxSteps := 200000) (disch := omega) [-List.getD_eq_getElem?_getD]
      refine acall_is (c2) ?_; simp (maxSteps := 200000) (disch := omega) [-List.getD_eq_getElem?_getD]
      refine hK _ ?_; clear hK K
      refine aw_then fun K1 hK1 => ?_
      refine aw_reg fun K hK => ?_; simp (maxSteps := 200000) (disch := omega) [-List.getD_eq_getElem?_getD]
      refine acall_is (c3) ?_; simp (maxSteps := 200000) (disch := omega) [-List.getD_eq_getElem?_getD]
      refine acall_is (c4) ?_; simp (maxSteps := 200000) (disch := omega) [-List.getD_eq_getElem?_getD]
      refine acall_is (c5) ?_; simp (maxSteps := 200000) (disch := omega) [-List.getD_eq_getElem?_getD]
      refine hK _ ?_; clear hK K
      refine aw_if rfl (fun h => absurd h (by simp)) (fun h => ?_)
      refine aw_skip ?_; simp (maxSteps := 200000) (disch := omega) [-List.getD_eq_getElem?_getD]
      refine hK1 _ ?_; clear hK1
      refine aw_reg fun K hK => ?_; simp (maxSteps := 200000) (disch := omega) [-List.getD_eq_getElem?_getD]
      refine acall_is (c6) ?_; simp (maxSteps := 200000) (disch := omega) [-List.getD_eq_getElem?_getD]
      refine acall_is (c7) ?_; simp (maxSteps := 200000) (disch := omega) [-List.getD_eq_getElem?_getD]
      refine hK _ ?_; clear hK K
      by_cases he : e = 0
      · subst he
        obtain ⟨g1, g2⟩ := hap rfl
        have c9 := dist_ok a y (by omega) (by omega) [] [] .none .none
        have q1 : decide ((ed a y : Int) ≤ (cost l : Int)) = true := by simp; omega
        refine aw_reg fun K hK => ?_; simp (maxSteps := 200000) (disch := omega) [-List.getD_eq_getElem?_getD]
        refine acall_is (c9) ?_; simp (maxSteps := 200000) (disch := omega) [-List.getD_eq_getElem?_getD]
        refine acall_is (c6) ?_; simp (maxSteps := 200000) (disch := omega) [-List.getD_eq_getElem?_getD]
        refine acall_is (c8) ?_; simp (maxSteps := 200000) (disch := omega) [-List.getD_eq_getElem?_getD, q1, g1]
        refine hK _ ?_; clear hK K
        refine aw_ret ?_; simp (maxSteps := 200000) (disch := omega) [-List.getD_eq_getElem?_getD]
      · have b3 : (e != 0) = true := by simpa using he
        refine aw_reg fun K hK => ?_; simp (maxSteps := 200000) (disch := omega) [-List.getD_eq_getElem?_getD, b3, he]; refine hK _ ?_; clear hK K
        refine aw_ret ?_; simp (maxSteps := 200000) (disch := omega) [-List.getD_eq_getElem?_getD]
  · rw [decide_eq_false h1] at f1
    refine aw_reg fun K hK => ?_; simp (maxSteps := 200000) (disch := omega) [-List.getD_eq_getElem?_getD]
    refine acall_is (f1) ?_; simp (maxSteps := 200000) (disch := omega) [-List.getD_eq_getElem?_getD]
    refine hK _ ?_; clear hK K
    refine aw_if rfl (fun h => ?_) (fun h => absurd h (by simp))
    refine aw_reg fun K hK => ?_; simp (maxSteps := 200000) (disch := omega) [-List.getD_eq_getElem?_getD]; refine hK _ ?_; clear hK K
    refine aw_ret ?_; simp (maxSteps := 200000) (disch := omega) [-List.getD_eq_getElem?_getD]
end Go.Proofs.Ytgndlhfnenlhkaa
