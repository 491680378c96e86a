/- PostingSets: the walk.
   Conditions: none. -/
import Derived.Test.YtlijaamjcpefoaaPFn23
namespace Go.Proofs.Ytlijaamjcpefoaa
open Go Go.Am Post
set_option linter.unusedVariables false

theorem mg_len {fA fB fAB : List Int → Int → List Int} (hA : ∀ o x, (fA o x).length ≤ o.length + 1) (hB : ∀ o x, (fB o x).length ≤ o.length + 1) (hAB : ∀ o x, (fAB o x).length ≤ o.length + 1) :
    ∀ (n : Nat) (a b o : List Int), (mgN fA fB fAB n a b o).length ≤ o.length + a.length + b.length := by
  intro n
  induction n with
  | zero => intro a b o; simp only [mgN]; omega
  | succ n ih =>
    intro a b o
    cases a with
    | nil =>
      cases b with
      | nil => simp only [mgN]; omega
      | cons y b => have := ih [] b (fB o y); have := hB o y; simp only [mgN, List.length_cons]; omega
    | cons x a =>
      cases b with
      | nil => have := ih a [] (fA o x); have := hA o x; simp only [mgN, List.length_cons]; omega
      | cons y b =>
        have e1 := ih a (y :: b) (fA o x)
        have e2 := ih (x :: a) b (fB o y)
        have e3 := ih a b (fAB o x)
        have := hA o x
        have := hB o y
        have := hAB o x
        simp only [List.length_cons] at e1 e2 ⊢
        rw [mgN]
        split
        · omega
        · split
          · omega
          · omega
theorem comb_len (kf : Bool → Bool → Bool) (a b : List Int) : (comb kf a b).length ≤ a.length + b.length := by
  have st : ∀ (k : Bool) (o : List Int) (x : Int), (if k = true then o ++ [x] else o).length ≤ o.length + 1 := fun k o x => by split <;> simp
  unfold comb
  split
  · have := mg_len (fA := fun o x => if kf true false then o ++ [x] else o) (fB := fun o x => if kf false true then o ++ [x] else o) (fAB := fun o x => if kf true true then o ++ [x] else o) (fun o x => st _ o x) (fun o x => st _ o x) (fun o x => st _ o x) (a.length + b.length) a b []
    simp only [List.length_nil, Nat.zero_add] at this
    exact this
  · simp
theorem keepR_len (f : Bool → Bool) (a b : List Int) : (keepR f a b).length ≤ a.length + b.length := by
  unfold keepR
  split
  · exact Nat.le_trans (List.length_filter_le _ _) (by omega)
  · simp

theorem psets_ok (a b : List Int) (ha : a.length ≤ maxLen) (hb : b.length ≤ maxLen) : ACall Try.prog 4 [.sl a.length (ints a) .none, .sl b.length (ints b) .none] [] [] (fun r _ _ => r = .bool true) := by
  have hml : 400 ≤ maxLen := by decide
  have cs := short_ok a b ha hb [] [] .none
  refine acall_enter 5 [] Try.ntmps4 Try.func4 rfl (fun _ _ => Try.call4 _ _) (by simp) (fun HO => ?_)
  refine aw_reg fun K hK => ?_; simp (maxSteps := 200000) (disch := omega) [-List.getD_eq_getElem?_getD]; refine hK _ ?_; clear hK K
  refine aw_then fun K1 hK1 => ?_
  refine aw_reg fun K hK => ?_; simp (maxSteps := 200000) (disch := omega) [-List.getD_eq_getElem?_getD]
  refine acall_is (awake_ok _ _) ?_; simp (maxSteps := 200000) (disch := omega) [-List.getD_eq_getElem?_getD]
  refine hK _ ?_; clear hK K
  refine aw_if rfl (fun h => absurd h (by simp)) (fun h => ?_)
  refine aw_skip ?_; simp (maxSteps := 200000) (disch := omega) [-List.getD_eq_getElem?_getD]
  refine hK1 _ ?_; clear hK1
  refine aw_then fun K1 hK1 => ?_
  by_cases hs : a.length ≤ 60 ∧ b.length ≤ 60
  · rw [decide_eq_true hs] at cs
    obtain ⟨h1, h2⟩ := hs
    refine aw_reg fun K hK => ?_; simp (maxSteps := 200000) (disch := omega) [-List.getD_eq_getElem?_getD]
    refine acall_is (cs) ?_; simp (maxSteps := 200000) (disch := omega) [-List.getD_eq_getElem?_getD]
    refine hK _ ?_; clear hK K
    refine aw_if rfl (fun h => absurd h (by simp)) (fun h => ?_)
    refine aw_skip ?_; simp (maxSteps := 200000) (disch := omega) [-List.getD_eq_getElem?_getD]
    refine hK1 _ ?_; clear hK1
    have c1 := validDocs_ok a ha [] [] .none
    have c2 := validDocsR_ok a ha [] [] .none
    have c3 := and_ok a b (by omega) (by omega) [] [] .none .none
    have c4 := andR_ok a b (by omega) (by omega) [] [] .none .none
    rw [and_eq] at c3
    have l1 : (keepR (fun m => m) a b).length ≤ maxLen := Nat.le_trans (keepR_len _ a b) (by omega)
    have c5 := ints_ok (keepR (fun m => m) a b) (keepR (fun m => m) a b) l1 l1 [] [] .none .none
    have c6 := or_ok a b (by omega) (by omega) [] [] .none .none
    have c7 := orR_ok a b (by omega) (by omega) [] []
    have l2 : (comb (fun _ _ => true) a b).length ≤ maxLen := Nat.le_trans (comb_len _ a b) (by omega)
    have c8 := ints_ok (comb (fun _ _ => true) a b) (comb (fun _ _ => true) a b) l2 l2 [] [] .none .none
    have c9 := without_ok a b (by omega) (by omega) [] [] .none .none
    have c10 := withoutR_ok a b (by omega) (by omega) [] [] .none .none
    rw [without_eq] at c9
    have l3 : (keepR (fun m => !m) a b).length ≤ maxLen := Nat.le_trans (keepR_len _ a b) (by omega)
    have c11 := ints_ok (keepR (fun m => !m) a b) (keepR (fun m => !m) a b) l3 l3 [] [] .none .none
    rw [beq_self_eq_true] at c5 c8 c11
    refine aw_reg fun K hK => ?_; simp (maxSteps := 200000) (disch := omega) [-List.getD_eq_getElem?_getD]
    refine acall_is (c1) ?_; simp (maxSteps := 200000) (disch := omega) [-List.getD_eq_getElem?_getD]
    refine acall_is (c2) ?_; simp (maxSteps := 200000) (disch := omega) [-List.getD_eq_getElem?_getD]
    refine acall_is (c3) ?_; simp (maxSteps := 200000) (disch := omega) [-List.getD_eq_getElem?_getD]
    refine acall_is (c4) ?_; simp (maxSteps := 200000) (disch := omega) [-List.getD_eq_getElem?_getD]
    refine acall_is (c5) ?_; simp (maxSteps := 200000) (disch := omega) [-List.getD_eq_getElem?_getD]
    refine acall_is (c6) ?_; simp (maxSteps := 200000) (disch := omega) [-List.getD_eq_getElem?_getD]
    refine acall_is (c7) ?_; simp (maxSteps := 200000) (disch := omega) [-List.getD_eq_getElem?_getD]
    refine acall_is (c8) ?_; simp (maxSteps := 200000) (disch := omega) [-List.getD_eq_getElem?_getD]
    refine acall_is (c9) ?_; simp (maxSteps := 200000) (disch := omega) [-List.getD_eq_getElem?_getD]
    refine acall_is (c10) ?_; simp (maxSteps := 200000) (disch := omega) [-List.getD_eq_getElem?_getD]
    refine acall_is (c11) ?_; simp (maxSteps := 200000) (disch := omega) [-List.getD_eq_getElem?_getD]
    refine hK _ ?_; clear hK K
    refine aw_ret ?_; simp (maxSteps := 200000) (disch := omega) [-List.getD_eq_getElem?_getD]
  · rw [decide_eq_false hs] at cs
    refine aw_reg fun K hK => ?_; simp (maxSteps := 200000) (disch := omega) [-List.getD_eq_getElem?_getD]
    refine acall_is (cs) ?_; simp (maxSteps := 200000) (disch := omega) [-List.getD_eq_getElem?_getD]
    refine hK _ ?_; clear hK K
    refine aw_if rfl (fun h => ?_) (fun h => absurd h (by simp))
    refine aw_reg fun K hK => ?_; simp (maxSteps := 200000) (disch := omega) [-List.getD_eq_getElem?_getD]; refine hK _ ?_; clear hK K
    refine aw_ret ?_; simp (maxSteps := 200000) (disch := omega) [-List.getD_eq_getElem?_getD]
end Go.Proofs.Ytlijaamjcpefoaa
