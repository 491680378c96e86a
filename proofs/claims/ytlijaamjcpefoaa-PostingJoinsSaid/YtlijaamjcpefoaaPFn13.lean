/- Valid of layer 38: the whole.
   Conditions: lengths below 400. -/
import Derived.Test.YtlijaamjcpefoaaPFn12
namespace Go.Proofs.Ytlijaamjcpefoaa
open Go Go.Am Post
set_option linter.unusedVariables false

theorem contains_ok (l : List (Int × List Int)) (hl : l.length ≤ 1000) (hp : ∀ p ∈ l, p.2.length ≤ maxLen) (H : List Blk) (T : Toks) :
    ACall Try.prog 75 [.sl l.length (psAV l) .none, .fn 73 [] []] H T (Is (.bool (l.any badP)) H T) := by
  have c := index_ok l hl hp H T
  generalize l.any badP = q at *
  refine acall_enter 5 [] Try.ntmps75 Try.func75 rfl (fun _ _ => Try.call75 _ _) (by simp) (fun HO => ?_)
  refine aw_reg fun K hK => ?_; simp (maxSteps := 200000) (disch := omega) [-List.getD_eq_getElem?_getD]; refine hK _ ?_; clear hK K
  refine aw_reg fun K hK => ?_; simp (maxSteps := 200000) (disch := omega) [-List.getD_eq_getElem?_getD]
  refine ⟨_, c, ?_⟩
  rintro r H' T' ⟨rfl, rfl, v, rfl, hv⟩
  simp (maxSteps := 200000) (disch := omega) [-List.getD_eq_getElem?_getD, hv]
  refine hK _ ?_; clear hK K
  refine aw_ret ?_; simp (maxSteps := 200000) (disch := omega) [-List.getD_eq_getElem?_getD]
  exact ⟨rfl, rfl, rfl⟩

theorem valid_ok (l : List (Int × List Int)) (hl : l.length ≤ 1000) (hp : ∀ p ∈ l, p.2.length ≤ maxLen) (H : List Blk) (T : Toks) (tg : Tag) :
    ACall Try.prog 32 [.sl l.length (psAV l) tg] H T (Is (.bool (validL l)) H T) := by
  refine ACall.untag1 ?_
  have c1 := documents_ok l hl H T .none
  have hdl : (docs l).length = l.length := by simp [docs]
  have c2 := validDocs_ok (docs l) (by rw [hdl]; exact Nat.le_trans hl (by decide)) H T .none
  rw [hdl] at c2
  have c3 := contains_ok l hl hp H T
  unfold validL
  generalize l.any badP = q at *
  refine acall_enter 4 [] Try.ntmps32 Try.func32 rfl (fun _ _ => Try.call32 _ _) (by simp) (fun HO => ?_)
  refine aw_reg fun K hK => ?_; simp (maxSteps := 200000) (disch := omega) [-List.getD_eq_getElem?_getD]; refine hK _ ?_; clear hK K
  refine aw_reg fun K hK => ?_; simp (maxSteps := 200000) (disch := omega) [-List.getD_eq_getElem?_getD]; refine hK _ ?_; clear hK K
  cases hv : asc (docs l) 1 1000000000 with
  | false =>
    rw [hv] at c2
    refine aw_reg fun K hK => ?_; simp (maxSteps := 200000) (disch := omega) [-List.getD_eq_getElem?_getD]
    refine acall_is (c1) ?_; simp (maxSteps := 200000) (disch := omega) [-List.getD_eq_getElem?_getD]
    refine acall_is (c2) ?_; simp (maxSteps := 200000) (disch := omega) [-List.getD_eq_getElem?_getD]
    refine hK _ ?_; clear hK K
    refine aw_ret ?_; simp (maxSteps := 200000) (disch := omega) [-List.getD_eq_getElem?_getD]
    exact ⟨rfl, rfl, rfl⟩
  | true =>
    rw [hv] at c2
    refine aw_reg fun K hK => ?_; simp (maxSteps := 200000) (disch := omega) [-List.getD_eq_getElem?_getD]
    refine acall_is (c1) ?_; simp (maxSteps := 200000) (disch := omega) [-List.getD_eq_getElem?_getD]
    refine acall_is (c2) ?_; simp (maxSteps := 200000) (disch := omega) [-List.getD_eq_getElem?_getD]
    refine acall_is (c3) ?_; simp (maxSteps := 200000) (disch := omega) [-List.getD_eq_getElem?_getD]
    refine hK _ ?_; clear hK K
    refine aw_ret ?_; simp (maxSteps := 200000) (disch := omega) [-List.getD_eq_getElem?_getD]
    exact ⟨rfl, rfl, rfl⟩
end Go.Proofs.Ytlijaamjcpefoaa
