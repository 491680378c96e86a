/- What SuggestCorrect asks, answered.
   Conditions: none. -/
import Derived.Test.YtbijefgmleagnaaSFn11
import Derived.Test.YtbijefgmleagnaaSWk1
namespace Go.Proofs.Ytbijefgmleagnaa
open Go Go.Am Sug Edit
set_option linter.unusedVariables false

theorem fewT_facts {ws : List Str} (h : fewT ws 10 60 = true) : ws.length ≤ 1000 ∧ ∀ w ∈ ws, w.length ≤ 1000 := by
  have := of_decide_eq_true h
  exact ⟨by omega, fun w hw => by have := this.2 w hw; omega⟩

set_option maxRecDepth 100000 in
set_option maxHeartbeats 4000000 in
theorem scorrect_ok (l : List Ent) (ws : List Str) (kk : Int) (hz : Sz l) (hs : (∀ z ∈ ws, z.length ≤ maxLen) ∧ ws.length ≤ maxLen) (hkk : -9223372036854775808 ≤ kk ∧ kk ≤ 9223372036854775807) :
    ACall Try.prog 5 [.sl l.length (entAV l) .none, .sl ws.length (strs ws) .none, .int .i64 kk] [] [] (fun r _ _ => r = .bool true) := by
  have ca := awake_ok [] []
  have cf := few_ok l hz.1 hz.2 [] [] .none
  have cg := fewT_ok ws 10 60 hs.2 hs.1 [] [] .none
  refine acall_enter 12 [] Try.ntmps5 Try.func5 rfl (fun _ _ => Try.call5 _ _) (by simp) (fun HO => ?_)
  refine aw_reg fun K hK => ?_; simp (maxSteps := 1000000) (disch := omega) [-List.getD_eq_getElem?_getD]; refine hK _ ?_; clear hK K
  refine aw_then fun K1 hK1 => ?_
  refine aw_reg fun K hK => ?_; simp (maxSteps := 1000000) (disch := omega) [-List.getD_eq_getElem?_getD]
  refine acall_is (ca) ?_; simp (maxSteps := 1000000) (disch := omega) [-List.getD_eq_getElem?_getD]
  refine hK _ ?_; clear hK K
  refine aw_if rfl (fun h => absurd h (by simp)) (fun h => ?_)
  refine aw_skip ?_; simp (maxSteps := 1000000) (disch := omega) [-List.getD_eq_getElem?_getD]
  refine hK1 _ ?_; clear hK1
  refine aw_then fun K1 hK1 => ?_
  cases hf : fewE l with
  | false =>
    rw [hf] at cf
    refine aw_reg fun K hK => ?_; simp (maxSteps := 1000000) (disch := omega) [-List.getD_eq_getElem?_getD]
    refine acall_is (cf) ?_; simp (maxSteps := 1000000) (disch := omega) [-List.getD_eq_getElem?_getD]
    refine hK _ ?_; clear hK K
    refine aw_if rfl (fun h => ?_) (fun h => absurd h (by simp))
    refine aw_reg fun K hK => ?_; simp (maxSteps := 1000000) (disch := omega) [-List.getD_eq_getElem?_getD]; refine hK _ ?_; clear hK K
    refine aw_ret ?_; simp (maxSteps := 1000000) (disch := omega) [-List.getD_eq_getElem?_getD]
  | true =>
    rw [hf] at cf
    obtain ⟨hl, hp⟩ := fewE_facts hf
    cases hg : fewT ws 10 60 with
    | false =>
      rw [hg] at cg
      refine aw_reg fun K hK => ?_; simp (maxSteps := 1000000) (disch := omega) [-List.getD_eq_getElem?_getD]
      refine acall_is (cf) ?_; simp (maxSteps := 1000000) (disch := omega) [-List.getD_eq_getElem?_getD]
      refine acall_is (cg) ?_; simp (maxSteps := 1000000) (disch := omega) [-List.getD_eq_getElem?_getD]
      refine hK _ ?_; clear hK K
      refine aw_if rfl (fun h => ?_) (fun h => absurd h (by simp))
      refine aw_reg fun K hK => ?_; simp (maxSteps := 1000000) (disch := omega) [-List.getD_eq_getElem?_getD]; refine hK _ ?_; clear hK K
      refine aw_ret ?_; simp (maxSteps := 1000000) (disch := omega) [-List.getD_eq_getElem?_getD]
    | true =>
      rw [hg] at cg
      obtain ⟨hn, hw⟩ := fewT_facts hg
      have c1 := own_ok l hl [] [] .none
      have c2 := correctP_ok l ws kk hkk hl hp hn hw [] [] .none .none
      have c3 := correctR_ok l ws kk hkk hl hp hn hw [] [] .none .none
      have c4 := sameT_ok ws.length (corL l kk ws) (by simp [corL]) (by simpa [corL] using hn) [] [] .none .none
      refine aw_reg fun K hK => ?_; simp (maxSteps := 1000000) (disch := omega) [-List.getD_eq_getElem?_getD]
      refine acall_is (cf) ?_; simp (maxSteps := 1000000) (disch := omega) [-List.getD_eq_getElem?_getD]
      refine acall_is (cg) ?_; simp (maxSteps := 1000000) (disch := omega) [-List.getD_eq_getElem?_getD]
      refine hK _ ?_; clear hK K
      refine aw_if rfl (fun h => absurd h (by simp)) (fun h => ?_)
      refine aw_skip ?_; simp (maxSteps := 1000000) (disch := omega) [-List.getD_eq_getElem?_getD]
      refine hK1 _ ?_; clear hK1
      refine aw_reg fun K hK => ?_; simp (maxSteps := 1000000) (disch := omega) [-List.getD_eq_getElem?_getD]
      refine acall_is (c1) ?_; simp (maxSteps := 1000000) (disch := omega) [-List.getD_eq_getElem?_getD]
      refine acall_is (c2) ?_; simp (maxSteps := 1000000) (disch := omega) [-List.getD_eq_getElem?_getD]
      refine hK _ ?_; clear hK K
      refine aw_reg fun K hK => ?_; simp (maxSteps := 1000000) (disch := omega) [-List.getD_eq_getElem?_getD]
      refine acall_is (c3) ?_; simp (maxSteps := 1000000) (disch := omega) [-List.getD_eq_getElem?_getD]
      refine hK _ ?_; clear hK K
      refine aw_reg fun K hK => ?_; simp (maxSteps := 1000000) (disch := omega) [-List.getD_eq_getElem?_getD]
      refine acall_is (c4) ?_; simp (maxSteps := 1000000) (disch := omega) [-List.getD_eq_getElem?_getD]
      refine hK _ ?_; clear hK K
      refine aw_ret ?_; simp (maxSteps := 1000000) (disch := omega) [-List.getD_eq_getElem?_getD]
end Go.Proofs.Ytbijefgmleagnaa
