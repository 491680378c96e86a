/- And, Or, Without of layer 38.
   Conditions: lengths below 400. -/
import Derived.Test.YtlijaamjcpefoaaPFn5
namespace Go.Proofs.Ytlijaamjcpefoaa
open Go Go.Am Post
set_option linter.unusedVariables false

def comb (kf : Bool → Bool → Bool) (a b : List Int) : List Int :=
  if asc a 1 1000000000 = true ∧ asc b 1 1000000000 = true then MG kf a b (a.length + b.length) 0 0 [] else []

theorem combine_ok (g : Nat) (kf : Bool → Bool → Bool) (hg : ∀ p q H T, ACall Try.prog g [.bool p, .bool q] H T (Is (.bool (kf p q)) H T)) (a b : List Int) (ha : a.length ≤ 400) (hb : b.length ≤ 400) (H : List Blk) (T : Toks) (ta tb : Tag) :
    ACall Try.prog 59 [.sl a.length (ints a) ta, .sl b.length (ints b) tb, .fn g [] []] H T (Is (.sl (comb kf a b).length (ints (comb kf a b)) .none) H T) := by
  refine ACall.untag1 (ACall.untag2 ?_)
  refine ACall.drop' ?_ (by simp)
  have hml : 400 ≤ maxLen := by decide
  refine acall_enter 8 [] Try.ntmps59 Try.func59 rfl (fun _ _ => Try.call59 _ _) (by simp) (fun HO => ?_)
  refine aw_reg fun K hK => ?_; simp (maxSteps := 200000) (disch := omega) [-List.getD_eq_getElem?_getD]; refine hK _ ?_; clear hK K
  refine aw_reg fun K hK => ?_; simp (maxSteps := 200000) (disch := omega) [-List.getD_eq_getElem?_getD]; refine hK _ ?_; clear hK K
  refine aw_then fun K1 hK1 => ?_
  have c1 := validDocs_ok a (by omega) (H ++ [.cells [.fn g [] []], .cells [.sl 0 [] .full]]) T .none
  have c2 := validDocs_ok b (by omega) (H ++ [.cells [.fn g [] []], .cells [.sl 0 [] .full]]) T .none
  cases hv : asc a 1 1000000000
  · rw [hv] at c1
    refine aw_reg fun K hK => ?_; simp (maxSteps := 200000) (disch := omega) [-List.getD_eq_getElem?_getD]
    refine acall_is (c1) ?_; simp (maxSteps := 200000) (disch := omega) [-List.getD_eq_getElem?_getD]
    refine hK _ ?_; clear hK K
    refine aw_if rfl (fun h => ?_) (fun h => absurd h (by simp))
    refine aw_reg fun K hK => ?_; simp (maxSteps := 200000) (disch := omega) [-List.getD_eq_getElem?_getD]; refine hK _ ?_; clear hK K
    refine aw_ret ?_; simp (maxSteps := 200000) (disch := omega) [-List.getD_eq_getElem?_getD]
    simp [comb, hv, ints]
  · rw [hv] at c1
    cases hw : asc b 1 1000000000
    · rw [hw] at c2
      refine aw_reg fun K hK => ?_; simp (maxSteps := 200000) (disch := omega) [-List.getD_eq_getElem?_getD]
      refine acall_is (c1) ?_; simp (maxSteps := 200000) (disch := omega) [-List.getD_eq_getElem?_getD]
      refine acall_is (c2) ?_; simp (maxSteps := 200000) (disch := omega) [-List.getD_eq_getElem?_getD]
      refine hK _ ?_; clear hK K
      refine aw_if rfl (fun h => ?_) (fun h => absurd h (by simp))
      refine aw_reg fun K hK => ?_; simp (maxSteps := 200000) (disch := omega) [-List.getD_eq_getElem?_getD]; refine hK _ ?_; clear hK K
      refine aw_ret ?_; simp (maxSteps := 200000) (disch := omega) [-List.getD_eq_getElem?_getD]
      simp [comb, hw, ints]
    · rw [hw] at c2
      have c3 := mergeC_ok g kf hg a b ha hb H T HO
      have hr : comb kf a b = MG kf a b (a.length + b.length) 0 0 [] := by unfold comb; rw [if_pos ⟨hv, hw⟩]
      rw [← hr] at c3
      have k1 : (SH H g (comb kf a b) T.length)[H.length + 1]? = some (.cells [outB (comb kf a b) T.length]) := new_at _ _ 1
      have hH : ∃ rH, SH H g (comb kf a b) T.length = H ++ rH := ⟨_, rfl⟩
      have hT : ∃ rT, ST T (comb kf a b) = T ++ rT := by unfold ST; split; exact ⟨[], by simp⟩; exact ⟨_, rfl⟩
      refine aw_reg fun K hK => ?_; simp (maxSteps := 200000) (disch := omega) [-List.getD_eq_getElem?_getD]
      refine acall_is (c1) ?_; simp (maxSteps := 200000) (disch := omega) [-List.getD_eq_getElem?_getD]
      refine acall_is (c2) ?_; simp (maxSteps := 200000) (disch := omega) [-List.getD_eq_getElem?_getD]
      refine hK _ ?_; clear hK K
      refine aw_if rfl (fun h => absurd h (by simp)) (fun h => ?_)
      refine aw_skip ?_; simp (maxSteps := 200000) (disch := omega) [-List.getD_eq_getElem?_getD]
      refine hK1 _ ?_; clear hK1
      refine aw_reg fun K hK => ?_; simp (maxSteps := 200000) (disch := omega) [-List.getD_eq_getElem?_getD]
      refine acall_is (c3) ?_; simp (maxSteps := 200000) (disch := omega) [-List.getD_eq_getElem?_getD]
      refine hK _ ?_; clear hK K
      refine aw_reg fun K hK => ?_; simp (maxSteps := 200000) (disch := omega) [-List.getD_eq_getElem?_getD, k1]; refine hK _ ?_; clear hK K
      refine aw_ret ?_; simp (maxSteps := 200000) (disch := omega) [-List.getD_eq_getElem?_getD]
      generalize comb kf a b = r at *
      refine ⟨hH, hT, ?_⟩
      unfold outB
      by_cases h0 : r = []
      · subst h0; simp [ints]
      · simp [h0]

theorem and_ok (a b : List Int) (ha : a.length ≤ 400) (hb : b.length ≤ 400) (H : List Blk) (T : Toks) (ta tb : Tag) : ACall Try.prog 21 [.sl a.length (ints a) ta, .sl b.length (ints b) tb] H T (Is (.sl (comb (fun p q => p && q) a b).length (ints (comb (fun p q => p && q) a b)) .none) H T) := by
  refine ACall.drop' ?_ (by simp)
  refine acall_enter 5 [] Try.ntmps21 Try.func21 rfl (fun _ _ => Try.call21 _ _) (by simp) (fun HO => ?_)
  refine aw_reg fun K hK => ?_; simp (maxSteps := 200000) (disch := omega) [-List.getD_eq_getElem?_getD]; refine hK _ ?_; clear hK K
  refine aw_reg fun K hK => ?_; simp (maxSteps := 200000) (disch := omega) [-List.getD_eq_getElem?_getD]
  refine acall_is (combine_ok _ (fun p q => p && q) (fun p q H T => and1_ok p q H T) a b ha hb H T _ _) ?_; simp (maxSteps := 200000) (disch := omega) [-List.getD_eq_getElem?_getD]
  refine hK _ ?_; clear hK K
  refine aw_ret ?_; simp (maxSteps := 200000) (disch := omega) [-List.getD_eq_getElem?_getD]

theorem or_ok (a b : List Int) (ha : a.length ≤ 400) (hb : b.length ≤ 400) (H : List Blk) (T : Toks) (ta tb : Tag) : ACall Try.prog 23 [.sl a.length (ints a) ta, .sl b.length (ints b) tb] H T (Is (.sl (comb (fun _ _ => true) a b).length (ints (comb (fun _ _ => true) a b)) .none) H T) := by
  refine ACall.drop' ?_ (by simp)
  refine acall_enter 5 [] Try.ntmps23 Try.func23 rfl (fun _ _ => Try.call23 _ _) (by simp) (fun HO => ?_)
  refine aw_reg fun K hK => ?_; simp (maxSteps := 200000) (disch := omega) [-List.getD_eq_getElem?_getD]; refine hK _ ?_; clear hK K
  refine aw_reg fun K hK => ?_; simp (maxSteps := 200000) (disch := omega) [-List.getD_eq_getElem?_getD]
  refine acall_is (combine_ok _ (fun _ _ => true) (fun p q H T => or1_ok p q H T) a b ha hb H T _ _) ?_; simp (maxSteps := 200000) (disch := omega) [-List.getD_eq_getElem?_getD]
  refine hK _ ?_; clear hK K
  refine aw_ret ?_; simp (maxSteps := 200000) (disch := omega) [-List.getD_eq_getElem?_getD]

theorem without_ok (a b : List Int) (ha : a.length ≤ 400) (hb : b.length ≤ 400) (H : List Blk) (T : Toks) (ta tb : Tag) : ACall Try.prog 25 [.sl a.length (ints a) ta, .sl b.length (ints b) tb] H T (Is (.sl (comb (fun _ q => !q) a b).length (ints (comb (fun _ q => !q) a b)) .none) H T) := by
  refine ACall.drop' ?_ (by simp)
  refine acall_enter 5 [] Try.ntmps25 Try.func25 rfl (fun _ _ => Try.call25 _ _) (by simp) (fun HO => ?_)
  refine aw_reg fun K hK => ?_; simp (maxSteps := 200000) (disch := omega) [-List.getD_eq_getElem?_getD]; refine hK _ ?_; clear hK K
  refine aw_reg fun K hK => ?_; simp (maxSteps := 200000) (disch := omega) [-List.getD_eq_getElem?_getD]
  refine acall_is (combine_ok _ (fun _ q => !q) (fun p q H T => without1_ok p q H T) a b ha hb H T _ _) ?_; simp (maxSteps := 200000) (disch := omega) [-List.getD_eq_getElem?_getD]
  refine hK _ ?_; clear hK K
  refine aw_ret ?_; simp (maxSteps := 200000) (disch := omega) [-List.getD_eq_getElem?_getD]
end Go.Proofs.Ytlijaamjcpefoaa
