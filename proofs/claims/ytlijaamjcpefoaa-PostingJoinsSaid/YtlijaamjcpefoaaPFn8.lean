/- And and Without of the reference of layer 38, and that they are the program's.
   Conditions: lengths below 400. -/
import Derived.Test.YtlijaamjcpefoaaPFn7
namespace Go.Proofs.Ytlijaamjcpefoaa
open Go Go.Am Post
set_option linter.unusedVariables false

def keepR (f : Bool → Bool) (a b : List Int) : List Int :=
  if asc a 1 1000000000 = true ∧ asc b 1 1000000000 = true then a.filter (fun x => f (decide (x ∈ b))) else []

theorem filter_step (a : List Int) (k : Nat) (p : Int → Bool) (h : k < a.length) : (a.take (k + 1)).filter p = if p (a.getD k 0) = true then (a.take k).filter p ++ [a.getD k 0] else (a.take k).filter p := by
  have e : a.take (k + 1) = a.take k ++ [a.getD k 0] := by
    rw [List.take_succ_eq_append_getElem h]
    simp [h]
  rw [e, List.filter_append]
  by_cases hp : p (a.getD k 0) = true
  · rw [if_pos hp, List.filter_cons_of_pos hp]; rfl
  · rw [if_neg hp, List.filter_cons_of_neg hp]; simp

theorem andR_ok (a b : List Int) (ha : a.length ≤ 400) (hb : b.length ≤ 400) (H : List Blk) (T : Toks) (ta tb : Tag) : ACall Try.prog 22 [.sl a.length (ints a) ta, .sl b.length (ints b) tb] H T (Is (.sl (keepR (fun m => m) a b).length (ints (keepR (fun m => m) a b)) .none) H T) := by
  refine ACall.untag1 (ACall.untag2 ?_)
  refine ACall.drop' ?_ (by simp)
  have hml : 400 ≤ maxLen := by decide
  have c1 := validDocsR_ok a (by omega) H T .none
  have c2 := validDocsR_ok b (by omega) H T .none
  refine acall_enter 7 [] Try.ntmps22 Try.func22 rfl (fun _ _ => Try.call22 _ _) (by simp) (fun HO => ?_)
  refine aw_reg fun K hK => ?_; simp (maxSteps := 200000) (disch := omega) [-List.getD_eq_getElem?_getD]; refine hK _ ?_; clear hK K
  refine aw_reg fun K hK => ?_; simp (maxSteps := 200000) (disch := omega) [-List.getD_eq_getElem?_getD]; refine hK _ ?_; clear hK K
  refine aw_then fun K1 hK1 => ?_
  cases hv : asc a 1 1000000000
  · rw [hv] at c1
    refine aw_reg fun K hK => ?_; simp (maxSteps := 200000) (disch := omega) [-List.getD_eq_getElem?_getD]
    refine acall_is (c1) ?_; simp (maxSteps := 200000) (disch := omega) [-List.getD_eq_getElem?_getD]
    refine hK _ ?_; clear hK K
    refine aw_if rfl (fun h => ?_) (fun h => absurd h (by simp))
    refine aw_reg fun K hK => ?_; simp (maxSteps := 200000) (disch := omega) [-List.getD_eq_getElem?_getD]; refine hK _ ?_; clear hK K
    refine aw_ret ?_; simp (maxSteps := 200000) (disch := omega) [-List.getD_eq_getElem?_getD]
    simp [keepR, hv, ints]
  · rw [hv] at c1
    cases hw : asc b 1 1000000000
    · rw [hw] at c2
      refine aw_reg fun K hK => ?_; simp (maxSteps := 200000) (disch := omega) [-List.getD_eq_getElem?_getD]
      refine acall_is (c1) ?_; simp (maxSteps := 200000) (disch := omega) [-List.getD_eq_getElem?_getD]
      refine acall_is (c2) ?_; simp (maxSteps := 200000) (disch := omega) [-List.getD_eq_getElem?_getD]
      refine hK _ ?_; clear hK K
      refine aw_if rfl (fun h => ?_) (fun h => absurd h (by simp))
      refine aw_reg fun K hK => ?_; simp (maxSteps := 200000) (disch := omega) [-List.getD_eq_getElem?_getD]; refine hK _ ?_; clear hK K
      refine aw_ret ?_; simp (maxSteps := 200000) (disch := omega) [-List.getD_eq_getElem?_getD]
      simp [keepR, hw, ints]
    · rw [hw] at c2
      have hr : keepR (fun m => m) a b = a.filter (fun x => (fun m => m) (decide (x ∈ b))) := by unfold keepR; rw [if_pos ⟨hv, hw⟩]
      refine aw_reg fun K hK => ?_; simp (maxSteps := 200000) (disch := omega) [-List.getD_eq_getElem?_getD]
      refine acall_is (c1) ?_; simp (maxSteps := 200000) (disch := omega) [-List.getD_eq_getElem?_getD]
      refine acall_is (c2) ?_; simp (maxSteps := 200000) (disch := omega) [-List.getD_eq_getElem?_getD]
      refine hK _ ?_; clear hK K
      refine aw_if rfl (fun h => absurd h (by simp)) (fun h => ?_)
      refine aw_skip ?_; simp (maxSteps := 200000) (disch := omega) [-List.getD_eq_getElem?_getD]
      refine hK1 _ ?_; clear hK1
      refine aw_then fun K1 hK1 => ?_
      refine aw_reg fun K hK => ?_; simp (maxSteps := 200000) (disch := omega) [-List.getD_eq_getElem?_getD]; refine hK _ ?_; clear hK K
      refine aw_block ?_
      refine aw_own 5 0 1 [] (by omega) (by simp) ?_
      refine aw_loop (X := Nat) (fun k => ⟨[(0, .sl a.length (ints a) .none), (1, .sl b.length (ints b) .none), (5, .sl ((a.take k).filter (fun x => (fun m => m) (decide (x ∈ b)))).length (ints ((a.take k).filter (fun x => (fun m => m) (decide (x ∈ b))))) (.own T.length)), (6, .int .i64 (k : Nat))], H, T ++ [(((a.take k).filter (fun x => (fun m => m) (decide (x ∈ b)))).length, 1)]⟩) (fun k => k ≤ a.length) (fun k => a.length - k) 0 ?_ ?_ ?_
      · exact Nat.zero_le _
      · refine weak_to [] [] ?_ ?_ ?_ ?_ (HO.toks (by simp)) ?_
        all_goals simp
      · intro k hk0
        have hlen : ((a.take k).filter (fun x => (fun m => m) (decide (x ∈ b)))).length ≤ k := by
          refine Nat.le_trans (List.length_filter_le _ _) ?_
          rw [List.length_take]; omega
        refine aw_then fun K2 hK2 => ?_
        refine aw_reg fun K hK => ?_; simp (maxSteps := 200000) (disch := omega) [-List.getD_eq_getElem?_getD]; refine hK _ ?_; clear hK K
        refine aw_if rfl (fun hk => ?_) (fun hk => ?_)
        · simp [-List.getD_eq_getElem?_getD] at hk
          have hst := filter_step a k (fun x => (fun m => m) (decide (x ∈ b))) hk
          have c3 := has_ok b (a.getD k 0) (by omega) H (T ++ [(((a.take k).filter (fun x => (fun m => m) (decide (x ∈ b)))).length, 1)]) .none
          generalize (a.take k).filter (fun x => (fun m => m) (decide (x ∈ b))) = out at *
          refine aw_skip ?_; simp (maxSteps := 200000) (disch := omega) [-List.getD_eq_getElem?_getD]
          refine hK2 _ ?_; clear hK2
          refine aw_then fun K3 hK3 => ?_
          refine aw_block ?_
          cases hm : decide (a.getD k 0 ∈ b)
          · rw [hm] at c3 hst
            refine aw_reg fun K hK => ?_; simp (maxSteps := 200000) (disch := omega) [-List.getD_eq_getElem?_getD, getD_ints]
            refine acall_is (c3) ?_; simp (maxSteps := 200000) (disch := omega) [-List.getD_eq_getElem?_getD]
            refine hK _ ?_; clear hK K
            refine aw_if rfl (fun h => absurd h (by simp)) (fun h => ?_)
            refine aw_skip ?_; simp (maxSteps := 200000) (disch := omega) [-List.getD_eq_getElem?_getD]
            refine hK3 _ ?_; clear hK3
            refine aw_reg0 fun K hK => ?_; simp (maxSteps := 200000) (disch := omega) [-List.getD_eq_getElem?_getD]
            refine hK _ ?_; clear hK K
            refine ⟨k + 1, by show k + 1 ≤ _; omega, by show a.length - (k + 1) < a.length - k; omega, ?_⟩
            rw [hst]
            refine weak_to [] [] ?_ ?_ ?_ ?_ (HO.toks (by simp)) ?_
            all_goals simp [-List.getD_eq_getElem?_getD, ints_snoc]
          · rw [hm] at c3 hst
            refine aw_reg fun K hK => ?_; simp (maxSteps := 200000) (disch := omega) [-List.getD_eq_getElem?_getD, getD_ints]
            refine acall_is (c3) ?_; simp (maxSteps := 200000) (disch := omega) [-List.getD_eq_getElem?_getD]
            refine hK _ ?_; clear hK K
            refine aw_if rfl (fun h => ?_) (fun h => absurd h (by simp))
            refine aw_reg0 fun K hK => ?_; simp (maxSteps := 200000) (disch := omega) [-List.getD_eq_getElem?_getD, getD_ints]
            refine hK _ ?_; clear hK K
            refine hK3 _ ?_; clear hK3
            refine aw_reg0 fun K hK => ?_; simp (maxSteps := 200000) (disch := omega) [-List.getD_eq_getElem?_getD]
            refine hK _ ?_; clear hK K
            refine ⟨k + 1, by show k + 1 ≤ _; omega, by show a.length - (k + 1) < a.length - k; omega, ?_⟩
            rw [hst]
            refine weak_to [] [] ?_ ?_ ?_ ?_ (HO.toks (by simp)) ?_
            all_goals simp [-List.getD_eq_getElem?_getD, ints_snoc]
        · simp [-List.getD_eq_getElem?_getD] at hk
          have hka : k = a.length := by omega
          subst hka
          rw [List.take_length]
          refine aw_exit ?_; simp (maxSteps := 200000) (disch := omega) [-List.getD_eq_getElem?_getD]
          refine hK1 _ ?_; clear hK1
          refine aw_reg fun K hK => ?_; simp (maxSteps := 200000) (disch := omega) [-List.getD_eq_getElem?_getD]; refine hK _ ?_; clear hK K
          refine aw_ret ?_; simp (maxSteps := 200000) (disch := omega) [-List.getD_eq_getElem?_getD]
          rw [hr]
          exact ⟨rfl, rfl⟩

theorem withoutR_ok (a b : List Int) (ha : a.length ≤ 400) (hb : b.length ≤ 400) (H : List Blk) (T : Toks) (ta tb : Tag) : ACall Try.prog 26 [.sl a.length (ints a) ta, .sl b.length (ints b) tb] H T (Is (.sl (keepR (fun m => !m) a b).length (ints (keepR (fun m => !m) a b)) .none) H T) := by
  refine ACall.untag1 (ACall.untag2 ?_)
  refine ACall.drop' ?_ (by simp)
  have hml : 400 ≤ maxLen := by decide
  have c1 := validDocsR_ok a (by omega) H T .none
  have c2 := validDocsR_ok b (by omega) H T .none
  refine acall_enter 7 [] Try.ntmps26 Try.func26 rfl (fun _ _ => Try.call26 _ _) (by simp) (fun HO => ?_)
  refine aw_reg fun K hK => ?_; simp (maxSteps := 200000) (disch := omega) [-List.getD_eq_getElem?_getD]; refine hK _ ?_; clear hK K
  refine aw_reg fun K hK => ?_; simp (maxSteps := 200000) (disch := omega) [-List.getD_eq_getElem?_getD]; refine hK _ ?_; clear hK K
  refine aw_then fun K1 hK1 => ?_
  cases hv : asc a 1 1000000000
  · rw [hv] at c1
    refine aw_reg fun K hK => ?_; simp (maxSteps := 200000) (disch := omega) [-List.getD_eq_getElem?_getD]
    refine acall_is (c1) ?_; simp (maxSteps := 200000) (disch := omega) [-List.getD_eq_getElem?_getD]
    refine hK _ ?_; clear hK K
    refine aw_if rfl (fun h => ?_) (fun h => absurd h (by simp))
    refine aw_reg fun K hK => ?_; simp (maxSteps := 200000) (disch := omega) [-List.getD_eq_getElem?_getD]; refine hK _ ?_; clear hK K
    refine aw_ret ?_; simp (maxSteps := 200000) (disch := omega) [-List.getD_eq_getElem?_getD]
    simp [keepR, hv, ints]
  · rw [hv] at c1
    cases hw : asc b 1 1000000000
    · rw [hw] at c2
      refine aw_reg fun K hK => ?_; simp (maxSteps := 200000) (disch := omega) [-List.getD_eq_getElem?_getD]
      refine acall_is (c1) ?_; simp (maxSteps := 200000) (disch := omega) [-List.getD_eq_getElem?_getD]
      refine acall_is (c2) ?_; simp (maxSteps := 200000) (disch := omega) [-List.getD_eq_getElem?_getD]
      refine hK _ ?_; clear hK K
      refine aw_if rfl (fun h => ?_) (fun h => absurd h (by simp))
      refine aw_reg fun K hK => ?_; simp (maxSteps := 200000) (disch := omega) [-List.getD_eq_getElem?_getD]; refine hK _ ?_; clear hK K
      refine aw_ret ?_; simp (maxSteps := 200000) (disch := omega) [-List.getD_eq_getElem?_getD]
      simp [keepR, hw, ints]
    · rw [hw] at c2
      have hr : keepR (fun m => !m) a b = a.filter (fun x => (fun m => !m) (decide (x ∈ b))) := by unfold keepR; rw [if_pos ⟨hv, hw⟩]
      refine aw_reg fun K hK => ?_; simp (maxSteps := 200000) (disch := omega) [-List.getD_eq_getElem?_getD]
      refine acall_is (c1) ?_; simp (maxSteps := 200000) (disch := omega) [-List.getD_eq_getElem?_getD]
      refine acall_is (c2) ?_; simp (maxSteps := 200000) (disch := omega) [-List.getD_eq_getElem?_getD]
      refine hK _ ?_; clear hK K
      refine aw_if rfl (fun h => absurd h (by simp)) (fun h => ?_)
      refine aw_skip ?_; simp (maxSteps := 200000) (disch := omega) [-List.getD_eq_getElem?_getD]
      refine hK1 _ ?_; clear hK1
      refine aw_then fun K1 hK1 => ?_
      refine aw_reg fun K hK => ?_; simp (maxSteps := 200000) (disch := omega) [-List.getD_eq_getElem?_getD]; refine hK _ ?_; clear hK K
      refine aw_block ?_
      refine aw_own 5 0 1 [] (by omega) (by simp) ?_
      refine aw_loop (X := Nat) (fun k => ⟨[(0, .sl a.length (ints a) .none), (1, .sl b.length (ints b) .none), (5, .sl ((a.take k).filter (fun x => (fun m => !m) (decide (x ∈ b)))).length (ints ((a.take k).filter (fun x => (fun m => !m) (decide (x ∈ b))))) (.own T.length)), (6, .int .i64 (k : Nat))], H, T ++ [(((a.take k).filter (fun x => (fun m => !m) (decide (x ∈ b)))).length, 1)]⟩) (fun k => k ≤ a.length) (fun k => a.length - k) 0 ?_ ?_ ?_
      · exact Nat.zero_le _
      · refine weak_to [] [] ?_ ?_ ?_ ?_ (HO.toks (by simp)) ?_
        all_goals simp
      · intro k hk0
        have hlen : ((a.take k).filter (fun x => (fun m => !m) (decide (x ∈ b)))).length ≤ k := by
          refine Nat.le_trans (List.length_filter_le _ _) ?_
          rw [List.length_take]; omega
        refine aw_then fun K2 hK2 => ?_
        refine aw_reg fun K hK => ?_; simp (maxSteps := 200000) (disch := omega) [-List.getD_eq_getElem?_getD]; refine hK _ ?_; clear hK K
        refine aw_if rfl (fun hk => ?_) (fun hk => ?_)
        · simp [-List.getD_eq_getElem?_getD] at hk
          have hst := filter_step a k (fun x => (fun m => !m) (decide (x ∈ b))) hk
          have c3 := has_ok b (a.getD k 0) (by omega) H (T ++ [(((a.take k).filter (fun x => (fun m => !m) (decide (x ∈ b)))).length, 1)]) .none
          generalize (a.take k).filter (fun x => (fun m => !m) (decide (x ∈ b))) = out at *
          refine aw_skip ?_; simp (maxSteps := 200000) (disch := omega) [-List.getD_eq_getElem?_getD]
          refine hK2 _ ?_; clear hK2
          refine aw_then fun K3 hK3 => ?_
          refine aw_block ?_
          cases hm : decide (a.getD k 0 ∈ b)
          · rw [hm] at c3 hst
            refine aw_reg fun K hK => ?_; simp (maxSteps := 200000) (disch := omega) [-List.getD_eq_getElem?_getD, getD_ints]
            refine acall_is (c3) ?_; simp (maxSteps := 200000) (disch := omega) [-List.getD_eq_getElem?_getD]
            refine hK _ ?_; clear hK K
            refine aw_if rfl (fun h => ?_) (fun h => absurd h (by simp))
            refine aw_reg0 fun K hK => ?_; simp (maxSteps := 200000) (disch := omega) [-List.getD_eq_getElem?_getD, getD_ints]
            refine hK _ ?_; clear hK K
            refine hK3 _ ?_; clear hK3
            refine aw_reg0 fun K hK => ?_; simp (maxSteps := 200000) (disch := omega) [-List.getD_eq_getElem?_getD]
            refine hK _ ?_; clear hK K
            refine ⟨k + 1, by show k + 1 ≤ _; omega, by show a.length - (k + 1) < a.length - k; omega, ?_⟩
            rw [hst]
            refine weak_to [] [] ?_ ?_ ?_ ?_ (HO.toks (by simp)) ?_
            all_goals simp [-List.getD_eq_getElem?_getD, ints_snoc]
          · rw [hm] at c3 hst
            refine aw_reg fun K hK => ?_; simp (maxSteps := 200000) (disch := omega) [-List.getD_eq_getElem?_getD, getD_ints]
            refine acall_is (c3) ?_; simp (maxSteps := 200000) (disch := omega) [-List.getD_eq_getElem?_getD]
            refine hK _ ?_; clear hK K
            refine aw_if rfl (fun h => absurd h (by simp)) (fun h => ?_)
            refine aw_skip ?_; simp (maxSteps := 200000) (disch := omega) [-List.getD_eq_getElem?_getD]
            refine hK3 _ ?_; clear hK3
            refine aw_reg0 fun K hK => ?_; simp (maxSteps := 200000) (disch := omega) [-List.getD_eq_getElem?_getD]
            refine hK _ ?_; clear hK K
            refine ⟨k + 1, by show k + 1 ≤ _; omega, by show a.length - (k + 1) < a.length - k; omega, ?_⟩
            rw [hst]
            refine weak_to [] [] ?_ ?_ ?_ ?_ (HO.toks (by simp)) ?_
            all_goals simp [-List.getD_eq_getElem?_getD, ints_snoc]
        · simp [-List.getD_eq_getElem?_getD] at hk
          have hka : k = a.length := by omega
          subst hka
          rw [List.take_length]
          refine aw_exit ?_; simp (maxSteps := 200000) (disch := omega) [-List.getD_eq_getElem?_getD]
          refine hK1 _ ?_; clear hK1
          refine aw_reg fun K hK => ?_; simp (maxSteps := 200000) (disch := omega) [-List.getD_eq_getElem?_getD]; refine hK _ ?_; clear hK K
          refine aw_ret ?_; simp (maxSteps := 200000) (disch := omega) [-List.getD_eq_getElem?_getD]
          rw [hr]
          exact ⟨rfl, rfl⟩

theorem and_eq (a b : List Int) : comb (fun p q => p && q) a b = keepR (fun m => m) a b := by
  unfold comb keepR
  split
  · rename_i h
    have ha := asc_pair h.1
    have hb := asc_pair h.2
    obtain ⟨_, g2, g3⟩ := mg_keep false false true (a.length + b.length) a b [] (Nat.le_refl _) ha hb
    refine asc_ext _ _ g3 (ha.filter _) (fun z => ?_)
    rw [show MG (fun p q => p && q) a b (a.length + b.length) 0 0 [] = _ from rfl]
    refine (g2 z).trans ?_
    simp
  · rfl

theorem without_eq (a b : List Int) : comb (fun _ q => !q) a b = keepR (fun m => !m) a b := by
  unfold comb keepR
  split
  · rename_i h
    have ha := asc_pair h.1
    have hb := asc_pair h.2
    obtain ⟨_, g2, g3⟩ := mg_keep true false false (a.length + b.length) a b [] (Nat.le_refl _) ha hb
    refine asc_ext _ _ g3 (ha.filter _) (fun z => ?_)
    refine (g2 z).trans ?_
    simp
  · rfl
end Go.Proofs.Ytlijaamjcpefoaa
