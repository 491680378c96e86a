/- Same of the reference of layer 38, and same of the law.
   Conditions: lengths below 1000. -/
import Derived.Test.YtlijaamjcpefoaaPFn13
namespace Go.Proofs.Ytlijaamjcpefoaa
open Go Go.Am Post
set_option linter.unusedVariables false

set_option maxRecDepth 100000 in
set_option maxHeartbeats 2000000 in
theorem sameP_ok (a b : List (Int × List Int)) (ha : a.length ≤ 1000) (hb : b.length ≤ 1000) (hpa : ∀ p ∈ a, p.2.length ≤ maxLen) (hpb : ∀ p ∈ b, p.2.length ≤ maxLen) (H : List Blk) (T : Toks) (ta tb : Tag) :
    ACall Try.prog 49 [.sl a.length (psAV a) ta, .sl b.length (psAV b) tb] H T (Is (.bool (decide (a = b))) H T) := by
  refine ACall.untag1 (ACall.untag2 ?_)
  refine acall_enter 6 [] Try.ntmps49 Try.func49 rfl (fun _ _ => Try.call49 _ _) (by simp) (fun HO => ?_)
  refine aw_reg fun K hK => ?_; simp (maxSteps := 200000) (disch := omega) [-List.getD_eq_getElem?_getD]; refine hK _ ?_; clear hK K
  refine aw_then fun K1 hK1 => ?_
  refine aw_reg fun K hK => ?_; simp (maxSteps := 200000) (disch := omega) [-List.getD_eq_getElem?_getD]; refine hK _ ?_; clear hK K
  refine aw_if rfl (fun h => ?_) (fun h => ?_)
  · simp [-List.getD_eq_getElem?_getD] at h
    refine aw_reg fun K hK => ?_; simp (maxSteps := 200000) (disch := omega) [-List.getD_eq_getElem?_getD]; refine hK _ ?_; clear hK K
    refine aw_ret ?_; simp (maxSteps := 200000) (disch := omega) [-List.getD_eq_getElem?_getD]
    have : ¬ a = b := by intro e; subst e; exact h rfl
    rw [decide_eq_false this]
    exact ⟨rfl, rfl, rfl⟩
  · simp [-List.getD_eq_getElem?_getD] at h
    have hl : a.length = b.length := by omega
    refine aw_skip ?_; simp (maxSteps := 200000) (disch := omega) [-List.getD_eq_getElem?_getD]
    refine hK1 _ ?_; clear hK1
    refine aw_then fun K1 hK1 => ?_
    refine aw_reg fun K hK => ?_; simp (maxSteps := 200000) (disch := omega) [-List.getD_eq_getElem?_getD]; refine hK _ ?_; clear hK K
    refine aw_block ?_
    refine aw_loop (X := Nat) (fun i => ⟨[(0, .sl a.length (psAV a) .none), (1, .sl b.length (psAV b) .none), (5, .int .i64 (i : Nat))], H, T⟩) (fun i => i ≤ a.length ∧ ∀ j, j < i → a.getD j (0, []) = b.getD j (0, [])) (fun i => a.length - i) 0 ?_ ?_ ?_
    · exact ⟨by omega, fun j hj => by omega⟩
    · refine weak_to [] [] ?_ ?_ ?_ ?_ HO ?_
      all_goals simp
    · rintro i ⟨hi, hj⟩
      refine aw_then fun K2 hK2 => ?_
      refine aw_reg fun K hK => ?_; simp (maxSteps := 200000) (disch := omega) [-List.getD_eq_getElem?_getD]; refine hK _ ?_; clear hK K
      refine aw_if rfl (fun h => ?_) (fun h => ?_)
      · simp [-List.getD_eq_getElem?_getD] at h
        have hia := psAV_at a i h
        have hib := psAV_at b i (by omega)
        have hmA : a.getD i (0, []) ∈ a := by
          rw [List.getD_eq_getElem?_getD, List.getElem?_eq_getElem h]
          exact List.getElem_mem h
        have hmB : b.getD i (0, []) ∈ b := by
          rw [List.getD_eq_getElem?_getD, List.getElem?_eq_getElem (show i < b.length by omega)]
          exact List.getElem_mem _
        have c := sameInts_ok (a.getD i (0, [])).2 (b.getD i (0, [])).2 (hpa _ hmA) (hpb _ hmB) H T .none .none
        have hst : a.getD i (0, []) = b.getD i (0, []) → ∀ j, j < i + 1 → a.getD j (0, []) = b.getD j (0, []) := fun he j hj' => by
          rcases Nat.lt_or_ge j i with h1 | h1
          · exact hj j h1
          · have : j = i := by omega
            subst this; exact he
        have hno : a.getD i (0, []) ≠ b.getD i (0, []) → ¬ a = b := fun h e => h (by rw [e])
        have hibl : i < b.length := by omega
        generalize a.getD i (0, []) = p at hia c hst hno
        generalize b.getD i (0, []) = q at hib c hst hno
        refine aw_skip ?_; simp (maxSteps := 200000) (disch := omega) [-List.getD_eq_getElem?_getD]
        refine hK2 _ ?_; clear hK2
        refine aw_then fun K3 hK3 => ?_
        refine aw_block ?_
        by_cases he : p.1 = q.1
        · have bb : (p.1 != q.1) = false := by simp [he]
          cases hs : (p.2 == q.2)
          · rw [hs] at c
            refine aw_draw [] [] [] drawMixed (by kernel_rfl) (by kernel_rfl) fun K hK => ?_; simp (maxSteps := 200000) (disch := omega) [-List.getD_eq_getElem?_getD, hia.1, hia.2, hib.1, hib.2, psAV_len, he, hibl]
            refine dcall_is (c) rfl ?_; simp (maxSteps := 200000) (disch := omega) [-List.getD_eq_getElem?_getD]
            refine hK _ ?_; clear hK K
            refine aw_if rfl (fun h => ?_) (fun h => absurd h (by simp))
            refine aw_reg fun K hK => ?_; simp (maxSteps := 200000) (disch := omega) [-List.getD_eq_getElem?_getD]; refine hK _ ?_; clear hK K
            refine aw_ret ?_; simp (maxSteps := 200000) (disch := omega) [-List.getD_eq_getElem?_getD]
            have : ¬ a = b := hno (fun e => by rw [e] at hs; simp at hs)
            rw [decide_eq_false this]
            exact ⟨rfl, rfl, rfl⟩
          · rw [hs] at c
            refine aw_draw [] [] [] drawMixed (by kernel_rfl) (by kernel_rfl) fun K hK => ?_; simp (maxSteps := 200000) (disch := omega) [-List.getD_eq_getElem?_getD, hia.1, hia.2, hib.1, hib.2, psAV_len, he, hibl]
            refine dcall_is (c) rfl ?_; simp (maxSteps := 200000) (disch := omega) [-List.getD_eq_getElem?_getD]
            refine hK _ ?_; clear hK K
            refine aw_if rfl (fun h => absurd h (by simp)) (fun h => ?_)
            refine aw_skip ?_; simp (maxSteps := 200000) (disch := omega) [-List.getD_eq_getElem?_getD]
            refine hK3 _ ?_; clear hK3
            refine aw_reg0 fun K hK => ?_; simp (maxSteps := 200000) (disch := omega) [-List.getD_eq_getElem?_getD]
            refine hK _ ?_; clear hK K
            refine ⟨i + 1, ⟨by omega, hst (Prod.ext he (by simpa using hs))⟩, by omega, ?_⟩
            refine weak_to [] [] ?_ ?_ ?_ ?_ HO ?_
            all_goals simp
        · have he' : (p.1 != q.1) = true := bne_iff_ne.2 he
          refine aw_draw [] [] [] drawMixed (by kernel_rfl) (by kernel_rfl) fun K hK => ?_; simp (maxSteps := 200000) (disch := omega) [-List.getD_eq_getElem?_getD, hia.1, hia.2, hib.1, hib.2, psAV_len, he', hibl]
          refine hK _ ?_; clear hK K
          refine aw_if rfl (fun h => ?_) (fun h => absurd h (by simp))
          refine aw_reg fun K hK => ?_; simp (maxSteps := 200000) (disch := omega) [-List.getD_eq_getElem?_getD]; refine hK _ ?_; clear hK K
          refine aw_ret ?_; simp (maxSteps := 200000) (disch := omega) [-List.getD_eq_getElem?_getD]
          have : ¬ a = b := hno (fun e => he (by rw [e]))
          rw [decide_eq_false this]
          exact ⟨rfl, rfl, rfl⟩
      · simp [-List.getD_eq_getElem?_getD] at h
        refine aw_exit ?_; simp (maxSteps := 200000) (disch := omega) [-List.getD_eq_getElem?_getD]
        refine hK1 _ ?_; clear hK1
        refine aw_reg fun K hK => ?_; simp (maxSteps := 200000) (disch := omega) [-List.getD_eq_getElem?_getD]; refine hK _ ?_; clear hK K
        refine aw_ret ?_; simp (maxSteps := 200000) (disch := omega) [-List.getD_eq_getElem?_getD]
        refine ⟨?_, rfl, rfl⟩
        have : a = b := eq_getD (0, []) hl (fun j hj' => hj j (by omega))
        simp [this]

theorem same_ok (a b : List (Int × List Int)) (ha : a.length ≤ 1000) (hb : b.length ≤ 1000) (hpa : ∀ p ∈ a, p.2.length ≤ maxLen) (hpb : ∀ p ∈ b, p.2.length ≤ maxLen) (H : List Blk) (T : Toks) (ta tb : Tag) :
    ACall Try.prog 14 [.sl a.length (psAV a) ta, .sl b.length (psAV b) tb] H T (Is (.bool (decide (a = b))) H T) := by
  refine acall_enter 6 [] Try.ntmps14 Try.func14 rfl (fun _ _ => Try.call14 _ _) (by simp) (fun HO => ?_)
  refine aw_reg fun K hK => ?_; simp (maxSteps := 200000) (disch := omega) [-List.getD_eq_getElem?_getD]; refine hK _ ?_; clear hK K
  refine aw_reg fun K hK => ?_; simp (maxSteps := 200000) (disch := omega) [-List.getD_eq_getElem?_getD]
  refine acall_is (theirs_ok a ha H T _) ?_; simp (maxSteps := 200000) (disch := omega) [-List.getD_eq_getElem?_getD]
  refine acall_is (sameP_ok a b ha hb hpa hpb H T _ _) ?_; simp (maxSteps := 200000) (disch := omega) [-List.getD_eq_getElem?_getD]
  refine hK _ ?_; clear hK K
  refine aw_ret ?_; simp (maxSteps := 200000) (disch := omega) [-List.getD_eq_getElem?_getD]
  exact ⟨rfl, rfl, rfl⟩
end Go.Proofs.Ytlijaamjcpefoaa
