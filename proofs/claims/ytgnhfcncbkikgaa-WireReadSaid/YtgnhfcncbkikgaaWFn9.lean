/- Comparisons of lists of layer 1, and 'behind'.
   Conditions: lengths below 2^40. -/
import Derived.Test.YtgnhfcncbkikgaaWFn8
import Derived.Test.YtgnhfcncbkikgaaWPl
namespace Go.Proofs.Ytgnhfcncbkikgaa
open Go Go.Am Wire
set_option linter.unusedVariables false

theorem eq_getD {α : Type} [DecidableEq α] {a b : List α} (d : α) (h : a.length = b.length) (hj : ∀ j, j < a.length → a.getD j d = b.getD j d) : a = b := by
  apply List.ext_getElem h
  intro i h1 h2
  have := hj i h1
  rwa [List.getD_eq_getElem?_getD, List.getD_eq_getElem?_getD, List.getElem?_eq_getElem h1, List.getElem?_eq_getElem h2] at this

theorem sameInts_ok (a b : List Int) (ha : a.length ≤ maxLen) (hb : b.length ≤ maxLen) (H : List Blk) (T : Toks) (ta tb : Tag) : ACall Try.prog 30 [.sl a.length (ints a) ta, .sl b.length (ints b) tb] H T (Is (.bool (a == b)) H T) := by
  refine ACall.untag1 ?_
  have hml : maxLen ≤ 9223372036854775807 := by decide
  have ha' := Nat.le_trans ha hml
  have hb' := Nat.le_trans hb hml
  refine acall_enter 6 [] Try.ntmps30 Try.func30 rfl (fun _ _ => Try.call30 _ _) (by simp) (fun HO => ?_)
  refine aw_reg fun K hK => ?_; simp (maxSteps := 200000) (disch := omega) [-List.getD_eq_getElem?_getD]; refine hK _ ?_; clear hK K
  refine aw_then fun K1 hK1 => ?_
  refine aw_reg fun K hK => ?_; simp (maxSteps := 200000) (disch := omega) [-List.getD_eq_getElem?_getD]; refine hK _ ?_; clear hK K
  refine aw_if rfl (fun h => ?_) (fun h => ?_)
  · simp [-List.getD_eq_getElem?_getD] at h
    refine aw_reg fun K hK => ?_; simp (maxSteps := 200000) (disch := omega) [-List.getD_eq_getElem?_getD]; refine hK _ ?_; clear hK K
    refine aw_ret ?_; simp (maxSteps := 200000) (disch := omega) [-List.getD_eq_getElem?_getD]
    have : (a == b) = false := by simp; intro e; subst e; exact h rfl
    rw [this]
    exact ⟨rfl, rfl, rfl⟩
  · simp [-List.getD_eq_getElem?_getD] at h
    have hl : a.length = b.length := by omega
    refine aw_skip ?_; simp (maxSteps := 200000) (disch := omega) [-List.getD_eq_getElem?_getD]
    refine hK1 _ ?_; clear hK1
    refine aw_then fun K1 hK1 => ?_
    refine aw_reg fun K hK => ?_; simp (maxSteps := 200000) (disch := omega) [-List.getD_eq_getElem?_getD]; refine hK _ ?_; clear hK K
    refine aw_block ?_
    refine aw_loop (X := Nat) (fun i => ⟨[(0, .sl a.length (ints a) .none), (1, .sl b.length (ints b) .none), (5, .int .i64 (i : Nat))], H, T⟩) (fun i => i ≤ a.length ∧ ∀ j, j < i → a.getD j 0 = b.getD j 0) (fun i => a.length - i) 0 ?_ ?_ ?_
    · exact ⟨by omega, fun j hj => by omega⟩
    · refine weak_to [] [] ?_ ?_ ?_ ?_ HO ?_
      all_goals simp
    · rintro i ⟨hi, hj⟩
      refine aw_then fun K2 hK2 => ?_
      refine aw_reg fun K hK => ?_; simp (maxSteps := 200000) (disch := omega) [-List.getD_eq_getElem?_getD]; refine hK _ ?_; clear hK K
      refine aw_if rfl (fun h => ?_) (fun h => ?_)
      · simp [-List.getD_eq_getElem?_getD] at h
        refine aw_skip ?_; simp (maxSteps := 200000) (disch := omega) [-List.getD_eq_getElem?_getD]
        refine hK2 _ ?_; clear hK2
        refine aw_then fun K3 hK3 => ?_
        refine aw_block ?_
        by_cases he : a.getD i 0 = b.getD i 0
        · refine aw_draw [] [] [] drawMixed (by kernel_rfl) (by kernel_rfl) fun K hK => ?_; simp (maxSteps := 200000) (disch := omega) [-List.getD_eq_getElem?_getD, getD_ints, he]
          refine hK _ ?_; clear hK K
          refine aw_if rfl (fun h => absurd h (by simp)) (fun h => ?_)
          refine aw_skip ?_; simp (maxSteps := 200000) (disch := omega) [-List.getD_eq_getElem?_getD]
          refine hK3 _ ?_; clear hK3
          refine aw_reg0 fun K hK => ?_; simp (maxSteps := 200000) (disch := omega) [-List.getD_eq_getElem?_getD]
          refine hK _ ?_; clear hK K
          refine ⟨i + 1, ⟨by omega, fun j hj' => ?_⟩, by omega, ?_⟩
          · rcases Nat.lt_or_ge j i with h1 | h1
            · exact hj j h1
            · have : j = i := by omega
              subst this; exact he
          · refine weak_to [] [] ?_ ?_ ?_ ?_ HO ?_
            all_goals simp
        · have he' : (a.getD i 0 != b.getD i 0) = true := bne_iff_ne.2 he
          refine aw_draw [] [] [] drawMixed (by kernel_rfl) (by kernel_rfl) fun K hK => ?_; simp (maxSteps := 200000) (disch := omega) [-List.getD_eq_getElem?_getD, getD_ints, he']
          refine hK _ ?_; clear hK K
          refine aw_if rfl (fun h => ?_) (fun h => absurd h (by simp))
          refine aw_reg fun K hK => ?_; simp (maxSteps := 200000) (disch := omega) [-List.getD_eq_getElem?_getD]; refine hK _ ?_; clear hK K
          refine aw_ret ?_; simp (maxSteps := 200000) (disch := omega) [-List.getD_eq_getElem?_getD]
          have : (a == b) = false := by simp; intro e; subst e; exact he rfl
          rw [this]
          exact ⟨rfl, rfl, rfl⟩
      · simp [-List.getD_eq_getElem?_getD] at h
        refine aw_exit ?_; simp (maxSteps := 200000) (disch := omega) [-List.getD_eq_getElem?_getD]
        refine hK1 _ ?_; clear hK1
        refine aw_reg fun K hK => ?_; simp (maxSteps := 200000) (disch := omega) [-List.getD_eq_getElem?_getD]; refine hK _ ?_; clear hK K
        refine aw_ret ?_; simp (maxSteps := 200000) (disch := omega) [-List.getD_eq_getElem?_getD]
        refine ⟨?_, rfl, rfl⟩
        have : a = b := eq_getD 0 hl (fun j hj' => hj j (by omega))
        simp [this]

theorem sameTexts_ok (a b : List (List UInt8)) (ha : a.length ≤ maxLen) (hb : b.length ≤ maxLen) (H : List Blk) (T : Toks) (ta tb : Tag) : ACall Try.prog 31 [.sl a.length (strs a) ta, .sl b.length (strs b) tb] H T (Is (.bool (a == b)) H T) := by
  refine ACall.untag1 ?_
  have hml : maxLen ≤ 9223372036854775807 := by decide
  have ha' := Nat.le_trans ha hml
  have hb' := Nat.le_trans hb hml
  refine acall_enter 6 [] Try.ntmps31 Try.func31 rfl (fun _ _ => Try.call31 _ _) (by simp) (fun HO => ?_)
  refine aw_reg fun K hK => ?_; simp (maxSteps := 200000) (disch := omega) [-List.getD_eq_getElem?_getD]; refine hK _ ?_; clear hK K
  refine aw_then fun K1 hK1 => ?_
  refine aw_reg fun K hK => ?_; simp (maxSteps := 200000) (disch := omega) [-List.getD_eq_getElem?_getD]; refine hK _ ?_; clear hK K
  refine aw_if rfl (fun h => ?_) (fun h => ?_)
  · simp [-List.getD_eq_getElem?_getD] at h
    refine aw_reg fun K hK => ?_; simp (maxSteps := 200000) (disch := omega) [-List.getD_eq_getElem?_getD]; refine hK _ ?_; clear hK K
    refine aw_ret ?_; simp (maxSteps := 200000) (disch := omega) [-List.getD_eq_getElem?_getD]
    have : (a == b) = false := by simp; intro e; subst e; exact h rfl
    rw [this]
    exact ⟨rfl, rfl, rfl⟩
  · simp [-List.getD_eq_getElem?_getD] at h
    have hl : a.length = b.length := by omega
    refine aw_skip ?_; simp (maxSteps := 200000) (disch := omega) [-List.getD_eq_getElem?_getD]
    refine hK1 _ ?_; clear hK1
    refine aw_then fun K1 hK1 => ?_
    refine aw_reg fun K hK => ?_; simp (maxSteps := 200000) (disch := omega) [-List.getD_eq_getElem?_getD]; refine hK _ ?_; clear hK K
    refine aw_block ?_
    refine aw_loop (X := Nat) (fun i => ⟨[(0, .sl a.length (strs a) .none), (1, .sl b.length (strs b) .none), (5, .int .i64 (i : Nat))], H, T⟩) (fun i => i ≤ a.length ∧ ∀ j, j < i → a.getD j [] = b.getD j []) (fun i => a.length - i) 0 ?_ ?_ ?_
    · exact ⟨by omega, fun j hj => by omega⟩
    · refine weak_to [] [] ?_ ?_ ?_ ?_ HO ?_
      all_goals simp
    · rintro i ⟨hi, hj⟩
      refine aw_then fun K2 hK2 => ?_
      refine aw_reg fun K hK => ?_; simp (maxSteps := 200000) (disch := omega) [-List.getD_eq_getElem?_getD]; refine hK _ ?_; clear hK K
      refine aw_if rfl (fun h => ?_) (fun h => ?_)
      · simp [-List.getD_eq_getElem?_getD] at h
        refine aw_skip ?_; simp (maxSteps := 200000) (disch := omega) [-List.getD_eq_getElem?_getD]
        refine hK2 _ ?_; clear hK2
        refine aw_then fun K3 hK3 => ?_
        refine aw_block ?_
        by_cases he : a.getD i [] = b.getD i []
        · refine aw_draw [] [] [] drawMixed (by kernel_rfl) (by kernel_rfl) fun K hK => ?_; simp (maxSteps := 200000) (disch := omega) [-List.getD_eq_getElem?_getD, getD_strs, he]
          refine hK _ ?_; clear hK K
          refine aw_if rfl (fun h => absurd h (by simp)) (fun h => ?_)
          refine aw_skip ?_; simp (maxSteps := 200000) (disch := omega) [-List.getD_eq_getElem?_getD]
          refine hK3 _ ?_; clear hK3
          refine aw_reg0 fun K hK => ?_; simp (maxSteps := 200000) (disch := omega) [-List.getD_eq_getElem?_getD]
          refine hK _ ?_; clear hK K
          refine ⟨i + 1, ⟨by omega, fun j hj' => ?_⟩, by omega, ?_⟩
          · rcases Nat.lt_or_ge j i with h1 | h1
            · exact hj j h1
            · have : j = i := by omega
              subst this; exact he
          · refine weak_to [] [] ?_ ?_ ?_ ?_ HO ?_
            all_goals simp
        · have he' : (a.getD i [] != b.getD i []) = true := bne_iff_ne.2 he
          have he2 : ¬ a[i]?.getD [] = b[i]?.getD [] := by rwa [List.getD_eq_getElem?_getD, List.getD_eq_getElem?_getD] at he
          refine aw_draw [] [] [] drawMixed (by kernel_rfl) (by kernel_rfl) fun K hK => ?_; simp (maxSteps := 200000) (disch := omega) [-List.getD_eq_getElem?_getD, getD_strs, he', he2]
          refine hK _ ?_; clear hK K
          refine aw_if rfl (fun h => ?_) (fun h => absurd h (by simpa using he2))
          refine aw_reg fun K hK => ?_; simp (maxSteps := 200000) (disch := omega) [-List.getD_eq_getElem?_getD]; refine hK _ ?_; clear hK K
          refine aw_ret ?_; simp (maxSteps := 200000) (disch := omega) [-List.getD_eq_getElem?_getD]
          have : (a == b) = false := by simp; intro e; subst e; exact he rfl
          rw [this]
          exact ⟨rfl, rfl, rfl⟩
      · simp [-List.getD_eq_getElem?_getD] at h
        refine aw_exit ?_; simp (maxSteps := 200000) (disch := omega) [-List.getD_eq_getElem?_getD]
        refine hK1 _ ?_; clear hK1
        refine aw_reg fun K hK => ?_; simp (maxSteps := 200000) (disch := omega) [-List.getD_eq_getElem?_getD]; refine hK _ ?_; clear hK K
        refine aw_ret ?_; simp (maxSteps := 200000) (disch := omega) [-List.getD_eq_getElem?_getD]
        refine ⟨?_, rfl, rfl⟩
        have : a = b := eq_getD [] hl (fun j hj' => hj j (by omega))
        simp [this]

theorem behind_ok (a b : List UInt8) (hl : a.length + b.length ≤ 1099511627776) (H : List Blk) (T : Toks) (ta tb : Tag) : ACall Try.prog 13 [.sl a.length (encB a) ta, .sl b.length (encB b) tb] H T (Is (.sl (a ++ b).length (encB (a ++ b)) .none) H T) := by
  refine ACall.untag1 ?_
  refine ACall.drop' ?_ (by simp)
  refine acall_enter 2 [] Try.ntmps13 Try.func13 rfl (fun _ _ => Try.call13 _ _) (by simp) (fun HO => ?_)
  refine aw_reg fun K hK => ?_; simp (maxSteps := 200000) (disch := omega) [-List.getD_eq_getElem?_getD]; refine hK _ ?_; clear hK K
  refine aw_reg fun K hK => ?_; simp (maxSteps := 200000) (disch := omega) [-List.getD_eq_getElem?_getD]
  refine hK _ ?_; clear hK K
  refine aw_ret ?_; simp (maxSteps := 200000) (disch := omega) [-List.getD_eq_getElem?_getD]
  rw [encB_append]
end Go.Proofs.Ytgnhfcncbkikgaa
