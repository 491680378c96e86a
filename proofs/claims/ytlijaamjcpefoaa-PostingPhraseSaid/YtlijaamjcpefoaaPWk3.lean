/- PostingPhrase: the walk.
   Conditions: none. -/
import Derived.Test.YtlijaamjcpefoaaPFn25
import Derived.Test.YtlijaamjcpefoaaPFn23
import Derived.Test.YtlijaamjcpefoaaPArg
namespace Go.Proofs.Ytlijaamjcpefoaa
open Go Go.Am Post
set_option linter.unusedVariables false

theorem phrase_small {l : List PL} (hl : l.length ≤ 6) (h : ∀ x ∈ l, x.length ≤ 30 ∧ ∀ p ∈ x, p.2.length ≤ 30) : (phraseL l).length ≤ 30 ∧ ∀ p ∈ phraseL l, p.2.length ≤ 30 := by
  unfold phraseL
  split
  · exact ⟨Nat.zero_le _, fun p hp => by simp at hp⟩
  · rename_i hn
    have hm : l.getD 0 [] ∈ l := memD l 0 [] (by omega)
    exact ⟨Nat.le_trans (phK_len _ _ _) (h _ hm).1, flt_pos (h _ hm).2⟩

set_option maxHeartbeats 2000000 in
theorem pphrase_ok (l : List PL) (hl : l.length ≤ maxLen) (hz : ∀ x ∈ l, Sz x) : ACall Try.prog 3 [.sl l.length (plsAV l) .none] [] [] (fun r _ _ => r = .bool true) := by
  have hml : 400 ≤ maxLen := by decide
  have hml2 : maxLen ≤ 9223372036854775807 := by decide
  have hl' := Nat.le_trans hl hml2
  refine acall_enter 5 [] Try.ntmps3 Try.func3 rfl (fun _ _ => Try.call3 _ _) (by simp) (fun HO => ?_)
  refine aw_reg fun K hK => ?_; simp (maxSteps := 1000000) (disch := omega) [-List.getD_eq_getElem?_getD]; refine hK _ ?_; clear hK K
  refine aw_then fun K1 hK1 => ?_
  refine aw_reg fun K hK => ?_; simp (maxSteps := 1000000) (disch := omega) [-List.getD_eq_getElem?_getD]
  refine acall_is (awake_ok _ _) ?_; simp (maxSteps := 1000000) (disch := omega) [-List.getD_eq_getElem?_getD]
  refine hK _ ?_; clear hK K
  refine aw_if rfl (fun h => absurd h (by simp)) (fun h => ?_)
  refine aw_skip ?_; simp (maxSteps := 1000000) (disch := omega) [-List.getD_eq_getElem?_getD]
  refine hK1 _ ?_; clear hK1
  refine aw_then fun K1 hK1 => ?_
  by_cases h6 : 6 < l.length
  · have b1 : decide ((6 : Int) < l.length) = true := by simp; omega
    refine aw_reg fun K hK => ?_; simp (maxSteps := 1000000) (disch := omega) [-List.getD_eq_getElem?_getD, b1, h6]; refine hK _ ?_; clear hK K
    refine aw_if rfl (fun h => ?_) (fun h => absurd h (by simp))
    refine aw_reg fun K hK => ?_; simp (maxSteps := 1000000) (disch := omega) [-List.getD_eq_getElem?_getD]; refine hK _ ?_; clear hK K
    refine aw_ret ?_; simp (maxSteps := 1000000) (disch := omega) [-List.getD_eq_getElem?_getD]
  · have b1 : decide ((6 : Int) < l.length) = false := by simp; omega
    refine aw_reg fun K hK => ?_; simp (maxSteps := 1000000) (disch := omega) [-List.getD_eq_getElem?_getD, b1, h6]; refine hK _ ?_; clear hK K
    refine aw_if rfl (fun h => absurd h (by simp)) (fun h => ?_)
    refine aw_skip ?_; simp (maxSteps := 1000000) (disch := omega) [-List.getD_eq_getElem?_getD]
    refine hK1 _ ?_; clear hK1
    refine aw_reg fun K hK => ?_; simp (maxSteps := 1000000) (disch := omega) [-List.getD_eq_getElem?_getD]; refine hK _ ?_; clear hK K
    refine aw_then fun K1 hK1 => ?_
    refine aw_reg fun K hK => ?_; simp (maxSteps := 1000000) (disch := omega) [-List.getD_eq_getElem?_getD]; refine hK _ ?_; clear hK K
    refine aw_block ?_
    refine aw_own 3 0 1 [] (by omega) (by simp) ?_
    refine aw_loop (X := Nat) (fun k => ⟨[(0, .sl l.length (plsAV l) .none), (3, .sl k (plsAV (l.take k)) (.own 0)), (4, .int .i64 (k : Nat))], [], [(k, 1)]⟩) (fun k => k ≤ l.length ∧ ∀ j, j < k → (l.getD j []).length ≤ 30 ∧ ∀ p ∈ l.getD j [], p.2.length ≤ 30) (fun k => l.length - k) 0 ?_ ?_ ?_
    · exact ⟨Nat.zero_le _, fun j hj => absurd hj (Nat.not_lt_zero _)⟩
    · refine weak_to [] [] ?_ ?_ ?_ ?_ (HO.toks (by simp)) ?_
      all_goals simp [plsAV_nil]
    · rintro k ⟨h1, h2⟩
      refine aw_then fun K2 hK2 => ?_
      refine aw_reg fun K hK => ?_; simp (maxSteps := 1000000) (disch := omega) [-List.getD_eq_getElem?_getD]; refine hK _ ?_; clear hK K
      refine aw_if rfl (fun hk => ?_) (fun hk => ?_)
      · simp [-List.getD_eq_getElem?_getD] at hk
        have hat := plsAV_at l k hk
        have hm := memD l k [] hk
        have htk := plsAV_take l k hk
        have htl : (plsAV (l.take k)).length = k := by rw [plsAV_len, List.length_take]; omega
        have c1 := few_ok (l.getD k []) (hz _ hm).1 (hz _ hm).2 [] [(k, 1)] .none
        refine aw_skip ?_; simp (maxSteps := 1000000) (disch := omega) [-List.getD_eq_getElem?_getD]
        refine hK2 _ ?_; clear hK2
        refine aw_then fun K3 hK3 => ?_
        refine aw_block ?_
        refine aw_then fun K4 hK4 => ?_
        by_cases hf : (l.getD k []).length ≤ 30 ∧ ∀ p ∈ l.getD k [], p.2.length ≤ 30
        · rw [decide_eq_true hf] at c1
          have c2 := ownP_ok (l.getD k []) (by omega) [] [(k, 1)] .none
          refine aw_reg fun K hK => ?_; simp (maxSteps := 1000000) (disch := omega) [-List.getD_eq_getElem?_getD, hat, plsAV_len]
          refine acall_is (c1) ?_; simp (maxSteps := 1000000) (disch := omega) [-List.getD_eq_getElem?_getD]
          refine hK _ ?_; clear hK K
          refine aw_if rfl (fun h => absurd h (by simp)) (fun h => ?_)
          refine aw_skip ?_; simp (maxSteps := 1000000) (disch := omega) [-List.getD_eq_getElem?_getD]
          refine hK4 _ ?_; clear hK4
          refine aw_reg0 fun K hK => ?_; simp (maxSteps := 1000000) (disch := omega) [-List.getD_eq_getElem?_getD, hat, plsAV_len]
          refine acall_is (c2) ?_; simp (maxSteps := 1000000) (disch := omega) [-List.getD_eq_getElem?_getD]
          (try simp (maxSteps := 1000000) (disch := omega) [-List.getD_eq_getElem?_getD, htk, htl])
          refine hK _ ?_; clear hK K
          refine hK3 _ ?_; clear hK3
          refine aw_reg0 fun K hK => ?_; simp (maxSteps := 1000000) (disch := omega) [-List.getD_eq_getElem?_getD]
          refine hK _ ?_; clear hK K
          refine ⟨k + 1, ⟨by show k + 1 ≤ _; omega, fun j hj => ?_⟩, by show l.length - (k + 1) < l.length - k; omega, ?_⟩
          · rcases Nat.lt_or_ge j k with h3 | h3
            · exact h2 j h3
            · have : j = k := by omega
              subst this; exact hf
          · refine weak_to [] [] ?_ ?_ ?_ ?_ (HO.toks (by simp)) ?_
            all_goals simp
        · rw [decide_eq_false hf] at c1
          refine aw_reg fun K hK => ?_; simp (maxSteps := 1000000) (disch := omega) [-List.getD_eq_getElem?_getD, hat, plsAV_len]
          refine acall_is (c1) ?_; simp (maxSteps := 1000000) (disch := omega) [-List.getD_eq_getElem?_getD]
          refine hK _ ?_; clear hK K
          refine aw_if rfl (fun h => ?_) (fun h => absurd h (by simp))
          refine aw_reg fun K hK => ?_; simp (maxSteps := 1000000) (disch := omega) [-List.getD_eq_getElem?_getD]; refine hK _ ?_; clear hK K
          refine aw_ret ?_; simp (maxSteps := 1000000) (disch := omega) [-List.getD_eq_getElem?_getD]
      · simp [-List.getD_eq_getElem?_getD] at hk
        have hke : k = l.length := by omega
        subst hke
        rw [List.take_length]
        have hsm : ∀ x ∈ l, x.length ≤ 30 ∧ ∀ p ∈ x, p.2.length ≤ 30 := fun x hx => by
          obtain ⟨j, hj, e⟩ := memD_inv [] hx
          have := h2 j hj
          rw [e] at this
          exact this
        obtain ⟨q1, q2⟩ := phrase_small (by omega) hsm
        have c1 := fun tg => phrase_ok l (by omega) (fun x hx => by have := (hsm x hx).1; omega) (fun x hx p hp => by have := (hsm x hx).2 p hp; omega) [] [(l.length, 1)] tg
        have c2 := fun tg => phraseR_ok l (by omega) (fun x hx => by have := (hsm x hx).1; omega) (fun x hx p hp => by have := (hsm x hx).2 p hp; omega) [] [(l.length, 1)] tg
        have c3 := same_ok (phraseL l) (phraseL l) (by omega) (by omega) (fun p hp => by have := q2 p hp; omega) (fun p hp => by have := q2 p hp; omega) [] [(l.length, 1)] .none .none
        rw [decide_eq_true rfl] at c3
        refine aw_exit ?_; simp (maxSteps := 1000000) (disch := omega) [-List.getD_eq_getElem?_getD]
        refine hK1 _ ?_; clear hK1
        refine aw_reg fun K hK => ?_; simp (maxSteps := 1000000) (disch := omega) [-List.getD_eq_getElem?_getD]
        refine acall_is (c1 _) ?_; simp (maxSteps := 1000000) (disch := omega) [-List.getD_eq_getElem?_getD]
        refine acall_is (c2 _) ?_; simp (maxSteps := 1000000) (disch := omega) [-List.getD_eq_getElem?_getD]
        refine acall_is (c3) ?_; simp (maxSteps := 1000000) (disch := omega) [-List.getD_eq_getElem?_getD]
        refine hK _ ?_; clear hK K
        refine aw_ret ?_; simp (maxSteps := 1000000) (disch := omega) [-List.getD_eq_getElem?_getD]
end Go.Proofs.Ytlijaamjcpefoaa
