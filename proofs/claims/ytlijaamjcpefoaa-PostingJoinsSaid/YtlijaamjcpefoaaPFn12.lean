/- Valid of layer 38.
   Conditions: lengths below 1000. -/
import Derived.Test.YtlijaamjcpefoaaPFn11
namespace Go.Proofs.Ytlijaamjcpefoaa
open Go Go.Am Post
set_option linter.unusedVariables false

def badP (p : Int × List Int) : Bool := decide (p.2.length = 0) || !asc p.2 0 1000000
def validL (l : List (Int × List Int)) : Bool := asc (docs l) 1 1000000000 && !l.any badP

theorem valid1_ok (p : Int × List Int) (hp : p.2.length ≤ maxLen) (H : List Blk) (T : Toks) : ACall Try.prog 73 [.agg [.int .i64 p.1, .sl p.2.length (ints p.2) .none]] H T (Is (.bool (badP p)) H T) := by
  refine ACall.drop' ?_ (by simp)
  have c := asc_ok p.2 0 1000000 hp (H ++ [.cells [.int .i64 p.1, .sl p.2.length (ints p.2) .none]]) T .none
  refine acall_enter 3 [] Try.ntmps73 Try.func73 rfl (fun _ _ => Try.call73 _ _) (by simp) (fun HO => ?_)
  refine aw_reg fun K hK => ?_; simp (maxSteps := 200000) (disch := omega) [-List.getD_eq_getElem?_getD]; refine hK _ ?_; clear hK K
  by_cases h0 : p.2.length = 0
  · have b : ((p.2.length : Int) == 0) = true := by rw [h0]; rfl
    have h1 : (p.2.length : Int) = 0 := by omega
    have h2 : p.2 = [] := List.eq_nil_of_length_eq_zero h0
    refine aw_reg fun K hK => ?_; simp (maxSteps := 200000) (disch := omega) [-List.getD_eq_getElem?_getD, b, h1, h2]; refine hK _ ?_; clear hK K
    refine aw_ret ?_; simp (maxSteps := 200000) (disch := omega) [-List.getD_eq_getElem?_getD]
    simp [badP, h0]
  · have b : ((p.2.length : Int) == 0) = false := by rw [beq_eq_false_iff_ne]; omega
    have h2 : ¬ p.2 = [] := fun e => h0 (by rw [e]; rfl)
    refine aw_reg fun K hK => ?_; simp (maxSteps := 200000) (disch := omega) [-List.getD_eq_getElem?_getD, b, h2]
    refine acall_is (c) ?_; simp (maxSteps := 200000) (disch := omega) [-List.getD_eq_getElem?_getD]
    refine hK _ ?_; clear hK K
    refine aw_ret ?_; simp (maxSteps := 200000) (disch := omega) [-List.getD_eq_getElem?_getD]
    simp [badP, h2]

theorem index_ok (l : List (Int × List Int)) (hl : l.length ≤ 1000) (hp : ∀ p ∈ l, p.2.length ≤ maxLen) (H : List Blk) (T : Toks) :
    ACall Try.prog 94 [.sl l.length (psAV l) .none, .fn 73 [] []] H T (fun r H' T' => H' = H ∧ T' = T ∧ ∃ v : Int, r = .int .i64 v ∧ decide (0 ≤ v) = l.any badP) := by
  generalize hq : l.any badP = q
  refine acall_enter 9 [] Try.ntmps94 Try.func94 rfl (fun _ _ => Try.call94 _ _) (by simp) (fun HO => ?_)
  refine aw_reg fun K hK => ?_; simp (maxSteps := 200000) (disch := omega) [-List.getD_eq_getElem?_getD]; refine hK _ ?_; clear hK K
  refine aw_then fun K1 hK1 => ?_
  refine aw_reg fun K hK => ?_; simp (maxSteps := 200000) (disch := omega) [-List.getD_eq_getElem?_getD]; refine hK _ ?_; clear hK K
  refine aw_block ?_
  refine aw_loop (X := Nat) (fun k => ⟨[(0, .sl l.length (psAV l) .none), (1, .fn 73 [] []), (7, .int .i64 (l.length : Nat)), (8, .int .i64 (k : Nat))], H, T⟩) (fun k => k ≤ l.length ∧ ∀ j, j < k → badP (l.getD j (0, [])) = false) (fun k => l.length - k) 0 ?_ ?_ ?_
  · exact ⟨Nat.zero_le _, fun j hj => absurd hj (Nat.not_lt_zero _)⟩
  · refine weak_to [] [] ?_ ?_ ?_ ?_ HO ?_
    all_goals simp
  · rintro k ⟨h1, h2⟩
    refine aw_reg fun K hK => ?_; simp (maxSteps := 200000) (disch := omega) [-List.getD_eq_getElem?_getD]; refine hK _ ?_; clear hK K
    refine aw_then fun K2 hK2 => ?_
    refine aw_if rfl (fun hk => ?_) (fun hk => ?_)
    · simp [-List.getD_eq_getElem?_getD] at hk
      have hcut := psAV_cut l k hk
      have hm : l.getD k (0, []) ∈ l := by
        rw [List.getD_eq_getElem?_getD, List.getElem?_eq_getElem hk]
        exact List.getElem_mem hk
      have c := valid1_ok (l.getD k (0, [])) (hp _ hm) H T
      refine aw_skip ?_; simp (maxSteps := 200000) (disch := omega) [-List.getD_eq_getElem?_getD]
      refine hK2 _ ?_; clear hK2
      refine aw_then fun K3 hK3 => ?_
      refine aw_block ?_
      refine aw_reg fun K hK => ?_; simp (maxSteps := 200000) (disch := omega) [-List.getD_eq_getElem?_getD]; refine hK _ ?_; clear hK K
      cases hb : badP (l.getD k (0, [])) with
      | true =>
        rw [hb] at c
        refine aw_reg fun K hK => ?_; simp (maxSteps := 200000) (disch := omega) [-List.getD_eq_getElem?_getD, hcut, psAV_len]
        refine acall_is (c) ?_; simp (maxSteps := 200000) (disch := omega) [-List.getD_eq_getElem?_getD]
        refine hK _ ?_; clear hK K
        refine aw_if rfl (fun h => ?_) (fun h => absurd h (by simp))
        refine aw_reg fun K hK => ?_; simp (maxSteps := 200000) (disch := omega) [-List.getD_eq_getElem?_getD]; refine hK _ ?_; clear hK K
        refine aw_ret ?_; simp (maxSteps := 200000) (disch := omega) [-List.getD_eq_getElem?_getD]
        have : l.any badP = true := List.any_eq_true.2 ⟨_, hm, hb⟩
        rw [hq] at this
        simp [this]
      | false =>
        rw [hb] at c
        refine aw_reg fun K hK => ?_; simp (maxSteps := 200000) (disch := omega) [-List.getD_eq_getElem?_getD, hcut, psAV_len]
        refine acall_is (c) ?_; simp (maxSteps := 200000) (disch := omega) [-List.getD_eq_getElem?_getD]
        refine hK _ ?_; clear hK K
        refine aw_if rfl (fun h => absurd h (by simp)) (fun h => ?_)
        refine aw_skip ?_; simp (maxSteps := 200000) (disch := omega) [-List.getD_eq_getElem?_getD]
        refine hK3 _ ?_; clear hK3
        refine aw_reg0 fun K hK => ?_; simp (maxSteps := 200000) (disch := omega) [-List.getD_eq_getElem?_getD]
        refine hK _ ?_; clear hK K
        refine ⟨k + 1, ⟨by show k + 1 ≤ _; omega, fun j hj => ?_⟩, by show l.length - (k + 1) < l.length - k; omega, ?_⟩
        · rcases Nat.lt_or_ge j k with h3 | h3
          · exact h2 j h3
          · have : j = k := by omega
            subst this; exact hb
        · refine weak_to [] [] ?_ ?_ ?_ ?_ HO ?_
          all_goals simp
    · simp [-List.getD_eq_getElem?_getD] at hk
      have hn : l.any badP = false := by
        rw [List.any_eq_false]
        intro p hp'
        obtain ⟨j, hj, e⟩ := List.mem_iff_getElem.1 hp'
        have := h2 j (by omega)
        rw [List.getD_eq_getElem?_getD, List.getElem?_eq_getElem hj] at this
        simp only [Option.getD_some, e] at this
        simp [this]
      refine aw_exit ?_; simp (maxSteps := 200000) (disch := omega) [-List.getD_eq_getElem?_getD]
      refine hK1 _ ?_; clear hK1
      refine aw_reg fun K hK => ?_; simp (maxSteps := 200000) (disch := omega) [-List.getD_eq_getElem?_getD]; refine hK _ ?_; clear hK K
      refine aw_ret ?_; simp (maxSteps := 200000) (disch := omega) [-List.getD_eq_getElem?_getD]
      rw [hq] at hn
      simp [hn]
end Go.Proofs.Ytlijaamjcpefoaa
