/- Posting lists of layer 38 as cells, and their copies.
   Conditions: lengths below 1000. -/
import Derived.Test.YtlijaamjcpefoaaPFn9
namespace Go.Proofs.Ytlijaamjcpefoaa
open Go Go.Am Post
set_option linter.unusedVariables false

@[simp] theorem amade_two (v w : AV) : amade [v, w] 2 = [v, w] := rfl

/-- The cells of a posting list. -/
def psAV (l : List (Int × List Int)) : List AV := l.flatMap fun p => [.int .i64 p.1, .sl p.2.length (ints p.2) .none]
theorem psAV_nil : psAV [] = [] := rfl
theorem psAV_len (l : List (Int × List Int)) : (psAV l).length = l.length * 2 := by
  induction l with
  | nil => rfl
  | cons p l ih => simp only [psAV, List.flatMap_cons, List.length_append, List.length_cons, List.length_nil] at ih ⊢; omega
@[simp] theorem below_ps (n t : Nat) (l : List (Int × List Int)) : BelowAll n t (psAV l) := by
  intro v hv
  obtain ⟨p, _, hv⟩ := List.mem_flatMap.1 hv
  simp at hv
  rcases hv with rfl | rfl <;> simp
theorem psAV_cons (p : Int × List Int) (l : List (Int × List Int)) : psAV (p :: l) = .int .i64 p.1 :: .sl p.2.length (ints p.2) .none :: psAV l := by simp [psAV]
theorem psAV_snoc (l : List (Int × List Int)) (d : Int) (at_ : List Int) : psAV l ++ [.int .i64 d, .sl at_.length (ints at_) .none] = psAV (l ++ [(d, at_)]) := by simp [psAV]
theorem psAV_at : ∀ (l : List (Int × List Int)) (i : Nat), i < l.length → (psAV l).getD (i * 2) .top = .int .i64 (l.getD i (0, [])).1 ∧ (psAV l).getD (i * 2 + 1) .top = .sl (l.getD i (0, [])).2.length (ints (l.getD i (0, [])).2) .none := by
  intro l
  induction l with
  | nil => intro i h; simp at h
  | cons p l ih =>
    intro i h
    cases i with
    | zero => rw [psAV_cons]; exact ⟨rfl, rfl⟩
    | succ i =>
      have := ih i (by simpa using h)
      rw [psAV_cons, show (i + 1) * 2 = i * 2 + 1 + 1 by omega]
      exact this
theorem psAV_cut : ∀ (l : List (Int × List Int)) (i : Nat), i < l.length → ((psAV l).drop (i * 2)).take 2 = [.int .i64 (l.getD i (0, [])).1, .sl (l.getD i (0, [])).2.length (ints (l.getD i (0, [])).2) .none] := by
  intro l
  induction l with
  | nil => intro i h; simp at h
  | cons p l ih =>
    intro i h
    cases i with
    | zero => rw [psAV_cons]; rfl
    | succ i =>
      have := ih i (by simpa using h)
      rw [psAV_cons, show (i + 1) * 2 = i * 2 + 1 + 1 by omega]
      exact this
theorem psAV_take (l : List (Int × List Int)) (k : Nat) (h : k < l.length) : psAV (l.take k) ++ [.int .i64 (l.getD k (0, [])).1, .sl (l.getD k (0, [])).2.length (ints (l.getD k (0, [])).2) .none] = psAV (l.take (k + 1)) := by
  rw [psAV_snoc, show ((l.getD k (0, [])).1, (l.getD k (0, [])).2) = l.getD k (0, []) from rfl]
  congr 1
  rw [List.take_succ_eq_append_getElem h]
  simp [h]

theorem theirs_ok (l : List (Int × List Int)) (hl : l.length ≤ 1000) (H : List Blk) (T : Toks) (tg : Tag) : ACall Try.prog 33 [.sl l.length (psAV l) tg] H T (Is (.sl l.length (psAV l) .none) H T) := by
  refine ACall.untag1 ?_
  refine ACall.drop' ?_ (by simp)
  refine acall_enter 5 [] Try.ntmps33 Try.func33 rfl (fun _ _ => Try.call33 _ _) (by simp) (fun HO => ?_)
  refine aw_reg fun K hK => ?_; simp (maxSteps := 200000) (disch := omega) [-List.getD_eq_getElem?_getD]; refine hK _ ?_; clear hK K
  refine aw_reg fun K hK => ?_; simp (maxSteps := 200000) (disch := omega) [-List.getD_eq_getElem?_getD]; refine hK _ ?_; clear hK K
  refine aw_then fun K1 hK1 => ?_
  refine aw_reg fun K hK => ?_; simp (maxSteps := 200000) (disch := omega) [-List.getD_eq_getElem?_getD]; refine hK _ ?_; clear hK K
  refine aw_block ?_
  refine aw_own 3 0 2 [] (by omega) (by simp) ?_
  refine aw_loop (X := Nat) (fun k => ⟨[(0, .sl l.length (psAV l) .none), (3, .sl k (psAV (l.take k)) (.own T.length)), (4, .int .i64 (k : Nat))], H, T ++ [(k * 2, 2)]⟩) (fun k => k ≤ l.length) (fun k => l.length - k) 0 ?_ ?_ ?_
  · exact Nat.zero_le _
  · refine weak_to [] [] ?_ ?_ ?_ ?_ (HO.toks (by simp)) ?_
    all_goals simp [psAV_nil]
  · intro k hk
    refine aw_then fun K2 hK2 => ?_
    refine aw_reg fun K hK => ?_; simp (maxSteps := 200000) (disch := omega) [-List.getD_eq_getElem?_getD]; refine hK _ ?_; clear hK K
    refine aw_if rfl (fun hk2 => ?_) (fun hk2 => ?_)
    · simp [-List.getD_eq_getElem?_getD] at hk2
      have hcut := psAV_cut l k hk2
      have htl : (psAV (l.take k)).length = k * 2 := by rw [psAV_len, List.length_take]; omega
      refine aw_skip ?_; simp (maxSteps := 200000) (disch := omega) [-List.getD_eq_getElem?_getD]
      refine hK2 _ ?_; clear hK2
      refine aw_then fun K3 hK3 => ?_
      refine aw_block ?_
      refine aw_reg0 fun K hK => ?_; simp (maxSteps := 200000) (disch := omega) [-List.getD_eq_getElem?_getD, hcut, psAV_len, htl, psAV_take l k hk2]
      refine hK _ ?_; clear hK K
      refine hK3 _ ?_; clear hK3
      refine aw_reg0 fun K hK => ?_; simp (maxSteps := 200000) (disch := omega) [-List.getD_eq_getElem?_getD]
      refine hK _ ?_; clear hK K
      refine ⟨k + 1, by show k + 1 ≤ _; omega, by show l.length - (k + 1) < l.length - k; omega, ?_⟩
      refine weak_to [] [] ?_ ?_ ?_ ?_ (HO.toks (by simp)) ?_
      all_goals simp
    · simp at hk2
      have : k = l.length := by omega
      subst this
      refine aw_exit ?_; simp (maxSteps := 200000) (disch := omega) [-List.getD_eq_getElem?_getD]
      refine hK1 _ ?_; clear hK1
      refine aw_reg fun K hK => ?_; simp (maxSteps := 200000) (disch := omega) [-List.getD_eq_getElem?_getD]; refine hK _ ?_; clear hK K
      refine aw_ret ?_; simp (maxSteps := 200000) (disch := omega) [-List.getD_eq_getElem?_getD]

theorem ownP_ok (l : List (Int × List Int)) (hl : l.length ≤ 1000) (H : List Blk) (T : Toks) (tg : Tag) : ACall Try.prog 13 [.sl l.length (psAV l) tg] H T (Is (.sl l.length (psAV l) .none) H T) := by
  refine ACall.untag1 ?_
  refine ACall.drop' ?_ (by simp)
  refine acall_enter 5 [] Try.ntmps13 Try.func13 rfl (fun _ _ => Try.call13 _ _) (by simp) (fun HO => ?_)
  refine aw_reg fun K hK => ?_; simp (maxSteps := 200000) (disch := omega) [-List.getD_eq_getElem?_getD]; refine hK _ ?_; clear hK K
  refine aw_reg fun K hK => ?_; simp (maxSteps := 200000) (disch := omega) [-List.getD_eq_getElem?_getD]; refine hK _ ?_; clear hK K
  refine aw_then fun K1 hK1 => ?_
  refine aw_reg fun K hK => ?_; simp (maxSteps := 200000) (disch := omega) [-List.getD_eq_getElem?_getD]; refine hK _ ?_; clear hK K
  refine aw_block ?_
  refine aw_own 3 0 2 [] (by omega) (by simp) ?_
  refine aw_loop (X := Nat) (fun k => ⟨[(0, .sl l.length (psAV l) .none), (3, .sl k (psAV (l.take k)) (.own T.length)), (4, .int .i64 (k : Nat))], H, T ++ [(k * 2, 2)]⟩) (fun k => k ≤ l.length) (fun k => l.length - k) 0 ?_ ?_ ?_
  · exact Nat.zero_le _
  · refine weak_to [] [] ?_ ?_ ?_ ?_ (HO.toks (by simp)) ?_
    all_goals simp [psAV_nil]
  · intro k hk
    refine aw_then fun K2 hK2 => ?_
    refine aw_reg fun K hK => ?_; simp (maxSteps := 200000) (disch := omega) [-List.getD_eq_getElem?_getD]; refine hK _ ?_; clear hK K
    refine aw_if rfl (fun hk2 => ?_) (fun hk2 => ?_)
    · simp [-List.getD_eq_getElem?_getD] at hk2
      have hcut := psAV_cut l k hk2
      have htl : (psAV (l.take k)).length = k * 2 := by rw [psAV_len, List.length_take]; omega
      refine aw_skip ?_; simp (maxSteps := 200000) (disch := omega) [-List.getD_eq_getElem?_getD]
      refine hK2 _ ?_; clear hK2
      refine aw_then fun K3 hK3 => ?_
      refine aw_block ?_
      refine aw_reg0 fun K hK => ?_; simp (maxSteps := 200000) (disch := omega) [-List.getD_eq_getElem?_getD, hcut, psAV_len, htl, psAV_take l k hk2]
      refine hK _ ?_; clear hK K
      refine hK3 _ ?_; clear hK3
      refine aw_reg0 fun K hK => ?_; simp (maxSteps := 200000) (disch := omega) [-List.getD_eq_getElem?_getD]
      refine hK _ ?_; clear hK K
      refine ⟨k + 1, by show k + 1 ≤ _; omega, by show l.length - (k + 1) < l.length - k; omega, ?_⟩
      refine weak_to [] [] ?_ ?_ ?_ ?_ (HO.toks (by simp)) ?_
      all_goals simp
    · simp at hk2
      have : k = l.length := by omega
      subst this
      refine aw_exit ?_; simp (maxSteps := 200000) (disch := omega) [-List.getD_eq_getElem?_getD]
      refine hK1 _ ?_; clear hK1
      refine aw_reg fun K hK => ?_; simp (maxSteps := 200000) (disch := omega) [-List.getD_eq_getElem?_getD]; refine hK _ ?_; clear hK K
      refine aw_ret ?_; simp (maxSteps := 200000) (disch := omega) [-List.getD_eq_getElem?_getD]
end Go.Proofs.Ytlijaamjcpefoaa
