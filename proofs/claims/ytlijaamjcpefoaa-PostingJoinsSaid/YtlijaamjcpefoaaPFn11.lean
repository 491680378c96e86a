/- The documents of posting lists of layer 38.
   Conditions: lengths below 1000. -/
import Derived.Test.YtlijaamjcpefoaaPFn10
namespace Go.Proofs.Ytlijaamjcpefoaa
open Go Go.Am Post
set_option linter.unusedVariables false

def docs (l : List (Int × List Int)) : List Int := l.map (·.1)
theorem docs_take (l : List (Int × List Int)) (k : Nat) (h : k < l.length) : ints (docs (l.take k)) ++ [.int .i64 (l.getD k (0, [])).1] = ints (docs (l.take (k + 1))) := by
  have e : l.take (k + 1) = l.take k ++ [l.getD k (0, [])] := by
    rw [List.take_succ_eq_append_getElem h]
    simp [h]
  rw [e, ints_snoc]
  simp [docs]

theorem docsR_ok (l : List (Int × List Int)) (hl : l.length ≤ 1000) (H : List Blk) (T : Toks) (tg : Tag) : ACall Try.prog 69 [.sl l.length (psAV l) tg] H T (Is (.sl l.length (ints (docs l)) .none) H T) := by
  refine ACall.untag1 ?_
  refine ACall.drop' ?_ (by simp)
  refine acall_enter 5 [] Try.ntmps69 Try.func69 rfl (fun _ _ => Try.call69 _ _) (by simp) (fun HO => ?_)
  refine aw_reg fun K hK => ?_; simp (maxSteps := 200000) (disch := omega) [-List.getD_eq_getElem?_getD]; refine hK _ ?_; clear hK K
  refine aw_reg fun K hK => ?_; simp (maxSteps := 200000) (disch := omega) [-List.getD_eq_getElem?_getD]; refine hK _ ?_; clear hK K
  refine aw_then fun K1 hK1 => ?_
  refine aw_reg fun K hK => ?_; simp (maxSteps := 200000) (disch := omega) [-List.getD_eq_getElem?_getD]; refine hK _ ?_; clear hK K
  refine aw_block ?_
  refine aw_own 3 0 1 [] (by omega) (by simp) ?_
  refine aw_loop (X := Nat) (fun k => ⟨[(0, .sl l.length (psAV l) .none), (3, .sl k (ints (docs (l.take k))) (.own T.length)), (4, .int .i64 (k : Nat))], H, T ++ [(k, 1)]⟩) (fun k => k ≤ l.length) (fun k => l.length - k) 0 ?_ ?_ ?_
  · exact Nat.zero_le _
  · refine weak_to [] [] ?_ ?_ ?_ ?_ (HO.toks (by simp)) ?_
    all_goals simp [docs, ints]
  · intro k hk
    refine aw_then fun K2 hK2 => ?_
    refine aw_reg fun K hK => ?_; simp (maxSteps := 200000) (disch := omega) [-List.getD_eq_getElem?_getD]; refine hK _ ?_; clear hK K
    refine aw_if rfl (fun hk2 => ?_) (fun hk2 => ?_)
    · simp [-List.getD_eq_getElem?_getD] at hk2
      have hat := (psAV_at l k hk2).1
      have htl : (ints (docs (l.take k))).length = k := by simp [docs, ints]; omega
      have htk := docs_take l k hk2
      generalize ints (docs (l.take k)) = out at *
      refine aw_skip ?_; simp (maxSteps := 200000) (disch := omega) [-List.getD_eq_getElem?_getD]
      refine hK2 _ ?_; clear hK2
      refine aw_then fun K3 hK3 => ?_
      refine aw_block ?_
      refine aw_reg0 fun K hK => ?_; simp (maxSteps := 200000) (disch := omega) [-List.getD_eq_getElem?_getD, hat, psAV_len, htl, htk]
      refine hK _ ?_; clear hK K
      refine hK3 _ ?_; clear hK3
      refine aw_reg0 fun K hK => ?_; simp (maxSteps := 200000) (disch := omega) [-List.getD_eq_getElem?_getD]
      refine hK _ ?_; clear hK K
      refine ⟨k + 1, by show k + 1 ≤ _; omega, by show l.length - (k + 1) < l.length - k; omega, ?_⟩
      refine weak_to [] [] ?_ ?_ ?_ ?_ (HO.toks (by simp)) ?_
      all_goals simp
    · simp at hk2
      have : k = l.length := by omega
      subst this
      refine aw_exit ?_; simp (maxSteps := 200000) (disch := omega) [-List.getD_eq_getElem?_getD]
      refine hK1 _ ?_; clear hK1
      refine aw_reg fun K hK => ?_; simp (maxSteps := 200000) (disch := omega) [-List.getD_eq_getElem?_getD]; refine hK _ ?_; clear hK K
      refine aw_ret ?_; simp (maxSteps := 200000) (disch := omega) [-List.getD_eq_getElem?_getD]

theorem documents_ok (l : List (Int × List Int)) (hl : l.length ≤ 1000) (H : List Blk) (T : Toks) (tg : Tag) : ACall Try.prog 74 [.sl l.length (psAV l) tg] H T (Is (.sl l.length (ints (docs l)) .none) H T) := by
  refine ACall.untag1 ?_
  refine ACall.drop' ?_ (by simp)
  refine acall_enter 12 [] Try.ntmps74 Try.func74 rfl (fun _ _ => Try.call74 _ _) (by simp) (fun HO => ?_)
  refine aw_reg fun K hK => ?_; simp (maxSteps := 200000) (disch := omega) [-List.getD_eq_getElem?_getD]; refine hK _ ?_; clear hK K
  refine aw_reg fun K hK => ?_; simp (maxSteps := 200000) (disch := omega) [-List.getD_eq_getElem?_getD]; refine hK _ ?_; clear hK K
  refine aw_then fun K1 hK1 => ?_
  refine aw_reg fun K hK => ?_; simp (maxSteps := 200000) (disch := omega) [-List.getD_eq_getElem?_getD]; refine hK _ ?_; clear hK K
  refine aw_block ?_
  refine aw_loop (X := Nat) (fun k => ⟨[(3, .sl k (ints (docs (l.take k))) (.own T.length)), (9, .sl l.length (psAV l) .none), (10, .int .i64 (l.length : Nat)), (11, .int .i64 (k : Nat))], H, T ++ [(k, 1)]⟩) (fun k => k ≤ l.length) (fun k => l.length - k) 0 ?_ ?_ ?_
  · exact Nat.zero_le _
  · refine weak_to [] [] ?_ ?_ ?_ ?_ (HO.toks (by simp)) ?_
    all_goals simp [docs, ints]
  · intro k hk
    refine aw_reg fun K hK => ?_; simp (maxSteps := 200000) (disch := omega) [-List.getD_eq_getElem?_getD]; refine hK _ ?_; clear hK K
    refine aw_then fun K2 hK2 => ?_
    refine aw_if rfl (fun hk2 => ?_) (fun hk2 => ?_)
    · simp [-List.getD_eq_getElem?_getD] at hk2
      have hcut := psAV_cut l k hk2
      have htl : (ints (docs (l.take k))).length = k := by simp [docs, ints]; omega
      have htk := docs_take l k hk2
      generalize ints (docs (l.take k)) = out at *
      refine aw_skip ?_; simp (maxSteps := 200000) (disch := omega) [-List.getD_eq_getElem?_getD]
      refine hK2 _ ?_; clear hK2
      refine aw_then fun K3 hK3 => ?_
      refine aw_block ?_
      refine aw_reg fun K hK => ?_; simp (maxSteps := 200000) (disch := omega) [-List.getD_eq_getElem?_getD, hcut, psAV_len]; refine hK _ ?_; clear hK K
      refine aw_reg0 fun K hK => ?_; simp (maxSteps := 200000) (disch := omega) [-List.getD_eq_getElem?_getD, htl, htk]
      refine hK _ ?_; clear hK K
      refine hK3 _ ?_; clear hK3
      refine aw_reg0 fun K hK => ?_; simp (maxSteps := 200000) (disch := omega) [-List.getD_eq_getElem?_getD]
      refine hK _ ?_; clear hK K
      refine ⟨k + 1, by show k + 1 ≤ _; omega, by show l.length - (k + 1) < l.length - k; omega, ?_⟩
      refine weak_to [.cells [.int .i64 (l.getD k (0, [])).1, .sl (l.getD k (0, [])).2.length (ints (l.getD k (0, [])).2) .none]] [] ?_ ?_ ?_ ?_ (HO.toks (by simp)) ?_
      all_goals simp
    · simp at hk2
      have : k = l.length := by omega
      subst this
      refine aw_exit ?_; simp (maxSteps := 200000) (disch := omega) [-List.getD_eq_getElem?_getD]
      refine hK1 _ ?_; clear hK1
      refine aw_reg fun K hK => ?_; simp (maxSteps := 200000) (disch := omega) [-List.getD_eq_getElem?_getD]; refine hK _ ?_; clear hK K
      refine aw_ret ?_; simp (maxSteps := 200000) (disch := omega) [-List.getD_eq_getElem?_getD]
end Go.Proofs.Ytlijaamjcpefoaa
