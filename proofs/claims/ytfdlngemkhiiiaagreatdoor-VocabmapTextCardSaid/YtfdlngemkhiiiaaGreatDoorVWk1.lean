/- Equal lists; the examples of the document; Compose (layer 26).
   Conditions: lengths below 2^20, as each theorem says. -/
import Derived.Test.YtfdlngemkhiiiaaGreatDoorVComp
import Derived.Test.YtfdlngemkhiiiaaGreatDoorVArg
namespace Go.Proofs.YtfdlngemkhiiiaaGreatDoor
open Go Go.Am Voc
set_option linter.unusedVariables false

set_option maxRecDepth 100000 in
set_option maxHeartbeats 4000000 in
theorem same_ok (l : List Mp) (hl : l.length ≤ 1000000) (H : List Blk) (T : Toks) (t1 t2 : Tag) :
    ACall Tryz.prog 8 [.sl l.length (mpAV l) t1, .sl l.length (mpAV l) t2] H T (Is (.bool true) H T) := by
  refine ACall.untag1 (ACall.untag2 ?_)
  refine ACall.drop' ?_ (by simp)
  have b0 : ((l.length : Int) != l.length) = false := bne_self_eq_false _
  refine acall_enter 6 [] Tryz.ntmps8 Tryz.func8 rfl (fun _ _ => Tryz.call8 _ _) (by simp) (fun HO => ?_)
  refine aw_reg fun K hK => ?_; simp (maxSteps := 1000000) (disch := omega) [-List.getD_eq_getElem?_getD]; refine hK _ ?_; clear hK K
  refine aw_then fun K1 hK1 => ?_
  refine aw_reg fun K hK => ?_; simp (maxSteps := 1000000) (disch := omega) [-List.getD_eq_getElem?_getD, b0]; refine hK _ ?_; clear hK K
  refine aw_if rfl (fun h => absurd h (by simp)) (fun h => ?_)
  refine aw_skip ?_; simp (maxSteps := 1000000) (disch := omega) [-List.getD_eq_getElem?_getD]
  refine hK1 _ ?_; clear hK1
  refine aw_then fun K1 hK1 => ?_
  refine aw_reg fun K hK => ?_; simp (maxSteps := 1000000) (disch := omega) [-List.getD_eq_getElem?_getD]; refine hK _ ?_; clear hK K
  refine aw_block ?_
  refine aw_loop (X := Nat) (fun k => ⟨[(0, .sl l.length (mpAV l) .none), (1, .sl l.length (mpAV l) .none), (5, .int .i64 (k : Nat))], H, T⟩) (fun k => k ≤ l.length) (fun k => l.length - k) 0 ?_ ?_ ?_
  · exact Nat.zero_le _
  · refine weak_to [] [] ?_ ?_ ?_ ?_ HO ?_
    all_goals simp
  · rintro k h1
    refine aw_then fun K2 hK2 => ?_
    refine aw_reg fun K hK => ?_; simp (maxSteps := 1000000) (disch := omega) [-List.getD_eq_getElem?_getD]; refine hK _ ?_; clear hK K
    refine aw_if rfl (fun hk => ?_) (fun hk => ?_)
    · simp [-List.getD_eq_getElem?_getD] at hk
      have hcut := mpAV_cut l k hk
      refine aw_skip ?_; simp (maxSteps := 1000000) (disch := omega) [-List.getD_eq_getElem?_getD]
      refine hK2 _ ?_; clear hK2
      refine aw_then fun K3 hK3 => ?_
      refine aw_block ?_
      refine aw_draw [] [] [] drawMixed (by kernel_rfl) (by kernel_rfl) fun K hK => ?_; simp (maxSteps := 1000000) (disch := omega) [-List.getD_eq_getElem?_getD, hk, hcut, mpAV_len]
      refine hK _ ?_; clear hK K
      refine aw_if rfl (fun h => absurd h (by simp)) (fun h => ?_)
      refine aw_skip ?_; simp (maxSteps := 1000000) (disch := omega) [-List.getD_eq_getElem?_getD]
      refine hK3 _ ?_; clear hK3
      refine aw_reg0 fun K hK => ?_; simp (maxSteps := 1000000) (disch := omega) [-List.getD_eq_getElem?_getD]
      refine hK _ ?_; clear hK K
      refine ⟨k + 1, by show k + 1 ≤ _; omega, by show l.length - (k + 1) < l.length - k; omega, ?_⟩
      refine weak_to [] [] ?_ ?_ ?_ ?_ HO ?_
      all_goals simp
    · refine aw_exit ?_; simp (maxSteps := 1000000) (disch := omega) [-List.getD_eq_getElem?_getD]
      refine hK1 _ ?_; clear hK1
      refine aw_reg fun K hK => ?_; simp (maxSteps := 1000000) (disch := omega) [-List.getD_eq_getElem?_getD]; refine hK _ ?_; clear hK K
      refine aw_ret ?_; simp (maxSteps := 1000000) (disch := omega) [-List.getD_eq_getElem?_getD]

@[simp] theorem amade_three6 (a b c : AV) : amade [a, b, c] 6 = [a, b, c, a, b, c] := by simp [amade, List.range, List.range.loop]

set_option maxRecDepth 100000 in
set_option maxHeartbeats 4000000 in
theorem awake_ok (H : List Blk) (T : Toks) : ACall Tryz.prog 4 [] H T (Is (.bool true) H T) := by
  refine ACall.drop' ?_ (by simp)
  have e1 : compF [(1, 2, 2), (1, 3, 1)] [(2, 7, 1), (3, 7, 3)] = ([], 0) := by kernel_rfl
  have e2 : compF [(1, 2, 2), (1, 3, 1)] [(2, 7, 1), (3, 7, 1)] = ([(1, 7, 1)], 0) := by kernel_rfl
  have e3 : validM [(1, 2, 2), (1, 3, 1)] = true := by kernel_rfl
  have c1 := ways_ok [(1, 2, 2), (1, 3, 1)] [(2, 7, 1), (3, 7, 3)] (by simp) (by simp) H T .full .full
  have c2 := ways_ok [(1, 2, 2), (1, 3, 1)] [(2, 7, 1), (3, 7, 1)] (by simp) (by simp) H T .full .full
  have c3 := validP_ok [(1, 2, 2), (1, 3, 1)] (by simp) H T .full
  rw [e1] at c1
  rw [e2] at c2
  rw [e3] at c3
  simp only [mpAV, List.flatMap_cons, List.flatMap_nil, List.append_nil, List.cons_append, List.nil_append, List.length_cons, List.length_nil] at c1 c2 c3
  refine acall_enter 6 [] Tryz.ntmps4 Tryz.func4 rfl (fun _ _ => Tryz.call4 _ _) (by simp) (fun HO => ?_)
  refine aw_reg fun K hK => ?_; simp (maxSteps := 1000000) (disch := omega) [-List.getD_eq_getElem?_getD]; refine hK _ ?_; clear hK K
  refine aw_reg fun K hK => ?_; simp (maxSteps := 1000000) (disch := omega) [-List.getD_eq_getElem?_getD]; refine hK _ ?_; clear hK K
  refine aw_reg fun K hK => ?_; simp (maxSteps := 1000000) (disch := omega) [-List.getD_eq_getElem?_getD]
  refine acall_is (c1) ?_; simp (maxSteps := 1000000) (disch := omega) [-List.getD_eq_getElem?_getD]
  refine hK _ ?_; clear hK K
  refine aw_reg fun K hK => ?_; simp (maxSteps := 1000000) (disch := omega) [-List.getD_eq_getElem?_getD]
  refine acall_is (c2) ?_; simp (maxSteps := 1000000) (disch := omega) [-List.getD_eq_getElem?_getD]
  refine hK _ ?_; clear hK K
  refine aw_reg fun K hK => ?_; simp (maxSteps := 1000000) (disch := omega) [-List.getD_eq_getElem?_getD]
  refine acall_is (c3) ?_; simp (maxSteps := 1000000) (disch := omega) [-List.getD_eq_getElem?_getD]
  refine hK _ ?_; clear hK K
  refine aw_ret ?_; simp (maxSteps := 1000000) (disch := omega) [-List.getD_eq_getElem?_getD]

end Go.Proofs.YtfdlngemkhiiiaaGreatDoor
