/- The program's inverse; exact mappings (layer 26).
   Conditions: lengths below 2^40, as each theorem says. -/
import Derived.Test.YtfdlngemkhiiiaaDoorVFn6
namespace Go.Proofs.YtfdlngemkhiiiaaDoor
open Go Go.Am Voc
set_option linter.unusedVariables false

theorem map_at {f : Mp → Mp} {l : List Mp} {i : Nat} (h : i < l.length) : (l.map f).getD i d0 = f (l.getD i d0) := by
  rw [List.getD_eq_getElem?_getD, List.getElem?_map, List.getD_eq_getElem?_getD, List.getElem?_eq_getElem h]; rfl

set_option maxRecDepth 100000 in
set_option maxHeartbeats 4000000 in
theorem inverse_ok (l : List Mp) (hl : l.length ≤ 1099511627776) (H : List Blk) (T : Toks) (tg : Tag) :
    ACall Tryd.prog 8 [.sl l.length (mpAV l) tg] H T (Is (.tup [.sl (invF l).1.length (mpAV (invF l).1) .none, .int .i64 (invF l).2]) H T) := by
  refine ACall.untag1 ?_
  have c0 := validP_ok l hl H T .none
  refine ACall.dropT ?_ (by simp)
  cases hv : validM l with
  | false =>
    rw [hv] at c0
    have hF : invF l = ([], 1) := if_neg (by rw [hv]; simp)
    refine acall_enter 13 [] Tryd.ntmps8 Tryd.func8 rfl (fun _ _ => Tryd.call8 _ _) (by simp) (fun HO => ?_)
    refine aw_reg fun K hK => ?_; simp (maxSteps := 1000000) (disch := omega) [-List.getD_eq_getElem?_getD]; refine hK _ ?_; clear hK K
    refine aw_then fun K1 hK1 => ?_
    refine aw_reg fun K hK => ?_; simp (maxSteps := 1000000) (disch := omega) [-List.getD_eq_getElem?_getD]
    refine acall_is (c0) ?_; simp (maxSteps := 1000000) (disch := omega) [-List.getD_eq_getElem?_getD]
    refine hK _ ?_; clear hK K
    refine aw_if rfl (fun h => ?_) (fun h => absurd h (by simp))
    refine aw_reg fun K hK => ?_; simp (maxSteps := 1000000) (disch := omega) [-List.getD_eq_getElem?_getD]; refine hK _ ?_; clear hK K
    refine aw_ret ?_; simp (maxSteps := 1000000) (disch := omega) [-List.getD_eq_getElem?_getD]
    simp [hF, mpAV_nil]
  | true =>
    rw [hv] at c0
    have hF : invF l = (invL l, 0) := if_pos hv
    rw [hF]
    have c1 := sorted_ok (l.map invM) (by rw [List.length_map]; exact hl) H (T ++ [(l.length * 3, 3)]) (.own T.length)
    have e1 : sortM (l.map invM) = invL l := rfl
    rw [e1, List.length_map] at c1
    have hll := invL_len l
    have hm0 : (l.map invM).length = l.length := List.length_map _
    have hm1 : ∀ i, i < l.length → (l.map invM).getD i d0 = invM (l.getD i d0) := fun i h => map_at h
    generalize l.map invM = m at *
    refine acall_enter 13 [] Tryd.ntmps8 Tryd.func8 rfl (fun _ _ => Tryd.call8 _ _) (by simp) (fun HO => ?_)
    refine aw_reg fun K hK => ?_; simp (maxSteps := 1000000) (disch := omega) [-List.getD_eq_getElem?_getD]; refine hK _ ?_; clear hK K
    refine aw_then fun K1 hK1 => ?_
    refine aw_reg fun K hK => ?_; simp (maxSteps := 1000000) (disch := omega) [-List.getD_eq_getElem?_getD]
    refine acall_is (c0) ?_; simp (maxSteps := 1000000) (disch := omega) [-List.getD_eq_getElem?_getD]
    refine hK _ ?_; clear hK K
    refine aw_if rfl (fun h => absurd h (by simp)) (fun h => ?_)
    refine aw_skip ?_; simp (maxSteps := 1000000) (disch := omega) [-List.getD_eq_getElem?_getD]
    refine hK1 _ ?_; clear hK1
    refine aw_reg fun K hK => ?_; simp (maxSteps := 1000000) (disch := omega) [-List.getD_eq_getElem?_getD]; refine hK _ ?_; clear hK K
    refine aw_then fun K1 hK1 => ?_
    refine aw_reg fun K hK => ?_; simp (maxSteps := 1000000) (disch := omega) [-List.getD_eq_getElem?_getD]; refine hK _ ?_; clear hK K
    refine aw_own 4 0 3 [] (by omega) (by simp) ?_
    refine aw_block ?_
    refine aw_loop (X := Nat) (fun i => ⟨[(4, .sl i (mpAV (m.take i)) (.own T.length)), (10, .sl l.length (mpAV l) .none), (11, .int .i64 (l.length : Nat)), (12, .int .i64 (i : Nat))], H, T ++ [(i * 3, 3)]⟩) (fun i => i ≤ l.length) (fun i => l.length - i) 0 ?_ ?_ ?_
    · exact Nat.zero_le _
    · refine weak_to [] [] ?_ ?_ ?_ ?_ (HO.toks (by simp)) ?_
      all_goals simp [mpAV_nil]
    · rintro i h1
      refine aw_reg fun K hK => ?_; simp (maxSteps := 1000000) (disch := omega) [-List.getD_eq_getElem?_getD]; refine hK _ ?_; clear hK K
      refine aw_then fun K2 hK2 => ?_
      refine aw_if rfl (fun hk => ?_) (fun hk => ?_)
      · simp [-List.getD_eq_getElem?_getD] at hk
        have hcut := mpAV_cut l i hk
        have hsn := takeD m i d0 (by omega)
        rw [hm1 i hk] at hsn
        have hml : (mpAV (m.take i)).length = i * 3 := by rw [mpAV_len, List.length_take]; omega
        have c := fun H T => opp_ok (l.getD i d0).2.2 H T
        have hmp := mpAV_snoc (m.take i) (l.getD i d0).2.1 (l.getD i d0).1 (opp (l.getD i d0).2.2)
        have e2 : ((l.getD i d0).2.1, (l.getD i d0).1, opp (l.getD i d0).2.2) = invM (l.getD i d0) := rfl
        rw [e2, ← hsn] at hmp
        refine aw_skip ?_; simp (maxSteps := 1000000) (disch := omega) [-List.getD_eq_getElem?_getD]
        refine hK2 _ ?_; clear hK2
        refine aw_then fun K3 hK3 => ?_
        refine aw_block ?_
        refine aw_reg fun K hK => ?_; simp (maxSteps := 1000000) (disch := omega) [-List.getD_eq_getElem?_getD, hcut, mpAV_len]; refine hK _ ?_; clear hK K
        generalize l.getD i d0 = x at *
        obtain ⟨x1, x2, x3⟩ := x
        simp only at c hmp
        generalize opp x3 = o at *
        refine aw_draw0 [10] [0, 0, 0, 0, 0, 0, 0, 0, 0, 0, 0, 1] [[]] drawMixed (by kernel_rfl) (by kernel_rfl) fun K hK => ?_
        simp (maxSteps := 1000000) (disch := omega) [-List.getD_eq_getElem?_getD]
        refine dcall_is (c _ _) rfl ?_; simp (maxSteps := 1000000) (disch := omega) [-List.getD_eq_getElem?_getD, hml, hmp]
        refine hK _ ?_; clear hK K
        refine hK3 _ ?_; clear hK3
        refine aw_reg0 fun K hK => ?_; simp (maxSteps := 1000000) (disch := omega) [-List.getD_eq_getElem?_getD]
        refine hK _ ?_; clear hK K
        refine ⟨i + 1, by show i + 1 ≤ _; omega, by show l.length - (i + 1) < l.length - i; omega, ?_⟩
        refine weak_to [.cells [.int .i64 x1, .int .i64 x2, .int .i64 x3]] [] ?_ ?_ ?_ ?_ (HO.toks (by simp)) ?_
        all_goals simp [Nat.add_mul]
      · simp [-List.getD_eq_getElem?_getD] at hk
        have e : i = l.length := by omega
        subst e
        have hmt : m.take l.length = m := by rw [← hm0, List.take_length]
        rw [hmt]
        refine aw_exit ?_; simp (maxSteps := 1000000) (disch := omega) [-List.getD_eq_getElem?_getD]
        refine hK1 _ ?_; clear hK1
        refine aw_reg fun K hK => ?_; simp (maxSteps := 1000000) (disch := omega) [-List.getD_eq_getElem?_getD]
        refine acall_is (c1) ?_; simp (maxSteps := 1000000) (disch := omega) [-List.getD_eq_getElem?_getD]
        refine hK _ ?_; clear hK K
        refine aw_ret ?_; simp (maxSteps := 1000000) (disch := omega) [-List.getD_eq_getElem?_getD]
        simp [hll]

end Go.Proofs.YtfdlngemkhiiiaaDoor
