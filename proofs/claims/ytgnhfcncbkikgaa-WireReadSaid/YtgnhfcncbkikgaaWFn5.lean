/- The readers of texts of layer 1.
   Conditions: lengths below 2^40. -/
import Derived.Test.YtgnhfcncbkikgaaWFn3
namespace Go.Proofs.Ytgnhfcncbkikgaa
open Go Go.Am Wire
set_option linter.unusedVariables false

theorem wText_nil (mx : Int) (H : List Blk) (T : Toks) : ACall Try.prog 22 [.nilp, .int .i64 mx] H T (Is (.str []) H T) := by
  refine acall_enter 7 [] Try.ntmps22 Try.func22 rfl (fun _ _ => Try.call22 _ _) (by simp) (fun HO => ?_)
  refine aw_reg fun K hK => ?_; simp (maxSteps := 200000) (disch := omega) [-List.getD_eq_getElem?_getD]; refine hK _ ?_; clear hK K
  refine aw_then fun K1 hK1 => ?_
  refine aw_reg fun K hK => ?_; simp (maxSteps := 200000) (disch := omega) [-List.getD_eq_getElem?_getD]; refine hK _ ?_; clear hK K
  refine aw_if rfl (fun h => ?_) (fun h => absurd h (by simp))
  refine aw_reg fun K hK => ?_; simp (maxSteps := 200000) (disch := omega) [-List.getD_eq_getElem?_getD]; refine hK _ ?_; clear hK K
  refine aw_ret ?_; simp (maxSteps := 200000) (disch := omega) [-List.getD_eq_getElem?_getD]
  exact ⟨rfl, rfl, rfl⟩

theorem wText_ok (bs : List UInt8) (s : Rd) (mx : Int) (hs : s.at_ ≤ bs.length) (hb : bs.length ≤ 1099511627776) (H : List Blk) (T : Toks) (i : Nat) (hi_ : H[i]? = some (.cells (rd bs s))) :
    ACall Try.prog 22 [.ptr i 0, .int .i64 mx] H T (Is (.str (rText bs mx s).1) (H.set i (.cells (rd bs (rText bs mx s).2))) T) := by
  have hl := (List.getElem?_eq_some_iff.1 hi_).1
  have hi' := (List.getElem?_eq_some_iff.1 hi_).2
  have hle := rInt_le bs 0 mx s hs
  have hnn := rInt_nonneg bs mx s
  have hc := wInt_ok bs s 0 mx hs hb H T i hi_
  unfold rText
  refine acall_enter 7 [] Try.ntmps22 Try.func22 rfl (fun _ _ => Try.call22 _ _) (by simp) (fun HO => ?_)
  refine aw_reg fun K hK => ?_; simp (maxSteps := 200000) (disch := omega) [-List.getD_eq_getElem?_getD]; refine hK _ ?_; clear hK K
  refine aw_then fun K1 hK1 => ?_
  refine aw_reg fun K hK => ?_; simp (maxSteps := 200000) (disch := omega) [-List.getD_eq_getElem?_getD]; refine hK _ ?_; clear hK K
  refine aw_if rfl (fun h => absurd h (by simp)) (fun h => ?_)
  refine aw_skip ?_; simp (maxSteps := 200000) (disch := omega) [-List.getD_eq_getElem?_getD]
  refine hK1 _ ?_; clear hK1
  refine aw_reg fun K hK => ?_; simp (maxSteps := 200000) (disch := omega) [-List.getD_eq_getElem?_getD, hi_, hi', hl, rd]; refine hK _ ?_; clear hK K
  refine aw_reg fun K hK => ?_; simp (maxSteps := 200000) (disch := omega) [-List.getD_eq_getElem?_getD]
  refine acall_is (hc) ?_; simp (maxSteps := 200000) (disch := omega) [-List.getD_eq_getElem?_getD]
  refine hK _ ?_; clear hK K
  generalize hv : (rInt bs 0 mx s).1 = v at *
  generalize hq : (rInt bs 0 mx s).2 = q at *
  have hset : (H.set i (Blk.cells (rd bs q)))[i]? = some (.cells (rd bs q)) := by simp [hl]
  clear hc
  refine aw_then fun K1 hK1 => ?_
  cases hbad : q.bad
  · refine aw_draw [] [] [] drawMixed (by kernel_rfl) (by kernel_rfl) fun K hK => ?_; simp (maxSteps := 200000) (disch := omega) [-List.getD_eq_getElem?_getD, hl, rd, hbad]
    refine hK _ ?_; clear hK K
    refine aw_if rfl (fun h => ?_) (fun h => ?_)
    · simp at h
      refine aw_reg fun K hK => ?_; simp (maxSteps := 200000) (disch := omega) [-List.getD_eq_getElem?_getD, hl]; refine hK _ ?_; clear hK K
      refine aw_reg fun K hK => ?_; simp (maxSteps := 200000) (disch := omega) [-List.getD_eq_getElem?_getD]; refine hK _ ?_; clear hK K
      refine aw_ret ?_; simp (maxSteps := 200000) (disch := omega) [-List.getD_eq_getElem?_getD]
      exact ⟨rfl, rfl, rfl⟩
    · simp at h
      have hn : ¬ (q.bad = true ∨ v > (bs.length : Int) - q.at_) := by rw [hbad]; simp; omega
      have e1 : (v.toNat : Int) = v := by omega
      have e2 : (q.at_ : Int) + v = ((q.at_ + v.toNat : Nat) : Int) := by omega
      refine aw_skip ?_; simp (maxSteps := 200000) (disch := omega) [-List.getD_eq_getElem?_getD]
      refine hK1 _ ?_; clear hK1
      refine aw_reg fun K hK => ?_; simp (maxSteps := 200000) (disch := omega) [-List.getD_eq_getElem?_getD, hl]; refine hK _ ?_; clear hK K
      refine aw_draw [] [] [] drawMixed (by kernel_rfl) (by kernel_rfl) fun K hK => ?_; simp (maxSteps := 200000) (disch := omega) [-List.getD_eq_getElem?_getD, hl, encB_drop, encB_take]
      refine hK _ ?_; clear hK K
      refine aw_ret ?_; simp (maxSteps := 200000) (disch := omega) [-List.getD_eq_getElem?_getD]
      simp only [hbad, rd, ← e2]
      exact ⟨rfl, rfl, rfl⟩
  · refine aw_draw [] [] [] drawMixed (by kernel_rfl) (by kernel_rfl) fun K hK => ?_; simp (maxSteps := 200000) (disch := omega) [-List.getD_eq_getElem?_getD, hl, rd, hbad]
    refine hK _ ?_; clear hK K
    refine aw_if rfl (fun h => ?_) (fun h => absurd h (by simp))
    refine aw_reg fun K hK => ?_; simp (maxSteps := 200000) (disch := omega) [-List.getD_eq_getElem?_getD, hl]; refine hK _ ?_; clear hK K
    refine aw_reg fun K hK => ?_; simp (maxSteps := 200000) (disch := omega) [-List.getD_eq_getElem?_getD]; refine hK _ ?_; clear hK K
    refine aw_ret ?_; simp (maxSteps := 200000) (disch := omega) [-List.getD_eq_getElem?_getD]
    exact ⟨rfl, rfl, rfl⟩
end Go.Proofs.Ytgnhfcncbkikgaa
