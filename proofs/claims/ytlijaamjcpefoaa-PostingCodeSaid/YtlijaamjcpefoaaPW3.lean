/- The readers of layer 1 over the read of one number.
   Conditions: lengths below 2^40. -/
import Derived.Test.YtlijaamjcpefoaaPW2
namespace Go.Proofs.Ytlijaamjcpefoaa
open Go Go.Am Wire
set_option linter.unusedVariables false

theorem set_self {H : List Blk} {i : Nat} {x : Blk} (h : H[i]? = some x) : H.set i x = H := by
  apply List.ext_getElem?
  intro j
  by_cases hj : i = j
  · subst hj
    rw [List.getElem?_set_self (List.getElem?_eq_some_iff.1 h).1, h]
  · rw [List.getElem?_set_ne hj]

theorem gval_bad (bs : List UInt8) (lo hi : Int) (s : Rd) (h : s.bad = true) : rInt bs lo hi s = (0, s) := by simp [rInt, h]

theorem wInt_ok (bs : List UInt8) (s : Rd) (lo hi : Int) (hs : s.at_ ≤ bs.length) (hb : bs.length ≤ 1099511627776) (H : List Blk) (T : Toks) (i : Nat) (hi_ : H[i]? = some (.cells (rd bs s))) :
    ACall Try.prog 80 [.ptr i 0, .int .i64 lo, .int .i64 hi] H T (Is (.int .i64 (rInt bs lo hi s).1) (H.set i (.cells (rd bs (rInt bs lo hi s).2))) T) := by
  have hl := (List.getElem?_eq_some_iff.1 hi_).1
  have hi' := (List.getElem?_eq_some_iff.1 hi_).2
  have hgl := glen_le bs s.at_ hs
  refine acall_enter 9 [] Try.ntmps80 Try.func80 rfl (fun _ _ => Try.call80 _ _) (by simp) (fun HO => ?_)
  refine aw_reg fun K hK => ?_; simp (maxSteps := 1000000) (disch := omega) [-List.getD_eq_getElem?_getD]; refine hK _ ?_; clear hK K
  refine aw_then fun K1 hK1 => ?_
  cases hbad : s.bad
  · refine aw_reg fun K hK => ?_; simp (maxSteps := 1000000) (disch := omega) [-List.getD_eq_getElem?_getD, hi_, hi', hl, rd, hbad]; refine hK _ ?_; clear hK K
    refine aw_if rfl (fun h => absurd h (by simp)) (fun h => ?_)
    refine aw_skip ?_; simp (maxSteps := 1000000) (disch := omega) [-List.getD_eq_getElem?_getD]
    refine hK1 _ ?_; clear hK1
    refine aw_reg fun K hK => ?_; simp (maxSteps := 1000000) (disch := omega) [-List.getD_eq_getElem?_getD, hi_, hi', hl, rd, hbad]
    refine acall_is (group_ok bs s hs hb H T i hi_) ?_; simp (maxSteps := 1000000) (disch := omega) [-List.getD_eq_getElem?_getD, gtup]
    refine hK _ ?_; clear hK K
    generalize hv : gnum (rnum bs s.at_) = v at *
    generalize hn : glen (rnum bs s.at_) = n at *
    refine aw_then fun K1 hK1 => ?_
    refine aw_reg fun K hK => ?_
    have key : ∀ e, envLe H.length T.length e [(0, .ptr i 0), (7, .int .i64 v), (8, .int .i64 (n : Nat)), (33, .bool (decide (n = 0 ∨ v < lo ∨ v > hi)))] → K ⟨e, H, T⟩ := by
      intro e he
      refine hK _ (aw_weak ⟨[(0, .ptr i 0), (7, .int .i64 v), (8, .int .i64 (n : Nat)), (33, .bool (decide (n = 0 ∨ v < lo ∨ v > hi)))], H, T⟩ (weak_to [] [] (by simp) (by simp) (by simp) (by simp) HO he) ?_)
      refine aw_if rfl (fun h => ?_) (fun h => ?_)
      · simp only [decide_eq_true_eq] at h
        refine aw_reg fun K hK => ?_; simp (maxSteps := 1000000) (disch := omega) [-List.getD_eq_getElem?_getD, hi_, hi', hl, rd]; refine hK _ ?_; clear hK K
        refine aw_reg fun K hK => ?_; simp (maxSteps := 1000000) (disch := omega) [-List.getD_eq_getElem?_getD]; refine hK _ ?_; clear hK K
        refine aw_ret ?_; simp (maxSteps := 1000000) (disch := omega) [-List.getD_eq_getElem?_getD]
        simp only [rInt, hbad, hv, hn, if_pos h]
        exact ⟨rfl, rfl, rfl⟩
      · simp only [decide_eq_false_iff_not] at h
        refine aw_skip ?_; simp (maxSteps := 1000000) (disch := omega) [-List.getD_eq_getElem?_getD]
        refine hK1 _ ?_; clear hK1
        refine aw_reg fun K hK => ?_; simp (maxSteps := 1000000) (disch := omega) [-List.getD_eq_getElem?_getD, hi_, hi', hl, rd]; refine hK _ ?_; clear hK K
        refine aw_reg fun K hK => ?_; simp (maxSteps := 1000000) (disch := omega) [-List.getD_eq_getElem?_getD]; refine hK _ ?_; clear hK K
        refine aw_ret ?_; simp (maxSteps := 1000000) (disch := omega) [-List.getD_eq_getElem?_getD]
        simp only [rInt, hbad, hv, hn, if_neg h]
        exact ⟨rfl, rfl, rfl⟩
    clear hK
    by_cases h0 : n = 0
    · simp (maxSteps := 1000000) (disch := omega) [-List.getD_eq_getElem?_getD, h0]
      exact key _ (by simp [h0, hl])
    · have hb0 : ((n : Int) == 0) = false := by simp; omega
      by_cases h1 : v < lo
      · have hb1 : decide (v < lo) = true := by simpa using h1
        simp (maxSteps := 1000000) (disch := omega) [-List.getD_eq_getElem?_getD, hb0, hb1]
        exact key _ (by simp [h1, hl])
      · have hb1 : decide (v < lo) = false := by simpa using h1
        simp (maxSteps := 1000000) (disch := omega) [-List.getD_eq_getElem?_getD, hb0, hb1]
        exact key _ (by simp [h0, h1, hl])
  · refine aw_reg fun K hK => ?_; simp (maxSteps := 1000000) (disch := omega) [-List.getD_eq_getElem?_getD, hi_, hi', hl, rd, hbad]; refine hK _ ?_; clear hK K
    refine aw_if rfl (fun h => ?_) (fun h => absurd h (by simp))
    refine aw_reg fun K hK => ?_; simp (maxSteps := 1000000) (disch := omega) [-List.getD_eq_getElem?_getD]; refine hK _ ?_; clear hK K
    refine aw_ret ?_; simp (maxSteps := 1000000) (disch := omega) [-List.getD_eq_getElem?_getD]
    rw [gval_bad _ _ _ _ hbad, set_self hi_]
    exact ⟨rfl, rfl, rfl⟩

theorem wInt_nil (lo hi : Int) (H : List Blk) (T : Toks) : ACall Try.prog 80 [.nilp, .int .i64 lo, .int .i64 hi] H T (Is (.int .i64 0) H T) := by
  refine acall_enter 9 [] Try.ntmps80 Try.func80 rfl (fun _ _ => Try.call80 _ _) (by simp) (fun HO => ?_)
  refine aw_reg fun K hK => ?_; simp (maxSteps := 1000000) (disch := omega) [-List.getD_eq_getElem?_getD]; refine hK _ ?_; clear hK K
  refine aw_then fun K1 hK1 => ?_
  refine aw_reg fun K hK => ?_; simp (maxSteps := 1000000) (disch := omega) [-List.getD_eq_getElem?_getD]; refine hK _ ?_; clear hK K
  refine aw_if rfl (fun h => ?_) (fun h => absurd h (by simp))
  refine aw_reg fun K hK => ?_; simp (maxSteps := 1000000) (disch := omega) [-List.getD_eq_getElem?_getD]; refine hK _ ?_; clear hK K
  refine aw_ret ?_; simp (maxSteps := 1000000) (disch := omega) [-List.getD_eq_getElem?_getD]
  exact ⟨rfl, rfl, rfl⟩

theorem wRest_ok (bs : List UInt8) (s : Rd) (hs : s.at_ ≤ bs.length) (hb : bs.length ≤ 1099511627776) (H : List Blk) (T : Toks) (i : Nat) (hi_ : H[i]? = some (.cells (rd bs s))) :
    ACall Try.prog 81 [.ptr i 0] H T (Is (.int .i64 ((bs.length - s.at_ : Nat) : Int)) H T) := by
  have hl := (List.getElem?_eq_some_iff.1 hi_).1
  have hi' := (List.getElem?_eq_some_iff.1 hi_).2
  refine acall_enter 3 [] Try.ntmps81 Try.func81 rfl (fun _ _ => Try.call81 _ _) (by simp) (fun HO => ?_)
  refine aw_reg fun K hK => ?_; simp (maxSteps := 1000000) (disch := omega) [-List.getD_eq_getElem?_getD]; refine hK _ ?_; clear hK K
  refine aw_then fun K1 hK1 => ?_
  refine aw_reg fun K hK => ?_; simp (maxSteps := 1000000) (disch := omega) [-List.getD_eq_getElem?_getD]; refine hK _ ?_; clear hK K
  refine aw_if rfl (fun h => absurd h (by simp)) (fun h => ?_)
  refine aw_skip ?_; simp (maxSteps := 1000000) (disch := omega) [-List.getD_eq_getElem?_getD]
  refine hK1 _ ?_; clear hK1
  refine aw_draw [] [] [] drawMixed (by kernel_rfl) (by kernel_rfl) fun K hK => ?_; simp (maxSteps := 1000000) (disch := omega) [-List.getD_eq_getElem?_getD, hi_, hi', hl, rd]
  refine hK _ ?_; clear hK K
  refine aw_ret ?_; simp (maxSteps := 1000000) (disch := omega) [-List.getD_eq_getElem?_getD]
  refine ⟨?_, rfl, rfl⟩
  congr 1
  omega

theorem wRest_nil (H : List Blk) (T : Toks) : ACall Try.prog 81 [.nilp] H T (Is (.int .i64 0) H T) := by
  refine acall_enter 3 [] Try.ntmps81 Try.func81 rfl (fun _ _ => Try.call81 _ _) (by simp) (fun HO => ?_)
  refine aw_reg fun K hK => ?_; simp (maxSteps := 1000000) (disch := omega) [-List.getD_eq_getElem?_getD]; refine hK _ ?_; clear hK K
  refine aw_then fun K1 hK1 => ?_
  refine aw_reg fun K hK => ?_; simp (maxSteps := 1000000) (disch := omega) [-List.getD_eq_getElem?_getD]; refine hK _ ?_; clear hK K
  refine aw_if rfl (fun h => ?_) (fun h => absurd h (by simp))
  refine aw_reg fun K hK => ?_; simp (maxSteps := 1000000) (disch := omega) [-List.getD_eq_getElem?_getD]; refine hK _ ?_; clear hK K
  refine aw_ret ?_; simp (maxSteps := 1000000) (disch := omega) [-List.getD_eq_getElem?_getD]
  exact ⟨rfl, rfl, rfl⟩

/-- The fault at the end: 5 where the reader has failed or bytes are left. -/
def rDone (bs : List UInt8) (s : Rd) : Int := if s.bad = true ∨ s.at_ < bs.length then 5 else 0

theorem wDone_ok (bs : List UInt8) (s : Rd) (hs : s.at_ ≤ bs.length) (hb : bs.length ≤ 1099511627776) (H : List Blk) (T : Toks) (i : Nat) (hi_ : H[i]? = some (.cells (rd bs s))) :
    ACall Try.prog 82 [.ptr i 0] H T (Is (.int .i64 (rDone bs s)) H T) := by
  have hl := (List.getElem?_eq_some_iff.1 hi_).1
  have hi' := (List.getElem?_eq_some_iff.1 hi_).2
  refine acall_enter 3 [] Try.ntmps82 Try.func82 rfl (fun _ _ => Try.call82 _ _) (by simp) (fun HO => ?_)
  refine aw_reg fun K hK => ?_; simp (maxSteps := 1000000) (disch := omega) [-List.getD_eq_getElem?_getD]; refine hK _ ?_; clear hK K
  refine aw_then fun K1 hK1 => ?_
  refine aw_block ?_
  refine aw_reg fun K hK => ?_; simp (maxSteps := 1000000) (disch := omega) [-List.getD_eq_getElem?_getD]; refine hK _ ?_; clear hK K
  refine aw_if rfl (fun h => absurd h (by simp)) (fun h => ?_)
  cases hbad : s.bad
  · refine aw_draw [] [] [] drawMixed (by kernel_rfl) (by kernel_rfl) fun K hK => ?_; simp (maxSteps := 1000000) (disch := omega) [-List.getD_eq_getElem?_getD, hi_, hi', hl, rd, hbad]
    refine hK _ ?_; clear hK K
    refine aw_if rfl (fun h => ?_) (fun h => ?_)
    · simp at h
      refine aw_reg fun K hK => ?_; simp (maxSteps := 1000000) (disch := omega) [-List.getD_eq_getElem?_getD]; refine hK _ ?_; clear hK K
      refine aw_ret ?_; simp (maxSteps := 1000000) (disch := omega) [-List.getD_eq_getElem?_getD]
      have h' : s.at_ < bs.length := by omega
      simp only [rDone, hbad, h', or_true, if_true]
      exact ⟨rfl, rfl, rfl⟩
    · simp at h
      refine aw_skip ?_; simp (maxSteps := 1000000) (disch := omega) [-List.getD_eq_getElem?_getD]
      refine hK1 _ ?_; clear hK1
      refine aw_reg fun K hK => ?_; simp (maxSteps := 1000000) (disch := omega) [-List.getD_eq_getElem?_getD]; refine hK _ ?_; clear hK K
      refine aw_ret ?_; simp (maxSteps := 1000000) (disch := omega) [-List.getD_eq_getElem?_getD]
      have h' : ¬ (s.bad = true ∨ s.at_ < bs.length) := by rw [hbad]; simp; omega
      simp only [rDone, if_neg h']
      exact ⟨rfl, rfl, rfl⟩
  · refine aw_draw [] [] [] drawMixed (by kernel_rfl) (by kernel_rfl) fun K hK => ?_; simp (maxSteps := 1000000) (disch := omega) [-List.getD_eq_getElem?_getD, hi_, hi', hl, rd, hbad]
    refine hK _ ?_; clear hK K
    refine aw_if rfl (fun h => ?_) (fun h => absurd h (by simp))
    refine aw_reg fun K hK => ?_; simp (maxSteps := 1000000) (disch := omega) [-List.getD_eq_getElem?_getD]; refine hK _ ?_; clear hK K
    refine aw_ret ?_; simp (maxSteps := 1000000) (disch := omega) [-List.getD_eq_getElem?_getD]
    simp only [rDone, hbad, true_or, if_true]
    exact ⟨rfl, rfl, rfl⟩

theorem wDone_nil (H : List Blk) (T : Toks) : ACall Try.prog 82 [.nilp] H T (Is (.int .i64 11) H T) := by
  refine acall_enter 3 [] Try.ntmps82 Try.func82 rfl (fun _ _ => Try.call82 _ _) (by simp) (fun HO => ?_)
  refine aw_reg fun K hK => ?_; simp (maxSteps := 1000000) (disch := omega) [-List.getD_eq_getElem?_getD]; refine hK _ ?_; clear hK K
  refine aw_then fun K1 hK1 => ?_
  refine aw_block ?_
  refine aw_reg fun K hK => ?_; simp (maxSteps := 1000000) (disch := omega) [-List.getD_eq_getElem?_getD]; refine hK _ ?_; clear hK K
  refine aw_if rfl (fun h => ?_) (fun h => absurd h (by simp))
  refine aw_reg fun K hK => ?_; simp (maxSteps := 1000000) (disch := omega) [-List.getD_eq_getElem?_getD]; refine hK _ ?_; clear hK K
  refine aw_ret ?_; simp (maxSteps := 1000000) (disch := omega) [-List.getD_eq_getElem?_getD]
  exact ⟨rfl, rfl, rfl⟩

end Go.Proofs.Ytlijaamjcpefoaa
