/- The canary of layer 1.
   Conditions: none. -/
import Derived.Test.YtgnhfcncbkikgaaWFn3
namespace Go.Proofs.Ytgnhfcncbkikgaa
open Go Go.Am Wire
set_option linter.unusedVariables false

theorem text_full (b s : List UInt8) (H : List Blk) (T : Toks) (hb : b.length + s.length ≤ 1099511627776) :
    ACall Try.prog 29 [.sl b.length (encB b) .full, .str s] H T (Is (.sl (b ++ encText s).length (encB (b ++ encText s)) (.own T.length)) H (T ++ [((b ++ encText s).length, 1)])) := by
  refine ACall.own0 (z := 1) (by omega) ?_
  have := text_ok b s T.length H (T ++ [((encB b).length, 1)]) (by simp) hb
  simpa using this

theorem same_self (a : List UInt8) (H : List Blk) (T : Toks) (ta tb : Tag) : ACall Try.prog 12 [.sl a.length (encB a) ta, .sl a.length (encB a) tb] H T (Is (.bool true) H T) := by
  have h := same_ok a a H T ta tb
  rwa [show (a == a) = true from by simp] at h

theorem enc64 : enc 64 = [129, 0] := by simp [enc, fo, encN, encHi_zero, encHi_pos, hi7, lo7]
theorem encm1 : enc (-1) = [1] := by simp [enc, fo, encN, encHi_zero, hi7, lo7]
theorem enc2 : enc 2 = [4] := by simp [enc, fo, encN, encHi_zero, hi7, lo7]

theorem from_full (bs : List UInt8) (hb : bs.length ≤ 1099511627776) (H : List Blk) (T : Toks) : ACall Try.prog 14 [.sl bs.length (encB bs) .full] H T (Is (.ptr H.length 0) (H ++ [.cells (rd bs ⟨0, false⟩)]) T) := ACall.untag1 (from_ok bs hb H T)

set_option maxRecDepth 100000 in
set_option maxHeartbeats 1600000 in
theorem awake_ok (H : List Blk) (T : Toks) : ACall Try.prog 9 [] H T (Is (.bool true) H T) := by
  refine ACall.drop' ?_ (by simp)
  have c0 := from_full [128, 1] (by decide) H T
  have c1 := int_full [9] 64 (by omega) (by omega) (H ++ [.cells (rd [128, 1] ⟨0, false⟩)]) T (by decide)
  rw [enc64] at c1
  have c2 := text_full [] [97, 98] (H ++ [.cells (rd [128, 1] ⟨0, false⟩)]) (T ++ [(3, 1)]) (by decide)
  rw [encText, show ((([97, 98] : List UInt8).length : Nat) : Int) = 2 from rfl, enc2] at c2
  have c3 := int_full [] (-1) (by omega) (by omega) (H ++ [.cells (rd [128, 1] ⟨0, false⟩)]) (T ++ [(3, 1), (3, 1)]) (by decide)
  rw [encm1] at c3
  have r0 : rInt [128, 1] (-9) 9 ⟨0, false⟩ = (0, ⟨0, true⟩) := by
    have e : rnum [128, 1] 0 = none := by simp [rnum, gl]
    simp [rInt, e, glen]
  have c4 := wInt_ok [128, 1] ⟨0, false⟩ (-9) 9 (by decide) (by decide) (H ++ [.cells (rd [128, 1] ⟨0, false⟩)]) (T ++ [(3, 1), (3, 1), (1, 1)]) H.length (by simp)
  rw [r0] at c4
  have c5 := wDone_ok [128, 1] ⟨0, true⟩ (by decide) (by decide) (H ++ [.cells (rd [128, 1] ⟨0, true⟩)]) (T ++ [(3, 1), (3, 1), (1, 1)]) H.length (by simp)
  have c6 := wRest_ok [128, 1] ⟨0, true⟩ (by decide) (by decide) (H ++ [.cells (rd [128, 1] ⟨0, true⟩)]) (T ++ [(3, 1), (3, 1), (1, 1)]) H.length (by simp)
  refine acall_enter 2 [] Try.ntmps9 Try.func9 rfl (fun _ _ => Try.call9 _ _) (by simp) (fun HO => ?_)
  refine aw_reg fun K hK => ?_; simp (maxSteps := 200000) (disch := omega) [-List.getD_eq_getElem?_getD]; refine hK _ ?_; clear hK K
  refine aw_reg fun K hK => ?_; simp (maxSteps := 200000) (disch := omega) [-List.getD_eq_getElem?_getD]
  refine acall_is (c0) ?_; simp (maxSteps := 200000) (disch := omega) [-List.getD_eq_getElem?_getD]
  refine hK _ ?_; clear hK K
  refine aw_reg fun K hK => ?_; simp (maxSteps := 200000) (disch := omega) [-List.getD_eq_getElem?_getD]
  refine acall_is (c1) ?_; simp (maxSteps := 200000) (disch := omega) [-List.getD_eq_getElem?_getD]
  refine acall_is (same_self [9, 129, 0] _ _ _ _) ?_; simp (maxSteps := 200000) (disch := omega) [-List.getD_eq_getElem?_getD]
  refine acall_is (c2) ?_; simp (maxSteps := 200000) (disch := omega) [-List.getD_eq_getElem?_getD]
  refine acall_is (same_self [4, 97, 98] _ _ _ _) ?_; simp (maxSteps := 200000) (disch := omega) [-List.getD_eq_getElem?_getD]
  refine acall_is (c3) ?_; simp (maxSteps := 200000) (disch := omega) [-List.getD_eq_getElem?_getD]
  refine acall_is (same_self [1] _ _ _ _) ?_; simp (maxSteps := 200000) (disch := omega) [-List.getD_eq_getElem?_getD]
  refine acall_is (c4) ?_; simp (maxSteps := 200000) (disch := omega) [-List.getD_eq_getElem?_getD]
  refine acall_is (c5) ?_; simp (maxSteps := 200000) (disch := omega) [-List.getD_eq_getElem?_getD]
  refine acall_is (c6) ?_; simp (maxSteps := 200000) (disch := omega) [-List.getD_eq_getElem?_getD]
  refine hK _ ?_; clear hK K
  refine aw_ret ?_; simp (maxSteps := 200000) (disch := omega) [-List.getD_eq_getElem?_getD]
end Go.Proofs.Ytgnhfcncbkikgaa
