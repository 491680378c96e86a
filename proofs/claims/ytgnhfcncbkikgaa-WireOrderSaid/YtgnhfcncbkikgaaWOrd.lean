/- WireOrder: the walk.
   Conditions: none. -/
import Derived.Test.YtgnhfcncbkikgaaWFn4
import Derived.Test.YtgnhfcncbkikgaaWOrdP
namespace Go.Proofs.Ytgnhfcncbkikgaa
open Go Go.Am Wire
set_option linter.unusedVariables false

theorem order_ok (x y : Int) (hx : inI x) (hy : inI y) : ACall Try.prog 3 [.int .i64 x, .int .i64 y] [] [] (fun r _ _ => r = .bool true) := by
  have hlx := (enc_len hx.1 hx.2).2
  have hly := (enc_len hy.1 hy.2).2
  have hfx := fo_lt hx.1 hx.2
  have hfy := fo_lt hy.1 hy.2
  have h1 := enc_order x y
  have h2 := enc_eq x y
  refine acall_enter 8 Try.ntmps3 Try.func3 rfl (fun _ _ => Try.call3 _ _) (by simp) (fun HO => ?_)
  refine aw_reg fun K hK => ?_; simp (maxSteps := 200000) (disch := omega) [-List.getD_eq_getElem?_getD]; refine hK _ ?_; clear hK K
  refine aw_then fun K1 hK1 => ?_
  refine aw_reg fun K hK => ?_; simp (maxSteps := 200000) (disch := omega) [-List.getD_eq_getElem?_getD]
  refine acall_is (awake_ok _ _) ?_; simp (maxSteps := 200000) (disch := omega) [-List.getD_eq_getElem?_getD]
  refine hK _ ?_; clear hK K
  refine aw_if rfl (fun h => absurd h (by simp)) (fun h => ?_)
  refine aw_skip ?_; simp (maxSteps := 200000) (disch := omega) [-List.getD_eq_getElem?_getD]
  refine hK1 _ ?_; clear hK1
  refine aw_reg fun K hK => ?_; simp (maxSteps := 200000) (disch := omega) [-List.getD_eq_getElem?_getD]
  refine acall_is (int_full [] x hx.1 hx.2 _ _ (by decide)) ?_; simp (maxSteps := 200000) (disch := omega) [-List.getD_eq_getElem?_getD]
  refine acall_is (int_full [] y hy.1 hy.2 _ _ (by decide)) ?_; simp (maxSteps := 200000) (disch := omega) [-List.getD_eq_getElem?_getD]
  refine hK _ ?_; clear hK K
  refine aw_reg fun K hK => ?_
  have key : ∀ e, envLe 0 0 e [(0, .int .i64 x), (1, .int .i64 y), (5, .sl (enc x).length (encB (enc x)) .none), (6, .sl (enc y).length (encB (enc y)) .none), (7, .bool (decide (fo x < fo y)))] → K ⟨e, [], [((enc x).length, 1), ((enc y).length, 1)]⟩ := by
    intro e he
    refine hK _ (aw_weak ⟨[(0, .int .i64 x), (1, .int .i64 y), (5, .sl (enc x).length (encB (enc x)) .none), (6, .sl (enc y).length (encB (enc y)) .none), (7, .bool (decide (fo x < fo y)))], [], []⟩ (weak_to [] [((enc x).length, 1), ((enc y).length, 1)] (by simp) (by simp) (by simp) (by simp) HO he) ?_)
    refine aw_reg fun K hK => ?_; simp (maxSteps := 200000) (disch := omega) [-List.getD_eq_getElem?_getD]
    refine acall_is (folded_ok x hx.1 hx.2 _ _) ?_; simp (maxSteps := 200000) (disch := omega) [-List.getD_eq_getElem?_getD]
    refine acall_is (folded_ok y hy.1 hy.2 _ _) ?_; simp (maxSteps := 200000) (disch := omega) [-List.getD_eq_getElem?_getD]
    refine acall_is (same_ok (enc x) (enc y) _ _ _ _) ?_; simp (maxSteps := 200000) (disch := omega) [-List.getD_eq_getElem?_getD]
    refine hK _ ?_; clear hK K
    refine aw_ret ?_; simp (maxSteps := 200000) (disch := omega) [-List.getD_eq_getElem?_getD]
    rw [h2]
  clear hK
  rcases Nat.lt_trichotomy (enc x).length (enc y).length with hl | hl | hl
  · have b1 : decide ((enc x).length < (enc y).length) = true := by simpa using hl
    rw [b1, Bool.true_or] at h1
    simp (maxSteps := 200000) (disch := omega) [-List.getD_eq_getElem?_getD, b1]
    exact key _ (by simp [← h1])
  · have b1 : decide ((enc x).length < (enc y).length) = false := by simp; omega
    have b2 : decide ((enc x).length = (enc y).length) = true := by simpa using hl
    have b3 : (((enc x).length : Int) == ((enc y).length : Int)) = true := by simp; omega
    rw [b1, b2, Bool.false_or, Bool.true_and] at h1
    simp (maxSteps := 200000) (disch := omega) [-List.getD_eq_getElem?_getD, b1, b3]
    exact key _ (by simp [← h1])
  · have b1 : decide ((enc x).length < (enc y).length) = false := by simp; omega
    have b2 : decide ((enc x).length = (enc y).length) = false := by simp; omega
    have b3 : (((enc x).length : Int) == ((enc y).length : Int)) = false := by simp; omega
    rw [b1, b2, Bool.false_or, Bool.false_and] at h1
    simp (maxSteps := 200000) (disch := omega) [-List.getD_eq_getElem?_getD, b1, b3]
    exact key _ (by simp [← h1])
end Go.Proofs.Ytgnhfcncbkikgaa
