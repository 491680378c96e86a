/- Keys of call numbers (layer 52): the walk of the law.
   Conditions: lengths of the arguments below 2^63, as arguments have; the library's variables hold values of their types. -/
import Derived.Test.YtnmlpohhommagaaGreatDoorCKey3
import Derived.Test.YtnmlpohhommagaaGreatDoorCKey4
import Derived.Test.YtnmlpohhommagaaGreatDoorCFn14
namespace Go.Proofs.YtnmlpohhommagaaGreatDoor
open Go Go.Am Cn Lst
set_option linter.unusedVariables false

/-- What both answer. -/
theorem from_both (b : List UInt8) (hb : b.length ≤ 900) : ∃ (y : Cl) (f : Int), Sm y ∧ (∀ tg H T, ACall Tryz.prog 30 [.sl b.length (encB b) tg] H T (Is (.tup [.agg (clAV y .none), .int .i64 f]) H T)) ∧
    (∀ tg H T, ACall Tryz.prog 31 [.sl b.length (encB b) tg] H T (Is (.tup [.agg (clAV y .none), .int .i64 f]) H T)) := by
  by_cases h : ∃ c, validF c = true ∧ keyF c = b
  · obtain ⟨c, hv, rfl⟩ := h
    exact ⟨c, 0, valid_sm hv, fun tg H T => fromP_yes c hv tg H T, fun tg H T => fromR_yes c hv tg H T⟩
  · have hno : ∀ c, validF c = true → keyF c ≠ b := fun c hv e => h ⟨c, hv, e⟩
    exact ⟨zeroC, 5, ⟨by simp [zeroC], by simp [zeroC], by simp [zeroC], by simp [zeroC], by simp [zeroC]⟩, fun tg H T => fromP_no b hb hno tg H T, fun tg H T => fromR_no b hb hno tg H T⟩

set_option maxRecDepth 100000 in
set_option maxHeartbeats 8000000 in
/-- CallnoKey. -/
theorem key_law (c : Cl) (b : List UInt8) (hl : c.cut.length ≤ 9223372036854775807) (hb : b.length ≤ Go.maxLen) (H : List Blk) (hL : Lb H) :
    ACall Tryz.prog 9 [.agg (clAV c .none), .sl b.length (encB b) .none] H [] (fun r H' _ => r = .bool true ∧ ∃ G, H' = H ++ G) := by
  have c0 := fun G => awake_ok (H ++ G) [] (hL.app G)
  have f1 := fun G => few_ok c .none hl (H ++ G) []
  have v1 := fun h G => validR_ok c .none (fewF_sm h) (H ++ G) []
  have k1 := fun h G => keyP_ok c .none (fewF_sm h) (H ++ G) []
  have k2 := fun h G => keyR_ok c .none (fewF_sm h) (H ++ G) []
  have be := fun G => bytesEq_ok (keyF c) (keyF c) .none .none (H ++ G) []
  rw [beq_self_eq_true] at be
  have hsa : ∀ n t, BelowAll n t (strs c.cut) := fun n t => by simp
  have hfk : ∃ (x : Cl) (e : Int), (fewF c = true → Sm x) ∧ (∀ tg H T, ACall Tryz.prog 30 [.sl (keyF c).length (encB (keyF c)) tg] H T (Is (.tup [.agg (clAV x .none), .int .i64 e]) H T)) ∧ (validF c = true → x = c ∧ e = 0) ∧ (validF c = false → e = 5) := by
    cases hv : validF c with
    | true => exact ⟨c, 0, fun h => fewF_sm h, fun tg H T => fromP_yes c hv tg H T, fun _ => ⟨rfl, rfl⟩, fun h => by cases h⟩
    | false =>
      have hk : keyF c = [] := by unfold keyF; rw [if_neg (by rw [hv]; simp)]
      rw [hk]
      refine ⟨zeroC, 5, fun _ => ⟨by simp [zeroC], by simp [zeroC], by simp [zeroC], by simp [zeroC], by simp [zeroC]⟩, fun tg H T => fromP_no [] (by simp) (fun d hd e => ?_) tg H T, fun h => (by cases h), fun _ => rfl⟩
      unfold keyF begF at e
      rw [if_pos hd] at e
      simp at e
  obtain ⟨x, e, hxs, cx, hxe, hx5⟩ := hfk
  have q1 := fun h G => equalR_ok x c .none .none (hxs h) (fewF_sm h) (H ++ G) []
  have cx1 := fun G => cx .none (H ++ G) []
  have hdx : validF c = true → decide (x = c) = true := fun h => decide_eq_true (hxe h).1
  have he0 : validF c = true → e = 0 := fun h => (hxe h).2
  clear cx hxe
  generalize decide (x = c) = dx at *
  generalize keyF c = kc at *
  cases hf : fewF c with
  | false =>
    rw [hf] at f1
    clear v1 k1 k2 be q1 cx1 hxs hdx he0 hx5 hf
    obtain ⟨a1, a2, a3, a4, a5, a6, a7⟩ := c
    simp only [clAV] at *
    generalize strs a5 = A at *
    generalize hB : encB b = B at *
    have hbe : ∀ n t, BelowAll n t B := fun n t => by rw [← hB]; simp
    refine acall_enter 12 [] Tryz.ntmps9 Tryz.func9 rfl (fun _ _ => Tryz.call9 _ _) (by simp) (fun HO => ?_)
    refine aw_reg fun K hK => ?_; simp (maxSteps := 1000000) (disch := omega) [-List.getD_eq_getElem?_getD]; refine hK _ ?_; clear hK K
    refine aw_then fun K1 hK1 => ?_
    refine aw_reg fun K hK => ?_; simp (maxSteps := 1000000) (disch := omega) [-List.getD_eq_getElem?_getD]
    refine acall_is (c0 _) ?_; simp (maxSteps := 1000000) (disch := omega) [-List.getD_eq_getElem?_getD]
    refine hK _ ?_; clear hK K
    refine aw_if rfl (fun h => absurd h (by simp)) (fun h => ?_)
    refine aw_skip ?_; simp (maxSteps := 1000000) (disch := omega) [-List.getD_eq_getElem?_getD]
    refine hK1 _ ?_; clear hK1
    refine aw_then fun K1 hK1 => ?_
    refine aw_reg fun K hK => ?_; simp (maxSteps := 1000000) (disch := omega) [-List.getD_eq_getElem?_getD]
    refine acall_is (f1 _) ?_; simp (maxSteps := 1000000) (disch := omega) [-List.getD_eq_getElem?_getD]
    refine hK _ ?_; clear hK K
    refine aw_if rfl (fun h => ?_) (fun h => absurd h (by simp))
    refine aw_reg fun K hK => ?_; simp (maxSteps := 1000000) (disch := omega) [-List.getD_eq_getElem?_getD]; refine hK _ ?_; clear hK K
    refine aw_ret ?_; simp (maxSteps := 1000000) (disch := omega) [-List.getD_eq_getElem?_getD]
  | true =>
    rw [hf] at f1
    replace v1 := v1 hf
    replace k1 := k1 hf
    replace k2 := k2 hf
    replace q1 := q1 hf
    by_cases hbl : b.length ≤ 80
    rotate_left
    · have b1 : decide ((b.length : Int) > 80) = true := decide_eq_true (by omega)
      have b1' : decide ((80 : Int) < (b.length : Nat)) = true := decide_eq_true (by omega)
      have b2 : 80 < b.length := by omega
      clear v1 k1 k2 be q1 cx1 hxs hdx he0 hx5 hf
      obtain ⟨a1, a2, a3, a4, a5, a6, a7⟩ := c
      simp only [clAV] at *
      generalize strs a5 = A at *
      generalize hB : encB b = B at *
      have hbe : ∀ n t, BelowAll n t B := fun n t => by rw [← hB]; simp
      refine acall_enter 12 [] Tryz.ntmps9 Tryz.func9 rfl (fun _ _ => Tryz.call9 _ _) (by simp) (fun HO => ?_)
      refine aw_reg fun K hK => ?_; simp (maxSteps := 1000000) (disch := omega) [-List.getD_eq_getElem?_getD]; refine hK _ ?_; clear hK K
      refine aw_then fun K1 hK1 => ?_
      refine aw_reg fun K hK => ?_; simp (maxSteps := 1000000) (disch := omega) [-List.getD_eq_getElem?_getD]
      refine acall_is (c0 _) ?_; simp (maxSteps := 1000000) (disch := omega) [-List.getD_eq_getElem?_getD]
      refine hK _ ?_; clear hK K
      refine aw_if rfl (fun h => absurd h (by simp)) (fun h => ?_)
      refine aw_skip ?_; simp (maxSteps := 1000000) (disch := omega) [-List.getD_eq_getElem?_getD]
      refine hK1 _ ?_; clear hK1
      refine aw_then fun K1 hK1 => ?_
      refine aw_reg fun K hK => ?_; simp (maxSteps := 1000000) (disch := omega) [-List.getD_eq_getElem?_getD]
      refine acall_is (f1 _) ?_; simp (maxSteps := 1000000) (disch := omega) [-List.getD_eq_getElem?_getD, b1]
      refine hK _ ?_; clear hK K
      refine aw_if rfl (fun h => ?_) (fun h => absurd h (by simp))
      refine aw_reg fun K hK => ?_; simp (maxSteps := 1000000) (disch := omega) [-List.getD_eq_getElem?_getD]; refine hK _ ?_; clear hK K
      refine aw_ret ?_; simp (maxSteps := 1000000) (disch := omega) [-List.getD_eq_getElem?_getD]
    · have b1 : decide ((b.length : Int) > 80) = false := decide_eq_false (by omega)
      have b1' : decide ((80 : Int) < (b.length : Nat)) = false := decide_eq_false (by omega)
      have b2 : ¬ 80 < b.length := by omega
      obtain ⟨y, f, hys, cy, cz⟩ := from_both b (by omega)
      have cy1 := fun G => cy .none (H ++ G) []
      have cz1 := fun G => cz .none (H ++ G) []
      have q2 := fun G => equalR_ok y y .none .none hys hys (H ++ G) []
      rw [decide_eq_true (rfl : y = y)] at q2
      have hsx : ∀ n t, BelowAll n t (strs x.cut) := fun n t => by simp
      have hsy : ∀ n t, BelowAll n t (strs y.cut) := fun n t => by simp
      clear cy cz hys hxs hf
      generalize validF c = v at *
      obtain ⟨a1, a2, a3, a4, a5, a6, a7⟩ := c
      obtain ⟨x1, x2, x3, x4, x5, x6, x7⟩ := x
      obtain ⟨y1, y2, y3, y4, y5, y6, y7⟩ := y
      simp only [clAV] at *
      generalize strs a5 = A at *
      generalize strs x5 = X at *
      generalize strs y5 = Y at *
      generalize hB : encB b = B at *
      have hbe : ∀ n t, BelowAll n t B := fun n t => by rw [← hB]; simp
      clear hB
      cases v with
      | true =>
        obtain rfl := he0 rfl
        obtain rfl := hdx rfl
        refine acall_enter 12 [] Tryz.ntmps9 Tryz.func9 rfl (fun _ _ => Tryz.call9 _ _) (by simp) (fun HO => ?_)
        refine aw_reg fun K hK => ?_; simp (maxSteps := 1000000) (disch := omega) [-List.getD_eq_getElem?_getD]; refine hK _ ?_; clear hK K
        refine aw_then fun K1 hK1 => ?_
        refine aw_reg fun K hK => ?_; simp (maxSteps := 1000000) (disch := omega) [-List.getD_eq_getElem?_getD]
        refine acall_is (c0 _) ?_; simp (maxSteps := 1000000) (disch := omega) [-List.getD_eq_getElem?_getD]
        refine hK _ ?_; clear hK K
        refine aw_if rfl (fun h => absurd h (by simp)) (fun h => ?_)
        refine aw_skip ?_; simp (maxSteps := 1000000) (disch := omega) [-List.getD_eq_getElem?_getD]
        refine hK1 _ ?_; clear hK1
        refine aw_then fun K1 hK1 => ?_
        refine aw_reg fun K hK => ?_; simp (maxSteps := 1000000) (disch := omega) [-List.getD_eq_getElem?_getD]
        refine acall_is (f1 _) ?_; simp (maxSteps := 1000000) (disch := omega) [-List.getD_eq_getElem?_getD, b1]
        refine hK _ ?_; clear hK K
        refine aw_if rfl (fun h => absurd h (by simp)) (fun h => ?_)
        refine aw_skip ?_; simp (maxSteps := 1000000) (disch := omega) [-List.getD_eq_getElem?_getD]
        refine hK1 _ ?_; clear hK1
        refine aw_reg fun K hK => ?_; simp (maxSteps := 1000000) (disch := omega) [-List.getD_eq_getElem?_getD]
        refine acall_is (k1 _) ?_; simp (maxSteps := 1000000) (disch := omega) [-List.getD_eq_getElem?_getD]
        refine hK _ ?_; clear hK K
        refine aw_then fun K1 hK1 => ?_
        refine aw_reg fun K hK => ?_; simp (maxSteps := 1000000) (disch := omega) [-List.getD_eq_getElem?_getD]
        refine acall_is (k2 _) ?_; simp (maxSteps := 1000000) (disch := omega) [-List.getD_eq_getElem?_getD]
        refine acall_is (be _) ?_; simp (maxSteps := 1000000) (disch := omega) [-List.getD_eq_getElem?_getD]
        refine hK _ ?_; clear hK K
        refine aw_if rfl (fun h => absurd h (by simp)) (fun h => ?_)
        refine aw_skip ?_; simp (maxSteps := 1000000) (disch := omega) [-List.getD_eq_getElem?_getD]
        refine hK1 _ ?_; clear hK1
        refine aw_reg fun K hK => ?_; simp (maxSteps := 1000000) (disch := omega) [-List.getD_eq_getElem?_getD]
        refine acall_is (cx1 _) ?_; simp (maxSteps := 1000000) (disch := omega) [-List.getD_eq_getElem?_getD]
        refine hK _ ?_; clear hK K
        refine aw_reg fun K hK => ?_; simp (maxSteps := 1000000) (disch := omega) [-List.getD_eq_getElem?_getD]
        refine acall_is (cy1 _) ?_; simp (maxSteps := 1000000) (disch := omega) [-List.getD_eq_getElem?_getD]
        refine hK _ ?_; clear hK K
        refine aw_reg fun K hK => ?_; simp (maxSteps := 1000000) (disch := omega) [-List.getD_eq_getElem?_getD]
        refine acall_is (cz1 _) ?_; simp (maxSteps := 1000000) (disch := omega) [-List.getD_eq_getElem?_getD]
        refine hK _ ?_; clear hK K
        refine aw_reg fun K hK => ?_; simp (maxSteps := 1000000) (disch := omega) [-List.getD_eq_getElem?_getD]
        refine acall_is (v1 _) ?_; simp (maxSteps := 1000000) (disch := omega) [-List.getD_eq_getElem?_getD]
        refine acall_is (q1 _) ?_; simp (maxSteps := 1000000) (disch := omega) [-List.getD_eq_getElem?_getD]
        refine acall_is (q2 _) ?_; simp (maxSteps := 1000000) (disch := omega) [-List.getD_eq_getElem?_getD]
        refine hK _ ?_; clear hK K
        refine aw_ret ?_; simp (maxSteps := 1000000) (disch := omega) [-List.getD_eq_getElem?_getD]
      | false =>
        obtain rfl := hx5 rfl
        refine acall_enter 12 [] Tryz.ntmps9 Tryz.func9 rfl (fun _ _ => Tryz.call9 _ _) (by simp) (fun HO => ?_)
        refine aw_reg fun K hK => ?_; simp (maxSteps := 1000000) (disch := omega) [-List.getD_eq_getElem?_getD]; refine hK _ ?_; clear hK K
        refine aw_then fun K1 hK1 => ?_
        refine aw_reg fun K hK => ?_; simp (maxSteps := 1000000) (disch := omega) [-List.getD_eq_getElem?_getD]
        refine acall_is (c0 _) ?_; simp (maxSteps := 1000000) (disch := omega) [-List.getD_eq_getElem?_getD]
        refine hK _ ?_; clear hK K
        refine aw_if rfl (fun h => absurd h (by simp)) (fun h => ?_)
        refine aw_skip ?_; simp (maxSteps := 1000000) (disch := omega) [-List.getD_eq_getElem?_getD]
        refine hK1 _ ?_; clear hK1
        refine aw_then fun K1 hK1 => ?_
        refine aw_reg fun K hK => ?_; simp (maxSteps := 1000000) (disch := omega) [-List.getD_eq_getElem?_getD]
        refine acall_is (f1 _) ?_; simp (maxSteps := 1000000) (disch := omega) [-List.getD_eq_getElem?_getD, b1]
        refine hK _ ?_; clear hK K
        refine aw_if rfl (fun h => absurd h (by simp)) (fun h => ?_)
        refine aw_skip ?_; simp (maxSteps := 1000000) (disch := omega) [-List.getD_eq_getElem?_getD]
        refine hK1 _ ?_; clear hK1
        refine aw_reg fun K hK => ?_; simp (maxSteps := 1000000) (disch := omega) [-List.getD_eq_getElem?_getD]
        refine acall_is (k1 _) ?_; simp (maxSteps := 1000000) (disch := omega) [-List.getD_eq_getElem?_getD]
        refine hK _ ?_; clear hK K
        refine aw_then fun K1 hK1 => ?_
        refine aw_reg fun K hK => ?_; simp (maxSteps := 1000000) (disch := omega) [-List.getD_eq_getElem?_getD]
        refine acall_is (k2 _) ?_; simp (maxSteps := 1000000) (disch := omega) [-List.getD_eq_getElem?_getD]
        refine acall_is (be _) ?_; simp (maxSteps := 1000000) (disch := omega) [-List.getD_eq_getElem?_getD]
        refine hK _ ?_; clear hK K
        refine aw_if rfl (fun h => absurd h (by simp)) (fun h => ?_)
        refine aw_skip ?_; simp (maxSteps := 1000000) (disch := omega) [-List.getD_eq_getElem?_getD]
        refine hK1 _ ?_; clear hK1
        refine aw_reg fun K hK => ?_; simp (maxSteps := 1000000) (disch := omega) [-List.getD_eq_getElem?_getD]
        refine acall_is (cx1 _) ?_; simp (maxSteps := 1000000) (disch := omega) [-List.getD_eq_getElem?_getD]
        refine hK _ ?_; clear hK K
        refine aw_reg fun K hK => ?_; simp (maxSteps := 1000000) (disch := omega) [-List.getD_eq_getElem?_getD]
        refine acall_is (cy1 _) ?_; simp (maxSteps := 1000000) (disch := omega) [-List.getD_eq_getElem?_getD]
        refine hK _ ?_; clear hK K
        refine aw_reg fun K hK => ?_; simp (maxSteps := 1000000) (disch := omega) [-List.getD_eq_getElem?_getD]
        refine acall_is (cz1 _) ?_; simp (maxSteps := 1000000) (disch := omega) [-List.getD_eq_getElem?_getD]
        refine hK _ ?_; clear hK K
        refine aw_reg fun K hK => ?_; simp (maxSteps := 1000000) (disch := omega) [-List.getD_eq_getElem?_getD]
        refine acall_is (v1 _) ?_; simp (maxSteps := 1000000) (disch := omega) [-List.getD_eq_getElem?_getD]
        refine acall_is (q2 _) ?_; simp (maxSteps := 1000000) (disch := omega) [-List.getD_eq_getElem?_getD]
        refine hK _ ?_; clear hK K
        refine aw_ret ?_; simp (maxSteps := 1000000) (disch := omega) [-List.getD_eq_getElem?_getD]
end Go.Proofs.YtnmlpohhommagaaGreatDoor
