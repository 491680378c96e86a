/- The parts that hang on the scheme; the program's Valid (layer 52).
   Conditions: small parts. -/
import Derived.Test.YtnmlpohhommagaaGreatDoorCA
namespace Go.Proofs.YtnmlpohhommagaaGreatDoor
open Go Go.Am Cn Lst
set_option linter.unusedVariables false
set_option maxRecDepth 100000

set_option maxRecDepth 100000 in
set_option maxHeartbeats 8000000 in
theorem schP_ok (c : Cl) (tg : Tag) (hc : Sm c) (H : List Blk) (T : Toks) :
    ACall Tryz.prog 50 [.agg (clAV c tg)] H T (Is (.bool (schF c)) H T) := by
  refine callCl1 tg ?_
  refine ACall.drop' ?_ (by simp)
  have hc1 := hc.cls
  have hc2 := hc.cut
  have c1 := made_ok 44 isC capP_ok c.cls (by omega) (H ++ [.cells (clAV c .none)]) T
  generalize hF : schF c = F
  have hlen := strs_len c.cut
  have hb : ∀ n t, BelowAll n t (strs c.cut) := fun n t => by simp
  clear hc
  obtain ⟨sch, cls, num, dec, cut, yr, rest⟩ := c
  simp only [clAV] at *
  generalize strs cut = S at *
  by_cases hs1 : sch = 1
  · subst hs1
    by_cases g1 : 1 ≤ cls.length
    · have b1 : decide ((1 : Int) ≤ ((cls.length : Nat) : Int)) = true := decide_eq_true (by omega)
      have b1' : decide (((cls.length : Nat) : Int) < (1 : Int)) = false := decide_eq_false (by omega)
      have b1c : decide (((cls.length : Nat) : Int) ≥ (1 : Int)) = true := decide_eq_true (by omega)
      have b1d : decide ((1 : Int) > ((cls.length : Nat) : Int)) = false := decide_eq_false (by omega)
      have n1 : ¬ cls.length < 1 := by omega
      by_cases g2 : cls.length ≤ 3
      · have b2 : decide (((cls.length : Nat) : Int) ≤ (3 : Int)) = true := decide_eq_true (by omega)
        have b2' : decide ((3 : Int) < ((cls.length : Nat) : Int)) = false := decide_eq_false (by omega)
        have b2c : decide ((3 : Int) ≥ ((cls.length : Nat) : Int)) = true := decide_eq_true (by omega)
        have b2d : decide (((cls.length : Nat) : Int) > (3 : Int)) = false := decide_eq_false (by omega)
        have n2 : ¬ 3 < cls.length := by omega
        cases g3 : cls.all isC with
        | false =>
          rw [g3] at c1
          obtain rfl : F = false := by rw [← hF]; simp [schF, g1, g2, g3]
          refine acall_enter 39 [] Tryz.ntmps50 Tryz.func50 rfl (fun _ _ => Tryz.call50 _ _) (by simp) (fun HO => ?_)
          refine aw_reg fun K hK => ?_; simp (maxSteps := 1000000) (disch := omega) [-List.getD_eq_getElem?_getD]; refine hK _ ?_; clear hK K
          refine aw_then fun K1 hK1 => ?_
          refine aw_reg fun K hK => ?_; simp (maxSteps := 1000000) (disch := omega) [-List.getD_eq_getElem?_getD]; refine hK _ ?_; clear hK K
          refine aw_block ?_
          refine aw_reg fun K hK => ?_; simp (maxSteps := 1000000) (disch := omega) [-List.getD_eq_getElem?_getD]; refine hK _ ?_; clear hK K
          refine aw_if rfl (fun h => ?_) (fun h => absurd h (by simp))
          refine aw_reg fun K hK => ?_; simp (maxSteps := 1000000) (disch := omega) [-List.getD_eq_getElem?_getD, b1, b2]
          refine acall_is (c1) ?_; simp (maxSteps := 1000000) (disch := omega) [-List.getD_eq_getElem?_getD]
          refine hK _ ?_; clear hK K
          refine aw_ret ?_; simp (maxSteps := 1000000) (disch := omega) [-List.getD_eq_getElem?_getD]
        | true =>
          rw [g3] at c1
          by_cases g4 : 1 ≤ num
          · have b4 : decide ((1 : Int) ≤ (num : Int)) = true := decide_eq_true (by omega)
            have b4' : decide ((num : Int) < (1 : Int)) = false := decide_eq_false (by omega)
            have b4c : decide ((num : Int) ≥ (1 : Int)) = true := decide_eq_true (by omega)
            have b4d : decide ((1 : Int) > (num : Int)) = false := decide_eq_false (by omega)
            have n4 : ¬ num < 1 := by omega
            by_cases g5 : num ≤ 9999
            · have b5 : decide ((num : Int) ≤ (9999 : Int)) = true := decide_eq_true (by omega)
              have b5' : decide ((9999 : Int) < (num : Int)) = false := decide_eq_false (by omega)
              have b5c : decide ((9999 : Int) ≥ (num : Int)) = true := decide_eq_true (by omega)
              have b5d : decide ((num : Int) > (9999 : Int)) = false := decide_eq_false (by omega)
              have n5 : ¬ 9999 < num := by omega
              by_cases g6 : cut.length ≤ 3
              · have b6 : decide (((cut.length : Nat) : Int) ≤ (3 : Int)) = true := decide_eq_true (by omega)
                have b6' : decide ((3 : Int) < ((cut.length : Nat) : Int)) = false := decide_eq_false (by omega)
                have b6c : decide ((3 : Int) ≥ ((cut.length : Nat) : Int)) = true := decide_eq_true (by omega)
                have b6d : decide (((cut.length : Nat) : Int) > (3 : Int)) = false := decide_eq_false (by omega)
                have n6 : ¬ 3 < cut.length := by omega
                obtain rfl : F = true := by rw [← hF]; simp [schF, g1, g2, g3, g4, g5, g6]
                refine acall_enter 39 [] Tryz.ntmps50 Tryz.func50 rfl (fun _ _ => Tryz.call50 _ _) (by simp) (fun HO => ?_)
                refine aw_reg fun K hK => ?_; simp (maxSteps := 1000000) (disch := omega) [-List.getD_eq_getElem?_getD]; refine hK _ ?_; clear hK K
                refine aw_then fun K1 hK1 => ?_
                refine aw_reg fun K hK => ?_; simp (maxSteps := 1000000) (disch := omega) [-List.getD_eq_getElem?_getD]; refine hK _ ?_; clear hK K
                refine aw_block ?_
                refine aw_reg fun K hK => ?_; simp (maxSteps := 1000000) (disch := omega) [-List.getD_eq_getElem?_getD]; refine hK _ ?_; clear hK K
                refine aw_if rfl (fun h => ?_) (fun h => absurd h (by simp))
                refine aw_reg fun K hK => ?_; simp (maxSteps := 1000000) (disch := omega) [-List.getD_eq_getElem?_getD, b1, b2]
                refine acall_is (c1) ?_; simp (maxSteps := 1000000) (disch := omega) [-List.getD_eq_getElem?_getD, g4, g5, b6]
                refine hK _ ?_; clear hK K
                refine aw_ret ?_; simp (maxSteps := 1000000) (disch := omega) [-List.getD_eq_getElem?_getD]
              · have b6 : decide (((cut.length : Nat) : Int) ≤ (3 : Int)) = false := decide_eq_false (by omega)
                have b6' : decide ((3 : Int) < ((cut.length : Nat) : Int)) = true := decide_eq_true (by omega)
                have b6c : decide ((3 : Int) ≥ ((cut.length : Nat) : Int)) = false := decide_eq_false (by omega)
                have b6d : decide (((cut.length : Nat) : Int) > (3 : Int)) = true := decide_eq_true (by omega)
                have n6 : 3 < cut.length := by omega
                obtain rfl : F = false := by rw [← hF]; simp [schF, g1, g2, g3, g4, g5, g6]
                refine acall_enter 39 [] Tryz.ntmps50 Tryz.func50 rfl (fun _ _ => Tryz.call50 _ _) (by simp) (fun HO => ?_)
                refine aw_reg fun K hK => ?_; simp (maxSteps := 1000000) (disch := omega) [-List.getD_eq_getElem?_getD]; refine hK _ ?_; clear hK K
                refine aw_then fun K1 hK1 => ?_
                refine aw_reg fun K hK => ?_; simp (maxSteps := 1000000) (disch := omega) [-List.getD_eq_getElem?_getD]; refine hK _ ?_; clear hK K
                refine aw_block ?_
                refine aw_reg fun K hK => ?_; simp (maxSteps := 1000000) (disch := omega) [-List.getD_eq_getElem?_getD]; refine hK _ ?_; clear hK K
                refine aw_if rfl (fun h => ?_) (fun h => absurd h (by simp))
                refine aw_reg fun K hK => ?_; simp (maxSteps := 1000000) (disch := omega) [-List.getD_eq_getElem?_getD, b1, b2]
                refine acall_is (c1) ?_; simp (maxSteps := 1000000) (disch := omega) [-List.getD_eq_getElem?_getD, g4, g5, b6]
                refine hK _ ?_; clear hK K
                refine aw_ret ?_; simp (maxSteps := 1000000) (disch := omega) [-List.getD_eq_getElem?_getD]
            · have b5 : decide ((num : Int) ≤ (9999 : Int)) = false := decide_eq_false (by omega)
              have b5' : decide ((9999 : Int) < (num : Int)) = true := decide_eq_true (by omega)
              have b5c : decide ((9999 : Int) ≥ (num : Int)) = false := decide_eq_false (by omega)
              have b5d : decide ((num : Int) > (9999 : Int)) = true := decide_eq_true (by omega)
              have n5 : 9999 < num := by omega
              obtain rfl : F = false := by rw [← hF]; simp [schF, g1, g2, g3, g4, g5]
              refine acall_enter 39 [] Tryz.ntmps50 Tryz.func50 rfl (fun _ _ => Tryz.call50 _ _) (by simp) (fun HO => ?_)
              refine aw_reg fun K hK => ?_; simp (maxSteps := 1000000) (disch := omega) [-List.getD_eq_getElem?_getD]; refine hK _ ?_; clear hK K
              refine aw_then fun K1 hK1 => ?_
              refine aw_reg fun K hK => ?_; simp (maxSteps := 1000000) (disch := omega) [-List.getD_eq_getElem?_getD]; refine hK _ ?_; clear hK K
              refine aw_block ?_
              refine aw_reg fun K hK => ?_; simp (maxSteps := 1000000) (disch := omega) [-List.getD_eq_getElem?_getD]; refine hK _ ?_; clear hK K
              refine aw_if rfl (fun h => ?_) (fun h => absurd h (by simp))
              refine aw_reg fun K hK => ?_; simp (maxSteps := 1000000) (disch := omega) [-List.getD_eq_getElem?_getD, b1, b2]
              refine acall_is (c1) ?_; simp (maxSteps := 1000000) (disch := omega) [-List.getD_eq_getElem?_getD, g4, g5]
              refine hK _ ?_; clear hK K
              refine aw_ret ?_; simp (maxSteps := 1000000) (disch := omega) [-List.getD_eq_getElem?_getD]
          · have b4 : decide ((1 : Int) ≤ (num : Int)) = false := decide_eq_false (by omega)
            have b4' : decide ((num : Int) < (1 : Int)) = true := decide_eq_true (by omega)
            have b4c : decide ((num : Int) ≥ (1 : Int)) = false := decide_eq_false (by omega)
            have b4d : decide ((1 : Int) > (num : Int)) = true := decide_eq_true (by omega)
            have n4 : num < 1 := by omega
            obtain rfl : F = false := by rw [← hF]; simp [schF, g1, g2, g3, g4]
            refine acall_enter 39 [] Tryz.ntmps50 Tryz.func50 rfl (fun _ _ => Tryz.call50 _ _) (by simp) (fun HO => ?_)
            refine aw_reg fun K hK => ?_; simp (maxSteps := 1000000) (disch := omega) [-List.getD_eq_getElem?_getD]; refine hK _ ?_; clear hK K
            refine aw_then fun K1 hK1 => ?_
            refine aw_reg fun K hK => ?_; simp (maxSteps := 1000000) (disch := omega) [-List.getD_eq_getElem?_getD]; refine hK _ ?_; clear hK K
            refine aw_block ?_
            refine aw_reg fun K hK => ?_; simp (maxSteps := 1000000) (disch := omega) [-List.getD_eq_getElem?_getD]; refine hK _ ?_; clear hK K
            refine aw_if rfl (fun h => ?_) (fun h => absurd h (by simp))
            refine aw_reg fun K hK => ?_; simp (maxSteps := 1000000) (disch := omega) [-List.getD_eq_getElem?_getD, b1, b2]
            refine acall_is (c1) ?_; simp (maxSteps := 1000000) (disch := omega) [-List.getD_eq_getElem?_getD, g4]
            refine hK _ ?_; clear hK K
            refine aw_ret ?_; simp (maxSteps := 1000000) (disch := omega) [-List.getD_eq_getElem?_getD]
      · have b2 : decide (((cls.length : Nat) : Int) ≤ (3 : Int)) = false := decide_eq_false (by omega)
        have b2' : decide ((3 : Int) < ((cls.length : Nat) : Int)) = true := decide_eq_true (by omega)
        have b2c : decide ((3 : Int) ≥ ((cls.length : Nat) : Int)) = false := decide_eq_false (by omega)
        have b2d : decide (((cls.length : Nat) : Int) > (3 : Int)) = true := decide_eq_true (by omega)
        have n2 : 3 < cls.length := by omega
        obtain rfl : F = false := by rw [← hF]; simp [schF, g1, g2]
        refine acall_enter 39 [] Tryz.ntmps50 Tryz.func50 rfl (fun _ _ => Tryz.call50 _ _) (by simp) (fun HO => ?_)
        refine aw_reg fun K hK => ?_; simp (maxSteps := 1000000) (disch := omega) [-List.getD_eq_getElem?_getD]; refine hK _ ?_; clear hK K
        refine aw_then fun K1 hK1 => ?_
        refine aw_reg fun K hK => ?_; simp (maxSteps := 1000000) (disch := omega) [-List.getD_eq_getElem?_getD]; refine hK _ ?_; clear hK K
        refine aw_block ?_
        refine aw_reg fun K hK => ?_; simp (maxSteps := 1000000) (disch := omega) [-List.getD_eq_getElem?_getD]; refine hK _ ?_; clear hK K
        refine aw_if rfl (fun h => ?_) (fun h => absurd h (by simp))
        refine aw_reg fun K hK => ?_; simp (maxSteps := 1000000) (disch := omega) [-List.getD_eq_getElem?_getD, b1, b2]; refine hK _ ?_; clear hK K
        refine aw_ret ?_; simp (maxSteps := 1000000) (disch := omega) [-List.getD_eq_getElem?_getD]
    · have b1 : decide ((1 : Int) ≤ ((cls.length : Nat) : Int)) = false := decide_eq_false (by omega)
      have b1' : decide (((cls.length : Nat) : Int) < (1 : Int)) = true := decide_eq_true (by omega)
      have b1c : decide (((cls.length : Nat) : Int) ≥ (1 : Int)) = false := decide_eq_false (by omega)
      have b1d : decide ((1 : Int) > ((cls.length : Nat) : Int)) = true := decide_eq_true (by omega)
      have n1 : cls.length < 1 := by omega
      obtain rfl : F = false := by rw [← hF]; simp [schF, g1]
      refine acall_enter 39 [] Tryz.ntmps50 Tryz.func50 rfl (fun _ _ => Tryz.call50 _ _) (by simp) (fun HO => ?_)
      refine aw_reg fun K hK => ?_; simp (maxSteps := 1000000) (disch := omega) [-List.getD_eq_getElem?_getD]; refine hK _ ?_; clear hK K
      refine aw_then fun K1 hK1 => ?_
      refine aw_reg fun K hK => ?_; simp (maxSteps := 1000000) (disch := omega) [-List.getD_eq_getElem?_getD]; refine hK _ ?_; clear hK K
      refine aw_block ?_
      refine aw_reg fun K hK => ?_; simp (maxSteps := 1000000) (disch := omega) [-List.getD_eq_getElem?_getD]; refine hK _ ?_; clear hK K
      refine aw_if rfl (fun h => ?_) (fun h => absurd h (by simp))
      refine aw_reg fun K hK => ?_; simp (maxSteps := 1000000) (disch := omega) [-List.getD_eq_getElem?_getD, b1]; refine hK _ ?_; clear hK K
      refine aw_ret ?_; simp (maxSteps := 1000000) (disch := omega) [-List.getD_eq_getElem?_getD]
  · by_cases hs2 : sch = 2
    · subst hs2
      by_cases g1 : cls = []
      · subst g1
        by_cases g2 : 0 ≤ num
        · have b2 : decide ((0 : Int) ≤ (num : Int)) = true := decide_eq_true (by omega)
          have b2' : decide ((num : Int) < (0 : Int)) = false := decide_eq_false (by omega)
          have b2c : decide ((num : Int) ≥ (0 : Int)) = true := decide_eq_true (by omega)
          have b2d : decide ((0 : Int) > (num : Int)) = false := decide_eq_false (by omega)
          have n2 : ¬ num < 0 := by omega
          by_cases g3 : num ≤ 999
          · have b3 : decide ((num : Int) ≤ (999 : Int)) = true := decide_eq_true (by omega)
            have b3' : decide ((999 : Int) < (num : Int)) = false := decide_eq_false (by omega)
            have b3c : decide ((999 : Int) ≥ (num : Int)) = true := decide_eq_true (by omega)
            have b3d : decide ((num : Int) > (999 : Int)) = false := decide_eq_false (by omega)
            have n3 : ¬ 999 < num := by omega
            by_cases g4 : cut.length ≤ 1
            · have b4 : decide (((cut.length : Nat) : Int) ≤ (1 : Int)) = true := decide_eq_true (by omega)
              have b4' : decide ((1 : Int) < ((cut.length : Nat) : Int)) = false := decide_eq_false (by omega)
              have b4c : decide ((1 : Int) ≥ ((cut.length : Nat) : Int)) = true := decide_eq_true (by omega)
              have b4d : decide (((cut.length : Nat) : Int) > (1 : Int)) = false := decide_eq_false (by omega)
              have n4 : ¬ 1 < cut.length := by omega
              obtain rfl : F = true := by rw [← hF]; simp [schF, g2, g3, g4]
              refine acall_enter 39 [] Tryz.ntmps50 Tryz.func50 rfl (fun _ _ => Tryz.call50 _ _) (by simp) (fun HO => ?_)
              refine aw_reg fun K hK => ?_; simp (maxSteps := 1000000) (disch := omega) [-List.getD_eq_getElem?_getD]; refine hK _ ?_; clear hK K
              refine aw_then fun K1 hK1 => ?_
              refine aw_reg fun K hK => ?_; simp (maxSteps := 1000000) (disch := omega) [-List.getD_eq_getElem?_getD]; refine hK _ ?_; clear hK K
              refine aw_block ?_
              refine aw_reg fun K hK => ?_; simp (maxSteps := 1000000) (disch := omega) [-List.getD_eq_getElem?_getD]; refine hK _ ?_; clear hK K
              refine aw_if rfl (fun h => absurd h (by simp)) (fun h => ?_)
              refine aw_reg fun K hK => ?_; simp (maxSteps := 1000000) (disch := omega) [-List.getD_eq_getElem?_getD]; refine hK _ ?_; clear hK K
              refine aw_if rfl (fun h => ?_) (fun h => absurd h (by simp))
              refine aw_reg fun K hK => ?_; simp (maxSteps := 1000000) (disch := omega) [-List.getD_eq_getElem?_getD, g2, g3, b4]; refine hK _ ?_; clear hK K
              refine aw_ret ?_; simp (maxSteps := 1000000) (disch := omega) [-List.getD_eq_getElem?_getD]
            · have b4 : decide (((cut.length : Nat) : Int) ≤ (1 : Int)) = false := decide_eq_false (by omega)
              have b4' : decide ((1 : Int) < ((cut.length : Nat) : Int)) = true := decide_eq_true (by omega)
              have b4c : decide ((1 : Int) ≥ ((cut.length : Nat) : Int)) = false := decide_eq_false (by omega)
              have b4d : decide (((cut.length : Nat) : Int) > (1 : Int)) = true := decide_eq_true (by omega)
              have n4 : 1 < cut.length := by omega
              obtain rfl : F = false := by rw [← hF]; simp [schF, g2, g3, g4]
              refine acall_enter 39 [] Tryz.ntmps50 Tryz.func50 rfl (fun _ _ => Tryz.call50 _ _) (by simp) (fun HO => ?_)
              refine aw_reg fun K hK => ?_; simp (maxSteps := 1000000) (disch := omega) [-List.getD_eq_getElem?_getD]; refine hK _ ?_; clear hK K
              refine aw_then fun K1 hK1 => ?_
              refine aw_reg fun K hK => ?_; simp (maxSteps := 1000000) (disch := omega) [-List.getD_eq_getElem?_getD]; refine hK _ ?_; clear hK K
              refine aw_block ?_
              refine aw_reg fun K hK => ?_; simp (maxSteps := 1000000) (disch := omega) [-List.getD_eq_getElem?_getD]; refine hK _ ?_; clear hK K
              refine aw_if rfl (fun h => absurd h (by simp)) (fun h => ?_)
              refine aw_reg fun K hK => ?_; simp (maxSteps := 1000000) (disch := omega) [-List.getD_eq_getElem?_getD]; refine hK _ ?_; clear hK K
              refine aw_if rfl (fun h => ?_) (fun h => absurd h (by simp))
              refine aw_reg fun K hK => ?_; simp (maxSteps := 1000000) (disch := omega) [-List.getD_eq_getElem?_getD, g2, g3, b4]; refine hK _ ?_; clear hK K
              refine aw_ret ?_; simp (maxSteps := 1000000) (disch := omega) [-List.getD_eq_getElem?_getD]
          · have b3 : decide ((num : Int) ≤ (999 : Int)) = false := decide_eq_false (by omega)
            have b3' : decide ((999 : Int) < (num : Int)) = true := decide_eq_true (by omega)
            have b3c : decide ((999 : Int) ≥ (num : Int)) = false := decide_eq_false (by omega)
            have b3d : decide ((num : Int) > (999 : Int)) = true := decide_eq_true (by omega)
            have n3 : 999 < num := by omega
            obtain rfl : F = false := by rw [← hF]; simp [schF, g2, g3]
            refine acall_enter 39 [] Tryz.ntmps50 Tryz.func50 rfl (fun _ _ => Tryz.call50 _ _) (by simp) (fun HO => ?_)
            refine aw_reg fun K hK => ?_; simp (maxSteps := 1000000) (disch := omega) [-List.getD_eq_getElem?_getD]; refine hK _ ?_; clear hK K
            refine aw_then fun K1 hK1 => ?_
            refine aw_reg fun K hK => ?_; simp (maxSteps := 1000000) (disch := omega) [-List.getD_eq_getElem?_getD]; refine hK _ ?_; clear hK K
            refine aw_block ?_
            refine aw_reg fun K hK => ?_; simp (maxSteps := 1000000) (disch := omega) [-List.getD_eq_getElem?_getD]; refine hK _ ?_; clear hK K
            refine aw_if rfl (fun h => absurd h (by simp)) (fun h => ?_)
            refine aw_reg fun K hK => ?_; simp (maxSteps := 1000000) (disch := omega) [-List.getD_eq_getElem?_getD]; refine hK _ ?_; clear hK K
            refine aw_if rfl (fun h => ?_) (fun h => absurd h (by simp))
            refine aw_reg fun K hK => ?_; simp (maxSteps := 1000000) (disch := omega) [-List.getD_eq_getElem?_getD, g2, g3]; refine hK _ ?_; clear hK K
            refine aw_ret ?_; simp (maxSteps := 1000000) (disch := omega) [-List.getD_eq_getElem?_getD]
        · have b2 : decide ((0 : Int) ≤ (num : Int)) = false := decide_eq_false (by omega)
          have b2' : decide ((num : Int) < (0 : Int)) = true := decide_eq_true (by omega)
          have b2c : decide ((num : Int) ≥ (0 : Int)) = false := decide_eq_false (by omega)
          have b2d : decide ((0 : Int) > (num : Int)) = true := decide_eq_true (by omega)
          have n2 : num < 0 := by omega
          obtain rfl : F = false := by rw [← hF]; simp [schF, g2]
          refine acall_enter 39 [] Tryz.ntmps50 Tryz.func50 rfl (fun _ _ => Tryz.call50 _ _) (by simp) (fun HO => ?_)
          refine aw_reg fun K hK => ?_; simp (maxSteps := 1000000) (disch := omega) [-List.getD_eq_getElem?_getD]; refine hK _ ?_; clear hK K
          refine aw_then fun K1 hK1 => ?_
          refine aw_reg fun K hK => ?_; simp (maxSteps := 1000000) (disch := omega) [-List.getD_eq_getElem?_getD]; refine hK _ ?_; clear hK K
          refine aw_block ?_
          refine aw_reg fun K hK => ?_; simp (maxSteps := 1000000) (disch := omega) [-List.getD_eq_getElem?_getD]; refine hK _ ?_; clear hK K
          refine aw_if rfl (fun h => absurd h (by simp)) (fun h => ?_)
          refine aw_reg fun K hK => ?_; simp (maxSteps := 1000000) (disch := omega) [-List.getD_eq_getElem?_getD]; refine hK _ ?_; clear hK K
          refine aw_if rfl (fun h => ?_) (fun h => absurd h (by simp))
          refine aw_reg fun K hK => ?_; simp (maxSteps := 1000000) (disch := omega) [-List.getD_eq_getElem?_getD, g2]; refine hK _ ?_; clear hK K
          refine aw_ret ?_; simp (maxSteps := 1000000) (disch := omega) [-List.getD_eq_getElem?_getD]
      · have b1 : (cls == []) = false := beq_eq_false_iff_ne.2 g1
        have b1n : (cls != []) = true := bne_iff_ne.2 g1
        obtain rfl : F = false := by rw [← hF]; simp [schF, g1]
        refine acall_enter 39 [] Tryz.ntmps50 Tryz.func50 rfl (fun _ _ => Tryz.call50 _ _) (by simp) (fun HO => ?_)
        refine aw_reg fun K hK => ?_; simp (maxSteps := 1000000) (disch := omega) [-List.getD_eq_getElem?_getD]; refine hK _ ?_; clear hK K
        refine aw_then fun K1 hK1 => ?_
        refine aw_reg fun K hK => ?_; simp (maxSteps := 1000000) (disch := omega) [-List.getD_eq_getElem?_getD]; refine hK _ ?_; clear hK K
        refine aw_block ?_
        refine aw_reg fun K hK => ?_; simp (maxSteps := 1000000) (disch := omega) [-List.getD_eq_getElem?_getD]; refine hK _ ?_; clear hK K
        refine aw_if rfl (fun h => absurd h (by simp)) (fun h => ?_)
        refine aw_reg fun K hK => ?_; simp (maxSteps := 1000000) (disch := omega) [-List.getD_eq_getElem?_getD]; refine hK _ ?_; clear hK K
        refine aw_if rfl (fun h => ?_) (fun h => absurd h (by simp))
        refine aw_reg fun K hK => ?_; simp (maxSteps := 1000000) (disch := omega) [-List.getD_eq_getElem?_getD, b1]; refine hK _ ?_; clear hK K
        refine aw_ret ?_; simp (maxSteps := 1000000) (disch := omega) [-List.getD_eq_getElem?_getD]
    · have b1 : (sch == 1) = false := beq_eq_false_iff_ne.2 hs1
      have b2 : (sch == 2) = false := beq_eq_false_iff_ne.2 hs2
      obtain rfl : F = false := by rw [← hF]; simp [schF, hs1, hs2]
      refine acall_enter 39 [] Tryz.ntmps50 Tryz.func50 rfl (fun _ _ => Tryz.call50 _ _) (by simp) (fun HO => ?_)
      refine aw_reg fun K hK => ?_; simp (maxSteps := 1000000) (disch := omega) [-List.getD_eq_getElem?_getD]; refine hK _ ?_; clear hK K
      refine aw_then fun K1 hK1 => ?_
      refine aw_reg fun K hK => ?_; simp (maxSteps := 1000000) (disch := omega) [-List.getD_eq_getElem?_getD]; refine hK _ ?_; clear hK K
      refine aw_block ?_
      refine aw_reg fun K hK => ?_; simp (maxSteps := 1000000) (disch := omega) [-List.getD_eq_getElem?_getD, b1]; refine hK _ ?_; clear hK K
      refine aw_if rfl (fun h => absurd h (by simp)) (fun h => ?_)
      refine aw_reg fun K hK => ?_; simp (maxSteps := 1000000) (disch := omega) [-List.getD_eq_getElem?_getD, b2]; refine hK _ ?_; clear hK K
      refine aw_if rfl (fun h => absurd h (by simp)) (fun h => ?_)
      refine aw_skip ?_; simp (maxSteps := 1000000) (disch := omega) [-List.getD_eq_getElem?_getD]
      refine hK1 _ ?_; clear hK1
      refine aw_reg fun K hK => ?_; simp (maxSteps := 1000000) (disch := omega) [-List.getD_eq_getElem?_getD]; refine hK _ ?_; clear hK K
      refine aw_ret ?_; simp (maxSteps := 1000000) (disch := omega) [-List.getD_eq_getElem?_getD]

set_option maxRecDepth 100000 in
set_option maxHeartbeats 8000000 in
theorem validP_ok (c : Cl) (tg : Tag) (hc : Sm c) (H : List Blk) (T : Toks) :
    ACall Tryz.prog 21 [.agg (clAV c tg)] H T (Is (.bool (validF c)) H T) := by
  refine callCl1 tg ?_
  refine ACall.drop' ?_ (by simp)
  have hc1 := hc.cls
  have hc2 := hc.cut
  have hc3 := hc.each
  have hc4 := hc.dec
  have hc5 := hc.rest
  have cs := schP_ok c .none hc (H ++ [.cells (clAV c .none)]) T
  have cd := fracP_ok c.dec 8 (by omega) (by omega) (H ++ [.cells (clAV c .none)]) T
  rw [show ((8 : Nat) : Int) = 8 from rfl] at cd
  have c1 := smaP_ok (c.rest.getD 0 0) (H ++ [.cells (clAV c .none)]) T
  have c2 := made_ok 48 isR rstP_ok c.rest (by omega) (H ++ [.cells (clAV c .none)]) T
  have hcap := fun x : UInt8 => capP_ok x (H ++ [.cells (clAV c .none)]) T
  have hfr := fun (x : List UInt8) (hx : x.length ≤ 1000000) => fracP_ok x 6 hx (by omega) (H ++ [.cells (clAV c .none)]) T
  rw [show ((6 : Nat) : Int) = 6 from rfl] at hfr
  generalize hF : validF c = F
  have hlen := strs_len c.cut
  have hat := fun i h => strs_at (l := c.cut) (i := i) h
  have hn := fun i h hp => allL_not (p := cutF) (l := c.cut) (i := i) h hp
  have hy := fun i h h1 hp => allL_take (p := cutF) (l := c.cut) (i := i) h h1 hp
  have hsm := fun i h => hc3 _ (memL (l := c.cut) (i := i) h)
  have hb : ∀ n t, BelowAll n t (strs c.cut) := fun n t => by simp
  clear hc hc3
  unfold validF at hF
  generalize schF c = sv at *
  obtain ⟨sch, cls, num, dec, cut, yr, rest⟩ := c
  simp only [clAV] at *
  generalize strs cut = S at *
  generalize fracF dec 8 = dv at *
  refine acall_enter 10 [] Tryz.ntmps21 Tryz.func21 rfl (fun _ _ => Tryz.call21 _ _) (by simp) (fun HO => ?_)
  have HO1 : HOk (H ++ [.cells [.int .i64 sch, .str cls, .int .i64 num, .str dec, .sl cut.length S .none, .int .i64 yr, .str rest]]) T := HO.snoc (by simp [hb])
  refine aw_reg fun K hK => ?_; simp (maxSteps := 1000000) (disch := omega) [-List.getD_eq_getElem?_getD]; refine hK _ ?_; clear hK K
  refine aw_then fun K1 hK1 => ?_
  refine aw_reg fun K hK => ?_; simp (maxSteps := 1000000) (disch := omega) [-List.getD_eq_getElem?_getD]; refine hK _ ?_; clear hK K
  refine aw_block ?_
  refine aw_loop (X := Nat) (fun i => ⟨[(1, .ptr H.length 0), (7, .sl cut.length S .none), (8, .int .i64 (cut.length : Nat)), (9, .int .i64 (i : Nat))], H ++ [.cells [.int .i64 sch, .str cls, .int .i64 num, .str dec, .sl cut.length S .none, .int .i64 yr, .str rest]], T⟩) (fun i => i ≤ cut.length ∧ (cut.take i).all cutF = true) (fun i => cut.length - i) 0 ?_ ?_ ?_
  · exact ⟨Nat.zero_le _, rfl⟩
  · refine weak_to [] [] ?_ ?_ ?_ ?_ HO1 ?_
    all_goals simp [hb]
  · rintro i ⟨h1, h2⟩
    refine aw_reg fun K hK => ?_; simp (maxSteps := 1000000) (disch := omega) [-List.getD_eq_getElem?_getD]; refine hK _ ?_; clear hK K
    refine aw_then fun K2 hK2 => ?_
    refine aw_if rfl (fun hk => ?_) (fun hk => ?_)
    · simp [-List.getD_eq_getElem?_getD] at hk
      have ha := hat i hk
      have hn := hn i hk
      have hy := hy i hk h2
      have hiS : i < S.length := by omega
      have hxl := hsm i hk
      clear hsm hat c1 c2 cs cd
      refine aw_skip ?_; simp (maxSteps := 1000000) (disch := omega) [-List.getD_eq_getElem?_getD]
      refine hK2 _ ?_; clear hK2
      refine aw_then fun K3 hK3 => ?_
      refine aw_block ?_
      refine aw_reg fun K hK => ?_; simp (maxSteps := 1000000) (disch := omega) [-List.getD_eq_getElem?_getD, ha, hlen]; refine hK _ ?_; clear hK K
      generalize cut.getD i [] = x at *
      have c1 := hcap (x.getD 0 0)
      have c2 := hfr (x.drop 1) (by rw [List.length_drop]; omega)
      have hdr : (x.drop 1).take (x.length - 1) = x.drop 1 := List.take_of_length_le (by rw [List.length_drop]; omega)
      clear hcap hfr
      generalize hgd : x.drop 1 = d at *
      generalize hgc : x.getD 0 0 = ch at *
      by_cases g1 : 2 ≤ x.length
      · have b1 : decide ((2 : Int) ≤ ((x.length : Nat) : Int)) = true := decide_eq_true (by omega)
        have b1' : decide (((x.length : Nat) : Int) < (2 : Int)) = false := decide_eq_false (by omega)
        have b1c : decide (((x.length : Nat) : Int) ≥ (2 : Int)) = true := decide_eq_true (by omega)
        have b1d : decide ((2 : Int) > ((x.length : Nat) : Int)) = false := decide_eq_false (by omega)
        have n1 : ¬ x.length < 2 := by omega
        cases g2 : isC ch with
        | false =>
          rw [g2] at c1
          have h0 : 0 < x.length := by omega
          have h1' : 1 ≤ x.length := by omega
          have hn := hn (by unfold cutF; rw [hgc, hgd]; simp [g1, g2])
          obtain rfl : F = false := by rw [← hF, hn]; simp
          refine aw_reg fun K hK => ?_; simp (maxSteps := 1000000) (disch := omega) [-List.getD_eq_getElem?_getD, b1', h0, hgc]
          refine acall_is (c1) ?_; simp (maxSteps := 1000000) (disch := omega) [-List.getD_eq_getElem?_getD]
          refine hK _ ?_; clear hK K
          refine aw_if rfl (fun h => ?_) (fun h => absurd h (by simp))
          refine aw_reg fun K hK => ?_; simp (maxSteps := 1000000) (disch := omega) [-List.getD_eq_getElem?_getD]; refine hK _ ?_; clear hK K
          refine aw_ret ?_; simp (maxSteps := 1000000) (disch := omega) [-List.getD_eq_getElem?_getD]
        | true =>
          rw [g2] at c1
          cases g3 : fracF d 6 with
          | false =>
            rw [g3] at c2
            have h0 : 0 < x.length := by omega
            have h1' : 1 ≤ x.length := by omega
            have hn := hn (by unfold cutF; rw [hgc, hgd]; simp [g1, g2, g3])
            obtain rfl : F = false := by rw [← hF, hn]; simp
            refine aw_reg fun K hK => ?_; simp (maxSteps := 1000000) (disch := omega) [-List.getD_eq_getElem?_getD, b1', h0, hgc]
            refine acall_is (c1) ?_; simp (maxSteps := 1000000) (disch := omega) [-List.getD_eq_getElem?_getD, h1', hgd, hdr]
            refine acall_is (c2) ?_; simp (maxSteps := 1000000) (disch := omega) [-List.getD_eq_getElem?_getD]
            refine hK _ ?_; clear hK K
            refine aw_if rfl (fun h => ?_) (fun h => absurd h (by simp))
            refine aw_reg fun K hK => ?_; simp (maxSteps := 1000000) (disch := omega) [-List.getD_eq_getElem?_getD]; refine hK _ ?_; clear hK K
            refine aw_ret ?_; simp (maxSteps := 1000000) (disch := omega) [-List.getD_eq_getElem?_getD]
          | true =>
            rw [g3] at c2
            have h0 : 0 < x.length := by omega
            have h1' : 1 ≤ x.length := by omega
            have hy := hy (by unfold cutF; rw [hgc, hgd]; simp [g1, g2, g3])
            refine aw_reg fun K hK => ?_; simp (maxSteps := 1000000) (disch := omega) [-List.getD_eq_getElem?_getD, b1', h0, hgc]
            refine acall_is (c1) ?_; simp (maxSteps := 1000000) (disch := omega) [-List.getD_eq_getElem?_getD, h1', hgd, hdr]
            refine acall_is (c2) ?_; simp (maxSteps := 1000000) (disch := omega) [-List.getD_eq_getElem?_getD]
            refine hK _ ?_; clear hK K
            refine aw_if rfl (fun h => absurd h (by simp)) (fun h => ?_)
            refine aw_skip ?_; simp (maxSteps := 1000000) (disch := omega) [-List.getD_eq_getElem?_getD]
            refine hK3 _ ?_; clear hK3
            refine aw_reg0 fun K hK => ?_; simp (maxSteps := 1000000) (disch := omega) [-List.getD_eq_getElem?_getD]
            refine hK _ ?_; clear hK K
            refine ⟨i + 1, ⟨by show i + 1 ≤ _; omega, hy⟩, by show cut.length - (i + 1) < cut.length - i; omega, ?_⟩
            refine weak_to [] [] ?_ ?_ ?_ ?_ HO1 ?_
            all_goals simp [hb]
      · have b1 : decide ((2 : Int) ≤ ((x.length : Nat) : Int)) = false := decide_eq_false (by omega)
        have b1' : decide (((x.length : Nat) : Int) < (2 : Int)) = true := decide_eq_true (by omega)
        have b1c : decide (((x.length : Nat) : Int) ≥ (2 : Int)) = false := decide_eq_false (by omega)
        have b1d : decide ((2 : Int) > ((x.length : Nat) : Int)) = true := decide_eq_true (by omega)
        have n1 : x.length < 2 := by omega
        have hn := hn (by unfold cutF; rw [hgc, hgd]; simp [g1])
        obtain rfl : F = false := by rw [← hF, hn]; simp
        refine aw_reg fun K hK => ?_; simp (maxSteps := 1000000) (disch := omega) [-List.getD_eq_getElem?_getD, b1']; refine hK _ ?_; clear hK K
        refine aw_if rfl (fun h => ?_) (fun h => absurd h (by simp))
        refine aw_reg fun K hK => ?_; simp (maxSteps := 1000000) (disch := omega) [-List.getD_eq_getElem?_getD]; refine hK _ ?_; clear hK K
        refine aw_ret ?_; simp (maxSteps := 1000000) (disch := omega) [-List.getD_eq_getElem?_getD]
    · simp [-List.getD_eq_getElem?_getD] at hk
      have e : i = cut.length := by omega
      subst e
      rw [List.take_length] at h2
      rw [h2, Bool.true_and] at hF
      clear hat hn hy hsm hcap hfr
      refine aw_exit ?_; simp (maxSteps := 1000000) (disch := omega) [-List.getD_eq_getElem?_getD]
      refine hK1 _ ?_; clear hK1
      refine aw_reg fun K hK => ?_
      have fin : ∀ e (rv : Bool), restF rest = rv → envLe (H.length + 1) T.length e [(1, .ptr H.length 0), (5, .bool rv)] → K ⟨e, H ++ [.cells [.int .i64 sch, .str cls, .int .i64 num, .str dec, .sl cut.length S .none, .int .i64 yr, .str rest]], T⟩ := by
        intro e rv hr he
        refine hK _ (aw_weak ⟨[(1, .ptr H.length 0), (5, .bool rv)], H ++ [.cells [.int .i64 sch, .str cls, .int .i64 num, .str dec, .sl cut.length S .none, .int .i64 yr, .str rest]], T⟩ (weak_to [] [] (by simp) (by simp) (by simp) (by simp) HO1 (by simpa using he)) ?_)
        rw [hr] at hF
        clear hK c1 c2 hr
        cases g1 : sv with
        | false =>
          rw [g1] at cs
          obtain rfl : F = false := by rw [← hF]; simp [yrF, g1]
          refine aw_reg fun K hK => ?_; simp (maxSteps := 1000000) (disch := omega) [-List.getD_eq_getElem?_getD]
          refine acall_is (cs) ?_; simp (maxSteps := 1000000) (disch := omega) [-List.getD_eq_getElem?_getD]
          refine hK _ ?_; clear hK K
          refine aw_ret ?_; simp (maxSteps := 1000000) (disch := omega) [-List.getD_eq_getElem?_getD]
        | true =>
          rw [g1] at cs
          cases g2 : dv with
          | false =>
            rw [g2] at cd
            obtain rfl : F = false := by rw [← hF]; simp [yrF, g1, g2]
            refine aw_reg fun K hK => ?_; simp (maxSteps := 1000000) (disch := omega) [-List.getD_eq_getElem?_getD]
            refine acall_is (cs) ?_; simp (maxSteps := 1000000) (disch := omega) [-List.getD_eq_getElem?_getD]
            refine acall_is (cd) ?_; simp (maxSteps := 1000000) (disch := omega) [-List.getD_eq_getElem?_getD]
            refine hK _ ?_; clear hK K
            refine aw_ret ?_; simp (maxSteps := 1000000) (disch := omega) [-List.getD_eq_getElem?_getD]
          | true =>
            rw [g2] at cd
            cases g3 : rv with
            | false =>
              obtain rfl : F = false := by rw [← hF]; simp [yrF, g1, g2, g3]
              refine aw_reg fun K hK => ?_; simp (maxSteps := 1000000) (disch := omega) [-List.getD_eq_getElem?_getD]
              refine acall_is (cs) ?_; simp (maxSteps := 1000000) (disch := omega) [-List.getD_eq_getElem?_getD]
              refine acall_is (cd) ?_; simp (maxSteps := 1000000) (disch := omega) [-List.getD_eq_getElem?_getD]
              refine hK _ ?_; clear hK K
              refine aw_ret ?_; simp (maxSteps := 1000000) (disch := omega) [-List.getD_eq_getElem?_getD]
            | true =>
              by_cases g4 : yr = 0
              · subst g4
                obtain rfl : F = true := by rw [← hF]; simp [yrF, g1, g2, g3]
                refine aw_reg fun K hK => ?_; simp (maxSteps := 1000000) (disch := omega) [-List.getD_eq_getElem?_getD]
                refine acall_is (cs) ?_; simp (maxSteps := 1000000) (disch := omega) [-List.getD_eq_getElem?_getD]
                refine acall_is (cd) ?_; simp (maxSteps := 1000000) (disch := omega) [-List.getD_eq_getElem?_getD]
                refine hK _ ?_; clear hK K
                refine aw_ret ?_; simp (maxSteps := 1000000) (disch := omega) [-List.getD_eq_getElem?_getD]
              · have b4 : (yr == 0) = false := beq_eq_false_iff_ne.2 g4
                have b4n : (yr != 0) = true := bne_iff_ne.2 g4
                by_cases g5 : 1000 ≤ yr
                · have b5 : decide ((1000 : Int) ≤ (yr : Int)) = true := decide_eq_true (by omega)
                  have b5' : decide ((yr : Int) < (1000 : Int)) = false := decide_eq_false (by omega)
                  have b5c : decide ((yr : Int) ≥ (1000 : Int)) = true := decide_eq_true (by omega)
                  have b5d : decide ((1000 : Int) > (yr : Int)) = false := decide_eq_false (by omega)
                  have n5 : ¬ yr < 1000 := by omega
                  by_cases g6 : yr ≤ 2999
                  · have b6 : decide ((yr : Int) ≤ (2999 : Int)) = true := decide_eq_true (by omega)
                    have b6' : decide ((2999 : Int) < (yr : Int)) = false := decide_eq_false (by omega)
                    have b6c : decide ((2999 : Int) ≥ (yr : Int)) = true := decide_eq_true (by omega)
                    have b6d : decide ((yr : Int) > (2999 : Int)) = false := decide_eq_false (by omega)
                    have n6 : ¬ 2999 < yr := by omega
                    obtain rfl : F = true := by rw [← hF]; simp [yrF, g1, g2, g3, g4, g5, g6]
                    refine aw_reg fun K hK => ?_; simp (maxSteps := 1000000) (disch := omega) [-List.getD_eq_getElem?_getD]
                    refine acall_is (cs) ?_; simp (maxSteps := 1000000) (disch := omega) [-List.getD_eq_getElem?_getD]
                    refine acall_is (cd) ?_; simp (maxSteps := 1000000) (disch := omega) [-List.getD_eq_getElem?_getD, b4, g5, g6]
                    refine hK _ ?_; clear hK K
                    refine aw_ret ?_; simp (maxSteps := 1000000) (disch := omega) [-List.getD_eq_getElem?_getD]
                  · have b6 : decide ((yr : Int) ≤ (2999 : Int)) = false := decide_eq_false (by omega)
                    have b6' : decide ((2999 : Int) < (yr : Int)) = true := decide_eq_true (by omega)
                    have b6c : decide ((2999 : Int) ≥ (yr : Int)) = false := decide_eq_false (by omega)
                    have b6d : decide ((yr : Int) > (2999 : Int)) = true := decide_eq_true (by omega)
                    have n6 : 2999 < yr := by omega
                    obtain rfl : F = false := by rw [← hF]; simp [yrF, g1, g2, g3, g4, g5, g6]
                    refine aw_reg fun K hK => ?_; simp (maxSteps := 1000000) (disch := omega) [-List.getD_eq_getElem?_getD]
                    refine acall_is (cs) ?_; simp (maxSteps := 1000000) (disch := omega) [-List.getD_eq_getElem?_getD]
                    refine acall_is (cd) ?_; simp (maxSteps := 1000000) (disch := omega) [-List.getD_eq_getElem?_getD, b4, g5, g6]
                    refine hK _ ?_; clear hK K
                    refine aw_ret ?_; simp (maxSteps := 1000000) (disch := omega) [-List.getD_eq_getElem?_getD]
                · have b5 : decide ((1000 : Int) ≤ (yr : Int)) = false := decide_eq_false (by omega)
                  have b5' : decide ((yr : Int) < (1000 : Int)) = true := decide_eq_true (by omega)
                  have b5c : decide ((yr : Int) ≥ (1000 : Int)) = false := decide_eq_false (by omega)
                  have b5d : decide ((1000 : Int) > (yr : Int)) = true := decide_eq_true (by omega)
                  have n5 : yr < 1000 := by omega
                  obtain rfl : F = false := by rw [← hF]; simp [yrF, g1, g2, g3, g4, g5]
                  refine aw_reg fun K hK => ?_; simp (maxSteps := 1000000) (disch := omega) [-List.getD_eq_getElem?_getD]
                  refine acall_is (cs) ?_; simp (maxSteps := 1000000) (disch := omega) [-List.getD_eq_getElem?_getD]
                  refine acall_is (cd) ?_; simp (maxSteps := 1000000) (disch := omega) [-List.getD_eq_getElem?_getD, b4, g5]
                  refine hK _ ?_; clear hK K
                  refine aw_ret ?_; simp (maxSteps := 1000000) (disch := omega) [-List.getD_eq_getElem?_getD]
      clear hK cs cd hF
      generalize hgc : rest.getD 0 0 = ch at *
      by_cases g1 : rest = []
      · subst g1
        have hv : restF [] = true := by unfold restF; simp []
        simp (maxSteps := 1000000) (disch := omega) [-List.getD_eq_getElem?_getD]
        refine fin _ _ hv ?_
        simp
      · have b1 : (rest == []) = false := beq_eq_false_iff_ne.2 g1
        have b1n : (rest != []) = true := bne_iff_ne.2 g1
        by_cases g2 : rest.length ≤ 20
        · have b2 : decide (((rest.length : Nat) : Int) ≤ (20 : Int)) = true := decide_eq_true (by omega)
          have b2' : decide ((20 : Int) < ((rest.length : Nat) : Int)) = false := decide_eq_false (by omega)
          have b2c : decide ((20 : Int) ≥ ((rest.length : Nat) : Int)) = true := decide_eq_true (by omega)
          have b2d : decide (((rest.length : Nat) : Int) > (20 : Int)) = false := decide_eq_false (by omega)
          have n2 : ¬ 20 < rest.length := by omega
          cases g3 : isS ch with
          | false =>
            rw [g3] at c1
            have h0 : 0 < rest.length := List.length_pos_iff.2 g1
            have hv : restF rest = false := by unfold restF; simp [g1, g2, g3, hgc, -List.getD_eq_getElem?_getD]
            simp (maxSteps := 1000000) (disch := omega) [-List.getD_eq_getElem?_getD, b1, b2, h0, hgc]
            refine acall_is (c1) ?_; simp (maxSteps := 1000000) (disch := omega) [-List.getD_eq_getElem?_getD]
            refine fin _ _ hv ?_
            simp
          | true =>
            rw [g3] at c1
            cases g4 : rest.all isR with
            | false =>
              rw [g4] at c2
              have h0 : 0 < rest.length := List.length_pos_iff.2 g1
              have hv : restF rest = false := by unfold restF; simp [g1, g2, g3, g4, hgc, -List.getD_eq_getElem?_getD]
              simp (maxSteps := 1000000) (disch := omega) [-List.getD_eq_getElem?_getD, b1, b2, h0, hgc]
              refine acall_is (c1) ?_; simp (maxSteps := 1000000) (disch := omega) [-List.getD_eq_getElem?_getD]
              refine acall_is (c2) ?_; simp (maxSteps := 1000000) (disch := omega) [-List.getD_eq_getElem?_getD]
              refine fin _ _ hv ?_
              simp
            | true =>
              rw [g4] at c2
              have h0 : 0 < rest.length := List.length_pos_iff.2 g1
              have hv : restF rest = true := by unfold restF; simp [g1, g2, g3, g4, hgc, -List.getD_eq_getElem?_getD]
              simp (maxSteps := 1000000) (disch := omega) [-List.getD_eq_getElem?_getD, b1, b2, h0, hgc]
              refine acall_is (c1) ?_; simp (maxSteps := 1000000) (disch := omega) [-List.getD_eq_getElem?_getD]
              refine acall_is (c2) ?_; simp (maxSteps := 1000000) (disch := omega) [-List.getD_eq_getElem?_getD]
              refine fin _ _ hv ?_
              simp
        · have b2 : decide (((rest.length : Nat) : Int) ≤ (20 : Int)) = false := decide_eq_false (by omega)
          have b2' : decide ((20 : Int) < ((rest.length : Nat) : Int)) = true := decide_eq_true (by omega)
          have b2c : decide ((20 : Int) ≥ ((rest.length : Nat) : Int)) = false := decide_eq_false (by omega)
          have b2d : decide (((rest.length : Nat) : Int) > (20 : Int)) = true := decide_eq_true (by omega)
          have n2 : 20 < rest.length := by omega
          have h0 : 0 < rest.length := List.length_pos_iff.2 g1
          have hv : restF rest = false := by unfold restF; simp [g1, g2, hgc, -List.getD_eq_getElem?_getD]
          simp (maxSteps := 1000000) (disch := omega) [-List.getD_eq_getElem?_getD, b1, b2]
          refine fin _ _ hv ?_
          simp
end Go.Proofs.YtnmlpohhommagaaGreatDoor
