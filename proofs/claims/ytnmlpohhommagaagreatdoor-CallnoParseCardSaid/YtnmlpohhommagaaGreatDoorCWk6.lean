/- Parsing call numbers (layer 52): the walk of the law.
   Conditions: the library's variables hold values of their types. -/
import Derived.Test.YtnmlpohhommagaaGreatDoorCPr3
import Derived.Test.YtnmlpohhommagaaGreatDoorCFn14
namespace Cn
open Go.Lib Lst
theorem parse_sm {s : List UInt8} (h : s.length ≤ 900) : Sm (parseF s).1 := by
  unfold parseF
  split
  · exact candP_sm h
  · exact ⟨by simp, by simp, by simp, by simp, by simp⟩
theorem parse_ok_text {s : List UInt8} (h : (parseF s).2 = 0) : validF (parseF s).1 = true ∧ textF (parseF s).1 = s := by
  unfold parseF at *
  split
  · rename_i hc; exact hc
  · rename_i hc; rw [if_neg hc] at h; exact absurd h (by decide)
end Cn
namespace Go.Proofs.YtnmlpohhommagaaGreatDoor
open Go Go.Am Cn Lst
set_option linter.unusedVariables false

set_option maxRecDepth 100000 in
set_option maxHeartbeats 8000000 in
/-- CallnoParse. -/
theorem parse_law (s : List UInt8) (hs : s.length ≤ Go.maxLen) (H : List Blk) (hL : Lb H) :
    ACall Tryz.prog 7 [.str s] H [] (fun r H' _ => r = .bool true ∧ ∃ G, H' = H ++ G) := by
  have c0 := fun G => awake_ok (H ++ G) [] (hL.app G)
  by_cases hl : s.length ≤ 80
  rotate_left
  · have b1 : decide ((s.length : Int) > 80) = true := decide_eq_true (by omega)
    have b1' : decide ((80 : Int) < (s.length : Nat)) = true := decide_eq_true (by omega)
    have b2 : 80 < s.length := by omega
    refine acall_enter 9 [] Tryz.ntmps7 Tryz.func7 rfl (fun _ _ => Tryz.call7 _ _) (by simp) (fun HO => ?_)
    refine aw_reg fun K hK => ?_; simp (maxSteps := 1000000) (disch := omega) [-List.getD_eq_getElem?_getD]; refine hK _ ?_; clear hK K
    refine aw_then fun K1 hK1 => ?_
    refine aw_reg fun K hK => ?_; simp (maxSteps := 1000000) (disch := omega) [-List.getD_eq_getElem?_getD]
    refine acall_is ((by simpa using c0 [])) ?_; simp (maxSteps := 1000000) (disch := omega) [-List.getD_eq_getElem?_getD]
    refine hK _ ?_; clear hK K
    refine aw_if rfl (fun h => absurd h (by simp)) (fun h => ?_)
    refine aw_skip ?_; simp (maxSteps := 1000000) (disch := omega) [-List.getD_eq_getElem?_getD]
    refine hK1 _ ?_; clear hK1
    refine aw_then fun K1 hK1 => ?_
    refine aw_reg fun K hK => ?_; simp (maxSteps := 1000000) (disch := omega) [-List.getD_eq_getElem?_getD, b1]; refine hK _ ?_; clear hK K
    refine aw_if rfl (fun h => ?_) (fun h => absurd h (by simp [b2]))
    refine aw_reg fun K hK => ?_; simp (maxSteps := 1000000) (disch := omega) [-List.getD_eq_getElem?_getD]; refine hK _ ?_; clear hK K
    refine aw_ret ?_; simp (maxSteps := 1000000) (disch := omega) [-List.getD_eq_getElem?_getD]
  · have b1 : decide ((s.length : Int) > 80) = false := decide_eq_false (by omega)
    have b1' : decide ((80 : Int) < (s.length : Nat)) = false := decide_eq_false (by omega)
    have b2 : ¬ 80 < s.length := by omega
    have p1 := fun G => parseP_ok s (by omega) (H ++ G) [] (hL.app G)
    have p2 := fun G => parseR_ok s (by omega) (H ++ G) []
    have hsm := parse_sm (s := s) (by omega)
    have hok := parse_ok_text (s := s)
    generalize parseF s = p at *
    obtain ⟨d, g⟩ := p
    simp only at p1 p2 hsm hok
    have q1 := fun G => printP_ok d .none hsm (H ++ G) [] (hL.app G)
    have q2 := fun G => equalR_ok d d .none .none hsm hsm (H ++ G) []
    have q3 := fun G => validP_ok d .none hsm (H ++ G) []
    rw [decide_eq_true (rfl : d = d)] at q2
    unfold printF at q1
    have hbS : ∀ n t, BelowAll n t (strs d.cut) := fun n t => by simp
    have hres : g = 0 → validF d = true ∧ textF d = s := fun h => hok h
    generalize validF d = v at *
    generalize textF d = tx at *
    by_cases hg : g = 0
    · obtain ⟨h1, h2⟩ := hres hg
      subst hg
      subst h1
      subst h2
      simp only [if_true] at q1
      clear hres hok
      obtain ⟨d1, d2, d3, d4, d5, d6, d7⟩ := d
      simp only [clAV] at *
      generalize strs d5 = D at *
      refine acall_enter 9 [] Tryz.ntmps7 Tryz.func7 rfl (fun _ _ => Tryz.call7 _ _) (by simp) (fun HO => ?_)
      refine aw_reg fun K hK => ?_; simp (maxSteps := 1000000) (disch := omega) [-List.getD_eq_getElem?_getD]; refine hK _ ?_; clear hK K
      refine aw_then fun K1 hK1 => ?_
      refine aw_reg fun K hK => ?_; simp (maxSteps := 1000000) (disch := omega) [-List.getD_eq_getElem?_getD]
      refine acall_is ((by simpa using c0 [])) ?_; simp (maxSteps := 1000000) (disch := omega) [-List.getD_eq_getElem?_getD]
      refine hK _ ?_; clear hK K
      refine aw_if rfl (fun h => absurd h (by simp)) (fun h => ?_)
      refine aw_skip ?_; simp (maxSteps := 1000000) (disch := omega) [-List.getD_eq_getElem?_getD]
      refine hK1 _ ?_; clear hK1
      refine aw_then fun K1 hK1 => ?_
      refine aw_reg fun K hK => ?_; simp (maxSteps := 1000000) (disch := omega) [-List.getD_eq_getElem?_getD, b1]; refine hK _ ?_; clear hK K
      refine aw_if rfl (fun h => absurd h (by simp [b2])) (fun h => ?_)
      refine aw_skip ?_; simp (maxSteps := 1000000) (disch := omega) [-List.getD_eq_getElem?_getD]
      refine hK1 _ ?_; clear hK1
      refine aw_reg fun K hK => ?_; simp (maxSteps := 1000000) (disch := omega) [-List.getD_eq_getElem?_getD]
      refine acall_is ((by simpa using p1 [])) ?_; simp (maxSteps := 1000000) (disch := omega) [-List.getD_eq_getElem?_getD]
      refine hK _ ?_; clear hK K
      refine aw_reg fun K hK => ?_; simp (maxSteps := 1000000) (disch := omega) [-List.getD_eq_getElem?_getD]
      refine acall_is (p2 _) ?_; simp (maxSteps := 1000000) (disch := omega) [-List.getD_eq_getElem?_getD]
      refine hK _ ?_; clear hK K
      refine aw_reg fun K hK => ?_; simp (maxSteps := 1000000) (disch := omega) [-List.getD_eq_getElem?_getD]
      refine acall_is (q1 _) ?_; simp (maxSteps := 1000000) (disch := omega) [-List.getD_eq_getElem?_getD]
      refine hK _ ?_; clear hK K
      refine aw_reg fun K hK => ?_; simp (maxSteps := 1000000) (disch := omega) [-List.getD_eq_getElem?_getD]
      refine acall_is (q2 _) ?_; simp (maxSteps := 1000000) (disch := omega) [-List.getD_eq_getElem?_getD]
      refine acall_is (q3 _) ?_; simp (maxSteps := 1000000) (disch := omega) [-List.getD_eq_getElem?_getD]
      refine hK _ ?_; clear hK K
      refine aw_ret ?_; simp (maxSteps := 1000000) (disch := omega) [-List.getD_eq_getElem?_getD]
    · have n1 : (g == 0) = false := beq_eq_false_iff_ne.2 hg
      have n2 : (g != 0) = true := bne_iff_ne.2 hg
      clear hres hok
      obtain ⟨pr, hpr⟩ : ∃ pr : List UInt8 × Int, (if v = true then (tx, 0) else ([], 1)) = pr := ⟨_, rfl⟩
      rw [hpr] at q1
      obtain ⟨p3, p4⟩ := pr
      simp only at q1
      obtain ⟨d1, d2, d3, d4, d5, d6, d7⟩ := d
      simp only [clAV] at *
      generalize strs d5 = D at *
      refine acall_enter 9 [] Tryz.ntmps7 Tryz.func7 rfl (fun _ _ => Tryz.call7 _ _) (by simp) (fun HO => ?_)
      refine aw_reg fun K hK => ?_; simp (maxSteps := 1000000) (disch := omega) [-List.getD_eq_getElem?_getD]; refine hK _ ?_; clear hK K
      refine aw_then fun K1 hK1 => ?_
      refine aw_reg fun K hK => ?_; simp (maxSteps := 1000000) (disch := omega) [-List.getD_eq_getElem?_getD]
      refine acall_is ((by simpa using c0 [])) ?_; simp (maxSteps := 1000000) (disch := omega) [-List.getD_eq_getElem?_getD]
      refine hK _ ?_; clear hK K
      refine aw_if rfl (fun h => absurd h (by simp)) (fun h => ?_)
      refine aw_skip ?_; simp (maxSteps := 1000000) (disch := omega) [-List.getD_eq_getElem?_getD]
      refine hK1 _ ?_; clear hK1
      refine aw_then fun K1 hK1 => ?_
      refine aw_reg fun K hK => ?_; simp (maxSteps := 1000000) (disch := omega) [-List.getD_eq_getElem?_getD, b1]; refine hK _ ?_; clear hK K
      refine aw_if rfl (fun h => absurd h (by simp [b2])) (fun h => ?_)
      refine aw_skip ?_; simp (maxSteps := 1000000) (disch := omega) [-List.getD_eq_getElem?_getD]
      refine hK1 _ ?_; clear hK1
      refine aw_reg fun K hK => ?_; simp (maxSteps := 1000000) (disch := omega) [-List.getD_eq_getElem?_getD]
      refine acall_is ((by simpa using p1 [])) ?_; simp (maxSteps := 1000000) (disch := omega) [-List.getD_eq_getElem?_getD]
      refine hK _ ?_; clear hK K
      refine aw_reg fun K hK => ?_; simp (maxSteps := 1000000) (disch := omega) [-List.getD_eq_getElem?_getD]
      refine acall_is (p2 _) ?_; simp (maxSteps := 1000000) (disch := omega) [-List.getD_eq_getElem?_getD]
      refine hK _ ?_; clear hK K
      refine aw_reg fun K hK => ?_; simp (maxSteps := 1000000) (disch := omega) [-List.getD_eq_getElem?_getD]
      refine acall_is (q1 _) ?_; simp (maxSteps := 1000000) (disch := omega) [-List.getD_eq_getElem?_getD]
      refine hK _ ?_; clear hK K
      refine aw_reg fun K hK => ?_; simp (maxSteps := 1000000) (disch := omega) [-List.getD_eq_getElem?_getD]
      refine acall_is (q2 _) ?_; simp (maxSteps := 1000000) (disch := omega) [-List.getD_eq_getElem?_getD, n2]
      refine hK _ ?_; clear hK K
      refine aw_ret ?_; simp (maxSteps := 1000000) (disch := omega) [-List.getD_eq_getElem?_getD]
end Go.Proofs.YtnmlpohhommagaaGreatDoor
