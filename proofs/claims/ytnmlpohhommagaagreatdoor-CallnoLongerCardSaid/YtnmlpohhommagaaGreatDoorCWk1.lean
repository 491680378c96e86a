/- The examples of the document (layer 52).
   Conditions: the library's variables hold values of their types. -/
import Derived.Test.YtnmlpohhommagaaGreatDoorCE
namespace Cn
open Go.Lib Lst
def ex1 : Cl := ⟨1, [81, 65], 76, [55, 51], [[71, 54, 51], [68, 54, 54]], 2016, [118, 46, 50]⟩
def ex2 : Cl := ⟨1, [81, 65], 76, [57], [[65, 49]], 0, []⟩
def ex3 : Cl := ⟨1, [81, 65], 9, [], [[90, 57]], 0, []⟩
def ex4 : Cl := ⟨2, [], 5, [49, 51, 51], [[75, 52, 55]], 0, []⟩
def ex5 : Cl := ⟨2, [], 5, [49], [], 0, []⟩
theorem d1 {v : Nat} (h : v < 10) : decDigits v = [UInt8.ofNat (48 + v)] := by rw [decDigits, dif_pos h]
theorem d2 {v : Nat} (h : ¬ v < 10) : decDigits v = decDigits (v / 10) ++ [UInt8.ofNat (48 + v % 10)] := by rw [decDigits, dif_neg h]
theorem d9 : decDigits 9 = [57] := by rw [d1 (by omega)]; rfl
theorem d76 : decDigits 76 = [55, 54] := by rw [d2 (by omega), d1 (by omega)]; rfl
theorem d2016 : decDigits 2016 = [50, 48, 49, 54] := by rw [d2 (by omega), d2 (by omega), d2 (by omega), d1 (by omega)]; rfl
theorem d1005 : decDigits 1005 = [49, 48, 48, 53] := by rw [d2 (by omega), d2 (by omega), d2 (by omega), d1 (by omega)]; rfl
theorem t1 : textF ex1 = [81, 65, 55, 54, 46, 55, 51, 32, 46, 71, 54, 51, 32, 68, 54, 54, 32, 50, 48, 49, 54, 32, 118, 46, 50] := by
  simp [textF, numF, decT, cutsT, Cn.cutT, yrT, restT, ex1, List.range, List.range.loop, d76, d2016]
theorem t2 : textF ex2 = [81, 65, 55, 54, 46, 57, 32, 46, 65, 49] := by
  simp [textF, numF, decT, cutsT, Cn.cutT, yrT, restT, ex2, List.range, List.range.loop, d76]
theorem t3 : textF ex3 = [81, 65, 57, 32, 46, 90, 57] := by
  simp [textF, numF, decT, cutsT, Cn.cutT, yrT, restT, ex3, List.range, List.range.loop, d9]
theorem t4 : textF ex4 = [48, 48, 53, 46, 49, 51, 51, 32, 75, 52, 55] := by
  simp [textF, numF, decT, cutsT, Cn.cutT, yrT, restT, ex4, List.range, List.range.loop, d1005]
theorem t5 : textF ex5 = [48, 48, 53, 46, 49] := by
  simp [textF, numF, decT, cutsT, Cn.cutT, yrT, restT, ex5, List.range, List.range.loop, d1005]
end Cn
namespace Go.Proofs.YtnmlpohhommagaaGreatDoor
open Go Go.Am Cn Lst
set_option linter.unusedVariables false
set_option maxRecDepth 100000

set_option maxRecDepth 100000 in
set_option maxHeartbeats 4000000 in
theorem lawParse_ok (s : List UInt8) (hs : s.length ≤ 900) (H : List Blk) (T : Toks) (hb : Lb H) :
    ACall Tryz.prog 32 [.str s] H T (Is (.agg (clAV (parseF s).1 .none)) H T) := by
  refine ACall.dropA ?_ (by simp [clAV])
  have c := fun G T => parseP_ok s hs (H ++ G) T (hb.app G)
  have hbS : ∀ n t, BelowAll n t (strs (parseF s).1.cut) := fun n t => by simp
  generalize parseF s = p at *
  obtain ⟨⟨sch, cls, num, dec, cut, yr, rest⟩, e⟩ := p
  simp only [clAV] at *
  generalize strs cut = S at *
  refine acall_enter 5 [] Tryz.ntmps32 Tryz.func32 rfl (fun _ _ => Tryz.call32 _ _) (by simp) (fun HO => ?_)
  refine aw_reg fun K hK => ?_; simp (maxSteps := 1000000) (disch := omega) [-List.getD_eq_getElem?_getD]; refine hK _ ?_; clear hK K
  refine aw_reg fun K hK => ?_; simp (maxSteps := 1000000) (disch := omega) [-List.getD_eq_getElem?_getD]
  refine acall_is (c _ _) ?_; simp (maxSteps := 1000000) (disch := omega) [-List.getD_eq_getElem?_getD]
  refine hK _ ?_; clear hK K
  refine aw_reg fun K hK => ?_; simp (maxSteps := 1000000) (disch := omega) [-List.getD_eq_getElem?_getD]; refine hK _ ?_; clear hK K
  refine aw_ret ?_; simp (maxSteps := 1000000) (disch := omega) [-List.getD_eq_getElem?_getD]
  simp [untagA, untag]

set_option maxRecDepth 100000 in
set_option maxHeartbeats 8000000 in
theorem awake_ok (H : List Blk) (T : Toks) (hb : Lb H) : ACall Tryz.prog 10 [] H T (Is (.bool true) H T) := by
  refine ACall.drop' ?_ (by simp)
  have p1 := fun T => lawParse_ok (textF ex1) (by rw [t1]; decide) H T hb
  have p2 := fun T => lawParse_ok (textF ex2) (by rw [t2]; decide) H T hb
  have p3 := fun T => lawParse_ok (textF ex3) (by rw [t3]; decide) H T hb
  have p4 := fun G T => lawParse_ok (textF ex4) (by rw [t4]; decide) (H ++ G) T (hb.app G)
  have p5 := fun G T => lawParse_ok (textF ex5) (by rw [t5]; decide) (H ++ G) T (hb.app G)
  have v1 : validF ex1 = true := by decide
  have v2 : validF ex2 = true := by decide
  have v3 : validF ex3 = true := by decide
  have v4 : validF ex4 = true := by decide
  have v5 : validF ex5 = true := by decide
  rw [parseF_text v1, t1] at p1
  rw [parseF_text v2, t2] at p2
  rw [parseF_text v3, t3] at p3
  rw [parseF_text v4, t4] at p4
  rw [parseF_text v5, t5] at p5
  have q1 := fun G T => compareV_ok ex1 ex2 .none .none (valid_sm v1) (valid_sm v2) (H ++ G) T
  have q2 := fun G T => compareV_ok ex3 ex1 .none .none (valid_sm v3) (valid_sm v1) (H ++ G) T
  have q3 := fun G T => withinP_ok ex4 ex5 .none .none (valid_sm v4) (valid_sm v5) (H ++ G) T
  have q4 := fun G T => validP_ok ex1 .none (valid_sm v1) (H ++ G) T
  have q5 := fun G T => keyP_ok ex3 .none (valid_sm v3) (H ++ G) T
  rw [show compV ex1 ex2 = -1 by decide] at q1
  rw [show compV ex3 ex1 = -1 by decide] at q2
  rw [show withinF ex4 ex5 = true by decide] at q3
  rw [v1] at q4
  rw [show (keyF ex3).length = 14 by decide] at q5
  generalize keyF ex3 = K at *
  simp only [clAV, ex1, ex2, ex3, ex4, ex5, strs, List.map_cons, List.map_nil, List.length_cons, List.length_nil, Nat.zero_add, Nat.reduceAdd] at p1 p2 p3 p4 p5 q1 q2 q3 q4 q5
  refine acall_enter 4 [] Tryz.ntmps10 Tryz.func10 rfl (fun _ _ => Tryz.call10 _ _) (by simp) (fun HO => ?_)
  refine aw_reg fun K hK => ?_; simp (maxSteps := 1000000) (disch := omega) [-List.getD_eq_getElem?_getD]; refine hK _ ?_; clear hK K
  refine aw_reg fun K hK => ?_; simp (maxSteps := 1000000) (disch := omega) [-List.getD_eq_getElem?_getD]
  refine acall_is (p1 _) ?_; simp (maxSteps := 1000000) (disch := omega) [-List.getD_eq_getElem?_getD]
  refine acall_is (p2 _) ?_; simp (maxSteps := 1000000) (disch := omega) [-List.getD_eq_getElem?_getD]
  refine acall_is (p3 _) ?_; simp (maxSteps := 1000000) (disch := omega) [-List.getD_eq_getElem?_getD]
  refine hK _ ?_; clear hK K
  refine aw_reg fun K hK => ?_; simp (maxSteps := 1000000) (disch := omega) [-List.getD_eq_getElem?_getD]
  refine acall_is (q1 _ _) ?_; simp (maxSteps := 1000000) (disch := omega) [-List.getD_eq_getElem?_getD]
  refine acall_is (q2 _ _) ?_; simp (maxSteps := 1000000) (disch := omega) [-List.getD_eq_getElem?_getD]
  refine acall_is (p4 _ _) ?_; simp (maxSteps := 1000000) (disch := omega) [-List.getD_eq_getElem?_getD]
  refine acall_is (p5 _ _) ?_; simp (maxSteps := 1000000) (disch := omega) [-List.getD_eq_getElem?_getD]
  refine acall_is (q3 _ _) ?_; simp (maxSteps := 1000000) (disch := omega) [-List.getD_eq_getElem?_getD]
  refine acall_is (q4 _ _) ?_; simp (maxSteps := 1000000) (disch := omega) [-List.getD_eq_getElem?_getD]
  refine acall_is (q5 _ _) ?_; simp (maxSteps := 1000000) (disch := omega) [-List.getD_eq_getElem?_getD]
  refine hK _ ?_; clear hK K
  refine aw_ret ?_; simp (maxSteps := 1000000) (disch := omega) [-List.getD_eq_getElem?_getD]
end Go.Proofs.YtnmlpohhommagaaGreatDoor
