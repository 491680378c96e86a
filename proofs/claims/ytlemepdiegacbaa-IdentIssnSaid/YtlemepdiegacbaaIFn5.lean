/- The examples of layer 14 hold; digits of a number, a changed digit.
   Conditions: none. -/
import Derived.Test.YtlemepdiegacbaaIFn4
namespace Go.Proofs.Ytlemepdiegacbaa
open Go Go.Am Ident
set_option linter.unusedVariables false

def ex1 : List UInt8 := [48, 45, 51, 48, 54, 45, 52, 48, 54, 49, 53, 45, 50, 32, 40, 112, 98, 107, 46, 41]
def ex2 : List UInt8 := [48, 51, 55, 56, 45, 53, 57, 53, 53]
def ex3 : List UInt8 := [48, 56, 48, 52, 52, 50, 57, 53, 55]
def ex4 : List UInt8 := [48, 51, 48, 54, 52, 48, 54, 49, 53, 50]
def ex5 : List UInt8 := [57, 55, 56, 45, 48, 51, 48, 54, 52, 48, 54, 49, 53, 55]
theorem ex1_isbn : isbnR ex1 = ([57, 55, 56, 48, 51, 48, 54, 52, 48, 54, 49, 53, 55], 0) := by decide +kernel
theorem ex2_issn : issnR ex2 = (ex2, 0) := by decide +kernel
theorem ex3_check : check10R ex3 = (88, true) := by decide +kernel
theorem ex45 : alikeR ex4 ex5 = true := by decide +kernel
theorem ex_lang : langB [101, 110, 103] = true := by decide +kernel

set_option maxRecDepth 100000 in
theorem awake_ok (H : List Blk) (T : Toks) : ACall Try.prog 10 [] H T (Is (.bool true) H T) := by
  have c1 : ACall Try.prog 20 [.str ex1] H T (Is (.tup [.str [57, 55, 56, 48, 51, 48, 54, 52, 48, 54, 49, 53, 55], .int .i64 0]) H T) := by
    have := isbn_ok ex1 (by decide) H T
    rw [ex1_isbn] at this
    exact this
  have c2 : ACall Try.prog 11 [.str ex2] H T (Is (.tup [.str ex2, .int .i64 0]) H T) := by
    have := issn_ok ex2 (by decide) H T
    rw [ex2_issn] at this
    exact this
  have c3 : ACall Try.prog 15 [.str ex3] H T (Is (.tup [.int .u8 88, .bool true]) H T) := by
    have := check10_ok ex3 (by decide) H T
    rw [ex3_check] at this
    exact this
  have c4 : ACall Try.prog 17 [.str ex4, .str ex5] H T (Is (.bool true) H T) := by
    have := alike_ok ex4 ex5 (by decide) (by decide) H T
    rw [ex45] at this
    exact this
  have c5 : ACall Try.prog 25 [.str [101, 110, 103]] H T (Is (.bool true) H T) := by
    have := language_ok [101, 110, 103] (by decide) H T
    rw [ex_lang] at this
    exact this
  have u2 : ex2 = [48, 51, 55, 56, 45, 53, 57, 53, 53] := rfl
  refine acall_enter 19 [] Try.ntmps10 Try.func10 rfl (fun _ _ => Try.call10 _ _) (by simp) (fun HO => ?_)
  refine aw_reg fun K hK => ?_; simp (maxSteps := 1000000) (disch := omega) [-List.getD_eq_getElem?_getD]; refine hK _ ?_; clear hK K
  refine aw_reg fun K hK => ?_; simp (maxSteps := 1000000) (disch := omega) [-List.getD_eq_getElem?_getD]
  refine acall_is (c1) ?_; simp (maxSteps := 1000000) (disch := omega) [-List.getD_eq_getElem?_getD]
  refine hK _ ?_; clear hK K
  refine aw_reg fun K hK => ?_; simp (maxSteps := 1000000) (disch := omega) [-List.getD_eq_getElem?_getD]
  refine acall_is (c2) ?_; simp (maxSteps := 1000000) (disch := omega) [-List.getD_eq_getElem?_getD, u2]
  refine hK _ ?_; clear hK K
  refine aw_reg fun K hK => ?_; simp (maxSteps := 1000000) (disch := omega) [-List.getD_eq_getElem?_getD]
  refine acall_is (c3) ?_; simp (maxSteps := 1000000) (disch := omega) [-List.getD_eq_getElem?_getD]
  refine hK _ ?_; clear hK K
  refine aw_reg fun K hK => ?_; simp (maxSteps := 1000000) (disch := omega) [-List.getD_eq_getElem?_getD]
  refine acall_is (c4) ?_; simp (maxSteps := 1000000) (disch := omega) [-List.getD_eq_getElem?_getD]
  refine acall_is (c5) ?_; simp (maxSteps := 1000000) (disch := omega) [-List.getD_eq_getElem?_getD]
  refine hK _ ?_; clear hK K
  refine aw_ret ?_; simp (maxSteps := 1000000) (disch := omega) [-List.getD_eq_getElem?_getD]
  exact ⟨rfl, rfl, rfl⟩
end Go.Proofs.Ytlemepdiegacbaa
