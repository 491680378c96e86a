/- Lines of mappings (layer 26): the program's and the reference's.
   Conditions: permitted mappings; the library's table of powers of ten. -/
import Derived.Test.YtfdlngemkhiiiaaGreatDoorVItoa
import Derived.Test.YtfdlngemkhiiiaaGreatDoorVComp
import Derived.Test.YtfdlngemkhiiiaaGreatDoorVPl4
namespace Voc
def symK (k : Int) : UInt8 := if k = 1 then 61 else if k = 2 then 60 else 62
/-- The line of a mapping. -/
def lineM (x : Mp) : List UInt8 := Go.Lib.decDigits x.1.toNat ++ [32] ++ [symK x.2.2] ++ [32] ++ Go.Lib.decDigits x.2.1.toNat
def printM (l : List Mp) : List UInt8 := l.flatMap fun x => lineM x ++ [10]
def printF (l : List Mp) : List UInt8 × Int := if validM l = true then (printM l, 0) else ([], 1)
theorem printM_take {l : List Mp} {i : Nat} (h : i < l.length) : printM (l.take (i + 1)) = printM (l.take i) ++ (lineM (l.getD i d0) ++ [10]) := by
  rw [take_succD d0 h]; simp [printM]
end Voc
namespace Go.Proofs.YtfdlngemkhiiiaaGreatDoor
open Go Go.Am Go.Shelf Voc
set_option linter.unusedVariables false

theorem lineM_len {x : Mp} (hx : goodM x = true) : (lineM x).length ≤ 43 := by
  have g := goodM_iff.1 hx
  have h1 := dec_len (u := x.1.toNat) (by omega)
  have h2 := dec_len (u := x.2.1.toNat) (by omega)
  simp only [lineM, List.length_append, List.length_cons, List.length_nil]
  omega
theorem printM_len {l : List Mp} (h : ∀ x ∈ l, goodM x = true) : (printM l).length ≤ l.length * 44 := by
  induction l with
  | nil => simp [printM]
  | cons x r ih =>
    have h1 := lineM_len (h x (by simp))
    have h2 := ih fun y hy => h y (List.mem_cons_of_mem _ hy)
    simp only [printM, List.flatMap_cons, List.length_append, List.length_cons, List.length_nil] at h2 ⊢
    omega

set_option maxRecDepth 100000 in
set_option maxHeartbeats 4000000 in
theorem line_ok (x : Mp) (hx : goodM x = true) (H : List Blk) (T : Toks) (hG : Gl H 3 isPow) : ACall Tryz.prog 19 [.agg (mc x)] H T (Is (.str (lineM x)) H T) := by
  refine ACall.drop' ?_ (by simp)
  have g := goodM_iff.1 hx
  have e1 : Go.Lib.itoa x.1 = Go.Lib.decDigits x.1.toNat := by unfold Go.Lib.itoa; rw [if_neg (by omega)]
  have e2 : Go.Lib.itoa x.2.1 = Go.Lib.decDigits x.2.1.toNat := by unfold Go.Lib.itoa; rw [if_neg (by omega)]
  have h1 := dec_len (u := x.1.toNat) (by omega)
  have h2 := dec_len (u := x.2.1.toNat) (by omega)
  have c1 := fun G T => itoa_ok x.1 (by omega) (by omega) (H ++ G) T (hG.app G)
  have c2 := fun G T => itoa_ok x.2.1 (by omega) (by omega) (H ++ G) T (hG.app G)
  rw [e1] at c1
  rw [e2] at c2
  unfold lineM
  generalize Go.Lib.decDigits x.1.toNat = A at *
  generalize Go.Lib.decDigits x.2.1.toNat = B at *
  obtain ⟨x1, x2, x3⟩ := x
  simp only at g
  simp only [mc] at *
  have h3 : x3 = 1 ∨ x3 = 2 ∨ x3 = 3 := by omega
  rcases h3 with rfl | rfl | rfl
  · refine acall_enter 3 [] Tryz.ntmps19 Tryz.func19 rfl (fun _ _ => Tryz.call19 _ _) (by simp) (fun HO => ?_)
    refine aw_reg fun K hK => ?_; simp (maxSteps := 1000000) (disch := omega) [-List.getD_eq_getElem?_getD]; refine hK _ ?_; clear hK K
    refine aw_draw [] [] [] drawMixed (by kernel_rfl) (by kernel_rfl) fun K hK => ?_; simp (maxSteps := 1000000) (disch := omega) [-List.getD_eq_getElem?_getD]
    refine dcall_is (c1 _ _) rfl ?_; simp (maxSteps := 1000000) (disch := omega) [-List.getD_eq_getElem?_getD]
    refine dcall_is (c2 _ _) rfl ?_; simp (maxSteps := 1000000) (disch := omega) [-List.getD_eq_getElem?_getD]
    refine hK _ ?_; clear hK K
    refine aw_ret ?_; simp (maxSteps := 1000000) (disch := omega) [-List.getD_eq_getElem?_getD]
    simp [symK]
  · refine acall_enter 3 [] Tryz.ntmps19 Tryz.func19 rfl (fun _ _ => Tryz.call19 _ _) (by simp) (fun HO => ?_)
    refine aw_reg fun K hK => ?_; simp (maxSteps := 1000000) (disch := omega) [-List.getD_eq_getElem?_getD]; refine hK _ ?_; clear hK K
    refine aw_draw [] [] [] drawMixed (by kernel_rfl) (by kernel_rfl) fun K hK => ?_; simp (maxSteps := 1000000) (disch := omega) [-List.getD_eq_getElem?_getD]
    refine dcall_is (c1 _ _) rfl ?_; simp (maxSteps := 1000000) (disch := omega) [-List.getD_eq_getElem?_getD]
    refine dcall_is (c2 _ _) rfl ?_; simp (maxSteps := 1000000) (disch := omega) [-List.getD_eq_getElem?_getD]
    refine hK _ ?_; clear hK K
    refine aw_ret ?_; simp (maxSteps := 1000000) (disch := omega) [-List.getD_eq_getElem?_getD]
    simp [symK]
  · refine acall_enter 3 [] Tryz.ntmps19 Tryz.func19 rfl (fun _ _ => Tryz.call19 _ _) (by simp) (fun HO => ?_)
    refine aw_reg fun K hK => ?_; simp (maxSteps := 1000000) (disch := omega) [-List.getD_eq_getElem?_getD]; refine hK _ ?_; clear hK K
    refine aw_draw [] [] [] drawMixed (by kernel_rfl) (by kernel_rfl) fun K hK => ?_; simp (maxSteps := 1000000) (disch := omega) [-List.getD_eq_getElem?_getD]
    refine dcall_is (c1 _ _) rfl ?_; simp (maxSteps := 1000000) (disch := omega) [-List.getD_eq_getElem?_getD]
    refine dcall_is (c2 _ _) rfl ?_; simp (maxSteps := 1000000) (disch := omega) [-List.getD_eq_getElem?_getD]
    refine hK _ ?_; clear hK K
    refine aw_ret ?_; simp (maxSteps := 1000000) (disch := omega) [-List.getD_eq_getElem?_getD]
    simp [symK]

set_option maxRecDepth 100000 in
set_option maxHeartbeats 4000000 in
theorem lineR_ok (x : Mp) (hx : goodM x = true) (H : List Blk) (T : Toks) : ACall Tryz.prog 34 [.agg (mc x)] H T (Is (.str (lineM x)) H T) := by
  refine ACall.drop' ?_ (by simp)
  have g := goodM_iff.1 hx
  have h1 := dec_len (u := x.1.toNat) (by omega)
  have h2 := dec_len (u := x.2.1.toNat) (by omega)
  have c1 := fun H T => itoaR_ok x.1.toNat (by omega) H T
  have c2 := fun H T => itoaR_ok x.2.1.toNat (by omega) H T
  rw [Int.toNat_of_nonneg (by omega)] at c1 c2
  unfold lineM
  generalize Go.Lib.decDigits x.1.toNat = A at *
  generalize Go.Lib.decDigits x.2.1.toNat = B at *
  obtain ⟨x1, x2, x3⟩ := x
  simp only at g c1 c2
  simp only [mc] at *
  have h3 : x3 = 1 ∨ x3 = 2 ∨ x3 = 3 := by omega
  rcases h3 with rfl | rfl | rfl
  · refine acall_enter 3 [] Tryz.ntmps34 Tryz.func34 rfl (fun _ _ => Tryz.call34 _ _) (by simp) (fun HO => ?_)
    refine aw_reg fun K hK => ?_; simp (maxSteps := 1000000) (disch := omega) [-List.getD_eq_getElem?_getD]; refine hK _ ?_; clear hK K
    refine aw_draw [] [] [] drawMixed (by kernel_rfl) (by kernel_rfl) fun K hK => ?_; simp (maxSteps := 1000000) (disch := omega) [-List.getD_eq_getElem?_getD]
    refine dcall_is (c1 _ _) rfl ?_; simp (maxSteps := 1000000) (disch := omega) [-List.getD_eq_getElem?_getD]
    refine dcall_is (c2 _ _) rfl ?_; simp (maxSteps := 1000000) (disch := omega) [-List.getD_eq_getElem?_getD]
    refine hK _ ?_; clear hK K
    refine aw_ret ?_; simp (maxSteps := 1000000) (disch := omega) [-List.getD_eq_getElem?_getD]
    simp [symK]
  · refine acall_enter 3 [] Tryz.ntmps34 Tryz.func34 rfl (fun _ _ => Tryz.call34 _ _) (by simp) (fun HO => ?_)
    refine aw_reg fun K hK => ?_; simp (maxSteps := 1000000) (disch := omega) [-List.getD_eq_getElem?_getD]; refine hK _ ?_; clear hK K
    refine aw_draw [] [] [] drawMixed (by kernel_rfl) (by kernel_rfl) fun K hK => ?_; simp (maxSteps := 1000000) (disch := omega) [-List.getD_eq_getElem?_getD]
    refine dcall_is (c1 _ _) rfl ?_; simp (maxSteps := 1000000) (disch := omega) [-List.getD_eq_getElem?_getD]
    refine dcall_is (c2 _ _) rfl ?_; simp (maxSteps := 1000000) (disch := omega) [-List.getD_eq_getElem?_getD]
    refine hK _ ?_; clear hK K
    refine aw_ret ?_; simp (maxSteps := 1000000) (disch := omega) [-List.getD_eq_getElem?_getD]
    simp [symK]
  · refine acall_enter 3 [] Tryz.ntmps34 Tryz.func34 rfl (fun _ _ => Tryz.call34 _ _) (by simp) (fun HO => ?_)
    refine aw_reg fun K hK => ?_; simp (maxSteps := 1000000) (disch := omega) [-List.getD_eq_getElem?_getD]; refine hK _ ?_; clear hK K
    refine aw_draw [] [] [] drawMixed (by kernel_rfl) (by kernel_rfl) fun K hK => ?_; simp (maxSteps := 1000000) (disch := omega) [-List.getD_eq_getElem?_getD]
    refine dcall_is (c1 _ _) rfl ?_; simp (maxSteps := 1000000) (disch := omega) [-List.getD_eq_getElem?_getD]
    refine dcall_is (c2 _ _) rfl ?_; simp (maxSteps := 1000000) (disch := omega) [-List.getD_eq_getElem?_getD]
    refine hK _ ?_; clear hK K
    refine aw_ret ?_; simp (maxSteps := 1000000) (disch := omega) [-List.getD_eq_getElem?_getD]
    simp [symK]
end Go.Proofs.YtfdlngemkhiiiaaGreatDoor
