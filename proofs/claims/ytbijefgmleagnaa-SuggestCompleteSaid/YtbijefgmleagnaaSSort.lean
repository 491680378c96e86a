/- slices.SortFunc over this program, by the library's contract; comparing near words.
   Conditions: none. -/
import Derived.Test.YtbijefgmleagnaaAmSrt
import Derived.Test.YtbijefgmleagnaaSFn1
namespace Go.Proofs.Ytbijefgmleagnaa
open Go Go.Am Go.Shelf Sug
set_option linter.unusedVariables false

def ren : Ren := ⟨fun | 6 => 35 | 14 => 48 | 15 => 49 | 20 => 56 | 21 => 57 | 22 => 58 | 23 => 59 | 24 => 60 | 25 => 61 | 26 => 62 | 27 => 63 | 28 => 64 | 29 => 65 | 46 => 69 | 47 => 70 | 48 => 71 | 49 => 72 | 50 => 73 | 57 => 75 | x => x,
  fun | 22 => 36 | 24 => 44 | 25 => 68 | 39 => 78 | 45 => 83 | 46 => 84 | 50 => 60 | 53 => 90 | 55 => 92 | 66 => 97 | 70 => 101 | 76 => 103 | 77 => 104 | x => x, fun x => x⟩

theorem bears {P : Program} {f : FuncId} {F B : Func} (hf : P.funcs[f]? = some F) (hn : (F.name == "runtime.NumGoroutine") = false) (h : F = { B with name := F.name }) : Bears P f B := ⟨F.name, hn, hf.trans (congrArg some h)⟩

theorem lays : SlLaysF0.n6 Try.prog ren :=
  { mixed := by kernel_rfl
    f6 := bears Try.func35 (by kernel_rfl) (by kernel_rfl)
    f14 := bears Try.func48 (by kernel_rfl) (by kernel_rfl)
    f15 := Try.func49.trans (congrArg some (by kernel_rfl))
    f20 := bears Try.func56 (by kernel_rfl) (by kernel_rfl)
    f21 := bears Try.func57 (by kernel_rfl) (by kernel_rfl)
    f22 := bears Try.func58 (by kernel_rfl) (by kernel_rfl)
    f23 := bears Try.func59 (by kernel_rfl) (by kernel_rfl)
    f24 := bears Try.func60 (by kernel_rfl) (by kernel_rfl)
    f25 := bears Try.func61 (by kernel_rfl) (by kernel_rfl)
    f26 := bears Try.func62 (by kernel_rfl) (by kernel_rfl)
    f27 := bears Try.func63 (by kernel_rfl) (by kernel_rfl)
    f28 := Try.func64.trans (congrArg some (by kernel_rfl))
    f29 := Try.func65.trans (congrArg some (by kernel_rfl))
    f46 := bears Try.func69 (by kernel_rfl) (by kernel_rfl)
    f47 := Try.func70.trans (congrArg some (by kernel_rfl))
    f48 := Try.func71.trans (congrArg some (by kernel_rfl))
    f49 := bears Try.func72 (by kernel_rfl) (by kernel_rfl)
    f50 := bears Try.func73 (by kernel_rfl) (by kernel_rfl)
    f57 := bears Try.func75 (by kernel_rfl) (by kernel_rfl)
    t0 := Try.underlying0, a0 := Try.isAgg0, z0 := Try.sizeOf0, v0 := Try.zeroValue0
    t3 := Try.underlying3, a3 := Try.isAgg3, z3 := Try.sizeOf3, v3 := Try.zeroValue3
    t4 := Try.underlying4, a4 := Try.isAgg4, z4 := Try.sizeOf4, v4 := Try.zeroValue4
    t5 := Try.underlying5, a5 := Try.isAgg5, z5 := Try.sizeOf5, v5 := Try.zeroValue5
    t9 := Try.underlying9, a9 := Try.isAgg9, z9 := Try.sizeOf9, v9 := Try.zeroValue9
    t22 := Try.underlying36, a22 := Try.isAgg36, z22 := Try.sizeOf36, v22 := Try.zeroValue36
    t25 := Try.underlying68, a25 := Try.isAgg68, z25 := Try.sizeOf68, v25 := Try.zeroValue68
    t39 := Try.underlying78, a39 := Try.isAgg78, z39 := Try.sizeOf78, v39 := Try.zeroValue78
    t45 := Try.underlying83, a45 := Try.isAgg83, z45 := Try.sizeOf83, v45 := Try.zeroValue83
    t46 := Try.underlying84, a46 := Try.isAgg84, z46 := Try.sizeOf84, v46 := Try.zeroValue84
    t50 := Try.underlying60, a50 := Try.isAgg60, z50 := Try.sizeOf60, v50 := Try.zeroValue60
    t53 := Try.underlying90, a53 := Try.isAgg90, z53 := Try.sizeOf90, v53 := Try.zeroValue90
    t55 := Try.underlying92, a55 := Try.isAgg92, z55 := Try.sizeOf92, v55 := Try.zeroValue92
    t66 := Try.underlying97, a66 := Try.isAgg97, z66 := Try.sizeOf97, v66 := Try.zeroValue97
    t70 := Try.underlying101, a70 := Try.isAgg101, z70 := Try.sizeOf101, v70 := Try.zeroValue101
    t76 := Try.underlying103, a76 := Try.isAgg103, z76 := Try.sizeOf103, v76 := Try.zeroValue103
    t77 := Try.underlying104, a77 := Try.isAgg104, z77 := Try.sizeOf104, v77 := Try.zeroValue104 }

/-- Near words as cells. -/
def encF (x : Fnd) : List Value := [.string ⟨x.1.toArray⟩, .int .i64 x.2.1, .int .i64 x.2.2]
def encFA (x : Fnd) : List AV := [.str x.1, .int .i64 x.2.1, .int .i64 x.2.2]
theorem encOk : Enc encF encFA 3 where
  pos := by decide
  len _ := rfl
  lenA _ := rfl
  one x v hv := by simp [encF] at hv; rcases hv with rfl | rfl | rfl <;> rfl
  rep x j hj L N T w v := by
    match j, hj with
    | 0, _ => exact ⟨fun h => by cases h; rfl, fun h => by subst h; exact .str _⟩
    | 1, _ => exact ⟨fun h => by cases h; rfl, fun h => by subst h; exact .int _ _⟩
    | 2, _ => exact ⟨fun h => by cases h; rfl, fun h => by subst h; exact .int _ _⟩

end Go.Proofs.Ytbijefgmleagnaa
