/- slices.SortFunc over this program, by the library's contract; mappings as cells.
   Conditions: none. -/
import Derived.Test.YtfdlngemkhiiiaaDoorAmSrt
import Derived.Test.YtfdlngemkhiiiaaDoorVFn2
namespace Go.Proofs.YtfdlngemkhiiiaaDoor
open Go Go.Am Go.Shelf Go.Sort Voc
set_option linter.unusedVariables false

def ren : Ren := ⟨fun | 6 => 38 | 14 => 45 | 15 => 46 | 20 => 49 | 21 => 50 | 22 => 51 | 23 => 52 | 24 => 53 | 25 => 54 | 26 => 55 | 27 => 56 | 28 => 57 | 29 => 58 | 46 => 60 | 47 => 61 | 48 => 62 | 49 => 63 | 50 => 64 | 57 => 69 | x => x,
  fun | 22 => 22 | 24 => 34 | 25 => 39 | 39 => 66 | 45 => 74 | 46 => 75 | 50 => 54 | 53 => 81 | 55 => 83 | 66 => 85 | 70 => 89 | 76 => 95 | 77 => 96 | x => x, fun x => x⟩

theorem bears {P : Program} {f : FuncId} {F B : Func} (hf : P.funcs[f]? = some F) (hn : (F.name == "runtime.NumGoroutine") = false) (h : F = { B with name := F.name }) : Bears P f B := ⟨F.name, hn, hf.trans (congrArg some h)⟩

theorem lays : SlLaysF0.n6 Tryd.prog ren :=
  { mixed := by kernel_rfl
    f6 := bears Tryd.func38 (by kernel_rfl) (by kernel_rfl)
    f14 := bears Tryd.func45 (by kernel_rfl) (by kernel_rfl)
    f15 := Tryd.func46.trans (congrArg some (by kernel_rfl))
    f20 := bears Tryd.func49 (by kernel_rfl) (by kernel_rfl)
    f21 := bears Tryd.func50 (by kernel_rfl) (by kernel_rfl)
    f22 := bears Tryd.func51 (by kernel_rfl) (by kernel_rfl)
    f23 := bears Tryd.func52 (by kernel_rfl) (by kernel_rfl)
    f24 := bears Tryd.func53 (by kernel_rfl) (by kernel_rfl)
    f25 := bears Tryd.func54 (by kernel_rfl) (by kernel_rfl)
    f26 := bears Tryd.func55 (by kernel_rfl) (by kernel_rfl)
    f27 := bears Tryd.func56 (by kernel_rfl) (by kernel_rfl)
    f28 := Tryd.func57.trans (congrArg some (by kernel_rfl))
    f29 := Tryd.func58.trans (congrArg some (by kernel_rfl))
    f46 := bears Tryd.func60 (by kernel_rfl) (by kernel_rfl)
    f47 := Tryd.func61.trans (congrArg some (by kernel_rfl))
    f48 := Tryd.func62.trans (congrArg some (by kernel_rfl))
    f49 := bears Tryd.func63 (by kernel_rfl) (by kernel_rfl)
    f50 := bears Tryd.func64 (by kernel_rfl) (by kernel_rfl)
    f57 := bears Tryd.func69 (by kernel_rfl) (by kernel_rfl)
    t0 := Tryd.underlying0, a0 := Tryd.isAgg0, z0 := Tryd.sizeOf0, v0 := Tryd.zeroValue0
    t3 := Tryd.underlying3, a3 := Tryd.isAgg3, z3 := Tryd.sizeOf3, v3 := Tryd.zeroValue3
    t4 := Tryd.underlying4, a4 := Tryd.isAgg4, z4 := Tryd.sizeOf4, v4 := Tryd.zeroValue4
    t5 := Tryd.underlying5, a5 := Tryd.isAgg5, z5 := Tryd.sizeOf5, v5 := Tryd.zeroValue5
    t9 := Tryd.underlying9, a9 := Tryd.isAgg9, z9 := Tryd.sizeOf9, v9 := Tryd.zeroValue9
    t22 := Tryd.underlying22, a22 := Tryd.isAgg22, z22 := Tryd.sizeOf22, v22 := Tryd.zeroValue22
    t25 := Tryd.underlying39, a25 := Tryd.isAgg39, z25 := Tryd.sizeOf39, v25 := Tryd.zeroValue39
    t39 := Tryd.underlying66, a39 := Tryd.isAgg66, z39 := Tryd.sizeOf66, v39 := Tryd.zeroValue66
    t45 := Tryd.underlying74, a45 := Tryd.isAgg74, z45 := Tryd.sizeOf74, v45 := Tryd.zeroValue74
    t46 := Tryd.underlying75, a46 := Tryd.isAgg75, z46 := Tryd.sizeOf75, v46 := Tryd.zeroValue75
    t50 := Tryd.underlying54, a50 := Tryd.isAgg54, z50 := Tryd.sizeOf54, v50 := Tryd.zeroValue54
    t53 := Tryd.underlying81, a53 := Tryd.isAgg81, z53 := Tryd.sizeOf81, v53 := Tryd.zeroValue81
    t55 := Tryd.underlying83, a55 := Tryd.isAgg83, z55 := Tryd.sizeOf83, v55 := Tryd.zeroValue83
    t66 := Tryd.underlying85, a66 := Tryd.isAgg85, z66 := Tryd.sizeOf85, v66 := Tryd.zeroValue85
    t70 := Tryd.underlying89, a70 := Tryd.isAgg89, z70 := Tryd.sizeOf89, v70 := Tryd.zeroValue89
    t76 := Tryd.underlying95, a76 := Tryd.isAgg95, z76 := Tryd.sizeOf95, v76 := Tryd.zeroValue95
    t77 := Tryd.underlying96, a77 := Tryd.isAgg96, z77 := Tryd.sizeOf96, v77 := Tryd.zeroValue96 }

/-- Mappings as cells. -/
def encM (x : Mp) : List Value := [.int .i64 x.1, .int .i64 x.2.1, .int .i64 x.2.2]
theorem encOk : Enc encM mc 3 where
  pos := by decide
  len _ := rfl
  lenA _ := rfl
  one x v hv := by simp [encM] at hv; rcases hv with rfl | rfl | rfl <;> rfl
  rep x j hj L N T w v := by
    match j, hj with
    | 0, _ => exact ⟨fun h => by cases h; rfl, fun h => by subst h; exact .int _ _⟩
    | 1, _ => exact ⟨fun h => by cases h; rfl, fun h => by subst h; exact .int _ _⟩
    | 2, _ => exact ⟨fun h => by cases h; rfl, fun h => by subst h; exact .int _ _⟩

theorem ltOf_cf3 : ltOf cf3 = lt3 := by
  funext x y
  exact cf3_neg x y
theorem swo3 : SWO (ltOf cf3) := by
  rw [ltOf_cf3]
  exact ⟨lt3_irrefl, lt3_trans, lt3_ntrans⟩

theorem sortFn_ok (l : List Mp) (rest : List AV) (i cap : Nat) (hl : l.length ≤ 1099511627776) (H : List Blk) (T : Toks) (hi : H[i]? = some (.cells (mpAV l ++ rest))) :
    ACall Tryd.prog 38 [.csl i l.length cap, .fn 39 [] []] H T (Is (.tup []) (H.set i (.cells (mpAV (sortM l) ++ rest))) T) := by
  have h := sortK_ok (H := H) (T := T) lays (k := 3) Tryd.isAgg34 Tryd.sizeOf34 encOk rfl cf3 swo3 (by rw [ltOf_cf3]; exact lt3_total) 39 cmp3_ok (fun _ _ => Tryd.call38 _ _) l rest i cap hi (by omega)
  rw [ltOf_cf3] at h
  exact h
theorem sortFn0_ok (H : List Blk) (T : Toks) (tg : Tag) :
    ACall Tryd.prog 38 [.sl 0 [] tg, .fn 39 [] []] H T (Is (.tup []) H T) :=
  sort0_ok lays 39 (fun _ _ => Tryd.call38 _ _) tg

end Go.Proofs.YtfdlngemkhiiiaaDoor
