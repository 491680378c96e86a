/- slices.SortFunc over this program, by the library's contract; mappings as cells.
   Conditions: none. -/
import Derived.Test.YtfdlngemkhiiiaaGreatDoorAmSrt
import Derived.Test.YtfdlngemkhiiiaaGreatDoorVFn2
namespace Go.Proofs.YtfdlngemkhiiiaaGreatDoor
open Go Go.Am Go.Shelf Go.Sort Voc
set_option linter.unusedVariables false

def ren : Ren := ⟨fun | 6 => 39 | 14 => 49 | 15 => 50 | 20 => 61 | 21 => 62 | 22 => 63 | 23 => 64 | 24 => 65 | 25 => 66 | 26 => 67 | 27 => 68 | 28 => 69 | 29 => 70 | 46 => 85 | 47 => 86 | 48 => 87 | 49 => 88 | 50 => 89 | 57 => 98 | x => x,
  fun | 22 => 22 | 24 => 33 | 25 => 62 | 39 => 71 | 45 => 89 | 46 => 90 | 50 => 55 | 53 => 96 | 55 => 98 | 66 => 113 | 70 => 117 | 76 => 128 | 77 => 129 | x => x, fun x => x⟩

theorem bears {P : Program} {f : FuncId} {F B : Func} (hf : P.funcs[f]? = some F) (hn : (F.name == "runtime.NumGoroutine") = false) (h : F = { B with name := F.name }) : Bears P f B := ⟨F.name, hn, hf.trans (congrArg some h)⟩

theorem lays : SlLaysF0.n6 Tryz.prog ren :=
  { mixed := by kernel_rfl
    f6 := bears Tryz.func39 (by kernel_rfl) (by kernel_rfl)
    f14 := bears Tryz.func49 (by kernel_rfl) (by kernel_rfl)
    f15 := Tryz.func50.trans (congrArg some (by kernel_rfl))
    f20 := bears Tryz.func61 (by kernel_rfl) (by kernel_rfl)
    f21 := bears Tryz.func62 (by kernel_rfl) (by kernel_rfl)
    f22 := bears Tryz.func63 (by kernel_rfl) (by kernel_rfl)
    f23 := bears Tryz.func64 (by kernel_rfl) (by kernel_rfl)
    f24 := bears Tryz.func65 (by kernel_rfl) (by kernel_rfl)
    f25 := bears Tryz.func66 (by kernel_rfl) (by kernel_rfl)
    f26 := bears Tryz.func67 (by kernel_rfl) (by kernel_rfl)
    f27 := bears Tryz.func68 (by kernel_rfl) (by kernel_rfl)
    f28 := Tryz.func69.trans (congrArg some (by kernel_rfl))
    f29 := Tryz.func70.trans (congrArg some (by kernel_rfl))
    f46 := bears Tryz.func85 (by kernel_rfl) (by kernel_rfl)
    f47 := Tryz.func86.trans (congrArg some (by kernel_rfl))
    f48 := Tryz.func87.trans (congrArg some (by kernel_rfl))
    f49 := bears Tryz.func88 (by kernel_rfl) (by kernel_rfl)
    f50 := bears Tryz.func89 (by kernel_rfl) (by kernel_rfl)
    f57 := bears Tryz.func98 (by kernel_rfl) (by kernel_rfl)
    t0 := Tryz.underlying0, a0 := Tryz.isAgg0, z0 := Tryz.sizeOf0, v0 := Tryz.zeroValue0
    t3 := Tryz.underlying3, a3 := Tryz.isAgg3, z3 := Tryz.sizeOf3, v3 := Tryz.zeroValue3
    t4 := Tryz.underlying4, a4 := Tryz.isAgg4, z4 := Tryz.sizeOf4, v4 := Tryz.zeroValue4
    t5 := Tryz.underlying5, a5 := Tryz.isAgg5, z5 := Tryz.sizeOf5, v5 := Tryz.zeroValue5
    t9 := Tryz.underlying9, a9 := Tryz.isAgg9, z9 := Tryz.sizeOf9, v9 := Tryz.zeroValue9
    t22 := Tryz.underlying22, a22 := Tryz.isAgg22, z22 := Tryz.sizeOf22, v22 := Tryz.zeroValue22
    t25 := Tryz.underlying62, a25 := Tryz.isAgg62, z25 := Tryz.sizeOf62, v25 := Tryz.zeroValue62
    t39 := Tryz.underlying71, a39 := Tryz.isAgg71, z39 := Tryz.sizeOf71, v39 := Tryz.zeroValue71
    t45 := Tryz.underlying89, a45 := Tryz.isAgg89, z45 := Tryz.sizeOf89, v45 := Tryz.zeroValue89
    t46 := Tryz.underlying90, a46 := Tryz.isAgg90, z46 := Tryz.sizeOf90, v46 := Tryz.zeroValue90
    t50 := Tryz.underlying55, a50 := Tryz.isAgg55, z50 := Tryz.sizeOf55, v50 := Tryz.zeroValue55
    t53 := Tryz.underlying96, a53 := Tryz.isAgg96, z53 := Tryz.sizeOf96, v53 := Tryz.zeroValue96
    t55 := Tryz.underlying98, a55 := Tryz.isAgg98, z55 := Tryz.sizeOf98, v55 := Tryz.zeroValue98
    t66 := Tryz.underlying113, a66 := Tryz.isAgg113, z66 := Tryz.sizeOf113, v66 := Tryz.zeroValue113
    t70 := Tryz.underlying117, a70 := Tryz.isAgg117, z70 := Tryz.sizeOf117, v70 := Tryz.zeroValue117
    t76 := Tryz.underlying128, a76 := Tryz.isAgg128, z76 := Tryz.sizeOf128, v76 := Tryz.zeroValue128
    t77 := Tryz.underlying129, a77 := Tryz.isAgg129, z77 := Tryz.sizeOf129, v77 := Tryz.zeroValue129 }

/-- Mappings as cells. -/
def encM (x : Mp) : List Value := [.int .i64 x.1, .int .i64 x.2.1, .int .i64 x.2.2]
theorem encOk : Enc encM mc 3 where
  pos := by decide
  len _ := rfl
  lenA _ := rfl
  one x v hv := by simp [encM] at hv; rcases hv with rfl | rfl | rfl <;> rfl
  rep x j hj L N T w v := by
    match j, hj with
    | 0, _ => exact ⟨fun h => by cases h; rfl, fun h => by subst h; exact .int _ _⟩
    | 1, _ => exact ⟨fun h => by cases h; rfl, fun h => by subst h; exact .int _ _⟩
    | 2, _ => exact ⟨fun h => by cases h; rfl, fun h => by subst h; exact .int _ _⟩

theorem ltOf_cf3 : ltOf cf3 = lt3 := by
  funext x y
  exact cf3_neg x y
theorem swo3 : SWO (ltOf cf3) := by
  rw [ltOf_cf3]
  exact ⟨lt3_irrefl, lt3_trans, lt3_ntrans⟩

theorem sortFn_ok (l : List Mp) (rest : List AV) (i cap : Nat) (hl : l.length ≤ 1099511627776) (H : List Blk) (T : Toks) (hi : H[i]? = some (.cells (mpAV l ++ rest))) :
    ACall Tryz.prog 39 [.csl i l.length cap, .fn 40 [] []] H T (Is (.tup []) (H.set i (.cells (mpAV (sortM l) ++ rest))) T) := by
  have h := sortK_ok (H := H) (T := T) lays (k := 3) Tryz.isAgg33 Tryz.sizeOf33 encOk rfl cf3 swo3 (by rw [ltOf_cf3]; exact lt3_total) 40 cmp3_ok (fun _ _ => Tryz.call39 _ _) l rest i cap hi (by omega)
  rw [ltOf_cf3] at h
  exact h
theorem sortFn0_ok (H : List Blk) (T : Toks) (tg : Tag) :
    ACall Tryz.prog 39 [.sl 0 [] tg, .fn 40 [] []] H T (Is (.tup []) H T) :=
  sort0_ok lays 40 (fun _ _ => Tryz.call39 _ _) tg

end Go.Proofs.YtfdlngemkhiiiaaGreatDoor
