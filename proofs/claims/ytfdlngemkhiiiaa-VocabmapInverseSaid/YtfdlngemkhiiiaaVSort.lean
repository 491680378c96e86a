/- slices.SortFunc over this program, by the library's contract; mappings as cells.
   Conditions: none. -/
import Derived.Test.YtfdlngemkhiiiaaAmSrt
import Derived.Test.YtfdlngemkhiiiaaVFn2
namespace Go.Proofs.Ytfdlngemkhiiiaa
open Go Go.Am Go.Shelf Go.Sort Voc
set_option linter.unusedVariables false

def ren : Ren := ⟨fun | 6 => 32 | 14 => 36 | 15 => 37 | 20 => 38 | 21 => 39 | 22 => 40 | 23 => 41 | 24 => 42 | 25 => 43 | 26 => 44 | 27 => 45 | 28 => 46 | 29 => 47 | 46 => 48 | 47 => 49 | 48 => 50 | 49 => 51 | 50 => 52 | 57 => 53 | x => x,
  fun | 22 => 22 | 24 => 32 | 25 => 46 | 39 => 48 | 45 => 57 | 46 => 58 | 50 => 35 | 53 => 64 | 55 => 66 | 66 => 67 | 70 => 71 | 76 => 73 | 77 => 74 | x => x, fun x => x⟩

theorem bears {P : Program} {f : FuncId} {F B : Func} (hf : P.funcs[f]? = some F) (hn : (F.name == "runtime.NumGoroutine") = false) (h : F = { B with name := F.name }) : Bears P f B := ⟨F.name, hn, hf.trans (congrArg some h)⟩

theorem lays : SlLaysF0.n6 Try.prog ren :=
  { mixed := by kernel_rfl
    f6 := bears Try.func32 (by kernel_rfl) (by kernel_rfl)
    f14 := bears Try.func36 (by kernel_rfl) (by kernel_rfl)
    f15 := Try.func37.trans (congrArg some (by kernel_rfl))
    f20 := bears Try.func38 (by kernel_rfl) (by kernel_rfl)
    f21 := bears Try.func39 (by kernel_rfl) (by kernel_rfl)
    f22 := bears Try.func40 (by kernel_rfl) (by kernel_rfl)
    f23 := bears Try.func41 (by kernel_rfl) (by kernel_rfl)
    f24 := bears Try.func42 (by kernel_rfl) (by kernel_rfl)
    f25 := bears Try.func43 (by kernel_rfl) (by kernel_rfl)
    f26 := bears Try.func44 (by kernel_rfl) (by kernel_rfl)
    f27 := bears Try.func45 (by kernel_rfl) (by kernel_rfl)
    f28 := Try.func46.trans (congrArg some (by kernel_rfl))
    f29 := Try.func47.trans (congrArg some (by kernel_rfl))
    f46 := bears Try.func48 (by kernel_rfl) (by kernel_rfl)
    f47 := Try.func49.trans (congrArg some (by kernel_rfl))
    f48 := Try.func50.trans (congrArg some (by kernel_rfl))
    f49 := bears Try.func51 (by kernel_rfl) (by kernel_rfl)
    f50 := bears Try.func52 (by kernel_rfl) (by kernel_rfl)
    f57 := bears Try.func53 (by kernel_rfl) (by kernel_rfl)
    t0 := Try.underlying0, a0 := Try.isAgg0, z0 := Try.sizeOf0, v0 := Try.zeroValue0
    t3 := Try.underlying3, a3 := Try.isAgg3, z3 := Try.sizeOf3, v3 := Try.zeroValue3
    t4 := Try.underlying4, a4 := Try.isAgg4, z4 := Try.sizeOf4, v4 := Try.zeroValue4
    t5 := Try.underlying5, a5 := Try.isAgg5, z5 := Try.sizeOf5, v5 := Try.zeroValue5
    t9 := Try.underlying9, a9 := Try.isAgg9, z9 := Try.sizeOf9, v9 := Try.zeroValue9
    t22 := Try.underlying22, a22 := Try.isAgg22, z22 := Try.sizeOf22, v22 := Try.zeroValue22
    t25 := Try.underlying46, a25 := Try.isAgg46, z25 := Try.sizeOf46, v25 := Try.zeroValue46
    t39 := Try.underlying48, a39 := Try.isAgg48, z39 := Try.sizeOf48, v39 := Try.zeroValue48
    t45 := Try.underlying57, a45 := Try.isAgg57, z45 := Try.sizeOf57, v45 := Try.zeroValue57
    t46 := Try.underlying58, a46 := Try.isAgg58, z46 := Try.sizeOf58, v46 := Try.zeroValue58
    t50 := Try.underlying35, a50 := Try.isAgg35, z50 := Try.sizeOf35, v50 := Try.zeroValue35
    t53 := Try.underlying64, a53 := Try.isAgg64, z53 := Try.sizeOf64, v53 := Try.zeroValue64
    t55 := Try.underlying66, a55 := Try.isAgg66, z55 := Try.sizeOf66, v55 := Try.zeroValue66
    t66 := Try.underlying67, a66 := Try.isAgg67, z66 := Try.sizeOf67, v66 := Try.zeroValue67
    t70 := Try.underlying71, a70 := Try.isAgg71, z70 := Try.sizeOf71, v70 := Try.zeroValue71
    t76 := Try.underlying73, a76 := Try.isAgg73, z76 := Try.sizeOf73, v76 := Try.zeroValue73
    t77 := Try.underlying74, a77 := Try.isAgg74, z77 := Try.sizeOf74, v77 := Try.zeroValue74 }

/-- Mappings as cells. -/
def encM (x : Mp) : List Value := [.int .i64 x.1, .int .i64 x.2.1, .int .i64 x.2.2]
theorem encOk : Enc encM mc 3 where
  pos := by decide
  len _ := rfl
  lenA _ := rfl
  one x v hv := by simp [encM] at hv; rcases hv with rfl | rfl | rfl <;> rfl
  rep x j hj L N T w v := by
    match j, hj with
    | 0, _ => exact ⟨fun h => by cases h; rfl, fun h => by subst h; exact .int _ _⟩
    | 1, _ => exact ⟨fun h => by cases h; rfl, fun h => by subst h; exact .int _ _⟩
    | 2, _ => exact ⟨fun h => by cases h; rfl, fun h => by subst h; exact .int _ _⟩

theorem ltOf_cf3 : ltOf cf3 = lt3 := by
  funext x y
  exact cf3_neg x y
theorem swo3 : SWO (ltOf cf3) := by
  rw [ltOf_cf3]
  exact ⟨lt3_irrefl, lt3_trans, lt3_ntrans⟩

theorem sortFn_ok (l : List Mp) (rest : List AV) (i cap : Nat) (hl : l.length ≤ 1099511627776) (H : List Blk) (T : Toks) (hi : H[i]? = some (.cells (mpAV l ++ rest))) :
    ACall Try.prog 32 [.csl i l.length cap, .fn 33 [] []] H T (Is (.tup []) (H.set i (.cells (mpAV (sortM l) ++ rest))) T) := by
  have h := sortK_ok (H := H) (T := T) lays (k := 3) Try.isAgg32 Try.sizeOf32 encOk rfl cf3 swo3 (by rw [ltOf_cf3]; exact lt3_total) 33 cmp3_ok (fun _ _ => Try.call32 _ _) l rest i cap hi (by omega)
  rw [ltOf_cf3] at h
  exact h
theorem sortFn0_ok (H : List Blk) (T : Toks) (tg : Tag) :
    ACall Try.prog 32 [.sl 0 [] tg, .fn 33 [] []] H T (Is (.tup []) H T) :=
  sort0_ok lays 33 (fun _ _ => Try.call32 _ _) tg

end Go.Proofs.Ytfdlngemkhiiiaa
