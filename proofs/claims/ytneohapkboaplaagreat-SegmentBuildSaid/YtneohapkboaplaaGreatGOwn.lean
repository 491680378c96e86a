/- What the law's bookplatelaw39.Own returns (layer 39): the segment.
  Conditions: sizes, as the theorem says. -/
import Derived.Test.YtneohapkboaplaaGreatGV
import Derived.Test.YtneohapkboaplaaGreatGBC
set_option linter.all false
set_option maxRecDepth 100000
namespace Go.Proofs.YtneohapkboaplaaGreat
open Go Go.Am Sug Seg Post
abbrev coC (x : Cl × Nat) : List AV := [.int .i64 x.1.f, .sl x.1.x.length (nmAV x.1.x) (.own x.2)]
def coAV (l : List (Cl × Nat)) : List AV := l.flatMap coC
theorem co_rows : CellsK coC 2 := fun _ => rfl
theorem coAV_len (l : List (Cl × Nat)) : (coAV l).length = l.length * 2 := rows_len co_rows l
theorem coAV_snoc (l : List (Cl × Nat)) (x : Cl × Nat) : coAV l ++ [.int .i64 x.1.f, .sl x.1.x.length (nmAV x.1.x) (.own x.2)] = coAV (l ++ [x]) := rows_snoc (f := coC) l x
theorem below_co {n t : Nat} {l : List (Cl × Nat)} (h : ∀ x ∈ l, x.2 < t) : BelowAll n t (coAV l) := by
 intro v hv
 obtain ⟨x, hx, hv⟩ := List.mem_flatMap.1 hv
 simp only [coC, List.mem_cons, List.not_mem_nil, or_false] at hv
 rcases hv with rfl | rfl
 ·exact .int _ _
 ·simp [h x hx]
theorem frz_co {n0 t0 n : Nat} {H : List Blk} {l : List (Cl × Nat)} {tg : Tag} : Frz n0 t0 H (.sl n (coAV l) tg) (.sl n (clAV (l.map (·.1))) .none) := by
 have h1 : coAV l = l.flatMap coC ++ [] := by simp [coAV]
 have h2 : clAV (l.map (·.1)) = l.flatMap fun e => clC e.1 := by simp [clAV, List.flatMap_map]
 rw [h2]
 refine .sl ?_ fun j hj => ?_
 ·rw [coAV_len, rows_len (f := fun e : Cl × Nat => clC e.1) (k := 2) (fun _ => rfl)]
 ·rw [h1]
  refine frz_rows (fa := coC) (fb := fun e => clC e.1) co_rows (fun _ => rfl) l (fun e hel j hj => ?_) [] j hj
  match j, hj with
  | 0, _ => exact .keep (.inl rfl) (.int _ _)
  | 1, _ => exact .keep (.inr rfl) (by simp)
end Go.Proofs.YtneohapkboaplaaGreat
