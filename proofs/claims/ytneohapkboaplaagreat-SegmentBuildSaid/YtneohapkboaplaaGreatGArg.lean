/- Segments, documents, questions as arguments of the rows of layer 39.
  Conditions: none. -/
import Derived.Test.YtneohapkboaplaaGreatAmC
import Derived.Test.YtneohapkboaplaaGreatGLA
set_option linter.all false
set_option maxRecDepth 100000
namespace Go.Proofs.YtneohapkboaplaaGreat
open Go Go.Am Go.ChangeShapes Go.WideShapes Go.RowKit Seg
theorem flat_all {α : Type} {f : α → List AV} {R : α → Prop} : ∀ es : List (List AV), (∀ a ∈ es, ∃ x : α, R x ∧ a = f x) → ∃ l : List α, l.length = es.length ∧ es.flatten = l.flatMap f ∧ ∀ x ∈ l, R x
 | [], _ => ⟨[], rfl, rfl, fun p hp => by simp at hp⟩
 | x :: es, h => by
  obtain ⟨l, g1, g2, g3⟩ := flat_all es (fun a ha => h a (by simp [ha]))
  obtain ⟨p, hp, rfl⟩ := h x (by simp)
  refine ⟨p :: l, by simp [g1], by rw [List.flatten_cons, g2, List.flatMap_cons], fun q hq => ?_⟩
  rcases List.mem_cons.1 hq with rfl | hq
  ·exact hp
  ·exact g3 q hq
section
variable {H : Type} {enc : TypeId × Value → H} {w : World} {base fuel : Nat} {sp : Nat → Bool} {held : Bool} {cs : List Value} {x : DataW H × List MemPlace}
theorem rc_list {α : Type} {f : α → List AV} {R : α → Prop} {t e : TypeId} (ht : Tryz.prog.underlying t = some (.slice e)) (hp : 0 < Tryz.prog.cellsOf e)
  (he : ∀ n c y, DataW.trod enc Tryz.prog w base sp held n e c = some y → ∃ a : α, R a ∧ RC w (f a) c) (h : DataW.trod enc Tryz.prog w base sp held fuel t cs = some x) :
  ∃ l : List α, (∀ a ∈ l, R a) ∧ l.length ≤ maxLen ∧ RC w [.sl l.length (l.flatMap f) .none] cs := by
 obtain ⟨es, g1, g2, g3⟩ := rc_slice (G := fun a => ∃ p : α, R p ∧ a = f p) ht hp (fun n c y hy => by
  obtain ⟨p, hp, hr⟩ := he n c y hy
  exact ⟨_, ⟨p, hp, rfl⟩, hr⟩) h
 obtain ⟨l, k1, k2, k3⟩ := flat_all (R := R) (f := f) es g1
 rw [k2, ← k1] at g3
 exact ⟨l, k3, by omega, g3⟩
end
end Go.Proofs.YtneohapkboaplaaGreat
