/- Lists of mappings as arguments of the rows of layer 26.
   Conditions: none. -/
import Derived.Test.YtfdlngemkhiiiaaGreatDoorAmArg
import Derived.Test.YtfdlngemkhiiiaaGreatDoorVPl
namespace Go.Proofs.YtfdlngemkhiiiaaGreatDoor
open Go Go.Am Go.ChangeShapes Go.WideShapes Go.RowKit Voc
set_option linter.unusedVariables false

section
variable {H : Type} {enc : TypeId × Value → H} {P : Program} {w : World} {b0 base fuel : Nat} {sp : Nat → Bool} {held : Bool} {t e : TypeId} {v : Value} {d : DataW H} {ps : List MemPlace} {r : Reach} {fs : Array Field} {f0 f1 f2 : Field} {cs : List Value} {x : DataW H × List MemPlace}

theorem rc_map (hs : P.underlying e = some (.struct fs)) (h0 : fs[0]? = some f0) (h1 : fs[1]? = some f1) (h2 : fs[2]? = some f2) (o0 : f0.offset = 0) (o1 : f1.offset = 1) (o2 : f2.offset = 2)
    (u0 : P.underlying f0.type = some (.int .i64)) (u1 : P.underlying f1.type = some (.int .i64)) (u2 : P.underlying f2.type = some (.int .i64)) (c0 : P.cellsOf f0.type = 1) (c1 : P.cellsOf f1.type = 1) (c2 : P.cellsOf f2.type = 1) (ce : P.cellsOf e = 3)
    (h : DataW.trod enc P w base sp held fuel e cs = some x) : ∃ p : Mp, RC w (mc p) cs := by
  obtain ⟨hlen, hf⟩ := rc_fields hs h
  obtain ⟨n0, y0, g0⟩ := hf 0 _ h0
  obtain ⟨n1, y1, g1⟩ := hf 1 _ h1
  obtain ⟨n2, y2, g2⟩ := hf 2 _ h2
  rw [o0, c0] at g0
  rw [o1, c1] at g1
  rw [o2, c2] at g2
  rw [ce] at hlen
  obtain ⟨a, _, b0⟩ := rc_int u0 g0
  obtain ⟨b, _, b1⟩ := rc_int u1 g1
  obtain ⟨c, _, b2⟩ := rc_int u2 g2
  match cs, hlen with
  | [x, y, z], _ => exact ⟨(a, b, c), (b0.append b1).append b2⟩

theorem flat_maps : ∀ es : List (List AV), (∀ a ∈ es, ∃ p : Mp, a = mc p) → ∃ l : List Mp, l.length = es.length ∧ es.flatten = mpAV l := by
  intro es
  induction es with
  | nil => intro _; exact ⟨[], rfl, rfl⟩
  | cons x es ih =>
    intro h
    obtain ⟨l, g1, g2⟩ := ih (fun a ha => h a (by simp [ha]))
    obtain ⟨p, rfl⟩ := h x (by simp)
    refine ⟨p :: l, by simp [g1], by rw [List.flatten_cons, g2, mpAV_cons]; rfl⟩

theorem av_maps (ht : P.underlying t = some (.slice e)) (hs : P.underlying e = some (.struct fs)) (h0 : fs[0]? = some f0) (h1 : fs[1]? = some f1) (h2 : fs[2]? = some f2) (o0 : f0.offset = 0) (o1 : f1.offset = 1) (o2 : f2.offset = 2)
    (u0 : P.underlying f0.type = some (.int .i64)) (u1 : P.underlying f1.type = some (.int .i64)) (u2 : P.underlying f2.type = some (.int .i64)) (c0 : P.cellsOf f0.type = 1) (c1 : P.cellsOf f1.type = 1) (c2 : P.cellsOf f2.type = 1) (ce : P.cellsOf e = 3)
    (hval : Value.okWide P w r b0 t v) (h : DataW.Trod enc P w base sp held t v d ps) : ∃ l : List Mp, l.length ≤ maxLen ∧ Rep (lay0 w) 0 [] w (.sl l.length (mpAV l) .none) v := by
  obtain ⟨es, ⟨g1, g2⟩, g3⟩ := av_slice (G := fun a => ∃ p : Mp, a = mc p) ht (by omega) (fun n c y hy => by
    obtain ⟨p, hr⟩ := rc_map hs h0 h1 h2 o0 o1 o2 u0 u1 u2 c0 c1 c2 ce hy
    exact ⟨_, ⟨p, rfl⟩, hr⟩) hval h
  obtain ⟨l, k1, k2⟩ := flat_maps es g1
  rw [k2, ← k1] at g3
  exact ⟨l, by omega, g3⟩
end
end Go.Proofs.YtfdlngemkhiiiaaGreatDoor
