/- Lists of entries as arguments of the rows of layer 43.
   Conditions: none. -/
import Derived.Test.YtbijefgmleagnaaAmArg
import Derived.Test.YtbijefgmleagnaaSPl
namespace Go.Proofs.Ytbijefgmleagnaa
open Go Go.Am Go.ChangeShapes Go.WideShapes Go.RowKit Sug
set_option linter.unusedVariables false

/-- What is read of an argument: lengths that a machine can have. -/
def Sz (l : List Ent) : Prop := l.length ≤ maxLen ∧ ∀ p ∈ l, p.1.length ≤ maxLen

section
variable {H : Type} {enc : TypeId × Value → H} {P : Program} {w : World} {b0 base fuel : Nat} {sp : Nat → Bool} {held : Bool} {t e : TypeId} {v : Value} {d : DataW H} {ps : List MemPlace} {r : Reach} {fs : Array Field} {f0 f1 : Field} {cs : List Value} {x : DataW H × List MemPlace}

theorem rc_entry (hs : P.underlying e = some (.struct fs)) (h0 : fs[0]? = some f0) (h1 : fs[1]? = some f1) (o0 : f0.offset = 0) (o1 : f1.offset = 1)
    (u0 : P.underlying f0.type = some .string) (u1 : P.underlying f1.type = some (.int .i64)) (c0 : P.cellsOf f0.type = 1) (c1 : P.cellsOf f1.type = 1) (ce : P.cellsOf e = 2)
    (h : DataW.trod enc P w base sp held fuel e cs = some x) : ∃ p : Ent, p.1.length ≤ maxLen ∧ RC w [.str p.1, .int .i64 p.2] cs := by
  obtain ⟨hlen, hf⟩ := rc_fields hs h
  obtain ⟨n0, y0, g0⟩ := hf 0 _ h0
  obtain ⟨n1, y1, g1⟩ := hf 1 _ h1
  rw [o0, c0] at g0
  rw [o1, c1] at g1
  rw [ce] at hlen
  obtain ⟨k, q, b0⟩ := rc_str u0 g0
  obtain ⟨c, _, b1⟩ := rc_int u1 g1
  match cs, hlen with
  | [x, y], _ => exact ⟨(k, c), q, b0.append b1⟩

theorem flat_ents : ∀ es : List (List AV), (∀ a ∈ es, ∃ p : Ent, p.1.length ≤ maxLen ∧ a = [.str p.1, .int .i64 p.2]) → ∃ l : List Ent, l.length = es.length ∧ es.flatten = entAV l ∧ ∀ p ∈ l, p.1.length ≤ maxLen := by
  intro es
  induction es with
  | nil => intro _; exact ⟨[], rfl, rfl, fun p hp => by simp at hp⟩
  | cons x es ih =>
    intro h
    obtain ⟨l, g1, g2, g3⟩ := ih (fun a ha => h a (by simp [ha]))
    obtain ⟨p, hp, rfl⟩ := h x (by simp)
    refine ⟨p :: l, by simp [g1], by rw [List.flatten_cons, g2, entAV_cons]; rfl, fun q hq => ?_⟩
    rcases List.mem_cons.1 hq with rfl | hq
    · exact hp
    · exact g3 q hq

theorem av_ents (ht : P.underlying t = some (.slice e)) (hs : P.underlying e = some (.struct fs)) (h0 : fs[0]? = some f0) (h1 : fs[1]? = some f1) (o0 : f0.offset = 0) (o1 : f1.offset = 1)
    (u0 : P.underlying f0.type = some .string) (u1 : P.underlying f1.type = some (.int .i64)) (c0 : P.cellsOf f0.type = 1) (c1 : P.cellsOf f1.type = 1) (ce : P.cellsOf e = 2)
    (hval : Value.okWide P w r b0 t v) (h : DataW.Trod enc P w base sp held t v d ps) : ∃ l : List Ent, Sz l ∧ Rep (lay0 w) 0 [] w (.sl l.length (entAV l) .none) v := by
  obtain ⟨es, ⟨g1, g2⟩, g3⟩ := av_slice (G := fun a => ∃ p : Ent, p.1.length ≤ maxLen ∧ a = [.str p.1, .int .i64 p.2]) ht (by omega) (fun n c y hy => by
    obtain ⟨p, hp, hr⟩ := rc_entry hs h0 h1 o0 o1 u0 u1 c0 c1 ce hy
    exact ⟨_, ⟨p, hp, rfl⟩, hr⟩) hval h
  obtain ⟨l, k1, k2, k3⟩ := flat_ents es g1
  rw [k2, ← k1] at g3
  exact ⟨l, ⟨by omega, k3⟩, g3⟩
end
end Go.Proofs.Ytbijefgmleagnaa
