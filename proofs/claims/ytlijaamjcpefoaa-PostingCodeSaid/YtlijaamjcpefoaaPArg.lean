/- Posting lists as arguments of the rows of layer 38.
   Conditions: none. -/
import Derived.Test.YtlijaamjcpefoaaAmArg
import Derived.Test.YtlijaamjcpefoaaPC
namespace Go.Proofs.Ytlijaamjcpefoaa
open Go Go.Am Go.ChangeShapes Go.WideShapes Go.RowKit Post
set_option linter.unusedVariables false

/-- What is read of an argument: lengths that a machine can have. -/
def Sz (l : PL) : Prop := l.length ≤ maxLen ∧ ∀ p ∈ l, p.2.length ≤ maxLen

section
variable {H : Type} {enc : TypeId × Value → H} {P : Program} {w : World} {b0 base fuel : Nat} {sp : Nat → Bool} {held : Bool} {t e s ti : TypeId} {v : Value} {d : DataW H} {ps : List MemPlace} {r : Reach} {fs : Array Field} {f0 f1 : Field} {cs : List Value} {x : DataW H × List MemPlace}

theorem rc_post (hs : P.underlying e = some (.struct fs)) (h0 : fs[0]? = some f0) (h1 : fs[1]? = some f1) (o0 : f0.offset = 0) (o1 : f1.offset = 1)
    (u0 : P.underlying f0.type = some (.int .i64)) (u1 : P.underlying f1.type = some (.slice ti)) (ui : P.underlying ti = some (.int .i64)) (ci : 0 < P.cellsOf ti) (c0 : P.cellsOf f0.type = 1) (c1 : P.cellsOf f1.type = 1) (ce : P.cellsOf e = 2)
    (h : DataW.trod enc P w base sp held fuel e cs = some x) : ∃ p : Int × List Int, p.2.length ≤ maxLen ∧ RC w [.int .i64 p.1, .sl p.2.length (ints p.2) .none] cs := by
  obtain ⟨hlen, hf⟩ := rc_fields hs h
  obtain ⟨n0, y0, g0⟩ := hf 0 _ h0
  obtain ⟨n1, y1, g1⟩ := hf 1 _ h1
  rw [o0, c0] at g0
  rw [o1, c1] at g1
  rw [ce] at hlen
  obtain ⟨k, _, b0⟩ := rc_int u0 g0
  obtain ⟨c, _, q, b1⟩ := rc_ints u1 ui ci g1
  match cs, hlen with
  | [x, y], _ => exact ⟨(k, c), q, b0.append b1⟩

theorem flat_ps : ∀ es : List (List AV), (∀ a ∈ es, ∃ p : Int × List Int, p.2.length ≤ maxLen ∧ a = [.int .i64 p.1, .sl p.2.length (ints p.2) .none]) → ∃ l : PL, l.length = es.length ∧ es.flatten = psAV l ∧ ∀ p ∈ l, p.2.length ≤ maxLen := by
  intro es
  induction es with
  | nil => intro _; exact ⟨[], rfl, rfl, fun p hp => by simp at hp⟩
  | cons x es ih =>
    intro h
    obtain ⟨l, g1, g2, g3⟩ := ih (fun a ha => h a (by simp [ha]))
    obtain ⟨p, hp, rfl⟩ := h x (by simp)
    refine ⟨p :: l, by simp [g1], by rw [List.flatten_cons, g2, psAV_cons]; rfl, fun q hq => ?_⟩
    rcases List.mem_cons.1 hq with rfl | hq
    · exact hp
    · exact g3 q hq

theorem rc_plist (ht : P.underlying t = some (.slice e)) (hs : P.underlying e = some (.struct fs)) (h0 : fs[0]? = some f0) (h1 : fs[1]? = some f1) (o0 : f0.offset = 0) (o1 : f1.offset = 1)
    (u0 : P.underlying f0.type = some (.int .i64)) (u1 : P.underlying f1.type = some (.slice ti)) (ui : P.underlying ti = some (.int .i64)) (ci : 0 < P.cellsOf ti) (c0 : P.cellsOf f0.type = 1) (c1 : P.cellsOf f1.type = 1) (ce : P.cellsOf e = 2)
    (h : DataW.trod enc P w base sp held fuel t cs = some x) : ∃ l : PL, Sz l ∧ RC w [.sl l.length (psAV l) .none] cs := by
  obtain ⟨es, g1, g2, g3⟩ := rc_slice (G := fun a => ∃ p : Int × List Int, p.2.length ≤ maxLen ∧ a = [.int .i64 p.1, .sl p.2.length (ints p.2) .none]) ht (by omega) (fun n c y hy => by
    obtain ⟨p, hp, hr⟩ := rc_post hs h0 h1 o0 o1 u0 u1 ui ci c0 c1 ce hy
    exact ⟨_, ⟨p, hp, rfl⟩, hr⟩) h
  obtain ⟨l, k1, k2, k3⟩ := flat_ps es g1
  rw [k2, ← k1] at g3
  exact ⟨l, ⟨by omega, k3⟩, g3⟩

theorem av_plist (ht : P.underlying t = some (.slice e)) (hs : P.underlying e = some (.struct fs)) (h0 : fs[0]? = some f0) (h1 : fs[1]? = some f1) (o0 : f0.offset = 0) (o1 : f1.offset = 1)
    (u0 : P.underlying f0.type = some (.int .i64)) (u1 : P.underlying f1.type = some (.slice ti)) (ui : P.underlying ti = some (.int .i64)) (ci : 0 < P.cellsOf ti) (c0 : P.cellsOf f0.type = 1) (c1 : P.cellsOf f1.type = 1) (ce : P.cellsOf e = 2)
    (hval : Value.okWide P w r b0 t v) (h : DataW.Trod enc P w base sp held t v d ps) : ∃ l : PL, Sz l ∧ Rep (lay0 w) 0 [] w (.sl l.length (psAV l) .none) v := by
  obtain ⟨a, l, c, rfl⟩ := okWide_slice ht hval
  obtain ⟨fuel, hf⟩ := h
  obtain ⟨m, h1, h2⟩ := rc_plist ht hs h0 h1 o0 o1 u0 u1 ui ci c0 c1 ce hf
  exact ⟨m, h1, h2.rep⟩

theorem flat_pls : ∀ es : List (List AV), (∀ a ∈ es, ∃ l : PL, Sz l ∧ a = [.sl l.length (psAV l) .none]) → ∃ l : List PL, l.length = es.length ∧ es.flatten = plsAV l ∧ ∀ x ∈ l, Sz x := by
  intro es
  induction es with
  | nil => intro _; exact ⟨[], rfl, rfl, fun p hp => by simp at hp⟩
  | cons x es ih =>
    intro h
    obtain ⟨l, g1, g2, g3⟩ := ih (fun a ha => h a (by simp [ha]))
    obtain ⟨p, hp, rfl⟩ := h x (by simp)
    refine ⟨p :: l, by simp [g1], by rw [List.flatten_cons, g2]; rfl, fun q hq => ?_⟩
    rcases List.mem_cons.1 hq with rfl | hq
    · exact hp
    · exact g3 q hq

theorem av_plists (hq : P.underlying s = some (.slice t)) (ct : 0 < P.cellsOf t) (ht : P.underlying t = some (.slice e)) (hs : P.underlying e = some (.struct fs)) (h0 : fs[0]? = some f0) (h1 : fs[1]? = some f1) (o0 : f0.offset = 0) (o1 : f1.offset = 1)
    (u0 : P.underlying f0.type = some (.int .i64)) (u1 : P.underlying f1.type = some (.slice ti)) (ui : P.underlying ti = some (.int .i64)) (ci : 0 < P.cellsOf ti) (c0 : P.cellsOf f0.type = 1) (c1 : P.cellsOf f1.type = 1) (ce : P.cellsOf e = 2)
    (hval : Value.okWide P w r b0 s v) (h : DataW.Trod enc P w base sp held s v d ps) : ∃ l : List PL, (l.length ≤ maxLen ∧ ∀ x ∈ l, Sz x) ∧ Rep (lay0 w) 0 [] w (.sl l.length (plsAV l) .none) v := by
  obtain ⟨a, l, c, rfl⟩ := okWide_slice hq hval
  obtain ⟨fuel, hf⟩ := h
  obtain ⟨es, g1, g2, g3⟩ := rc_slice (G := fun a => ∃ l : PL, Sz l ∧ a = [.sl l.length (psAV l) .none]) hq ct (fun n c y hy => by
    obtain ⟨l, hl, hr⟩ := rc_plist ht hs h0 h1 o0 o1 u0 u1 ui ci c0 c1 ce hy
    exact ⟨_, ⟨l, hl, rfl⟩, hr⟩) hf
  obtain ⟨l, k1, k2, k3⟩ := flat_pls es g1
  rw [k2, ← k1] at g3
  exact ⟨l, ⟨by omega, k3⟩, g3.rep⟩
end
end Go.Proofs.Ytlijaamjcpefoaa
