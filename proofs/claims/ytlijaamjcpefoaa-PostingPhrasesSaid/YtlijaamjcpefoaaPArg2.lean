/- Arrays of three posting lists as arguments of the rows of layer 38.
   Conditions: none. -/
import Derived.Laws.IdiomArrays
import Derived.Test.YtlijaamjcpefoaaPArg
namespace Go.Proofs.Ytlijaamjcpefoaa
open Go Go.Am Go.ChangeShapes Go.WideShapes Go.RowKit Post
set_option linter.unusedVariables false

section
variable {H : Type} {enc : TypeId × Value → H} {P : Program} {w : World} {b0 base fuel : Nat} {sp : Nat → Bool} {held : Bool} {t e s ti : TypeId} {v : Value} {d : DataW H} {ps : List MemPlace} {r : Reach} {fs : Array Field} {f0 f1 : Field} {cs : List Value} {x : DataW H × List MemPlace}

theorem list3 {α : Type} (l : List α) (h : l.length = 3) : ∃ a b c, l = [a, b, c] := by
  match l, h with
  | [a, b, c], _ => exact ⟨a, b, c, rfl⟩

theorem av_arr3 (hq : P.underlying s = some (.array 3 t)) (ct : P.cellsOf t = 1) (cq : P.cellsOf s = 3) (ht : P.underlying t = some (.slice e)) (hs : P.underlying e = some (.struct fs)) (h0 : fs[0]? = some f0) (h1 : fs[1]? = some f1) (o0 : f0.offset = 0) (o1 : f1.offset = 1)
    (u0 : P.underlying f0.type = some (.int .i64)) (u1 : P.underlying f1.type = some (.slice ti)) (ui : P.underlying ti = some (.int .i64)) (ci : 0 < P.cellsOf ti) (c0 : P.cellsOf f0.type = 1) (c1 : P.cellsOf f1.type = 1) (ce : P.cellsOf e = 2)
    (hval : Value.okWide P w r b0 s v) (h : DataW.Trod enc P w base sp held s v d ps) :
    ∃ l : PL × PL × PL, (Sz l.1 ∧ Sz l.2.1 ∧ Sz l.2.2) ∧ Rep (lay0 w) 0 [] w (.agg [.sl l.1.length (psAV l.1) .none, .sl l.2.1.length (psAV l.2.1) .none, .sl l.2.2.length (psAV l.2.2) .none]) v := by
  obtain ⟨cs, rfl, hsz, _⟩ : ∃ cs, v = .agg cs ∧ cs.size = P.cellsOf s ∧ True := by
    unfold Value.okWide at hval
    rw [hq] at hval
    cases v <;> simp at hval
    exact ⟨_, rfl, hval.1, trivial⟩
  rw [cq] at hsz
  obtain ⟨l⟩ := cs
  obtain ⟨x0, x1, x2, rfl⟩ := list3 l hsz
  obtain ⟨fuel, hf⟩ := h
  obtain ⟨y0, y1, y2, n, _, g0, g1, g2⟩ := trod_array3 hq ct hf
  obtain ⟨l0, s0, q0⟩ := rc_plist ht hs h0 h1 o0 o1 u0 u1 ui ci c0 c1 ce g0
  obtain ⟨l1, s1, q1⟩ := rc_plist ht hs h0 h1 o0 o1 u0 u1 ui ci c0 c1 ce g1
  obtain ⟨l2, s2, q2⟩ := rc_plist ht hs h0 h1 o0 o1 u0 u1 ui ci c0 c1 ce g2
  have q := q0.append (q1.append q2)
  refine ⟨(l0, l1, l2), ⟨s0, s1, s2⟩, .agg _ _ rfl (fun j hj => ?_) (fun j hj hj' => ?_)⟩
  · exact q.2.1 j hj
  · exact q.2.2 j hj hj'
end
end Go.Proofs.Ytlijaamjcpefoaa
