/- Call numbers as arguments of the rows of layer 52.
   Conditions: none. -/
import Derived.OpenShut
import Derived.Test.YtnmlpohhommagaaGreatDoorAmArg
import Derived.Test.YtnmlpohhommagaaGreatDoorCA
namespace Go.Proofs.YtnmlpohhommagaaGreatDoor
open Go Go.Am Go.ChangeShapes Go.WideShapes Go.RowKit Cn
set_option linter.unusedVariables false
set_option maxRecDepth 100000

section
variable {H : Type} {enc : TypeId × Value → H} {w : World} {base fuel : Nat} {sp : Nat → Bool} {held : Bool} {cs : List Value} {x : DataW H × List MemPlace}

set_option maxRecDepth 100000 in
theorem rc_cl (h : DataW.trod enc Tryz.prog w base sp held fuel 24 cs = some x) : ∃ c : Cl, c.cut.length ≤ maxLen ∧ RC w (clAV c .none) cs := by
  obtain ⟨hlen, hf⟩ := rc_fields Tryz.underlying24 h
  obtain ⟨n0, y0, g0'⟩ := hf 0 _ rfl
  have g0 : DataW.trod enc Tryz.prog w base sp held n0 3 ((cs.drop 0).take (Tryz.prog.cellsOf 3)) = some y0 := g0'
  obtain ⟨n1, y1, g1'⟩ := hf 1 _ rfl
  have g1 : DataW.trod enc Tryz.prog w base sp held n1 9 ((cs.drop 1).take (Tryz.prog.cellsOf 9)) = some y1 := g1'
  obtain ⟨n2, y2, g2'⟩ := hf 2 _ rfl
  have g2 : DataW.trod enc Tryz.prog w base sp held n2 3 ((cs.drop 2).take (Tryz.prog.cellsOf 3)) = some y2 := g2'
  obtain ⟨n3, y3, g3'⟩ := hf 3 _ rfl
  have g3 : DataW.trod enc Tryz.prog w base sp held n3 9 ((cs.drop 3).take (Tryz.prog.cellsOf 9)) = some y3 := g3'
  obtain ⟨n4, y4, g4'⟩ := hf 4 _ rfl
  have g4 : DataW.trod enc Tryz.prog w base sp held n4 22 ((cs.drop 4).take (Tryz.prog.cellsOf 22)) = some y4 := g4'
  obtain ⟨n5, y5, g5'⟩ := hf 5 _ rfl
  have g5 : DataW.trod enc Tryz.prog w base sp held n5 3 ((cs.drop 5).take (Tryz.prog.cellsOf 3)) = some y5 := g5'
  obtain ⟨n6, y6, g6'⟩ := hf 6 _ rfl
  have g6 : DataW.trod enc Tryz.prog w base sp held n6 9 ((cs.drop 6).take (Tryz.prog.cellsOf 9)) = some y6 := g6'
  have c3 : Tryz.prog.cellsOf 3 = 1 := by kernel_rfl
  have c9 : Tryz.prog.cellsOf 9 = 1 := by kernel_rfl
  have c22 : Tryz.prog.cellsOf 22 = 1 := by kernel_rfl
  have c24 : Tryz.prog.cellsOf 24 = 7 := by kernel_rfl
  rw [c3] at g0
  rw [c9] at g1
  rw [c3] at g2
  rw [c9] at g3
  rw [c22] at g4
  rw [c3] at g5
  rw [c9] at g6
  rw [c24] at hlen
  obtain ⟨a0, _, b0⟩ := rc_int Tryz.underlying3 g0
  obtain ⟨a1, _, b1⟩ := rc_str Tryz.underlying9 g1
  obtain ⟨a2, _, b2⟩ := rc_int Tryz.underlying3 g2
  obtain ⟨a3, _, b3⟩ := rc_str Tryz.underlying9 g3
  obtain ⟨a4, _, h4, b4⟩ := rc_texts Tryz.underlying22 Tryz.underlying9 (by rw [c9]; omega) g4
  obtain ⟨a5, _, b5⟩ := rc_int Tryz.underlying3 g5
  obtain ⟨a6, _, b6⟩ := rc_str Tryz.underlying9 g6
  match cs, hlen with
  | [x0, x1, x2, x3, x4, x5, x6], _ => exact ⟨⟨a0, a1, a2, a3, a4, a5, a6⟩, h4, ((((((b0.append b1).append b2).append b3).append b4).append b5).append b6)⟩

set_option maxRecDepth 100000 in
/-- What an aggregate's cells are. -/
theorem agg_of {t : TypeId} {v : Value} {r : Reach} {b0 : Nat} (hval : Value.okWide Tryz.prog w r b0 t v) (hs : (∃ fs, Tryz.prog.underlying t = some (.struct fs)) ∨ ∃ n e, Tryz.prog.underlying t = some (.array n e)) : ∃ l : List Value, v = .agg ⟨l⟩ := by
  unfold Value.okWide at hval
  rcases hs with ⟨fs, hs⟩ | ⟨n, e, hs⟩ <;> rw [hs] at hval <;> obtain ⟨⟨l⟩, h, _⟩ := hval <;> exact ⟨l, h⟩
theorem RC.aggRep {a : List AV} {l : List Value} (h : RC w a l) : Rep (lay0 w) 0 [] w (.agg a) (.agg ⟨l⟩) :=
  (.agg _ _ h.1 (fun j hj => h.2.1 j hj) (fun j hj hj' => h.2.2 j hj hj'))
set_option maxRecDepth 100000 in
theorem av_cl {v : Value} {d : DataW H} {ps : List MemPlace} {r : Reach} {b0 : Nat} (hval : Value.okWide Tryz.prog w r b0 24 v) (h : DataW.Trod enc Tryz.prog w base sp held 24 v d ps) : ∃ c : Cl, c.cut.length ≤ maxLen ∧ Rep (lay0 w) 0 [] w (.agg (clAV c .none)) v := by
  obtain ⟨l, rfl⟩ := agg_of hval (.inl ⟨_, Tryz.underlying24⟩)
  obtain ⟨fuel, hf⟩ := h
  obtain ⟨c, h1, q⟩ := rc_cl hf
  exact ⟨c, h1, RC.aggRep q⟩
theorem split3 {α : Type} (l : List α) (h : l.length = 21) : l = (l.drop (0 * 7)).take 7 ++ ((l.drop (1 * 7)).take 7 ++ (l.drop (2 * 7)).take 7) := by
  match l, h with
  | [_, _, _, _, _, _, _, _, _, _, _, _, _, _, _, _, _, _, _, _, _], _ => rfl
theorem split2 {α : Type} (l : List α) (h : l.length = 2) : l = (l.drop (0 * 1)).take 1 ++ (l.drop (1 * 1)).take 1 := by
  match l, h with
  | [_, _], _ => rfl
set_option maxRecDepth 100000 in
theorem av_cl3 {v : Value} {d : DataW H} {ps : List MemPlace} {r : Reach} {b0 : Nat} (hval : Value.okWide Tryz.prog w r b0 25 v) (h : DataW.Trod enc Tryz.prog w base sp held 25 v d ps) :
    ∃ p : Cl × Cl × Cl, (p.1.cut.length ≤ maxLen ∧ p.2.1.cut.length ≤ maxLen ∧ p.2.2.cut.length ≤ maxLen) ∧ Rep (lay0 w) 0 [] w (.agg (clAV p.1 .none ++ clAV p.2.1 .none ++ clAV p.2.2 .none)) v := by
  obtain ⟨l, rfl⟩ := agg_of hval (.inr ⟨_, _, Tryz.underlying25⟩)
  obtain ⟨fuel, hf⟩ := h
  obtain ⟨xs, m, _, _, hlen, hx, hi⟩ := DataW.trod_array Tryz.underlying25 hf
  have c25 : Tryz.prog.cellsOf 25 = 21 := by kernel_rfl
  have c24 : Tryz.prog.cellsOf 24 = 7 := by kernel_rfl
  rw [c25] at hlen
  rw [c24] at hi
  have g0 := hi 0 (by omega)
  have g1 := hi 1 (by omega)
  have g2 := hi 2 (by omega)
  rw [List.getElem?_eq_getElem (by omega)] at g0 g1 g2
  obtain ⟨a, h0, q0⟩ := rc_cl g0
  obtain ⟨b, h1, q1⟩ := rc_cl g1
  obtain ⟨c, h2, q2⟩ := rc_cl g2
  refine ⟨(a, b, c), ⟨h0, h1, h2⟩, ?_⟩
  have hl := split3 l hlen
  rw [hl]
  refine RC.aggRep ?_
  rw [List.append_assoc]
  exact q0.append (q1.append q2)
set_option maxRecDepth 100000 in
theorem av_str2 {v : Value} {d : DataW H} {ps : List MemPlace} {r : Reach} {b0 : Nat} (hval : Value.okWide Tryz.prog w r b0 32 v) (h : DataW.Trod enc Tryz.prog w base sp held 32 v d ps) :
    ∃ p : List UInt8 × List UInt8, (p.1.length ≤ maxLen ∧ p.2.length ≤ maxLen) ∧ Rep (lay0 w) 0 [] w (.agg [.str p.1, .str p.2]) v := by
  obtain ⟨l, rfl⟩ := agg_of hval (.inr ⟨_, _, Tryz.underlying32⟩)
  obtain ⟨fuel, hf⟩ := h
  obtain ⟨xs, m, _, _, hlen, hx, hi⟩ := DataW.trod_array Tryz.underlying32 hf
  have c32 : Tryz.prog.cellsOf 32 = 2 := by kernel_rfl
  have c9 : Tryz.prog.cellsOf 9 = 1 := by kernel_rfl
  rw [c32] at hlen
  replace hlen : l.length = 2 := hlen
  rw [c9] at hi
  have g0 := hi 0 (by omega)
  have g1 := hi 1 (by omega)
  rw [List.getElem?_eq_getElem (by omega)] at g0 g1
  have e0 : (l.drop (0 * 1)).take 1 = [l[0]'(by omega)] := by
    match l, hlen with
    | [_, _], _ => rfl
  have e1 : (l.drop (1 * 1)).take 1 = [l[1]'(by omega)] := by
    match l, hlen with
    | [_, _], _ => rfl
  obtain ⟨a, h0, q0⟩ := rc_str Tryz.underlying9 g0
  obtain ⟨b, h1, q1⟩ := rc_str Tryz.underlying9 g1
  refine ⟨(a, b), ⟨h0, h1⟩, ?_⟩
  have hl := split2 l hlen
  rw [hl]
  exact RC.aggRep (q0.append q1)
end
end Go.Proofs.YtnmlpohhommagaaGreatDoor
