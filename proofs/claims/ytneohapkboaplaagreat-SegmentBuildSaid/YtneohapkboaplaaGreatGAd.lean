/- Lists of documents as arguments of the rows of layer 39.
  Conditions: none. -/
import Derived.Test.YtneohapkboaplaaGreatGArg
set_option linter.all false
set_option maxRecDepth 100000
namespace Go.Proofs.YtneohapkboaplaaGreat
open Go Go.Am Go.ChangeShapes Go.WideShapes Go.RowKit Seg
section
variable {H : Type} {enc : TypeId × Value → H} {w : World} {base fuel : Nat} {sp : Nat → Bool} {held : Bool} {cs : List Value} {x : DataW H × List MemPlace}
set_option maxRecDepth 100000 in
theorem rc_wd (h : DataW.trod enc Tryz.prog w base sp held fuel 71 cs = some x) : ∃ p : Wd, p.1.length ≤ maxLen ∧ RC w (wdC p) cs := by
 obtain ⟨hlen, hf⟩ := rc_fields Tryz.underlying71 h
 obtain ⟨n0, y0, g0'⟩ := hf 0 _ rfl
 have g0 : DataW.trod enc Tryz.prog w base sp held n0 9 ((cs.drop 0).take (Tryz.prog.cellsOf 9)) = some y0 := g0'
 obtain ⟨n1, y1, g1'⟩ := hf 1 _ rfl
 have g1 : DataW.trod enc Tryz.prog w base sp held n1 3 ((cs.drop 1).take (Tryz.prog.cellsOf 3)) = some y1 := g1'
 rw [show Tryz.prog.cellsOf 9 = 1 by kernel_rfl] at g0
 rw [show Tryz.prog.cellsOf 3 = 1 by kernel_rfl] at g1
 rw [show Tryz.prog.cellsOf 71 = 2 by kernel_rfl] at hlen
 obtain ⟨s, hs, b0⟩ := rc_str Tryz.underlying9 g0
 obtain ⟨a, _, b1⟩ := rc_int Tryz.underlying3 g1
 match cs, hlen with
 | [x, y], _ => exact ⟨(s, a), hs, b0.append b1⟩
set_option maxRecDepth 100000 in
theorem rc_nm (h : DataW.trod enc Tryz.prog w base sp held fuel 100 cs = some x) : ∃ p : Nm, True ∧ RC w (nmC p) cs := by
 obtain ⟨hlen, hf⟩ := rc_fields Tryz.underlying100 h
 obtain ⟨n0, y0, g0'⟩ := hf 0 _ rfl
 have g0 : DataW.trod enc Tryz.prog w base sp held n0 3 ((cs.drop 0).take (Tryz.prog.cellsOf 3)) = some y0 := g0'
 obtain ⟨n1, y1, g1'⟩ := hf 1 _ rfl
 have g1 : DataW.trod enc Tryz.prog w base sp held n1 3 ((cs.drop 1).take (Tryz.prog.cellsOf 3)) = some y1 := g1'
 rw [show Tryz.prog.cellsOf 3 = 1 by kernel_rfl] at g0 g1
 rw [show Tryz.prog.cellsOf 100 = 2 by kernel_rfl] at hlen
 obtain ⟨a, _, b0⟩ := rc_int Tryz.underlying3 g0
 obtain ⟨b, _, b1⟩ := rc_int Tryz.underlying3 g1
 match cs, hlen with
 | [x, y], _ => exact ⟨(a, b), trivial, b0.append b1⟩
def SzZ (z : Zn) : Prop := z.ws.length ≤ maxLen ∧ ∀ w ∈ z.ws, w.1.length ≤ maxLen
set_option maxRecDepth 100000 in
theorem rc_zn (h : DataW.trod enc Tryz.prog w base sp held fuel 98 cs = some x) : ∃ z : Zn, SzZ z ∧ RC w (znC z) cs := by
 obtain ⟨hlen, hf⟩ := rc_fields Tryz.underlying98 h
 obtain ⟨n0, y0, g0'⟩ := hf 0 _ rfl
 have g0 : DataW.trod enc Tryz.prog w base sp held n0 3 ((cs.drop 0).take (Tryz.prog.cellsOf 3)) = some y0 := g0'
 obtain ⟨n1, y1, g1'⟩ := hf 1 _ rfl
 have g1 : DataW.trod enc Tryz.prog w base sp held n1 61 ((cs.drop 1).take (Tryz.prog.cellsOf 61)) = some y1 := g1'
 rw [show Tryz.prog.cellsOf 3 = 1 by kernel_rfl] at g0
 rw [show Tryz.prog.cellsOf 61 = 1 by kernel_rfl] at g1
 rw [show Tryz.prog.cellsOf 98 = 2 by kernel_rfl] at hlen
 obtain ⟨a, _, b0⟩ := rc_int Tryz.underlying3 g0
 obtain ⟨l, q1, q2, b1⟩ := rc_list (f := wdC) (R := fun p => p.1.length ≤ maxLen) Tryz.underlying61 (by rw [show Tryz.prog.cellsOf 71 = 2 by kernel_rfl]; omega) (fun n c y hy => rc_wd hy) g1
 match cs, hlen with
 | [x, y], _ => exact ⟨⟨a, l⟩, ⟨q2, q1⟩, b0.append b1⟩
set_option maxRecDepth 100000 in
theorem rc_dc (h : DataW.trod enc Tryz.prog w base sp held fuel 66 cs = some x) : ∃ d : Dc, SzD d ∧ RC w (dcC d) cs := by
 obtain ⟨hlen, hf⟩ := rc_fields Tryz.underlying66 h
 obtain ⟨n0, y0, g0'⟩ := hf 0 _ rfl
 have g0 : DataW.trod enc Tryz.prog w base sp held n0 3 ((cs.drop 0).take (Tryz.prog.cellsOf 3)) = some y0 := g0'
 obtain ⟨n1, y1, g1'⟩ := hf 1 _ rfl
 have g1 : DataW.trod enc Tryz.prog w base sp held n1 63 ((cs.drop 1).take (Tryz.prog.cellsOf 63)) = some y1 := g1'
 obtain ⟨n2, y2, g2'⟩ := hf 2 _ rfl
 have g2 : DataW.trod enc Tryz.prog w base sp held n2 64 ((cs.drop 2).take (Tryz.prog.cellsOf 64)) = some y2 := g2'
 rw [show Tryz.prog.cellsOf 3 = 1 by kernel_rfl] at g0
 rw [show Tryz.prog.cellsOf 63 = 1 by kernel_rfl] at g1
 rw [show Tryz.prog.cellsOf 64 = 1 by kernel_rfl] at g2
 rw [show Tryz.prog.cellsOf 66 = 3 by kernel_rfl] at hlen
 obtain ⟨a, _, b0⟩ := rc_int Tryz.underlying3 g0
 obtain ⟨zs, p1, p2, b1⟩ := rc_list (f := znC) (R := SzZ) Tryz.underlying63 (by rw [show Tryz.prog.cellsOf 98 = 2 by kernel_rfl]; omega) (fun n c y hy => rc_zn hy) g1
 obtain ⟨ns, _, p4, b2⟩ := rc_list (f := nmC) (R := fun _ => True) Tryz.underlying64 (by rw [show Tryz.prog.cellsOf 100 = 2 by kernel_rfl]; omega) (fun n c y hy => rc_nm hy) g2
 match cs, hlen with
 | [x, y, z], _ => exact ⟨⟨a, zs, ns⟩, ⟨p2, p1, p4⟩, (b0.append b1).append b2⟩
set_option maxRecDepth 100000 in
theorem av_docs39 {v : Value} {d : DataW H} {ps : List MemPlace} {r : Reach} {b0 : Nat} (hval : Value.okWide Tryz.prog w r b0 22 v) (h : DataW.Trod enc Tryz.prog w base sp held 22 v d ps) :
  ∃ l : List Dc, (l.length ≤ maxLen ∧ ∀ d ∈ l, SzD d) ∧ Rep (lay0 w) 0 [] w (.sl l.length (dcAV l) .none) v := by
 obtain ⟨es, ⟨g1, g2⟩, g3⟩ := av_slice (G := fun a => ∃ p : Dc, SzD p ∧ a = dcC p) Tryz.underlying22 (by rw [show Tryz.prog.cellsOf 66 = 3 by kernel_rfl]; omega) (fun n c y hy => by
  obtain ⟨p, hp, hr⟩ := rc_dc hy
  exact ⟨_, ⟨p, hp, rfl⟩, hr⟩) hval h
 obtain ⟨l, k1, k2, k3⟩ := flat_all (R := SzD) (f := dcC) es g1
 rw [k2, ← k1] at g3
 exact ⟨l, ⟨by omega, k3⟩, g3⟩
end
end Go.Proofs.YtneohapkboaplaaGreat
