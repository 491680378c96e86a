/- Blocks behind the heap, a box whose cells are written anew, and what a call that makes nothing leaves: for contracts that speak of worlds.
  Conditions: none; it speaks of every program. -/
import Derived.Sort.Grow
import Derived.Deep.Draws
import Derived.Test.YtneohapkboaplaaGreatAmTup
import Derived.Test.YtneohapkboaplaaGreatAmLaw
set_option linter.unusedVariables false
namespace Go.Am
open Go Go.Sort
section
variable {P : Program} {f : FuncId} {args : List AV} {H : List Blk} {T : Toks}
theorem grow_push (w : World) (l : List Obj) (o : Obj) : Sort.grow w (o :: l).toArray = Sort.grow (w.alloc o) l.toArray := by
 unfold Sort.grow World.alloc
 congr 1
 apply Array.ext'
 simp
theorem Con.grown : ∀ (l : List Obj) {L : Lay} {w : World}, Con L H T w → ∃ L', Con L' H T (Sort.grow w l.toArray) ∧ Ev H.length T.length L H.length T w L' H.length T (Sort.grow w l.toArray)
 | [], L, w, h => by
  have e : Sort.grow w ([] : List Obj).toArray = w := Sort.grow_empty w
  rw [e]
  exact ⟨L, h, Ev.refl (Nat.le_refl _) (Nat.le_refl _)⟩
 | o :: l, L, w, h => by
  obtain ⟨L', h1, h2⟩ := Con.grown l (h.alloc o 0)
  rw [grow_push]
  exact ⟨L', h1, (Ev.alloc h o 0).trans h2⟩
theorem Con.turn {L : Lay} {w w' : World} (h : Con L H T w) {i : Nat} {vs vs' : List AV} {c c' : Array Value} {t : TypeId} {fr : Nat × Nat} (hi : H[i]? = some (.cells vs)) (hb : w.heap[L.phi i]? = some (.cells c t fr))
  (hb' : w'.heap[L.phi i]? = some (.cells c' t fr)) (hc : c'.size = c.size) (hl : vs'.length = vs.length) (h1 : ∀ (j : Nat) (h' : j < c'.size), (c'[j]'h').oneCell' = true)
  (hr : ∀ (j : Nat) (h : j < vs'.length) (h' : j < c'.size), Rep L H.length T w (vs'[j]'h) (c'[j]'h'))
  (hne : ∀ x, x ≠ L.phi i → w'.heap[x]? = w.heap[x]?) (hz : w'.heap.size = w.heap.size) (ho : w'.os = w.os) (hta : w'.tape = w.tape) (hout : w'.output = w.output) (hdr : w.drawn ≤ w'.drawn) :
  Con L (H.set i (.cells vs')) T w' ∧ Ev H.length T.length L H.length T w L (H.set i (.cells vs')).length T w' := by
 have hil := (List.getElem?_eq_some_iff.1 hi).1
 obtain ⟨c0, t0, fr0, g1, g2, g3, g3', g4, g5⟩ := h.box i _ hi
 rw [hb] at g1
 cases g1
 have hcom : ∀ b o', o' < L.m b → w'.cell? ⟨b, o', none⟩ = w.cell? ⟨b, o', none⟩ := by
  intro b o' hlt
  refine cell_heap (hne _ ?_) o'
  rintro rfl
  omega
 have kp : Keeps L H.length T w L H.length T w' :=
  ⟨Nat.le_refl _, fun _ _ => rfl, fun t u z h => ⟨u, h, Nat.le_refl _, fun _ => rfl⟩, fun _ => Nat.le_refl _, hcom, rfl⟩
 refine ⟨⟨fun j b hb => ?_, fun a b ha hb => h.inj a b (by simpa using ha) (by simpa using hb), fun t u z ht => ?_, h.tinj, fun t u z j ht hs hj => h.tbox t u z j ht hs (by simpa using hj), fun b hb => h.mz b (by omega), h.gl.keep kp.m kp.com⟩,
  by simp, fun _ _ => rfl, fun t u z _ h => ⟨u, h, Nat.le_refl _, fun _ => rfl⟩, Nat.le_refl _, fun _ => Nat.le_refl _, hcom, by omega, fun b hb hn => ?_, fun b hb => .inl (by simpa using hb), ho, hta, hout, fun _ => hdr, rfl⟩
 ·rw [List.length_set]
  by_cases hji : i = j
  ·subst hji
   rw [List.getElem?_set_self hil] at hb
   cases hb
   exact ⟨c', t, fr, hb', fun o ho => g2 o (by omega), by omega, h1, fun j hj hj' => (hr j hj hj').keep kp, g5⟩
  ·rw [List.getElem?_set_ne hji] at hb
   have hx := h.box j b hb
   have hjl := (List.getElem?_eq_some_iff.1 hb).1
   have hnp : L.phi j ≠ L.phi i := fun e => hji (h.inj j i hjl hil e).symm
   exact hx.stay kp hjl (hne _ hnp) id
 ·obtain ⟨k1, k2⟩ := h.tok t u z ht
  refine ⟨k1, fun hs => ?_⟩
  rw [hne _ (h.tbox t u z i ht hs hil)]
  exact k2 hs
 ·exact hne _ (fun e => hn (.inl ⟨i, hil, e.symm⟩))
theorem ACall.grown {r : AV} {w : World} {ca : Array Value} (h : ACall P f args [] [] (Is r [] [])) (hg : gints = []) (hs : ca.size = args.length)
  (hr : ∀ (j : Nat) (h : j < args.length) (h' : j < ca.size), Rep (lay0 w) 0 [] w (args[j]'h) (ca[j]'h')) :
  Calls P f ca w fun e w' => (∃ cv L', e = .returned cv ∧ Rep L' 0 [] w' r cv) ∧ ∃ q os', w' = Sort.grow (w.drewN q) os' := by
 refine (h.2 (lay0 w) w ca (con0 w (by rw [hg]; intro x hx; cases hx)) hs hr).mono ?_
 rintro e w' ⟨r', H', T', L', cv, ⟨rfl, rfl, rfl⟩, rfl, _, hrep, hev⟩
 refine ⟨⟨cv, L', rfl, hrep⟩, w'.drawn - w.drawn, w'.heap.extract w.heap.size w'.heap.size, ?_⟩
 have hd := hev.drawn rfl
 have hsz := hev.size
 have hh : w'.heap = w.heap ++ w'.heap.extract w.heap.size w'.heap.size := by
  apply Array.ext_getElem?
  intro k
  by_cases hk : k < w.heap.size
  ·rw [Array.getElem?_append_left hk]
   exact hev.frame k hk (fun hw => by
    rcases hw with ⟨i, hi, _⟩ | ⟨t, u, z, ht, _⟩
    ·exact Nat.not_lt_zero _ hi
    ·simp at ht)
  ·rw [Array.getElem?_append_right (by omega)]
   rw [Array.getElem?_extract]
   by_cases hk2 : k < w'.heap.size
   ·rw [if_pos (by omega)]
    congr 1
    omega
   ·rw [Array.getElem?_eq_none (by omega), if_neg (by omega)]
 unfold Sort.grow World.drewN
 have e1 := hev.os
 have e2 := hev.tape
 have e3 := hev.output
 cases w' with
 | mk heap tape drawn os output =>
  simp only at *
  subst e1; subst e2; subst e3
  simp only [World.mk.injEq]
  refine ⟨hh, trivial, by omega, trivial, trivial⟩
end
end Go.Am
