/- Steps of the world that keep what is represented: a new row, a new box, a new token, a store into a box.
  Conditions: none; it speaks of every program. -/
import Derived.Test.YtneohapkboaplaaGreatAmWp
set_option linter.unusedVariables false
namespace Go.Am
open Go
theorem heap_alloc_lt (w : World) (o : Obj) (b : Nat) (h : b < w.heap.size) : (w.alloc o).heap[b]? = w.heap[b]? := by
 show (w.heap.push o)[b]? = _
 rw [Array.getElem?_push, if_neg (by omega)]
theorem heap_alloc_at (w : World) (o : Obj) : (w.alloc o).heap[w.heap.size]? = some o := by
 show (w.heap.push o)[w.heap.size]? = _
 rw [Array.getElem?_push, if_pos rfl]
theorem cell_heap {w w' : World} {b : Nat} (h : w'.heap[b]? = w.heap[b]?) (o : Nat) : w'.cell? ⟨b, o, none⟩ = w.cell? ⟨b, o, none⟩ := by
 unfold World.cell?
 simp only [h]
theorem cell_row {w : World} {b : Nat} {c : Array Value} {e : TypeId} {fr : Nat × Nat} (h : w.heap[b]? = some (.cells c e fr)) (o : Nat) : w.cell? ⟨b, o, none⟩ = c[o]? := by
 unfold World.cell?
 simp only [h]
 simp
theorem Con.drew {L : Lay} {H : List Blk} {T : Toks} {w w' : World} (h : Con L H T w) (hh : w'.heap = w.heap) : Con L H T w' := by
 have kp : Keeps L H.length T w L H.length T w' := ⟨Nat.le_refl _, fun _ _ => rfl, fun t u z h => ⟨u, h, Nat.le_refl _, fun _ => rfl⟩, fun _ => Nat.le_refl _, fun b o _ => cell_heap (by rw [hh]) o, rfl⟩
 refine ⟨fun i b hb => ?_, h.inj, fun t u z ht => ?_, h.tinj, h.tbox, fun b hb => h.mz b (by rw [← hh]; exact hb), h.gl.keep kp.m kp.com⟩
 ·exact (h.box i b hb).stay kp (List.getElem?_eq_some_iff.1 hb).1 (by rw [hh]) id
 ·obtain ⟨h1, h2⟩ := h.tok t u z ht
  exact ⟨h1, fun hs => by rw [hh]; exact h2 hs⟩
theorem Ev.drew {L : Lay} {H : List Blk} {T : Toks} {w w' : World} (hh : w'.heap = w.heap) (ho : w'.os = w.os) (ht : w'.tape = w.tape) (hout : w'.output = w.output) (hdr : w.drawn ≤ w'.drawn) :
  Ev H.length T.length L H.length T w L H.length T w' :=
 ⟨Nat.le_refl _, fun _ _ => rfl, fun t u z _ h => ⟨u, h, Nat.le_refl _, fun _ => rfl⟩, Nat.le_refl _, fun _ => Nat.le_refl _, fun b o _ => cell_heap (by rw [hh]) o, by rw [hh]; exact Nat.le_refl _,
  fun b _ _ => by rw [hh], fun b hb => .inl hb, ho, ht, hout, fun _ => hdr, rfl⟩
def Lay.commit (L : Lay) (b k : Nat) : Lay := { L with m := fun x => if x = b then k else L.m x }
def Lay.withBox (L : Lay) (i b : Nat) : Lay := { L with phi := fun x => if x = i then b else L.phi x }
def Lay.withTok (L : Lay) (t : Nat) (k : Tk) : Lay := { L with tau := fun x => if x = t then k else L.tau x }
theorem Ev.alloc {L : Lay} {H : List Blk} {T : Toks} {w : World} (h : Con L H T w) (o : Obj) (k : Nat) :
  Ev H.length T.length L H.length T w (L.commit w.heap.size k) H.length T (w.alloc o) := by
 refine ⟨Nat.le_refl _, fun _ _ => rfl, fun t u z _ h => ⟨u, h, Nat.le_refl _, fun _ => rfl⟩, Nat.le_refl _, fun b => ?_, fun b o' ho => ?_, by simp, fun b hb _ => heap_alloc_lt w o b hb,
  fun b hb => .inl hb, rfl, rfl, rfl, fun _ => Nat.le_refl _, rfl⟩
 ·show L.m b ≤ if b = w.heap.size then k else L.m b
  split
  ·rename_i e; rw [h.mz b (by omega)]; exact Nat.zero_le _
  ·exact Nat.le_refl _
 ·have hb : b < w.heap.size := by
   rcases Nat.lt_or_ge b w.heap.size with h1 | h1
   ·exact h1
   ·rw [h.mz b h1] at ho; omega
  exact cell_heap (heap_alloc_lt w o b hb) o'
theorem Con.alloc {L : Lay} {H : List Blk} {T : Toks} {w : World} (h : Con L H T w) (o : Obj) (k : Nat) : Con (L.commit w.heap.size k) H T (w.alloc o) := by
 have kp := (Ev.alloc h o k).keeps
 refine ⟨fun i b hb => ?_, h.inj, fun t u z ht => ?_, h.tinj, h.tbox, fun b hb => ?_, h.gl.keep kp.m kp.com⟩
 ·have hlt := (h.box i b hb).lt
  refine (h.box i b hb).stay kp (List.getElem?_eq_some_iff.1 hb).1 (heap_alloc_lt w o _ hlt) fun h5 => ?_
  show (if L.phi i = w.heap.size then k else L.m (L.phi i)) = 0
  rw [if_neg (by omega)]; exact h5
 ·obtain ⟨h1, h2⟩ := h.tok t u z ht
  refine ⟨h1, fun hs => ?_⟩
  have hlt := h.tau_lt ht hs
  obtain ⟨c, e, fr, g1, g2, g3, g4⟩ := h2 hs
  refine ⟨c, e, fr, by show (w.alloc o).heap[(L.tau t).b]? = _; rw [heap_alloc_lt w o _ hlt]; exact g1, g2, g3, ?_⟩
  show (if (L.tau t).b = w.heap.size then k else L.m (L.tau t).b) ≤ _
  rw [if_neg (by omega)]; exact g4
 ·have : w.heap.size + 1 ≤ b := by simpa using hb
  show (if b = w.heap.size then k else L.m b) = 0
  rw [if_neg (by omega)]; exact h.mz b (by omega)
theorem Con.not_wr {L : Lay} {H : List Blk} {T : Toks} {w : World} (h : Con L H T w) {b : Nat} (hb : w.heap.size ≤ b) : ¬ Wr L H.length T b := fun hw => by
 have := h.wr_lt hw; omega
theorem Con.addBox {L : Lay} {H : List Blk} {T : Toks} {w : World} (h : Con L H T w) (b : Nat) (hb : ¬ Wr L H.length T b) (blk : Blk) (hz : w.heap.size ≤ b → False)
  (hbox : BoxOk (L.withBox H.length b) (H.length + 1) T w H.length blk) : Con (L.withBox H.length b) (H ++ [blk]) T w := by
 have hphi : ∀ i, i < H.length → (L.withBox H.length b).phi i = L.phi i := fun i hi => by simp only [Lay.withBox]; rw [if_neg (by omega)]
 have hnew : (L.withBox H.length b).phi H.length = b := by simp [Lay.withBox]
 have kp : Keeps L H.length T w (L.withBox H.length b) (H ++ [blk]).length T w :=
  ⟨by simp, fun i hi => hphi i hi, fun t u z h => ⟨u, h, Nat.le_refl _, fun _ => rfl⟩, fun _ => Nat.le_refl _, fun _ _ _ => rfl, rfl⟩
 have hnb : ∀ i, i < H.length → L.phi i ≠ b := fun i hi e => hb (.inl ⟨i, hi, e⟩)
 refine ⟨fun i x hx => ?_, fun i j hi hj e => ?_, fun t u z ht => h.tok t u z ht, h.tinj, fun t u z i ht hs hi => ?_, h.mz, h.gl.keep kp.m kp.com⟩
 ·rcases Nat.lt_or_ge i H.length with hi | hi
  ·rw [List.getElem?_append_left hi] at hx
   have := (h.box i x hx).stay kp hi rfl id
   exact this
  ·have hi' : i = H.length := by
    have := (List.getElem?_eq_some_iff.1 hx).1
    simp at this; omega
   subst hi'
   simp at hx
   subst hx
   simpa using hbox
 ·simp at hi hj
  rcases Nat.lt_or_ge i H.length with hi' | hi' <;> rcases Nat.lt_or_ge j H.length with hj' | hj'
  ·rw [hphi i hi', hphi j hj'] at e; exact h.inj i j hi' hj' e
  ·have : j = H.length := by omega
   subst this; rw [hphi i hi', hnew] at e; exact absurd e (hnb i hi')
  ·have : i = H.length := by omega
   subst this; rw [hphi j hj', hnew] at e; exact absurd e.symm (hnb j hj')
  ·omega
 ·simp at hi
  rcases Nat.lt_or_ge i H.length with hi' | hi'
  ·rw [hphi i hi']; exact h.tbox t u z i ht hs hi'
  ·have : i = H.length := by omega
   subst this; rw [hnew]
   intro e
   exact hb (.inr ⟨t, u, z, ht, hs, e⟩)
theorem Ev.addBox {L L1 : Lay} {H : List Blk} {T : Toks} {w w1 : World} {b : Nat} (blk : Blk) (h : Ev H.length T.length L H.length T w L1 H.length T w1) (hb : w.heap.size ≤ b) :
  Ev H.length T.length L H.length T w (L1.withBox H.length b) (H ++ [blk]).length T w1 := by
 refine ⟨by simp, fun i hi => ?_, h.tok, h.t, h.m, h.com, h.size, h.frame, fun x hx => ?_, h.os, h.tape, h.output, h.drawn, h.dr⟩
 ·simp only [Lay.withBox]; rw [if_neg (by omega)]; exact h.phi i hi
 ·rcases hx with ⟨i, hi, e⟩ | ⟨t, u, z, ht, hs, e⟩
  ·simp at hi
   rcases Nat.lt_or_ge i H.length with hi' | hi'
   ·exact h.wr x (.inl ⟨i, hi', by simp only [Lay.withBox] at e; rwa [if_neg (by omega)] at e⟩)
   ·have : i = H.length := by omega
    subst this
    simp [Lay.withBox] at e
    exact .inr (by omega)
  ·exact h.wr x (.inr ⟨t, u, z, ht, hs, e⟩)
theorem Con.addTok {L : Lay} {H : List Blk} {T : Toks} {w : World} (h : Con L H T w) (k : Tk) (u z : Nat) (hb : u < k.c * z → ¬ Wr L H.length T k.b)
  (hok : TokOk (L.withTok T.length k) w T.length u z) : Con (L.withTok T.length k) H (T ++ [(u, z)]) w := by
 have htau : ∀ t, t < T.length → (L.withTok T.length k).tau t = L.tau t := fun t ht => by simp only [Lay.withTok]; rw [if_neg (by omega)]
 have hnew : (L.withTok T.length k).tau T.length = k := by simp [Lay.withTok]
 have kp : Keeps L H.length T w (L.withTok T.length k) H.length (T ++ [(u, z)]) w := by
  refine ⟨Nat.le_refl _, fun i hi => rfl, fun t u' z' ht => ?_, fun _ => Nat.le_refl _, fun _ _ _ => rfl, rfl⟩
  have hlt := (List.getElem?_eq_some_iff.1 ht).1
  exact ⟨u', by rw [List.getElem?_append_left hlt]; exact ht, Nat.le_refl _, fun _ => htau t hlt⟩
 have part : ∀ t u' z', (T ++ [(u, z)])[t]? = some (u', z') → (t < T.length ∧ T[t]? = some (u', z')) ∨ (t = T.length ∧ u' = u ∧ z' = z) := by
  intro t u' z' ht
  rcases Nat.lt_or_ge t T.length with hlt | hge
  ·rw [List.getElem?_append_left hlt] at ht; exact .inl ⟨hlt, ht⟩
  ·have h1 := (List.getElem?_eq_some_iff.1 ht).1
   simp at h1
   have : t = T.length := by omega
   subst this
   simp at ht
   exact .inr ⟨rfl, ht.1.symm, ht.2.symm⟩
 refine ⟨fun i b hb => ?_, h.inj, fun t u' z' ht => ?_, fun t u1 z1 t' u2 z2 h1 h2 s1 s2 e => ?_, fun t u1 z1 i h1 s1 hi => ?_, h.mz, h.gl.keep kp.m kp.com⟩
 ·exact (h.box i b hb).stay kp (List.getElem?_eq_some_iff.1 hb).1 rfl id
 ·rcases part t u' z' ht with ⟨hlt, ht⟩ | ⟨rfl, rfl, rfl⟩
  ·have := h.tok t u' z' ht
   unfold TokOk at this ⊢
   rw [htau t hlt]; exact this
  ·exact hok
 ·rcases part t u1 z1 h1 with ⟨hlt, g1⟩ | ⟨rfl, e1, e2⟩ <;> rcases part t' u2 z2 h2 with ⟨hlt', g2⟩ | ⟨rfl, e3, e4⟩
  ·rw [htau _ hlt] at s1 e; rw [htau _ hlt'] at s2 e
   exact h.tinj t u1 z1 t' u2 z2 g1 g2 s1 s2 e
  ·rw [htau _ hlt] at s1 e; rw [hnew] at s2 e; rw [e3, e4] at s2
   exact absurd (.inr ⟨t, u1, z1, g1, s1, e⟩) (hb s2)
  ·rw [htau _ hlt'] at s2 e; rw [hnew] at s1 e; rw [e1, e2] at s1
   exact absurd (.inr ⟨t', u2, z2, g2, s2, e.symm⟩) (hb s1)
  ·rfl
 ·rcases part t u1 z1 h1 with ⟨hlt, h1⟩ | ⟨rfl, rfl, rfl⟩
  ·rw [htau _ hlt] at s1 ⊢; exact h.tbox t u1 z1 i h1 s1 hi
  ·rw [hnew] at s1 ⊢
   exact fun e => hb s1 (.inl ⟨i, hi, e.symm⟩)
theorem Ev.addTok {L L1 : Lay} {H : List Blk} {T : Toks} {w w1 : World} {k : Tk} {u z : Nat} (h : Ev H.length T.length L H.length T w L1 H.length T w1) (hb : u < k.c * z → w.heap.size ≤ k.b ∨ Wr L H.length T k.b) :
  Ev H.length T.length L H.length T w (L1.withTok T.length k) H.length (T ++ [(u, z)]) w1 := by
 refine ⟨h.n, h.phi, fun t u' z' ht hT => ?_, by simp, h.m, h.com, h.size, h.frame, fun x hx => ?_, h.os, h.tape, h.output, h.drawn, h.dr⟩
 ·obtain ⟨u1, h1, h2, h3⟩ := h.tok t u' z' ht hT
  refine ⟨u1, by rw [List.getElem?_append_left ht]; exact h1, h2, fun e => ?_⟩
  simp only [Lay.withTok]; rw [if_neg (by omega)]; exact h3 e
 ·rcases hx with ⟨i, hi, e⟩ | ⟨t, u1, z1, ht, hs, e⟩
  ·exact h.wr x (.inl ⟨i, hi, e⟩)
  ·rcases Nat.lt_or_ge t T.length with hlt | hge
   ·rw [List.getElem?_append_left hlt] at ht
    simp only [Lay.withTok] at hs e
    rw [if_neg (by omega)] at hs e
    exact h.wr x (.inr ⟨t, u1, z1, ht, hs, e⟩)
   ·have h1 := (List.getElem?_eq_some_iff.1 ht).1
    simp at h1
    have : t = T.length := by omega
    subst this
    simp at ht
    simp [Lay.withTok] at hs e
    obtain ⟨rfl, rfl⟩ := ht
    subst e
    rcases hb hs with g | g
    ·exact .inr g
    ·exact .inl g
end Go.Am
