/- Steps of the world that keep what is represented, continued: a store into a box; a row that grows in place or anew.
  Conditions: none; it speaks of every program. -/
import Derived.Test.YtneohapkboaplaaGreatAmStep
set_option linter.unusedVariables false
namespace Go.Am
open Go
theorem heap_setCell_at (w : World) (b o : Nat) (v : Value) {c : Array Value} {e : TypeId} {fr : Nat × Nat} (h : w.heap[b]? = some (.cells c e fr)) :
  (w.setCell ⟨b, o, none⟩ v).heap[b]? = some (.cells (c.setIfInBounds o v) e fr) := by
 show (w.heap.modify b _)[b]? = _
 rw [Array.getElem?_modify, if_pos rfl, h]
 rfl
theorem heap_setCell_ne (w : World) (b o : Nat) (v : Value) (x : Nat) (hx : x ≠ b) : (w.setCell ⟨b, o, none⟩ v).heap[x]? = w.heap[x]? := by
 simp only [World.setCell, Array.getElem?_modify]
 rw [if_neg (fun e => hx e.symm)]
theorem Con.setCell {L : Lay} {H : List Blk} {T : Toks} {w : World} (h : Con L H T w) {i o : Nat} {vs : List AV} (hi : H[i]? = some (.cells vs)) (ho : o < vs.length) {v : AV} {cv : Value}
  (hv : Rep L H.length T w v cv) (h1 : cv.oneCell' = true) :
  Con L (H.set i (.cells (vs.set o v))) T (w.setCell ⟨L.phi i, o, none⟩ cv) ∧
   Ev H.length T.length L H.length T w L (H.set i (.cells (vs.set o v))).length T (w.setCell ⟨L.phi i, o, none⟩ cv) := by
 have hil := (List.getElem?_eq_some_iff.1 hi).1
 obtain ⟨c, t, fr, g1, g2, g3, g3', g4, g5⟩ := h.box i _ hi
 have hcom : ∀ b o', o' < L.m b → (w.setCell ⟨L.phi i, o, none⟩ cv).cell? ⟨b, o', none⟩ = w.cell? ⟨b, o', none⟩ := by
  intro b o' hlt
  refine cell_heap (heap_setCell_ne w _ _ _ _ ?_) o'
  rintro rfl
  omega
 have kp : Keeps L H.length T w L H.length T (w.setCell ⟨L.phi i, o, none⟩ cv) :=
  ⟨Nat.le_refl _, fun _ _ => rfl, fun t u z h => ⟨u, h, Nat.le_refl _, fun _ => rfl⟩, fun _ => Nat.le_refl _, hcom, rfl⟩
 refine ⟨⟨fun j b hb => ?_, fun a b ha hb => h.inj a b (by simpa using ha) (by simpa using hb), fun t u z ht => ?_, h.tinj, fun t u z j ht hs hj => h.tbox t u z j ht hs (by simpa using hj), fun b hb => h.mz b (by simpa using hb), h.gl.keep kp.m kp.com⟩,
  by simp, fun _ _ => rfl, fun t u z _ h => ⟨u, h, Nat.le_refl _, fun _ => rfl⟩, Nat.le_refl _, fun _ => Nat.le_refl _, hcom, by simp, fun b hb hn => ?_, fun b hb => .inl (by simpa using hb), rfl, rfl, rfl, fun _ => Nat.le_refl _, rfl⟩
 ·rw [List.length_set]
  by_cases hji : i = j
  ·subst hji
   rw [List.getElem?_set_self hil] at hb
   cases hb
   refine ⟨_, t, fr, heap_setCell_at w _ _ _ g1, fun o' ho' => g2 o' (by simpa using ho'), by simpa using g3, fun j hj => ?_, fun j hj hj' => ?_, g5⟩
   ·by_cases hjo : o = j
    ·subst hjo; simpa using h1
    ·rw [Array.getElem_setIfInBounds_ne (by simpa using hj) hjo]; exact g3' j _
   ·by_cases hjo : o = j
    ·subst hjo; simpa using hv.keep kp
    ·rw [Array.getElem_setIfInBounds_ne (by simpa using hj') hjo, List.getElem_set_ne hjo]
     exact (g4 j (by simpa using hj) (by simpa using hj')).keep kp
  ·rw [List.getElem?_set_ne hji] at hb
   have hx := h.box j b hb
   have hjl := (List.getElem?_eq_some_iff.1 hb).1
   have hne : L.phi j ≠ L.phi i := fun e => hji (h.inj j i hjl hil e).symm
   exact hx.stay kp hjl (heap_setCell_ne w _ _ _ _ hne) id
 ·obtain ⟨k1, k2⟩ := h.tok t u z ht
  refine ⟨k1, fun hs => ?_⟩
  rw [heap_setCell_ne _ _ _ _ _ (h.tbox t u z i ht hs hil)]
  exact k2 hs
 ·exact heap_setCell_ne w _ _ _ _ (fun e => hn (.inl ⟨i, hil, e.symm⟩))
theorem Con.setIter {L : Lay} {H : List Blk} {T : Toks} {w : World} (h : Con L H T w) {i pos pos' : Nat} {s : List UInt8} (hi : H[i]? = some (.iter s pos)) :
  Con L (H.set i (.iter s pos')) T { w with heap := w.heap.setIfInBounds (L.phi i) (.stringIter ⟨s.toArray⟩ pos') } ∧
   Ev H.length T.length L H.length T w L (H.set i (.iter s pos')).length T { w with heap := w.heap.setIfInBounds (L.phi i) (.stringIter ⟨s.toArray⟩ pos') } := by
 have hil := (List.getElem?_eq_some_iff.1 hi).1
 have hx : w.heap[L.phi i]? = some (.stringIter ⟨s.toArray⟩ pos) := h.box i _ hi
 have hne : ∀ x, x ≠ L.phi i → (w.heap.setIfInBounds (L.phi i) (.stringIter ⟨s.toArray⟩ pos'))[x]? = w.heap[x]? := fun x hx => Array.getElem?_setIfInBounds_ne (fun e => hx e.symm)
 have hcom : ∀ b o', o' < L.m b → World.cell? { w with heap := w.heap.setIfInBounds (L.phi i) (.stringIter ⟨s.toArray⟩ pos') } ⟨b, o', none⟩ = w.cell? ⟨b, o', none⟩ := by
  intro b o' hlt
  by_cases hb : b = L.phi i
  ·subst hb
   have hlt' := h.phi_lt hil
   have h1 : (w.heap.setIfInBounds (L.phi i) (.stringIter ⟨s.toArray⟩ pos'))[L.phi i]? = some (.stringIter ⟨s.toArray⟩ pos') := by simp [hlt']
   unfold World.cell?
   simp only [hx, h1]
  ·exact cell_heap (hne b hb) o'
 have kp : Keeps L H.length T w L H.length T { w with heap := w.heap.setIfInBounds (L.phi i) (.stringIter ⟨s.toArray⟩ pos') } :=
  ⟨Nat.le_refl _, fun _ _ => rfl, fun t u z h => ⟨u, h, Nat.le_refl _, fun _ => rfl⟩, fun _ => Nat.le_refl _, hcom, rfl⟩
 refine ⟨⟨fun j b hb => ?_, fun a b ha hb => h.inj a b (by simpa using ha) (by simpa using hb), fun t u z ht => ?_, h.tinj, fun t u z j ht hs hj => h.tbox t u z j ht hs (by simpa using hj), fun b hb => h.mz b (by simpa using hb), h.gl.keep kp.m kp.com⟩,
  by simp, fun _ _ => rfl, fun t u z _ h => ⟨u, h, Nat.le_refl _, fun _ => rfl⟩, Nat.le_refl _, fun _ => Nat.le_refl _, hcom, by simp, fun b hb hn => ?_, fun b hb => .inl (by simpa using hb), rfl, rfl, rfl, fun _ => Nat.le_refl _, rfl⟩
 ·rw [List.length_set]
  by_cases hji : i = j
  ·subst hji
   rw [List.getElem?_set_self hil] at hb
   cases hb
   have := h.phi_lt hil
   simp [BoxOk, this]
  ·rw [List.getElem?_set_ne hji] at hb
   have hx := h.box j b hb
   have hjl := (List.getElem?_eq_some_iff.1 hb).1
   have hnj : L.phi j ≠ L.phi i := fun e => hji (h.inj j i hjl hil e).symm
   exact hx.stay kp hjl (hne _ hnj) id
 ·obtain ⟨k1, k2⟩ := h.tok t u z ht
  refine ⟨k1, fun hs => ?_⟩
  have := hne _ (h.tbox t u z i ht hs hil)
  simp only [this]
  exact k2 hs
 ·exact hne _ (fun e => hn (.inl ⟨i, hil, e.symm⟩))
theorem Con.grow {L : Lay} {H : List Blk} {T : Toks} {w w' : World} (h : Con L H T w) {t u z k : Nat} (ht : T[t]? = some (u, z)) (hk : 0 < k) (hs : u + k ≤ (L.tau t).c * z)
  {c c' : Array Value} {e : TypeId} {fr : Nat × Nat} (hb : w.heap[(L.tau t).b]? = some (.cells c e fr)) (hb' : w'.heap[(L.tau t).b]? = some (.cells c' e fr)) (hsz : c'.size = c.size)
  (hold : ∀ j, j < (L.tau t).o + u → c'[j]? = c[j]?) (hne : ∀ x, x ≠ (L.tau t).b → w'.heap[x]? = w.heap[x]?) (hz : w'.heap.size = w.heap.size) (ho : w'.os = w.os) (hta : w'.tape = w.tape) (hout : w'.output = w.output) (hdr : w.drawn ≤ w'.drawn) :
  Con (L.commit (L.tau t).b ((L.tau t).o + u + k)) H (T.set t (u + k, z)) w' ∧
   Ev H.length T.length L H.length T w (L.commit (L.tau t).b ((L.tau t).o + u + k)) H.length (T.set t (u + k, z)) w' := by
 have htl := (List.getElem?_eq_some_iff.1 ht).1
 obtain ⟨hz0, hrow⟩ := h.tok t u z ht
 have hsp : u < (L.tau t).c * z := by omega
 obtain ⟨c0, e0, fr0, g1, g2, g3, g4⟩ := hrow hsp
 rw [hb] at g1
 cases g1
 have hblt := h.tau_lt ht hsp
 have hcom : ∀ b o', o' < L.m b → w'.cell? ⟨b, o', none⟩ = w.cell? ⟨b, o', none⟩ := by
  intro b o' hlt
  by_cases hbb : b = (L.tau t).b
  ·subst hbb
   rw [cell_row hb, cell_row hb']
   exact hold o' (by omega)
  ·exact cell_heap (hne b hbb) o'
 have hmono : ∀ b, L.m b ≤ (L.commit (L.tau t).b ((L.tau t).o + u + k)).m b := by
  intro b
  show L.m b ≤ if b = (L.tau t).b then _ else L.m b
  split
  ·rename_i e; rw [e]; omega
  ·exact Nat.le_refl _
 have htok : ∀ (t' u' z' : Nat), T[t']? = some (u', z') → ∃ u1 : Nat, (T.set t (u + k, z))[t']? = some (u1, z') ∧ u' ≤ u1 ∧ (u1 = u' → (L.commit (L.tau t).b ((L.tau t).o + u + k)).tau t' = L.tau t') := by
  intro t' u' z' ht'
  by_cases htt : t = t'
  ·subst htt
   rw [ht] at ht'
   cases ht'
   exact ⟨u + k, by rw [List.getElem?_set_self htl], by omega, fun _ => rfl⟩
  ·exact ⟨u', by rw [List.getElem?_set_ne htt]; exact ht', Nat.le_refl _, fun _ => rfl⟩
 have kp : Keeps L H.length T w (L.commit (L.tau t).b ((L.tau t).o + u + k)) H.length (T.set t (u + k, z)) w' :=
  ⟨Nat.le_refl _, fun _ _ => rfl, htok, hmono, hcom, rfl⟩
 have hbox : ∀ i, i < H.length → L.phi i ≠ (L.tau t).b := fun i hi => (h.tbox t u z i ht hsp hi).symm
 have back : ∀ (t' u' z' : Nat), (T.set t (u + k, z))[t']? = some (u', z') → ∃ u0 : Nat, T[t']? = some (u0, z') ∧ u0 ≤ u' := by
  intro t' u' z' ht'
  by_cases htt : t = t'
  ·subst htt
   rw [List.getElem?_set_self htl] at ht'
   cases ht'
   exact ⟨u, ht, by omega⟩
  ·rw [List.getElem?_set_ne htt] at ht'
   exact ⟨u', ht', Nat.le_refl _⟩
 refine ⟨⟨fun i b hbi => ?_, h.inj, fun t' u' z' ht' => ?_, fun t1 u1 z1 t2 u2 z2 h1 h2 s1 s2 e => ?_, fun t1 u1 z1 i h1 s1 hi => ?_, fun b hbz => ?_, h.gl.keep kp.m kp.com⟩,
  Nat.le_refl _, fun _ _ => rfl, fun t' u' z' _ ht' => htok t' u' z' ht', by simp, hmono, hcom, by omega, fun b hbl hn => ?_, fun b hbw => ?_, ho, hta, hout, fun _ => hdr, rfl⟩
 ·have hx := h.box i b hbi
  have hil := (List.getElem?_eq_some_iff.1 hbi).1
  have hn := hbox i hil
  refine hx.stay kp hil (hne _ hn) fun k5 => ?_
  show (if L.phi i = (L.tau t).b then _ else L.m (L.phi i)) = 0
  rw [if_neg hn]; exact k5
 ·by_cases htt : t = t'
  ·subst htt
   rw [List.getElem?_set_self htl] at ht'
   cases ht'
   refine ⟨hz0, fun hsp' => ⟨c', e, fr, hb', by rw [hsz]; exact g2, fun o' h1 h2 => g3 o' (by simp only [Lay.commit] at h1; omega) h2, ?_⟩⟩
   show (if (L.tau t).b = (L.tau t).b then _ else _) ≤ _
   rw [if_pos rfl]; simp only [Lay.commit]; omega
  ·rw [List.getElem?_set_ne htt] at ht'
   obtain ⟨k1, k2⟩ := h.tok t' u' z' ht'
   refine ⟨k1, fun hsp' => ?_⟩
   have hbn : (L.tau t').b ≠ (L.tau t).b := fun e => htt (h.tinj t' u' z' t u z ht' ht hsp' hsp e).symm
   obtain ⟨c1, e1, fr1, m1, m2, m3, m4⟩ := k2 hsp'
   refine ⟨c1, e1, fr1, (hne _ hbn).trans m1, m2, m3, ?_⟩
   show (if (L.tau t').b = (L.tau t).b then _ else L.m (L.tau t').b) ≤ _
   rw [if_neg hbn]; exact m4
 ·obtain ⟨u1', g1, l1⟩ := back t1 u1 z1 h1
  obtain ⟨u2', g2, l2⟩ := back t2 u2 z2 h2
  have s1' : u1' < (L.tau t1).c * z1 := Nat.lt_of_le_of_lt l1 s1
  have s2' : u2' < (L.tau t2).c * z2 := Nat.lt_of_le_of_lt l2 s2
  exact h.tinj t1 u1' z1 t2 u2' z2 g1 g2 s1' s2' e
 ·obtain ⟨u1', g1, l1⟩ := back t1 u1 z1 h1
  have s1' : u1' < (L.tau t1).c * z1 := Nat.lt_of_le_of_lt l1 s1
  exact h.tbox t1 u1' z1 i g1 s1' hi
 ·show (if b = (L.tau t).b then _ else L.m b) = 0
  rw [if_neg (by omega)]; exact h.mz b (by omega)
 ·exact hne b (fun e => hn (.inr ⟨t, u, z, ht, hsp, e.symm⟩))
 ·rcases hbw with ⟨i, hi, e⟩ | ⟨t', u', z', ht', hs', e⟩
  ·exact .inl (.inl ⟨i, hi, e⟩)
  ·obtain ⟨u1', g1, l1⟩ := back t' u' z' ht'
   exact .inl (.inr ⟨t', u1', z', g1, Nat.lt_of_le_of_lt l1 hs', e⟩)
theorem Con.setTok {L : Lay} {H : List Blk} {T : Toks} {w : World} (h : Con L H T w) {t u z u' : Nat} (ht : T[t]? = some (u, z)) (hu : u < u') (k : Tk)
  (hb : u' < k.c * z → ¬ Wr L H.length T k.b) (hok : TokOk (L.withTok t k) w t u' z) : Con (L.withTok t k) H (T.set t (u', z)) w := by
 have htl := (List.getElem?_eq_some_iff.1 ht).1
 have htau : ∀ t', t' ≠ t → (L.withTok t k).tau t' = L.tau t' := fun t' hn => by simp only [Lay.withTok]; rw [if_neg hn]
 have hnew : (L.withTok t k).tau t = k := by simp [Lay.withTok]
 have kp : Keeps L H.length T w (L.withTok t k) H.length (T.set t (u', z)) w := by
  refine ⟨Nat.le_refl _, fun i hi => rfl, fun t' u1 z1 ht' => ?_, fun _ => Nat.le_refl _, fun _ _ _ => rfl, rfl⟩
  by_cases htt : t' = t
  ·subst htt
   rw [ht] at ht'
   cases ht'
   exact ⟨u', by rw [List.getElem?_set_self htl], by omega, fun e => by omega⟩
  ·exact ⟨u1, by rw [List.getElem?_set_ne (fun e => htt e.symm)]; exact ht', Nat.le_refl _, fun _ => htau t' htt⟩
 have part : ∀ (t' u1 z1 : Nat), (T.set t (u', z))[t']? = some (u1, z1) → (t' ≠ t ∧ T[t']? = some (u1, z1)) ∨ (t' = t ∧ u1 = u' ∧ z1 = z) := by
  intro t' u1 z1 h1
  by_cases htt : t' = t
  ·subst htt
   rw [List.getElem?_set_self htl] at h1
   cases h1
   exact .inr ⟨rfl, rfl, rfl⟩
  ·rw [List.getElem?_set_ne (fun e => htt e.symm)] at h1
   exact .inl ⟨htt, h1⟩
 refine ⟨fun i b hbi => ?_, h.inj, fun t' u1 z1 h1 => ?_, fun t1 u1 z1 t2 u2 z2 h1 h2 s1 s2 e => ?_, fun t1 u1 z1 i h1 s1 hi => ?_, h.mz, h.gl.keep kp.m kp.com⟩
 ·exact (h.box i b hbi).stay kp (List.getElem?_eq_some_iff.1 hbi).1 rfl id
 ·rcases part t' u1 z1 h1 with ⟨hn, g1⟩ | ⟨rfl, e1, e2⟩
  ·have := h.tok t' u1 z1 g1
   unfold TokOk at this ⊢
   rw [htau t' hn]; exact this
  ·rw [e1, e2]; exact hok
 ·rcases part t1 u1 z1 h1 with ⟨hn1, g1⟩ | ⟨r1, e1, e2⟩ <;> rcases part t2 u2 z2 h2 with ⟨hn2, g2⟩ | ⟨r2, e3, e4⟩
  ·rw [htau _ hn1] at s1 e; rw [htau _ hn2] at s2 e
   exact h.tinj t1 u1 z1 t2 u2 z2 g1 g2 s1 s2 e
  ·rw [htau _ hn1] at s1 e; rw [r2, hnew] at s2 e; rw [e3, e4] at s2
   exact absurd (.inr ⟨t1, u1, z1, g1, s1, e⟩) (hb s2)
  ·rw [htau _ hn2] at s2 e; rw [r1, hnew] at s1 e; rw [e1, e2] at s1
   exact absurd (.inr ⟨t2, u2, z2, g2, s2, e.symm⟩) (hb s1)
  ·rw [r1, r2]
 ·rcases part t1 u1 z1 h1 with ⟨hn1, g1⟩ | ⟨r1, e1, e2⟩
  ·rw [htau _ hn1] at s1 ⊢; exact h.tbox t1 u1 z1 i g1 s1 hi
  ·rw [r1, hnew] at s1 ⊢; rw [e1, e2] at s1
   exact fun e => hb s1 (.inl ⟨i, hi, e.symm⟩)
theorem Ev.setTok {L L1 : Lay} {H : List Blk} {T : Toks} {w w1 : World} {k : Tk} {t u z u' : Nat} (h : Ev H.length T.length L H.length T w L1 H.length T w1) (ht : T[t]? = some (u, z)) (hu : u < u')
  (hb : u' < k.c * z → w.heap.size ≤ k.b) : Ev H.length T.length L H.length T w (L1.withTok t k) H.length (T.set t (u', z)) w1 := by
 have htl := (List.getElem?_eq_some_iff.1 ht).1
 refine ⟨h.n, h.phi, fun t' u1 z1 hlt hT => ?_, by simp, h.m, h.com, h.size, h.frame, fun x hx => ?_, h.os, h.tape, h.output, h.drawn, h.dr⟩
 ·obtain ⟨u2, h1, h2, h3⟩ := h.tok t' u1 z1 hlt hT
  rw [hT] at h1
  by_cases htt : t' = t
  ·subst htt
   rw [ht] at hT
   cases hT
   exact ⟨u', by rw [List.getElem?_set_self htl], by omega, fun e => by omega⟩
  ·refine ⟨u1, by rw [List.getElem?_set_ne (fun e => htt e.symm)]; exact hT, Nat.le_refl _, fun e => ?_⟩
   simp only [Lay.withTok]; rw [if_neg htt]
   cases h1
   exact h3 rfl
 ·rcases hx with ⟨i, hi, e⟩ | ⟨t', u1, z1, h1, hs, e⟩
  ·exact h.wr x (.inl ⟨i, hi, e⟩)
  ·by_cases htt : t' = t
   ·subst htt
    rw [List.getElem?_set_self htl] at h1
    cases h1
    simp [Lay.withTok] at hs e
    subst e
    exact .inr (hb hs)
   ·rw [List.getElem?_set_ne (fun e => htt e.symm)] at h1
    simp only [Lay.withTok] at hs e
    rw [if_neg htt] at hs e
    exact h.wr x (.inr ⟨t', u1, z1, h1, hs, e⟩)
end Go.Am
