/- Boxes that are finished become immutable, however deep they lie.
  Conditions: none; it speaks of every program. -/
import Derived.Test.YtneohapkboaplaaGreatAmTup
set_option linter.unusedVariables false
namespace Go.Am
open Go
inductive Frz (n0 t0 : Nat) (H : List Blk) : AV → AV → Prop
 | keep {v v' : AV} (h : v' = v ∨ v' = untag v) (hb : Below n0 t0 v') : Frz n0 t0 H v v'
 | top (v : AV) : Frz n0 t0 H v .top
 | msl {i o n : Nat} {vs cs : List AV} (hi : n0 ≤ i) (hH : H[i]? = some (.cells vs)) (hl : o + cs.length ≤ vs.length) (hc : ∀ (j : Nat) (h : j < cs.length), Frz n0 t0 H (vs.getD (o + j) .top) (cs[j]'h)) : Frz n0 t0 H (.msl i o n) (.sl n cs .none)
 | csl {i n cap : Nat} {vs cs : List AV} (hi : n0 ≤ i) (hH : H[i]? = some (.cells vs)) (hl : cs.length ≤ vs.length) (hc : ∀ (j : Nat) (h : j < cs.length), Frz n0 t0 H (vs.getD j .top) (cs[j]'h)) : Frz n0 t0 H (.csl i n cap) (.sl n cs .none)
 | ptr {i o : Nat} {vs cs : List AV} (hi : n0 ≤ i) (hH : H[i]? = some (.cells vs)) (hl : cs.length ≤ vs.length) (hc : ∀ (j : Nat) (h : j < cs.length), Frz n0 t0 H (vs.getD j .top) (cs[j]'h)) : Frz n0 t0 H (.ptr i o) (.vptr cs o)
 | sl {n : Nat} {cs cs' : List AV} {tg : Tag} (hl : cs'.length = cs.length) (hc : ∀ (j : Nat) (h : j < cs'.length), Frz n0 t0 H (cs.getD j .top) (cs'[j]'h)) : Frz n0 t0 H (.sl n cs tg) (.sl n cs' .none)
 | agg {cs cs' : List AV} (hl : cs'.length = cs.length) (hc : ∀ (j : Nat) (h : j < cs'.length), Frz n0 t0 H (cs.getD j .top) (cs'[j]'h)) : Frz n0 t0 H (.agg cs) (.agg cs')
 | tup {cs cs' : List AV} (hl : cs'.length = cs.length) (hc : ∀ (j : Nat) (h : j < cs'.length), Frz n0 t0 H (cs.getD j .top) (cs'[j]'h)) : Frz n0 t0 H (.tup cs) (.tup cs')
open Classical in
noncomputable def Lay.frz (L : Lay) (n0 n : Nat) (w : World) : Lay :=
 { L with m := fun b => if ∃ i, n0 ≤ i ∧ i < n ∧ L.phi i = b then max (L.m b) (match w.heap[b]? with | some (.cells c _ _) => c.size | _ => 0) else L.m b }
section
variable {L : Lay} {H : List Blk} {T : Toks} {w : World} {n0 t0 : Nat}
open Classical in
theorem frz_le (L : Lay) (n0 n : Nat) (w : World) (b : Nat) : L.m b ≤ (L.frz n0 n w).m b := by
 show L.m b ≤ if _ then _ else _
 split
 ·exact Nat.le_max_left _ _
 ·exact Nat.le_refl _
theorem Keeps.frz {m : Nat} (N : Nat) (T : Toks) : Keeps L N T w (L.frz n0 m w) N T w := by
 exact ⟨Nat.le_refl _, fun _ _ => rfl, fun t u z h => ⟨u, h, Nat.le_refl _, fun _ => rfl⟩, fun b => frz_le L n0 m w b, fun _ _ _ => rfl, rfl⟩
open Classical in
theorem Con.frz (h : Con L H T w) (hn : n0 ≤ H.length) (hf : Con L (H.take n0) (T.take t0) w) : Con (L.frz n0 H.length w) (H.take n0) (T.take t0) w := by
 have hlen : (H.take n0).length = n0 := by rw [List.length_take]; omega
 have ne : ∀ b, (¬ ∃ i, n0 ≤ i ∧ i < H.length ∧ L.phi i = b) → (L.frz n0 H.length w).m b = L.m b := fun b hb => if_neg hb
 have hTt : ∀ (t : Nat) (x : Nat × Nat), (T.take t0)[t]? = some x → T[t]? = some x := by
  intro t x hx
  rw [List.getElem?_take] at hx
  split at hx
  ·exact hx
  ·cases hx
 have nbox : ∀ i, i < n0 → ¬ ∃ j, n0 ≤ j ∧ j < H.length ∧ L.phi j = L.phi i := by
  rintro i hi ⟨j, h1, h2, e⟩
  have := h.inj j i h2 (by omega) e
  omega
 have ntok : ∀ t u z, T[t]? = some (u, z) → u < (L.tau t).c * z → ¬ ∃ j, n0 ≤ j ∧ j < H.length ∧ L.phi j = (L.tau t).b := by
  rintro t u z ht hs ⟨j, h1, h2, e⟩
  exact h.tbox t u z j ht hs h2 e.symm
 refine ⟨fun i x hx => ?_, hf.inj, fun t u z ht => ?_, hf.tinj, hf.tbox, fun x hx => ?_, h.gl.keep (fun b => frz_le L n0 H.length w b) (fun _ _ _ => rfl)⟩
 ·have hi := (List.getElem?_eq_some_iff.1 hx).1
  refine (hf.box i x hx).stay (Keeps.frz _ _) hi rfl fun h5 => ?_
  rw [ne _ (nbox i (by omega))]; exact h5
 ·obtain ⟨h1, h2⟩ := hf.tok t u z ht
  refine ⟨h1, fun hs => ?_⟩
  obtain ⟨c, e, fr, g1, g2, g3, g4⟩ := h2 hs
  exact ⟨c, e, fr, g1, g2, g3, by rw [show ((L.frz n0 H.length w).tau t).b = (L.tau t).b from rfl, ne _ (ntok t u z (hTt t _ ht) hs)]; exact g4⟩
 ·rw [ne _ (fun ⟨j, h1, h2, e⟩ => by have := h.phi_lt h2; omega)]; exact h.mz x hx
open Classical in
theorem Frz.rep (h : Con L H T w) (hn : n0 ≤ H.length) {v v' : AV} (k : Frz n0 t0 H v v') : ∀ c, Rep L H.length T w v c → Rep (L.frz n0 H.length w) n0 (T.take t0) w v' c := by
 have size : ∀ (i : Nat) (c : Array Value) (t : TypeId) (fr : Nat × Nat), n0 ≤ i → i < H.length → w.heap[L.phi i]? = some (.cells c t fr) → c.size ≤ (L.frz n0 H.length w).m (L.phi i) := by
  intro i c t fr h1 h2 hh
  show _ ≤ if _ then _ else _
  rw [if_pos ⟨i, h1, h2, rfl⟩, hh]
  exact Nat.le_max_right _ _
 have row : ∀ (i o : Nat) (vs cs : List AV), n0 ≤ i → H[i]? = some (.cells vs) → o + cs.length ≤ vs.length → (∀ (j : Nat) (h : j < cs.length) (c : Value), Rep L H.length T w (vs.getD (o + j) .top) c → Rep (L.frz n0 H.length w) n0 (T.take t0) w (cs[j]'h) c) →
   ∃ cv, o + cs.length ≤ (L.frz n0 H.length w).m (L.phi i) ∧ RepC (L.frz n0 H.length w) n0 (T.take t0) w cs cv ∧ ∀ j, j < cs.length → w.cell? ⟨L.phi i, o + j, none⟩ = cv[j]? := by
  intro i o vs cs hi hH hl ih
  obtain ⟨c, t, fr, g1, g2, g3, g3', g4, g5⟩ := h.box i _ hH
  have hiH := (List.getElem?_eq_some_iff.1 hH).1
  have hs := size i c t fr hi hiH g1
  refine ⟨(c.toList.drop o).take cs.length, by omega, ⟨by simp; omega, fun j hj => ?_, fun j hj hj' => ?_⟩, fun j hj => ?_⟩
  ·have hjc : o + j < c.size := by simp at hj; omega
   have := g3' (o + j) hjc
   rw [List.getElem_take, List.getElem_drop, Array.getElem_toList]; exact this
  ·have hjc : o + j < c.size := by omega
   have := g4 (o + j) (by omega) hjc
   rw [List.getElem_take, List.getElem_drop, Array.getElem_toList]
   refine ih j hj _ ?_
   rw [List.getD_eq_getElem?_getD, List.getElem?_eq_getElem (by omega)]
   exact this
  ·rw [cell_row g1, List.getElem?_take, if_pos hj, List.getElem?_drop]; simp
 induction k with
 | keep hv hb =>
  rename_i v v'
  intro c hr
  have h1 : Rep L H.length T w v' c := by
   rcases hv with rfl | rfl
   ·exact hr
   ·exact hr.untag
  exact (h1.drop hb).keep (Keeps.frz _ _)
 | top v => intro c _; exact .top _
 | msl hi hH hl hc ih =>
  intro c hr
  obtain ⟨cap, rfl, hcap, hlt⟩ := hr.msl_inv
  obtain ⟨cv, h1, h2, h3⟩ := row _ _ _ _ hi hH hl ih
  exact Rep.sl_mk hcap h1 h2 h3 trivial
 | csl hi hH hl hc ih =>
  intro c hr
  obtain ⟨rfl, hcap, hlt⟩ := hr.csl_inv
  obtain ⟨cv, h1, h2, h3⟩ := row _ 0 _ _ hi hH (by omega) (fun j hj c hc' => ih j hj c (by rwa [Nat.zero_add] at hc'))
  exact Rep.sl_mk hcap h1 h2 h3 trivial
 | ptr hi hH hl hc ih =>
  rename_i i o vs cs
  intro c hr
  obtain ⟨rfl, hlt⟩ := hr.ptr_inv
  obtain ⟨cv, h1, h2, h3⟩ := row _ 0 _ _ hi hH (by omega) (fun j hj c hc' => ih j hj c (by rwa [Nat.zero_add] at hc'))
  have := Rep.vptr (L := L.frz n0 H.length w) (N := n0) (T := T.take t0) (w := w) cs o (L.phi i) 0 (fun j => cv.getD j undef) h1 (fun j hj => ?_) (fun j hj => ?_) (fun j hj => ?_)
  ·rwa [Nat.zero_add] at this
  ·have hj' : j < cv.length := by rw [h2.1]; exact hj
   rw [h3 j hj]; simp [hj']
  ·have hj' : j < cv.length := by rw [h2.1]; exact hj
   simpa [hj'] using h2.2.1 j hj'
  ·have hj' : j < cv.length := by rw [h2.1]; exact hj
   simpa [hj'] using h2.2.2 j hj hj'
 | sl hl hc ih =>
  rename_i n cs cs' tg
  intro c hr
  obtain ⟨a, cap, rfl, hcap, ht, hor⟩ := hr.sl_inv
  rcases hor with ⟨e1, e2⟩ | ⟨b, base, cv, e1, h1, h2, h3⟩
  ·subst e1; subst e2
   have : cs' = [] := List.eq_nil_of_length_eq_zero hl
   subst this
   exact .sl0 .none a cap trivial
  ·subst e1
   refine Rep.sl_mk (cv := cv) hcap (by rw [hl]; exact Nat.le_trans h1 (frz_le _ _ _ _ _)) ⟨by rw [hl]; exact h2.1, h2.2.1, fun j hj hj' => ih j hj _ ?_⟩ (fun j hj => h3 j (by omega)) trivial
   have := h2.2.2 j (by omega) hj'
   rw [List.getD_eq_getElem?_getD, List.getElem?_eq_getElem (by omega)]
   exact this
 | agg hl hc ih =>
  rename_i cs cs'
  intro c hr
  cases hr with
  | agg _ cv h1 h2 h3 =>
   refine .agg _ _ (by omega) h2 fun j hj hj' => ih j hj _ ?_
   have := h3 j (by omega) hj'
   rw [List.getD_eq_getElem?_getD, List.getElem?_eq_getElem (by omega)]
   exact this
 | tup hl hc ih =>
  rename_i cs cs'
  intro c hr
  cases hr with
  | tup _ cv h1 h3 =>
   refine .tup _ _ (by omega) fun j hj hj' => ih j hj _ ?_
   have := h3 j (by omega) hj'
   rw [List.getD_eq_getElem?_getD, List.getElem?_eq_getElem (by omega)]
   exact this
end
section
variable {P : Program} {f : FuncId} {args : List AV} {H : List Blk} {T : Toks}
theorem ACall.frzC {r0 : AV} (H1 : List Blk) (T1 : Toks) (hl : H.length ≤ H1.length) (ht : T.length ≤ T1.length) (ho : HOk H T → HOk H1 T1)
  (h : ACall P f args H T (fun r H' T' => (∃ G, H' = H1 ++ G) ∧ (∃ rT, T' = T1 ++ rT) ∧ Frz H1.length T1.length H' r r0)) : ACall P f args H T (Is r0 H1 T1) := by
 refine ⟨h.1, fun L w ca hc hl' hr => (h.2 L w ca hc hl' hr).mono ?_⟩
 rintro e w' ⟨r', H', T', L', cv, ⟨⟨G, e1⟩, ⟨rT, e2⟩, e3⟩, rfl, hcon, hrep, hev⟩
 subst e1; subst e2
 have hf : Con L' H1 T1 w' := Con.front P hcon (ho hc.hok)
 have hn : H1.length ≤ (H1 ++ G).length := by rw [List.length_append]; omega
 have hc2 := hcon.frz (n0 := H1.length) (t0 := T1.length) hn (by rw [List.take_left', List.take_left'] <;> first | exact hf | rfl)
 have hr2 := e3.rep hcon hn _ hrep
 rw [List.take_left' rfl, List.take_left' rfl] at hc2
 rw [List.take_left' rfl] at hr2
 have e1 := hev.front hl ht
 exact ⟨_, H1, T1, _, cv, ⟨rfl, rfl, rfl⟩, rfl, hc2, hr2, ⟨e1.n, e1.phi, e1.tok, e1.t, fun b => Nat.le_trans (e1.m b) (frz_le _ _ _ _ _), e1.com, e1.size, e1.frame, e1.wr, e1.os, e1.tape, e1.output, e1.drawn, e1.dr⟩⟩
theorem ACall.frz {r0 : AV} (h : ACall P f args H T (fun r H' T' => (∃ G, H' = H ++ G) ∧ (∃ rT, T' = T ++ rT) ∧ Frz H.length T.length H' r r0)) : ACall P f args H T (Is r0 H T) :=
 ACall.frzC H T (Nat.le_refl _) (Nat.le_refl _) id h
def envFz (n0 t0 : Nat) (H : List Blk) (e : Env) : Env → Prop
 | [] => True
 | (s, v) :: r => Frz n0 t0 H (eget e s) v ∧ envFz n0 t0 H e r
theorem envFz_get {n0 t0 : Nat} {H : List Blk} {e : Env} : ∀ {e' : Env}, envFz n0 t0 H e e' → ∀ s, Frz n0 t0 H (eget e s) (eget e' s) := by
 intro e'
 induction e' with
 | nil => intro _ s; exact .top _
 | cons x r ih =>
  obtain ⟨s0, v⟩ := x
  intro h s
  by_cases hs : s0 = s
  ·subst hs; simp only [eget, if_true]; exact h.1
  ·simp only [eget, if_neg hs]; exact ih h.2 s
theorem aw_frz {C : Cx} {c : Code} {Q : Exit → St → Prop} {e e' : Env} {G : List Blk} {rT : Toks} (hnb : C.nb ≤ H.length) (htb : C.tb ≤ T.length) (ho : HOk H T)
  (he : envFz H.length T.length (H ++ G) e e') (h : AW C c Q ⟨e', H, T⟩) : AW C c Q ⟨e, H ++ G, T ++ rT⟩ := fun L w a hc => by
 have hf : Con L H T w := Con.front C.P hc.con ho
 have hn : H.length ≤ (H ++ G).length := by rw [List.length_append]; omega
 have hc2 := hc.con.frz (n0 := H.length) (t0 := T.length) hn (by rw [List.take_left', List.take_left'] <;> first | exact hf | rfl)
 rw [List.take_left' rfl, List.take_left' rfl] at hc2
 have e0 : Ev C.nb C.tb L (H ++ G).length (T ++ rT) w L (H ++ G).length (T ++ rT) w := Ev.refl hc.nb hc.tb
 have e1 := e0.front hnb htb
 have e2 : Ev C.nb C.tb L (H ++ G).length (T ++ rT) w (L.frz H.length (H ++ G).length w) H.length T w := ⟨e1.n, e1.phi, e1.tok, e1.t, fun b => frz_le _ _ _ _ _, e1.com, e1.size, e1.frame, e1.wr, e1.os, e1.tape, e1.output, e1.drawn, e1.dr⟩
 refine wp_mono (h (L.frz H.length (H ++ G).length w) w a ⟨hnb, htb, hc2, hc.size, hc.defers, fun t => ?_⟩) fun _ _ _ k => Post.step (s1 := ⟨e', H, T⟩) e2 k
 have := (envFz_get he t).rep hc.con hn _ (hc.env t)
 rwa [List.take_left' rfl] at this
theorem aw_hok {C : Cx} {c : Code} {Q : Exit → St → Prop} {s : St} (h : HOk s.H s.T → AW C c Q s) : AW C c Q s := fun L w a hc => h hc.con.hok L w a hc
end
section
variable {n0 t0 : Nat} {H : List Blk}
theorem Frz.same {v : AV} (hb : Below n0 t0 v) : Frz n0 t0 H v v := .keep (.inl rfl) hb
theorem Frz.all {cs : List AV} (hb : BelowAll n0 t0 cs) (rest : List AV) : ∀ (j : Nat) (h : j < cs.length), Frz n0 t0 H ((cs ++ rest).getD j .top) (cs[j]'h) := fun j h => by
 rw [List.getD_eq_getElem?_getD, List.getElem?_append_left h, List.getElem?_eq_getElem h]
 exact .same (hb _ (List.getElem_mem h))
theorem Frz.msl0 {i n : Nat} {cs rest : List AV} (hi : n0 ≤ i) (hH : H[i]? = some (.cells (cs ++ rest))) (hb : BelowAll n0 t0 cs) : Frz n0 t0 H (.msl i 0 n) (.sl n cs .none) :=
 .msl hi hH (by rw [List.length_append]; omega) fun j h => by rw [Nat.zero_add]; exact Frz.all hb rest j h
theorem Frz.pair {a b a' b' : AV} (h1 : Frz n0 t0 H a a') (h2 : Frz n0 t0 H b b') : Frz n0 t0 H (.tup [a, b]) (.tup [a', b']) :=
 .tup rfl fun j h => by
  match j, h with
  | 0, _ => exact h1
  | 1, _ => exact h2
end
end Go.Am
