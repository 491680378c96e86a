/- Sorting a box that holds structs, by the library's contract.
  Conditions: none; it speaks of every program in which the sort is laid. -/
import Derived.Shelf.SlSortCmp.NoneTotal
import Derived.Test.YtneohapkboaplaaGreatAmSort
set_option linter.unusedVariables false
namespace Go.Am
open Go Go.Sort Go.Proofs Go.Shelf Go.RowKit
structure Enc {α : Type} (enc : α → List Value) (encA : α → List AV) (k : Nat) : Prop where
 pos : 0 < k
 len : ∀ x, (enc x).length = k
 lenA : ∀ x, (encA x).length = k
 one : ∀ x, ∀ v ∈ enc x, v.oneCell' = true
 rep : ∀ x (j : Nat), j < k → ∀ L N T w v, Rep L N T w ((encA x).getD j .top) v ↔ v = (enc x)[j]!
theorem flatE_len {α : Type} {enc : α → List Value} {encA : α → List AV} {k : Nat} (he : Enc enc encA k) (l : List α) : (l.flatMap encA).length = l.length * k := by
 induction l with
 | nil => simp
 | cons x r ih => rw [List.flatMap_cons, List.length_append, ih, he.lenA, List.length_cons, Nat.add_mul, Nat.one_mul]; omega
section
variable {α : Type} [Inhabited α] {enc : α → List Value} {encA : α → List AV} {k : Nat}
theorem flatE_at (he : Enc enc encA k) : ∀ (l : List α) (t : Nat), t < l.length * k → (l.flatMap encA).getD t .top = (encA (l[t / k]!)).getD (t % k) .top
 | [], t, h => by simp at h
 | x :: r, t, h => by
  rw [List.flatMap_cons]
  by_cases hlt : t < k
  ·rw [Nat.div_eq_of_lt hlt, Nat.mod_eq_of_lt hlt]
   simp only [List.getD_eq_getElem?_getD]
   rw [List.getElem?_append_left (by rw [he.lenA]; exact hlt)]
   simp
  ·rw [List.length_cons, Nat.add_mul, Nat.one_mul] at h
   have ih := flatE_at he r (t - k) (by omega)
   rw [Nat.div_eq_sub_div he.pos (by omega), Nat.mod_eq_sub_mod (by omega)]
   simp only [List.getD_eq_getElem?_getD] at ih ⊢
   rw [List.getElem?_append_right (by rw [he.lenA]; omega), he.lenA, ih]
   simp
variable {P : Program} {L : Lay} {H : List Blk} {T : Toks} {w : World}
theorem Con.cellsAt {i : Nat} {l : List α} {rest : List AV} (he : Enc enc encA k) (h : Con L H T w) (hi : H[i]? = some (.cells (l.flatMap encA ++ rest))) :
  ∃ c t fr, w.heap[L.phi i]? = some (.cells c t fr) ∧ (∀ o, o < c.size → (fr.1 ≤ o && o < fr.2) = false) ∧ c.size = l.length * k + rest.length ∧ (∀ (j : Nat) (h' : j < c.size), (c[j]'h').oneCell' = true) ∧
   (∀ (j : Nat) (h' : j < c.size), j < l.length * k → c[j]'h' = (enc (l[j / k]!))[j % k]!) ∧
   (∀ (j : Nat) (h' : j < rest.length) (h'' : l.length * k + j < c.size), Rep L H.length T w (rest[j]'h') (c[l.length * k + j]'h'')) := by
 obtain ⟨c, t, fr, g1, g2, g3, g3', g4, g5⟩ := h.box i _ hi
 have hf := flatE_len he l
 rw [List.length_append, hf] at g3
 refine ⟨c, t, fr, g1, g2, g3, g3', fun j hjc hj => ?_, fun j hj hjc => ?_⟩
 ·have hjl : j < (l.flatMap encA ++ rest).length := by rw [List.length_append]; omega
  have r := g4 j hjl hjc
  have e : (l.flatMap encA ++ rest)[j]'hjl = (encA (l[j / k]!)).getD (j % k) .top := by
   have hj' : j < (l.flatMap encA).length := by omega
   rw [← flatE_at he l j hj, List.getElem_append_left hj', List.getD_eq_getElem?_getD, List.getElem?_eq_getElem hj']
   rfl
  rw [e, he.rep _ _ (Nat.mod_lt _ he.pos)] at r
  exact r
 ·have hjl : l.length * k + j < (l.flatMap encA ++ rest).length := by rw [List.length_append]; omega
  have r := g4 _ hjl hjc
  rw [List.getElem_append_right (by omega)] at r
  have e : l.length * k + j - (l.flatMap encA).length = j := by omega
  simp only [e] at r
  exact r
theorem Con.holdsK {i : Nat} {l : List α} {rest : List AV} (he : Enc enc encA k) (h : Con L H T w) (hi : H[i]? = some (.cells (l.flatMap encA ++ rest))) : HoldsK enc k w (L.phi i) 0 l.toArray := by
 obtain ⟨c, t, fr, g1, g2, g3, _, g4, _⟩ := h.cellsAt he hi
 intro j hj
 rw [size_flatK] at hj
 have hj : j < l.length * k := by simpa using hj
 have hjc : j < c.size := by omega
 rw [Nat.zero_add]
 refine ⟨?_, ?_⟩
 ·rw [cell_row g1, Array.getElem?_eq_getElem hjc, g4 j hjc hj, get_flatK _ _ _ _ (by simpa using hj)]
  simp
 ·obtain ⟨lo, hi'⟩ := fr
  unfold World.frozen?
  simp only [g1]
  exact g2 j hjc
theorem Con.sorted {i n : Nat} {l l' : List α} {rest : List AV} {os : Array Obj} (he : Enc enc encA k) (h : Con L H T w) (hi : H[i]? = some (.cells (l.flatMap encA ++ rest))) (hl : l'.length = l.length) :
  ∃ L', Con L' (H.set i (.cells (l'.flatMap encA ++ rest))) T (sortWorldK enc k w (L.phi i) 0 n l'.toArray os) ∧
   Ev H.length T.length L H.length T w L' (H.set i (.cells (l'.flatMap encA ++ rest))).length T (sortWorldK enc k w (L.phi i) 0 n l'.toArray os) ∧ ∀ j, j < H.length → L'.phi j = L.phi j := by
 have h1 : Con L H T (Sort.ahead w n) := h.drew rfl
 have ev1 : Ev H.length T.length L H.length T w L H.length T (Sort.ahead w n) := Ev.drew rfl rfl rfl rfl (Nat.le_add_right _ _)
 obtain ⟨c, t, fr, g1, g2, g3, g3', g4, g5⟩ := h1.cellsAt he hi
 have hsz : (putCells id 0 (flatK enc k l'.toArray) c).size = c.size := by simp [putCells]
 have hfl := flatE_len he l'
 have hat : ∀ (j : Nat) (h' : j < (putCells id 0 (flatK enc k l'.toArray) c).size), (j < l.length * k → (putCells id 0 (flatK enc k l'.toArray) c)[j]'h' = (enc (l'[j / k]!))[j % k]!) ∧
   (l.length * k ≤ j → (putCells id 0 (flatK enc k l'.toArray) c)[j]'h' = c[j]'(by rw [hsz] at h'; exact h')) := by
  intro j h'
  refine ⟨fun hj => ?_, fun hj => ?_⟩
  ·simp only [putCells, Array.getElem_mapIdx]
   rw [if_pos ⟨Nat.zero_le _, by rw [size_flatK]; simp [hl]; exact hj⟩, Nat.sub_zero, get_flatK _ _ _ _ (by simpa [hl] using hj)]
   simp
  ·simp only [putCells, Array.getElem_mapIdx]
   rw [if_neg (by rw [size_flatK]; simp [hl]; omega)]
 have hone : ∀ (j : Nat) (h' : j < (putCells id 0 (flatK enc k l'.toArray) c).size), ((putCells id 0 (flatK enc k l'.toArray) c)[j]'h').oneCell' = true := by
  intro j h'
  rcases Nat.lt_or_ge j (l.length * k) with hj | hj
  ·rw [(hat j h').1 hj]
   have hm : j % k < (enc (l'[j / k]!)).length := by rw [he.len]; exact Nat.mod_lt _ he.pos
   rw [getElem!_pos (enc (l'[j / k]!)) (j % k) hm]
   exact he.one _ _ (List.getElem_mem hm)
  ·rw [(hat j h').2 hj]; exact g3' _ _
 have hturn := h1.turn (w' := putRowK enc k (Sort.ahead w n) (L.phi i) 0 l'.toArray) (vs' := l'.flatMap encA ++ rest) (c' := putCells id 0 (flatK enc k l'.toArray) c) (t := t) (fr := fr) hi g1
  (by simp only [putRowK, putRow, mapBlock, Array.getElem?_modify, if_true]; rw [g1]; rfl) hsz (by rw [List.length_append, List.length_append, hfl, flatE_len he, hl]) hone
  (fun j hj hj' => by
   rcases Nat.lt_or_ge j (l.length * k) with hlt | hge
   ·have hj2 : j < (l'.flatMap encA).length := by rw [hfl, hl]; exact hlt
    have e : (l'.flatMap encA ++ rest)[j]'hj = (encA (l'[j / k]!)).getD (j % k) .top := by
     rw [← flatE_at he l' j (by rw [hl]; exact hlt), List.getElem_append_left hj2, List.getD_eq_getElem?_getD, List.getElem?_eq_getElem hj2]
     rfl
    rw [e, he.rep _ _ (Nat.mod_lt _ he.pos)]
    exact (hat j hj').1 hlt
   ·rw [(hat j hj').2 hge]
    have hjc : j < c.size := by rw [hsz] at hj'; exact hj'
    have r := g5 (j - l.length * k) (by omega) (by omega)
    have e1 : l.length * k + (j - l.length * k) = j := by omega
    simp only [e1] at r
    rw [List.getElem_append_right (by rw [hfl, hl]; exact hge)]
    have e2 : j - (l'.flatMap encA).length = j - l.length * k := by rw [hfl, hl]
    simp only [e2]
    exact r)
  (fun x hx => by simp [putRowK, putRow, mapBlock, Array.getElem?_modify, Ne.symm hx]) (by simp [putRowK]) rfl rfl rfl (Nat.le_refl _)
 obtain ⟨L', c3, ev3⟩ := Con.grown os.toList hturn.1
 rw [Array.toArray_toList] at c3 ev3
 have ev2 := hturn.2
 rw [List.length_set] at ev2 ev3 ⊢
 exact ⟨L', c3, (ev1.trans ev2).trans ev3, fun j hj => ((ev1.trans ev2).trans ev3).phi j hj⟩
theorem sortK_ok {ρ : Ren} (Ly : SlLaysF0.n6 P ρ) (aE : ∀ w, (isAgg (ρ.t 24)).run P w = .ok true w) (zE : ∀ w, (Go.sizeOf (ρ.t 24)).run P w = .ok k w) (he : Enc enc encA k) (hg0 : gints = [])
  (cf : α → α → Int) (hO : SWO (ltOf cf)) (hT : ∀ x y, (ltOf cf) x y = false → (ltOf cf) y x = false → x = y) (g : FuncId) (hcmp : ∀ x y, ACall P g [.agg (encA x), .agg (encA y)] [] [] (Is (.int .i64 (cf x y)) [] []))
  (hent : ∀ xs w, (callFunc (ρ.f 6) xs).run P w = .ok (.enter (ρ.f 6) xs) w) (l : List α) (rest : List AV) (i cap : Nat) (hi : H[i]? = some (.cells (l.flatMap encA ++ rest))) (hsz : l.length < 4611686018427387904) :
  ACall P (ρ.f 6) [.csl i l.length cap, .fn g [] []] H T (Is (.tup []) (H.set i (.cells ((l.mergeSort fun x y => !(ltOf cf) y x).flatMap encA ++ rest))) T) := by
 refine ⟨hent, fun L w ca hc hl hr => ?_⟩
 have e0 : ca = #[.slice (some ⟨L.phi i, 0, none⟩) l.length cap, .func (.func g) #[] #[]] ∧ i < H.length := by
  obtain ⟨cl⟩ := ca
  have hl2 : cl.length = 2 := by simpa using hl
  match cl, hl2 with
  | [a, b], _ =>
   have r0 := hr 0 (by simp) (by simp)
   have r1 := hr 1 (by simp) (by simp)
   simp at r0 r1
   obtain ⟨rfl, _, hlt⟩ := r0.csl_inv
   cases r1 with
   | fn _ _ _ fv cv h1 h2 =>
    have : fv = #[] := Array.eq_empty_of_size_eq_zero (by simpa using h1)
    subst this
    have : cv = #[] := Array.eq_empty_of_size_eq_zero (by simpa using h2)
    subst this
    exact ⟨rfl, hlt⟩
 obtain ⟨rfl, hil⟩ := e0
 have hag : ∀ x, ∀ L N T w, Rep L N T w (.agg (encA x)) (.agg (enc x).toArray) := fun x L N T w => by
  refine .agg _ _ (by simp [he.len, he.lenA]) (fun j hj => ?_) (fun j hj hj' => ?_)
  ·exact he.one x _ (by simp)
  ·have hjk : j < k := by rw [he.lenA] at hj; exact hj
   have := (he.rep x j hjk L N T w (enc x)[j]!).2 rfl
   rw [List.getD_eq_getElem?_getD, List.getElem?_eq_getElem hj] at this
   simp only [Option.getD_some] at this
   have h' : j < (enc x).length := by rw [he.len]; exact hjk
   rw [getElem!_pos (enc x) j h'] at this
   simpa using this
 have hcl : CmpLays P g #[] enc k cf (L.phi i) 0 l.toArray.size w := by
  intro m os dk hs x y
  have h1 := (hcmp x y).grown (w := sortWorldK enc k w (L.phi i) 0 m dk os) (ca := #[.agg (enc x).toArray, .agg (enc y).toArray] ++ #[]) hg0 (by simp) (fun j hj hj' => by
   match j, hj with
   | 0, _ => exact hag x _ _ _ _
   | 1, _ => exact hag y _ _ _ _)
  refine h1.mono ?_
  rintro e w' ⟨⟨cv, L', rfl, hrep⟩, q, os', hw⟩
  cases hrep
  exact ⟨rfl, q, os', hw⟩
 have hmain := AnyQ.slices_SortFunc_total Ly k aE zE enc he.len he.one cf hO g #[] (L.phi i) 0 cap l.toArray w (hcmp default default).1 hcl (hc.holdsK he hi) (hc.phi_lt hil) (by simpa using hsz) hT
 simp only [List.size_toArray] at hmain
 refine hmain.mono ?_
 rintro e w' ⟨rfl, n, os, rfl⟩
 obtain ⟨L', hc', hev, _⟩ := hc.sorted (n := n) (os := os) (l' := l.mergeSort fun x y => !(ltOf cf) y x) he hi (List.length_mergeSort _)
 exact ⟨_, _, T, L', _, ⟨rfl, rfl, rfl⟩, rfl, hc', .tup [] #[] rfl (fun j hj => by simp at hj), hev⟩
theorem sort0_ok {ρ : Ren} (Ly : SlLaysF0.n6 P ρ) (g : FuncId) (hent : ∀ xs w, (callFunc (ρ.f 6) xs).run P w = .ok (.enter (ρ.f 6) xs) w) (tg : Tag) : ACall P (ρ.f 6) [.sl 0 [] tg, .fn g [] []] H T (Is (.tup []) H T) := by
 refine ⟨hent, fun L w ca hc hl hr => ?_⟩
 have e0 : ∃ a cap fv, ca = #[.slice a 0 cap, fv] := by
  obtain ⟨cl⟩ := ca
  have hl2 : cl.length = 2 := by simpa using hl
  match cl, hl2 with
  | [a, b], _ =>
   have r0 := hr 0 (by simp) (by simp)
   simp at r0
   obtain ⟨a, cap, rfl, _⟩ := r0.sl_inv
   exact ⟨a, cap, b, rfl⟩
 obtain ⟨a, cap, fv, rfl⟩ := e0
 refine (AnyF.slices_SortFunc_none Ly a cap fv w).mono ?_
 rintro e w' ⟨rfl, rfl⟩
 exact ⟨_, H, T, L, _, ⟨rfl, rfl, rfl⟩, rfl, hc, .tup [] #[] rfl (fun j hj => by simp at hj), Ev.refl (Nat.le_refl _) (Nat.le_refl _)⟩
end
section
variable {P : Program} {f : FuncId} {args : List AV} {H : List Blk} {T : Toks}
theorem ACall.freezeAt {n : Nat} {cs : List AV} (hb : BelowAll H.length T.length cs)
  (h : ACall P f args H T (fun r H' T' => (∃ G, H' = H ++ G) ∧ (∃ rT, T' = T ++ rT) ∧ ((n = 0 ∧ cs = [] ∧ ∃ tg, r = .sl 0 [] tg) ∨ ∃ i cap rest, r = .csl i n cap ∧ H.length ≤ i ∧ H'[i]? = some (.cells (cs ++ rest))))) :
  ACall P f args H T (Is (.sl n cs .none) H T) := by
 refine ⟨h.1, fun L w ca hc hl hr => (h.2 L w ca hc hl hr).mono ?_⟩
 rintro e w' ⟨r', H', T', L', cv, ⟨⟨G, e1⟩, ⟨rT, e2⟩, hor⟩, rfl, hcon, hrep, hev⟩
 subst e1; subst e2
 have hc1 : Con L' H T w' := Con.front P hcon hc.hok
 have e1 := hev.front (Nat.le_refl _) (Nat.le_refl _)
 rcases hor with ⟨rfl, rfl, tg, rfl⟩ | ⟨i, cap, rest, rfl, hi, hbi⟩
 ·have := (hrep.untag).drop (n := H.length) (t := T.length) (by simp)
  exact ⟨_, H, T, L', cv, ⟨rfl, rfl, rfl⟩, rfl, hc1, by simpa using this, e1⟩
 ·obtain ⟨rfl, hcap, hlt⟩ := hrep.csl_inv
  have hbox := hcon.box i _ hbi
  have hblt := hbox.lt
  obtain ⟨c, t, fr, g1, g2, g3, g3', g4, g5⟩ := hbox
  have hnw : ¬ Wr L' H.length T (L'.phi i) := by
   rintro (⟨j, hj, e⟩ | ⟨t, u, z, ht, hs, e⟩)
   ·have := hcon.inj j i (by rw [List.length_append]; omega) hlt e
    omega
   ·exact hcon.tbox t u z i (by rw [List.getElem?_append_left (List.getElem?_eq_some_iff.1 ht).1]; exact ht) hs hlt e
  have hc2 := hc1.commitAt (k := cs.length) hblt hnw (by omega)
  have kp : Keeps L' H.length T w' (L'.commit (L'.phi i) cs.length) H.length T w' := by
   refine ⟨Nat.le_refl _, fun _ _ => rfl, fun t u z h => ⟨u, h, Nat.le_refl _, fun _ => rfl⟩, fun x => ?_, fun _ _ _ => rfl, rfl⟩
   show L'.m x ≤ if x = L'.phi i then cs.length else L'.m x
   split
   ·rename_i e; rw [e, g5]; exact Nat.zero_le _
   ·exact Nat.le_refl _
  rw [List.length_append] at g3
  refine ⟨_, H, T, L'.commit (L'.phi i) cs.length, _, ⟨rfl, rfl, rfl⟩, rfl, hc2, ?_, ?_⟩
  ·have hrc : RepC L' H.length T w' cs (c.toList.take cs.length) := by
    refine ⟨by simp; omega, fun j hj => ?_, fun j hj hj' => ?_⟩
    ·have hjc : j < c.size := by simp at hj; omega
     have := g3' j hjc
     rw [List.getElem_take, Array.getElem_toList]; exact this
    ·have hjc : j < c.size := by omega
     have := (g4 j (by rw [List.length_append]; omega) hjc)
     rw [List.getElem_append_left hj] at this
     have := this.drop (n := H.length) (t := T.length) (hb _ (List.getElem_mem hj))
     rw [List.getElem_take, Array.getElem_toList]
     simpa using this
   refine Rep.sl_mk hcap ?_ (hrc.keep kp) (fun j hj => ?_) trivial
   ·show 0 + cs.length ≤ if L'.phi i = L'.phi i then cs.length else _
    rw [if_pos rfl]; omega
   ·rw [cell_row g1, Nat.zero_add, List.getElem?_take, if_pos hj]; simp
  ·exact ⟨e1.n, e1.phi, e1.tok, e1.t, fun b => Nat.le_trans (e1.m b) (kp.m b), e1.com, e1.size, e1.frame, e1.wr, e1.os, e1.tape, e1.output, e1.drawn, e1.dr⟩
end
end Go.Am
