/- From the readings of a law's arguments to abstract values, and from a contract of the machine to the row's post.
  Conditions: none; it speaks of every program. -/
import Derived.Test.YtneohapkboaplaaGreatAmGhost
import Derived.WalkKit
import Derived.ProofKit
import Derived.OpenShut
import Derived.JoinedCond
import Derived.Below
import Derived.Carry
import Derived.DataElems
import Derived.ChangeSame
import Derived.ChangeMaps5
import Derived.WideShapes
set_option linter.unusedVariables false
namespace Go.Am
open Go Go.ChangeShapes Go.WideShapes
def m0 (w : World) (b : Nat) : Nat := match w.heap[b]? with
 | some (.cells c _ _) => c.size
 | _ => 0
def lay0 (w : World) : Lay := ⟨fun _ => 0, fun _ => ⟨0, 0, 0⟩, m0 w, true⟩
theorem cell_m0' {w : World} {b o : Nat} {v : Value} (h : w.cell? ⟨b, o, none⟩ = some v) : o < m0 w b := by
 unfold World.cell? at h
 unfold m0
 simp only at h
 cases hb : w.heap[b]? with
 | none => rw [hb] at h; simp at h
 | some x =>
  rw [hb] at h
  cases x with
  | cells c t fr =>
   simp only at h ⊢
   rcases Nat.lt_or_ge o c.size with g | g
   ·exact g
   ·rw [Array.getElem?_eq_none g] at h; simp at h
  | _ => simp at h
theorem con0 (w : World) (hg : ∀ x ∈ gints, ∃ m, w.cell? ⟨x.1, x.2, none⟩ = some (.int .i64 m)) : Con (lay0 w) [] [] w := by
 refine ⟨fun i b h => by simp at h, fun i j h => by simp at h, fun t u z h => by simp at h, fun t u z t' u' z' h => by simp at h, fun t u z i h => by simp at h, fun b hb => ?_, fun x hx => by obtain ⟨m, hm⟩ := hg x hx; exact ⟨cell_m0' hm, m, hm⟩⟩
 show m0 w b = 0
 unfold m0
 rw [Array.getElem?_eq_none hb]
theorem cell_m0 {w : World} {b o : Nat} {v : Value} (h : w.cell? ⟨b, o, none⟩ = some v) : o < m0 w b := by
 unfold World.cell? at h
 unfold m0
 simp only at h
 cases hb : w.heap[b]? with
 | none => rw [hb] at h; simp at h
 | some x =>
  rw [hb] at h
  cases x with
  | cells c t fr =>
   simp only at h ⊢
   rcases Nat.lt_or_ge o c.size with g | g
   ·exact g
   ·rw [Array.getElem?_eq_none g] at h; simp at h
  | _ => simp at h
abbrev RC (w : World) (vs : List AV) (c : List Value) : Prop := RepC (lay0 w) 0 [] w vs c
theorem RC.one {w : World} {a : AV} {v : Value} (h : Rep (lay0 w) 0 [] w a v) (h1 : v.oneCell' = true) : RC w [a] [v] :=
  ⟨rfl, fun j hj => by have : j = 0 := by simp at hj; omega
                       subst this; exact h1, fun j hj hj' => by
    have : j = 0 := by simp at hj; omega
    subst this; exact h⟩
theorem RC.rep {w : World} {a : AV} {v : Value} (h : RC w [a] [v]) : Rep (lay0 w) 0 [] w a v := h.2.2 0 (by simp) (by simp)
theorem RC.append {w : World} {a b : List AV} {c d : List Value} (h : RC w a c) (k : RC w b d) : RC w (a ++ b) (c ++ d) := by
 refine ⟨by simp [h.1, k.1], fun j hj => ?_, fun j hj hj' => ?_⟩
 ·rw [List.getElem_append]
  split
  ·exact h.2.1 _ _
  ·exact k.2.1 _ _
 ·rw [List.getElem_append, List.getElem_append]
  by_cases hlt : j < a.length
  ·rw [dif_pos hlt, dif_pos (by rw [h.1]; exact hlt)]; exact h.2.2 _ _ _
  ·rw [dif_neg hlt, dif_neg (by rw [h.1]; exact hlt)]
   have := k.2.2 (j - a.length) (by simp at hj; omega) (by simp at hj'; rw [h.1] at hj'; omega)
   simpa [h.1] using this
section
variable {H : Type} {enc : TypeId × Value → H} {P : Program} {w : World} {base fuel : Nat} {sp : Nat → Bool} {held : Bool} {t e : TypeId} {cs : List Value} {x : DataW H × List MemPlace}
theorem rc_int {k : IntKind} (ht : P.underlying t = some (.int k)) (h : DataW.trod enc P w base sp held fuel t cs = some x) : ∃ n, (Lit.int k n).wf = true ∧ RC w [.int k n] cs := by
 obtain ⟨n, rfl, _, hw⟩ := DataW.trod_int ht h
 exact ⟨n, hw, RC.one (.int k n) rfl⟩
theorem rc_str (ht : P.underlying t = some .string) (h : DataW.trod enc P w base sp held fuel t cs = some x) : ∃ s : List UInt8, s.length ≤ maxLen ∧ RC w [.str s] cs := by
 obtain ⟨s, rfl, _, hs⟩ := DataW.trod_string ht h
 obtain ⟨⟨l⟩⟩ := s
 refine ⟨l, by simpa [ByteArray.size] using hs, RC.one ?_ rfl⟩
 exact Rep.str l
theorem flat_get {α : Type} {c : Nat} (es : List (List α)) (hc : ∀ a ∈ es, a.length = c) (i j : Nat) (hi : i < es.length) (hj : j < c) : es.flatten[i * c + j]? = (es[i]'hi)[j]? := by
 induction es generalizing i with
 | nil => simp at hi
 | cons a r ih =>
  have ha := hc a (by simp)
  cases i with
  | zero => simp only [Nat.zero_mul, Nat.zero_add, List.flatten_cons, List.getElem_cons_zero]; rw [List.getElem?_append_left (by omega)]
  | succ i =>
   simp only [List.flatten_cons, List.getElem_cons_succ]
   rw [List.getElem?_append_right (by rw [ha, Nat.succ_mul]; omega)]
   have := ih (fun b hb => hc b (by simp [hb])) i (by simpa using hi)
   rw [← this]
   congr 1
   rw [ha, Nat.succ_mul]; omega
theorem flat_len {α : Type} {c : Nat} (es : List (List α)) (hc : ∀ a ∈ es, a.length = c) : es.flatten.length = es.length * c := by
 induction es with
 | nil => simp
 | cons a r ih => simp [hc a (by simp), ih (fun b hb => hc b (by simp [hb])), Nat.succ_mul]; omega
theorem RC.flatten {c : Nat} : ∀ (es : List (List AV)) (css : List (List Value)), es.length = css.length → (∀ i (h : i < es.length) (h' : i < css.length), RC w (es[i]'h) (css[i]'h')) → RC w es.flatten css.flatten := by
 intro es
 induction es with
 | nil => intro css hl _; cases css with
  | nil => exact ⟨rfl, fun _ h => by simp at h, fun _ h => by simp at h⟩
  | cons _ _ => simp at hl
 | cons a r ih =>
  intro css hl h
  cases css with
  | nil => simp at hl
  | cons b s =>
   simp only [List.flatten_cons]
   refine RC.append (h 0 (by simp) (by simp)) (ih s (by simpa using hl) fun i hi hi' => ?_)
   exact h (i + 1) (by simpa using hi) (by simpa using hi')
theorem rc_slice {G : List AV → Prop} (ht : P.underlying t = some (.slice e)) (hp : 0 < P.cellsOf e) (he : ∀ n c y, DataW.trod enc P w base sp held n e c = some y → ∃ a, G a ∧ RC w a c)
  (h : DataW.trod enc P w base sp held fuel t cs = some x) : ∃ es : List (List AV), (∀ a ∈ es, G a) ∧ es.length ≤ maxLen ∧ RC w [.sl es.length es.flatten .none] cs := by
 rcases DataW.trod_slice ht h with ⟨rfl, _⟩ | ⟨a, len, cap, elems, rest, n, _, rfl, _, hb, hlc, hm, hel, hal, _, _⟩
 ·exact ⟨[], fun a h => by simp at h, Nat.zero_le _, RC.one (.sl0 _ _ _ trivial) rfl⟩
 ·have key : ∀ i, i < len → ∃ (c : List Value) (av : List AV), G av ∧ RC w av c ∧ c.length = P.cellsOf e ∧ ∀ j, j < P.cellsOf e → w.cell? ((a.add (i * P.cellsOf e)).add j) = c[j]? := by
   intro i hi
   have h1 := hal i hi
   rw [List.getElem?_eq_getElem (by omega)] at h1
   obtain ⟨c, h2, h3⟩ := Option.bind_eq_some_iff.1 h1
   obtain ⟨_, h4, h5⟩ := World.cells?_some h2
   obtain ⟨av, h6, h7⟩ := he _ _ _ h3
   exact ⟨c, av, h6, h7, h4, h5⟩
  rcases Nat.eq_zero_or_pos len with h0 | h0
  ·subst h0
   exact ⟨[], fun a h => by simp at h, Nat.zero_le _, RC.one (.sl0 _ _ _ trivial) rfl⟩
  have hspot : a.spot = none := by
   obtain ⟨c, _, _, _, h4, h5⟩ := key 0 h0
   have := h5 0 hp
   rw [List.getElem?_eq_getElem (by omega)] at this
   have h6 := World.cell?_spot (a := (a.add (0 * P.cellsOf e)).add 0) this
   simpa [Addr.add] using h6
  obtain ⟨ab, ao, as⟩ := a
  simp only at hspot
  subst hspot
  let C : Nat → List Value := fun i => if h : i < len then Classical.choose (key i h) else []
  let A : Nat → List AV := fun i => if h : i < len then Classical.choose (Classical.choose_spec (key i h)) else []
  have hCA : ∀ i, i < len → G (A i) ∧ RC w (A i) (C i) ∧ (C i).length = P.cellsOf e ∧ ∀ j, j < P.cellsOf e → w.cell? ⟨ab, ao + (i * P.cellsOf e + j), none⟩ = (C i)[j]? := by
   intro i hi
   have := Classical.choose_spec (Classical.choose_spec (key i hi))
   simp only [C, A, dif_pos hi]
   refine ⟨this.1, this.2.1, this.2.2.1, fun j hj => ?_⟩
   rw [← this.2.2.2 j hj]
   rw [Addr.add_add]
   unfold Addr.add
   split
   ·rename_i h0; rw [h0]; rfl
   ·rfl
  refine ⟨(List.range len).map A, fun av hav => ?_, ?_, ?_⟩
  ·obtain ⟨i, hi, rfl⟩ := List.mem_map.1 hav
   exact (hCA i (List.mem_range.1 hi)).1
  ·simp; exact Nat.le_trans hlc hm
  ·have hA : ∀ av ∈ (List.range len).map A, av.length = P.cellsOf e := by
    intro av hav
    obtain ⟨i, hi, rfl⟩ := List.mem_map.1 hav
    obtain ⟨_, h1, h2, _⟩ := hCA i (List.mem_range.1 hi)
    rw [← h1.1]; exact h2
   have hC : ∀ c ∈ (List.range len).map C, c.length = P.cellsOf e := by
    intro c hc
    obtain ⟨i, hi, rfl⟩ := List.mem_map.1 hc
    exact (hCA i (List.mem_range.1 hi)).2.2.1
   have hlA := flat_len _ hA
   have hlC := flat_len _ hC
   simp only [List.length_map, List.length_range] at hlA hlC
   have hcell : ∀ j, j < len * P.cellsOf e → w.cell? ⟨ab, ao + j, none⟩ = ((List.range len).map C).flatten[j]? := by
    intro j hj
    have hi : j / P.cellsOf e < len := by rw [Nat.div_lt_iff_lt_mul hp]; exact hj
    have hr : j % P.cellsOf e < P.cellsOf e := Nat.mod_lt _ hp
    have e1 : j / P.cellsOf e * P.cellsOf e + j % P.cellsOf e = j := by rw [Nat.mul_comm]; exact Nat.div_add_mod _ _
    have h1 := (hCA _ hi).2.2.2 _ hr
    have h2 := flat_get _ hC (j / P.cellsOf e) (j % P.cellsOf e) (by simpa using hi) hr
    rw [e1] at h1 h2
    rw [h1, h2]; simp
   refine RC.one ?_ rfl
   have hlen : ((List.range len).map A).length = len := by simp
   have hrep : RC w ((List.range len).map A).flatten ((List.range len).map C).flatten := RC.flatten (c := 0) _ _ (by simp) fun i hi hi' => by
    simp only [List.getElem_map, List.getElem_range]
    exact (hCA i (by simpa using hi)).2.1
   rw [hlen]
   refine Rep.sl_mk hlc ?_ hrep (fun j hj => hcell j (by rw [hlA] at hj; exact hj)) trivial
   rw [hlA]
   have hpos : 0 < len * P.cellsOf e := Nat.mul_pos h0 hp
   have hlast := hcell (len * P.cellsOf e - 1) (by omega)
   rw [List.getElem?_eq_getElem (by rw [hlC]; omega)] at hlast
   have := cell_m0 hlast
   show ao + len * P.cellsOf e ≤ m0 w ab
   omega
theorem flatten_ints {k : IntKind} (es : List (List AV)) (h : ∀ a ∈ es, ∃ n, (Lit.int k n).wf = true ∧ a = [.int k n]) : ∃ zs : List Int, zs.length = es.length ∧ es.flatten = zs.map (.int k) ∧ ∀ z ∈ zs, (Lit.int k z).wf = true := by
 induction es with
 | nil => exact ⟨[], rfl, rfl, fun z h => by simp at h⟩
 | cons a r ih =>
  obtain ⟨zs, h1, h2, h3⟩ := ih (fun b hb => h b (by simp [hb]))
  obtain ⟨n, hn, rfl⟩ := h a (by simp)
  exact ⟨n :: zs, by simp [h1], by simp [h2], fun z hz => (List.mem_cons.1 hz).elim (fun e => by rw [e]; exact hn) (h3 z)⟩
theorem rc_nums {k : IntKind} (ht : P.underlying t = some (.slice e)) (he : P.underlying e = some (.int k)) (hp : 0 < P.cellsOf e) (h : DataW.trod enc P w base sp held fuel t cs = some x) :
  ∃ zs : List Int, (∀ z ∈ zs, (Lit.int k z).wf = true) ∧ zs.length ≤ maxLen ∧ RC w [.sl zs.length (zs.map (.int k)) .none] cs := by
 obtain ⟨es, h1, h2, h3⟩ := rc_slice (G := fun a => ∃ n, (Lit.int k n).wf = true ∧ a = [.int k n]) ht hp (fun n c y hy => by
  obtain ⟨m, g1, g2⟩ := rc_int he hy
  exact ⟨_, ⟨m, g1, rfl⟩, g2⟩) h
 obtain ⟨zs, g1, g2, g3⟩ := flatten_ints es h1
 rw [g2, ← g1] at h3
 exact ⟨zs, g3, by omega, h3⟩
theorem rc_ints (ht : P.underlying t = some (.slice e)) (he : P.underlying e = some (.int .i64)) (hp : 0 < P.cellsOf e) (h : DataW.trod enc P w base sp held fuel t cs = some x) :
  ∃ zs : List Int, (∀ z ∈ zs, -9223372036854775808 ≤ z ∧ z ≤ 9223372036854775807) ∧ zs.length ≤ maxLen ∧ RC w [.sl zs.length (ints zs) .none] cs := by
 obtain ⟨zs, h1, h2, h3⟩ := rc_nums ht he hp h
 exact ⟨zs, fun z hz => by simpa [Lit.wf, IntKind.min, IntKind.max, IntKind.signed, IntKind.bits] using h1 z hz, h2, h3⟩
end
section
variable {H : Type} {enc : TypeId × Value → H} {P : Program} {w : World} {base fuel : Nat} {sp : Nat → Bool} {held : Bool} {t : TypeId} {cs : List Value} {x : DataW H × List MemPlace} {fs : Array Field}
theorem rc_fields (ht : P.underlying t = some (.struct fs)) (h : DataW.trod enc P w base sp held fuel t cs = some x) : cs.length = P.cellsOf t ∧
  ∀ (i : Nat) (f : Field), fs[i]? = some f → ∃ n y, DataW.trod enc P w base sp held n f.type ((cs.drop f.offset).take (P.cellsOf f.type)) = some y := by
 obtain ⟨xs, n, _, _, hl, hx, hf⟩ := DataW.trod_struct ht h
 refine ⟨hl, fun i f hi => ?_⟩
 have hlt : i < xs.length := by rw [hx]; exact (Array.getElem?_eq_some_iff.1 hi).1
 exact ⟨n, xs[i], by rw [hf i f hi, List.getElem?_eq_getElem hlt]⟩
end
theorem ACall.law {P : Program} {f : FuncId} {avs : List AV} {w : World} {args : Array Value} (h : ACall P f avs [] [] (fun r _ _ => r = .bool true)) (hg : ∀ x ∈ gints, ∃ m, w.cell? ⟨x.1, x.2, none⟩ = some (.int .i64 m)) (hs : args.size = avs.length)
  (hr : ∀ (j : Nat) (h : j < avs.length) (h' : j < args.size), Rep (lay0 w) 0 [] w (avs[j]'h) (args[j]'h')) :
  Calls P f args w fun e w' => e = .returned (.bool true) ∧ Go.RowKit.Below w.heap.size w w' := by
 refine (h.2 (lay0 w) w args (con0 w hg) hs hr).mono ?_
 rintro e w' ⟨r, H', T', L', cv, rfl, rfl, _, hrep, hev⟩
 cases hrep with
 | bool _ => exact ⟨rfl, hev.os, hev.tape, hev.output, hev.size, fun k hk => hev.frame k hk (fun hw => by
   rcases hw with ⟨i, hi, _⟩ | ⟨t, u, z, ht, _⟩
   ·exact Nat.not_lt_zero _ hi
   ·simp at ht)⟩
section
open Go.RowKit
variable {H : Type} {enc : TypeId × Value → H} {P : Program}
theorem post_of_below {f : Func} {s : ChangeSpec} {apart fresh handsOn again : Bool} {W W' : World} {args : Array Value} {v : Value} {ds gs : List (DataW H)} {before pa pv : List MemPlace}
  (hW : DataW.Whole enc P f.params.toList s.vars apart W args.toList ds gs before)
  (hres : ∀ (b : Nat) (sp : Nat → Bool) (hd : Bool), DataW.TrodAll enc P W' b sp hd f.resultTypes.toList (v.resultList f.resultTypes.size) (s.fn H (ds ++ gs)).results [])
  (hargs : ∀ sp : Nat → Bool, (∀ p ∈ before, sp p.block = true) → DataW.TrodAll enc P W' 0 sp true f.params.toList args.toList (s.fn H (ds ++ gs)).args pa)
  (hvars : ∀ sp : Nat → Bool, (∀ p ∈ before, sp p.block = true) → DataW.TrodVars enc P W' sp s.vars (s.fn H (ds ++ gs)).vars pv)
  (hps : before = pa ++ pv) (hb : Go.RowKit.Below W.heap.size W W')
  (hok : ∀ (j : Nat) (t : TypeId) (r : Value), f.resultTypes[j]? = some t → (v.resultList f.resultTypes.size)[j]? = some r → Value.okWide P W' .any 0 t r) :
  s.post enc P f apart fresh handsOn again W args v W' := by
 have hlt : ∀ p ∈ before, p.block < W.heap.size := fun p hp => hW.lt p hp
 have hold : ∀ p ∈ before, (fun b => decide (b < W.heap.size)) p.block = true := fun p hp => by simpa using hlt p hp
 refine ⟨ds, gs, before, [], pa, pv, hW, hres _ _ _, hargs _ hold, hvars _ hold, World.keptBut_mono (fun p hp => ⟨hp, ?_⟩) (hb.frame (· ∈ before)), fun _ => ?_⟩
 ·rw [hps, List.mem_append] at hp
  exact Or.inr hp
 ·obtain ⟨_, _, _, _, _, hz, hn⟩ := hW
  refine ⟨hok, _, _, ([] ++ pa) ++ pv, ⟨[] ++ pa, pv, trodAll_append (hargs _ (fun _ _ => rfl)) (hres _ _ _), hvars _ (fun _ _ => rfl), rfl, ?_, ?_⟩, ?_⟩
  ·intro b off hp
   have hin : MemPlace.cell b off ∈ before := by rw [hps]; simpa using hp
   rw [hb.frozen (hlt _ hin)]
   exact hz b off hin
  ·intro ha
   have := hn ha
   rw [hps] at this
   simpa using this
  ·intro p hp _
   rw [hps]
   simpa using hp
theorem trodAll_stays (hl : laidOutB P = true) {W W' : World} (hb : Go.RowKit.Below W.heap.size W W') {sp : Nat → Bool} : ∀ {ts : List TypeId} {vs : List Value} {ds : List (DataW H)} {ps : List MemPlace}, DataW.TrodAll enc P W 0 (fun _ => true) true ts vs ds ps →
  (∀ t ∈ ts, P.readableRec t = true ∧ t < P.types.size) → (∀ x ∈ ps, x.block < W.heap.size) → (∀ x ∈ ps, sp x.block = true) → DataW.TrodAll enc P W' 0 sp true ts vs ds ps := by
 intro ts
 induction ts with
 | nil =>
  intro vs ds ps h _ _ _
  obtain ⟨rfl, rfl, rfl⟩ := trodAll_nil h
  exact trodAll_mk0
 | cons t ts ih =>
  intro vs ds ps h ht hlt hsp
  obtain ⟨v0, vs0, d0, ds0, p0, q0, rfl, rfl, rfl, h0, r0⟩ := trodAll_cons h
  have h1 := ht t (by simp)
  exact trodAll_cons_mk (WideElems.Trod_stays hl h1.1 h1.2 h0 (fun x hx => hb.same (hlt x (by simp [hx]))) (fun x hx => hsp x (by simp [hx])))
   (ih r0 (fun t' h' => ht t' (by simp [h'])) (fun x hx => hlt x (by simp [hx])) (fun x hx => hsp x (by simp [hx])))
theorem law_close {f : Func} {s : ChangeSpec} {apart fresh handsOn again : Bool} {W W' : World} {args : Array Value} {ds gs : List (DataW H)} {before : List MemPlace} {tb : TypeId}
  (hW : DataW.Whole enc P f.params.toList s.vars apart W args.toList ds gs before) (hv : s.vars = []) (hfn : s.fn H ds = { results := [.lit (.bool true)], args := ds }) (hr : f.resultTypes = #[tb]) (htb : P.underlying tb = some .bool)
  (hl : laidOutB P = true) (hts : ∀ t ∈ f.params.toList, P.readableRec t = true ∧ t < P.types.size) (hb : Go.RowKit.Below W.heap.size W W') :
  s.post enc P f apart fresh handsOn again W args (.bool true) W' := by
 have hW' := hW
 obtain ⟨p, q, hA, hV, rfl, hfz, hnd⟩ := hW
 rw [hv] at hV
 obtain ⟨rfl, rfl⟩ := trodVars_none hV
 simp only [List.append_nil] at hW'
 have hlt : ∀ x ∈ p, x.block < W.heap.size := fun x hx => hW'.lt x hx
 refine post_of_below (pa := p) (pv := []) hW' (fun b sp hd => ?_) (fun sp hsp => ?_) (fun sp hsp => ?_) (by simp) hb (ok_one hr rfl (okWide_bool_mk htb _))
 ·rw [List.append_nil, hfn, hr]
  exact trodAll_cons_mk (shut_bool htb _) trodAll_mk0
 ·rw [List.append_nil, hfn]
  exact trodAll_stays hl hb hA hts hlt hsp
 ·rw [List.append_nil, hfn, hv]
  rfl
end
end Go.Am
