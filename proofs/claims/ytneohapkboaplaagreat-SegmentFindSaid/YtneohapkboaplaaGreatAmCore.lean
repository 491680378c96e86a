/- The abstract machine: abstract values, their representation in a world of the model, and the evolution of worlds.
  Conditions: none; it speaks of every program. -/
import Derived.WalkKit
import Derived.Orders
set_option linter.unusedVariables false
namespace Go.Am
open Go
inductive Tag where
 | none
 | full
 | own (t : Nat)
inductive KC where
 | int (k : IntKind) (n : Int)
 | str (s : List UInt8)
 | bool (b : Bool)
 deriving DecidableEq
inductive MKey where
 | one (c : KC)
 | agg (cs : List KC)
 deriving DecidableEq
def KC.val : KC → Value
 | .int k n => .int k n
 | .str s => .string ⟨s.toArray⟩
 | .bool b => .bool b
def MKey.val : MKey → Value
 | .one c => c.val
 | .agg cs => .agg (cs.map KC.val).toArray
inductive AV where
 | top
 | bool (b : Bool)
 | int (k : IntKind) (n : Int)
 | str (s : List UInt8)
 | nilp
 | ptr (i o : Nat)
 | vptr (cs : List AV) (o : Nat)
 | sl (n : Nat) (cs : List AV) (tg : Tag)
 | msl (i o n : Nat)
 | csl (i n cap : Nat)
 | mref (i : Nat)
 | fn (f : FuncId) (first caps : List AV)
 | nilf
 | nili
 | ifc
 | agg (cs : List AV)
 | tup (cs : List AV)
abbrev Toks := List (Nat × Nat)
abbrev Env := List (Nat × AV)
inductive Blk where
 | cells (vs : List AV)
 | iter (s : List UInt8) (pos : Nat)
 | map (es : List (MKey × AV))
 | mit (m n : Nat) (seen : List Nat)
 | glob (g : Nat) (p : Obj → Prop)
@[simp] def Blk.vals : Blk → List AV
 | .cells vs => vs
 | .map es => es.map (·.2)
 | .iter _ _ => []
 | .mit _ _ _ => []
 | .glob _ _ => []
structure Tk where
 b : Nat
 o : Nat
 c : Nat
structure Lay where
 phi : Nat → Nat
 tau : Nat → Tk
 m : Nat → Nat
 dr : Bool
def tagOk (L : Lay) (T : Toks) (tg : Tag) (n u : Nat) (a : Option Addr) (cap : Nat) : Prop :=
 match tg with
 | .none => True
 | .full => cap = n
 | .own t => ∃ u0 z, T[t]? = some (u0, z) ∧ u ≤ u0 ∧ (u0 = u → cap = n ∨ (a = some ⟨(L.tau t).b, (L.tau t).o, none⟩ ∧ cap = (L.tau t).c))
inductive Rep (L : Lay) (N : Nat) (T : Toks) (w : World) : AV → Value → Prop
 | top (v : Value) : Rep L N T w .top v
 | bool (b : Bool) : Rep L N T w (.bool b) (.bool b)
 | int (k : IntKind) (n : Int) : Rep L N T w (.int k n) (.int k n)
 | str (s : List UInt8) : Rep L N T w (.str s) (.string ⟨s.toArray⟩)
 | nilp : Rep L N T w .nilp (.pointer none)
 | ptr (i o : Nat) (h : i < N) : Rep L N T w (.ptr i o) (.pointer (some ⟨L.phi i, o, none⟩))
 | vptr (cs : List AV) (o b base : Nat) (f : Nat → Value) (hm : base + cs.length ≤ L.m b)
   (hc : ∀ j, j < cs.length → w.cell? ⟨b, base + j, none⟩ = some (f j)) (h1 : ∀ j, j < cs.length → (f j).oneCell' = true)
   (hr : ∀ (j : Nat) (h : j < cs.length), Rep L N T w (cs[j]'h) (f j)) :
   Rep L N T w (.vptr cs o) (.pointer (some ⟨b, base + o, none⟩))
 | sl0 (tg : Tag) (a : Option Addr) (cap : Nat) (ht : tagOk L T tg 0 0 a cap) : Rep L N T w (.sl 0 [] tg) (.slice a 0 cap)
 | sl1 (n : Nat) (cs : List AV) (tg : Tag) (b base cap : Nat) (f : Nat → Value) (hcap : n ≤ cap) (hm : base + cs.length ≤ L.m b)
   (hc : ∀ j, j < cs.length → w.cell? ⟨b, base + j, none⟩ = some (f j)) (h1 : ∀ j, j < cs.length → (f j).oneCell' = true)
   (hr : ∀ (j : Nat) (h : j < cs.length), Rep L N T w (cs[j]'h) (f j))
   (ht : tagOk L T tg n cs.length (some ⟨b, base, none⟩) cap) :
   Rep L N T w (.sl n cs tg) (.slice (some ⟨b, base, none⟩) n cap)
 | msl (i o n cap : Nat) (h : i < N) (hcap : n ≤ cap) : Rep L N T w (.msl i o n) (.slice (some ⟨L.phi i, o, none⟩) n cap)
 | csl (i n cap : Nat) (h : i < N) (hcap : n ≤ cap) : Rep L N T w (.csl i n cap) (.slice (some ⟨L.phi i, 0, none⟩) n cap)
 | mref (i : Nat) (h : i < N) : Rep L N T w (.mref i) (.map (some (L.phi i)))
 | fn (f : FuncId) (first caps : List AV) (fv cv : Array Value) (h1 : fv.size = first.length) (h2 : cv.size = caps.length)
   (hr1 : ∀ (j : Nat) (h : j < first.length) (h' : j < fv.size), Rep L N T w (first[j]'h) (fv[j]'h'))
   (hr2 : ∀ (j : Nat) (h : j < caps.length) (h' : j < cv.size), Rep L N T w (caps[j]'h) (cv[j]'h')) :
   Rep L N T w (.fn f first caps) (.func (.func f) fv cv)
 | nilf : Rep L N T w .nilf .nilFunc
 | nili : Rep L N T w .nili .nilIface
 | ifc (t : TypeId) (v : Value) : Rep L N T w .ifc (.iface t v)
 | agg (cs : List AV) (cv : Array Value) (h1 : cv.size = cs.length) (h2 : ∀ (j : Nat) (h' : j < cv.size), (cv[j]'h').oneCell' = true)
   (hr : ∀ (j : Nat) (h : j < cs.length) (h' : j < cv.size), Rep L N T w (cs[j]'h) (cv[j]'h')) : Rep L N T w (.agg cs) (.agg cv)
 | tup (cs : List AV) (cv : Array Value) (h1 : cv.size = cs.length)
   (hr : ∀ (j : Nat) (h : j < cs.length) (h' : j < cv.size), Rep L N T w (cs[j]'h) (cv[j]'h')) : Rep L N T w (.tup cs) (.tuple cv)
structure Keeps (L : Lay) (N : Nat) (T : Toks) (w : World) (L' : Lay) (N' : Nat) (T' : Toks) (w' : World) : Prop where
 n : N ≤ N'
 phi : ∀ i, i < N → L'.phi i = L.phi i
 tok : ∀ t u z, T[t]? = some (u, z) → ∃ u', T'[t]? = some (u', z) ∧ u ≤ u' ∧ (u' = u → L'.tau t = L.tau t)
 m : ∀ b, L.m b ≤ L'.m b
 com : ∀ b o, o < L.m b → w'.cell? ⟨b, o, none⟩ = w.cell? ⟨b, o, none⟩
 dr : L'.dr = L.dr
theorem Keeps.refl (L : Lay) (N : Nat) (T : Toks) (w : World) : Keeps L N T w L N T w :=
 ⟨Nat.le_refl _, fun _ _ => rfl, fun _ u _ h => ⟨u, h, Nat.le_refl _, fun _ => rfl⟩, fun _ => Nat.le_refl _, fun _ _ _ => rfl, rfl⟩
theorem Keeps.trans {L N T w L1 N1 T1 w1 L2 N2 T2 w2} (h : Keeps L N T w L1 N1 T1 w1) (k : Keeps L1 N1 T1 w1 L2 N2 T2 w2) : Keeps L N T w L2 N2 T2 w2 := by
 refine ⟨Nat.le_trans h.n k.n, fun i hi => ?_, fun t u z ht => ?_, fun b => Nat.le_trans (h.m b) (k.m b), fun b o ho => ?_, k.dr.trans h.dr⟩
 ·rw [k.phi i (Nat.lt_of_lt_of_le hi h.n), h.phi i hi]
 ·obtain ⟨u1, h1, hle, he⟩ := h.tok t u z ht
  obtain ⟨u2, h2, hle2, he2⟩ := k.tok t u1 z h1
  refine ⟨u2, h2, Nat.le_trans hle hle2, fun e => ?_⟩
  rw [he2 (by omega), he (by omega)]
 ·rw [k.com b o (Nat.lt_of_lt_of_le ho (h.m b)), h.com b o ho]
theorem tagOk.keep {L N T w L' N' T' w' tg n u a cap} (k : Keeps L N T w L' N' T' w') (h : tagOk L T tg n u a cap) : tagOk L' T' tg n u a cap := by
 cases tg with
 | none => trivial
 | full => exact h
 | own t =>
  obtain ⟨u0, z, h0, hle, he⟩ := h
  obtain ⟨u1, h1, hle1, he1⟩ := k.tok t u0 z h0
  refine ⟨u1, z, h1, by omega, fun e => ?_⟩
  rw [he1 (by omega)]
  exact he (by omega)
theorem Rep.keep {L N T w L' N' T' w' v c} (k : Keeps L N T w L' N' T' w') (h : Rep L N T w v c) : Rep L' N' T' w' v c := by
 induction h with
 | top v => exact .top v
 | bool b => exact .bool b
 | int k n => exact .int k n
 | str s => exact .str s
 | nilp => exact .nilp
 | ptr i o h => rw [← k.phi i h]; exact .ptr i o (Nat.lt_of_lt_of_le h k.n)
 | vptr cs o b base f hm hc h1 hr ih =>
  exact .vptr cs o b base f (Nat.le_trans hm (k.m b)) (fun j hj => by rw [k.com _ _ (by omega)]; exact hc j hj) h1 ih
 | sl0 tg a cap ht => exact .sl0 tg a cap (ht.keep k)
 | sl1 n cs tg b base cap f hcap hm hc h1 hr ht ih =>
  exact .sl1 n cs tg b base cap f hcap (Nat.le_trans hm (k.m b)) (fun j hj => by rw [k.com _ _ (by omega)]; exact hc j hj) h1 ih (ht.keep k)
 | msl i o n cap h hcap => rw [← k.phi i h]; exact .msl i o n cap (Nat.lt_of_lt_of_le h k.n) hcap
 | csl i n cap h hcap => rw [← k.phi i h]; exact .csl i n cap (Nat.lt_of_lt_of_le h k.n) hcap
 | mref i h => rw [← k.phi i h]; exact .mref i (Nat.lt_of_lt_of_le h k.n)
 | fn f first caps fv cv h1 h2 hr1 hr2 ih1 ih2 => exact .fn f first caps fv cv h1 h2 ih1 ih2
 | nilf => exact .nilf
 | nili => exact .nili
 | ifc t v => exact .ifc t v
 | agg cs cv h1 h2 hr ih => exact .agg cs cv h1 h2 ih
 | tup cs cv h1 hr ih => exact .tup cs cv h1 ih
def Wr (L : Lay) (N : Nat) (T : Toks) (b : Nat) : Prop :=
 (∃ i, i < N ∧ L.phi i = b) ∨ (∃ t u z, T[t]? = some (u, z) ∧ u < (L.tau t).c * z ∧ (L.tau t).b = b)
structure Ev (nb tb : Nat) (L : Lay) (N : Nat) (T : Toks) (w : World) (L' : Lay) (N' : Nat) (T' : Toks) (w' : World) : Prop where
 n : nb ≤ N'
 phi : ∀ i, i < nb → L'.phi i = L.phi i
 tok : ∀ t u z, t < tb → T[t]? = some (u, z) → ∃ u', T'[t]? = some (u', z) ∧ u ≤ u' ∧ (u' = u → L'.tau t = L.tau t)
 t : tb ≤ T'.length
 m : ∀ b, L.m b ≤ L'.m b
 com : ∀ b o, o < L.m b → w'.cell? ⟨b, o, none⟩ = w.cell? ⟨b, o, none⟩
 size : w.heap.size ≤ w'.heap.size
 frame : ∀ b, b < w.heap.size → ¬ Wr L N T b → w'.heap[b]? = w.heap[b]?
 wr : ∀ b, Wr L' N' T' b → Wr L N T b ∨ w.heap.size ≤ b
 os : w'.os = w.os
 tape : w'.tape = w.tape
 output : w'.output = w.output
 drawn : L.dr = true → w.drawn ≤ w'.drawn
 dr : L'.dr = L.dr
theorem Ev.refl {nb tb L N T w} (h : nb ≤ N) (h' : tb ≤ T.length) : Ev nb tb L N T w L N T w :=
 ⟨h, fun _ _ => rfl, fun _ u _ _ h => ⟨u, h, Nat.le_refl _, fun _ => rfl⟩, h', fun _ => Nat.le_refl _, fun _ _ _ => rfl, Nat.le_refl _, fun _ _ _ => rfl,
  fun _ h => .inl h, rfl, rfl, rfl, fun _ => Nat.le_refl _, rfl⟩
theorem Ev.trans {nb tb L N T w L1 N1 T1 w1 L2 N2 T2 w2} (h : Ev nb tb L N T w L1 N1 T1 w1) (k : Ev nb tb L1 N1 T1 w1 L2 N2 T2 w2) : Ev nb tb L N T w L2 N2 T2 w2 := by
 refine ⟨k.n, fun i hi => ?_, fun t u z ht hT => ?_, k.t, fun b => Nat.le_trans (h.m b) (k.m b), fun b o ho => ?_, Nat.le_trans h.size k.size, fun b hb hn => ?_, fun b hb => ?_,
  k.os.trans h.os, k.tape.trans h.tape, k.output.trans h.output, fun e => Nat.le_trans (h.drawn e) (k.drawn (by rw [h.dr]; exact e)), k.dr.trans h.dr⟩
 ·rw [k.phi i hi, h.phi i hi]
 ·obtain ⟨u1, h1, hle, he⟩ := h.tok t u z ht hT
  obtain ⟨u2, h2, hle2, he2⟩ := k.tok t u1 z ht h1
  refine ⟨u2, h2, Nat.le_trans hle hle2, fun e => ?_⟩
  rw [he2 (by omega), he (by omega)]
 ·rw [k.com b o (Nat.lt_of_lt_of_le ho (h.m b)), h.com b o ho]
 ·rw [k.frame b (Nat.lt_of_lt_of_le hb h.size) (fun hw => ?_), h.frame b hb hn]
  rcases h.wr b hw with h' | h'
  ·exact hn h'
  ·omega
 ·rcases k.wr b hb with h' | h'
  ·exact h.wr b h'
  ·exact .inr (Nat.le_trans h.size h')
theorem Ev.mono {nb tb nb' tb' L N T w L' N' T' w'} (h : Ev nb tb L N T w L' N' T' w') (hn : nb' ≤ nb) (ht : tb' ≤ tb) : Ev nb' tb' L N T w L' N' T' w' :=
 ⟨Nat.le_trans hn h.n, fun i hi => h.phi i (Nat.lt_of_lt_of_le hi hn), fun t u z hlt => h.tok t u z (Nat.lt_of_lt_of_le hlt ht), Nat.le_trans ht h.t, h.m, h.com, h.size, h.frame, h.wr, h.os, h.tape, h.output, h.drawn, h.dr⟩
theorem Ev.keeps {L N T w L' N' T' w'} (h : Ev N T.length L N T w L' N' T' w') : Keeps L N T w L' N' T' w' :=
 ⟨h.n, h.phi, fun t u z hT => h.tok t u z ((List.getElem?_eq_some_iff.1 hT).1) hT, h.m, h.com, h.dr⟩
def BoxOk (L : Lay) (N : Nat) (T : Toks) (w : World) (i : Nat) : Blk → Prop
 | .cells vs => ∃ c t fr, w.heap[L.phi i]? = some (.cells c t fr) ∧ (∀ o, o < c.size → (fr.1 ≤ o && o < fr.2) = false) ∧ c.size = vs.length ∧
   (∀ (j : Nat) (h' : j < c.size), (c[j]'h').oneCell' = true) ∧
   (∀ (j : Nat) (h : j < vs.length) (h' : j < c.size), Rep L N T w (vs[j]'h) (c[j]'h')) ∧ L.m (L.phi i) = 0
 | .iter s pos => w.heap[L.phi i]? = some (.stringIter ⟨s.toArray⟩ pos)
 | .map es => ∃ ents : Array MapEntry, w.heap[L.phi i]? = some (.map ents es.length) ∧ ents.size = es.length ∧
   (∀ (j : Nat) (h : j < es.length) (h' : j < ents.size), (ents[j]'h').key = (es[j]'h).1.val ∧ (ents[j]'h').born = j ∧ Rep L N T w (es[j]'h).2 (ents[j]'h').val) ∧ (es.map (·.1)).Nodup ∧ L.m (L.phi i) = 0
 | .mit m n seen => w.heap[L.phi i]? = some (.mapIter (some (L.phi m)) n seen.toArray n) ∧ m < i ∧ L.m (L.phi i) = 0
 | .glob g p => L.phi i = g ∧ L.dr = false ∧ ∃ o, w.heap[g]? = some o ∧ p o
theorem BoxOk.stay {L N T w L' N' T' w' i b} (k : Keeps L N T w L' N' T' w') (h : BoxOk L N T w i b) (hi : i < N) (hh : w'.heap[L.phi i]? = w.heap[L.phi i]?) (hm : L.m (L.phi i) = 0 → L'.m (L.phi i) = 0) : BoxOk L' N' T' w' i b := by
 have e := k.phi i hi
 cases b with
 | cells vs =>
  obtain ⟨c, t, fr, h1, h2, h3, h3', h4, h5⟩ := h
  exact ⟨c, t, fr, by rw [e, hh]; exact h1, h2, h3, h3', fun j a b => (h4 j a b).keep k, by rw [e]; exact hm h5⟩
 | iter s pos => show w'.heap[_]? = _; rw [e, hh]; exact h
 | map es =>
  obtain ⟨ents, h1, h2, h3, hn, h4⟩ := h
  exact ⟨ents, by rw [e, hh]; exact h1, h2, fun j a b => ⟨(h3 j a b).1, (h3 j a b).2.1, (h3 j a b).2.2.keep k⟩, hn, by rw [e]; exact hm h4⟩
 | mit m n seen =>
  obtain ⟨h1, h2, h4⟩ := h
  exact ⟨by rw [e, hh, k.phi m (by omega)]; exact h1, h2, by rw [e]; exact hm h4⟩
 | glob g p =>
  obtain ⟨h1, h4, o, h2, h3⟩ := h
  exact ⟨by rw [e, h1], by rw [k.dr, h4], o, by rw [← h1, hh, h1]; exact h2, h3⟩
def TokOk (L : Lay) (w : World) (t u z : Nat) : Prop :=
 0 < z ∧ (u < (L.tau t).c * z → ∃ c e fr, w.heap[(L.tau t).b]? = some (.cells c e fr) ∧ (L.tau t).o + (L.tau t).c * z ≤ c.size ∧
  (∀ o, (L.tau t).o + u ≤ o → o < (L.tau t).o + (L.tau t).c * z → (fr.1 ≤ o && o < fr.2) = false) ∧ L.m (L.tau t).b ≤ (L.tau t).o + u)
def gints : List (Nat × Nat) := []
def GOk (L : Lay) (w : World) : Prop := ∀ x ∈ gints, x.2 < L.m x.1 ∧ ∃ m, w.cell? ⟨x.1, x.2, none⟩ = some (.int .i64 m)
theorem GOk.keep {L L' : Lay} {w w' : World} (h : GOk L w) (hm : ∀ b, L.m b ≤ L'.m b) (hc : ∀ b o, o < L.m b → w'.cell? ⟨b, o, none⟩ = w.cell? ⟨b, o, none⟩) : GOk L' w' := fun x hx => by
 obtain ⟨h1, m, h2⟩ := h x hx
 exact ⟨Nat.lt_of_lt_of_le h1 (hm _), m, by rw [hc _ _ h1]; exact h2⟩
structure Con (L : Lay) (H : List Blk) (T : Toks) (w : World) : Prop where
 box : ∀ i b, H[i]? = some b → BoxOk L H.length T w i b
 inj : ∀ i j, i < H.length → j < H.length → L.phi i = L.phi j → i = j
 tok : ∀ t u z, T[t]? = some (u, z) → TokOk L w t u z
 tinj : ∀ t u z t' u' z', T[t]? = some (u, z) → T[t']? = some (u', z') → u < (L.tau t).c * z → u' < (L.tau t').c * z' → (L.tau t).b = (L.tau t').b → t = t'
 tbox : ∀ t u z i, T[t]? = some (u, z) → u < (L.tau t).c * z → i < H.length → (L.tau t).b ≠ L.phi i
 mz : ∀ b, w.heap.size ≤ b → L.m b = 0
 gl : GOk L w
theorem BoxOk.lt {L N T w i b} (h : BoxOk L N T w i b) : L.phi i < w.heap.size := by
 rcases Nat.lt_or_ge (L.phi i) w.heap.size with h1 | h1
 ·exact h1
 ·exfalso
  cases b with
  | cells vs => obtain ⟨c, t, fr, hh, _⟩ := h; rw [Array.getElem?_eq_none h1] at hh; cases hh
  | iter s pos => unfold BoxOk at h; rw [Array.getElem?_eq_none h1] at h; cases h
  | map es => obtain ⟨ents, hh, _⟩ := h; rw [Array.getElem?_eq_none h1] at hh; cases hh
  | mit m n seen => obtain ⟨hh, _⟩ := h; rw [Array.getElem?_eq_none h1] at hh; cases hh
  | glob g p => obtain ⟨e, _, o, hh, _⟩ := h; rw [← e, Array.getElem?_eq_none h1] at hh; cases hh
theorem Con.phi_lt {L H T w} (h : Con L H T w) {i : Nat} (hi : i < H.length) : L.phi i < w.heap.size :=
 (h.box i _ (List.getElem?_eq_getElem hi)).lt
theorem Con.tau_lt {L H T w} (h : Con L H T w) {t u z : Nat} (ht : T[t]? = some (u, z)) (hs : u < (L.tau t).c * z) : (L.tau t).b < w.heap.size := by
 obtain ⟨_, h2⟩ := h.tok t u z ht
 obtain ⟨c, e, fr, hh, _⟩ := h2 hs
 rcases Nat.lt_or_ge (L.tau t).b w.heap.size with h1 | h1
 ·exact h1
 ·rw [Array.getElem?_eq_none h1] at hh; cases hh
theorem Con.wr_lt {L H T w} (h : Con L H T w) {b : Nat} (hb : Wr L H.length T b) : b < w.heap.size := by
 rcases hb with ⟨i, hi, rfl⟩ | ⟨t, u, z, ht, hs, rfl⟩
 ·exact h.phi_lt hi
 ·exact h.tau_lt ht hs
def eget : Env → Nat → AV
 | [], _ => .top
 | (s, v) :: r, t => if s = t then v else eget r t
def eput : Env → Nat → AV → Env
 | [], t, v => [(t, v)]
 | (s, u) :: r, t, v => if s = t then (t, v) :: r else (s, u) :: eput r t v
theorem eget_eput_same (e : Env) (t : Nat) (v : AV) : eget (eput e t v) t = v := by
 induction e with
 | nil => simp [eput, eget]
 | cons x r ih =>
  obtain ⟨s, u⟩ := x
  by_cases h : s = t
  ·simp [eput, eget, h]
  ·simp [eput, eget, h, ih]
theorem eget_eput_other (e : Env) (t t' : Nat) (v : AV) (hne : t ≠ t') : eget (eput e t v) t' = eget e t' := by
 induction e with
 | nil => simp [eput, eget, hne]
 | cons x r ih =>
  obtain ⟨s, u⟩ := x
  by_cases h : s = t
  ·subst h; simp [eput, eget, hne]
  ·by_cases h2 : s = t'
   ·subst h2; simp [eput, eget, h]
   ·simp [eput, eget, h, h2, ih]
def EnvRep (L : Lay) (N : Nat) (T : Toks) (w : World) (e : Env) (a : Act) : Prop :=
 ∀ t, Rep L N T w (eget e t) (a.tmps.getD t undef)
theorem EnvRep.keep {L N T w L' N' T' w' e a} (k : Keeps L N T w L' N' T' w') (h : EnvRep L N T w e a) : EnvRep L' N' T' w' e a := fun t => (h t).keep k
theorem getD_put (a : Act) (d t : Nat) (v : Value) (hd : d < a.tmps.size) : (a.put (some d) v).tmps.getD t undef = if d = t then v else a.tmps.getD t undef := by
 simp only [Act.put, Array.getD_eq_getD_getElem?]
 by_cases h : d = t
 ·subst h; simp [hd]
 ·simp [Array.getElem?_setIfInBounds_ne h, h]
theorem EnvRep.put {L N T w e a d v c} (h : EnvRep L N T w e a) (hd : d < a.tmps.size) (hv : Rep L N T w v c) : EnvRep L N T w (eput e d v) (a.put (some d) c) := by
 intro t
 rw [getD_put a d t c hd]
 by_cases hdt : d = t
 ·subst hdt; rw [eget_eput_same]; simpa using hv
 ·rw [eget_eput_other _ _ _ _ hdt, if_neg hdt]; exact h t
end Go.Am
