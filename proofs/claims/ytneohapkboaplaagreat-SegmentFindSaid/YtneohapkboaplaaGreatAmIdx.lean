/- Indexing, slicing, fields, conversions and making of values, over abstract values; they are what the model does.
  Conditions: none; it speaks of every program. -/
import Derived.Test.YtneohapkboaplaaGreatAmMem
set_option linter.unusedVariables false
namespace Go.Am
open Go
section
variable {P : Program} {L : Lay} {N : Nat} {T : Toks} {w : World}
theorem Rep.sl_inv {n : Nat} {cs : List AV} {tg : Tag} {c : Value} (h : Rep L N T w (.sl n cs tg) c) :
  ∃ a cap, c = .slice a n cap ∧ n ≤ cap ∧ tagOk L T tg n cs.length a cap ∧ ((cs = [] ∧ n = 0) ∨ ∃ (b base : Nat) (cv : List Value), a = some ⟨b, base, none⟩ ∧ base + cs.length ≤ L.m b ∧ RepC L N T w cs cv ∧
   ∀ j, j < cs.length → w.cell? ⟨b, base + j, none⟩ = cv[j]?) := by
 cases h with
 | sl0 _ a cap ht => exact ⟨a, cap, rfl, Nat.zero_le _, ht, .inl ⟨rfl, rfl⟩⟩
 | sl1 _ _ _ b base cap f hcap hm hc h1 hr ht =>
  refine ⟨_, cap, rfl, hcap, ht, .inr ⟨b, base, (List.range cs.length).map f, rfl, hm, ⟨by simp, fun j hj => by simpa using h1 j (by simpa using hj), fun j hj hj' => by simpa using hr j hj⟩, fun j hj => ?_⟩⟩
  rw [hc j hj]; simp [hj]
theorem Rep.vptr_mk {cs : List AV} {b base : Nat} {cv : List Value} (o : Nat) (hm : base + cs.length ≤ L.m b) (hr : RepC L N T w cs cv) (hc : ∀ j, j < cs.length → w.cell? ⟨b, base + j, none⟩ = cv[j]?) :
  Rep L N T w (.vptr cs o) (.pointer (some ⟨b, base + o, none⟩)) := by
 refine .vptr cs o b base (fun j => cv.getD j undef) hm (fun j hj => ?_) (fun j hj => ?_) (fun j hj => ?_)
 ·have : j < cv.length := by rw [hr.1]; exact hj
  rw [hc j hj]; simp [this]
 ·have : j < cv.length := by rw [hr.1]; exact hj
  simpa [this] using hr.2.1 j this
 ·have : j < cv.length := by rw [hr.1]; exact hj
  simpa [this] using hr.2.2 j hj this
theorem Rep.sl_mk {n cap : Nat} {cs : List AV} {tg : Tag} {b base : Nat} {cv : List Value} (hcap : n ≤ cap) (hm : base + cs.length ≤ L.m b) (hr : RepC L N T w cs cv) (hc : ∀ j, j < cs.length → w.cell? ⟨b, base + j, none⟩ = cv[j]?)
  (ht : tagOk L T tg n cs.length (some ⟨b, base, none⟩) cap) : Rep L N T w (.sl n cs tg) (.slice (some ⟨b, base, none⟩) n cap) := by
 refine .sl1 n cs tg b base cap (fun j => cv.getD j undef) hcap hm (fun j hj => ?_) (fun j hj => ?_) (fun j hj => ?_) ht
 ·have : j < cv.length := by rw [hr.1]; exact hj
  rw [hc j hj]; simp [this]
 ·have : j < cv.length := by rw [hr.1]; exact hj
  simpa [this] using hr.2.1 j this
 ·have : j < cv.length := by rw [hr.1]; exact hj
  simpa [this] using hr.2.2 j hj this
theorem Rep.csl_inv {i n cap : Nat} {c : Value} (h : Rep L N T w (.csl i n cap) c) : c = .slice (some ⟨L.phi i, 0, none⟩) n cap ∧ n ≤ cap ∧ i < N := by
 cases h with | csl _ _ _ hi hcap => exact ⟨rfl, hcap, hi⟩
theorem Rep.msl_inv {i o n : Nat} {c : Value} (h : Rep L N T w (.msl i o n) c) : ∃ cap, c = .slice (some ⟨L.phi i, o, none⟩) n cap ∧ n ≤ cap ∧ i < N := by
 cases h with | msl _ _ _ cap hi hcap => exact ⟨cap, rfl, hcap, hi⟩
def amove (p : AV) (d : Nat) : Option AV :=
 match p with
 | .ptr i o => some (.ptr i (o + d))
 | .vptr cs o => some (.vptr cs (o + d))
 | _ => none
theorem Rep.amove {p q : AV} {c : Value} {d : Nat} (h : Rep L N T w p c) (hq : Am.amove p d = some q) : ∃ a : Addr, c = .pointer (some a) ∧ Rep L N T w q (.pointer (some (a.add d))) := by
 unfold Am.amove at hq
 split at hq
 ·cases hq; cases h with | ptr _ _ hi => exact ⟨_, rfl, by rw [addr_add]; exact .ptr _ _ hi⟩
 ·cases hq; cases h with | vptr _ _ b base f hm hc h1 hr => exact ⟨_, rfl, by rw [addr_add, Nat.add_assoc]; exact .vptr _ _ b base f hm hc h1 hr⟩
 ·cases hq
def afieldAddr (P : Program) (s : TypeId) (p : AV) (f : Nat) : Option AV :=
 match P.underlying s with
 | some (.struct fs) => match fs[f]? with
  | some fd => if (P.underlying fd.type).isSome && 0 < P.cellsOf fd.type then amove p fd.offset else none
  | none => none
 | _ => none
theorem run_fieldAt {s : TypeId} {p q : AV} {f : Nat} {c : Value} (h : afieldAddr P s p f = some q) (hp : Rep L N T w p c) : ∃ cv, (Instr.fieldAt s c f).run P w = .ok cv w ∧ Rep L N T w q cv := by
 unfold afieldAddr at h
 split at h
 ·rename_i fs hu
  split at h
  ·rename_i fd hf
   split at h
   ·rename_i hz
    simp only [Bool.and_eq_true, decide_eq_true_eq] at hz
    obtain ⟨d, hd⟩ := Option.isSome_iff_exists.1 hz.1
    obtain ⟨a, rfl, hr⟩ := hp.amove h
    refine ⟨_, ?_, hr⟩
    have : ¬ P.cellsOf fd.type = 0 := by omega
    simp [Instr.fieldAt, run_underlying hu, hf, Instr.sureAddr, fieldPlace, run_sizeOf' hd, this]
   ·cases h
  ·cases h
 ·cases h
def aindexAddr (P : Program) (t : TypeId) (x ix : AV) : Option AV :=
 match P.underlying t, x, ix with
 | some (.slice e), .sl n cs _, .int _ i => if 0 ≤ i ∧ i < n then (if (P.underlying e).isSome then some (.vptr cs (i.toNat * P.cellsOf e)) else none) else none
 | some (.slice e), .msl b o n, .int _ i => if 0 ≤ i ∧ i < n then (if (P.underlying e).isSome then some (.ptr b (o + i.toNat * P.cellsOf e)) else none) else none
 | some (.slice e), .csl b n _, .int _ i => if 0 ≤ i ∧ i < n then (if (P.underlying e).isSome then some (.ptr b (0 + i.toNat * P.cellsOf e)) else none) else none
 | some (.array len e), p, .int _ i => if 0 ≤ i ∧ i < len then (if (P.underlying e).isSome then amove p (i.toNat * P.cellsOf e) else none) else none
 | _, _, _ => none
theorem run_indexAt {t : TypeId} {x ix q : AV} {cx ci : Value} (h : aindexAddr P t x ix = some q) (hx : Rep L N T w x cx) (hi : Rep L N T w ix ci) : ∃ cv, (Instr.indexAt t cx ci).run P w = .ok cv w ∧ Rep L N T w q cv := by
 unfold aindexAddr at h
 split at h
 ·rename_i e n cs tg k i hu
  split at h
  ·rename_i hb
   split at h
   ·rename_i he
    obtain ⟨d, hd⟩ := Option.isSome_iff_exists.1 he
    cases h
    rw [hi.int_inv]
    obtain ⟨a, cap, rfl, hcap, _, h0 | ⟨b, base, cv, rfl, hm, hr, hc⟩⟩ := hx.sl_inv
    ·omega
    ·refine ⟨_, ?_, Rep.vptr_mk (i.toNat * P.cellsOf e) hm hr hc⟩
     simp [Instr.indexAt, run_underlying hu, asIntOf, hb, run_sizeOf' hd, addr_add]
   ·cases h
  ·cases h
 ·rename_i e b o n k i hu
  split at h
  ·rename_i hb
   split at h
   ·rename_i he
    obtain ⟨d, hd⟩ := Option.isSome_iff_exists.1 he
    cases h
    rw [hi.int_inv]
    obtain ⟨cap, rfl, hcap, hlt⟩ := hx.msl_inv
    refine ⟨_, ?_, Rep.ptr b (o + i.toNat * P.cellsOf e) hlt⟩
    simp [Instr.indexAt, run_underlying hu, asIntOf, hb, run_sizeOf' hd, addr_add]
   ·cases h
  ·cases h
 ·rename_i e b n cap k i hu
  split at h
  ·rename_i hb
   split at h
   ·rename_i he
    obtain ⟨d, hd⟩ := Option.isSome_iff_exists.1 he
    cases h
    rw [hi.int_inv]
    obtain ⟨rfl, hcap, hlt⟩ := hx.csl_inv
    refine ⟨_, ?_, Rep.ptr b (0 + i.toNat * P.cellsOf e) hlt⟩
    simp [Instr.indexAt, run_underlying hu, asIntOf, hb, run_sizeOf' hd, addr_add]
   ·cases h
  ·cases h
 ·rename_i len e p k i hu
  split at h
  ·rename_i hb
   split at h
   ·rename_i he
    obtain ⟨d, hd⟩ := Option.isSome_iff_exists.1 he
    rw [hi.int_inv]
    obtain ⟨a, rfl, hr⟩ := hx.amove h
    refine ⟨_, ?_, hr⟩
    simp [Instr.indexAt, run_underlying hu, asIntOf, hb, run_sizeOf' hd, Instr.sureAddr]
   ·cases h
  ·cases h
 ·cases h
def aindex (P : Program) (t : TypeId) (x ix : AV) : Option AV :=
 match P.underlying t, x, ix with
 | some .string, .str s, .int _ i => if 0 ≤ i ∧ i < s.length then some (.int .u8 ((s.getD i.toNat 0).toNat : Int)) else none
 | some (.array len e), .agg cs, .int _ i => if 0 ≤ i ∧ i < len then aload P e cs (i.toNat * P.cellsOf e) else none
 | _, _, _ => none
theorem run_part {t : TypeId} {cs : List AV} {o : Nat} {r : AV} {c : Array Value} (hr : Rep L N T w (.agg cs) (.agg c)) (h : aload P t cs o = some r) : ∃ cv, (part t c o).run P w = .ok cv w ∧ Rep L N T w r cv := by
 have hrc := RepC.of_agg hr
 unfold aload at h
 split at h
 ·rename_i hag
  split at h
  ·rename_i hle
   cases h
   have hu : ∃ d, P.underlying t = some d := by
    unfold isAggT at hag
    cases hx : P.underlying t with
    | none => simp [hx] at hag
    | some d => exact ⟨d, rfl⟩
   obtain ⟨d, hu⟩ := hu
   refine ⟨_, by simp only [part, Sem.run_bind, run_isAgg hag, Result.andThen_ok, if_true, run_sizeOf' hu]; rfl, ?_⟩
   have := ((hrc.drop o).take (P.cellsOf t)).agg
   have e : (c.extract o (o + P.cellsOf t)) = ((c.toList.drop o).take (P.cellsOf t)).toArray := by
    apply Array.ext'
    simp
   rw [e]; exact this
  ·cases h
 ·rename_i hag
  split at h
  ·rename_i hlt
   cases h
   have hcv : o < c.toList.length := by rw [hrc.1]; exact hlt
   have hc' : o < c.size := by simpa using hcv
   have h3 := hrc.2.2 o hlt hcv
   refine ⟨c[o], ?_, by simpa [hlt] using h3⟩
   simp only [part, Sem.run_bind, run_isAgg hag, Result.andThen_ok, Bool.false_eq_true, if_false, Array.getElem?_eq_getElem hc']
   rfl
  ·cases h
 ·cases h
theorem run_index {t : TypeId} {x ix r : AV} {cx ci : Value} (h : aindex P t x ix = some r) (hx : Rep L N T w x cx) (hi : Rep L N T w ix ci) : ∃ cv, (Instr.index t cx ci).run P w = .ok cv w ∧ Rep L N T w r cv := by
 unfold aindex at h
 split at h
 ·rename_i s k i hu
  split at h
  ·rename_i hb
   cases h
   rw [hi.int_inv, hx.str_inv]
   have hlt : i.toNat < s.length := by omega
   have e : (⟨s.toArray⟩ : ByteArray)[i.toNat]? = some (s.getD i.toNat 0) := by
    rw [ByteArray.getElem?_lt' _ _ (by simpa [ByteArray.size] using hlt)]
    simp [hlt]; rfl
   refine ⟨_, ?_, .int _ _⟩
   simp [Instr.index, run_underlying hu, asIntOf, hb.1, e]
  ·cases h
 ·rename_i len e cs k i hu
  split at h
  ·rename_i hb
   rw [hi.int_inv]
   have hd : ∃ d, P.underlying e = some d := by
    unfold aload isAggT at h
    cases hx : P.underlying e with
    | none => simp [hx] at h
    | some d => exact ⟨d, rfl⟩
   obtain ⟨d, hd⟩ := hd
   cases hx with
   | agg _ c h1 h2 hr =>
    obtain ⟨cv, h3, h4⟩ := run_part (.agg cs c h1 h2 hr) h
    refine ⟨cv, ?_, h4⟩
    simp [Instr.index, run_underlying hu, asIntOf, hb, run_sizeOf' hd, h3]
  ·cases h
 ·cases h
def afield (P : Program) (t : TypeId) (x : AV) (f : Nat) : Option AV :=
 match P.underlying t, x with
 | some (.struct fs), .agg cs => match fs[f]? with
  | some fd => aload P fd.type cs fd.offset
  | none => none
 | _, _ => none
theorem run_field {t : TypeId} {x r : AV} {f : Nat} {cx : Value} (h : afield P t x f = some r) (hx : Rep L N T w x cx) : ∃ cv, (Instr.field t cx f).run P w = .ok cv w ∧ Rep L N T w r cv := by
 unfold afield at h
 split at h
 ·rename_i fs cs hu
  split at h
  ·rename_i fd hf
   cases hx with
   | agg _ c h1 h2 hr =>
    obtain ⟨cv, h3, h4⟩ := run_part (.agg cs c h1 h2 hr) h
    refine ⟨cv, ?_, h4⟩
    simp [Instr.field, run_underlying hu, hf, asAgg, h3]
  ·cases h
 ·cases h
def abound (x : Option AV) (dflt : Nat) : Option Nat :=
 match x with
 | none => some dflt
 | some (.int _ i) => if 0 ≤ i then some i.toNat else none
 | _ => none
def aslice (P : Program) (t : TypeId) (x : AV) (lo hi mx : Option AV) : Option AV :=
 match P.underlying t, x, mx with
 | some .string, .str s, none =>
  match abound lo 0, abound hi s.length with
  | some l, some h => if l ≤ h ∧ h ≤ s.length then some (.str ((s.drop l).take (h - l))) else none
  | _, _ => none
 | some (.slice e), .sl n cs _, none =>
  match abound lo 0, abound hi n with
  | some l, some h => if l ≤ h ∧ h ≤ n ∧ l * P.cellsOf e ≤ cs.length then (if (P.underlying e).isSome then some (.sl (h - l) ((cs.drop (l * P.cellsOf e)).take ((h - l) * P.cellsOf e)) .none) else none) else none
  | _, _ => none
 | some (.slice e), .sl n cs _, some m =>
  match abound lo 0, abound hi n, abound (some m) 0 with
  | some l, some h, some m => if l ≤ h ∧ h ≤ m ∧ m ≤ n ∧ hi.isSome ∧ l * P.cellsOf e ≤ cs.length then (if (P.underlying e).isSome then some (.sl (h - l) ((cs.drop (l * P.cellsOf e)).take ((h - l) * P.cellsOf e)) (if h = m then .full else .none)) else none) else none
  | _, _, _ => none
 | some (.slice e), .msl i o n, none =>
  match abound lo 0, abound hi n with
  | some l, some h => if l ≤ h ∧ h ≤ n ∧ (l < n ∨ l = 0) then (if (P.underlying e).isSome then some (.msl i (o + l * P.cellsOf e) (h - l)) else none) else none
  | _, _ => none
 | some (.array n e), .ptr i o, none =>
  match abound lo 0, abound hi n with
  | some l, some h => if l ≤ h ∧ h ≤ n ∧ (l < n ∨ l = 0) then (if (P.underlying e).isSome then some (.msl i (o + l * P.cellsOf e) (h - l)) else none) else none
  | _, _ => none
 | _, _, _ => none
theorem abound_rep {x : Option AV} {d n : Nat} {c : Option Value} (h : abound x d = some n) (hc : ∀ v cv, x = some v → c = some cv → Rep L N T w v cv) (hs : x.isSome = c.isSome) :
  (x = none ∧ c = none ∧ n = d) ∨ (∃ k, c = some (.int k (n : Int)) ∧ x.isSome = true) := by
 cases x with
 | none =>
  cases c with
  | none => simp [abound] at h; exact .inl ⟨rfl, rfl, h.symm⟩
  | some c => simp at hs
 | some v =>
  cases c with
  | none => simp at hs
  | some cv =>
   have hr := hc v cv rfl rfl
   cases v <;> simp only [abound, reduceCtorEq] at h
   rename_i k i
   split at h
   ·rename_i hi
    cases h
    right
    rw [hr.int_inv]
    exact ⟨k, by rw [Int.toNat_of_nonneg hi], rfl⟩
   ·cases h
theorem run_bound {k : IntKind} {n y : Nat} (h : n ≤ y) (code : BoundsCode) : (Instr.sliceBound (.int k (n : Int)) y code).run P w = .ok n w := by
 have : (0 : Int) ≤ (n : Int) ∧ (n : Int) ≤ (y : Int) := by omega
 simp [Instr.sliceBound, asIntOf]
 intro hh
 omega
theorem run_bounds {isS : Bool} {len cap l h : Nat} {lo hi : Option AV} {cl ch : Option Value} (hl : abound lo 0 = some l) (hh : abound hi len = some h) (h1 : l ≤ h) (h2 : h ≤ len) (h3 : len ≤ cap)
  (rl : ∀ v cv, lo = some v → cl = some cv → Rep L N T w v cv) (rh : ∀ v cv, hi = some v → ch = some cv → Rep L N T w v cv) (sl : lo.isSome = cl.isSome) (sh : hi.isSome = ch.isSome) :
  (Instr.sliceBounds isS len cap cl ch none).run P w = .ok (l, h, cap) w := by
 rcases abound_rep hl rl sl with ⟨_, e1, e2⟩ | ⟨k, e1, _⟩ <;> rcases abound_rep hh rh sh with ⟨_, e3, e4⟩ | ⟨k', e3, _⟩ <;> subst e1 <;> subst e3
 ·subst e2; subst e4; simp [Instr.sliceBounds]
 ·subst e2; simp [Instr.sliceBounds, run_bound (w := w) (P := P) (k := k') (n := h) (y := cap) (by omega)]
 ·subst e4; simp [Instr.sliceBounds, run_bound (w := w) (P := P) (k := k) (n := l) (y := h) h1]
 ·simp [Instr.sliceBounds, run_bound (w := w) (P := P) (k := k') (n := h) (y := cap) (by omega), run_bound (w := w) (P := P) (k := k) (n := l) (y := h) h1]
theorem run_bounds3 {len cap l h m : Nat} {lo hi : Option AV} {x : AV} {cl ch : Option Value} {cm : Value} (hl : abound lo 0 = some l) (hh : abound hi len = some h) (hm : abound (some x) 0 = some m) (h1 : l ≤ h) (h2 : h ≤ m) (h4 : m ≤ cap) (his : hi.isSome = true)
  (rl : ∀ v cv, lo = some v → cl = some cv → Rep L N T w v cv) (rh : ∀ v cv, hi = some v → ch = some cv → Rep L N T w v cv) (rm : Rep L N T w x cm) (sl : lo.isSome = cl.isSome) (sh : hi.isSome = ch.isSome) :
  (Instr.sliceBounds true len cap cl ch (some cm)).run P w = .ok (l, h, m) w := by
 have em : ∃ k, cm = .int k (m : Int) := by
  rcases abound_rep (c := some cm) hm (fun v cv e1 e2 => by cases e1; cases e2; exact rm) rfl with ⟨e, _⟩ | ⟨k, e, _⟩
  ·cases e
  ·exact ⟨k, by cases e; rfl⟩
 obtain ⟨km, rfl⟩ := em
 rcases abound_rep hh rh sh with ⟨e, _⟩ | ⟨k', e3, _⟩
 ·subst e; simp at his
 subst e3
 rcases abound_rep hl rl sl with ⟨_, e1, e2⟩ | ⟨k, e1, _⟩ <;> subst e1
 ·subst e2; simp [Instr.sliceBounds, run_bound (w := w) (P := P) (k := km) (n := m) (y := cap) h4, run_bound (w := w) (P := P) (k := k') (n := h) (y := m) h2]
 ·simp [Instr.sliceBounds, run_bound (w := w) (P := P) (k := km) (n := m) (y := cap) h4, run_bound (w := w) (P := P) (k := k') (n := h) (y := m) h2, run_bound (w := w) (P := P) (k := k) (n := l) (y := h) h1]
theorem Rep.sub {n : Nat} {cs : List AV} {tg : Tag} {a : Option Addr} {cap : Nat} (hx : Rep L N T w (.sl n cs tg) (.slice a n cap)) (l h m z : Nat) (h1 : l ≤ h) (h2 : h ≤ n) (h3 : h ≤ m) (hlen : l * z ≤ cs.length) (tg' : Tag) (ht : tg' = .none ∨ (tg' = .full ∧ h = m)) :
  Rep L N T w (.sl (h - l) ((cs.drop (l * z)).take ((h - l) * z)) tg') (.slice (if m = l then a else a.map (·.add (l * z))) (h - l) (m - l)) := by
 obtain ⟨a', cap', e, hcap, _, h0⟩ := hx.sl_inv
 cases e
 have tok : ∀ a'', tagOk L T tg' (h - l) ((cs.drop (l * z)).take ((h - l) * z)).length a'' (m - l) := by
  intro a''
  rcases ht with rfl | ⟨rfl, rfl⟩
  ·trivial
  ·rfl
 rcases h0 with ⟨rfl, rfl⟩ | ⟨b, base, cv, rfl, hm, hr, hc⟩
 ·have : h - l = 0 := by omega
  have e2 := tok (if m = l then a else a.map (·.add (l * z)))
  rw [this] at e2 ⊢
  simp at e2 ⊢
  exact .sl0 _ _ _ e2
 ·by_cases hml : m = l
  ·have : h - l = 0 := by omega
   have e2 := tok (if m = l then some ⟨b, base, none⟩ else (some (⟨b, base, none⟩ : Addr)).map (·.add (l * z)))
   rw [this] at e2 ⊢
   simp at e2 ⊢
   exact .sl0 _ _ _ e2
  ·rw [if_neg hml]
   simp only [Option.map_some, addr_add]
   have hrr := (hr.drop (l * z)).take ((h - l) * z)
   have e2 := tok (some ⟨b, base + l * z, none⟩)
   refine Rep.sl_mk (by omega) ?_ hrr (fun j hj => ?_) e2
   ·simp; omega
   ·have hj2 : j < (h - l) * z ∧ j < cs.length - l * z := by simpa [Nat.lt_min] using hj
    rw [Nat.add_assoc, hc _ (by omega)]
    simp [hj2.1]
theorem run_slice {t : TypeId} {x r : AV} {lo hi mx : Option AV} {cx : Value} {cl ch cm : Option Value} (h : aslice P t x lo hi mx = some r) (hx : Rep L N T w x cx)
  (rl : ∀ v cv, lo = some v → cl = some cv → Rep L N T w v cv) (rh : ∀ v cv, hi = some v → ch = some cv → Rep L N T w v cv) (rm : ∀ v cv, mx = some v → cm = some cv → Rep L N T w v cv)
  (sl : lo.isSome = cl.isSome) (sh : hi.isSome = ch.isSome) (sm : mx.isSome = cm.isSome) : ∃ cv, (Instr.sliceAt t cx cl ch cm).run P w = .ok cv w ∧ Rep L N T w r cv := by
 unfold aslice at h
 split at h
 ·rename_i s hu
  cases cm with | some _ => simp at sm | none =>
  split at h
  ·rename_i l hh e1 e2
   split at h
   ·rename_i hb
    cases h
    have hbd := run_bounds (P := P) (isS := false) (cap := s.length) e1 e2 hb.1 hb.2 (Nat.le_refl _) rl rh sl sh
    rw [hx.str_inv]
    refine ⟨_, ?_, .str _⟩
    simp only [Instr.sliceAt, Sem.run_bind, run_underlying hu, Result.andThen_ok, Instr.slice]
    have hsz : (⟨s.toArray⟩ : ByteArray).size = s.length := by simp [ByteArray.size]
    simp only [hsz, hbd, Sem.run_bind, Result.andThen_ok, Option.isSome_none, Bool.false_eq_true, if_false, ByteArray.extract_mk]
    rfl
   ·cases h
  ·cases h
 ·rename_i e n cs tg hu
  cases cm with | some _ => simp at sm | none =>
  split at h
  ·rename_i l hh e1 e2
   split at h
   ·rename_i hb
    split at h
    ·rename_i he
     obtain ⟨d, hd⟩ := Option.isSome_iff_exists.1 he
     cases h
     obtain ⟨a, cap, rfl, hcap, _, _⟩ := hx.sl_inv
     have hbd := run_bounds (P := P) (isS := true) (cap := cap) e1 e2 hb.1 hb.2.1 hcap rl rh sl sh
     refine ⟨_, ?_, hx.sub l hh cap (P.cellsOf e) hb.1 hb.2.1 (by omega) hb.2.2 .none (.inl rfl)⟩
     simp only [Instr.sliceAt, Sem.run_bind, run_underlying hu, Result.andThen_ok, Instr.slice, hbd, run_sizeOf' hd]
     rfl
    ·cases h
   ·cases h
  ·cases h
 ·rename_i e n cs tg m hu
  cases cm with | none => simp at sm | some cm =>
  split at h
  ·rename_i l hh mm e1 e2 e3
   split at h
   ·rename_i hb
    split at h
    ·rename_i he
     obtain ⟨d, hd⟩ := Option.isSome_iff_exists.1 he
     cases h
     obtain ⟨a, cap, rfl, hcap, _, _⟩ := hx.sl_inv
     have hbd := run_bounds3 (P := P) (cap := cap) e1 e2 e3 hb.1 hb.2.1 (by omega) hb.2.2.2.1 rl rh (rm _ _ rfl rfl) sl sh
     refine ⟨_, ?_, hx.sub l hh mm (P.cellsOf e) hb.1 (by omega) hb.2.1 hb.2.2.2.2 (if hh = mm then .full else .none) ?_⟩
     ·simp only [Instr.sliceAt, Sem.run_bind, run_underlying hu, Result.andThen_ok, Instr.slice, hbd, run_sizeOf' hd]
      rfl
     ·split
      ·exact .inr ⟨rfl, ‹_›⟩
      ·exact .inl rfl
    ·cases h
   ·cases h
  ·cases h
 ·rename_i e i o n hu
  cases cm with | some _ => simp at sm | none =>
  split at h
  ·rename_i l hh e1 e2
   split at h
   ·rename_i hb
    split at h
    ·rename_i he
     obtain ⟨d, hd⟩ := Option.isSome_iff_exists.1 he
     cases h
     obtain ⟨cap, rfl, hcap, hlt⟩ := hx.msl_inv
     have hbd := run_bounds (P := P) (isS := true) (cap := cap) e1 e2 hb.1 hb.2.1 hcap rl rh sl sh
     refine ⟨.slice (some ⟨L.phi i, o + l * P.cellsOf e, none⟩) (hh - l) (cap - l), ?_, .msl _ _ _ _ hlt (by omega)⟩
     simp only [Instr.sliceAt, Sem.run_bind, run_underlying hu, Result.andThen_ok, Instr.slice, hbd, run_sizeOf' hd]
     by_cases hcl : cap = l
     ·have hl0 : l = 0 := by omega
      subst hl0; subst hcl
      simp
     ·rw [if_neg hcl]; simp [addr_add]
    ·cases h
   ·cases h
  ·cases h
 ·rename_i n e i o hu
  cases cm with | some _ => simp at sm | none =>
  split at h
  ·rename_i l hh e1 e2
   split at h
   ·rename_i hb
    split at h
    ·rename_i he
     obtain ⟨d, hd⟩ := Option.isSome_iff_exists.1 he
     cases h
     obtain ⟨rfl, hlt⟩ := hx.ptr_inv
     have hbd := run_bounds (P := P) (isS := false) (cap := n) e1 e2 hb.1 hb.2.1 (Nat.le_refl _) rl rh sl sh
     refine ⟨.slice (some ⟨L.phi i, o + l * P.cellsOf e, none⟩) (hh - l) (n - l), ?_, .msl _ _ _ _ hlt (by omega)⟩
     simp only [Instr.sliceAt, Sem.run_bind, run_underlying hu, Result.andThen_ok, Instr.sureAddr, hbd, run_sizeOf' hd, Sem.run_pure]
     by_cases hcl : n = l
     ·have hl0 : l = 0 := by omega
      subst hl0; subst hcl
      simp
     ·rw [if_neg hcl]; simp [addr_add]
    ·cases h
   ·cases h
  ·cases h
 ·cases h
end
end Go.Am
