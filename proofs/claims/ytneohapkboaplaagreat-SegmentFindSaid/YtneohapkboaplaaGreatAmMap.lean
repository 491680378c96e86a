/- Maps over abstract values: their keys, and the operations on them; they are what the model does.
  Conditions: none; it speaks of every program. -/
import Derived.Test.YtneohapkboaplaaGreatAmApp
import Derived.Maps.RangeRun
import Derived.Maps.Keyed
set_option linter.unusedVariables false
namespace Go.Am
open Go
@[simp] def KC.av : KC → AV
 | .int k n => .int k n
 | .str s => .str s
 | .bool b => .bool b
@[simp] def MKey.av : MKey → AV
 | .one c => c.av
 | .agg cs => .agg (cs.map KC.av)
@[simp] def kcAV : AV → Option KC
 | .int k n => some (.int k n)
 | .str s => some (.str s)
 | .bool b => some (.bool b)
 | _ => none
@[simp] def kcsAV : List AV → Option (List KC)
 | [] => some []
 | v :: r => match kcAV v, kcsAV r with
  | some c, some cs => some (c :: cs)
  | _, _ => none
@[simp] def keyAV : AV → Option MKey
 | .agg cs => (kcsAV cs).map .agg
 | v => (kcAV v).map .one
@[simp] def mget : List (MKey × AV) → MKey → Option AV
 | [], _ => none
 | (k', v) :: r, k => if k' = k then some v else mget r k
@[simp] def mput : List (MKey × AV) → MKey → AV → List (MKey × AV)
 | [], k, v => [(k, v)]
 | (k', u) :: r, k, v => if k' = k then (k, v) :: r else (k', u) :: mput r k v
def lookV (es : List (MKey × AV)) (k : MKey) (z : AV) (ok : Bool) : AV :=
 if ok then .tup [(mget es k).getD z, .bool (mget es k).isSome] else (mget es k).getD z
def keyT (P : Program) (k : TypeId) : Bool :=
 match P.underlying k with
 | some .bool | some (.int _) | some .string => true
 | some (.array _ _) | some (.struct _) => P.keyTypeAt 3 k && P.tiled 3 k
 | _ => false
def mapT (P : Program) (t : TypeId) : Option (TypeId × TypeId) :=
 match P.underlying t with
 | some (.map k e) => if keyT P k then some (k, e) else none
 | _ => none
def fitsB (P : Program) (kt : TypeId) (k : MKey) : Bool := (keyOf P kt k.val).isSome
def keysFit (P : Program) (kt : TypeId) (es : List (MKey × AV)) : Bool := es.all fun e => fitsB P kt e.1
def azeroV (P : Program) (t : TypeId) : Option AV := (P.info? t).bind fun i => i.zero.map ofC
theorem keysFit_put {P : Program} {kt : TypeId} {es : List (MKey × AV)} {k : MKey} {v : AV} (h : keysFit P kt es = true) (hk : fitsB P kt k = true) : keysFit P kt (mput es k v) = true := by
 induction es with
 | nil => simp [keysFit, hk]
 | cons x r ih =>
  obtain ⟨k', u⟩ := x
  simp only [keysFit, List.all_cons, Bool.and_eq_true] at h ih ⊢
  simp only [mput]
  split
  ·simp only [List.all_cons, Bool.and_eq_true]; exact ⟨hk, h.2⟩
  ·simp only [List.all_cons, Bool.and_eq_true]; exact ⟨h.1, ih h.2⟩
theorem mget_none {es : List (MKey × AV)} {k : MKey} (h : ∀ e ∈ es, e.1 ≠ k) : mget es k = none := by
 induction es with
 | nil => rfl
 | cons x r ih => simp only [mget, if_neg (h x (by simp))]; exact ih fun e he => h e (by simp [he])
theorem mput_none {es : List (MKey × AV)} {k : MKey} {v : AV} (h : ∀ e ∈ es, e.1 ≠ k) : mput es k v = es ++ [(k, v)] := by
 induction es with
 | nil => rfl
 | cons x r ih =>
  simp only [mput, if_neg (h x (by simp)), List.cons_append]
  rw [ih fun e he => h e (by simp [he])]
theorem mget_at {es : List (MKey × AV)} {k : MKey} (hn : (es.map (·.1)).Nodup) : ∀ {j : Nat} (hj : j < es.length), (es[j]).1 = k → mget es k = some (es[j]).2 := by
 induction es with
 | nil => intro j hj; simp at hj
 | cons x r ih =>
  intro j hj he
  simp only [List.map_cons, List.nodup_cons] at hn
  cases j with
  | zero => simp only [List.getElem_cons_zero] at he ⊢; simp [mget, he]
  | succ j =>
   simp only [List.getElem_cons_succ] at he ⊢
   have : x.1 ≠ k := fun e => hn.1 (by rw [e, ← he]; exact List.mem_map.2 ⟨_, List.getElem_mem _, rfl⟩)
   simp only [mget, if_neg this]
   exact ih hn.2 _ he
theorem mput_at {es : List (MKey × AV)} {k : MKey} {v : AV} (hn : (es.map (·.1)).Nodup) : ∀ {j : Nat} (hj : j < es.length), (es[j]).1 = k → mput es k v = es.set j (k, v) := by
 induction es with
 | nil => intro j hj; simp at hj
 | cons x r ih =>
  intro j hj he
  simp only [List.map_cons, List.nodup_cons] at hn
  cases j with
  | zero => simp only [List.getElem_cons_zero] at he; simp [mput, he]
  | succ j =>
   simp only [List.getElem_cons_succ] at he
   have : x.1 ≠ k := fun e => hn.1 (by rw [e, ← he]; exact List.mem_map.2 ⟨_, List.getElem_mem _, rfl⟩)
   simp only [mput, if_neg this, List.set_cons_succ]
   rw [ih hn.2 _ he]
theorem KC.val_inj {a b : KC} (h : a.val = b.val) : a = b := by
 cases a <;> cases b <;> simp [KC.val] at h <;> simp_all
theorem kcs_inj : ∀ {a b : List KC}, a.map KC.val = b.map KC.val → a = b
 | [], [], _ => rfl
 | [], _ :: _, h => by simp at h
 | _ :: _, [], h => by simp at h
 | x :: r, y :: s, h => by
  simp only [List.map_cons, List.cons.injEq] at h
  rw [KC.val_inj h.1, kcs_inj h.2]
theorem MKey.val_inj {a b : MKey} (h : a.val = b.val) : a = b := by
 cases a with
 | one a => cases b with
  | one b => rw [KC.val_inj (a := a) (b := b) (by simpa [MKey.val] using h)]
  | agg b => cases a <;> simp [MKey.val, KC.val] at h
 | agg a => cases b with
  | one b => cases b <;> simp [MKey.val, KC.val] at h
  | agg b => simp only [MKey.val, Value.agg.injEq] at h; rw [kcs_inj (a := a) (b := b) (by simpa using congrArg Array.toList h)]
section
variable {P : Program} {L : Lay} {H : List Blk} {T : Toks} {w : World}
theorem KC.rep {N : Nat} (k : KC) : Rep L N T w k.av k.val := by
 cases k with
 | int k n => exact .int _ _
 | str s => exact .str _
 | bool b => exact .bool _
theorem MKey.rep {N : Nat} (k : MKey) : Rep L N T w k.av k.val := by
 cases k with
 | one c => exact c.rep
 | agg cs =>
  refine .agg _ _ (by simp) (fun j hj => ?_) (fun j hj hj' => ?_)
  ·simp only [List.getElem_toArray, List.getElem_map]
   generalize cs[j]'_ = c
   cases c <;> rfl
  ·simp only [List.getElem_toArray, List.getElem_map]
   exact KC.rep _
theorem kcAV_val {N : Nat} {v : AV} {c : Value} {k : KC} (h : kcAV v = some k) (hr : Rep L N T w v c) : c = k.val := by
 cases v <;> simp only [kcAV, reduceCtorEq, Option.some.injEq] at h <;> subst h
 ·rw [hr.bool_inv]; rfl
 ·rw [hr.int_inv]; rfl
 ·rw [hr.str_inv]; rfl
theorem kcsAV_val {N : Nat} : ∀ {vs : List AV} {cs : List Value} {ks : List KC}, kcsAV vs = some ks → cs.length = vs.length → (∀ (j : Nat) (h : j < vs.length) (h' : j < cs.length), Rep L N T w (vs[j]'h) (cs[j]'h')) → cs = ks.map KC.val
 | [], cs, ks, h, hl, _ => by
  have : cs = [] := List.eq_nil_of_length_eq_zero (by simpa using hl)
  simp only [kcsAV, Option.some.injEq] at h
  subst h; rw [this]; rfl
 | v :: vs, c :: cs, ks, h, hl, hr => by
  simp only [kcsAV] at h
  split at h
  ·rename_i k ks' h1 h2
   cases h
   have h0 := hr 0 (by simp) (by simp)
   simp only [List.getElem_cons_zero] at h0
   have := kcsAV_val (cs := cs) h2 (by simpa using hl) (fun j hj hj' => by have := hr (j + 1) (by simpa using hj) (by simpa using hj'); simpa using this)
   rw [this, kcAV_val h1 h0]; rfl
  ·cases h
theorem keyAV_val {N : Nat} {v : AV} {c : Value} {k : MKey} (h : keyAV v = some k) (hr : Rep L N T w v c) : c = k.val := by
 unfold keyAV at h
 split at h
 ·rename_i cs
  obtain ⟨ks, h1, rfl⟩ := Option.map_eq_some_iff.1 h
  cases hr with
  | agg _ cv h2 h3 h4 =>
   have := kcsAV_val (cs := cv.toList) h1 (by simpa using h2) (fun j hj hj' => by simpa using h4 j hj (by simpa using hj'))
   show Value.agg cv = .agg (ks.map KC.val).toArray
   rw [← this]
 ·obtain ⟨c', h1, rfl⟩ := Option.map_eq_some_iff.1 h
  exact kcAV_val h1 hr
theorem keyT_keyed {k : TypeId} (h : keyT P k = true) : Maps.Keyed P k := by
 unfold keyT at h
 split at h
 ·rename_i hu; exact Maps.bool_keyed hu
 ·rename_i hu; exact Maps.int_keyed hu
 ·rename_i hu; exact Maps.string_keyed hu
 ·rename_i hu
  simp only [Bool.and_eq_true] at h
  exact Maps.Keyed.of_law (deep_law (m := 3) (by omega) h.1 h.2 (by simp [hu]))
 ·rename_i hu
  simp only [Bool.and_eq_true] at h
  exact Maps.Keyed.of_law (deep_law (m := 3) (by omega) h.1 h.2 (by simp [hu]))
 ·cases h
theorem mapT_inv {t kt el : TypeId} (h : mapT P t = some (kt, el)) : P.underlying t = some (.map kt el) ∧ Maps.Keyed P kt := by
 unfold mapT at h
 split at h
 ·rename_i k e hu
  split at h
  ·rename_i hk
   cases h
   exact ⟨hu, keyT_keyed hk⟩
  ·cases h
 ·cases h
theorem azeroV_run {t : TypeId} {z : AV} {N : Nat} (h : azeroV P t = some z) : ∃ c, (zeroValue t).run P w = .ok c w ∧ Rep L N T w z c := by
 unfold azeroV at h
 obtain ⟨i, hi, h2⟩ := Option.bind_eq_some_iff.1 h
 obtain ⟨c, hc, rfl⟩ := Option.map_eq_some_iff.1 h2
 exact ⟨c, run_zero hi hc w, .ofC c⟩
theorem Rep.mref_inv {N : Nat} {i : Nat} {c : Value} (h : Rep L N T w (.mref i) c) : c = .map (some (L.phi i)) ∧ i < N := by cases h; exact ⟨rfl, ‹_›⟩
theorem Con.setBlk {w' : World} (h : Con L H T w) {i : Nat} {b b' : Blk} (hi : H[i]? = some b) (hm : L.m (L.phi i) = 0) (hne : ∀ x, x ≠ L.phi i → w'.heap[x]? = w.heap[x]?) (hz : w'.heap.size = w.heap.size)
  (ho : w'.os = w.os) (hta : w'.tape = w.tape) (hout : w'.output = w.output) (hdr : w.drawn ≤ w'.drawn) (hb' : Keeps L H.length T w L H.length T w' → BoxOk L H.length T w' i b') :
  Con L (H.set i b') T w' ∧ Ev H.length T.length L H.length T w L (H.set i b').length T w' := by
 have hil := (List.getElem?_eq_some_iff.1 hi).1
 have hcom : ∀ b o', o' < L.m b → w'.cell? ⟨b, o', none⟩ = w.cell? ⟨b, o', none⟩ := by
  intro b o' hlt
  refine cell_heap (hne _ ?_) o'
  rintro rfl
  omega
 have kp : Keeps L H.length T w L H.length T w' :=
  ⟨Nat.le_refl _, fun _ _ => rfl, fun t u z h => ⟨u, h, Nat.le_refl _, fun _ => rfl⟩, fun _ => Nat.le_refl _, hcom, rfl⟩
 refine ⟨⟨fun j b hb => ?_, fun a b ha hb => h.inj a b (by simpa using ha) (by simpa using hb), fun t u z ht => ?_, h.tinj, fun t u z j ht hs hj => h.tbox t u z j ht hs (by simpa using hj), fun b hb => h.mz b (by omega), h.gl.keep kp.m kp.com⟩,
  by simp, fun _ _ => rfl, fun t u z _ h => ⟨u, h, Nat.le_refl _, fun _ => rfl⟩, Nat.le_refl _, fun _ => Nat.le_refl _, hcom, by omega, fun b hb hn => ?_, fun b hb => .inl (by simpa using hb), ho, hta, hout, fun _ => hdr, rfl⟩
 ·rw [List.length_set]
  by_cases hji : i = j
  ·subst hji
   rw [List.getElem?_set_self hil] at hb
   cases hb
   exact hb' kp
  ·rw [List.getElem?_set_ne hji] at hb
   have hjl := (List.getElem?_eq_some_iff.1 hb).1
   exact (h.box j b hb).stay kp hjl (hne _ fun e => hji (h.inj j i hjl hil e).symm) id
 ·obtain ⟨k1, k2⟩ := h.tok t u z ht
  refine ⟨k1, fun hs => ?_⟩
  rw [hne _ (h.tbox t u z i ht hs hil)]
  exact k2 hs
 ·exact hne _ (fun e => hn (.inl ⟨i, hil, e.symm⟩))
theorem Con.newBlk (h : Con L H T w) (o : Obj) (b : Blk) (hb : ∀ L', Keeps L H.length T w L' (H.length + 1) T (w.alloc o) → L'.phi H.length = w.heap.size → L'.m w.heap.size = 0 → BoxOk L' (H.length + 1) T (w.alloc o) H.length b) :
  ∃ L', Con L' (H ++ [b]) T (w.alloc o) ∧ Ev H.length T.length L H.length T w L' (H ++ [b]).length T (w.alloc o) ∧ L'.phi H.length = w.heap.size := by
 have h1 := h.alloc o 0
 have e1 := Ev.alloc h o 0
 have hnw : ¬ Wr (L.commit w.heap.size 0) H.length T w.heap.size := h.not_wr (Nat.le_refl _)
 have e2 := Ev.addBox (b := w.heap.size) b e1 (Nat.le_refl _)
 have hphi : ((L.commit w.heap.size 0).withBox H.length w.heap.size).phi H.length = w.heap.size := by simp [Lay.withBox]
 have kp := e2.keeps
 have hl : (H ++ [b]).length = H.length + 1 := by simp
 rw [hl] at kp
 exact ⟨(L.commit w.heap.size 0).withBox H.length w.heap.size, h1.addBox w.heap.size hnw b (fun hle => by simp at hle; omega) (hb _ kp hphi (by simp [Lay.withBox, Lay.commit])), e2, hphi⟩
theorem run_makeMap (hc : Con L H T w) (t : TypeId) : ∃ cv w' L', (Instr.makeMap t none).run P w = .ok cv w' ∧ Con L' (H ++ [.map []]) T w' ∧ Rep L' (H ++ [Blk.map []]).length T w' (.mref H.length) cv ∧ Ev H.length T.length L H.length T w L' (H ++ [Blk.map []]).length T w' := by
 obtain ⟨L', h1, h2, h3⟩ := hc.newBlk (.map #[] 0) (.map []) (fun L' kp hp hm => ⟨#[], by rw [hp]; exact heap_alloc_at w _, rfl, fun j hj => by simp at hj, by simp, by rw [hp]; exact hm⟩)
 refine ⟨.map (some w.heap.size), _, L', rfl, h1, ?_, h2⟩
 rw [← h3]; exact .mref _ (by simp)
theorem run_find (kt : TypeId) (K : Maps.Keyed P kt) {N : Nat} {es : List (MKey × AV)} {ents : Array MapEntry} {k : MKey} (hsz : ents.size = es.length)
  (hr : ∀ (j : Nat) (h : j < es.length) (h' : j < ents.size), (ents[j]'h').key = (es[j]'h).1.val ∧ (ents[j]'h').born = j ∧ Rep L N T w (es[j]'h).2 (ents[j]'h').val) (hk : fitsB P kt k = true) (hes : keysFit P kt es = true) :
  ((Instr.findKey kt k.val ents.toList).run P w = .ok none w ∧ ∀ e ∈ es, e.1 ≠ k) ∨ ∃ (j : Nat) (h : j < es.length) (h' : j < ents.size), (Instr.findKey kt k.val ents.toList).run P w = .ok (some (j, (ents[j]'h').val)) w ∧ (es[j]'h).1 = k := by
 obtain ⟨l, hl⟩ := Option.isSome_iff_exists.1 hk
 have hall : ∀ e ∈ ents.toList, ∃ l, keyOf P kt e.key = some l := by
  intro e he
  obtain ⟨j, hj, rfl⟩ := List.mem_iff_getElem.1 he
  have hj' : j < ents.size := by simpa using hj
  have hj2 : j < es.length := by omega
  have := (hr j hj2 hj').1
  rw [Array.getElem_toList, this]
  have h2 := List.all_eq_true.1 hes _ (List.getElem_mem hj2)
  exact Option.isSome_iff_exists.1 h2
 rcases K.find w hl ents.toList hall with ⟨h1, h2⟩ | ⟨j, e, h1, h2, h3⟩
 ·refine .inl ⟨h1, fun e he hek => ?_⟩
  obtain ⟨j, hj, rfl⟩ := List.mem_iff_getElem.1 he
  have hj' : j < ents.size := by omega
  refine h2 ents[j] (by simp) ?_
  rw [(hr j hj hj').1, hek]
 ·obtain ⟨hj, rfl⟩ := List.getElem?_eq_some_iff.1 h2
  have hj' : j < ents.size := by simpa using hj
  have hj2 : j < es.length := by omega
  rw [Array.getElem_toList] at h1 h3
  exact .inr ⟨j, hj2, hj', h1, MKey.val_inj (by rw [← (hr j hj2 hj').1]; exact h3)⟩
theorem run_lookup (hc : Con L H T w) {t kt el : TypeId} {m : Nat} {es : List (MKey × AV)} {k : MKey} {z : AV} (ok : Bool) (hT : mapT P t = some (kt, el)) (hi : H[m]? = some (.map es)) (hz : azeroV P el = some z)
  (hk : fitsB P kt k = true) (hes : keysFit P kt es = true) : ∃ cv, (Instr.lookup t (.map (some (L.phi m))) k.val ok).run P w = .ok cv w ∧ Rep L H.length T w (lookV es k z ok) cv := by
 obtain ⟨hu, K⟩ := mapT_inv hT
 obtain ⟨ents, g1, g2, g3, g4, _⟩ := hc.box m _ hi
 obtain ⟨l, hl⟩ := Option.isSome_iff_exists.1 hk
 have fin : ∀ (v : AV) (c : Value) (b : Bool), Rep L H.length T w v c → Rep L H.length T w (if ok then .tup [v, .bool b] else v) (if ok then .tuple #[c, .bool b] else c) := by
  intro v c b hv
  cases ok
  ·exact hv
  ·refine .tup _ _ rfl (fun j hj hj' => ?_)
   match j, hj with
   | 0, _ => exact hv
   | 1, _ => exact .bool _
 rcases run_find kt K g2 g3 hk hes with ⟨h1, h2⟩ | ⟨j, hj, hj', h1, h2⟩
 ·obtain ⟨c, c1, c2⟩ := azeroV_run (P := P) (L := L) (N := H.length) (T := T) (w := w) hz
  refine ⟨if ok then .tuple #[c, .bool false] else c, ?_, ?_⟩
  ·simp only [Instr.lookup, Sem.run_bind, run_underlying hu, Result.andThen_ok, MapKept.run_getObj_map g1, K.check w _ hl, h1, c1, Sem.run_pure]
  ·have := fin z c false c2
   simpa only [lookV, mget_none h2, Option.getD_none, Option.isSome_none] using this
 ·refine ⟨if ok then .tuple #[ents[j].val, .bool true] else ents[j].val, ?_, ?_⟩
  ·simp only [Instr.lookup, Sem.run_bind, run_underlying hu, Result.andThen_ok, MapKept.run_getObj_map g1, K.check w _ hl, h1, Sem.run_pure]
  ·have := fin _ _ true (g3 j hj hj').2.2
   simpa only [lookV, mget_at g4 hj h2, Option.getD_some, Option.isSome_some] using this
theorem run_mapUpdate (hc : Con L H T w) {t kt el : TypeId} {m : Nat} {es : List (MKey × AV)} {k : MKey} {v : AV} {c : Value} (hT : mapT P t = some (kt, el)) (hi : H[m]? = some (.map es)) (hv : Rep L H.length T w v c)
  (hk : fitsB P kt k = true) (hes : keysFit P kt es = true) : ∃ w', (Instr.mapUpdate t (.map (some (L.phi m))) k.val c).run P w = .ok () w' ∧ Con L (H.set m (.map (mput es k v))) T w' ∧ Ev H.length T.length L H.length T w L (H.set m (.map (mput es k v))).length T w' := by
 obtain ⟨hu, K⟩ := mapT_inv hT
 obtain ⟨ents, g1, g2, g3, g4, g5⟩ := hc.box m _ hi
 obtain ⟨l, hl⟩ := Option.isSome_iff_exists.1 hk
 have hml := (List.getElem?_eq_some_iff.1 hi).1
 have hlt := hc.phi_lt hml
 have put : ∀ (o : Obj), (Keeps L H.length T w L H.length T { w with heap := w.heap.setIfInBounds (L.phi m) o } → BoxOk L H.length T { w with heap := w.heap.setIfInBounds (L.phi m) o } m (.map (mput es k v))) →
   Con L (H.set m (.map (mput es k v))) T { w with heap := w.heap.setIfInBounds (L.phi m) o } ∧ Ev H.length T.length L H.length T w L (H.set m (.map (mput es k v))).length T { w with heap := w.heap.setIfInBounds (L.phi m) o } := fun o hb =>
  hc.setBlk hi g5 (fun x hx => Array.getElem?_setIfInBounds_ne (fun e => hx e.symm)) (by simp) rfl rfl rfl (Nat.le_refl _) hb
 have new : ∀ o : Obj, (w.heap.setIfInBounds (L.phi m) o)[L.phi m]? = some o := fun o => by simp [hlt]
 rcases run_find kt K g2 g3 hk hes with ⟨h1, h2⟩ | ⟨j, hj, hj', h1, h2⟩
 ·refine ⟨_, ?_, put (.map (ents.push { key := k.val, val := c, born := es.length }) (es.length + 1)) fun kp => ?_⟩
  ·simp only [Instr.mapUpdate, Sem.run_bind, run_underlying hu, Result.andThen_ok, MapKept.run_getObj_map g1, K.check w _ hl, h1, MapKept.run_setObj_map _ g1]
  ·have e := mput_none (v := v) h2
   refine ⟨ents.push { key := k.val, val := c, born := es.length }, by rw [new, e]; simp, by rw [e]; simp [g2], fun j hj hj' => ?_, ?_, g5⟩
   ·rcases Nat.lt_or_ge j es.length with hjl | hjl
    ·have hje : j < ents.size := by omega
     have := g3 j hjl hje
     simp only [e, List.getElem_append_left hjl, Array.getElem_push_lt hje]
     exact ⟨this.1, this.2.1, this.2.2.keep kp⟩
    ·have : j = es.length := by simp [e] at hj; omega
     subst this
     have e2 : (ents.push { key := k.val, val := c, born := es.length })[es.length]'hj' = { key := k.val, val := c, born := es.length } := by simp [← g2]
     simp only [e, e2, List.getElem_append_right (Nat.le_refl _), Nat.sub_self, List.getElem_cons_zero]
     exact ⟨trivial, trivial, hv.keep kp⟩
   ·rw [e, List.map_append, List.nodup_append]
    refine ⟨g4, by simp, fun a ha b hb => ?_⟩
    obtain ⟨x, hx, rfl⟩ := List.mem_map.1 ha
    simp at hb
    rw [hb]; exact h2 x hx
 ·have hkey := (g3 j hj hj').1
  rw [h2] at hkey
  have hst : (Instr.keyThatStays k.val k.val).run P w = .ok k.val w := K.stays w hl
  refine ⟨_, ?_, put (.map (ents.modify j fun e => { e with key := k.val, val := c }) es.length) fun kp => ?_⟩
  ·have e0 : ((ents[j]?.map (·.key)).getD k.val) = k.val := by rw [Array.getElem?_eq_getElem hj']; exact hkey
   simp only [Instr.mapUpdate, Sem.run_bind, run_underlying hu, Result.andThen_ok, MapKept.run_getObj_map g1, K.check w _ hl, h1, e0, hst, MapKept.run_setObj_map _ g1]
  ·have e := mput_at (v := v) g4 hj h2
   refine ⟨ents.modify j fun e => { e with key := k.val, val := c }, by rw [new, e]; simp, by rw [e]; simp [g2], fun i hi' hi2 => ?_, ?_, g5⟩
   ·have hil : i < es.length := by simpa [e] using hi'
    have hie : i < ents.size := by omega
    have := g3 i hil hie
    simp only [e, Array.getElem_modify, List.getElem_set]
    by_cases hij : j = i
    ·subst hij
     simp only [if_true]
     exact ⟨trivial, this.2.1, hv.keep kp⟩
    ·simp only [if_neg hij]
     exact ⟨this.1, this.2.1, this.2.2.keep kp⟩
   ·rw [e, List.map_set]
    have : (es.map (·.1)).set j k = es.map (·.1) := by
     apply List.ext_getElem (by simp)
     intro i h3 h4
     rw [List.getElem_set]
     split
     ·rename_i hij; subst hij; simp [h2]
     ·rfl
    rw [this]; exact g4
theorem run_mrange (hc : Con L H T w) {t kt el : TypeId} {m : Nat} {es : List (MKey × AV)} (hT : mapT P t = some (kt, el)) (hi : H[m]? = some (.map es)) :
  ∃ cv w' L', (Instr.range t (.map (some (L.phi m)))).run P w = .ok cv w' ∧ Con L' (H ++ [.mit m es.length []]) T w' ∧ Rep L' (H ++ [Blk.mit m es.length []]).length T w' (.ptr H.length 0) cv ∧ Ev H.length T.length L H.length T w L' (H ++ [Blk.mit m es.length []]).length T w' := by
 obtain ⟨hu, K⟩ := mapT_inv hT
 obtain ⟨ents, g1, g2, g3, g4, g5⟩ := hc.box m _ hi
 have hml := (List.getElem?_eq_some_iff.1 hi).1
 obtain ⟨L', h1, h2, h3⟩ := hc.newBlk (.mapIter (some (L.phi m)) es.length #[] es.length) (.mit m es.length [])
  (fun L' kp hp hm => ⟨by rw [hp, kp.phi m hml]; exact heap_alloc_at w _, hml, by rw [hp]; exact hm⟩)
 refine ⟨.pointer (some ⟨w.heap.size, 0, none⟩), _, L', run_range_map w t kt el _ ents es.length hu g1, h1, ?_, h2⟩
 rw [← h3]; exact .ptr _ _ (by simp)
theorem run_mnext (hc : Con L H T w) (ty : TypeId) {i m : Nat} {es : List (MKey × AV)} {seen : List Nat} (hi : H[i]? = some (.mit m es.length seen)) (hm : H[m]? = some (.map es)) :
  ((∀ j, j < es.length → j ∈ seen) ∧ (Instr.next (.pointer (some ⟨L.phi i, 0, none⟩)) false ty).run P w = .ok (.tuple #[.bool false]) w) ∨
  ∃ (j : Nat) (hj : j < es.length) (cv : Value) (w' : World), j ∉ seen ∧ (Instr.next (.pointer (some ⟨L.phi i, 0, none⟩)) false ty).run P w = .ok cv w' ∧ Con L (H.set i (.mit m es.length (seen ++ [j]))) T w' ∧
   Rep L (H.set i (.mit m es.length (seen ++ [j]))).length T w' (.tup [.bool true, (es[j]).1.av, (es[j]).2]) cv ∧ Ev H.length T.length L H.length T w L (H.set i (.mit m es.length (seen ++ [j]))).length T w' := by
 obtain ⟨ents, g1, g2, g3, g4, g5⟩ := hc.box m _ hm
 obtain ⟨k1, k2, k3⟩ := hc.box i _ hi
 have hil := (List.getElem?_eq_some_iff.1 hi).1
 have hlt := hc.phi_lt hil
 have born : ∀ x ∈ ents.toList, x.born < es.length := by
  intro x hx
  obtain ⟨j, hj, rfl⟩ := List.mem_iff_getElem.1 hx
  have hj' : j < ents.size := by simpa using hj
  rw [Array.getElem_toList, (g3 j (by omega) hj').2.1]; omega
 rcases run_next_at (P := P) w ty (L.phi i) (L.phi m) es.length es.length seen.toArray ents es.length k1 g1 born (Nat.le_refl _) with ⟨h1, h2⟩ | ⟨e, he, w1, hw, h2⟩
 ·refine .inl ⟨fun j hj => ?_, h2⟩
  have hj' : j < ents.size := by omega
  have h0 : leftOf ents seen.toArray = #[] := Array.eq_empty_of_size_eq_zero h1
  unfold leftOf at h0
  rw [Array.filter_eq_empty_iff] at h0
  have := h0 ents[j] (by simp)
  rw [(g3 j hj hj').2.1] at this
  simpa using this
 ·unfold leftOf at he
  simp only [Array.toList_filter, List.mem_filter] at he
  obtain ⟨hem, hes⟩ := he
  obtain ⟨j, hj, rfl⟩ := List.mem_iff_getElem.1 hem
  have hj' : j < ents.size := by simpa using hj
  have hjl : j < es.length := by omega
  obtain ⟨b1, b2, b3⟩ := g3 j hjl hj'
  simp only [Array.getElem_toList] at h2 hes
  rw [b2] at h2 hes
  have hns : j ∉ seen := by simpa using hes
  have hh : w1.heap = w.heap := by rcases hw with rfl | rfl <;> rfl
  have ho : w1.os = w.os ∧ w1.tape = w.tape ∧ w1.output = w.output ∧ w.drawn ≤ w1.drawn := by rcases hw with rfl | rfl <;> exact ⟨rfl, rfl, rfl, by first | exact Nat.le_refl _ | exact Nat.le_succ _⟩
  have hb : ∀ o : Obj, (ChangeMaps.setBlock w1 (L.phi i) o).heap = w.heap.setIfInBounds (L.phi i) o := fun o => by simp [ChangeMaps.setBlock, hh]
  obtain ⟨c1, c2⟩ := hc.setBlk (w' := ChangeMaps.setBlock w1 (L.phi i) (.mapIter (some (L.phi m)) es.length (seen.toArray.push j) es.length)) (b' := .mit m es.length (seen ++ [j])) hi k3
   (fun x hx => by rw [hb]; exact Array.getElem?_setIfInBounds_ne (fun e => hx e.symm)) (by rw [hb]; simp) ho.1 ho.2.1 ho.2.2.1 ho.2.2.2 (fun kp => ⟨by rw [hb]; simp [hlt], k2, k3⟩)
  refine .inr ⟨j, hjl, _, _, hns, h2, c1, ?_, c2⟩
  refine .tup _ _ rfl (fun j' hj1 hj2 => ?_)
  match j', hj1 with
  | 0, _ => exact .bool _
  | 1, _ => simp only [List.getElem_toArray, List.getElem_cons_succ, List.getElem_cons_zero, b1]; exact MKey.rep _
  | 2, _ =>
   have := b3.keep (by simpa using c2.keeps)
   simpa using this
theorem run_mentry (hc : Con L H T w) {i m j : Nat} {es : List (MKey × AV)} {seen : List Nat} (hi : H[i]? = some (.mit m es.length (seen ++ [j]))) (hm : H[m]? = some (.map es)) (hj : j < es.length) :
  ∃ cv, (Instr.entry (.pointer (some ⟨L.phi i, 0, none⟩))).run P w = .ok cv w ∧ Rep L H.length T w (.tup [(es[j]).1.av, (es[j]).2]) cv := by
 obtain ⟨ents, g1, g2, g3, g4, g5⟩ := hc.box m _ hm
 obtain ⟨k1, k2, k3⟩ := hc.box i _ hi
 have hj' : j < ents.size := by omega
 obtain ⟨b1, b2, b3⟩ := g3 j hj hj'
 have hn : (ents.toList.map (·.born)).Nodup := by
  have : ents.toList.map (·.born) = List.range ents.size := by
   apply List.ext_getElem (by simp)
   intro x h1 h2
   simp only [List.getElem_map, Array.getElem_toList, List.getElem_range]
   exact (g3 x (by simp at h1; omega) (by simpa using h1)).2.1
  rw [this]; exact List.nodup_range
 refine ⟨_, run_entry_at (P := P) w (L.phi i) (L.phi m) es.length seen.toArray ents es.length ents[j] (by rw [b2, k1]; simp) g1 (by simp) hn, ?_⟩
 refine .tup _ _ rfl (fun j' hj1 hj2 => ?_)
 match j', hj1 with
 | 0, _ => simp only [List.getElem_toArray, List.getElem_cons_zero, b1]; exact MKey.rep _
 | 1, _ => exact b3
end
end Go.Am
