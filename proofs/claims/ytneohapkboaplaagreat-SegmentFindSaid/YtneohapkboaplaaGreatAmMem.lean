/- Operations that read memory or make new variables, over abstract values, and that they are what the model does.
  Conditions: none; it speaks of every program. -/
import Derived.Test.YtneohapkboaplaaGreatAmPure
set_option linter.unusedVariables false
namespace Go.Am
open Go
theorem addr_add (b o j : Nat) : (⟨b, o, none⟩ : Addr).add j = ⟨b, o + j, none⟩ := by
 unfold Addr.add
 split
 ·rename_i h; subst h; rfl
 ·rfl
def RepC (L : Lay) (N : Nat) (T : Toks) (w : World) (vs : List AV) (c : List Value) : Prop :=
 c.length = vs.length ∧ (∀ (j : Nat) (h' : j < c.length), (c[j]'h').oneCell' = true) ∧ ∀ (j : Nat) (h : j < vs.length) (h' : j < c.length), Rep L N T w (vs[j]'h) (c[j]'h')
section
variable {L : Lay} {N : Nat} {T : Toks} {w : World}
theorem RepC.nil : RepC L N T w [] [] := ⟨rfl, fun _ h => by simp at h, fun _ h => by simp at h⟩
theorem RepC.one {v : AV} {c : Value} (h : Rep L N T w v c) (h1 : c.oneCell' = true) : RepC L N T w [v] [c] :=
 ⟨rfl, fun j hj => by simp at hj; subst hj; exact h1, fun j hj _ => by simp at hj; subst hj; exact h⟩
theorem RepC.append {a b : List AV} {c d : List Value} (h : RepC L N T w a c) (k : RepC L N T w b d) : RepC L N T w (a ++ b) (c ++ d) := by
 refine ⟨by simp [h.1, k.1], fun j hj => ?_, fun j hj hj' => ?_⟩
 ·rw [List.getElem_append]
  split
  ·exact h.2.1 _ _
  ·exact k.2.1 _ _
 ·rw [List.getElem_append, List.getElem_append]
  by_cases hlt : j < a.length
  ·rw [dif_pos hlt, dif_pos (by rw [h.1]; exact hlt)]; exact h.2.2 _ _ _
  ·rw [dif_neg hlt, dif_neg (by rw [h.1]; exact hlt)]
   have := k.2.2 (j - a.length) (by simp at hj; omega) (by simp at hj'; rw [h.1] at hj'; omega)
   simpa [h.1] using this
theorem RepC.drop {a : List AV} {c : List Value} (h : RepC L N T w a c) (k : Nat) : RepC L N T w (a.drop k) (c.drop k) := by
 refine ⟨by simp [h.1], fun j hj => ?_, fun j hj hj' => ?_⟩
 ·rw [List.getElem_drop]; exact h.2.1 _ _
 ·rw [List.getElem_drop, List.getElem_drop]; exact h.2.2 _ _ _
theorem RepC.take {a : List AV} {c : List Value} (h : RepC L N T w a c) (k : Nat) : RepC L N T w (a.take k) (c.take k) := by
 refine ⟨by simp [h.1], fun j hj => ?_, fun j hj hj' => ?_⟩
 ·rw [List.getElem_take]; exact h.2.1 _ _
 ·rw [List.getElem_take, List.getElem_take]; exact h.2.2 _ _ _
theorem RepC.keep {L' : Lay} {N' : Nat} {T' : Toks} {w' : World} {a : List AV} {c : List Value} (k : Keeps L N T w L' N' T' w') (h : RepC L N T w a c) : RepC L' N' T' w' a c :=
 ⟨h.1, h.2.1, fun j hj hj' => (h.2.2 j hj hj').keep k⟩
theorem RepC.set {a : List AV} {c : List Value} (h : RepC L N T w a c) (i : Nat) {v : AV} {x : Value} (hv : Rep L N T w v x) (h1 : x.oneCell' = true) : RepC L N T w (a.set i v) (c.set i x) := by
 refine ⟨by simp [h.1], fun j hj => ?_, fun j hj hj' => ?_⟩
 ·rw [List.getElem_set]
  split
  ·exact h1
  ·exact h.2.1 _ _
 ·rw [List.getElem_set, List.getElem_set]
  split
  ·exact hv
  ·exact h.2.2 _ _ _
theorem RepC.agg {a : List AV} {c : List Value} (h : RepC L N T w a c) : Rep L N T w (.agg a) (.agg c.toArray) :=
 .agg a c.toArray (by simpa using h.1) (fun j hj => by simpa using h.2.1 j (by simpa using hj)) (fun j hj hj' => by simpa using h.2.2 j hj (by simpa using hj'))
theorem RepC.of_agg {a : List AV} {c : Array Value} (h : Rep L N T w (.agg a) (.agg c)) : RepC L N T w a c.toList := by
 cases h with
 | agg _ _ h1 h2 hr => exact ⟨by simpa using h1, fun j hj => by simpa using h2 j (by simpa using hj), fun j hj hj' => by simpa using hr j hj (by simpa using hj')⟩
end
def axs (v : AV) : Option (List AV) :=
 match v with
 | .agg cs => some cs
 | v => if cellAV v then some [v] else none
theorem axs_rep {L : Lay} {N : Nat} {T : Toks} {w : World} {v : AV} {c : Value} {xs : List AV} (h : axs v = some xs) (hv : Rep L N T w v c) : RepC L N T w xs c.cells.toList := by
 unfold axs at h
 split at h
 ·cases h
  cases hv with
  | agg _ _ h1 h2 hr => exact RepC.of_agg (.agg _ _ h1 h2 hr)
 ·rename_i hn
  split at h
  ·rename_i hc
   cases h
   have h1 := hv.cell hc
   have : c.cells = #[c] := by cases c <;> first | rfl | (simp [Value.oneCell'] at h1)
   rw [this]
   exact RepC.one hv h1
  ·cases h
def isAggT (P : Program) (t : TypeId) : Option Bool :=
 match P.underlying t with
 | some (.struct _) | some (.array _ _) => some true
 | some _ => some false
 | none => none
theorem run_isAgg {P : Program} {t : TypeId} {b : Bool} (h : isAggT P t = some b) (w : World) : (isAgg t).run P w = .ok b w := by
 unfold isAggT at h
 split at h <;> cases h
 ·rename_i hu; simp [isAgg, run_underlying hu]
 ·rename_i hu; simp [isAgg, run_underlying hu]
 ·rename_i d hn1 hn2 hu
  simp only [isAgg, Sem.run_bind, run_underlying hu, Result.andThen_ok]
  cases d <;> first | rfl | exact absurd rfl (hn1 _) | exact absurd rfl (hn2 _ _)
theorem info_of {P : Program} {t : TypeId} {d : TypeDesc} (h : P.underlying t = some d) : ∃ i, P.info? t = some i := info_of_underlying h
theorem run_sizeOf' {P : Program} {t : TypeId} {d : TypeDesc} (h : P.underlying t = some d) (w : World) : (sizeOf t).run P w = .ok (P.cellsOf t) w := by
 obtain ⟨i, hi⟩ := info_of h
 exact run_sizeOf w hi
def arow (H : List Blk) (p : AV) : Option (List AV × Nat) :=
 match p with
 | .ptr i o => match H[i]? with
  | some (.cells vs) => some (vs, o)
  | _ => none
 | .vptr cs o => some (cs, o)
 | _ => none
theorem BoxOk.at {L : Lay} {N : Nat} {T : Toks} {w : World} {i : Nat} {vs : List AV} (h : BoxOk L N T w i (.cells vs)) :
  ∃ c : Array Value, RepC L N T w vs c.toList ∧ ∀ j, w.cell? ⟨L.phi i, j, none⟩ = c[j]? := by
 obtain ⟨c, t, fr, h1, h2, h3, h3', h4, h5⟩ := h
 exact ⟨c, ⟨by simpa using h3, fun j hj => by simpa using h3' j (by simpa using hj), fun j hj hj' => by simpa using h4 j hj (by simpa using hj')⟩, fun j => cell_row h1 j⟩
theorem arow_reads {L : Lay} {H : List Blk} {T : Toks} {w : World} {p : AV} {c : Value} {vs : List AV} {o : Nat} (hc : Con L H T w) (hp : Rep L H.length T w p c) (h : arow H p = some (vs, o)) :
  ∃ (b base : Nat) (cv : List Value), c = .pointer (some ⟨b, base + o, none⟩) ∧ RepC L H.length T w vs cv ∧ ∀ j, j < vs.length → w.cell? ⟨b, base + j, none⟩ = cv[j]? := by
 unfold arow at h
 split at h
 ·rename_i i o'
  split at h
  ·rename_i vs' hi
   cases h
   cases hp with
   | ptr _ _ hlt =>
    obtain ⟨c, h1, h2⟩ := (hc.box i _ hi).at
    exact ⟨L.phi i, 0, c.toList, by simp, h1, fun j _ => by simpa using h2 j⟩
  ·cases h
 ·cases h
  cases hp with
  | vptr _ _ b base f hm hcell h1 hr =>
   refine ⟨b, base, (List.range vs.length).map f, rfl, ⟨by simp, fun j hj => by simpa using h1 j (by simpa using hj), fun j hj hj' => by simpa using hr j hj⟩, fun j hj => ?_⟩
   rw [hcell j hj]; simp [hj]
 ·cases h
def aload (P : Program) (t : TypeId) (vs : List AV) (o : Nat) : Option AV :=
 match isAggT P t with
 | some true => if o + P.cellsOf t ≤ vs.length then some (.agg ((vs.drop o).take (P.cellsOf t))) else none
 | some false => if o < vs.length then some (vs.getD o .top) else none
 | none => none
theorem run_loadVar {P : Program} {t : TypeId} {L : Lay} {N : Nat} {T : Toks} {w : World} {vs : List AV} {o b base : Nat} {cv : List Value} {r : AV} (hr : RepC L N T w vs cv)
  (hc : ∀ j, j < vs.length → w.cell? ⟨b, base + j, none⟩ = cv[j]?) (h : aload P t vs o = some r) : ∃ c, (loadVar t ⟨b, base + o, none⟩).run P w = .ok c w ∧ Rep L N T w r c := by
 unfold aload at h
 split at h
 ·rename_i hag
  split at h
  ·rename_i hle
   cases h
   have hu : ∃ d, P.underlying t = some d := by
    unfold isAggT at hag
    cases hx : P.underlying t with
    | none => simp [hx] at hag
    | some d => exact ⟨d, rfl⟩
   obtain ⟨d, hu⟩ := hu
   have hcv : cv.length = vs.length := hr.1
   refine ⟨.agg ((cv.drop o).take (P.cellsOf t)).toArray, ?_, ((hr.drop o).take _).agg⟩
   have hl := run_loadCells (P := P) w ⟨b, base + o, none⟩ (P.cellsOf t) (fun j => (cv[o + j]?).getD undef) (fun j hj => by
    rw [addr_add, show base + o + j = base + (o + j) by omega, hc _ (by omega)]
    have : o + j < cv.length := by omega
    simp [this])
   simp only [loadVar, Sem.run_bind, run_isAgg hag, Result.andThen_ok, if_true, run_sizeOf' hu, hl]
   show Result.ok _ _ = Result.ok _ _
   congr 3
   apply List.ext_getElem
   ·simp; omega
   ·intro j h1 h2
    simp at h1
    have : o + j < cv.length := by omega
    simp [this]
  ·cases h
 ·rename_i hag
  split at h
  ·rename_i hlt
   have hcv : o < cv.length := by rw [hr.1]; exact hlt
   refine ⟨cv[o], ?_, ?_⟩
   ·have hcell := hc o hlt
    rw [List.getElem?_eq_getElem hcv] at hcell
    simp only [loadVar, Sem.run_bind, run_isAgg hag, Result.andThen_ok, Bool.false_eq_true, if_false, run_load, hcell]
   ·have := hr.2.2 o hlt hcv
    cases h
    simpa [hlt] using this
  ·cases h
 ·cases h
def setMany : List AV → Nat → List AV → List AV
 | vs, _, [] => vs
 | vs, o, x :: r => setMany (vs.set o x) (o + 1) r
theorem run_storeMany {P : Program} {L : Lay} {T : Toks} (i : Nat) (o : Nat) : ∀ (xs : List AV) (cs : List Value) (k : Nat) (H : List Blk) (w : World) (vs : List AV), Con L H T w → RepC L H.length T w xs cs →
  H[i]? = some (.cells vs) → o + k + xs.length ≤ vs.length →
  ∃ w', (storeCells ⟨L.phi i, o, none⟩ cs k).run P w = .ok () w' ∧ Con L (H.set i (.cells (setMany vs (o + k) xs))) T w' ∧
   Ev H.length T.length L H.length T w L (H.set i (.cells (setMany vs (o + k) xs))).length T w' := by
 intro xs
 induction xs with
 | nil =>
  intro cs k H w vs hc hr hi hle
  have hcs : cs = [] := List.eq_nil_of_length_eq_zero (by simpa using hr.1)
  subst hcs
  have hH : H.set i (.cells (setMany vs (o + k) [])) = H := by
   have hlt := (List.getElem?_eq_some_iff.1 hi)
   simp only [setMany]
   apply List.ext_getElem?
   intro j
   by_cases hj : i = j
   ·subst hj; rw [List.getElem?_set_self hlt.1, hi]
   ·rw [List.getElem?_set_ne hj]
  refine ⟨w, rfl, by rw [hH]; exact hc, by rw [hH]; exact Ev.refl (Nat.le_refl _) (Nat.le_refl _)⟩
 | cons x r ih =>
  intro cs k H w vs hc hr hi hle
  match cs, hr with
  | c :: cr, hr =>
   have hil := (List.getElem?_eq_some_iff.1 hi).1
   have h0 : Rep L H.length T w x c := hr.2.2 0 (by simp) (by simp)
   have h1 : c.oneCell' = true := hr.2.1 0 (by simp)
   have hrr : RepC L H.length T w r cr := by simpa using hr.drop 1
   obtain ⟨cc, t, fr, g1, g2, g3, g3', g4, g5⟩ := hc.box i _ hi
   have hlt : o + k < vs.length := by simp at hle; omega
   obtain ⟨hc1, he1⟩ := hc.setCell hi hlt h0 h1
   have hst : (store ((⟨L.phi i, o, none⟩ : Addr).add k) c).run P w = .ok () (w.setCell ⟨L.phi i, o + k, none⟩ c) := by
    rw [addr_add, run_store P w _ c _ h1, cell_row g1]
    have hk : o + k < cc.size := by omega
    have hfz : w.frozen? ⟨L.phi i, o + k, none⟩ = false := by
     unfold World.frozen?
     simp only [g1]
     exact g2 _ hk
    simp [hk, hfz]
   have hlen : (H.set i (.cells (vs.set (o + k) x))).length = H.length := by simp
   obtain ⟨w', hrun, hc2, he2⟩ := ih cr (k + 1) (H.set i (.cells (vs.set (o + k) x))) (w.setCell ⟨L.phi i, o + k, none⟩ c) (vs.set (o + k) x) hc1 (by rw [hlen]; exact hrr.keep (by simpa [hlen] using he1.keeps))
    (List.getElem?_set_self hil) (by simp at hle ⊢; omega)
   rw [List.set_set] at hc2 he2
   refine ⟨w', ?_, ?_, ?_⟩
   ·simp only [storeCells, Sem.run_bind, hst, Result.andThen_ok, hrun]
   ·simpa [setMany, Nat.add_assoc] using hc2
   ·rw [hlen] at he2
    have := he1.trans (by rw [hlen]; exact he2)
    simpa [setMany, Nat.add_assoc] using this
  | [], hr => simp [RepC] at hr
theorem Con.newBox {L : Lay} {H : List Blk} {T : Toks} {w : World} (h : Con L H T w) (c : Array Value) (ty : TypeId) {vs : List AV} (hr : RepC L H.length T w vs c.toList) :
  ∃ L', Con L' (H ++ [Blk.cells vs]) T (w.alloc (.cells c ty)) ∧ Ev H.length T.length L H.length T w L' (H ++ [Blk.cells vs]).length T (w.alloc (.cells c ty)) ∧ L'.phi H.length = w.heap.size := by
 have h1 := h.alloc (.cells c ty) 0
 have e1 := Ev.alloc h (.cells c ty) 0
 have hnw : ¬ Wr (L.commit w.heap.size 0) H.length T w.heap.size := h.not_wr (Nat.le_refl _)
 have e2 := Ev.addBox (b := w.heap.size) (Blk.cells vs) e1 (Nat.le_refl _)
 refine ⟨(L.commit w.heap.size 0).withBox H.length w.heap.size, h1.addBox w.heap.size hnw (Blk.cells vs) (fun hle => by simp at hle; omega) ?_, e2, by simp [Lay.withBox]⟩
 have hphi : ((L.commit w.heap.size 0).withBox H.length w.heap.size).phi H.length = w.heap.size := by simp [Lay.withBox]
 have hr' := hr.keep e2.keeps
 have hl : (H ++ [Blk.cells vs]).length = H.length + 1 := by simp
 rw [hl] at hr'
 refine ⟨c, ty, (0, 0), by rw [hphi]; exact heap_alloc_at w _, fun o ho => by simp, by simpa using hr.1, fun j hj => ?_, fun j hj hj' => ?_, ?_⟩
 ·have := hr.2.1 j (by simpa using hj); rwa [Array.getElem_toList] at this
 ·have := hr'.2.2 j hj (by simpa using hj'); rwa [Array.getElem_toList] at this
 ·rw [hphi]; simp [Lay.withBox, Lay.commit]
theorem Con.newRow {L : Lay} {H : List Blk} {T : Toks} {w : World} (h : Con L H T w) (c : Array Value) (ty : TypeId) (fr : Nat × Nat) {vs : List AV} (k : Nat) (hk : vs.length ≤ k) (hr : RepC L H.length T w vs (c.toList.take vs.length)) (n cap : Nat) (hn : n ≤ cap) (tg : Tag) (ht : tg = .none ∨ (tg = .full ∧ cap = n)) :
  Con (L.commit w.heap.size k) H T (w.alloc (.cells c ty fr)) ∧ Ev H.length T.length L H.length T w (L.commit w.heap.size k) H.length T (w.alloc (.cells c ty fr)) ∧
   Rep (L.commit w.heap.size k) H.length T (w.alloc (.cells c ty fr)) (.sl n vs tg) (.slice (some ⟨w.heap.size, 0, none⟩) n cap) := by
 have e1 := Ev.alloc h (.cells c ty fr) k
 refine ⟨h.alloc (.cells c ty fr) k, e1, ?_⟩
 have hr' := hr.keep e1.keeps
 have hlen : (c.toList.take vs.length).length = vs.length := hr.1
 have hsz : vs.length ≤ c.size := by simp at hlen; omega
 refine .sl1 n vs tg w.heap.size 0 cap (fun j => c.getD j undef) hn (by simp [Lay.commit]; omega) (fun j hj => ?_) (fun j hj => ?_) (fun j hj => ?_) ?_
 ·rw [cell_row (heap_alloc_at w _)]
  have : j < c.size := by omega
  simp [this]
 ·have := hr'.2.1 j (by rw [hlen]; exact hj)
  have hjc : j < c.size := by omega
  simpa [hjc] using this
 ·have := hr'.2.2 j hj (by rw [hlen]; exact hj)
  have hjc : j < c.size := by omega
  simpa [hjc] using this
 ·rcases ht with rfl | ⟨rfl, rfl⟩
  ·trivial
  ·rfl
end Go.Am
