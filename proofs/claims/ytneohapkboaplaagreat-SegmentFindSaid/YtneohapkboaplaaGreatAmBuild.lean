/- Composite values, make, append, iterators over strings; they are what the model does.
  Conditions: none; it speaks of every program. -/
import Derived.Test.YtneohapkboaplaaGreatAmMake
set_option linter.unusedVariables false
namespace Go.Am
open Go
section
variable {P : Program} {L : Lay} {H : List Blk} {T : Toks} {w : World}
theorem RepC.setMany {N : Nat} : ∀ {xs : List AV} {xc : List Value} {vs : List AV} {c : Array Value} (o : Nat), RepC L N T w vs c.toList → RepC L N T w xs xc → o + xs.length ≤ vs.length →
  RepC L N T w (setMany vs o xs) ((xc.zipIdx.foldl (fun cs (x : Value × Nat) => cs.setIfInBounds (o + x.2) x.1) c)).toList := by
 intro xs
 have key : ∀ (xs : List AV) (xc : List Value) (vs : List AV) (c : Array Value) (o k : Nat), RepC L N T w vs c.toList → RepC L N T w xs xc → o + k + xs.length ≤ vs.length →
   RepC L N T w (Am.setMany vs (o + k) xs) (((xc.zipIdx k).foldl (fun cs (x : Value × Nat) => cs.setIfInBounds (o + x.2) x.1) c)).toList := by
  intro xs
  induction xs with
  | nil =>
   intro xc vs c o k h1 h2 h3
   have : xc = [] := List.eq_nil_of_length_eq_zero h2.1
   subst this
   exact h1
  | cons x r ih =>
   intro xc vs c o k h1 h2 h3
   match xc, h2 with
   | y :: yr, h2 =>
    have h0 : Rep L N T w x y := h2.2.2 0 (by simp) (by simp)
    have h1' : y.oneCell' = true := h2.2.1 0 (by simp)
    have hrr : RepC L N T w r yr := by simpa using h2.drop 1
    simp only [List.zipIdx_cons, List.foldl_cons, Am.setMany]
    have := ih yr (vs.set (o + k) x) (c.setIfInBounds (o + k) y) o (k + 1) (by rw [Array.toList_setIfInBounds]; exact h1.set _ h0 h1') hrr (by simp at h3 ⊢; omega)
    rw [show o + k + 1 = o + (k + 1) by omega]
    exact this
   | [], h2 => simp [RepC] at h2
 intro xc vs c o h1 h2 h3
 exact key xs xc vs c o 0 h1 h2 h3
def afill (place : Nat → Option (Nat × Nat)) (cells : List AV) : List (Nat × AV) → Option (List AV)
 | [] => some cells
 | (i, v) :: rest =>
  match place i, axs (untag v) with
  | some (off, size), some xs => if xs.length = size ∧ off + size ≤ cells.length then afill place (setMany cells off xs) rest else none
  | _, _ => none
theorem run_fill {N : Nat} (place : Nat → Option (Nat × Nat)) : ∀ (parts : List (Nat × AV)) (pc : List (Nat × Value)) (cells : List AV) (c : Array Value) (r : List AV), RepC L N T w cells c.toList → pc.length = parts.length →
  (∀ (j : Nat) (h : j < parts.length) (h' : j < pc.length), (parts[j]'h).1 = (pc[j]'h').1 ∧ Rep L N T w (parts[j]'h).2 (pc[j]'h').2) → afill place cells parts = some r →
  ∃ c', Instr.fill place c pc = some c' ∧ RepC L N T w r c'.toList := by
 intro parts
 induction parts with
 | nil =>
  intro pc cells c r hr hl hp h
  have : pc = [] := List.eq_nil_of_length_eq_zero hl
  subst this
  cases h
  exact ⟨c, rfl, hr⟩
 | cons x rest ih =>
  intro pc cells c r hr hl hp h
  match pc, hl, hp with
  | y :: yr, hl, hp =>
   obtain ⟨i, v⟩ := x
   obtain ⟨i', u⟩ := y
   obtain ⟨e, hv⟩ := hp 0 (by simp) (by simp)
   simp only [List.getElem_cons_zero] at e hv
   subst e
   simp only [afill] at h
   split at h
   ·rename_i off size xs e1 e2
    split at h
    ·rename_i hb
     have hx := axs_rep e2 hv.untag
     have hlen : u.cells.size = size := by have := hx.1; simp at this; omega
     obtain ⟨c', h1, h2⟩ := ih yr (Am.setMany cells off xs) (u.cells.toList.zipIdx.foldl (fun cs (x : Value × Nat) => cs.setIfInBounds (off + x.2) x.1) c) r (hr.setMany off hx (by omega)) (by simpa using hl)
      (fun j hj hj' => by have := hp (j + 1) (by simpa using hj) (by simpa using hj'); simpa using this) h
     refine ⟨c', ?_, h2⟩
     simp only [Instr.fill, e1]
     have hsz : c.size = cells.length := by have := hr.1; simpa using this
     rw [if_neg (by simp; omega)]
     rw [← h1]
     congr 1
     rw [← Array.foldl_toList]
     simp
    ·cases h
   ·cases h
  | [], hl, hp => simp at hl
def azero (P : Program) (t : TypeId) : Option (List AV) :=
 match P.info? t with
 | some i => match i.zero with
  | some z => if z.cells.all (·.oneCell') && z.cells.size == i.size then some (z.cells.toList.map ofC1) else none
  | none => none
 | none => none
theorem azero_rep {N : Nat} {t : TypeId} {zs : List AV} (h : azero P t = some zs) : ∃ i z, P.info? t = some i ∧ i.zero = some z ∧ RepC L N T w zs z.cells.toList ∧ z.cells.size = P.cellsOf t := by
 unfold azero at h
 split at h
 ·rename_i i hi
  split at h
  ·rename_i z hz
   split at h
   ·rename_i ha
    cases h
    simp only [Bool.and_eq_true, beq_iff_eq] at ha
    have ha1 := ha.1
    rw [Array.all_eq_true] at ha1
    refine ⟨i, z, hi, hz, ⟨by simp, fun j hj => by simpa using ha1 j (by simpa using hj), fun j hj hj' => ?_⟩, by rw [ha.2]; simp [Program.cellsOf, hi]⟩
    simp only [List.getElem_map]
    exact .ofC1 _
   ·cases h
  ·cases h
 ·cases h
theorem run_zero {t : TypeId} {i : TypeInfo} {z : Value} (hi : P.info? t = some i) (hz : i.zero = some z) (w : World) : (zeroValue t).run P w = .ok z w := by
 simp [zeroValue, run_typeInfo w hi, hz]
def abuild (P : Program) (t : TypeId) (parts : List (Nat × AV)) : Option AV :=
 match azero P t, P.underlying t with
 | some zs, some (.struct fs) => if fs.toList.all (fun f => (P.underlying f.type).isSome) then (afill (fun i => (fs[i]?).map fun f => (f.offset, P.cellsOf f.type)) zs parts).map .agg else none
 | some zs, some (.array _ e) => if (P.underlying e).isSome then (afill (fun i => some (i * P.cellsOf e, P.cellsOf e)) zs parts).map .agg else none
 | _, _ => none
theorem run_places (fs : Array Field) (hf : ∀ f ∈ fs, (P.underlying f.type).isSome = true) (w : World) :
  (fs.mapM fun f => do pure (f.offset, ← sizeOf f.type) : Sem (Array (Nat × Nat))).run P w = .ok (fs.map fun f => (f.offset, P.cellsOf f.type)) w := by
 rw [Array.mapM_eq_mapM_toList]
 have key : ∀ l : List Field, (∀ f ∈ l, (P.underlying f.type).isSome = true) → (l.mapM fun f => do pure (f.offset, ← sizeOf f.type) : Sem (List (Nat × Nat))).run P w = .ok (l.map fun f => (f.offset, P.cellsOf f.type)) w := by
  intro l
  induction l with
  | nil => intro _; simp
  | cons f r ih =>
   intro h
   obtain ⟨d, hd⟩ := Option.isSome_iff_exists.1 (h f (by simp))
   have := ih (fun g hg => h g (by simp [hg]))
   simp only [List.mapM_cons, Sem.run_bind, run_sizeOf' hd, Result.andThen_ok, Sem.run_pure, this, List.map_cons]
 have := key fs.toList (fun f hfm => hf f (by simpa using hfm))
 simp only [Sem.run_map, this, Result.andThen_ok]
 congr 1
 apply Array.ext'
 simp
theorem run_build {t : TypeId} {parts : List (Nat × AV)} {pc : Array (Nat × Value)} {r : AV} (h : abuild P t parts = some r) (hl : pc.size = parts.length)
  (hp : ∀ (j : Nat) (h : j < parts.length) (h' : j < pc.toList.length), (parts[j]'h).1 = (pc.toList[j]'h').1 ∧ Rep L H.length T w (parts[j]'h).2 (pc.toList[j]'h').2) :
  ∃ cv, (Instr.build t pc).run P w = .ok cv w ∧ Rep L H.length T w r cv := by
 unfold abuild at h
 split at h
 ·rename_i zs fs hz hu
  split at h
  ·rename_i hf
   obtain ⟨i, z, hi, hzz, hr, _⟩ := azero_rep (L := L) (N := H.length) (T := T) (w := w) hz
   cases hfl : afill (fun i => (fs[i]?).map fun f => (f.offset, P.cellsOf f.type)) zs parts with
   | none => rw [hfl] at h; cases h
   | some cs =>
    rw [hfl] at h
    cases h
    obtain ⟨c', h1, h2⟩ := run_fill _ parts pc.toList zs z.cells cs hr (by simpa using hl) hp hfl
    have hpl := run_places (P := P) fs (fun f hm => List.all_eq_true.1 hf f (Array.mem_def.1 hm)) w
    refine ⟨.agg c', ?_, by simpa using h2.agg⟩
    have e : (fun (x : Nat) => (fs.map fun (f : Field) => (f.offset, P.cellsOf f.type))[x]?) = fun (i : Nat) => (fs[i]?).map fun (f : Field) => (f.offset, P.cellsOf f.type) := by
     funext x; simp
    simp only [Instr.build, Sem.run_bind, run_zero hi hzz, Result.andThen_ok, run_underlying hu, hpl, e, h1]
    rfl
  ·cases h
 ·rename_i zs n e hz hu
  split at h
  ·rename_i he
   obtain ⟨d, hd⟩ := Option.isSome_iff_exists.1 he
   obtain ⟨i, z, hi, hzz, hr, _⟩ := azero_rep (L := L) (N := H.length) (T := T) (w := w) hz
   cases hfl : afill (fun i => some (i * P.cellsOf e, P.cellsOf e)) zs parts with
   | none => rw [hfl] at h; cases h
   | some cs =>
    rw [hfl] at h
    cases h
    obtain ⟨c', h1, h2⟩ := run_fill _ parts pc.toList zs z.cells cs hr (by simpa using hl) hp hfl
    refine ⟨.agg c', ?_, by simpa using h2.agg⟩
    simp only [Instr.build, Sem.run_bind, run_zero hi hzz, Result.andThen_ok, run_underlying hu, run_sizeOf' hd, h1]
    rfl
  ·cases h
 ·cases h
def amade (zs : List AV) (n : Nat) : List AV := (List.range n).map fun i => zs.getD (i % zs.length) .top
theorem amade_rep {N n : Nat} {zs : List AV} {z : Array Value} (hr : RepC L N T w zs z.toList) (h0 : 0 < zs.length ∨ n = 0) : RepC L N T w (amade zs n) (madeCells z n).toList := by
 have hz : z.size = zs.length := by have := hr.1; simpa using this
 refine ⟨by simp [amade, madeCells], fun j hj => ?_, fun j hj hj' => ?_⟩
 ·have hj2 : j < n := by simpa [madeCells] using hj
  have hlt : j % zs.length < z.size := by rw [hz]; exact Nat.mod_lt _ (by omega)
  have := hr.2.1 (j % zs.length) (by simpa using hlt)
  simp only [madeCells, Array.toList_map, Array.toList_range, List.getElem_map, List.getElem_range]
  rw [getElem!_pos z _ (show j % z.size < z.size from Nat.mod_lt _ (by omega))]
  have e' : j % z.size = j % zs.length := by rw [hz]
  simp only [e']
  simpa using this
 ·have hj2 : j < n := by simpa [madeCells] using hj'
  have hlt : j % zs.length < z.size := by rw [hz]; exact Nat.mod_lt _ (by omega)
  have hlt2 : j % zs.length < zs.length := by rw [hz] at hlt; exact hlt
  have := hr.2.2 (j % zs.length) hlt2 (by simpa using hlt)
  simp only [madeCells, amade, Array.toList_map, Array.toList_range, List.getElem_map, List.getElem_range]
  rw [getElem!_pos z _ (show j % z.size < z.size from Nat.mod_lt _ (by omega))]
  have e' : j % z.size = j % zs.length := by rw [hz]
  simp only [e']
  have e : zs.getD (j % zs.length) .top = zs[j % zs.length]'hlt2 := by
   rw [List.getD_eq_getElem?_getD, List.getElem?_eq_getElem hlt2]; rfl
  rw [e]
  simpa using this
theorem amade_one (v : AV) (n : Nat) : amade [v] n = List.replicate n v := by
 unfold amade
 apply List.ext_getElem
 ·simp
 ·intro i h1 h2; simp [Nat.mod_one]
def abuildSlice (P : Program) (t : TypeId) (len : Nat) (parts : List (Nat × AV)) : Option AV :=
 match P.underlying t with
 | some (.slice e) => match azero P e with
  | some zs => if len * P.cellsOf e ≤ 16777216 ∧ 0 < P.cellsOf e ∧ zs.length = P.cellsOf e then (afill (fun i => some (i * P.cellsOf e, P.cellsOf e)) (amade zs (len * P.cellsOf e)) parts).map fun cs => .sl len cs .full else none
  | none => none
 | _ => none
theorem run_buildSlice {t : TypeId} {len : Nat} {parts : List (Nat × AV)} {pc : Array (Nat × Value)} {r : AV} (hc : Con L H T w) (h : abuildSlice P t len parts = some r) (hl : pc.size = parts.length)
  (hp : ∀ (j : Nat) (h : j < parts.length) (h' : j < pc.toList.length), (parts[j]'h).1 = (pc.toList[j]'h').1 ∧ Rep L H.length T w (parts[j]'h).2 (pc.toList[j]'h').2) :
  ∃ cv w' L', (Instr.buildSlice t len pc).run P w = .ok cv w' ∧ Con L' H T w' ∧ Rep L' H.length T w' r cv ∧ Ev H.length T.length L H.length T w L' H.length T w' := by
 unfold abuildSlice at h
 split at h
 ·rename_i e hu
  split at h
  ·rename_i zs hz
   split at h
   ·rename_i hb
    obtain ⟨i, z, hi, hzz, hr, hzs⟩ := azero_rep (L := L) (N := H.length) (T := T) (w := w) hz
    cases hfl : afill (fun i => some (i * P.cellsOf e, P.cellsOf e)) (amade zs (len * P.cellsOf e)) parts with
    | none => rw [hfl] at h; cases h
    | some cs =>
     rw [hfl] at h
     cases h
     obtain ⟨c', h1, h2⟩ := run_fill _ parts pc.toList _ (madeCells z.cells (len * P.cellsOf e)) cs (amade_rep hr (.inl (by omega))) (by simpa using hl) hp hfl
     have hlen : c'.toList.length = cs.length := h2.1
     obtain ⟨k1, k2, k3⟩ := hc.newRow c' e (0, 0) (vs := cs) cs.length (Nat.le_refl _) (by rw [List.take_of_length_le (by omega)]; exact h2) len len (Nat.le_refl _) .full (.inr ⟨rfl, rfl⟩)
     refine ⟨_, _, _, ?_, k1, k3, k2⟩
     have hsz := run_sizeOf w hi
     have n1 : ¬ len * P.cellsOf e > 2 ^ 24 := by omega
     by_cases h0 : len * P.cellsOf e = 0
     ·have hm : madeCells z.cells (len * P.cellsOf e) = (Array.range 0).map ((#[] : Array Value)[· % (#[] : Array Value).size]!) := by rw [h0]; simp [madeCells]
      rw [hm] at h1
      have n2 : ¬ 0 > 2 ^ 24 := by omega
      simp only [Instr.buildSlice, Sem.run_bind, run_underlying hu, Result.andThen_ok, hsz, h0, n2, if_false, if_true, pure_bind, h1, Sem.run_pure]
      rfl
     ·simp only [Instr.buildSlice, Sem.run_bind, run_underlying hu, Result.andThen_ok, hsz, h0, n1, if_false, pure_bind, bind_pure_comp, Sem.run_map, run_zero hi hzz]
      have h1' := h1
      unfold madeCells at h1'
      simp only [h1']
      rfl
   ·cases h
  ·cases h
 ·cases h
def abuildBox (P : Program) (t : TypeId) (len : Nat) (parts : List (Nat × AV)) : Option (List AV) :=
 match P.underlying t with
 | some (.slice e) => match azero P e with
  | some zs => if len * P.cellsOf e ≤ 16777216 ∧ 0 < P.cellsOf e ∧ zs.length = P.cellsOf e then afill (fun i => some (i * P.cellsOf e, P.cellsOf e)) (amade zs (len * P.cellsOf e)) parts else none
  | none => none
 | _ => none
theorem run_buildBox {t : TypeId} {len : Nat} {parts : List (Nat × AV)} {pc : Array (Nat × Value)} {cs : List AV} (hc : Con L H T w) (h : abuildBox P t len parts = some cs) (hl : pc.size = parts.length)
  (hp : ∀ (j : Nat) (h : j < parts.length) (h' : j < pc.toList.length), (parts[j]'h).1 = (pc.toList[j]'h').1 ∧ Rep L H.length T w (parts[j]'h).2 (pc.toList[j]'h').2) :
  ∃ cv w' L', (Instr.buildSlice t len pc).run P w = .ok cv w' ∧ Con L' (H ++ [.cells cs]) T w' ∧ Rep L' (H ++ [Blk.cells cs]).length T w' (.msl H.length 0 len) cv ∧ Ev H.length T.length L H.length T w L' (H ++ [Blk.cells cs]).length T w' := by
 unfold abuildBox at h
 split at h
 ·rename_i e hu
  split at h
  ·rename_i zs hz
   split at h
   ·rename_i hb
    obtain ⟨i, z, hi, hzz, hr, hzs⟩ := azero_rep (L := L) (N := H.length) (T := T) (w := w) hz
    obtain ⟨c', h1, h2⟩ := run_fill _ parts pc.toList _ (madeCells z.cells (len * P.cellsOf e)) cs (amade_rep hr (.inl (by omega))) (by simpa using hl) hp h
    obtain ⟨L', k1, k2, k3⟩ := hc.newBox c' e h2
    refine ⟨.slice (some ⟨w.heap.size, 0, none⟩) len len, _, L', ?_, k1, ?_, k2⟩
    ·have hsz := run_sizeOf w hi
     have n1 : ¬ len * P.cellsOf e > 2 ^ 24 := by omega
     by_cases h0 : len * P.cellsOf e = 0
     ·have hm : madeCells z.cells (len * P.cellsOf e) = (Array.range 0).map ((#[] : Array Value)[· % (#[] : Array Value).size]!) := by rw [h0]; simp [madeCells]
      rw [hm] at h1
      have n2 : ¬ 0 > 2 ^ 24 := by omega
      simp only [Instr.buildSlice, Sem.run_bind, run_underlying hu, Result.andThen_ok, hsz, h0, n2, if_false, if_true, pure_bind, h1, Sem.run_pure]
      rfl
     ·simp only [Instr.buildSlice, Sem.run_bind, run_underlying hu, Result.andThen_ok, hsz, h0, n1, if_false, pure_bind, bind_pure_comp, Sem.run_map, run_zero hi hzz]
      have h1' := h1
      unfold madeCells at h1'
      simp only [h1']
      rfl
    ·rw [← k3]
     exact .msl _ _ _ _ (by simp) (Nat.le_refl _)
   ·cases h
  ·cases h
 ·cases h
end
end Go.Am
