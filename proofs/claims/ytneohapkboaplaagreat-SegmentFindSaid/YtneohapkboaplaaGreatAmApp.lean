/- make, append, iterators over strings; they are what the model does.
  Conditions: none; it speaks of every program. -/
import Derived.Test.YtneohapkboaplaaGreatAmBuild
set_option linter.unusedVariables false
namespace Go.Am
open Go
section
variable {P : Program} {L : Lay} {H : List Blk} {T : Toks} {w : World}
theorem run_makeBox {t e : TypeId} {zs : List AV} (hc : Con L H T w) (hu : P.underlying t = some (.slice e)) (hz : azero P e = some zs) (hzl : 0 < zs.length) (kl kc : IntKind) (n : Nat) (hb : n * P.bytesOf e ≤ 281474976710656) (hn : n ≤ 9223372036854775807) :
  ∃ cv w' L', (Instr.makeSlice t (.int kl (n : Int)) (.int kc (n : Int))).run P w = .ok cv w' ∧ Con L' (H ++ [.cells (amade zs (n * P.cellsOf e))]) T w' ∧ Rep L' (H ++ [Blk.cells (amade zs (n * P.cellsOf e))]).length T w' (.msl H.length 0 n) cv ∧
   Ev H.length T.length L H.length T w L' (H ++ [Blk.cells (amade zs (n * P.cellsOf e))]).length T w' := by
 obtain ⟨i, z, hi, hzz, hr, hzs⟩ := azero_rep (L := L) (N := H.length) (T := T) (w := w) hz
 have hby : P.bytesOf e = i.bytes := by simp [Program.bytesOf, hi]
 have hsz : P.cellsOf e = i.size := by simp [Program.cellsOf, hi]
 have hb' : (i.bytes : Int) * (n : Int) ≤ 281474976710656 := by
  rw [hby] at hb
  have : ((n * i.bytes : Nat) : Int) ≤ 281474976710656 := by omega
  rw [Int.natCast_mul, Int.mul_comm] at this; exact this
 have hm := run_make (P := P) w t e i z hu hi hzz kl kc n n (by omega) (Int.le_refl _) hb' (by omega)
 obtain ⟨L', h1, h2, h3⟩ := hc.newBox (madeCells z.cells (n * P.cellsOf e)) e (amade_rep (n := n * P.cellsOf e) hr (.inl hzl))
 refine ⟨_, _, L', by rw [hm]; simp only [Int.toNat_natCast, ← hsz]; rfl, h1, ?_, h2⟩
 rw [← h3]
 exact .msl H.length 0 n n (by simp) (Nat.le_refl _)
theorem run_makeOwn {t e : TypeId} {zs : List AV} (hc : Con L H T w) (hu : P.underlying t = some (.slice e)) (hz : azero P e = some zs) (hzl : 0 < P.cellsOf e) (kl kc : IntKind) (n : Nat) (hb : n * P.bytesOf e ≤ 281474976710656) (hn : n ≤ 9223372036854775807) :
  ∃ cv w' L', (Instr.makeSlice t (.int kl 0) (.int kc (n : Int))).run P w = .ok cv w' ∧ Con L' H (T ++ [(0, P.cellsOf e)]) w' ∧ Rep L' H.length (T ++ [(0, P.cellsOf e)]) w' (.sl 0 [] (.own T.length)) cv ∧
   Ev H.length T.length L H.length T w L' H.length (T ++ [(0, P.cellsOf e)]) w' := by
 obtain ⟨i, z, hi, hzz, hr, hzs⟩ := azero_rep (L := L) (N := H.length) (T := T) (w := w) hz
 have hby : P.bytesOf e = i.bytes := by simp [Program.bytesOf, hi]
 have hsz : P.cellsOf e = i.size := by simp [Program.cellsOf, hi]
 have hb' : (i.bytes : Int) * (n : Int) ≤ 281474976710656 := by
  rw [hby] at hb
  have : ((n * i.bytes : Nat) : Int) ≤ 281474976710656 := by omega
  rw [Int.natCast_mul, Int.mul_comm] at this; exact this
 have hm := run_make (P := P) w t e i z hu hi hzz kl kc 0 n (Int.le_refl _) (by omega) hb' (by omega)
 have c1 := hc.alloc (.cells (madeCells z.cells (n * P.cellsOf e)) e) 0
 have e1 := Ev.alloc hc (.cells (madeCells z.cells (n * P.cellsOf e)) e) 0
 have hnw : ¬ Wr (L.commit w.heap.size 0) H.length T w.heap.size := hc.not_wr (Nat.le_refl _)
 let k : Tk := ⟨w.heap.size, 0, n⟩
 have hk : ((L.commit w.heap.size 0).withTok T.length k).tau T.length = k := by simp [Lay.withTok]
 refine ⟨_, _, (L.commit w.heap.size 0).withTok T.length k, by rw [hm]; simp only [Int.toNat_natCast, ← hsz]; rfl, c1.addTok k 0 (P.cellsOf e) (fun _ => hnw) ?_, ?_, e1.addTok (fun _ => .inl (Nat.le_refl _))⟩
 ·refine ⟨hzl, fun _ => ?_⟩
  rw [hk]
  refine ⟨_, e, (0, 0), heap_alloc_at w _, by simp [k, size_madeCells], fun o _ _ => by simp, ?_⟩
  simp [k, Lay.withTok, Lay.commit]
 ·refine .sl0 (.own T.length) _ _ ⟨0, P.cellsOf e, by simp, Nat.le_refl _, fun _ => .inr ?_⟩
  rw [hk]
  simp [k]
def setArr : Array Value → Nat → List Value → Array Value
 | c, _, [] => c
 | c, o, v :: r => setArr (c.setIfInBounds o v) (o + 1) r
theorem setArr_size : ∀ (vs : List Value) (c : Array Value) (o : Nat), (setArr c o vs).size = c.size := by
 intro vs
 induction vs with
 | nil => intro c o; rfl
 | cons v r ih => intro c o; simp [setArr, ih]
theorem setArr_lt : ∀ (vs : List Value) (c : Array Value) (o j : Nat), j < o → (setArr c o vs)[j]? = c[j]? := by
 intro vs
 induction vs with
 | nil => intro c o j _; rfl
 | cons v r ih =>
  intro c o j hj
  rw [setArr, ih _ _ _ (by omega), Array.getElem?_setIfInBounds_ne (by omega)]
theorem setArr_at : ∀ (vs : List Value) (c : Array Value) (o j : Nat), o + vs.length ≤ c.size → j < vs.length → (setArr c o vs)[o + j]? = vs[j]? := by
 intro vs
 induction vs with
 | nil => intro c o j _ h; simp at h
 | cons v r ih =>
  intro c o j hle hj
  rw [setArr]
  cases j with
  | zero =>
   rw [setArr_lt _ _ _ _ (by omega)]
   simp at hle
   have : o < c.size := by omega
   simp [this]
  | succ j =>
   have := ih (c.setIfInBounds o v) (o + 1) j (by simp at hle ⊢; omega) (by simpa using hj)
   rw [show o + (j + 1) = o + 1 + j by omega, this]
   simp
theorem setCells_heap : ∀ (vs : List Value) (w : World) (b o : Nat) (c : Array Value) (e : TypeId) (fr : Nat × Nat), w.heap[b]? = some (.cells c e fr) →
  (w.setCells b o vs).heap[b]? = some (.cells (setArr c o vs) e fr) ∧ (∀ x, x ≠ b → (w.setCells b o vs).heap[x]? = w.heap[x]?) ∧ (w.setCells b o vs).heap.size = w.heap.size ∧
   (w.setCells b o vs).os = w.os ∧ (w.setCells b o vs).tape = w.tape ∧ (w.setCells b o vs).output = w.output ∧ (w.setCells b o vs).drawn = w.drawn := by
 intro vs
 induction vs with
 | nil => intro w b o c e fr h; exact ⟨h, fun _ _ => rfl, rfl, rfl, rfl, rfl, rfl⟩
 | cons v r ih =>
  intro w b o c e fr h
  have h1 := heap_setCell_at w b o v h
  obtain ⟨g1, g2, g3, g4, g5, g6, g7⟩ := ih (w.setCell ⟨b, o, none⟩ v) b (o + 1) _ e fr h1
  exact ⟨g1, fun x hx => (g2 x hx).trans (heap_setCell_ne w b o v x hx), by rw [World.setCells, g3]; simp, g4, g5, g6, g7⟩
def notInt (P : Program) (t : TypeId) : Bool :=
 match P.underlying t with
 | some (.int _) => false
 | some _ => true
 | none => false
theorem run_notInt {t : TypeId} (h : notInt P t = true) : ∃ d, P.underlying t = some d ∧ (∀ k, d ≠ .int k) := by
 unfold notInt at h
 split at h
 ·cases h
 ·rename_i d hn hu; exact ⟨d, hu, fun k e => by subst e; exact hn k rfl⟩
 ·cases h
theorem run_append_two {t t2 ty e : TypeId} {i : TypeInfo} {zv : Value} (hu : P.underlying t = some (.slice e)) (h2 : notInt P t2 = true) (hi : P.info? e = some i) (hz : i.zero = some zv)
  {a : Option Addr} {n cap m : Nat} {x : Value} {old1 new new1 : List Value} (hlen : (Builtin.lenOf x).run P w = .ok m w) (hnew0 : (Builtin.firstCells i.size m x).run P w = .ok new.toArray w)
  (hnew1 : (Builtin.firstCells i.size m x).run P w.drew = .ok new1.toArray w.drew) (hold1 : (Builtin.firstCells i.size n (.slice a n cap)).run P w.drew = .ok old1.toArray w.drew) (hb : (n + m) * i.bytes ≤ 140737488355328) (hm : n + m ≤ 9223372036854775807) :
  (n + m ≤ cap → (Builtin.append_ #[t, t2] ty #[.slice a n cap, x]).run P w = ((match a with | some a => storeCells (a.add (n * i.size)) new | none => pure ()).run P w).andThen fun _ w' => .ok (.slice a (n + m) cap) w') ∧
  (cap < n + m → ∃ nc, n + m ≤ nc ∧ (Builtin.append_ #[t, t2] ty #[.slice a n cap, x]).run P w =
   .ok (.slice (some ⟨w.heap.size, 0, none⟩) (n + m) nc) (w.drew.alloc (.cells (old1.toArray ++ new1.toArray ++ Builtin.zeroCells zv.cells (nc - (n + m))) e))) := by
 obtain ⟨d2, hd2, hn2⟩ := run_notInt h2
 have hzeros : (d2 matches .int _) = false := by
  cases d2 <;> first | rfl | exact absurd rfl (hn2 _)
 have hsz := run_sizeOf w hi
 have hcs : P.cellsOf e = i.size := by simp [Program.cellsOf, hi]
 constructor
 ·intro hle
  simp only [Builtin.append_, List.getElem?_toArray, List.getElem?_cons_zero, List.getElem?_cons_succ, Sem.run_bind, run_underlying hu, run_underlying hd2, Result.andThen_ok, hsz, Sem.run_pure, hcs]
  simp only [Bool.false_eq_true, if_false, hlen, Result.andThen_ok, Sem.run_bind, hle, if_true, Bool.not_false, hnew0]
  cases a with
  | none => rfl
  | some a => simp only [Sem.run_bind]; rfl
 ·intro hlt
  obtain ⟨nc, hnc, hle⟩ : ∃ nc, (Question.appendCap (n + m) cap e).cut (w.tape w.drawn (.appendCap (n + m) cap e)) = nc ∧ n + m ≤ nc := ⟨_, rfl, by simp [Question.cut]⟩
  refine ⟨nc, hle, ?_⟩
  have g1 : ¬ n + m ≤ cap := by omega
  have g2 : ¬ (((n + m : Nat) : Int) > IntKind.i64.max ∧ (False ∨ i.bytes = 0)) := by
   have : IntKind.i64.max = 9223372036854775807 := by decide
   rw [this]; omega
  have g3 : ¬ Builtin.nextslicecap (n + m) cap * i.bytes > 2 ^ 48 := by
   have := growslice_fits hlt hb
   omega
  simp only [Builtin.append_, List.getElem?_toArray, List.getElem?_cons_zero, List.getElem?_cons_succ, Sem.run_bind, run_underlying hu, run_underlying hd2, Result.andThen_ok, hsz, Sem.run_pure, hcs]
  simp only [Bool.false_eq_true, if_false, hlen, Result.andThen_ok, Sem.run_bind, g1, run_typeInfo w hi, g2, g3, Bool.not_false, if_true]
  simp only [run_choose, Question.forced, Bool.false_eq_true, if_false, hnc, Result.andThen_ok, run_askRoom, World.drew_eq, run_typeInfo w.drew hi, hold1, hnew1, run_zero hi hz, newRow, Sem.run_bind, run_newObj, Sem.run_pure]
  rfl
def aappend (P : Program) (H : List Blk) (T : Toks) (t t2 : TypeId) (s x : AV) : Option (AV × Toks) :=
 match P.underlying t, s with
 | some (.slice e), .sl n cs tg =>
  match asrc H (P.cellsOf e) x with
  | some (m, ys) =>
   if cs.length = n * P.cellsOf e ∧ 0 < P.cellsOf e ∧ (n + m) * P.bytesOf e ≤ 140737488355328 ∧ n + m ≤ 9223372036854775807 ∧ notInt P t2 = true ∧ (azero P e).isSome = true then
    match tg with
    | .full => some (.sl (n + m) (cs ++ ys) (.own T.length), T ++ [((n + m) * P.cellsOf e, P.cellsOf e)])
    | .own k => if T[k]? = some (cs.length, P.cellsOf e) then some (.sl (n + m) (cs ++ ys) (.own k), T.set k ((n + m) * P.cellsOf e, P.cellsOf e)) else none
    | .none => none
   else none
  | none => none
 | _, _ => none
theorem run_append {t t2 ty : TypeId} {s x r : AV} {cs cx : Value} {T' : Toks} (hc : Con L H T w) (h : aappend P H T t t2 s x = some (r, T')) (hs : Rep L H.length T w s cs) (hx : Rep L H.length T w x cx) :
  ∃ cv w' L', (Builtin.append_ #[t, t2] ty #[cs, cx]).run P w = .ok cv w' ∧ Con L' H T' w' ∧ Rep L' H.length T' w' r cv ∧ Ev H.length T.length L H.length T w L' H.length T' w' := by
 unfold aappend at h
 split at h
 ·rename_i e n cl tg hu
  split at h
  ·rename_i m ys hsrc
   split at h
   ·rename_i hb
    obtain ⟨hcl, hz0, hby, hmax, hni, hzs⟩ := hb
    obtain ⟨zs, hzs⟩ := Option.isSome_iff_exists.1 hzs
    obtain ⟨i, z, hi, hzz, hzr, hzsz⟩ := azero_rep (L := L) (N := H.length) (T := T) (w := w) hzs
    have hcz : P.cellsOf e = i.size := by simp [Program.cellsOf, hi]
    have hbb : P.bytesOf e = i.bytes := by simp [Program.bytesOf, hi]
    rw [hbb] at hby
    obtain ⟨new, hyl, hynew, hlen, hfirst⟩ := run_src (P := P) hc hx hsrc
    have hcd : Con L H T w.drew := hc.drew rfl
    have kd : Keeps L H.length T w L H.length T w.drew := (Ev.drew (H := H) (T := T) (L := L) (w := w) (w' := w.drew) rfl rfl rfl rfl (Nat.le_succ _)).keeps
    obtain ⟨new', _, hynew', _, hfirst'⟩ := run_src (P := P) hcd (hx.keep kd) hsrc
    obtain ⟨a, cap, rfl, hcap, htag, hcells⟩ := hs.sl_inv
    have hsd := hs.keep kd
    have hsold : asrc H (P.cellsOf e) (.sl n cl tg) = some (n, cl) := by simp [asrc, hcl]
    obtain ⟨old, _, hyold, _, hfold⟩ := run_src (P := P) hcd hsd hsold
    have h2 := run_append_two (P := P) (w := w) (ty := ty) hu hni hi hzz (a := a) (n := n) (cap := cap) (m := m) hlen (hcz ▸ hfirst) (hcz ▸ hfirst') (hcz ▸ hfold) hby hmax
    rw [← hcz] at h2
    have grow : cap < n + m → ∀ (k : Nat) (Tn : Toks), ((k = T.length ∧ Tn = T ++ [((n + m) * P.cellsOf e, P.cellsOf e)]) ∨ (∃ u, T[k]? = some (u, P.cellsOf e) ∧ u < (n + m) * P.cellsOf e ∧ Tn = T.set k ((n + m) * P.cellsOf e, P.cellsOf e))) →
      ∃ cv w' L', (Builtin.append_ #[t, t2] ty #[.slice a n cap, cx]).run P w = .ok cv w' ∧ Con L' H Tn w' ∧ Rep L' H.length Tn w' (.sl (n + m) (cl ++ ys) (.own k)) cv ∧ Ev H.length T.length L H.length T w L' H.length Tn w' := by
     intro hlt k Tn hk
     obtain ⟨nc, hnc, hrun⟩ := h2.2 hlt
     have hcat := hyold.append hynew'
     have hcatl : (old ++ new').length = (cl ++ ys).length := hcat.1
     have hcl2 : (cl ++ ys).length = (n + m) * P.cellsOf e := by rw [List.length_append, hcl, hyl, Nat.add_mul]
     have htake : ((old.toArray ++ new'.toArray ++ Builtin.zeroCells z.cells (nc - (n + m))).toList.take (cl ++ ys).length) = old ++ new' := by
      have e1 : (old.toArray ++ new'.toArray ++ Builtin.zeroCells z.cells (nc - (n + m))).toList = (old ++ new') ++ (Builtin.zeroCells z.cells (nc - (n + m))).toList := by simp
      rw [e1, ← hcatl, List.take_left' rfl]
     obtain ⟨k1, k2, k3⟩ := hcd.newRow (old.toArray ++ new'.toArray ++ Builtin.zeroCells z.cells (nc - (n + m))) e (0, 0) (vs := cl ++ ys) (cl ++ ys).length (Nat.le_refl _) (by rw [htake]; exact hcat) (n + m) nc hnc .none (.inl rfl)
     have ed : Ev H.length T.length L H.length T w L H.length T w.drew := Ev.drew rfl rfl rfl rfl (Nat.le_succ _)
     have hnw : ¬ Wr (L.commit w.heap.size (cl ++ ys).length) H.length T w.heap.size := hc.not_wr (Nat.le_refl _)
     let tk : Tk := ⟨w.heap.size, 0, nc⟩
     have hsize : (old.toArray ++ new'.toArray ++ Builtin.zeroCells z.cells (nc - (n + m))).size = nc * P.cellsOf e := by
      have h1 : (old ++ new').length = (n + m) * P.cellsOf e := by rw [hcatl, hcl2]
      have h3 : nc * P.cellsOf e = (n + m) * P.cellsOf e + (nc - (n + m)) * P.cellsOf e := by rw [← Nat.add_mul]; congr 1; omega
      simp only [Array.size_append, List.size_toArray, size_zeroCells, hzsz, h3]
      rw [← h1]; simp
     have htok : ∀ k', TokOk ((L.commit w.heap.size (cl ++ ys).length).withTok k' tk) (w.drew.alloc (.cells (old.toArray ++ new'.toArray ++ Builtin.zeroCells z.cells (nc - (n + m))) e)) k' ((n + m) * P.cellsOf e) (P.cellsOf e) := by
      intro k'
      have hk' : ((L.commit w.heap.size (cl ++ ys).length).withTok k' tk).tau k' = tk := by simp [Lay.withTok]
      refine ⟨hz0, fun _ => ?_⟩
      rw [hk']
      refine ⟨_, e, (0, 0), heap_alloc_at w.drew _, by rw [hsize]; simp [tk], fun o _ _ => by simp, ?_⟩
      show (if tk.b = w.heap.size then (cl ++ ys).length else L.m tk.b) ≤ _
      rw [if_pos rfl, hcl2]
      exact Nat.le_add_left _ _
     have hrep : ∀ Tn', (∀ t' u z', T[t']? = some (u, z') → ∃ u', Tn'[t']? = some (u', z') ∧ u ≤ u' ∧ (u' = u → t' ≠ k)) → Tn'[k]? = some ((n + m) * P.cellsOf e, P.cellsOf e) →
       Rep ((L.commit w.heap.size (cl ++ ys).length).withTok k tk) H.length Tn' (w.drew.alloc (.cells (old.toArray ++ new'.toArray ++ Builtin.zeroCells z.cells (nc - (n + m))) e)) (.sl (n + m) (cl ++ ys) (.own k)) (.slice (some ⟨w.heap.size, 0, none⟩) (n + m) nc) := by
      intro Tn' hT hTk
      have kp : Keeps (L.commit w.heap.size (cl ++ ys).length) H.length T (w.drew.alloc (.cells (old.toArray ++ new'.toArray ++ Builtin.zeroCells z.cells (nc - (n + m))) e)) ((L.commit w.heap.size (cl ++ ys).length).withTok k tk) H.length Tn' (w.drew.alloc (.cells (old.toArray ++ new'.toArray ++ Builtin.zeroCells z.cells (nc - (n + m))) e)) := by
       refine ⟨Nat.le_refl _, fun _ _ => rfl, fun t' u z' ht' => ?_, fun _ => Nat.le_refl _, fun _ _ _ => rfl, rfl⟩
       obtain ⟨u', h1, h3, h4⟩ := hT t' u z' ht'
       refine ⟨u', h1, h3, fun e => ?_⟩
       simp only [Lay.withTok]; rw [if_neg (h4 e)]
      have := k3.keep kp
      obtain ⟨a', cap', e1, hc', _, hx'⟩ := this.sl_inv
      cases e1
      have hpos : 0 < (cl ++ ys).length := by
       rw [hcl2]; exact Nat.mul_pos (by omega) hz0
      rcases hx' with ⟨e2, _⟩ | ⟨b, base, cv, e2, g1, g2, g3⟩
      ·rw [e2] at hpos; simp at hpos
      ·cases e2
       refine Rep.sl_mk hc' g1 g2 g3 ⟨_, _, hTk, by rw [hcl2]; exact Nat.le_refl _, fun _ => .inr ?_⟩
       simp [Lay.withTok, tk]
     rcases hk with ⟨rfl, rfl⟩ | ⟨u, hTk, hlt', rfl⟩
     ·refine ⟨_, _, _, hrun, k1.addTok tk _ _ (fun _ => hnw) (htok _), hrep _ (fun t' u z' ht' => ?_) (by simp), (ed.trans k2).addTok (fun _ => .inl (Nat.le_refl _))⟩
      have hlt2 := (List.getElem?_eq_some_iff.1 ht').1
      exact ⟨u, by rw [List.getElem?_append_left hlt2]; exact ht', Nat.le_refl _, fun _ => by omega⟩
     ·have hkl := (List.getElem?_eq_some_iff.1 hTk).1
      refine ⟨_, _, _, hrun, k1.setTok hTk hlt' tk (fun _ => hnw) (htok _), hrep _ (fun t' u' z' ht' => ?_) (by rw [List.getElem?_set_self hkl]), (ed.trans k2).setTok hTk hlt' (fun _ => Nat.le_refl _)⟩
      by_cases htk : t' = k
      ·subst htk
       rw [hTk] at ht'
       cases ht'
       exact ⟨_, by rw [List.getElem?_set_self hkl], by omega, fun e => by omega⟩
      ·exact ⟨u', by rw [List.getElem?_set_ne (fun e => htk e.symm)]; exact ht', Nat.le_refl _, fun _ => htk⟩
    have zero : m = 0 → (Builtin.append_ #[t, t2] ty #[.slice a n cap, cx]).run P w = .ok (.slice a n cap) w ∧ ys = [] := by
     intro hm
     subst hm
     have hn0 : new = [] := List.eq_nil_of_length_eq_zero (by rw [hynew.1]; simpa using hyl)
     have hy0 : ys = [] := List.eq_nil_of_length_eq_zero (by simpa using hyl)
     have := h2.1 (by omega)
     rw [hn0] at this
     refine ⟨?_, hy0⟩
     rw [this]
     cases a <;> rfl
    split at h
    ·cases h
     rcases Nat.eq_zero_or_pos m with hm | hm
     ·obtain ⟨g1, g2⟩ := zero hm
      subst hm; subst g2
      refine ⟨_, w, L.withTok T.length ⟨0, 0, 0⟩, g1, hc.addTok ⟨0, 0, 0⟩ _ _ (fun h => by simp at h) ⟨hz0, fun h => by simp [Lay.withTok] at h⟩, ?_,
       (Ev.refl (Nat.le_refl _) (Nat.le_refl _)).addTok (fun h => by simp at h)⟩
      have kp : Keeps L H.length T w (L.withTok T.length ⟨0, 0, 0⟩) H.length (T ++ [((n + 0) * P.cellsOf e, P.cellsOf e)]) w := by
       refine ⟨Nat.le_refl _, fun _ _ => rfl, fun t' u z' ht' => ?_, fun _ => Nat.le_refl _, fun _ _ _ => rfl, rfl⟩
       have hlt2 := (List.getElem?_eq_some_iff.1 ht').1
       exact ⟨u, by rw [List.getElem?_append_left hlt2]; exact ht', Nat.le_refl _, fun _ => by simp only [Lay.withTok]; rw [if_neg (by omega)]⟩
      have hs' := (hs.untag).keep kp
      simp only [Am.untag] at hs'
      have tok : ∀ a', tagOk (L.withTok T.length ⟨0, 0, 0⟩) (T ++ [((n + 0) * P.cellsOf e, P.cellsOf e)]) (.own T.length) n cl.length a' cap := fun a' => ⟨(n + 0) * P.cellsOf e, P.cellsOf e, by simp, by rw [hcl]; simp, fun _ => .inl htag⟩
      obtain ⟨a', cap', e1, hc', _, hx'⟩ := hs'.sl_inv
      cases e1
      rcases hx' with ⟨e2, e3⟩ | ⟨b, base, cv, e2, q1, q2, q3⟩
      ·subst e2; subst e3; simp only [List.append_nil, Nat.add_zero]; exact .sl0 _ _ _ (tok _)
      ·subst e2; simp only [List.append_nil, Nat.add_zero]; exact Rep.sl_mk hc' q1 q2 q3 (tok _)
     ·have hcn : cap = n := htag
      exact grow (by omega) T.length _ (.inl ⟨rfl, rfl⟩)
    ·rename_i k
     split at h
     ·rename_i hTk
      cases h
      have hkl := (List.getElem?_eq_some_iff.1 hTk).1
      rcases Nat.eq_zero_or_pos m with hm | hm
      ·obtain ⟨g1, g2⟩ := zero hm
       subst hm; subst g2
       have hT : T.set k ((n + 0) * P.cellsOf e, P.cellsOf e) = T := by
        apply List.ext_getElem?
        intro j
        by_cases hj : k = j
        ·subst hj; rw [List.getElem?_set_self hkl, hTk, hcl]; simp
        ·rw [List.getElem?_set_ne hj]
       rw [hT]
       refine ⟨_, w, L, g1, hc, by simpa using hs, Ev.refl (Nat.le_refl _) (Nat.le_refl _)⟩
      ·rcases Nat.lt_or_ge cap (n + m) with hlt | hge
       ·exact grow hlt k _ (.inr ⟨cl.length, hTk, by rw [hcl]; exact Nat.mul_lt_mul_of_pos_right (by omega) hz0, rfl⟩)
       ·
        obtain ⟨u0, z0, hT0, hle0, himp⟩ := htag
        rw [hTk] at hT0
        cases hT0
        rcases himp rfl with h0 | ⟨ha, hcapc⟩
        ·omega
        ·have hrun := h2.1 hge
         have hsp : cl.length < (L.tau k).c * P.cellsOf e := by
          rw [← hcapc, hcl]; exact Nat.mul_lt_mul_of_pos_right (by omega) hz0
         obtain ⟨_, hrow⟩ := hc.tok k _ _ hTk
         obtain ⟨cc, ee, fr, g1, g2, g3, g4⟩ := hrow hsp
         have hmz : cl.length + m * P.cellsOf e ≤ (L.tau k).c * P.cellsOf e := by
          rw [← hcapc, hcl, ← Nat.add_mul]; exact Nat.mul_le_mul_right _ hge
         have hnewl : new.length = m * P.cellsOf e := by rw [hynew.1, hyl]
         have hst := run_storeCells_cells (P := P) (L.tau k).b ((L.tau k).o + cl.length) new 0 w
          (fun j hj => by
           rw [cell_row g1]
           rw [Array.getElem?_eq_getElem (show (L.tau k).o + cl.length + 0 + j < cc.size by omega)]; rfl)
          (fun j hj => by
           unfold World.frozen?
           simp only [g1]
           exact g3 _ (by omega) (by omega))
          (fun v hv => by
           obtain ⟨j, hj, e1⟩ := List.mem_iff_getElem.1 hv
           rw [← e1]; exact hynew.2.1 j hj)
         obtain ⟨s1, s2, s3, s4, s5, s6, s7⟩ := setCells_heap new w (L.tau k).b ((L.tau k).o + cl.length) cc ee fr g1
         have hcl2 : cl.length + m * P.cellsOf e = (n + m) * P.cellsOf e := by rw [hcl, Nat.add_mul]
         obtain ⟨c1, e1⟩ := hc.grow hTk (k := m * P.cellsOf e) (Nat.mul_pos hm hz0) hmz g1 s1 (setArr_size _ _ _) (fun j hj => setArr_lt _ _ _ _ hj) s2 s3 s4 s5 s6 (Nat.le_of_eq s7.symm)
         rw [hcl2] at c1 e1
         refine ⟨.slice a (n + m) cap, _, _, ?_, c1, ?_, e1⟩
         ·rw [hrun, ha]
          simp only [addr_add, ← hcl]
          rw [hst]
          rfl
         ·have hsk := hs.keep e1.keeps
          obtain ⟨a', cap', e3, hc', htg', hx'⟩ := hsk.sl_inv
          cases e3
          have hcat : RepC ((L.commit (L.tau k).b ((L.tau k).o + cl.length + m * P.cellsOf e))) H.length (T.set k ((n + m) * P.cellsOf e, P.cellsOf e)) (w.setCells (L.tau k).b ((L.tau k).o + cl.length) new) ys new := hynew.keep e1.keeps
          have tok : tagOk (L.commit (L.tau k).b ((L.tau k).o + cl.length + m * P.cellsOf e)) (T.set k ((n + m) * P.cellsOf e, P.cellsOf e)) (.own k) (n + m) (cl ++ ys).length (some ⟨(L.tau k).b, (L.tau k).o, none⟩) cap :=
           ⟨_, _, by rw [List.getElem?_set_self hkl], by rw [List.length_append, hyl, hcl2]; exact Nat.le_refl _, fun _ => .inr ⟨rfl, hcapc⟩⟩
          have hcomm : (L.tau k).o + (cl ++ ys).length ≤ (L.commit (L.tau k).b ((L.tau k).o + cl.length + m * P.cellsOf e)).m (L.tau k).b := by
           simp only [Lay.commit, if_true, List.length_append, hyl]; omega
          subst ha
          have hnew2 : ∀ j, j < ys.length → (w.setCells (L.tau k).b ((L.tau k).o + cl.length) new).cell? ⟨(L.tau k).b, (L.tau k).o + cl.length + j, none⟩ = new[j]? := by
           intro j hj
           rw [cell_row s1, setArr_at _ _ _ _ (by omega) (by omega)]
          rcases hx' with ⟨e2, e3⟩ | ⟨b, base, cv, e2, q1, q2, q3⟩
          ·subst e2; subst e3
           refine Rep.sl_mk (cv := new) hge hcomm (by simpa using hcat) (fun j hj => ?_) tok
           have := hnew2 j (by simpa using hj)
           simpa using this
          ·cases e2
           refine Rep.sl_mk (cv := cv ++ new) hge hcomm (q2.append hcat) (fun j hj => ?_) tok
           have hcv : cv.length = cl.length := q2.1
           rcases Nat.lt_or_ge j cl.length with hj1 | hj1
           ·rw [q3 j hj1, List.getElem?_append_left (by omega)]
           ·have := hnew2 (j - cl.length) (by simp at hj; omega)
            rw [List.getElem?_append_right (by omega), hcv, ← this]
            congr 2
            omega
     ·cases h
    ·cases h
   ·cases h
  ·cases h
 ·cases h
def aappBox (P : Program) (H : List Blk) (t t2 : TypeId) (s x : AV) : Option (Nat × List AV) :=
 match P.underlying t, s with
 | some (.slice e), .sl 0 [] .full =>
  match asrc H (P.cellsOf e) x with
  | some (m, ys) => if 0 < m ∧ 0 < P.cellsOf e ∧ m * P.bytesOf e ≤ 140737488355328 ∧ m ≤ 9223372036854775807 ∧ notInt P t2 = true ∧ (azero P e).isSome = true then some (m, ys) else none
  | none => none
 | _, _ => none
theorem zeroCells_mem {z : Array Value} {n : Nat} {v : Value} (h : v ∈ (Builtin.zeroCells z n).toList) : v ∈ z.toList := by
 unfold Builtin.zeroCells at h
 simp only [Array.toList_map, Array.toList_range, List.mem_map, List.mem_range] at h
 obtain ⟨i, hi, rfl⟩ := h
 have hz : 0 < z.size := by
  rcases Nat.eq_zero_or_pos z.size with h0 | h0
  ·rw [h0] at hi; simp at hi
  ·exact h0
 have hlt : i % z.size < z.size := Nat.mod_lt _ hz
 rw [getElem!_pos z _ hlt]
 simp
theorem RepC.tops {N : Nat} {T : Toks} (l : List Value) (h : ∀ v ∈ l, v.oneCell' = true) : RepC L N T w (List.replicate l.length .top) l := by
 refine ⟨by simp, fun j hj => h _ (List.getElem_mem hj), fun j hj hj' => ?_⟩
 rw [List.getElem_replicate]
 exact .top _
theorem run_appBox {t t2 ty : TypeId} {s x : AV} {cs cx : Value} {m : Nat} {ys : List AV} (hc : Con L H T w) (h : aappBox P H t t2 s x = some (m, ys)) (hs : Rep L H.length T w s cs) (hx : Rep L H.length T w x cx) :
  ∃ k cv w' L', (Builtin.append_ #[t, t2] ty #[cs, cx]).run P w = .ok cv w' ∧ Con L' (H ++ [.cells (ys ++ List.replicate k .top)]) T w' ∧ Rep L' (H ++ [Blk.cells (ys ++ List.replicate k .top)]).length T w' (.msl H.length 0 m) cv ∧
   Ev H.length T.length L H.length T w L' (H ++ [Blk.cells (ys ++ List.replicate k .top)]).length T w' := by
 unfold aappBox at h
 split at h
 ·rename_i e hu
  split at h
  ·rename_i m' ys' hsrc
   split at h
   ·rename_i hb
    cases h
    obtain ⟨hm, hz0, hby, hmax, hni, hzs⟩ := hb
    obtain ⟨zs, hzs⟩ := Option.isSome_iff_exists.1 hzs
    obtain ⟨i, z, hi, hzz, hzr, hzsz⟩ := azero_rep (L := L) (N := H.length) (T := T) (w := w) hzs
    have hcz : P.cellsOf e = i.size := by simp [Program.cellsOf, hi]
    have hbb : P.bytesOf e = i.bytes := by simp [Program.bytesOf, hi]
    rw [hbb] at hby
    obtain ⟨new, hyl, hynew, hlen, hfirst⟩ := run_src (P := P) hc hx hsrc
    have hcd : Con L H T w.drew := hc.drew rfl
    have kd : Keeps L H.length T w L H.length T w.drew := (Ev.drew (H := H) (T := T) (L := L) (w := w) (w' := w.drew) rfl rfl rfl rfl (Nat.le_succ _)).keeps
    obtain ⟨new', _, hynew', _, hfirst'⟩ := run_src (P := P) hcd (hx.keep kd) hsrc
    obtain ⟨a, cap, rfl, hcap, htag, hcells⟩ := hs.sl_inv
    have hsd := hs.keep kd
    have hsold : asrc H (P.cellsOf e) (.sl 0 [] .full) = some (0, []) := by simp [asrc]
    obtain ⟨old, _, hyold, _, hfold⟩ := run_src (P := P) hcd hsd hsold
    have hold : old = [] := List.eq_nil_of_length_eq_zero (by rw [hyold.1]; rfl)
    subst hold
    have h2 := run_append_two (P := P) (w := w) (ty := ty) hu hni hi hzz (a := a) (n := 0) (cap := cap) (m := m) hlen (hcz ▸ hfirst) (hcz ▸ hfirst') (hcz ▸ hfold) (by simpa using hby) (by simpa using hmax)
    have hcap0 : cap = 0 := htag
    obtain ⟨nc, hnc, hrun⟩ := h2.2 (by omega)
    have hzone : ∀ v ∈ (Builtin.zeroCells z.cells (nc - (0 + m))).toList, v.oneCell' = true := by
     intro v hv
     obtain ⟨j, hj, e1⟩ := List.mem_iff_getElem.1 (zeroCells_mem hv)
     rw [← e1]; exact hzr.2.1 j hj
    have hbox : RepC L H.length T w.drew (ys ++ List.replicate (Builtin.zeroCells z.cells (nc - (0 + m))).toList.length .top) (([] : List Value).toArray ++ new'.toArray ++ Builtin.zeroCells z.cells (nc - (0 + m))).toList := by
     have := hynew'.append (RepC.tops (L := L) (N := H.length) (T := T) (w := w.drew) _ hzone)
     simpa using this
    obtain ⟨L', g1, g2, g3⟩ := hcd.newBox _ e hbox
    have ed : Ev H.length T.length L H.length T w L H.length T w.drew := Ev.drew rfl rfl rfl rfl (Nat.le_succ _)
    refine ⟨_, _, _, L', hrun, g1, ?_, ed.trans g2⟩
    have := Rep.msl (L := L') (T := T) (w := w.drew.alloc (.cells (([] : List Value).toArray ++ new'.toArray ++ Builtin.zeroCells z.cells (nc - (0 + m))) e)) H.length 0 m nc
     (show H.length < (H ++ [Blk.cells (ys ++ List.replicate (Builtin.zeroCells z.cells (nc - (0 + m))).toList.length .top)]).length by simp) (by omega)
    rw [g3] at this
    simpa using this
   ·cases h
  ·cases h
 ·cases h
def aapp0 (P : Program) (H : List Blk) (t t2 : TypeId) (s x : AV) : Option AV :=
 match s with
 | .msl i o n => match P.underlying t with
  | some (.slice e) => match asrc H (P.cellsOf e) (.msl i o n), asrc H (P.cellsOf e) x with
   | some _, some (0, _) => if n * P.bytesOf e ≤ 140737488355328 ∧ n ≤ 9223372036854775807 ∧ notInt P t2 = true ∧ (azero P e).isSome = true then some (.msl i o n) else none
   | _, _ => none
  | _ => none
 | _ => none
theorem run_app0 {t t2 ty : TypeId} {s x r : AV} {cs cx : Value} (hc : Con L H T w) (h : aapp0 P H t t2 s x = some r) (hs : Rep L H.length T w s cs) (hx : Rep L H.length T w x cx) :
  ∃ cv, (Builtin.append_ #[t, t2] ty #[cs, cx]).run P w = .ok cv w ∧ Rep L H.length T w r cv := by
 unfold aapp0 at h
 split at h
 ·rename_i i o n
  split at h
  ·rename_i e hu
   split at h
   ·rename_i p ys hsold hsrc
    split at h
    ·rename_i hb
     cases h
     obtain ⟨hby, hmax, hni, hzs⟩ := hb
     obtain ⟨zs, hzs⟩ := Option.isSome_iff_exists.1 hzs
     obtain ⟨i', z, hi, hzz, hzr, hzsz⟩ := azero_rep (L := L) (N := H.length) (T := T) (w := w) hzs
     have hcz : P.cellsOf e = i'.size := by simp [Program.cellsOf, hi]
     have hbb : P.bytesOf e = i'.bytes := by simp [Program.bytesOf, hi]
     rw [hbb] at hby
     obtain ⟨new, hyl, hynew, hlen, hfirst⟩ := run_src (P := P) hc hx hsrc
     have hcd : Con L H T w.drew := hc.drew rfl
     have kd : Keeps L H.length T w L H.length T w.drew := (Ev.drew (H := H) (T := T) (L := L) (w := w) (w' := w.drew) rfl rfl rfl rfl (Nat.le_succ _)).keeps
     obtain ⟨new', _, hynew', _, hfirst'⟩ := run_src (P := P) hcd (hx.keep kd) hsrc
     obtain ⟨cap, rfl, hcap, hil⟩ := hs.msl_inv
     have hsd := hs.keep kd
     have hpn : p.1 = n := by
      unfold asrc at hsold
      simp only at hsold
      split at hsold
      ·split at hsold
       ·cases hsold; rfl
       ·cases hsold
      ·cases hsold
     obtain ⟨pm, pys⟩ := p
     simp only at hpn
     subst hpn
     obtain ⟨old, _, hyold, _, hfold⟩ := run_src (P := P) hcd hsd hsold
     have h2 := run_append_two (P := P) (w := w) (ty := ty) hu hni hi hzz (a := some ⟨L.phi i, o, none⟩) (n := pm) (cap := cap) (m := 0) hlen (hcz ▸ hfirst) (hcz ▸ hfirst') (hcz ▸ hfold) (by simpa using hby) (by simpa using hmax)
     have hn0 : new = [] := List.eq_nil_of_length_eq_zero (by rw [hynew.1]; simpa using hyl)
     have := h2.1 (by omega)
     rw [hn0] at this
     refine ⟨_, ?_, hs⟩
     rw [this]
     rfl
    ·cases h
   ·cases h
  ·cases h
 ·cases h
theorem setMany_eq (xs : List AV) : ∀ (vs : List AV) (o : Nat), o + xs.length ≤ vs.length → setMany vs o xs = vs.take o ++ xs ++ vs.drop (o + xs.length) := by
 induction xs with
 | nil => intro vs o h; simp [setMany]
 | cons x r ih =>
  intro vs o h
  rw [List.length_cons] at h
  rw [setMany, ih _ _ (by simp; omega)]
  have h1 : (vs.set o x).take (o + 1) = vs.take o ++ [x] := by
   rw [List.take_succ_eq_append_getElem (by simp; omega), List.getElem_set_self]
   congr 1
   apply List.ext_getElem?
   intro j
   rw [List.getElem?_take, List.getElem?_take]
   split
   ·rw [List.getElem?_set_ne (by omega)]
   ·rfl
  have h2 : (vs.set o x).drop (o + 1 + r.length) = vs.drop (o + (r.length + 1)) := by
   rw [List.drop_set_of_lt (by omega)]
   congr 1
   omega
  rw [h1, h2]
  simp
theorem run_appC {t t2 ty e : TypeId} {i n cap m : Nat} {vs xs : List AV} {x : AV} {cs cx : Value} (hc : Con L H T w) (hs : Rep L H.length T w (.csl i n cap) cs) (hx : Rep L H.length T w x cx)
  (hu : P.underlying t = some (.slice e)) (hH : H[i]? = some (.cells vs)) (hvs : vs.length = cap * P.cellsOf e) (hsrc : asrc H (P.cellsOf e) x = some (m, xs)) (hby : (n + m) * P.bytesOf e ≤ 140737488355328) (hmax : n + m ≤ 9223372036854775807)
  (hni : notInt P t2 = true) (hzs : (azero P e).isSome = true) :
  (n + m ≤ cap ∧ ∃ cv w' L', (Builtin.append_ #[t, t2] ty #[cs, cx]).run P w = .ok cv w' ∧ Con L' (H.set i (.cells (vs.take (n * P.cellsOf e) ++ xs ++ vs.drop ((n + m) * P.cellsOf e)))) T w' ∧
   Rep L' (H.set i (.cells (vs.take (n * P.cellsOf e) ++ xs ++ vs.drop ((n + m) * P.cellsOf e)))).length T w' (.csl i (n + m) cap) cv ∧
   Ev H.length T.length L H.length T w L' (H.set i (.cells (vs.take (n * P.cellsOf e) ++ xs ++ vs.drop ((n + m) * P.cellsOf e)))).length T w') ∨
  (cap < n + m ∧ ∃ nc, n + m ≤ nc ∧ ∃ cv w' L', (Builtin.append_ #[t, t2] ty #[cs, cx]).run P w = .ok cv w' ∧ Con L' (H ++ [.cells (vs.take (n * P.cellsOf e) ++ xs ++ List.replicate ((nc - (n + m)) * P.cellsOf e) .top)]) T w' ∧
   Rep L' (H ++ [Blk.cells (vs.take (n * P.cellsOf e) ++ xs ++ List.replicate ((nc - (n + m)) * P.cellsOf e) .top)]).length T w' (.csl H.length (n + m) nc) cv ∧
   Ev H.length T.length L H.length T w L' (H ++ [Blk.cells (vs.take (n * P.cellsOf e) ++ xs ++ List.replicate ((nc - (n + m)) * P.cellsOf e) .top)]).length T w') := by
 obtain ⟨zs, hzs⟩ := Option.isSome_iff_exists.1 hzs
 obtain ⟨ti, z, hi, hzz, hzr, hzsz⟩ := azero_rep (L := L) (N := H.length) (T := T) (w := w) hzs
 have hcz : P.cellsOf e = ti.size := by simp [Program.cellsOf, hi]
 have hbb : P.bytesOf e = ti.bytes := by simp [Program.bytesOf, hi]
 rw [hbb] at hby
 obtain ⟨new, hyl, hynew, hlen, hfirst⟩ := run_src (P := P) hc hx hsrc
 have hcd : Con L H T w.drew := hc.drew rfl
 have ed : Ev H.length T.length L H.length T w L H.length T w.drew := Ev.drew rfl rfl rfl rfl (Nat.le_succ _)
 have kd : Keeps L H.length T w L H.length T w.drew := ed.keeps
 obtain ⟨new', _, hynew', _, hfirst'⟩ := run_src (P := P) hcd (hx.keep kd) hsrc
 obtain ⟨rfl, hcap, hil⟩ := hs.csl_inv
 have hnz : n * P.cellsOf e ≤ vs.length := by rw [hvs]; exact Nat.mul_le_mul_right _ hcap
 have hsd : Rep L H.length T w.drew (.msl i 0 n) (.slice (some ⟨L.phi i, 0, none⟩) n cap) := .msl i 0 n cap hil hcap
 have hsold : asrc H (P.cellsOf e) (.msl i 0 n) = some (n, vs.take (n * P.cellsOf e)) := by simp [asrc, hH, hnz]
 obtain ⟨old, _, hyold, _, hfold⟩ := run_src (P := P) hcd hsd hsold
 have h2 := run_append_two (P := P) (w := w) (ty := ty) hu hni hi hzz (a := some ⟨L.phi i, 0, none⟩) (n := n) (cap := cap) (m := m) hlen (hcz ▸ hfirst) (hcz ▸ hfirst') (hcz ▸ hfold) hby hmax
 rw [← hcz] at h2
 rcases Nat.lt_or_ge cap (n + m) with hlt | hle
 ·refine .inr ⟨hlt, ?_⟩
  obtain ⟨nc, hnc, hrun⟩ := h2.2 hlt
  have hzone : ∀ v ∈ (Builtin.zeroCells z.cells (nc - (n + m))).toList, v.oneCell' = true := by
   intro v hv
   obtain ⟨j, hj, e1⟩ := List.mem_iff_getElem.1 (zeroCells_mem hv)
   rw [← e1]; exact hzr.2.1 j hj
  have hzl : (Builtin.zeroCells z.cells (nc - (n + m))).toList.length = (nc - (n + m)) * P.cellsOf e := by
   rw [Array.length_toList, size_zeroCells, hzsz]
  have htops := RepC.tops (L := L) (N := H.length) (T := T) (w := w.drew) _ hzone
  rw [hzl] at htops
  have hbox : RepC L H.length T w.drew (vs.take (n * P.cellsOf e) ++ xs ++ List.replicate ((nc - (n + m)) * P.cellsOf e) .top) (old.toArray ++ new'.toArray ++ Builtin.zeroCells z.cells (nc - (n + m))).toList := by
   have := (hyold.append hynew').append htops
   simpa using this
  obtain ⟨L', g1, g2, g3⟩ := hcd.newBox _ e hbox
  refine ⟨nc, hnc, _, _, L', hrun, g1, ?_, ed.trans g2⟩
  have := Rep.csl (L := L') (T := T) (w := w.drew.alloc (.cells (old.toArray ++ new'.toArray ++ Builtin.zeroCells z.cells (nc - (n + m))) e)) H.length (n + m) nc
   (show H.length < (H ++ [Blk.cells (vs.take (n * P.cellsOf e) ++ xs ++ List.replicate ((nc - (n + m)) * P.cellsOf e) .top)]).length by simp) hnc
  rw [g3] at this
  exact this
 ·refine .inl ⟨hle, ?_⟩
  have hrun := h2.1 hle
  have hle2 : n * P.cellsOf e + 0 + xs.length ≤ vs.length := by
   rw [hvs, hyl, Nat.add_zero, ← Nat.add_mul]; exact Nat.mul_le_mul_right _ hle
  obtain ⟨w', hst, hc2, hev⟩ := run_storeMany (P := P) i (n * P.cellsOf e) xs new 0 H w vs hc hynew hH hle2
  have hsm : setMany vs (n * P.cellsOf e + 0) xs = vs.take (n * P.cellsOf e) ++ xs ++ vs.drop ((n + m) * P.cellsOf e) := by
   rw [setMany_eq _ _ _ (by simpa using hle2), hyl, Nat.add_zero, ← Nat.add_mul]
  rw [hsm] at hc2 hev
  refine ⟨.slice (some ⟨L.phi i, 0, none⟩) (n + m) cap, w', L, ?_, hc2, ?_, hev⟩
  ·rw [hrun]
   simp only [addr_add, Nat.zero_add, hst, Result.andThen_ok]
  ·exact .csl i (n + m) cap (by simpa using hil) hle
theorem run_appBoxC {t t2 ty e : TypeId} {s x : AV} {cs cx : Value} {m : Nat} {ys : List AV} (hc : Con L H T w) (h : aappBox P H t t2 s x = some (m, ys)) (hu : P.underlying t = some (.slice e)) (hs : Rep L H.length T w s cs) (hx : Rep L H.length T w x cx) :
  ∃ nc, m ≤ nc ∧ ∃ cv w' L', (Builtin.append_ #[t, t2] ty #[cs, cx]).run P w = .ok cv w' ∧ Con L' (H ++ [.cells (ys ++ List.replicate ((nc - m) * P.cellsOf e) .top)]) T w' ∧ Rep L' (H ++ [Blk.cells (ys ++ List.replicate ((nc - m) * P.cellsOf e) .top)]).length T w' (.csl H.length m nc) cv ∧
   Ev H.length T.length L H.length T w L' (H ++ [Blk.cells (ys ++ List.replicate ((nc - m) * P.cellsOf e) .top)]).length T w' := by
 unfold aappBox at h
 split at h
 ·rename_i e' hu'
  rw [hu] at hu'
  cases hu'
  split at h
  ·rename_i m' ys' hsrc
   split at h
   ·rename_i hb
    cases h
    obtain ⟨hm, hz0, hby, hmax, hni, hzs⟩ := hb
    obtain ⟨zs, hzs⟩ := Option.isSome_iff_exists.1 hzs
    obtain ⟨i, z, hi, hzz, hzr, hzsz⟩ := azero_rep (L := L) (N := H.length) (T := T) (w := w) hzs
    have hcz : P.cellsOf e = i.size := by simp [Program.cellsOf, hi]
    have hbb : P.bytesOf e = i.bytes := by simp [Program.bytesOf, hi]
    rw [hbb] at hby
    obtain ⟨new, hyl, hynew, hlen, hfirst⟩ := run_src (P := P) hc hx hsrc
    have hcd : Con L H T w.drew := hc.drew rfl
    have kd : Keeps L H.length T w L H.length T w.drew := (Ev.drew (H := H) (T := T) (L := L) (w := w) (w' := w.drew) rfl rfl rfl rfl (Nat.le_succ _)).keeps
    obtain ⟨new', _, hynew', _, hfirst'⟩ := run_src (P := P) hcd (hx.keep kd) hsrc
    obtain ⟨a, cap, rfl, hcap, htag, hcells⟩ := hs.sl_inv
    have hsd := hs.keep kd
    have hsold : asrc H (P.cellsOf e) (.sl 0 [] .full) = some (0, []) := by simp [asrc]
    obtain ⟨old, _, hyold, _, hfold⟩ := run_src (P := P) hcd hsd hsold
    have hold : old = [] := List.eq_nil_of_length_eq_zero (by rw [hyold.1]; rfl)
    subst hold
    have h2 := run_append_two (P := P) (w := w) (ty := ty) hu hni hi hzz (a := a) (n := 0) (cap := cap) (m := m) hlen (hcz ▸ hfirst) (hcz ▸ hfirst') (hcz ▸ hfold) (by simpa using hby) (by simpa using hmax)
    have hcap0 : cap = 0 := htag
    obtain ⟨nc, hnc, hrun⟩ := h2.2 (by omega)
    rw [Nat.zero_add] at hnc hrun
    have hzone : ∀ v ∈ (Builtin.zeroCells z.cells (nc - m)).toList, v.oneCell' = true := by
     intro v hv
     obtain ⟨j, hj, e1⟩ := List.mem_iff_getElem.1 (zeroCells_mem hv)
     rw [← e1]; exact hzr.2.1 j hj
    have hzl : (Builtin.zeroCells z.cells (nc - m)).toList.length = (nc - m) * P.cellsOf e := by
     rw [Array.length_toList, size_zeroCells, hzsz]
    have htops := RepC.tops (L := L) (N := H.length) (T := T) (w := w.drew) _ hzone
    rw [hzl] at htops
    have hbox : RepC L H.length T w.drew (ys ++ List.replicate ((nc - m) * P.cellsOf e) .top) (([] : List Value).toArray ++ new'.toArray ++ Builtin.zeroCells z.cells (nc - m)).toList := by
     have := hynew'.append htops
     simpa using this
    obtain ⟨L', g1, g2, g3⟩ := hcd.newBox _ e hbox
    have ed : Ev H.length T.length L H.length T w L H.length T w.drew := Ev.drew rfl rfl rfl rfl (Nat.le_succ _)
    refine ⟨nc, hnc, _, _, L', hrun, g1, ?_, ed.trans g2⟩
    have := Rep.csl (L := L') (T := T) (w := w.drew.alloc (.cells (([] : List Value).toArray ++ new'.toArray ++ Builtin.zeroCells z.cells (nc - m)) e)) H.length m nc
     (show H.length < (H ++ [Blk.cells (ys ++ List.replicate ((nc - m) * P.cellsOf e) .top)]).length by simp) hnc
    rw [g3] at this
    exact this
   ·cases h
  ·cases h
 ·cases h
end
end Go.Am
