/- One operation over abstract values, and that it is what the model does.
  Conditions: none; it speaks of every program. -/
import Derived.Test.YtneohapkboaplaaGreatAmMap
import Derived.Laws.StructEq
set_option linter.unusedVariables false
namespace Go.Am
open Go
section
variable {P : Program} {L : Lay} {H : List Blk} {T : Toks} {w : World}
theorem Con.newIter (h : Con L H T w) (s : List UInt8) :
  ∃ L', Con L' (H ++ [.iter s 0]) T (w.alloc (.stringIter ⟨s.toArray⟩ 0)) ∧ Ev H.length T.length L H.length T w L' (H ++ [Blk.iter s 0]).length T (w.alloc (.stringIter ⟨s.toArray⟩ 0)) ∧ L'.phi H.length = w.heap.size := by
 have h1 := h.alloc (.stringIter ⟨s.toArray⟩ 0) 0
 have e1 := Ev.alloc h (.stringIter ⟨s.toArray⟩ 0) 0
 have hnw : ¬ Wr (L.commit w.heap.size 0) H.length T w.heap.size := h.not_wr (Nat.le_refl _)
 refine ⟨(L.commit w.heap.size 0).withBox H.length w.heap.size, h1.addBox w.heap.size hnw (.iter s 0) (fun hle => by simp at hle; omega) ?_, Ev.addBox (b := w.heap.size) (Blk.iter s 0) e1 (Nat.le_refl _), by simp [Lay.withBox]⟩
 show (w.alloc _).heap[((L.commit w.heap.size 0).withBox H.length w.heap.size).phi H.length]? = _
 rw [show ((L.commit w.heap.size 0).withBox H.length w.heap.size).phi H.length = w.heap.size by simp [Lay.withBox]]
 exact heap_alloc_at w _
def alen (P : Program) (t : TypeId) (x : AV) : Option AV :=
 match P.underlying t, x with
 | some .string, .str s => some (.int .i64 s.length)
 | some (.slice _), .sl n _ _ => some (.int .i64 n)
 | some (.slice _), .msl _ _ n => some (.int .i64 n)
 | some (.slice _), .csl _ n _ => some (.int .i64 n)
 | some (.array n _), _ => some (.int .i64 n)
 | _, _ => none
theorem run_len {t ty : TypeId} {x r : AV} {c : Value} {N : Nat} (h : alen P t x = some r) (hx : Rep L N T w x c) : ∃ cv, (Builtin.len_ #[t] ty #[c]).run P w = .ok cv w ∧ Rep L N T w r cv := by
 unfold alen at h
 split at h
 ·rename_i s hu
  cases h
  rw [hx.str_inv]
  exact ⟨.int .i64 s.length, by rw [run_len_string w t ty _ hu]; rfl, .int _ _⟩
 ·rename_i e n cs tg hu
  cases h
  obtain ⟨a, cap, rfl, _⟩ := hx.sl_inv
  exact ⟨.int .i64 n, by simp [Builtin.len_, run_underlying hu, goInt], .int _ _⟩
 ·rename_i e i o n hu
  cases h
  obtain ⟨cap, rfl, _⟩ := hx.msl_inv
  exact ⟨.int .i64 n, by simp [Builtin.len_, run_underlying hu, goInt], .int _ _⟩
 ·rename_i e i n cap hu
  cases h
  obtain ⟨rfl, _⟩ := hx.csl_inv
  exact ⟨.int .i64 n, by simp [Builtin.len_, run_underlying hu, goInt], .int _ _⟩
 ·rename_i n e hu
  cases h
  exact ⟨.int .i64 n, by simp [Builtin.len_, run_underlying hu, goInt], .int _ _⟩
 ·cases h
def ammf (mx : Bool) : AV → List AV → Option AV
 | acc, [] => some acc
 | .int k x, .int _ y :: r => ammf mx (.int k (if mx then (if y > x then y else x) else (if y < x then y else x))) r
 | _, _ => none
def amm (mx : Bool) : List AV → Option AV
 | [] => none
 | x :: r => ammf mx x r
theorem run_ammf {N : Nat} (mx : Bool) : ∀ (l : List AV) (cs : List Value) (acc r : AV) (ca : Value), ammf mx acc l = some r → Rep L N T w acc ca → cs.length = l.length → (∀ (j : Nat) (h : j < l.length) (h' : j < cs.length), Rep L N T w (l[j]'h) (cs[j]'h')) →
  ∃ cv, (cs.foldlM (if mx then Builtin.max2 else Builtin.min2) ca).run P w = .ok cv w ∧ Rep L N T w r cv := by
 intro l
 induction l with
 | nil =>
  intro cs acc r ca h ha hl _
  have : cs = [] := List.eq_nil_of_length_eq_zero hl
  subst this
  simp only [ammf, Option.some.injEq] at h
  subst h
  exact ⟨ca, rfl, ha⟩
 | cons v l ih =>
  intro cs acc r ca h ha hl hr
  match cs, hl, hr with
  | c :: cs, hl, hr =>
   have h0 := hr 0 (by simp) (by simp)
   simp only [List.getElem_cons_zero] at h0
   cases acc <;> cases v <;> simp only [ammf, reduceCtorEq] at h
   rw [ha.int_inv, h0.int_inv]
   obtain ⟨cv, g1, g2⟩ := ih cs _ r _ h (.int _ _) (by simpa using hl) (fun j hj hj' => by have := hr (j + 1) (by simpa using hj) (by simpa using hj'); simpa using this)
   refine ⟨cv, ?_, g2⟩
   rw [List.foldlM_cons, ← g1]
   cases mx <;> rfl
theorem run_amm {N : Nat} {ty : TypeId} {ts : Array TypeId} (mx : Bool) (l : List AV) (cs : List Value) (r : AV) (h : amm mx l = some r) (hl : cs.length = l.length) (hr : ∀ (j : Nat) (h : j < l.length) (h' : j < cs.length), Rep L N T w (l[j]'h) (cs[j]'h')) :
  ∃ cv, ((if mx then Builtin.max_ else Builtin.min_) ts ty cs.toArray).run P w = .ok cv w ∧ Rep L N T w r cv := by
 match l, cs, hl, hr, h with
 | v :: l, c :: cs, hl, hr, h =>
  have h0 := hr 0 (by simp) (by simp)
  simp only [List.getElem_cons_zero] at h0
  obtain ⟨cv, g1, g2⟩ := run_ammf (P := P) mx l cs v r c h h0 (by simpa using hl) (fun j hj hj' => by have := hr (j + 1) (by simpa using hj) (by simpa using hj'); simpa using this)
  refine ⟨cv, ?_, g2⟩
  rw [← g1]
  cases mx <;> rfl
 | [], [], _, _, h => simp [amm] at h
def eqFlds (P : Program) : List Field → List AV → List AV → Option Bool
 | [], _, _ => some true
 | f :: fs, xs, ys =>
  if f.name = "_" then none else
  match P.underlying f.type, xs[f.offset]?, ys[f.offset]? with
  | some (.int _), some (.int k a), some (.int k' b) => if k = k' then (eqFlds P fs xs ys).map ((a == b) && ·) else none
  | some .string, some (.str a), some (.str b) => (eqFlds P fs xs ys).map ((a == b) && ·)
  | some .bool, some (.bool a), some (.bool b) => (eqFlds P fs xs ys).map ((a == b) && ·)
  | _, _, _ => none
def eqStruct (P : Program) (t : TypeId) (x y : AV) : Option Bool :=
 match x, y with
 | .agg xs, .agg ys => if P.stoodInHeld t = false ∧ P.eqGuardType P.depth t = false then
   match P.underlying t with
   | some (.struct fs) => eqFlds P fs.toList xs ys
   | _ => none
  else none
 | _, _ => none
def abinS (P : Program) (op : BinOp) (t : TypeId) (x y : AV) : Option AV :=
 match op with
 | .eql => (eqStruct P t x y).map .bool
 | .neq => (eqStruct P t x y).map fun b => .bool (!b)
 | _ => none
theorem RepC.at {N : Nat} {xs : List AV} {c : List Value} {i : Nat} {v : AV} (h : RepC L N T w xs c) (hi : xs[i]? = some v) : ∃ x, c[i]? = some x ∧ Rep L N T w v x := by
 obtain ⟨hlt, rfl⟩ := List.getElem?_eq_some_iff.1 hi
 have hlt' : i < c.length := by rw [h.1]; exact hlt
 exact ⟨c[i], List.getElem?_eq_getElem hlt', h.2.2 i hlt hlt'⟩
theorem run_eqFlds {N : Nat} (d : Nat) {xs ys : List AV} {cx cy : Array Value} (hx : RepC L N T w xs cx.toList) (hy : RepC L N T w ys cy.toList) : ∀ (fs : List Field) (b : Bool), eqFlds P fs xs ys = some b → (Op.eqFields (d + 1) cx cy fs).run P w = .ok b w := by
 intro fs
 induction fs with
 | nil => intro b h; cases h; rfl
 | cons f fs ih =>
  intro b h
  unfold eqFlds at h
  split at h
  ·cases h
  ·rename_i hn
   have fin : ∀ (v u : Value) (r : Bool), isAggT P f.type = some false → cx.toList[f.offset]? = some v → cy.toList[f.offset]? = some u → (Op.equalIn (d + 1) f.type v u).run P w = .ok r w →
     (eqFlds P fs xs ys).map (r && ·) = some b → (Op.eqFields (d + 1) cx cy (f :: fs)).run P w = .ok b w := by
    intro v u r ha hv hu he hm
    obtain ⟨b', hb', rfl⟩ := Option.map_eq_some_iff.1 hm
    have hv' : cx[f.offset]? = some v := by simpa using hv
    have hu' : cy[f.offset]? = some u := by simpa using hu
    have p1 : (part f.type cx f.offset).run P w = .ok v w := by
     simp only [part, Sem.run_bind, run_isAgg ha, Result.andThen_ok, Bool.false_eq_true, if_false, hv']; rfl
    have p2 : (part f.type cy f.offset).run P w = .ok u w := by
     simp only [part, Sem.run_bind, run_isAgg ha, Result.andThen_ok, Bool.false_eq_true, if_false, hu']; rfl
    simp only [Op.eqFields, if_pos hn, Sem.run_bind, p1, p2, Result.andThen_ok, he]
    cases r
    ·simp
    ·simpa using ih b' hb'
   split at h
   ·rename_i hu h1 h2
    split at h
    ·rename_i hk
     subst hk
     obtain ⟨v, v1, v2⟩ := hx.at h1
     obtain ⟨u, u1, u2⟩ := hy.at h2
     rw [v2.int_inv] at v1; rw [u2.int_inv] at u1
     exact fin _ _ _ (by simp [isAggT, hu]) v1 u1 (run_equalIn_int w d _ _ _ _ _ hu) h
    ·cases h
   ·rename_i hu h1 h2
    obtain ⟨v, v1, v2⟩ := hx.at h1
    obtain ⟨u, u1, u2⟩ := hy.at h2
    rw [v2.str_inv] at v1; rw [u2.str_inv] at u1
    refine fin _ _ _ (by simp [isAggT, hu]) v1 u1 ?_ h
    rw [run_equalIn_string w d _ _ _ hu, toList_mk, toList_mk]
   ·rename_i hu h1 h2
    obtain ⟨v, v1, v2⟩ := hx.at h1
    obtain ⟨u, u1, u2⟩ := hy.at h2
    rw [v2.bool_inv] at v1; rw [u2.bool_inv] at u1
    exact fin _ _ _ (by simp [isAggT, hu]) v1 u1 (run_equalIn_bool' w d _ _ _ hu) h
   ·cases h
theorem run_abinS {N : Nat} {op : BinOp} {t : TypeId} {x y r : AV} {cx cy : Value} (h : abinS P op t x y = some r) (hx : Rep L N T w x cx) (hy : Rep L N T w y cy) (ox oy : Operand) :
  ∃ cv, (eqGuard op t ox oy cx cy >>= fun _ => binOp op t cx cy).run P w = .ok cv w ∧ ∀ (L : Lay) (N : Nat) (T : Toks) (w' : World), Rep L N T w' r cv := by
 have key : ∀ b, eqStruct P t x y = some b → ∃ xs ys, cx = .agg xs ∧ cy = .agg ys ∧ P.eqGuardType P.depth t = false ∧ (Op.equalIn 10000 t (.agg xs) (.agg ys)).run P w = .ok b w := by
  intro b hb
  unfold eqStruct at hb
  split at hb
  ·rename_i xs ys
   split at hb
   ·rename_i hg
    split at hb
    ·rename_i fs hu
     cases hx with
     | agg _ cxa a1 a2 a3 =>
      cases hy with
      | agg _ cya b1 b2 b3 =>
       refine ⟨cxa, cya, rfl, rfl, hg.2, ?_⟩
       have hf : P.fieldsOf t = fs := by simp [Program.fieldsOf, hu]
       rw [run_equalIn_struct w 9999 t cxa cya (by rw [hf]; exact hu) hg.1, hf]
       exact run_eqFlds 9998 (RepC.of_agg (.agg _ _ a1 a2 a3)) (RepC.of_agg (.agg _ _ b1 b2 b3)) _ _ hb
    ·cases hb
   ·cases hb
  ·cases hb
 unfold abinS at h
 split at h
 ·obtain ⟨b, hb, rfl⟩ := Option.map_eq_some_iff.1 h
  obtain ⟨xs, ys, rfl, rfl, hg, hr⟩ := key b hb
  refine ⟨.bool b, ?_, fun _ _ _ _ => .bool _⟩
  simp only [Sem.run_bind, run_eqGuard_agg w _ _ _ _ _ _ hg, Result.andThen_ok, run_eql_struct, hr]
 ·obtain ⟨b, hb, rfl⟩ := Option.map_eq_some_iff.1 h
  obtain ⟨xs, ys, rfl, rfl, hg, hr⟩ := key b hb
  refine ⟨.bool (!b), ?_, fun _ _ _ _ => .bool _⟩
  simp only [Sem.run_bind, run_eqGuard_agg w _ _ _ _ _ _ hg, Result.andThen_ok, run_neq_struct, hr]
 ·cases h
def sameOpd : Operand → Operand → Bool
 | .tmp a, .tmp b => a == b
 | .const (.int k a), .const (.int k' b) => k == k' && a == b
 | _, _ => false
abbrev Res := Option (AV × List Blk × Toks)
def aclear (P : Program) (H : List Blk) (t : TypeId) (x : AV) : Option (List Blk) :=
 match P.underlying t, x with
 | some (.slice e), .msl i o n => if n = 0 then some H else match H[i]?, azero P e with
  | some (.cells vs), some zs => if 0 < zs.length ∧ o + n * zs.length ≤ vs.length then some (H.set i (.cells (setMany vs o (amade zs (n * zs.length))))) else none
  | _, _ => none
 | _, _ => none
theorem run_clear {t ty : TypeId} {x : AV} {c : Value} {H' : List Blk} (hc : Con L H T w) (h : aclear P H t x = some H') (hx : Rep L H.length T w x c) :
  ∃ cv w' L', (Builtin.clear_ #[t] ty #[c]).run P w = .ok cv w' ∧ Con L' H' T w' ∧ Rep L' H'.length T w' .top cv ∧ Ev H.length T.length L H.length T w L' H'.length T w' := by
 unfold aclear at h
 split at h
 ·rename_i e i o n hu
  obtain ⟨cap, rfl, hcap, hlt⟩ := hx.msl_inv
  split at h
  ·rename_i hn
   cases h
   subst hn
   exact ⟨.tuple #[], w, L, by simp [Builtin.clear_, run_underlying hu], hc, .top _, Ev.refl (Nat.le_refl _) (Nat.le_refl _)⟩
  ·rename_i hn
   split at h
   ·rename_i vs zs hi hz
    split at h
    ·rename_i hle
     cases h
     obtain ⟨inf, z, h1, h2, h3, h4⟩ := azero_rep (L := L) (T := T) (w := w) (N := H.length) hz
     have hsz : z.cells.size = zs.length := by have := h3.1; simpa using this
     have hr := amade_rep (n := n * zs.length) h3 (.inl hle.1)
     have hzc : (Builtin.zeroCells z.cells n).toList = (madeCells z.cells (n * zs.length)).toList := by rw [← hsz]; rfl
     rw [← hzc] at hr
     have hlen : (amade zs (n * zs.length)).length = n * zs.length := by simp [amade]
     obtain ⟨w', hst, hcon, hev⟩ := run_storeMany (P := P) i o (amade zs (n * zs.length)) (Builtin.zeroCells z.cells n).toList 0 H w vs hc hr hi (by rw [hlen]; omega)
     obtain ⟨m, rfl⟩ : ∃ m, n = m + 1 := ⟨n - 1, by omega⟩
     refine ⟨.tuple #[], w', L, ?_, hcon, .top _, hev⟩
     simp [Builtin.clear_, run_underlying hu, run_zero h1 h2, hst]
    ·cases h
   ·cases h
 ·cases h
def abuiltin (P : Program) (b : Builtin) (ts : Array TypeId) (args : List AV) (H : List Blk) (T : Toks) : Res :=
 match b, ts.toList, args with
 | .len, [t], [x] => (alen P t x).map (·, H, T)
 | .append, [t, t2], [s, x] => match s with
  | .msl i o n => (aapp0 P H t t2 (.msl i o n) x).map (·, H, T)
  | s => (aappend P H T t t2 s x).map fun (v, T') => (v, H, T')
 | .max, _, l => (amm true l).map (·, H, T)
 | .min, _, l => (amm false l).map (·, H, T)
 | .clear, [t], [x] => (aclear P H t x).map fun H' => (.top, H', T)
 | _, _, _ => none
def anilI (P : Program) (op : BinOp) (t : TypeId) (y : Operand) (ax : AV) : Option AV :=
 match y with
 | .const .nilIface => match P.underlying t, ax, op with
  | some (.interface _), .nili, .eql => some (.bool true)
  | some (.interface _), .nili, .neq => some (.bool false)
  | some (.interface _), .ifc, .eql => some (.bool false)
  | some (.interface _), .ifc, .neq => some (.bool true)
  | _, _, _ => none
 | _ => none
theorem run_anilI {op : BinOp} {t : TypeId} {x y : Operand} {ax r : AV} {a : Act} {N : Nat} (h : anilI P op t y ax = some r) (hx : Rep L N T w ax (a.eval x)) :
  ∃ cv, (eqGuard op t x y (a.eval x) (a.eval y) >>= fun _ => binOp op t (a.eval x) (a.eval y)).run P w = .ok cv w ∧ ∀ (L : Lay) (N : Nat) (T : Toks) (w' : World), Rep L N T w' r cv := by
 have g1 : ∀ op, (eqGuard op t x (.const .nilIface) .nilIface .nilIface).run P w = .ok () w := fun op => by
  unfold eqGuard
  cases op <;> simp
 have g2 : ∀ op t' v, (eqGuard op t x (.const .nilIface) (.iface t' v) .nilIface).run P w = .ok () w := fun op t' v => by
  unfold eqGuard
  cases op <;> simp
 unfold anilI at h
 split at h
 ·have e2 : a.eval (.const .nilIface) = .nilIface := rfl
  rw [e2]
  split at h
  ·rename_i ms hu
   cases h
   rw [hx.nili_inv, Sem.run_bind, g1, Result.andThen_ok]
   exact ⟨_, run_eql t _ _ true .eql (.inl rfl) rfl rfl (fun d => by simp only [Op.equalIn, Sem.run_bind, run_underlying hu, Result.andThen_ok]; rfl), fun _ _ _ _ => .bool _⟩
  ·rename_i ms hu
   cases h
   rw [hx.nili_inv, Sem.run_bind, g1, Result.andThen_ok]
   exact ⟨_, run_eql t _ _ true .neq (.inr rfl) rfl rfl (fun d => by simp only [Op.equalIn, Sem.run_bind, run_underlying hu, Result.andThen_ok]; rfl), fun _ _ _ _ => .bool _⟩
  ·rename_i ms hu
   cases h
   obtain ⟨t', v, e⟩ := hx.ifc_inv
   rw [e, Sem.run_bind, g2, Result.andThen_ok]
   exact ⟨_, run_eql t _ _ false .eql (.inl rfl) rfl rfl (fun d => by simp only [Op.equalIn, Sem.run_bind, run_underlying hu, Result.andThen_ok]; rfl), fun _ _ _ _ => .bool _⟩
  ·rename_i ms hu
   cases h
   obtain ⟨t', v, e⟩ := hx.ifc_inv
   rw [e, Sem.run_bind, g2, Result.andThen_ok]
   exact ⟨_, run_eql t _ _ false .neq (.inr rfl) rfl rfl (fun d => by simp only [Op.equalIn, Sem.run_bind, run_underlying hu, Result.andThen_ok]; rfl), fun _ _ _ _ => .bool _⟩
  ·cases h
 ·cases h
def aop (P : Program) (o : Oper) (e : Env) (H : List Blk) (T : Toks) : Res :=
 match o.op with
 | .move x => some (aev e x, H, T)
 | .assign x => some (aev e x, H, T)
 | .pick c a b => match aev e c with
  | .bool t => some (if t then aev e a else aev e b, H, T)
  | _ => none
 | .alloc t => (azero P t).map fun zs => (.ptr H.length 0, H ++ [.cells zs], T)
 | .box _ x => (axs (aev e x)).map fun xs => (.ptr H.length 0, H ++ [.cells xs], T)
 | .build t ps => (abuild P t (ps.toList.map fun (x : Nat × Operand) => (x.1, aev e x.2))).map (·, H, T)
 | .buildSlice t n ps => (abuildSlice P t n (ps.toList.map fun (x : Nat × Operand) => (x.1, aev e x.2))).map (·, H, T)
 | .load t a => match arow H (aev e a) with
  | some (vs, o) => (aload P t vs o).map (·, H, T)
  | none => none
 | .store t a x => match aev e a, axs (aev e x) with
  | .ptr i o, some xs => match H[i]? with
   | some (.cells vs) => if xs.length = P.cellsOf t ∧ o + xs.length ≤ vs.length ∧ (P.underlying t).isSome = true then some (.top, H.set i (.cells (setMany vs o xs)), T) else none
   | _ => none
  | _, _ => none
 | .nilCheck x => match aev e x with
  | .ptr i o => some (.ptr i o, H, T)
  | .vptr cs o => some (.vptr cs o, H, T)
  | .fn f a b => some (.fn f a b, H, T)
  | _ => none
 | .binOp op t x y _ => match anilI P op t y (aev e x) with
  | some r => some (r, H, T)
  | none => if eqType P t (aev e x) = true then (abin op (aev e x) (aev e y)).map (·, H, T) else (abinS P op t (aev e x) (aev e y)).map (·, H, T)
 | .unOp u _ x => (aun u (aev e x)).map (·, H, T)
 | .convert s d x => match P.underlying s, P.underlying d, aev e x with
  | some .string, some (.slice el), .str b => match P.underlying el with
   | some (.int .u8) => some (.sl b.length (encB b) .none, H, T)
   | _ => none
  | _, _, _ => (aconv P H s d (aev e x)).map (·, H, T)
 | .makeFunc (.func f) first caps => some (.fn f (first.toList.map (aev e)) (caps.toList.map (aev e)), H, T)
 | .makeSlice t l c => match P.underlying t, aev e l, aev e c with
  | some (.slice el), .int _ a, .int _ b => match azero P el with
   | some zs =>
    if 0 < zs.length ∧ 0 ≤ b ∧ b.toNat * P.bytesOf el ≤ 281474976710656 ∧ b.toNat ≤ 9223372036854775807 ∧ 0 < P.cellsOf el then
     if sameOpd l c = true then some (.msl H.length 0 b.toNat, H ++ [.cells (amade zs (b.toNat * P.cellsOf el))], T)
     else if a = 0 then some (.sl 0 [] (.own T.length), H, T ++ [(0, P.cellsOf el)]) else none
    else none
   | none => none
  | _, _, _ => none
 | .slice t x lo hi mx => (aslice P t (aev e x) (lo.map (aev e)) (hi.map (aev e)) (mx.map (aev e))).map (·, H, T)
 | .fieldAddr t x f => (afieldAddr P t (aev e x) f).map (·, H, T)
 | .field t x f => (afield P t (aev e x) f).map (·, H, T)
 | .indexAddr t x i => (aindexAddr P t (aev e x) (aev e i)).map (·, H, T)
 | .index t x i => (aindex P t (aev e x) (aev e i)).map (·, H, T)
 | .extract x i => match aev e x with
  | .tup vs => if i < vs.length then some (vs.getD i .top, H, T) else none
  | _ => none
 | .range t x => match aev e x with
  | .str s => match P.underlying t with
   | some .string => some (.ptr H.length 0, H ++ [.iter s 0], T)
   | _ => none
  | .mref m => match mapT P t, H[m]? with
   | some _, some (.map es) => some (.ptr H.length 0, H ++ [.mit m es.length []], T)
   | _, _ => none
  | _ => none
 | .makeMap _ none => some (.mref H.length, H ++ [.map []], T)
 | .lookup t x i ok => match aev e x, mapT P t, keyAV (aev e i) with
  | .mref m, some (kt, el), some k => match H[m]?, azeroV P el with
   | some (.map es), some z => if fitsB P kt k = true ∧ keysFit P kt es = true then some (lookV es k z ok, H, T) else none
   | _, _ => none
  | _, _, _ => none
 | .mapUpdate t m k x => match aev e m, mapT P t, keyAV (aev e k) with
  | .mref i, some (kt, _), some kk => match H[i]? with
   | some (.map es) => if fitsB P kt kk = true ∧ keysFit P kt es = true then some (.top, H.set i (.map (mput es kk (aev e x))), T) else none
   | _ => none
  | _, _, _ => none
 | .entry x => match aev e x with
  | .ptr i 0 => match H[i]? with
   | some (.mit m n seen) => match H[m]?, seen.getLast? with
    | some (.map es), some j => if n = es.length then (es[j]?).map fun kv => (.tup [kv.1.av, kv.2], H, T) else none
    | _, _ => none
   | _ => none
  | _ => none
 | .next x true => match aev e x with
  | .ptr i 0 => match H[i]? with
   | some (.iter s pos) => if pos < s.length then some (.tup [.bool true, .int .i64 pos, .int .i32 (Utf8.decode ⟨s.toArray⟩ pos).1], H.set i (.iter s (pos + (Utf8.decode ⟨s.toArray⟩ pos).2)), T)
    else some (.tup [.bool false], H, T)
   | _ => none
  | _ => none
 | .call { callee := .builtin b, args, argTypes } => abuiltin P b argTypes (args.toList.map (aev e)) H T
 | _ => none
theorem Good.of {x : Sem Value} {y : Sem Next} {r : AV} {H' : List Blk} {T' : Toks} (hy : y = (do pure (Next.value (← x)))) (h : ∃ cv w' L', x.run P w = .ok cv w' ∧ Con L' H' T' w' ∧ Rep L' H'.length T' w' r cv ∧ Ev H.length T.length L H.length T w L' H'.length T' w') :
  Good P y H T L w r H' T' := by
 obtain ⟨cv, w', L', h1, h2, h3, h4⟩ := h
 exact ⟨.value cv, cv, w', L', by rw [hy]; simp only [Sem.run_bind, h1, Result.andThen_ok]; rfl, .inl rfl, h2, h3, h4⟩
theorem Good.same {x : Sem Value} {y : Sem Next} {r : AV} (hy : y = (do pure (Next.value (← x)))) (hc : Con L H T w) (h : ∃ cv, x.run P w = .ok cv w ∧ Rep L H.length T w r cv) : Good P y H T L w r H T := by
 obtain ⟨cv, h1, h2⟩ := h
 exact Good.of hy ⟨cv, w, L, h1, hc, h2, Ev.refl (Nat.le_refl _) (Nat.le_refl _)⟩
theorem rep_parts {a : Act} {e : Env} (he : EnvRep L H.length T w e a) (ps : Array (Nat × Operand)) :
  (ps.map fun (x : Nat × Operand) => match x with | (i, x) => (i, a.eval x)).size = (ps.toList.map fun (x : Nat × Operand) => (x.1, aev e x.2)).length ∧
  ∀ (j : Nat) (h : j < (ps.toList.map fun (x : Nat × Operand) => (x.1, aev e x.2)).length) (h' : j < (ps.map fun (x : Nat × Operand) => match x with | (i, x) => (i, a.eval x)).toList.length),
   ((ps.toList.map fun (x : Nat × Operand) => (x.1, aev e x.2))[j]'h).1 = ((ps.map fun (x : Nat × Operand) => match x with | (i, x) => (i, a.eval x)).toList[j]'h').1 ∧
   Rep L H.length T w ((ps.toList.map fun (x : Nat × Operand) => (x.1, aev e x.2))[j]'h).2 ((ps.map fun (x : Nat × Operand) => match x with | (i, x) => (i, a.eval x)).toList[j]'h').2 := by
 refine ⟨by simp, fun j h h' => ?_⟩
 simp only [List.getElem_map, Array.toList_map]
 exact ⟨by first | rfl | trivial, he.aev _⟩
theorem run_abuiltin {b : Builtin} {ts : List TypeId} {ty : TypeId} {A : List AV} {B : List Value} {cst : Array Bool} {r : AV} {H' : List Blk} {T' : Toks} (hc : Con L H T w) (h : abuiltin P b ts.toArray A H T = some (r, H', T'))
  (hl : B.length = A.length) (hr : ∀ (j : Nat) (h : j < A.length) (h' : j < B.length), Rep L H.length T w (A[j]'h) (B[j]'h')) : Good P (builtin b ts.toArray ty cst B.toArray) H T L w r H' T' := by
 have one : ∀ {x : Option AV} {y : AV × List Blk × Toks}, x.map (fun v => (v, H, T)) = some y → ∃ v, x = some v ∧ y = (v, H, T) := by
  intro x y hx
  cases x with
  | none => cases hx
  | some v => exact ⟨v, rfl, by cases hx; rfl⟩
 unfold abuiltin at h
 split at h
 ·rename_i t x hts
  have hts' : ts = [t] := hts
  subst hts'
  obtain ⟨v, hv, e1⟩ := one h
  cases e1
  match B, hl, hr with
  | [c], _, hr =>
   have h0 := hr 0 (by simp) (by simp)
   simp only [List.getElem_cons_zero] at h0
   exact Good.same (x := Builtin.len_ #[t] ty #[c]) rfl hc (run_len hv h0)
 ·rename_i t t2 s x hts
  have hts' : ts = [t, t2] := hts
  subst hts'
  split at h
  ·rename_i i o n
   obtain ⟨v, hv, e1⟩ := one h
   cases e1
   match B, hl, hr with
   | [c, d], _, hr =>
    have h0 := hr 0 (by simp) (by simp)
    have h1 := hr 1 (by simp) (by simp)
    simp only [List.getElem_cons_zero, List.getElem_cons_succ] at h0 h1
    exact Good.same (x := Builtin.append_ #[t, t2] ty #[c, d]) rfl hc (run_app0 hc hv h0 h1)
  ·cases ha : aappend P H T t t2 s x with
   | none => rw [ha] at h; cases h
   | some y =>
    obtain ⟨v, Tn⟩ := y
    rw [ha] at h
    cases h
    match B, hl, hr with
    | [c, d], _, hr =>
     have h0 := hr 0 (by simp) (by simp)
     have h1 := hr 1 (by simp) (by simp)
     simp only [List.getElem_cons_zero, List.getElem_cons_succ] at h0 h1
     exact Good.of (x := Builtin.append_ #[t, t2] ty #[c, d]) rfl (run_append hc ha h0 h1)
 ·obtain ⟨v, hv, e1⟩ := one h
  cases e1
  exact Good.same (x := Builtin.max_ ts.toArray ty B.toArray) rfl hc (run_amm (P := P) (ty := ty) (ts := ts.toArray) true _ B r hv hl hr)
 ·obtain ⟨v, hv, e1⟩ := one h
  cases e1
  exact Good.same (x := Builtin.min_ ts.toArray ty B.toArray) rfl hc (run_amm (P := P) (ty := ty) (ts := ts.toArray) false _ B r hv hl hr)
 ·rename_i t x hts
  have hts' : ts = [t] := hts
  subst hts'
  cases ha : aclear P H t x with
  | none => rw [ha] at h; cases h
  | some Hn =>
   rw [ha] at h
   cases h
   match B, hl, hr with
   | [c], _, hr =>
    have h0 := hr 0 (by simp) (by simp)
    simp only [List.getElem_cons_zero] at h0
    exact Good.of (x := Builtin.clear_ #[t] ty #[c]) rfl (run_clear hc ha h0)
 ·cases h
theorem aop_sound {o : Oper} {e : Env} {a : Act} {r : AV} {H' : List Blk} {T' : Toks} (hc : Con L H T w) (he : EnvRep L H.length T w e a) (h : aop P o e H T = some (r, H', T')) : Good P (execOp a.eval o) H T L w r H' T' := by
 obtain ⟨dst, op, type, pos, after, guard⟩ := o
 have one : ∀ {x : Option AV} {y : AV × List Blk × Toks}, x.map (fun v => (v, H, T)) = some y → ∃ v, x = some v ∧ y = (v, H, T) := by
  intro x y hx
  cases x with
  | none => cases hx
  | some v => exact ⟨v, rfl, by cases hx; rfl⟩
 cases op <;> simp only [aop, reduceCtorEq] at h
 case move x => cases h; exact Good.now hc rfl (he.aev x)
 case assign x => cases h; exact Good.now hc rfl (he.aev x)
 case pick c x y =>
  split at h
  ·rename_i t ht
   cases h
   have hb := he.aev c
   rw [ht] at hb
   refine Good.same (x := do pure (if ← asBool (a.eval c) then a.eval x else a.eval y)) (by simp [execOp]) hc ⟨if t then a.eval x else a.eval y, by rw [hb.bool_inv]; rfl, ?_⟩
   cases t
   ·exact he.aev y
   ·exact he.aev x
  ·cases h
 case alloc t =>
  cases hz : azero P t with
  | none => rw [hz] at h; cases h
  | some zs =>
   rw [hz] at h
   cases h
   obtain ⟨i, z, hi, hzz, hr, _⟩ := azero_rep (L := L) (N := H.length) (T := T) (w := w) hz
   obtain ⟨L', h1, h2, h3⟩ := hc.newBox z.cells t hr
   refine Good.of (x := Instr.alloc t true (.tuple #[])) rfl ⟨.pointer (some ⟨w.heap.size, 0, none⟩), _, L', ?_, h1, ?_, h2⟩
   ·simp only [Instr.alloc, Sem.run_bind, run_zero hi hzz, Result.andThen_ok]; rfl
   ·rw [← h3]; exact .ptr _ _ (by simp)
 case box t x =>
  cases hz : axs (aev e x) with
  | none => rw [hz] at h; cases h
  | some xs =>
   rw [hz] at h
   cases h
   have hr := axs_rep hz (he.aev x)
   obtain ⟨L', h1, h2, h3⟩ := hc.newBox (a.eval x).cells t hr
   refine Good.of (x := Instr.box t (a.eval x)) rfl ⟨.pointer (some ⟨w.heap.size, 0, none⟩), _, L', ?_, h1, ?_, h2⟩
   ·rfl
   ·rw [← h3]; exact .ptr _ _ (by simp)
 case build t ps =>
  obtain ⟨v, hv, e1⟩ := one h
  cases e1
  obtain ⟨g1, g2⟩ := rep_parts he ps
  exact Good.same rfl hc (run_build hv g1 g2)
 case buildSlice t n ps =>
  obtain ⟨v, hv, e1⟩ := one h
  cases e1
  obtain ⟨g1, g2⟩ := rep_parts he ps
  exact Good.of rfl (run_buildSlice hc hv g1 g2)
 case load t x =>
  split at h
  ·rename_i vs o hrow
   obtain ⟨v, hv, e1⟩ := one h
   cases e1
   obtain ⟨b, base, cv, e2, hr, hcell⟩ := arow_reads hc (he.aev x) hrow
   obtain ⟨c, h1, h2⟩ := run_loadVar (P := P) hr hcell hv
   refine Good.same (x := Instr.loadAt t (a.eval x)) rfl hc ⟨c, ?_, h2⟩
   rw [e2]; exact h1
  ·cases h
 case store t x y =>
  split at h
  ·rename_i i o xs hx hy
   split at h
   ·rename_i vs hi
    split at h
    ·rename_i hb
     cases h
     obtain ⟨hl, hle, hu⟩ := hb
     obtain ⟨d, hd⟩ := Option.isSome_iff_exists.1 hu
     have hp := he.aev x
     rw [hx] at hp
     obtain ⟨e2, hlt⟩ := hp.ptr_inv
     have hr := axs_rep hy (he.aev y)
     obtain ⟨w', h1, h2, h3⟩ := run_storeMany (P := P) (L := L) (T := T) i o xs (a.eval y).cells.toList 0 H w vs hc hr hi (by simpa using hle)
     have hsz : (a.eval y).cells.size = P.cellsOf t := by have := hr.1; simp at this; omega
     refine ⟨.skip, undef, w', L, ?_, .inr ⟨rfl, rfl⟩, h2, .top _, h3⟩
     have : (Instr.storeAt t (a.eval x) (a.eval y)).run P w = .ok () w' := by
      rw [e2]
      simp only [Instr.storeAt, Instr.sureAddr, pure_bind, storeVar, Sem.run_bind, run_sizeOf' hd, Result.andThen_ok, hsz, ne_eq, not_true_eq_false, if_false]
      exact h1
     simp only [execOp, Sem.run_bind, this, Result.andThen_ok]
     rfl
    ·cases h
   ·cases h
  ·cases h
 case nilCheck x =>
  have hp := he.aev x
  split at h
  ·rename_i i o hx
   cases h
   rw [hx] at hp
   obtain ⟨e2, hlt⟩ := hp.ptr_inv
   refine Good.now hc ?_ (e2 ▸ hp)
   simp only [execOp, e2]; rfl
  ·rename_i cs o hx
   cases h
   rw [hx] at hp
   generalize hcx : a.eval x = cx at hp
   cases hp with
   | vptr _ _ b base f hm hcc h1 hr =>
    refine Good.now hc ?_ (.vptr cs o b base f hm hcc h1 hr)
    simp only [execOp, hcx]; rfl
  ·rename_i f fa ca hx
   cases h
   rw [hx] at hp
   generalize hcx : a.eval x = cx at hp
   cases hp with
   | fn _ _ _ fv cv h1 h2 hr1 hr2 =>
    refine Good.now hc ?_ (.fn f fa ca fv cv h1 h2 hr1 hr2)
    simp only [execOp, hcx]; rfl
  ·cases h
 case binOp op t x y yt =>
  split at h
  ·rename_i v hv
   cases h
   obtain ⟨cv, h1, h2⟩ := run_anilI hv (he.aev x)
   exact Good.same (x := (do eqGuard op t x y (a.eval x) (a.eval y); binOp op t (a.eval x) (a.eval y))) rfl hc ⟨cv, h1, h2 _ _ _ _⟩
  split at h
  ·rename_i ht
   obtain ⟨v, hv, e1⟩ := one h
   cases e1
   obtain ⟨cv, h1, h2⟩ := run_abin t hv ht (he.aev x) (he.aev y) x y
   exact Good.same (x := (do eqGuard op t x y (a.eval x) (a.eval y); binOp op t (a.eval x) (a.eval y))) rfl hc ⟨cv, h1, h2 _ _ _ _⟩
  ·obtain ⟨v, hv, e1⟩ := one h
   cases e1
   obtain ⟨cv, h1, h2⟩ := run_abinS hv (he.aev x) (he.aev y) x y
   exact Good.same (x := (do eqGuard op t x y (a.eval x) (a.eval y); binOp op t (a.eval x) (a.eval y))) rfl hc ⟨cv, h1, h2 _ _ _ _⟩
 case unOp u t x =>
  obtain ⟨v, hv, e1⟩ := one h
  cases e1
  obtain ⟨cv, h1, h2⟩ := run_aun (P := P) hv (he.aev x)
  exact Good.same rfl hc ⟨cv, h1, h2 _ _ _ _⟩
 case convert s d x =>
  split at h
  ·rename_i el b h1 h2 h3
   split at h
   ·rename_i h4
    cases h
    have hb := he.aev x
    rw [h3] at hb
    exact Good.of rfl (run_bytes hc h1 h2 h4 hb)
   ·cases h
  ·obtain ⟨v, hv, e1⟩ := one h
   cases e1
   exact Good.same rfl hc (run_conv hc hv (he.aev x))
 case makeFunc fn first caps =>
  cases fn <;> simp only [reduceCtorEq] at h
  rename_i f
  cases h
  refine Good.now hc rfl (.fn f _ _ _ _ (by simp) (by simp) (fun j hj hj' => ?_) (fun j hj hj' => ?_))
  ·simp only [List.getElem_map, Array.getElem_map, Array.getElem_toList]; exact he.aev _
  ·simp only [List.getElem_map, Array.getElem_map, Array.getElem_toList]; exact he.aev _
 case makeSlice t l c =>
  split at h
  ·rename_i el k1 x k2 y hu hl hcap
   split at h
   ·rename_i zs hz
    split at h
    ·rename_i hb
     obtain ⟨b1, b2, b3, b4, b5⟩ := hb
     have rl := he.aev l
     have rc := he.aev c
     rw [hl] at rl; rw [hcap] at rc
     split at h
     ·rename_i hs
      cases h
      have hxy : a.eval l = a.eval c := by
       unfold sameOpd at hs
       split at hs
       ·simp at hs; rw [hs]
       ·simp at hs; rw [hs.1, hs.2]
       ·cases hs
      have ey := rc.int_inv
      have := run_makeBox (t := t) hc hu hz b1 k2 k2 y.toNat b3 b4
      rw [Int.toNat_of_nonneg b2] at this
      refine Good.of (x := Instr.makeSlice t (a.eval l) (a.eval c)) rfl ?_
      rw [hxy, ey]; exact this
     ·split at h
      ·rename_i hx0
       cases h
       subst hx0
       have ey := rc.int_inv
       have ex := rl.int_inv
       have := run_makeOwn (t := t) hc hu hz b5 k1 k2 y.toNat b3 b4
       rw [Int.toNat_of_nonneg b2] at this
       refine Good.of (x := Instr.makeSlice t (a.eval l) (a.eval c)) rfl ?_
       rw [ex, ey]; exact this
      ·cases h
    ·cases h
   ·cases h
  ·cases h
 case slice t x lo hi mx =>
  obtain ⟨v, hv, e1⟩ := one h
  cases e1
  have hopt : ∀ (q : Option Operand) v cv, q.map (aev e) = some v → q.map a.eval = some cv → Rep L H.length T w v cv := by
   intro q v cv h1 h2
   cases q with
   | none => cases h1
   | some q => cases h1; cases h2; exact he.aev q
  exact Good.same rfl hc (run_slice hv (he.aev x) (hopt lo) (hopt hi) (hopt mx) (by simp) (by simp) (by simp))
 case fieldAddr t x f =>
  obtain ⟨v, hv, e1⟩ := one h
  cases e1
  exact Good.same rfl hc (run_fieldAt hv (he.aev x))
 case field t x f =>
  obtain ⟨v, hv, e1⟩ := one h
  cases e1
  exact Good.same rfl hc (run_field hv (he.aev x))
 case indexAddr t x i =>
  obtain ⟨v, hv, e1⟩ := one h
  cases e1
  exact Good.same rfl hc (run_indexAt hv (he.aev x) (he.aev i))
 case index t x i =>
  obtain ⟨v, hv, e1⟩ := one h
  cases e1
  exact Good.same rfl hc (run_index hv (he.aev x) (he.aev i))
 case extract x i =>
  split at h
  ·rename_i vs hx
   split at h
   ·rename_i hlt
    cases h
    have hp := he.aev x
    rw [hx] at hp
    generalize hcx : a.eval x = cx at hp
    cases hp with
    | tup _ cv h1 hr =>
     have hlt' : i < cv.size := by omega
     refine Good.same (x := Instr.extract (a.eval x) i) rfl hc ⟨cv[i], ?_, ?_⟩
     ·rw [hcx]
      simp only [Instr.extract, Array.getElem?_eq_getElem hlt']; rfl
     ·rw [List.getD_eq_getElem?_getD, List.getElem?_eq_getElem hlt]
      exact hr i hlt hlt'
   ·cases h
  ·cases h
 case range t x =>
  split at h
  ·rename_i s hx
   split at h
   ·rename_i hu
    cases h
    have hp := he.aev x
    rw [hx] at hp
    obtain ⟨L', h1, h2, h3⟩ := hc.newIter s
    refine Good.of (x := Instr.range t (a.eval x)) rfl ⟨.pointer (some ⟨w.heap.size, 0, none⟩), _, L', ?_, h1, ?_, h2⟩
    ·rw [hp.str_inv]
     simp only [Instr.range, Sem.run_bind, run_underlying hu, Result.andThen_ok]; rfl
    ·rw [← h3]; exact .ptr _ _ (by simp)
   ·cases h
  ·rename_i m hx
   split at h
   ·rename_i y es hT hm
    cases h
    obtain ⟨kt, el⟩ := y
    have hp := he.aev x
    rw [hx] at hp
    obtain ⟨cv, w', L', h1, h2, h3, h4⟩ := run_mrange hc hT hm
    refine Good.of (x := Instr.range t (a.eval x)) rfl ⟨cv, w', L', ?_, h2, h3, h4⟩
    rw [hp.mref_inv.1]; exact h1
   ·cases h
  ·cases h
 case makeMap t r =>
  cases r <;> simp only [reduceCtorEq] at h
  cases h
  obtain ⟨cv, w', L', h1, h2, h3, h4⟩ := run_makeMap hc t
  exact Good.of (x := Instr.makeMap t none) rfl ⟨cv, w', L', h1, h2, h3, h4⟩
 case lookup t x i ok =>
  split at h
  ·rename_i m kt el k hx hT hk
   split at h
   ·rename_i es z hm hz
    split at h
    ·rename_i hf
     cases h
     have hp := he.aev x
     rw [hx] at hp
     obtain ⟨cv, h1, h2⟩ := run_lookup hc ok hT hm hz hf.1 hf.2
     refine Good.same (x := Instr.lookup t (a.eval x) (a.eval i) ok) rfl hc ⟨cv, ?_, h2⟩
     rw [hp.mref_inv.1, keyAV_val hk (he.aev i)]; exact h1
    ·cases h
   ·cases h
  ·cases h
 case mapUpdate t m k x =>
  split at h
  ·rename_i i kt el kk hx hT hk
   split at h
   ·rename_i es hm
    split at h
    ·rename_i hf
     cases h
     have hp := he.aev m
     rw [hx] at hp
     obtain ⟨w', h1, h2, h3⟩ := run_mapUpdate hc hT hm (he.aev x) hf.1 hf.2
     refine ⟨.skip, undef, w', L, ?_, .inr ⟨rfl, rfl⟩, h2, .top _, h3⟩
     have : (Instr.mapUpdate t (a.eval m) (a.eval k) (a.eval x)).run P w = .ok () w' := by
      rw [hp.mref_inv.1, keyAV_val hk (he.aev k)]; exact h1
     simp only [execOp, Sem.run_bind, this, Result.andThen_ok]
     rfl
    ·cases h
   ·cases h
  ·cases h
 case entry x =>
  split at h
  ·rename_i i hx
   have hp := he.aev x
   rw [hx] at hp
   obtain ⟨e2, hlt⟩ := hp.ptr_inv
   split at h
   ·rename_i m n seen hi
    split at h
    ·rename_i es j hm hl
     split at h
     ·rename_i hn
      subst hn
      obtain ⟨kv, hkv, e1⟩ := Option.map_eq_some_iff.1 h
      cases e1
      obtain ⟨hj, rfl⟩ := List.getElem?_eq_some_iff.1 hkv
      obtain ⟨s0, rfl⟩ := List.getLast?_eq_some_iff.1 hl
      obtain ⟨cv, h1, h2⟩ := run_mentry hc hi hm hj
      refine Good.same (x := Instr.entry (a.eval x)) rfl hc ⟨cv, ?_, h2⟩
      rw [e2]; exact h1
     ·cases h
    ·cases h
   ·cases h
  ·cases h
 case next x s =>
  cases s <;> simp only [reduceCtorEq] at h
  split at h
  ·rename_i i hx
   have hp := he.aev x
   rw [hx] at hp
   obtain ⟨e2, hlt⟩ := hp.ptr_inv
   split at h
   ·rename_i s pos hi
    have hb : w.heap[L.phi i]? = some (.stringIter ⟨s.toArray⟩ pos) := hc.box i _ hi
    have hsz : (⟨s.toArray⟩ : ByteArray).size = s.length := by simp [ByteArray.size]
    split at h
    ·rename_i hpos
     cases h
     obtain ⟨h1, h2⟩ := hc.setIter (pos' := pos + (Utf8.decode ⟨s.toArray⟩ pos).2) hi
     refine Good.of (x := Instr.next (a.eval x) true type) rfl ⟨.tuple #[.bool true, goInt pos, .int .i32 (Utf8.decode ⟨s.toArray⟩ pos).1], _, L, ?_, h1, ?_, h2⟩
     ·rw [e2]
      simp [Instr.next, getObj, setObj, Sem.run, hb, hsz, hpos]
     ·refine .tup _ _ rfl (fun j hj hj' => ?_)
      match j, hj with
      | 0, _ => exact .bool _
      | 1, _ => exact .int _ _
      | 2, _ => exact .int _ _
    ·rename_i hpos
     cases h
     refine Good.same (x := Instr.next (a.eval x) true type) rfl hc ⟨.tuple #[.bool false], ?_, ?_⟩
     ·rw [e2]
      simp [Instr.next, getObj, Sem.run, hb, hsz, hpos]
     ·refine .tup _ _ rfl (fun j hj hj' => ?_)
      match j, hj with
      | 0, _ => exact .bool _
   ·cases h
  ·cases h
 case call c =>
  obtain ⟨callee, args, ats⟩ := c
  cases callee <;> simp only [reduceCtorEq] at h
  rename_i b
  obtain ⟨ts⟩ := ats
  obtain ⟨args⟩ := args
  have := run_abuiltin (ty := type) (cst := args.toArray.map fun | .const _ => true | _ => false) (B := args.map a.eval) hc h (by simp) (fun j hj hj' => by
   simp only [List.getElem_map]
   exact he.aev _)
  have e1 : execOp a.eval ⟨dst, .call ⟨.builtin b, args.toArray, ts.toArray⟩, type, pos, after, guard⟩ = builtin b ts.toArray type (args.toArray.map fun | .const _ => true | _ => false) (args.map a.eval).toArray := by
   simp [execOp, resolve, invoke]
   rfl
  rw [← e1] at this
  exact this
end
end Go.Am
