/- Regions, calls and whole functions over abstract states.
  Conditions: none; it speaks of every program. -/
import Derived.Test.YtneohapkboaplaaGreatAmOps
set_option linter.unusedVariables false
namespace Go.Am
open Go
def CallPost (L : Lay) (H : List Blk) (T : Toks) (w : World) (Q : AV → List Blk → Toks → Prop) (e : Ending) (w' : World) : Prop :=
 ∃ r H' T' L' cv, Q r H' T' ∧ e = .returned cv ∧ Con L' H' T' w' ∧ Rep L' H'.length T' w' r cv ∧ Ev H.length T.length L H.length T w L' H'.length T' w'
def ACall (P : Program) (f : FuncId) (args : List AV) (H : List Blk) (T : Toks) (Q : AV → List Blk → Toks → Prop) : Prop :=
 (∀ as w, (callFunc f as).run P w = .ok (.enter f as) w) ∧
 ∀ L w (ca : Array Value), Con L H T w → ca.size = args.length → (∀ (j : Nat) (h : j < args.length) (h' : j < ca.size), Rep L H.length T w (args[j]'h) (ca[j]'h')) →
  Calls P f ca w (CallPost L H T w Q)
theorem ACall.mono {P f args H T Q Q'} (h : ACall P f args H T Q) (hq : ∀ r H' T', Q r H' T' → Q' r H' T') : ACall P f args H T Q' :=
 ⟨h.1, fun L w ca hc hl hr => (h.2 L w ca hc hl hr).mono fun _ _ ⟨r, H', T', L', cv, q, k⟩ => ⟨r, H', T', L', cv, hq _ _ _ q, k⟩⟩
def Is (r : AV) (H : List Blk) (T : Toks) : AV → List Blk → Toks → Prop := fun r' H' T' => r' = r ∧ H' = H ∧ T' = T
def prune (nv : Nat) : Env → Env
 | [] => []
 | (s, v) :: r => if s < nv then (s, v) :: prune nv r else prune nv r
theorem eget_prune (nv : Nat) (e : Env) (t : Nat) : eget (prune nv e) t = eget e t ∨ eget (prune nv e) t = .top := by
 by_cases ht : t < nv
 ·left
  induction e with
  | nil => rfl
  | cons x r ih =>
   obtain ⟨s, v⟩ := x
   by_cases hs : s < nv
   ·simp [prune, eget, hs, ih]
   ·have : s ≠ t := by omega
    simp [prune, eget, hs, ih, this]
 ·right
  induction e with
  | nil => rfl
  | cons x r ih =>
   obtain ⟨s, v⟩ := x
   by_cases hs : s < nv
   ·have : s ≠ t := by omega
    simp [prune, eget, hs, ih, this]
   ·simp [prune, hs, ih]
def acallee (o : Oper) (e : Env) : Option (FuncId × List AV) :=
 match o.op with
 | .call { callee := .value f, args, argTypes := _ } => match aev e f with
  | .fn g first caps => some (g, first ++ args.toList.map (aev e) ++ caps)
  | _ => none
 | _ => none
def putK (C : Cx) (dst : Option Tmp) (v : AV) (e : Env) (H : List Blk) (T : Toks) (K : St → Prop) : Prop :=
 match dst with
 | some d => d < C.nt ∧ K ⟨eput e d v, H, T⟩
 | none => K ⟨e, H, T⟩
def ACallAt (C : Cx) (K : St → Prop) (dst : Option Tmp) (g : FuncId) (as : List AV) (s : St) : Prop :=
 ∃ Q, ACall C.P g as s.H s.T Q ∧ ∀ v H' T', Q v H' T' → putK C dst v s.e H' T' K
def RepV (L : Lay) (N : Nat) (T : Toks) (w : World) (vs : List AV) (c : List Value) : Prop :=
 c.length = vs.length ∧ ∀ (j : Nat) (h : j < vs.length) (h' : j < c.length), Rep L N T w (vs[j]'h) (c[j]'h')
theorem RepV.append {L : Lay} {N : Nat} {T : Toks} {w : World} {a b : List AV} {c d : List Value} (h : RepV L N T w a c) (k : RepV L N T w b d) : RepV L N T w (a ++ b) (c ++ d) := by
 refine ⟨by simp [h.1, k.1], fun j hj hj' => ?_⟩
 rw [List.getElem_append, List.getElem_append]
 by_cases hlt : j < a.length
 ·rw [dif_pos hlt, dif_pos (by rw [h.1]; exact hlt)]; exact h.2 _ _ _
 ·rw [dif_neg hlt, dif_neg (by rw [h.1]; exact hlt)]
  have := k.2 (j - a.length) (by simp at hj; omega) (by simp at hj'; rw [h.1] at hj'; omega)
  simpa [h.1] using this
def gval (all : Array Oper) (j : Nat) (e : Env) : Option (Option Bool) :=
 match (all[j]?).bind (·.dst) with
 | some d => match eget e d with
  | .bool b => some (some b)
  | .tup [] => some none
  | _ => none
 | none => none
def anil (P : Program) (o : Oper) (e : Env) : Option (Nat × Bool) :=
 match o.op with
 | .binOp op t x (.const (.slice none _ _)) _ => match P.underlying t, aev e x, op with
  | some (.slice _), .sl n _ _, .eql => some (n, true)
  | some (.slice _), .sl n _ _, .neq => some (n, false)
  | some (.slice _), .msl _ _ n, .eql => some (n, true)
  | some (.slice _), .msl _ _ n, .neq => some (n, false)
  | _, _, _ => none
 | _ => none
theorem run_anil {P : Program} {o : Oper} {e : Env} {a : Act} {n : Nat} {q : Bool} {L : Lay} {N : Nat} {T : Toks} {w : World} (h : anil P o e = some (n, q)) (he : EnvRep L N T w e a) :
  ∃ b : Bool, (0 < n → b = !q) ∧ (execOp a.eval o).run P w = .ok (.value (.bool b)) w := by
 unfold anil at h
 split at h
 ·rename_i op t x l c y ho
  have hx := he.aev x
  have core : ∀ (op : BinOp) (n cap : Nat) (ad : Option Addr) (el : TypeId), P.underlying t = some (.slice el) → a.eval x = .slice ad n cap → (0 < n → ad.isNone = false) → (op = .eql ∨ op = .neq) → o.op = .binOp op t x (.const (.slice none l c)) y → ∃ b : Bool, (0 < n → b = !(op == .eql)) ∧ (execOp a.eval o).run P w = .ok (.value (.bool b)) w := by
   intro op n cap ad el hu hv hnn hop ho
   have hg : (eqGuard op t x (.const (.slice none l c)) (a.eval x) (a.eval (.const (.slice none l c)))).run P w = .ok () w := run_eqGuard_int op t _ _ _ _ (by rw [hv]; exact ⟨fun _ e => (by cases e), fun e => (by cases e)⟩)
   have heq : ∀ d : Nat, (Op.equalIn (d + 1) t (.slice ad n cap) (.slice none l c)).run P w = .ok ad.isNone w := by
    intro d
    cases ad <;> simp only [Op.equalIn, Sem.run_bind, run_underlying hu, Result.andThen_ok] <;> rfl
   have hrun := run_eql (P := P) (w := w) t (.slice ad n cap) (.slice none l c) ad.isNone op hop rfl rfl heq
   refine ⟨if op = .eql then ad.isNone else !ad.isNone, fun hn => ?_, ?_⟩
   ·have := hnn hn
    rcases hop with rfl | rfl <;> simp [this]
   ·rw [hv] at hg
    have he2 : a.eval (.const (.slice none l c)) = .slice none l c := rfl
    rw [he2] at hg
    simp only [execOp, ho, Sem.run_bind, hv, he2, hg, Result.andThen_ok, hrun]
    rfl
  have fin : ∀ (op : BinOp) (n : Nat) (cs : List AV) (tg : Tag) (el : TypeId), P.underlying t = some (.slice el) → aev e x = .sl n cs tg → (op = .eql ∨ op = .neq) → o.op = .binOp op t x (.const (.slice none l c)) y → ∃ b : Bool, (0 < n → b = !(op == .eql)) ∧ (execOp a.eval o).run P w = .ok (.value (.bool b)) w := by
   intro op n cs tg el hu hs hop ho
   rw [hs] at hx
   obtain ⟨ad, cap, hv, _, _, hcs⟩ := hx.sl_inv
   refine core op n cap ad el hu hv (fun hn => ?_) hop ho
   rcases hcs with ⟨_, h0⟩ | ⟨b, base, cv, e1, _⟩
   ·omega
   ·rw [e1]; rfl
  have fin2 : ∀ (op : BinOp) (i p n : Nat) (el : TypeId), P.underlying t = some (.slice el) → aev e x = .msl i p n → (op = .eql ∨ op = .neq) → o.op = .binOp op t x (.const (.slice none l c)) y → ∃ b : Bool, (0 < n → b = !(op == .eql)) ∧ (execOp a.eval o).run P w = .ok (.value (.bool b)) w := by
   intro op i p n el hu hs hop ho
   rw [hs] at hx
   obtain ⟨cap, hv, _, _⟩ := hx.msl_inv
   exact core op n cap _ el hu hv (fun _ => rfl) hop ho
  split at h
  ·rename_i el n' cs tg hu hs
   cases h
   obtain ⟨b, h1, h2⟩ := fin .eql _ _ _ _ hu hs (.inl rfl) ho
   exact ⟨b, fun hn => h1 hn, h2⟩
  ·rename_i el n' cs tg hu hs
   cases h
   obtain ⟨b, h1, h2⟩ := fin .neq _ _ _ _ hu hs (.inr rfl) ho
   exact ⟨b, fun hn => h1 hn, h2⟩
  ·rename_i el i' p' n' hu hs
   cases h
   obtain ⟨b, h1, h2⟩ := fin2 .eql _ _ _ _ hu hs (.inl rfl) ho
   exact ⟨b, fun hn => h1 hn, h2⟩
  ·rename_i el i' p' n' hu hs
   cases h
   obtain ⟨b, h1, h2⟩ := fin2 .neq _ _ _ _ hu hs (.inr rfl) ho
   exact ⟨b, fun hn => h1 hn, h2⟩
  ·cases h
 ·cases h
def abox (P : Program) (bx : List Nat) (o : Oper) (e : Env) (H : List Blk) : Option (Nat × List AV) :=
 match o.op, o.dst with
 | .call { callee := .builtin .append, args, argTypes }, some d =>
  if bx.contains d = true then
   match argTypes.toList, args.toList.map (aev e) with
   | [t, t2], [s, x] => aappBox P H t t2 s x
   | _, _ => none
  else none
 | .buildSlice t n ps, some d => if bx.contains d = true then (abuildBox P t n (ps.toList.map fun (x : Nat × Operand) => (x.1, aev e x.2))).map fun ys => (n, ys) else none
 | _, _ => none
theorem run_abox {P : Program} {bx : List Nat} {o : Oper} {e : Env} {a : Act} {L : Lay} {H : List Blk} {T : Toks} {w : World} {m : Nat} {ys : List AV} (h : abox P bx o e H = some (m, ys)) (hc : Con L H T w) (he : EnvRep L H.length T w e a) :
  ∃ k cv w' L', (execOp a.eval o).run P w = .ok (.value cv) w' ∧ Con L' (H ++ [.cells (ys ++ List.replicate k .top)]) T w' ∧ Rep L' (H ++ [Blk.cells (ys ++ List.replicate k .top)]).length T w' (.msl H.length 0 m) cv ∧
   Ev H.length T.length L H.length T w L' (H ++ [Blk.cells (ys ++ List.replicate k .top)]).length T w' := by
 obtain ⟨dst, op, type, pos, after, guard⟩ := o
 unfold abox at h
 split at h
 ·rename_i args ats d' hop hd
  simp only at hop
  subst hop
  split at h
  ·split at h
   ·rename_i t t2 s x hts hargs
    have hts' : ats = #[t, t2] := by rw [← Array.toList_inj]; exact hts
    subst hts'
    match hal : args.toList, hargs with
    | [p, q], hargs =>
     simp only [List.map_cons, List.map_nil, List.cons.injEq, and_true] at hargs
     obtain ⟨e1, e2⟩ := hargs
     have h0 := he.aev p
     have h1 := he.aev q
     rw [e1] at h0; rw [e2] at h1
     obtain ⟨k, cv, w', L', hrun, g1, g2, g3⟩ := run_appBox (ty := type) hc h h0 h1
     refine ⟨k, cv, w', L', ?_, g1, g2, g3⟩
     have hargs' : args = #[p, q] := by rw [← Array.toList_inj]; exact hal
     subst hargs'
     simp only [execOp, resolve, Sem.run_bind, Sem.run_pure, Result.andThen_ok, invoke, builtin, List.map_toArray, List.map_cons, List.map_nil, hrun]
   ·cases h
  ·cases h
 ·rename_i t n ps d' hop hd
  simp only at hop
  subst hop
  split at h
  ·cases hb : abuildBox P t n (ps.toList.map fun (x : Nat × Operand) => (x.1, aev e x.2)) with
   | none => rw [hb] at h; cases h
   | some ys0 =>
    rw [hb] at h
    cases h
    obtain ⟨g1, g2⟩ := rep_parts he ps
    obtain ⟨cv, w', L', hrun, k1, k2, k3⟩ := run_buildBox hc hb g1 g2
    refine ⟨0, cv, w', L', ?_, by simpa using k1, by simpa using k2, by simpa using k3⟩
    show Sem.run P (do pure (Next.value (← Instr.buildSlice t _ (ps.map fun (x : Nat × Operand) => (x.1, a.eval x.2))))) w = _
    simp only [Sem.run_bind, hrun, Result.andThen_ok, Sem.run_pure]
  ·cases h
 ·cases h
def acap (o : Oper) (e : Env) : Option (TypeId × TypeId × Nat × Nat × Nat × AV) :=
 match o.op with
 | .call { callee := .builtin .append, args, argTypes } =>
  match argTypes.toList, args.toList.map (aev e) with
  | [t, t2], [.csl i n cap, x] => some (t, t2, i, n, cap, x)
  | _, _ => none
 | _ => none
def AppC (C : Cx) (K : St → Prop) (dst : Option Tmp) (t t2 : TypeId) (i n cap : Nat) (x : AV) (e : Env) (H : List Blk) (T : Toks) : Prop :=
 ∃ (el : TypeId) (vs xs : List AV) (m : Nat), C.P.underlying t = some (.slice el) ∧ H[i]? = some (.cells vs) ∧ vs.length = cap * C.P.cellsOf el ∧ asrc H (C.P.cellsOf el) x = some (m, xs) ∧ (n + m) * C.P.bytesOf el ≤ 140737488355328 ∧ n + m ≤ 9223372036854775807 ∧
  notInt C.P t2 = true ∧ (azero C.P el).isSome = true ∧
  (n + m ≤ cap → putK C dst (.csl i (n + m) cap) e (H.set i (.cells (vs.take (n * C.P.cellsOf el) ++ xs ++ vs.drop ((n + m) * C.P.cellsOf el)))) T K) ∧
  ∀ nc, cap < n + m → n + m ≤ nc → putK C dst (.csl H.length (n + m) nc) e (H ++ [.cells (vs.take (n * C.P.cellsOf el) ++ xs ++ List.replicate ((nc - (n + m)) * C.P.cellsOf el) .top)]) T K
def acap0 (P : Program) (bx : List Nat) (o : Oper) (e : Env) (H : List Blk) : Option (Nat × List AV × Nat) :=
 match o.op, o.dst with
 | .call { callee := .builtin .append, args, argTypes }, some d =>
  if bx.contains (d + 100000) = true then
   match argTypes.toList, args.toList.map (aev e) with
   | [t, t2], [s, x] => match P.underlying t, aappBox P H t t2 s x with
    | some (.slice el), some (m, ys) => some (m, ys, P.cellsOf el)
    | _, _ => none
   | _, _ => none
  else none
 | _, _ => none
theorem run_acap0 {P : Program} {bx : List Nat} {o : Oper} {e : Env} {a : Act} {L : Lay} {H : List Blk} {T : Toks} {w : World} {m z : Nat} {ys : List AV} (h : acap0 P bx o e H = some (m, ys, z)) (hc : Con L H T w) (he : EnvRep L H.length T w e a) :
  ∃ nc, m ≤ nc ∧ ∃ cv w' L', (execOp a.eval o).run P w = .ok (.value cv) w' ∧ Con L' (H ++ [.cells (ys ++ List.replicate ((nc - m) * z) .top)]) T w' ∧ Rep L' (H ++ [Blk.cells (ys ++ List.replicate ((nc - m) * z) .top)]).length T w' (.csl H.length m nc) cv ∧
   Ev H.length T.length L H.length T w L' (H ++ [Blk.cells (ys ++ List.replicate ((nc - m) * z) .top)]).length T w' := by
 obtain ⟨dst, op, type, pos, after, guard⟩ := o
 unfold acap0 at h
 split at h
 ·rename_i args ats d' hop hd
  simp only at hop
  subst hop
  split at h
  ·split at h
   ·rename_i t t2 s x hts hargs
    have hts' : ats = #[t, t2] := by rw [← Array.toList_inj]; exact hts
    subst hts'
    split at h
    ·rename_i el m' ys' hu hb
     cases h
     match hal : args.toList, hargs with
     | [p, q], hargs =>
      simp only [List.map_cons, List.map_nil, List.cons.injEq, and_true] at hargs
      obtain ⟨e1, e2⟩ := hargs
      have h0 := he.aev p
      have h1 := he.aev q
      rw [e1] at h0; rw [e2] at h1
      obtain ⟨nc, hnc, cv, w', L', hrun, g1, g2, g3⟩ := run_appBoxC (ty := type) hc hb hu h0 h1
      refine ⟨nc, hnc, cv, w', L', ?_, g1, g2, g3⟩
      have hargs' : args = #[p, q] := by rw [← Array.toList_inj]; exact hal
      subst hargs'
      simp only [execOp, resolve, Sem.run_bind, Sem.run_pure, Result.andThen_ok, invoke, builtin, List.map_toArray, List.map_cons, List.map_nil, hrun]
    ·cases h
   ·cases h
  ·cases h
 ·cases h
def anextM (o : Oper) (e : Env) (H : List Blk) : Option (Nat × Nat × Nat × List Nat × List (MKey × AV)) :=
 match o.op with
 | .next x false => match aev e x with
  | .ptr i 0 => match H[i]? with
   | some (.mit m n seen) => match H[m]? with
    | some (.map es) => some (i, m, n, seen, es)
    | _ => none
   | _ => none
  | _ => none
 | _ => none
def NextC (C : Cx) (K : St → Prop) (dst : Option Tmp) (i m n : Nat) (seen : List Nat) (es : List (MKey × AV)) (e : Env) (H : List Blk) (T : Toks) : Prop :=
 n = es.length ∧ ((∀ j, j < n → j ∈ seen) → putK C dst (.tup [.bool false]) e H T K) ∧
  ∀ (j : Nat) (k : MKey) (v : AV), es[j]? = some (k, v) → j ∉ seen → putK C dst (.tup [.bool true, k.av, v]) e (H.set i (.mit m n (seen ++ [j]))) T K
def aops (C : Cx) (all : Array Oper) (K : St → Prop) : List Oper → St → Prop
 | [], s => K s
 | o :: r, s =>
  let exec : Prop := match acallee o s.e with
   | some (g, as) => ACallAt C (aops C all K r) o.dst g as s
   | none => match anil C.P o s.e with
    | some (n, q) => ∀ b : Bool, (0 < n → b = !q) → putK C o.dst (.bool b) s.e s.H s.T (aops C all K r)
    | none => match abox C.P C.bx o s.e s.H with
     | some (m, ys) => ∀ k : Nat, putK C o.dst (.msl s.H.length 0 m) s.e (s.H ++ [.cells (ys ++ List.replicate k .top)]) s.T (aops C all K r)
     | none => match acap0 C.P C.bx o s.e s.H with
      | some (m, ys, z) => ∀ nc : Nat, m ≤ nc → putK C o.dst (.csl s.H.length m nc) s.e (s.H ++ [.cells (ys ++ List.replicate ((nc - m) * z) .top)]) s.T (aops C all K r)
      | none => match acap o s.e with
       | some (t, t2, i, n, cap, x) => AppC C (aops C all K r) o.dst t t2 i n cap x s.e s.H s.T
       | none => match anextM o s.e s.H with
        | some (i, m, n, seen, es) => NextC C (aops C all K r) o.dst i m n seen es s.e s.H s.T
        | none => match aop C.P o s.e s.H s.T with
         | some (v, H', T') => putK C o.dst v s.e H' T' (aops C all K r)
         | none => False
  match o.guard with
  | none => exec
  | some (j, want) => match gval all j s.e with
   | some b => if b = some want then exec else putK C o.dst (.tup []) s.e s.H s.T (aops C all K r)
   | none => False
theorem yielded_gval {L : Lay} {N : Nat} {T : Toks} {w : World} {e : Env} {a : Act} {all : Array Oper} {j : Nat} {b : Option Bool} (he : EnvRep L N T w e a) (h : gval all j e = some b) : yielded all a.tmps j = b := by
 unfold gval at h
 split at h
 ·rename_i d hd
  split at h
  ·rename_i b' hb
   cases h
   have hr := he d
   rw [hb] at hr
   have := hr.bool_inv
   unfold yielded
   rw [hd]
   have hsome : a.tmps[d]? = some (.bool b') := by
    simp only [Array.getD_eq_getD_getElem?] at this
    cases hx : a.tmps[d]? with
    | none => rw [hx] at this; simp [undef] at this
    | some v => rw [hx] at this; simp at this; rw [this]
   simp [hsome]
  ·rename_i hb
   cases h
   have hr := he d
   rw [hb] at hr
   unfold yielded
   rw [hd]
   generalize hx : a.tmps.getD d undef = x at hr
   cases hr with
   | tup _ cv h1 _ =>
    cases hy : a.tmps[d]? with
    | none => simp [hy]
    | some y =>
     have : y = .tuple cv := by simpa [Array.getD_eq_getD_getElem?, hy] using hx
     subst this
     simp [hy]
  ·cases h
 ·cases h
theorem ConSt.put {C : Cx} {s : St} {L L' : Lay} {w w' : World} {a : Act} {H' : List Blk} {T' : Toks} {v : AV} {cv : Value} {K : St → Prop} {dst : Option Tmp} (hc : ConSt C s L w a) (hn : Con L' H' T' w') (hr : Rep L' H'.length T' w' v cv)
  (ev : Ev s.H.length s.T.length L s.H.length s.T w L' H'.length T' w') (hp : putK C dst v s.e H' T' K) : ∃ s', K s' ∧ s'.H = H' ∧ s'.T = T' ∧ ConSt C s' L' w' (a.put dst cv) := by
 have henv := hc.env.keep ev.keeps
 have hnb := Nat.le_trans hc.nb ev.n
 have htb := Nat.le_trans hc.tb ev.t
 cases dst with
 | none => exact ⟨⟨s.e, H', T'⟩, hp, rfl, rfl, ⟨hnb, htb, hn, hc.size, hc.defers, henv⟩⟩
 | some d =>
  obtain ⟨hd, hk⟩ := hp
  refine ⟨⟨Am.eput s.e d v, H', T'⟩, hk, rfl, rfl, ⟨hnb, htb, hn, by simp [Act.put, hc.size], hc.defers, henv.put (by rw [hc.size]; exact hd) hr⟩⟩
theorem aops_sound {C : Cx} {all : Array Oper} {K : St → Prop} : ∀ (l : List Oper) (s : St), aops C all K l s → ∀ L w a (L0 : Lay) (s0 : St) (w0 : World), ConSt C s L w a → Ev C.nb C.tb L0 s0.H.length s0.T w0 L s.H.length s.T w →
  wpList C.P all (Post C (ExitK K fun _ _ => False) L0 s0 w0) l a w := by
 intro l
 induction l with
 | nil => intro s h L w a L0 s0 w0 hc ev; exact ⟨s, L, h, hc, ev⟩
 | cons o r ih =>
  intro s h L w a L0 s0 w0 hc ev
  have hexec : (match acallee o s.e with
   | some (g, as) => ACallAt C (aops C all K r) o.dst g as s
   | none => match anil C.P o s.e with
    | some (n, q) => ∀ b : Bool, (0 < n → b = !q) → putK C o.dst (.bool b) s.e s.H s.T (aops C all K r)
    | none => match abox C.P C.bx o s.e s.H with
     | some (m, ys) => ∀ k : Nat, putK C o.dst (.msl s.H.length 0 m) s.e (s.H ++ [.cells (ys ++ List.replicate k .top)]) s.T (aops C all K r)
     | none => match acap0 C.P C.bx o s.e s.H with
      | some (m, ys, z) => ∀ nc : Nat, m ≤ nc → putK C o.dst (.csl s.H.length m nc) s.e (s.H ++ [.cells (ys ++ List.replicate ((nc - m) * z) .top)]) s.T (aops C all K r)
      | none => match acap o s.e with
       | some (t, t2, i, n, cap, x) => AppC C (aops C all K r) o.dst t t2 i n cap x s.e s.H s.T
       | none => match anextM o s.e s.H with
        | some (i, m, n, seen, es) => NextC C (aops C all K r) o.dst i m n seen es s.e s.H s.T
        | none => match aop C.P o s.e s.H s.T with
         | some (v, H', T') => putK C o.dst v s.e H' T' (aops C all K r)
         | none => False) → o.wp C.P a w (wpList C.P all (Post C (ExitK K fun _ _ => False) L0 s0 w0) r) (Post C (ExitK K fun _ _ => False) L0 s0 w0) := by
   intro hx
   split at hx
   ·rename_i g as hcal
    obtain ⟨Q, ⟨hcall, hq⟩, hk⟩ := hx
    unfold acallee at hcal
    split at hcal
    ·rename_i f args ats hop
     split at hcal
     ·rename_i g' first caps hf
      cases hcal
      have hfr := hc.env.aev f
      rw [hf] at hfr
      generalize hfv : a.eval f = fv at hfr
      cases hfr with
      | fn _ _ _ fa ca h1 h2 hr1 hr2 =>
       have hrun : (execOp a.eval o).run C.P w = .ok (.enter g (fa ++ args.map a.eval ++ ca)) w := by
        simp only [execOp, hop, resolve, hfv, Deferred.ofValue, Sem.run_bind, Sem.run_pure, Result.andThen_ok, invoke, hcall]
       unfold Oper.wp
       rw [hrun, Oper.upon_enter]
       have hall : RepV L s.H.length s.T w (first ++ args.toList.map (aev s.e) ++ caps) (fa ++ args.map a.eval ++ ca).toList := by
        simp only [Array.toList_append, Array.toList_map]
        refine (RepV.append ⟨by simpa using h1, fun j hj hj' => by simpa using hr1 j hj (by simpa using hj')⟩ ⟨by simp, fun j hj hj' => ?_⟩).append ⟨by simpa using h2, fun j hj hj' => by simpa using hr2 j hj (by simpa using hj')⟩
        simp only [List.getElem_map]; exact hc.env.aev _
       refine (hq L w _ hc.con (by simpa using hall.1) (fun j hj hj' => by
        have h3 := hall.2 j hj (by rw [Array.length_toList]; exact hj')
        rwa [Array.getElem_toList] at h3)).mono ?_
       ·rintro e w' ⟨rr, H', T', L', cv, hQ, rfl, hcon, hrep, hev⟩
        obtain ⟨s', hk', e1, e2, hc'⟩ := hc.put hcon hrep hev (hk _ _ _ hQ)
        exact ih s' hk' L' w' _ L0 s0 w0 hc' (ev.trans (by rw [e1, e2]; exact hev.mono hc.nb hc.tb))
     ·cases hcal
    ·cases hcal
   ·split at hx
    ·rename_i n q hni
     obtain ⟨b, hb, hrun⟩ := run_anil hni hc.env
     obtain ⟨s', hk', e1, e2, hc'⟩ := hc.put (v := .bool b) (cv := .bool b) hc.con (.bool b) (Ev.refl (Nat.le_refl _) (Nat.le_refl _)) (hx b hb)
     unfold Oper.wp
     rw [hrun]
     exact ih s' hk' L w _ L0 s0 w0 hc' (by rw [e1, e2]; exact ev)
    split at hx
    ·rename_i m ys hbo
     obtain ⟨k, cv, w', L', hrun, hcon, hrep, hev⟩ := run_abox hbo hc.con hc.env
     obtain ⟨s', hk', e1, e2, hc'⟩ := hc.put hcon hrep hev (hx k)
     unfold Oper.wp
     rw [hrun]
     exact ih s' hk' L' w' _ L0 s0 w0 hc' (ev.trans (by rw [e1, e2]; exact hev.mono hc.nb hc.tb))
    split at hx
    ·rename_i m ys z hbo
     obtain ⟨nc, hnc, cv, w', L', hrun, hcon, hrep, hev⟩ := run_acap0 hbo hc.con hc.env
     obtain ⟨s', hk', e1, e2, hc'⟩ := hc.put hcon hrep hev (hx nc hnc)
     unfold Oper.wp
     rw [hrun]
     exact ih s' hk' L' w' _ L0 s0 w0 hc' (ev.trans (by rw [e1, e2]; exact hev.mono hc.nb hc.tb))
    split at hx
    ·rename_i t t2 i n cap x hac
     obtain ⟨el, vs, xs, m, hu, hH, hvs, hsrc, hby, hmax, hni, hzs, hk1, hk2⟩ := hx
     unfold acap at hac
     split at hac
     ·rename_i args ats hop
      split at hac
      ·rename_i t' t2' i' n' cap' x' hts hargs
       cases hac
       have hts' : ats = #[t, t2] := by rw [← Array.toList_inj]; exact hts
       subst hts'
       have hl2 : args.toList.length = 2 := by have := congrArg List.length hargs; simpa using this
       match hal : args.toList, hl2, hargs with
       | [p, q], _, hargs =>
        simp only [List.map_cons, List.map_nil, List.cons.injEq, and_true] at hargs
        obtain ⟨e1, e2⟩ := hargs
        have h0 := hc.env.aev p
        have h1 := hc.env.aev q
        rw [e1] at h0; rw [e2] at h1
        have hargs' : args = #[p, q] := by rw [← Array.toList_inj]; exact hal
        subst hargs'
        have hex : ∀ cv w', (Builtin.append_ #[t, t2] o.type #[a.eval p, a.eval q]).run C.P w = .ok cv w' → (execOp a.eval o).run C.P w = .ok (.value cv) w' := fun cv w' hr => by
         simp only [execOp, hop, resolve, Sem.run_bind, Sem.run_pure, Result.andThen_ok, invoke, builtin, List.map_toArray, List.map_cons, List.map_nil, hr]
        rcases run_appC (ty := o.type) hc.con h0 h1 hu hH hvs hsrc hby hmax hni hzs with ⟨hle, cv, w', L', hrun, hcon, hrep, hev⟩ | ⟨hlt, nc, hnc, cv, w', L', hrun, hcon, hrep, hev⟩
        ·obtain ⟨s', hk', e1, e2, hc'⟩ := hc.put hcon hrep hev (hk1 hle)
         unfold Oper.wp
         rw [hex _ _ hrun]
         exact ih s' hk' L' w' _ L0 s0 w0 hc' (ev.trans (by rw [e1, e2]; exact hev.mono hc.nb hc.tb))
        ·obtain ⟨s', hk', e1, e2, hc'⟩ := hc.put hcon hrep hev (hk2 nc hlt hnc)
         unfold Oper.wp
         rw [hex _ _ hrun]
         exact ih s' hk' L' w' _ L0 s0 w0 hc' (ev.trans (by rw [e1, e2]; exact hev.mono hc.nb hc.tb))
      ·cases hac
     ·cases hac
    split at hx
    ·rename_i i m n seen es hnx
     obtain ⟨rfl, hk1, hk2⟩ := hx
     unfold anextM at hnx
     split at hnx
     ·rename_i x hop
      split at hnx
      ·rename_i i' hxx
       split at hnx
       ·rename_i m' n' seen' hi
        split at hnx
        ·rename_i es' hm
         cases hnx
         have hp := hc.env.aev x
         rw [hxx] at hp
         obtain ⟨e2, hlt⟩ := hp.ptr_inv
         have hex : ∀ cv w', (Instr.next (.pointer (some ⟨L.phi i, 0, none⟩)) false o.type).run C.P w = .ok cv w' → (execOp a.eval o).run C.P w = .ok (.value cv) w' := fun cv w' hr => by
          simp only [execOp, hop, Sem.run_bind, e2, hr, Result.andThen_ok]
          rfl
         rcases run_mnext hc.con o.type hi hm with ⟨hall, hrun⟩ | ⟨j, hj, cv, w', hns, hrun, hcon, hrep, hev⟩
         ·obtain ⟨s', hk', e1, e2, hc'⟩ := hc.put (v := .tup [.bool false]) (cv := .tuple #[.bool false]) hc.con (.tup _ _ rfl (fun j hj hj' => by match j, hj with | 0, _ => exact .bool _)) (Ev.refl (Nat.le_refl _) (Nat.le_refl _)) (hk1 hall)
          unfold Oper.wp
          rw [hex _ _ hrun]
          exact ih s' hk' L w _ L0 s0 w0 hc' (by rw [e1, e2]; exact ev)
         ·obtain ⟨s', hk', e1, e2, hc'⟩ := hc.put hcon hrep hev (hk2 j _ _ (List.getElem?_eq_getElem hj) hns)
          unfold Oper.wp
          rw [hex _ _ hrun]
          exact ih s' hk' L w' _ L0 s0 w0 hc' (ev.trans (by rw [e1, e2]; exact hev.mono hc.nb hc.tb))
        ·cases hnx
       ·cases hnx
      ·cases hnx
     ·cases hnx
    split at hx
    ·rename_i v H' T' hop
     obtain ⟨n, cv, w', L', hrun, hn, hcon, hrep, hev⟩ := aop_sound hc.con hc.env hop
     obtain ⟨s', hk', e1, e2, hc'⟩ := hc.put hcon hrep hev hx
     unfold Oper.wp
     rw [hrun]
     have fin := ih s' hk' L' w' _ L0 s0 w0 hc' (ev.trans (by rw [e1, e2]; exact hev.mono hc.nb hc.tb))
     rcases hn with rfl | ⟨rfl, rfl⟩
     ·exact fin
     ·exact fin
    ·exact hx.elim
  unfold wpList
  unfold aops at h
  dsimp only at h
  split at h
  ·rename_i hg
   rw [if_pos (by simp [Region.wanted, hg])]
   exact .inl (hexec h)
  ·rename_i j want hg
   split at h
   ·rename_i b hb
    have hy := yielded_gval hc.env hb
    split at h
    ·rename_i hbw
     rw [if_pos (by simp [Region.wanted, hg, hy, hbw])]
     exact .inl (hexec h)
    ·rename_i hbw
     rw [if_neg (by simp [Region.wanted, hg, hy, hbw])]
     obtain ⟨s', hk', e1, e2, hc'⟩ := hc.put (v := .tup []) (cv := undef) hc.con (.tup [] #[] rfl (fun j hj => by simp at hj)) (Ev.refl (Nat.le_refl _) (Nat.le_refl _)) h
     exact ih s' hk' L w _ L0 s0 w0 hc' (by rw [e1, e2]; exact ev)
   ·exact h.elim
theorem aw_region {C : Cx} {id : Nat} {ops : List Oper} {K : St → Prop} {Q : Exit → St → Prop} {s : St} (h : aops C ops.toArray K ops ⟨prune C.nv s.e, s.H, s.T⟩) : AW C (.region id ops.toArray false) (ExitK K Q) s := by
  intro L w a hc
  have hc' : ConSt C ⟨prune C.nv s.e, s.H, s.T⟩ L w a := ⟨hc.nb, hc.tb, hc.con, hc.size, hc.defers, fun t => by
    rcases eget_prune C.nv s.e t with e | e <;> rw [e]
    · exact hc.env t
    · exact .top _⟩
  refine wp_region_lit ?_
  have := aops_sound ops _ h L w a L s w hc' (Ev.refl hc.nb hc.tb)
  have key : ∀ (l : List Oper) (a : Act) (w' : World), wpList C.P ops.toArray (Post C (ExitK K fun _ _ => False) L s w) l a w' → wpList C.P ops.toArray (Post C (ExitK K Q) L s w) l a w' := by
    intro l
    have hpost : ∀ e a w', Post C (ExitK K fun _ _ => False) L s w e a w' → Post C (ExitK K Q) L s w e a w' := by
      rintro e a w' ⟨s', L', q, r⟩
      refine ⟨s', L', ?_, r⟩
      cases e <;> first | exact q | exact q.elim
    induction l with
    | nil => intro a w' h; exact hpost _ _ _ h
    | cons o r ih =>
      intro a w' h
      unfold wpList at h ⊢
      split
      · rename_i hw
        rw [if_pos hw] at h
        rcases h with h | ⟨h1, h2⟩
        · refine .inl ?_
          unfold Oper.wp at h ⊢
          generalize (execOp a.eval o).run C.P w' = rr at h ⊢
          cases rr with
          | ok n w'' =>
            cases n <;> simp only [Oper.upon] at h ⊢ <;> first
              | exact ih _ _ h
              | exact h
              | (refine h.mono ?_
                 intro e w3 he
                 cases e with
                 | returned v => exact ih _ _ he
                 | panicked ch => exact hpost _ _ _ he
                 | outgrown => obtain ⟨a0, w0, h0⟩ := he; exact ⟨a0, w0, hpost _ _ _ h0⟩)
              | exact h.mono fun v w3 he => ih _ _ he
          | halt hh w'' => cases hh <;> simp only [Oper.upon] at h ⊢ <;> first | exact hpost _ _ _ h | exact h
        · obtain ⟨a0, w0, h0⟩ := h2
          exact .inr ⟨h1, a0, w0, hpost _ _ _ h0⟩
      · rename_i hw
        rw [if_neg hw] at h
        exact ih _ _ h
  exact key _ _ _ this
theorem aw_cond {C : Cx} {c : Operand} {x y : Code} {Q : Exit → St → Prop} {s : St} {t : Bool} (hc : aev s.e c = .bool t) (h : if t = true then AW C x Q s else AW C y Q s) : AW C (.cond c x y) Q s := by
 intro L w a hs
 have hr := hs.env.aev c
 rw [hc] at hr
 refine wp_cond hr.bool_inv ?_
 cases t
 ·exact h L w a hs
 ·exact h L w a hs
def ares1 (P : Program) (s : St) : ResultVar → Option AV
 | .tmp t => some (eget s.e t)
 | .cell t ty => match arow s.H (eget s.e t) with
  | some (vs, o) => aload P ty vs o
  | none => none
def aresL (P : Program) (s : St) : List ResultVar → Option (List AV)
 | [] => some []
 | x :: r => match ares1 P s x, aresL P s r with
  | some v, some vs => some (v :: vs)
  | _, _ => none
def ares (P : Program) (rs : List ResultVar) (s : St) : Option AV :=
 match aresL P s rs with
 | some [v] => some v
 | some vs => some (.tup vs)
 | none => none
def RetQ (P : Program) (rs : List ResultVar) (Q : AV → List Blk → Toks → Prop) : Exit → St → Prop
 | .ret, s | .normal, s => match ares P rs s with
  | some v => Q v s.H s.T
  | none => False
 | _, _ => False
def resOne (tmps : Array Value) : ResultVar → Sem Value
 | .tmp t => pure (tmps.getD t undef)
 | .cell t ty => do loadVar ty (← asAddr (tmps.getD t undef))
theorem results_eq (fn : Func) (tmps : Array Value) : results fn tmps = (do let vs ← fn.results.mapM (resOne tmps); pure (if h : vs.size = 1 then vs[0] else .tuple vs)) := rfl
theorem ares_sound {C : Cx} {s : St} {L : Lay} {w : World} {a : Act} {fn : Func} {v : AV} (hc : ConSt C s L w a) (h : ares C.P fn.results.toList s = some v) : ∃ cv, (results fn a.tmps).run C.P w = .ok cv w ∧ Rep L s.H.length s.T w v cv := by
 have one : ∀ x v, ares1 C.P s x = some v → ∃ cv, (resOne a.tmps x).run C.P w = .ok cv w ∧ Rep L s.H.length s.T w v cv := by
  intro x v hx
  cases x with
  | tmp t => cases hx; exact ⟨_, rfl, hc.env t⟩
  | cell t ty =>
   simp only [ares1] at hx
   split at hx
   ·rename_i vs o hrow
    obtain ⟨b, base, cv, e2, hr, hcell⟩ := arow_reads hc.con (hc.env t) hrow
    obtain ⟨c, h1, h2⟩ := run_loadVar (P := C.P) hr hcell hx
    refine ⟨c, ?_, h2⟩
    simp only [resOne, e2, asAddr, Sem.run_bind, Sem.run_pure, Result.andThen_ok]
    exact h1
   ·cases hx
 have many : ∀ l vs, aresL C.P s l = some vs → ∃ cs : List Value, (l.mapM (resOne a.tmps)).run C.P w = .ok cs w ∧ cs.length = vs.length ∧ ∀ (j : Nat) (h : j < vs.length) (h' : j < cs.length), Rep L s.H.length s.T w (vs[j]'h) (cs[j]'h') := by
  intro l
  induction l with
  | nil => intro vs hv; cases hv; exact ⟨[], rfl, rfl, fun j hj => by simp at hj⟩
  | cons x r ih =>
   intro vs hv
   simp only [aresL] at hv
   split at hv
   ·rename_i v' vs' e1 e2
    cases hv
    obtain ⟨cv, h1, h2⟩ := one x v' e1
    obtain ⟨cs, h3, h4, h5⟩ := ih vs' e2
    refine ⟨cv :: cs, ?_, by simp [h4], fun j hj hj' => ?_⟩
    ·simp only [List.mapM_cons, Sem.run_bind, h1, Result.andThen_ok, h3, Sem.run_pure]
    ·cases j with
     | zero => exact h2
     | succ j => exact h5 j (by simpa using hj) (by simpa using hj')
   ·cases hv
 unfold ares at h
 cases hl : aresL C.P s fn.results.toList with
 | none => rw [hl] at h; cases h
 | some vs =>
  rw [hl] at h
  obtain ⟨cs, h1, h2, h3⟩ := many _ _ hl
  have hrun : (results fn a.tmps).run C.P w = .ok (if h : cs.toArray.size = 1 then cs.toArray[0] else .tuple cs.toArray) w := by
   rw [results_eq, Array.mapM_eq_mapM_toList]
   simp only [Sem.run_bind, Sem.run_map, h1, Result.andThen_ok]
   rfl
  refine ⟨_, hrun, ?_⟩
  match vs, cs, h2, h3, h with
  | [v'], [c], _, h3, h => cases h; exact h3 0 (by simp) (by simp)
  | [], [], _, h3, h => cases h; exact .tup _ _ rfl (fun j hj => by simp at hj)
  | v1 :: v2 :: vr, c1 :: c2 :: cr, h2, h3, h =>
   cases h
   rw [dif_neg (by simp)]
   exact .tup _ _ (by simpa using h2) (fun j hj hj' => by simpa using h3 j hj (by simpa using hj'))
def envOf : Nat → List AV → Env
 | _, [] => []
 | k, v :: r => (k, v) :: envOf (k + 1) r
theorem eget_envOf : ∀ (l : List AV) (k t : Nat), eget (envOf k l) t = if h : k ≤ t ∧ t - k < l.length then l[t - k]'h.2 else .top := by
 intro l
 induction l with
 | nil => intro k t; simp [envOf, eget]
 | cons v r ih =>
  intro k t
  simp only [envOf, eget]
  by_cases hkt : k = t
  ·subst hkt; simp
  ·rw [if_neg hkt, ih]
   by_cases h : k + 1 ≤ t ∧ t - (k + 1) < r.length
   ·rw [dif_pos h, dif_pos (by simp; omega)]
    have : t - k = (t - (k + 1)) + 1 := by omega
    simp [this]
   ·rw [dif_neg h, dif_neg (by simp; omega)]
def HOk (H : List Blk) (T : Toks) : Prop := ∀ (i : Nat) (b : Blk), H[i]? = some b → ∀ v ∈ b.vals, Below H.length T.length v
theorem Rep.toBelow {L : Lay} {N : Nat} {T : Toks} {w : World} {v : AV} {c : Value} (h : Rep L N T w v c) : Below N T.length v := by
 have mem : ∀ {P : AV → Prop} {cs : List AV}, (∀ (j : Nat) (h : j < cs.length), P (cs[j]'h)) → ∀ c ∈ cs, P c := by
  intro P cs hp c hc
  obtain ⟨j, hj, e⟩ := List.mem_iff_getElem.1 hc
  rw [← e]; exact hp j hj
 have tag : ∀ {tg : Tag} {n u : Nat} {a : Option Addr} {cap : Nat}, tagOk L T tg n u a cap → ∀ x, tg = .own x → x < T.length := by
  intro tg n u a cap ht x e
  subst e
  obtain ⟨u0, z, h0, _⟩ := ht
  exact (List.getElem?_eq_some_iff.1 h0).1
 induction h with
 | top v => exact .top
 | bool b => exact .bool b
 | int k x => exact .int k x
 | str s => exact .str s
 | nilp => exact .nilp
 | ptr i o h => exact .ptr i o h
 | vptr cs o b base f hm hc h1 hr ih => exact .vptr cs o (mem ih)
 | sl0 tg a cap ht => exact .sl 0 [] tg (fun _ h => by simp at h) (tag ht)
 | sl1 m cs tg b base cap f hcap hm hc h1 hr ht ih => exact .sl m cs tg (mem ih) (tag ht)
 | msl i o m cap h hcap => exact .msl i o m h
 | csl i m cap h hcap => exact .csl i m cap h
 | mref i h => exact .mref i h
 | fn f first caps fv cv h1 h2 hr1 hr2 ih1 ih2 => exact .fn f first caps (mem fun j hj => ih1 j hj (by omega)) (mem fun j hj => ih2 j hj (by omega))
 | nilf => exact .nilf
 | nili => exact .nili
 | ifc t v => exact .ifc
 | agg cs cv h1 h2 hr ih => exact .agg cs (mem fun j hj => ih j hj (by omega))
 | tup cs cv h1 hr ih => exact .tup cs (mem fun j hj => ih j hj (by omega))
theorem Con.hok {L : Lay} {H : List Blk} {T : Toks} {w : World} (h : Con L H T w) : HOk H T := by
 intro i b hi v hv
 have hb := h.box i _ hi
 cases b with
 | cells vs =>
  obtain ⟨c, t, fr, _, _, h3, _, h4, _⟩ := hb
  obtain ⟨j, hj, e⟩ := List.mem_iff_getElem.1 (show v ∈ vs from hv)
  rw [← e]; exact (h4 j hj (by omega)).toBelow
 | iter s pos => simp at hv
 | map es =>
  obtain ⟨ents, _, h2, h3, _⟩ := hb
  obtain ⟨x, hx, e⟩ := List.mem_map.1 hv
  obtain ⟨j, hj, e2⟩ := List.mem_iff_getElem.1 hx
  rw [← e, ← e2]; exact (h3 j hj (by omega)).2.2.toBelow
 | mit m n seen => simp at hv
 | glob g p => simp at hv
theorem acall_enter {P : Program} {f : FuncId} {fn : Func} {c : Code} {args : List AV} {H : List Blk} {T : Toks} {Q : AV → List Blk → Toks → Prop} (nv : Nat) (bx : List Nat) {nt : Nat} (hnt : fn.ntmps = nt) (hf : P.funcs[f]? = some fn) (hb : fn.body = some c)
  (hcall : ∀ as w, (callFunc f as).run P w = .ok (.enter f as) w) (hn : args.length ≤ nt) (h : HOk H T → AW ⟨P, nt, nv, H.length, T.length, bx⟩ c (RetQ P fn.results.toList Q) ⟨envOf 0 args, H, T⟩) : ACall P f args H T Q := by
 subst hnt
 refine ⟨hcall, fun L w ca hc hl hr => calls_of_wp hf hb ?_⟩
 have hst : ConSt ⟨P, fn.ntmps, nv, H.length, T.length, bx⟩ ⟨envOf 0 args, H, T⟩ L w { tmps := ca ++ Array.replicate (fn.ntmps - ca.size) undef, defers := [] } := by
  refine ⟨Nat.le_refl _, Nat.le_refl _, hc, by simp; omega, rfl, fun t => ?_⟩
  rw [eget_envOf]
  by_cases ht : 0 ≤ t ∧ t - 0 < args.length
  ·rw [dif_pos ht]
   have h2 : t < ca.size := by omega
   have e : (ca ++ Array.replicate (fn.ntmps - ca.size) undef).getD t undef = ca[t] := by
    rw [Array.getD_eq_getD_getElem?, Array.getElem?_append_left h2, Array.getElem?_eq_getElem h2]; rfl
   rw [e]
   exact hr t (by omega) h2
  ·rw [dif_neg ht]; exact .top _
 refine wp_mono (h hc.hok L w _ hst) ?_
 rintro e a' w' ⟨s', L', q, hcs, hev⟩
 cases e <;> simp only [RetQ] at q
 case normal =>
  split at q
  ·rename_i v hv
   obtain ⟨cv, h1, h2⟩ := ares_sound (C := ⟨P, fn.ntmps, nv, H.length, T.length, bx⟩) hcs hv
   exact ⟨hcs.defers, cv, h1, v, s'.H, s'.T, L', cv, q, rfl, hcs.con, h2, hev⟩
  ·exact q.elim
 case ret =>
  split at q
  ·rename_i v hv
   obtain ⟨cv, h1, h2⟩ := ares_sound (C := ⟨P, fn.ntmps, nv, H.length, T.length, bx⟩) hcs hv
   exact ⟨hcs.defers, cv, h1, v, s'.H, s'.T, L', cv, q, rfl, hcs.con, h2, hev⟩
  ·exact q.elim
end Go.Am
