/- Regions that draw their order, over abstract states: the walk goes in the order of the text; what other orders may do is asked beside it.
  Conditions: none; it speaks of every program. -/
import Derived.Test.YtneohapkboaplaaGreatAmTac
set_option linter.unusedVariables false
namespace Go.Am
open Go
section
variable {P : Program}
theorem acallee_congr {o : Oper} {e e' : Env} (h : ∀ x ∈ o.op.operands, aev e x = aev e' x) : acallee o e = acallee o e' := by
 unfold acallee
 cases ho : o.op <;> try rfl
 rename_i c
 rw [ho] at h
 obtain ⟨callee, args, ats⟩ := c
 cases callee <;> try rfl
 rename_i f
 have h1 := h f (by simp [Op.operands, Call.operands])
 have h2 : args.toList.map (aev e) = args.toList.map (aev e') := List.map_congr_left fun x hx => h x (by simp only [Op.operands, Call.operands]; exact Array.mem_append.2 (.inr (Array.mem_toList_iff.1 hx)))
 simp only [h1, h2]
theorem aop_congr {o : Oper} {e e' : Env} (H : List Blk) (T : Toks) (h : ∀ x ∈ o.op.operands, aev e x = aev e' x) : aop P o e H T = aop P o e' H T := by
 have hps : ∀ (ps : Array (Nat × Operand)), (∀ x ∈ (ps.toList.map (·.2)).toArray, aev e x = aev e' x) → ps.toList.map (fun (x : Nat × Operand) => (x.1, aev e x.2)) = ps.toList.map (fun (x : Nat × Operand) => (x.1, aev e' x.2)) := by
  intro ps hp
  refine List.map_congr_left fun x hx => ?_
  rw [hp x.2 (by simp; exact ⟨x.1, Array.mem_toList_iff.1 hx⟩)]
 have hopt : ∀ (q : Option Operand), (∀ x ∈ q.toArray, aev e x = aev e' x) → q.map (aev e) = q.map (aev e') := by
  intro q hq
  cases q with
  | none => rfl
  | some x => simp only [Option.map_some]; rw [hq x (by simp)]
 unfold aop
 cases ho : o.op <;> rw [ho] at h <;> (try simp only [Op.operands] at h) <;> try rfl
 case next x s =>
  have h0 := h x (by simp)
  cases s
  ·rfl
  ·simp only [h0]
 case makeMap t r => cases r <;> rfl
 case build t ps => simp only [hps ps h]
 case buildSlice t n ps => simp only [hps ps h]
 case makeFunc fn first caps =>
  cases fn <;> try rfl
  have h1 : first.toList.map (aev e) = first.toList.map (aev e') := List.map_congr_left fun x hx => h x (Array.mem_append.2 (.inl (Array.mem_toList_iff.1 hx)))
  have h2 : caps.toList.map (aev e) = caps.toList.map (aev e') := List.map_congr_left fun x hx => h x (Array.mem_append.2 (.inr (Array.mem_toList_iff.1 hx)))
  simp only [h1, h2]
 case slice t x lo hi mx =>
  have h1 := hopt lo (fun y hy => h y (by simp only [Array.mem_append]; exact .inl (.inl (.inr hy))))
  have h2 := hopt hi (fun y hy => h y (by simp only [Array.mem_append]; exact .inl (.inr hy)))
  have h3 := hopt mx (fun y hy => h y (by simp only [Array.mem_append]; exact .inr hy))
  have h0 := h x (by simp)
  simp only [h0, h1, h2, h3]
 case call c =>
  obtain ⟨callee, args, ats⟩ := c
  cases callee <;> try rfl
  have h2 : args.toList.map (aev e) = args.toList.map (aev e') := List.map_congr_left fun x hx => h x (by simp only [Call.operands]; exact Array.mem_append.2 (.inr (Array.mem_toList_iff.1 hx)))
  simp only [h2]
 all_goals (simp only [List.mem_toArray, List.mem_cons, List.not_mem_nil, or_false, forall_eq_or_imp, forall_eq] at h)
 all_goals first
  | simp only [h]
  | (obtain ⟨h1, h2⟩ := h; simp only [h1, h2])
  | (obtain ⟨h1, h2, h3⟩ := h; simp only [h1, h2, h3])
def aexec (P : Program) (o : Oper) (e : Env) (H : List Blk) (T : Toks) (v : AV) (H' : List Blk) (T' : Toks) : Prop :=
 match acallee o e with
 | some (g, as) => ACall P g as H T (Is v H' T')
 | none => aop P o e H T = some (v, H', T')
theorem aexec_congr {o : Oper} {e e' : Env} {H H' : List Blk} {T T' : Toks} {v : AV} (h : ∀ x ∈ o.op.operands, aev e x = aev e' x) (k : aexec P o e H T v H' T') : aexec P o e' H T v H' T' := by
 unfold aexec at k ⊢
 rw [← acallee_congr h, ← aop_congr H T h]
 exact k
theorem aexec_wp {o : Oper} {e : Env} {H H' : List Blk} {T T' : Toks} {v : AV} (k : aexec P o e H T v H' T') {L : Lay} {w : World} {a : Act} (hc : Con L H T w) (he : EnvRep L H.length T w e a) {K : Act → World → Prop} {Q : Exit → Act → World → Prop}
  (hk : ∀ cv w' L', Con L' H' T' w' → Rep L' H'.length T' w' v cv → Ev H.length T.length L H.length T w L' H'.length T' w' → K (a.put o.dst cv) w') : o.wp P a w K Q := by
 unfold aexec at k
 split at k
 ·rename_i g as hcal
  obtain ⟨hcall, hq⟩ := k
  unfold acallee at hcal
  split at hcal
  ·rename_i f args ats hop
   split at hcal
   ·rename_i g' first caps hf
    cases hcal
    have hfr := he.aev f
    rw [hf] at hfr
    generalize hfv : a.eval f = fv at hfr
    cases hfr with
    | fn _ _ _ fa ca h1 h2 hr1 hr2 =>
     have hrun : (execOp a.eval o).run P w = .ok (.enter g (fa ++ args.map a.eval ++ ca)) w := by
      simp only [execOp, hop, resolve, hfv, Deferred.ofValue, Sem.run_bind, Sem.run_pure, Result.andThen_ok, invoke, hcall]
     unfold Oper.wp
     rw [hrun, Oper.upon_enter]
     have hall : RepV L H.length T w (first ++ args.toList.map (aev e) ++ caps) (fa ++ args.map a.eval ++ ca).toList := by
      simp only [Array.toList_append, Array.toList_map]
      refine (RepV.append ⟨by simpa using h1, fun j hj hj' => by simpa using hr1 j hj (by simpa using hj')⟩ ⟨by simp, fun j hj hj' => ?_⟩).append ⟨by simpa using h2, fun j hj hj' => by simpa using hr2 j hj (by simpa using hj')⟩
      simp only [List.getElem_map]; exact he.aev _
     refine (hq L w _ hc (by simpa using hall.1) (fun j hj hj' => by
      have h3 := hall.2 j hj (by rw [Array.length_toList]; exact hj')
      rwa [Array.getElem_toList] at h3)).mono ?_
     rintro en w' ⟨rr, H2, T2, L', cv, ⟨e1, e2, e3⟩, rfl, hcon, hrep, hev⟩
     subst e1; subst e2; subst e3
     exact hk cv w' L' hcon hrep hev
   ·cases hcal
  ·cases hcal
 ·obtain ⟨n, cv, w', L', hrun, hn, hcon, hrep, hev⟩ := aop_sound hc he k
  unfold Oper.wp
  rw [hrun]
  have fin := hk cv w' L' hcon hrep hev
  rcases hn with rfl | ⟨rfl, rfl⟩
  ·exact fin
  ·exact fin
end
structure DRec where
 o : Oper
 e : Env
 run : Bool
 v : AV
 k : Nat
 eff : Bool
abbrev Stg := List Blk × Toks × Nat
def ancs : List Oper → List Nat → List Nat
 | [], acc => acc
 | o :: r, acc => ancs r (acc ++ [o.after.foldl (fun s e => if Region.binds .any e then s ||| 2 ^ e.on ||| acc.getD e.on 0 else s) 0])
def anc (A : List Nat) (j i : Nat) : Bool := (A.getD i 0).testBit j
def effIn (A : List Nat) (eff : List Nat) (i : Nat) : Nat := (eff.filter fun e => anc A e i).length
def drawCk (ops : List Oper) (eff : List Nat) (lo : List Nat) (na : List (List Nat)) : Bool :=
 let A := ancs ops []
 let n := ops.length
 ((List.range n).all fun i => (List.range n).all fun j => i == j || (match (ops.getD i default).dst, (ops.getD j default).dst with | some d, some d' => d != d' | _, _ => true)) &&
 ((List.range n).all fun i => ((ops.getD i default).looksAt ops.toArray).all fun t => (List.range n).all fun j => i == j || (ops.getD j default).dst != some t || (j < i && anc A j i) || (i < j && anc A i j)) &&
 ((List.range n).all fun i => ((ops.getD i default).looksAt ops.toArray).all fun t => (ops.getD i default).dst != some t) &&
 ((List.range eff.length).all fun k => k == 0 || anc A (eff.getD (k - 1) 0) (eff.getD k 0)) && (eff.all fun e => e < n) && (List.range eff.length).all (fun k => k == 0 || eff.getD (k - 1) 0 < eff.getD k 0) &&
 ((List.range n).all fun i => lo.getD i 0 ≤ effIn A eff i) &&
 ((List.range eff.length).all fun k => (List.range (eff.getD k 0)).all fun j => eff.contains j || (na.getD k []).contains j || anc A j (eff.getD k 0)) &&
 ((List.range n).all fun i => (ops.getD i default).after.all fun e => !Region.binds .any e || e.on < i) && Region.noSelect ops.toArray
def exAt (P : Program) (o : Oper) (e : Env) (v : AV) : List Stg → Prop
 | [] => True
 | (H, T, _) :: r => aexec P o e H T v H T ∧ exAt P o e v r
def naOb (P : Program) (recs : List DRec) (H : List Blk) (T : Toks) : List Nat → Prop
 | [] => True
 | j :: r => (match recs[j]? with
  | some x => x.run = true → x.eff = false → aexec P x.o x.e H T x.v H T
  | none => True) ∧ naOb P recs H T r
def putE (nt : Nat) (dst : Option Tmp) (v : AV) (e : Env) (k : Env → Prop) : Prop :=
 match dst with
 | some d => d < nt ∧ k (eput e d v)
 | none => k e
structure DCx where
 C : Cx
 all : Array Oper
 eff : List Nat
 lo : List Nat
 na : List (List Nat)
 K : St → Prop
def dgo (D : DCx) (next : List DRec → List Stg → Env → Prop) (o : Oper) (recs : List DRec) (sts : List Stg) (e : Env) (run : Bool) (v : AV) (H' : List Blk) (T' : Toks) : Prop :=
 if D.eff.contains recs.length then
  naOb D.C.P recs H' T' (D.na.getD (sts.length - 1) []) ∧ putE D.C.nt o.dst v e (next (recs ++ [⟨o, e, run, v, sts.length - 1, true⟩]) (sts ++ [(H', T', recs.length)]))
 else
  (run = true → exAt D.C.P o e v ((sts.drop (D.lo.getD recs.length 0)).dropLast)) ∧ putE D.C.nt o.dst v e (next (recs ++ [⟨o, e, run, v, sts.length - 1, false⟩]) sts)
def dcall (D : DCx) (next : List DRec → List Stg → Env → Prop) (o : Oper) (recs : List DRec) (sts : List Stg) (e : Env) (g : FuncId) (as : List AV) (H : List Blk) (T : Toks) : Prop :=
 ∃ v H' T', ACall D.C.P g as H T (Is v H' T') ∧ (D.eff.contains recs.length = false → H' = H ∧ T' = T) ∧ dgo D next o recs sts e true v H' T'
def dexec (D : DCx) (next : List DRec → List Stg → Env → Prop) (o : Oper) (recs : List DRec) (sts : List Stg) (e : Env) (H : List Blk) (T : Toks) : Prop :=
 match acallee o e with
 | some (g, as) => dcall D next o recs sts e g as H T
 | none => match aop D.C.P o e H T with
  | some (v, H', T') => (D.eff.contains recs.length = false → H' = H ∧ T' = T) ∧ dgo D next o recs sts e true v H' T'
  | none => False
def adraw (D : DCx) : List Oper → List DRec → List Stg → Env → Prop
 | [], _, sts, e => match sts.getLast? with
  | some (H, T, _) => D.K ⟨e, H, T⟩
  | none => False
 | o :: r, recs, sts, e => match sts.getLast? with
  | some (H, T, _) => match o.guard with
   | none => dexec D (adraw D r) o recs sts e H T
   | some (j, want) => match gval D.all j e with
    | some b => if b = some want then dexec D (adraw D r) o recs sts e H T else dgo D (adraw D r) o recs sts e false (.tup []) H T
    | none => False
  | none => False
structure RecOk (D : DCx) (ops : List Oper) (sts : List Stg) (recs : List DRec) (i : Nat) (x : DRec) : Prop where
 o : ops[i]? = some x.o
 k : x.k < sts.length
 eff : x.eff = D.eff.contains i
 gate : match x.o.guard with
  | none => x.run = true
  | some (j, want) => ∃ b, gval D.all j x.e = some b ∧ x.run = (b == some want)
 dst : ∀ d, x.o.dst = some d → d < D.C.nt
 skip : x.run = false → x.v = .tup []
 still : x.run = true → x.eff = false → ∀ k H T e, sts[k]? = some (H, T, e) → D.lo.getD i 0 ≤ k → (k ≤ x.k ∨ (D.na.getD (k - 1) []).contains i = true) → aexec D.C.P x.o x.e H T x.v H T
 effect : x.eff = true → ∃ H T e H' T', sts[x.k]? = some (H, T, e) ∧ sts[x.k + 1]? = some (H', T', i) ∧ (x.run = true → aexec D.C.P x.o x.e H T x.v H' T') ∧ (x.run = false → H' = H ∧ T' = T)
def eputO (dst : Option Tmp) (e : Env) (v : AV) : Env :=
 match dst with
 | some d => eput e d v
 | none => e
def after1 (e : Env) (x : DRec) : Env := eputO x.o.dst e x.v
def envAfter : Env → List DRec → Env
 | e, [] => e
 | e, x :: r => envAfter (after1 e x) r
theorem envAfter_snoc (l : List DRec) : ∀ (e : Env) (x : DRec), envAfter e (l ++ [x]) = after1 (envAfter e l) x := by
 induction l with
 | nil => intro e x; rfl
 | cons y r ih => intro e x; exact ih _ x
theorem eget_after1 (e : Env) (x : DRec) (t : Nat) : eget (after1 e x) t = if x.o.dst = some t then x.v else eget e t := by
 unfold after1 eputO
 split
 ·rename_i d hd
  by_cases h : d = t
  ·subst h; simp [hd, eget_eput_same]
  ·rw [eget_eput_other _ _ _ _ h, if_neg (by rw [hd]; intro e; exact h (by injection e))]
 ·rename_i hd; simp [hd]
theorem eget_envAfter_none : ∀ (l : List DRec) (e : Env) (t : Nat), (∀ x ∈ l, x.o.dst ≠ some t) → eget (envAfter e l) t = eget e t := by
 intro l
 induction l with
 | nil => intro e t _; rfl
 | cons x r ih =>
  intro e t h
  rw [envAfter, ih _ _ (fun y hy => h y (by simp [hy])), eget_after1, if_neg (h x (by simp))]
theorem eget_envAfter_at : ∀ (l : List DRec) (e : Env) (t j : Nat) (x : DRec), l[j]? = some x → x.o.dst = some t → (∀ i y, l[i]? = some y → y.o.dst = some t → i = j) → eget (envAfter e l) t = x.v := by
 intro l
 induction l with
 | nil => intro e t j x h; simp at h
 | cons y r ih =>
  intro e t j x h hd hu
  rw [envAfter]
  cases j with
  | zero =>
   simp at h
   subst h
   rw [eget_envAfter_none r _ t (fun z hz hz2 => by
    obtain ⟨i, hi, e1⟩ := List.mem_iff_getElem.1 hz
    have := hu (i + 1) z (by simp [← e1, hi]) hz2
    omega), eget_after1, if_pos hd]
  | succ j =>
   exact ih _ t j x (by simpa using h) hd (fun i z hi hz => by have := hu (i + 1) z (by simpa using hi) hz; omega)
structure StOk (D : DCx) (recs : List DRec) (sts : List Stg) : Prop where
 len : sts.length = 1 + (D.eff.filter (· < recs.length)).length
 k : ∀ (i : Nat) (x : DRec), recs[i]? = some x → x.k = (D.eff.filter (· < i)).length
theorem filter_succ_not {eff : List Nat} {i : Nat} (h : eff.contains i = false) : (eff.filter (· < i + 1)).length = (eff.filter (· < i)).length := by
 congr 1
 apply List.filter_congr
 intro x hx
 have : x ≠ i := by rintro rfl; simp at h; exact h hx
 simp; omega
def effCk (eff : List Nat) : Bool := (List.range eff.length).all fun k => (eff.filter (· < eff.getD k 0)).length == k && (eff.filter (· < eff.getD k 0 + 1)).length == k + 1
theorem effCk_spec {eff : List Nat} (h : effCk eff = true) {i : Nat} (hi : eff.contains i = true) : eff[(eff.filter (· < i)).length]? = some i ∧ (eff.filter (· < i + 1)).length = (eff.filter (· < i)).length + 1 := by
 simp only [List.contains_iff_mem] at hi
 obtain ⟨k, hk, e⟩ := List.mem_iff_getElem.1 hi
 have := List.all_eq_true.1 h k (List.mem_range.2 hk)
 simp only [Bool.and_eq_true, beq_iff_eq, List.getD_eq_getElem?_getD, List.getElem?_eq_getElem hk, Option.getD_some, e] at this
 rw [this.1]
 exact ⟨by rw [List.getElem?_eq_getElem hk, e], this.2⟩
theorem naOb_spec {P : Program} {recs : List DRec} {H : List Blk} {T : Toks} : ∀ {l : List Nat}, naOb P recs H T l → ∀ j, l.contains j = true → ∀ x, recs[j]? = some x → x.run = true → x.eff = false → aexec P x.o x.e H T x.v H T := by
 intro l
 induction l with
 | nil => intro _ j hj; simp at hj
 | cons y r ih =>
  intro h j hj x hx h1 h2
  obtain ⟨g1, g2⟩ := h
  by_cases hy : j = y
  ·subst hy
   rw [hx] at g1
   exact g1 h1 h2
  ·exact ih g2 j (by simp only [List.contains_cons] at hj; simpa [hy] using hj) x hx h1 h2
theorem exAt_spec {P : Program} {o : Oper} {e : Env} {v : AV} : ∀ {l : List Stg}, exAt P o e v l → ∀ (j : Nat) (st : Stg), l[j]? = some st → aexec P o e st.1 st.2.1 v st.1 st.2.1 := by
 intro l
 induction l with
 | nil => intro _ j st h; simp at h
 | cons y r ih =>
  obtain ⟨H, T, i⟩ := y
  intro h j st hj
  cases j with
  | zero => simp at hj; subst hj; exact h.1
  | succ j => exact ih h.2 j st (by simpa using hj)
structure WalkOk (D : DCx) (ops : List Oper) (e0 : Env) (recs : List DRec) (sts : List Stg) (e : Env) : Prop where
 st : StOk D recs sts
 rcs : ∀ (i : Nat) (x : DRec), recs[i]? = some x → RecOk D ops sts recs i x
 envs : ∀ (i : Nat) (x : DRec), recs[i]? = some x → x.e = envAfter e0 (recs.take i)
 cur : e = envAfter e0 recs
theorem putE_spec {nt : Nat} {dst : Option Tmp} {v : AV} {e : Env} {k : Env → Prop} (h : putE nt dst v e k) : (∀ d, dst = some d → d < nt) ∧ k (eputO dst e v) := by
 cases dst with
 | none => exact ⟨fun d e => (by cases e), h⟩
 | some d => exact ⟨fun d' e => (by cases e; exact h.1), h.2⟩
theorem dgo_step {D : DCx} {ops : List Oper} {e0 : Env} {recs : List DRec} {sts : List Stg} {e : Env} {next : List DRec → List Stg → Env → Prop} {o : Oper} {run : Bool} {v : AV} {H H' : List Blk} {T T' : Toks} {i0 : Nat} (hck : effCk D.eff = true)
  (hw : WalkOk D ops e0 recs sts e) (hops : ops[recs.length]? = some o) (hlast : sts.getLast? = some (H, T, i0))
  (hgate : match o.guard with | none => run = true | some (j, want) => ∃ b, gval D.all j e = some b ∧ run = (b == some want)) (hskip : run = false → v = .tup [] ∧ H' = H ∧ T' = T) (hrun : run = true → aexec D.C.P o e H T v H' T')
  (hstill : D.eff.contains recs.length = false → H' = H ∧ T' = T) (h : dgo D next o recs sts e run v H' T') :
  ∃ recs' sts' e', WalkOk D ops e0 recs' sts' e' ∧ recs'.length = recs.length + 1 ∧ next recs' sts' e' ∧ sts'[0]? = sts[0]? ∧ sts' ≠ [] := by
 have hne : sts ≠ [] := by intro e; rw [e] at hlast; cases hlast
 have hpos : 0 < sts.length := List.length_pos_iff.2 hne
 have hat : sts[sts.length - 1]? = some (H, T, i0) := by rw [← hlast, List.getLast?_eq_getElem?]
 have hlen := hw.st.len
 unfold dgo at h
 split at h
 ·rename_i heff
  obtain ⟨hna, hput⟩ := h
  obtain ⟨hdst, hnext⟩ := putE_spec hput
  obtain ⟨ek, es⟩ := effCk_spec hck heff
  refine ⟨_, _, _, ⟨⟨?_, fun i x hx => ?_⟩, fun i x hx => ?_, fun i x hx => ?_, ?_⟩, by simp, hnext, by rw [List.getElem?_append_left hpos], by simp⟩
  ·simp only [List.length_append, List.length_singleton, hlen]; rw [es]; omega
  ·rcases Nat.lt_or_ge i recs.length with hi | hi
   ·rw [List.getElem?_append_left hi] at hx; exact hw.st.k i x hx
   ·have hi' : i = recs.length := by have := (List.getElem?_eq_some_iff.1 hx).1; simp at this; omega
    subst hi'
    simp at hx
    subst hx
    simp; omega
  ·rcases Nat.lt_or_ge i recs.length with hi | hi
   ·rw [List.getElem?_append_left hi] at hx
    have hr := hw.rcs i x hx
    refine ⟨hr.o, by simp; have := hr.k; omega, hr.eff, hr.gate, hr.dst, hr.skip, fun h1 h2 k H2 T2 e2 hk hlo hor => ?_, fun h1 => ?_⟩
    ·rcases Nat.lt_or_ge k sts.length with hkl | hkl
     ·rw [List.getElem?_append_left hkl] at hk; exact hr.still h1 h2 k H2 T2 e2 hk hlo hor
     ·have hk' : k = sts.length := by have := (List.getElem?_eq_some_iff.1 hk).1; simp at this; omega
      subst hk'
      simp at hk
      obtain ⟨rfl, rfl, rfl⟩ := hk
      rcases hor with hor | hor
      ·have := hr.k; omega
      ·exact naOb_spec hna i hor x hx h1 h2
    ·obtain ⟨Ha, Ta, ea, Hb, Tb, g1, g2, g3, g4⟩ := hr.effect h1
     have l1 := (List.getElem?_eq_some_iff.1 g1).1
     have l2 := (List.getElem?_eq_some_iff.1 g2).1
     exact ⟨Ha, Ta, ea, Hb, Tb, by rw [List.getElem?_append_left l1]; exact g1, by rw [List.getElem?_append_left l2]; exact g2, g3, g4⟩
   ·have hi' : i = recs.length := by have := (List.getElem?_eq_some_iff.1 hx).1; simp at this; omega
    subst hi'
    simp at hx
    subst hx
    refine ⟨hops, (by rw [List.length_append, List.length_singleton]; exact (by omega : sts.length - 1 < sts.length + 1)), heff.symm, hgate, hdst, fun hr => (hskip hr).1, fun _ h2 => (by cases h2), fun _ => ⟨H, T, i0, H', T', by show (sts ++ [_])[sts.length - 1]? = _; rw [List.getElem?_append_left (by omega)]; exact hat, ?_, hrun, fun hr => (hskip hr).2⟩⟩
    show (sts ++ [_])[sts.length - 1 + 1]? = _
    rw [show sts.length - 1 + 1 = sts.length by omega]; simp
  ·rcases Nat.lt_or_ge i recs.length with hi | hi
   ·rw [List.getElem?_append_left hi] at hx
    rw [List.take_append_of_le_length (by omega)]; exact hw.envs i x hx
   ·have hi' : i = recs.length := by have := (List.getElem?_eq_some_iff.1 hx).1; simp at this; omega
    subst hi'
    simp at hx
    subst hx
    rw [List.take_append_of_le_length (Nat.le_refl _), List.take_length]; exact hw.cur
  ·rw [envAfter_snoc, ← hw.cur]; rfl
 ·rename_i heff
  simp only [Bool.not_eq_true] at heff
  obtain ⟨hex, hput⟩ := h
  obtain ⟨hdst, hnext⟩ := putE_spec hput
  obtain ⟨rfl, rfl⟩ := hstill heff
  refine ⟨_, _, _, ⟨⟨?_, fun i x hx => ?_⟩, fun i x hx => ?_, fun i x hx => ?_, ?_⟩, by simp, hnext, rfl, hne⟩
  ·simp only [List.length_append, List.length_singleton, hlen]; rw [filter_succ_not heff]
  ·rcases Nat.lt_or_ge i recs.length with hi | hi
   ·rw [List.getElem?_append_left hi] at hx; exact hw.st.k i x hx
   ·have hi' : i = recs.length := by have := (List.getElem?_eq_some_iff.1 hx).1; simp at this; omega
    subst hi'
    simp at hx
    subst hx
    simp; omega
  ·rcases Nat.lt_or_ge i recs.length with hi | hi
   ·rw [List.getElem?_append_left hi] at hx
    have hr := hw.rcs i x hx
    exact ⟨hr.o, hr.k, hr.eff, hr.gate, hr.dst, hr.skip, hr.still, hr.effect⟩
   ·have hi' : i = recs.length := by have := (List.getElem?_eq_some_iff.1 hx).1; simp at this; omega
    subst hi'
    simp at hx
    subst hx
    refine ⟨hops, (by exact (by omega : sts.length - 1 < sts.length)), heff.symm, hgate, hdst, fun hr => (hskip hr).1, fun h1 _ k H2 T2 e2 hk hlo hor => ?_, fun h => (by cases h)⟩
    simp only at hk hlo hor h1 ⊢
    have hkl := (List.getElem?_eq_some_iff.1 hk).1
    rcases Nat.lt_or_ge k (sts.length - 1) with hlt | hge
    ·have hk2 : ((sts.drop (D.lo.getD recs.length 0)).dropLast)[k - D.lo.getD recs.length 0]? = some (H2, T2, e2) := by
      rw [List.getElem?_dropLast, if_pos (by rw [List.length_drop]; omega), List.getElem?_drop, show D.lo.getD recs.length 0 + (k - D.lo.getD recs.length 0) = k by omega]
      exact hk
     exact exAt_spec (hex h1) _ _ hk2
    ·have hk' : k = sts.length - 1 := by omega
     subst hk'
     rw [hat] at hk
     cases hk
     exact hrun h1
  ·rcases Nat.lt_or_ge i recs.length with hi | hi
   ·rw [List.getElem?_append_left hi] at hx
    rw [List.take_append_of_le_length (by omega)]; exact hw.envs i x hx
   ·have hi' : i = recs.length := by have := (List.getElem?_eq_some_iff.1 hx).1; simp at this; omega
    subst hi'
    simp at hx
    subst hx
    rw [List.take_append_of_le_length (Nat.le_refl _), List.take_length]; exact hw.cur
  ·rw [envAfter_snoc, ← hw.cur]; rfl
theorem adraw_walk {D : DCx} {ops : List Oper} {e0 : Env} (hck : effCk D.eff = true) : ∀ (l : List Oper) (recs : List DRec) (sts : List Stg) (e : Env), WalkOk D ops e0 recs sts e → ops.drop recs.length = l → recs.length ≤ ops.length → adraw D l recs sts e →
  ∃ recs' sts' H T i, WalkOk D ops e0 recs' sts' (envAfter e0 recs') ∧ recs'.length = ops.length ∧ sts'.getLast? = some (H, T, i) ∧ D.K ⟨envAfter e0 recs', H, T⟩ ∧ sts'[0]? = sts[0]? := by
 intro l
 induction l with
 | nil =>
  intro recs sts e hw hl hle h
  unfold adraw at h
  split at h
  ·rename_i H T i hlast
   have hlen : recs.length = ops.length := by
    have := congrArg List.length hl
    simp at this; omega
   have hc := hw.cur
   subst hc
   exact ⟨recs, sts, H, T, i, hw, hlen, hlast, h, rfl⟩
  ·exact h.elim
 | cons o r ih =>
  intro recs sts e hw hl hle h
  have hlt : recs.length < ops.length := by
   have := congrArg List.length hl
   simp at this; omega
  have hops : ops[recs.length]? = some o := by
   have := congrArg (fun l => l[0]?) hl
   simpa using this
  have hdrop : ops.drop (recs.length + 1) = r := by
   have := congrArg (fun l => l.drop 1) hl
   simpa [List.drop_drop, Nat.add_comm] using this
  have fin : ∀ {H T i0 run v H' T'}, sts.getLast? = some (H, T, i0) → (match o.guard with | none => run = true | some (j, want) => ∃ b, gval D.all j e = some b ∧ run = (b == some want)) → (run = false → v = .tup [] ∧ H' = H ∧ T' = T) → (run = true → aexec D.C.P o e H T v H' T') →
    (D.eff.contains recs.length = false → H' = H ∧ T' = T) → dgo D (adraw D r) o recs sts e run v H' T' → ∃ recs' sts' H T i, WalkOk D ops e0 recs' sts' (envAfter e0 recs') ∧ recs'.length = ops.length ∧ sts'.getLast? = some (H, T, i) ∧ D.K ⟨envAfter e0 recs', H, T⟩ ∧ sts'[0]? = sts[0]? := by
   intro H T i0 run v H' T' hlast hg h1 h2 h3 h4
   obtain ⟨recs', sts', e', g1, g2, g3, g4, _⟩ := dgo_step hck hw hops hlast hg h1 h2 h3 h4
   obtain ⟨r2, s2, H2, T2, i2, k1, k2, k3, k4, k5⟩ := ih recs' sts' e' g1 (by rw [g2]; exact hdrop) (by omega) g3
   exact ⟨r2, s2, H2, T2, i2, k1, k2, k3, k4, k5.trans g4⟩
  have exec : ∀ {H T i0}, sts.getLast? = some (H, T, i0) → (match o.guard with | none => true = true | some (j, want) => ∃ b, gval D.all j e = some b ∧ true = (b == some want)) → dexec D (adraw D r) o recs sts e H T →
    ∃ recs' sts' H T i, WalkOk D ops e0 recs' sts' (envAfter e0 recs') ∧ recs'.length = ops.length ∧ sts'.getLast? = some (H, T, i) ∧ D.K ⟨envAfter e0 recs', H, T⟩ ∧ sts'[0]? = sts[0]? := by
   intro H T i0 hlast hg hx
   unfold dexec at hx
   split at hx
   ·rename_i g as hcal
    obtain ⟨v, H', T', hc, hs, hd⟩ := hx
    refine fin (run := true) hlast hg (fun e => by cases e) (fun _ => ?_) hs hd
    unfold aexec; rw [hcal]; exact hc
   ·rename_i hcal
    split at hx
    ·rename_i v H' T' hop
     refine fin (run := true) hlast hg (fun e => by cases e) (fun _ => ?_) hx.1 hx.2
     unfold aexec; rw [hcal]; exact hop
    ·exact hx.elim
  unfold adraw at h
  split at h
  ·rename_i H T i0 hlast
   split at h
   ·rename_i hg
    exact exec hlast (by rw [hg]) h
   ·rename_i j want hg
    split at h
    ·rename_i b hb
     split at h
     ·rename_i hbw
      exact exec hlast (by rw [hg]; exact ⟨b, hb, by simp [hbw]⟩) h
     ·rename_i hbw
      exact fin (run := false) hlast (by rw [hg]; exact ⟨b, hb, by simp [hbw]⟩) (fun _ => ⟨rfl, rfl, rfl⟩) (fun e => by cases e) (fun _ => ⟨rfl, rfl⟩) h
    ·exact h.elim
  ·exact h.elim
theorem ancs_old : ∀ (l : List Oper) (acc : List Nat) (i : Nat), i < acc.length → (ancs l acc)[i]? = acc[i]? := by
 intro l
 induction l with
 | nil => intro acc i _; rfl
 | cons o r ih =>
  intro acc i hi
  rw [ancs, ih _ _ (by simp; omega), List.getElem?_append_left hi]
def ancOne (o : Oper) (acc : List Nat) : Nat := o.after.foldl (fun s e => if Region.binds .any e then s ||| 2 ^ e.on ||| acc.getD e.on 0 else s) 0
theorem ancs_at : ∀ (l : List Oper) (acc : List Nat) (i : Nat) (o : Oper), l[i]? = some o → ∃ acc', (ancs l acc)[acc.length + i]? = some (ancOne o acc') ∧ acc'.length = acc.length + i ∧ ∀ j, j < acc'.length → acc'[j]? = (ancs l acc)[j]? := by
 intro l
 induction l with
 | nil => intro acc i o h; simp at h
 | cons p r ih =>
  intro acc i o h
  cases i with
  | zero =>
   simp at h
   subst h
   refine ⟨acc, ?_, by simp, fun j hj => (ancs_old _ _ j hj).symm⟩
   rw [ancs, ancs_old _ _ _ (by simp)]
   simp [ancOne]
  | succ i =>
   obtain ⟨acc', h1, h2, h3⟩ := ih (acc ++ [ancOne p acc]) i o (by simpa using h)
   refine ⟨acc', ?_, by simp at h2; omega, h3⟩
   rw [ancs]
   simp at h1
   rw [show acc.length + (i + 1) = acc.length + 1 + i by omega]
   exact h1
theorem ancOne_bit (o : Oper) (acc : List Nat) (j : Nat) (h : (ancOne o acc).testBit j = true) : ∃ e ∈ o.after, Region.binds .any e = true ∧ (e.on = j ∨ (acc.getD e.on 0).testBit j = true) := by
 unfold ancOne at h
 rw [← Array.foldl_toList] at h
 have key : ∀ (l : List Edge) (s : Nat), (l.foldl (fun s e => if Region.binds .any e then s ||| 2 ^ e.on ||| acc.getD e.on 0 else s) s).testBit j = true → s.testBit j = true ∨ ∃ e ∈ l, Region.binds .any e = true ∧ (e.on = j ∨ (acc.getD e.on 0).testBit j = true) := by
  intro l
  induction l with
  | nil => intro s h; exact .inl h
  | cons e r ih =>
   intro s h
   rcases ih _ h with h1 | ⟨e', h1, h2⟩
   ·dsimp only at h1
    split at h1
    ·rename_i hb
     simp only [Nat.testBit_or, Bool.or_eq_true] at h1
     rcases h1 with (h1 | h1) | h1
     ·exact .inl h1
     ·rw [Nat.testBit_two_pow] at h1
      exact .inr ⟨e, by simp, hb, .inl (by simpa using h1)⟩
     ·exact .inr ⟨e, by simp, hb, .inr h1⟩
    ·exact .inl h1
   ·exact .inr ⟨e', by simp [h1], h2⟩
 rcases key _ _ h with h1 | ⟨e, h1, h2⟩
 ·simp at h1
 ·exact ⟨e, by simpa using h1, h2⟩
theorem anc_listed {ops : List Oper} {listed : Array Bool} (hcl : ∀ i j, listed.getD i false = true → anc (ancs ops []) j i = true → listed.getD j false = true)
  {i : Nat} {o : Oper} (ho : ops[i]? = some o) (hr : ∀ e ∈ o.after, Region.binds .any e = true → listed.getD e.on false = true) (hback : ∀ e ∈ o.after, Region.binds .any e = true → e.on < i) {j : Nat} (hj : anc (ancs ops []) j i = true) : listed.getD j false = true := by
 obtain ⟨acc', h1, h2, h3⟩ := ancs_at ops [] i o ho
 simp at h1 h2
 unfold anc at hj
 rw [List.getD_eq_getElem?_getD, h1] at hj
 obtain ⟨e, he, hb, h4⟩ := ancOne_bit o acc' j hj
 have hl := hr e he hb
 rcases h4 with h4 | h4
 ·rw [← h4]; exact hl
 ·refine hcl e.on j hl ?_
  unfold anc
  have hlt := hback e he hb
  rw [List.getD_eq_getElem?_getD, ← h3 e.on (by omega), ← List.getD_eq_getElem?_getD]
  exact h4
theorem drawCk_spec {ops : List Oper} {eff lo : List Nat} {na : List (List Nat)} (h : drawCk ops eff lo na = true) :
  (∀ (i j : Nat) (x y : Oper) (d : Tmp), ops[i]? = some x → ops[j]? = some y → x.dst = some d → y.dst = some d → i = j) ∧
  (∀ (i j : Nat) (x y : Oper) (t : Tmp), ops[i]? = some x → ops[j]? = some y → t ∈ x.looksAt ops.toArray → y.dst = some t → i ≠ j ∧ ((j < i ∧ anc (ancs ops []) j i = true) ∨ (i < j ∧ anc (ancs ops []) i j = true))) ∧
  (∀ k e, eff[k]? = some e → e < ops.length ∧ (0 < k → ∃ e', eff[k - 1]? = some e' ∧ anc (ancs ops []) e' e = true)) ∧
  (∀ i, i < ops.length → lo.getD i 0 ≤ effIn (ancs ops []) eff i) ∧
  (∀ k e, eff[k]? = some e → ∀ j, j < e → eff.contains j = true ∨ (na.getD k []).contains j = true ∨ anc (ancs ops []) j e = true) ∧
  (∀ (i : Nat) (x : Oper), ops[i]? = some x → ∀ e ∈ x.after, Region.binds .any e = true → e.on < i) ∧ Region.noSelect ops.toArray = true := by
 unfold drawCk at h
 simp only [Bool.and_eq_true] at h
 obtain ⟨⟨⟨⟨⟨⟨⟨⟨⟨h1, h2⟩, h3⟩, h4⟩, h5⟩, h6⟩, h7⟩, h8⟩, h9⟩, h10⟩ := h
 have at_ : ∀ {i : Nat} {x : Oper}, ops[i]? = some x → i < ops.length ∧ ops.getD i default = x := fun {i x} hi => by
  obtain ⟨a, b⟩ := List.getElem?_eq_some_iff.1 hi
  exact ⟨a, by rw [List.getD_eq_getElem?_getD, hi]; rfl⟩
 have eat : ∀ {k e : Nat}, eff[k]? = some e → k < eff.length ∧ eff.getD k 0 = e := fun {k e} hi => by
  obtain ⟨a, b⟩ := List.getElem?_eq_some_iff.1 hi
  exact ⟨a, by rw [List.getD_eq_getElem?_getD, hi]; rfl⟩
 refine ⟨fun i j x y d hi hj hx hy => ?_, fun i j x y t hi hj ht hy => ?_, fun k e hk => ⟨?_, fun hpos => ?_⟩, fun i hi => ?_, fun k e hk j hj => ?_, fun i x hi e he hb => ?_, h10⟩
 ·obtain ⟨a1, a2⟩ := at_ hi
  obtain ⟨b1, b2⟩ := at_ hj
  have := List.all_eq_true.1 (List.all_eq_true.1 h1 i (List.mem_range.2 a1)) j (List.mem_range.2 b1)
  rw [a2, b2, hx, hy] at this
  simpa using this
 ·obtain ⟨a1, a2⟩ := at_ hi
  obtain ⟨b1, b2⟩ := at_ hj
  have hne : i ≠ j := by
   rintro rfl
   have e1 : x = y := by rw [hi] at hj; injection hj
   subst e1
   have := List.all_eq_true.1 (List.all_eq_true.1 h3 i (List.mem_range.2 a1)) t (by rw [a2]; exact ht)
   rw [a2, hy] at this
   simp at this
  have := List.all_eq_true.1 (List.all_eq_true.1 (List.all_eq_true.1 h2 i (List.mem_range.2 a1)) t (by rw [a2]; exact ht)) j (List.mem_range.2 b1)
  rw [b2, hy] at this
  refine ⟨hne, ?_⟩
  simpa [hne] using this
 ·obtain ⟨a1, a2⟩ := eat hk
  have := List.all_eq_true.1 h5 e (List.mem_of_getElem? hk)
  simpa using this
 ·obtain ⟨a1, a2⟩ := eat hk
  have := List.all_eq_true.1 h4 k (List.mem_range.2 a1)
  have hk0 : (k == 0) = false := by simp; omega
  rw [hk0, a2] at this
  have hk1 : k - 1 < eff.length := by omega
  refine ⟨eff[k - 1], List.getElem?_eq_getElem hk1, ?_⟩
  have e2 : eff.getD (k - 1) 0 = eff[k - 1] := by rw [List.getD_eq_getElem?_getD, List.getElem?_eq_getElem hk1]; rfl
  rw [e2] at this
  simpa using this
 ·have := List.all_eq_true.1 h7 i (List.mem_range.2 hi)
  simpa using this
 ·obtain ⟨a1, a2⟩ := eat hk
  have := List.all_eq_true.1 (List.all_eq_true.1 h8 k (List.mem_range.2 a1)) j (List.mem_range.2 (by rw [a2]; exact hj))
  rw [a2] at this
  simp only [Bool.or_eq_true] at this
  rcases this with (h | h) | h
  ·exact .inl h
  ·exact .inr (.inl h)
  ·exact .inr (.inr h)
 ·obtain ⟨a1, a2⟩ := at_ hi
  have := Array.all_eq_true_iff_forall_mem.1 (List.all_eq_true.1 h9 i (List.mem_range.2 a1)) e (by rw [a2]; exact he)
  rw [hb] at this
  simpa using this
end Go.Am
