/- A region that draws its order, in which one operation with an effect (an append to a box that is held with its capacity) can come out in several ways.
  Conditions: none; it speaks of every program. -/
import Derived.Test.YtneohapkboaplaaGreatAmDrw
set_option linter.unusedVariables false
namespace Go.Am
open Go
structure RecOkM (nx : Nat) (D : DCx) (ops : List Oper) (sts : List Stg) (recs : List DRec) (i : Nat) (x : DRec) : Prop where
 o : ops[i]? = some x.o
 k : x.k < sts.length
 eff : x.eff = D.eff.contains i
 gate : match x.o.guard with
  | none => x.run = true
  | some (j, want) => ∃ b, gval D.all j x.e = some b ∧ x.run = (b == some want)
 dst : ∀ d, x.o.dst = some d → d < D.C.nt
 skip : x.run = false → x.v = .tup []
 still : x.run = true → x.eff = false → ∀ k H T e, sts[k]? = some (H, T, e) → D.lo.getD i 0 ≤ k → (k ≤ x.k ∨ (D.na.getD (k - 1) []).contains i = true) → aexec D.C.P x.o x.e H T x.v H T
 effect : x.eff = true → ∃ H T e H' T', sts[x.k]? = some (H, T, e) ∧ sts[x.k + 1]? = some (H', T', i) ∧ (x.run = true → i ≠ nx → aexec D.C.P x.o x.e H T x.v H' T') ∧ (x.run = false → H' = H ∧ T' = T)
structure WalkOkM (nx : Nat) (D : DCx) (ops : List Oper) (e0 : Env) (recs : List DRec) (sts : List Stg) (e : Env) : Prop where
 st : StOk D recs sts
 rcs : ∀ (i : Nat) (x : DRec), recs[i]? = some x → RecOkM nx D ops sts recs i x
 envs : ∀ (i : Nat) (x : DRec), recs[i]? = some x → x.e = envAfter e0 (recs.take i)
 cur : e = envAfter e0 recs
theorem dgo_stepM {nx : Nat} {D : DCx} {ops : List Oper} {e0 : Env} {recs : List DRec} {sts : List Stg} {e : Env} {next : List DRec → List Stg → Env → Prop} {o : Oper} {run : Bool} {v : AV} {H H' : List Blk} {T T' : Toks} {i0 : Nat} (hck : effCk D.eff = true) (hnx : D.eff.contains nx = true)
  (hw : WalkOkM nx D ops e0 recs sts e) (hops : ops[recs.length]? = some o) (hlast : sts.getLast? = some (H, T, i0))
  (hgate : match o.guard with | none => run = true | some (j, want) => ∃ b, gval D.all j e = some b ∧ run = (b == some want)) (hskip : run = false → v = .tup [] ∧ H' = H ∧ T' = T) (hrun : run = true → recs.length ≠ nx → aexec D.C.P o e H T v H' T')
  (hstill : D.eff.contains recs.length = false → H' = H ∧ T' = T) (h : dgo D next o recs sts e run v H' T') :
  ∃ recs' sts' e', WalkOkM nx D ops e0 recs' sts' e' ∧ recs'.length = recs.length + 1 ∧ next recs' sts' e' ∧ sts'[0]? = sts[0]? ∧ sts' ≠ [] ∧ (∃ x, recs' = recs ++ [x] ∧ (D.eff.contains recs.length = true → x = ⟨o, e, run, v, sts.length - 1, true⟩)) ∧ (∃ q, sts' = sts ++ q) ∧ (D.eff.contains recs.length = true → sts' = sts ++ [(H', T', recs.length)]) := by
 have hne : sts ≠ [] := by intro e; rw [e] at hlast; cases hlast
 have hpos : 0 < sts.length := List.length_pos_iff.2 hne
 have hat : sts[sts.length - 1]? = some (H, T, i0) := by rw [← hlast, List.getLast?_eq_getElem?]
 have hlen := hw.st.len
 unfold dgo at h
 split at h
 ·rename_i heff
  obtain ⟨hna, hput⟩ := h
  obtain ⟨hdst, hnext⟩ := putE_spec hput
  obtain ⟨ek, es⟩ := effCk_spec hck heff
  refine ⟨_, _, _, ⟨⟨?_, fun i x hx => ?_⟩, fun i x hx => ?_, fun i x hx => ?_, ?_⟩, by simp, hnext, by rw [List.getElem?_append_left hpos], by simp, ⟨_, rfl, fun _ => rfl⟩, ⟨_, rfl⟩, fun _ => rfl⟩
  ·simp only [List.length_append, List.length_singleton, hlen]; rw [es]; omega
  ·rcases Nat.lt_or_ge i recs.length with hi | hi
   ·rw [List.getElem?_append_left hi] at hx; exact hw.st.k i x hx
   ·have hi' : i = recs.length := by have := (List.getElem?_eq_some_iff.1 hx).1; simp at this; omega
    subst hi'
    simp at hx
    subst hx
    simp; omega
  ·rcases Nat.lt_or_ge i recs.length with hi | hi
   ·rw [List.getElem?_append_left hi] at hx
    have hr := hw.rcs i x hx
    refine ⟨hr.o, by simp; have := hr.k; omega, hr.eff, hr.gate, hr.dst, hr.skip, fun h1 h2 k H2 T2 e2 hk hlo hor => ?_, fun h1 => ?_⟩
    ·rcases Nat.lt_or_ge k sts.length with hkl | hkl
     ·rw [List.getElem?_append_left hkl] at hk; exact hr.still h1 h2 k H2 T2 e2 hk hlo hor
     ·have hk' : k = sts.length := by have := (List.getElem?_eq_some_iff.1 hk).1; simp at this; omega
      subst hk'
      simp at hk
      obtain ⟨rfl, rfl, rfl⟩ := hk
      rcases hor with hor | hor
      ·have := hr.k; omega
      ·exact naOb_spec hna i hor x hx h1 h2
    ·obtain ⟨Ha, Ta, ea, Hb, Tb, g1, g2, g3, g4⟩ := hr.effect h1
     have l1 := (List.getElem?_eq_some_iff.1 g1).1
     have l2 := (List.getElem?_eq_some_iff.1 g2).1
     exact ⟨Ha, Ta, ea, Hb, Tb, by rw [List.getElem?_append_left l1]; exact g1, by rw [List.getElem?_append_left l2]; exact g2, g3, g4⟩
   ·have hi' : i = recs.length := by have := (List.getElem?_eq_some_iff.1 hx).1; simp at this; omega
    subst hi'
    simp at hx
    subst hx
    refine ⟨hops, (by rw [List.length_append, List.length_singleton]; exact (by omega : sts.length - 1 < sts.length + 1)), heff.symm, hgate, hdst, fun hr => (hskip hr).1, fun _ h2 => (by cases h2), fun _ => ⟨H, T, i0, H', T', by show (sts ++ [_])[sts.length - 1]? = _; rw [List.getElem?_append_left (by omega)]; exact hat, ?_, hrun, fun hr => (hskip hr).2⟩⟩
    show (sts ++ [_])[sts.length - 1 + 1]? = _
    rw [show sts.length - 1 + 1 = sts.length by omega]; simp
  ·rcases Nat.lt_or_ge i recs.length with hi | hi
   ·rw [List.getElem?_append_left hi] at hx
    rw [List.take_append_of_le_length (by omega)]; exact hw.envs i x hx
   ·have hi' : i = recs.length := by have := (List.getElem?_eq_some_iff.1 hx).1; simp at this; omega
    subst hi'
    simp at hx
    subst hx
    rw [List.take_append_of_le_length (Nat.le_refl _), List.take_length]; exact hw.cur
  ·rw [envAfter_snoc, ← hw.cur]; rfl
 ·rename_i heff
  simp only [Bool.not_eq_true] at heff
  obtain ⟨hex, hput⟩ := h
  obtain ⟨hdst, hnext⟩ := putE_spec hput
  obtain ⟨rfl, rfl⟩ := hstill heff
  refine ⟨_, _, _, ⟨⟨?_, fun i x hx => ?_⟩, fun i x hx => ?_, fun i x hx => ?_, ?_⟩, by simp, hnext, rfl, hne, ⟨_, rfl, fun h => absurd h (by rw [heff]; decide)⟩, ⟨[], by simp⟩, fun h => absurd h (by rw [heff]; decide)⟩
  ·simp only [List.length_append, List.length_singleton, hlen]; rw [filter_succ_not heff]
  ·rcases Nat.lt_or_ge i recs.length with hi | hi
   ·rw [List.getElem?_append_left hi] at hx; exact hw.st.k i x hx
   ·have hi' : i = recs.length := by have := (List.getElem?_eq_some_iff.1 hx).1; simp at this; omega
    subst hi'
    simp at hx
    subst hx
    simp; omega
  ·rcases Nat.lt_or_ge i recs.length with hi | hi
   ·rw [List.getElem?_append_left hi] at hx
    have hr := hw.rcs i x hx
    exact ⟨hr.o, hr.k, hr.eff, hr.gate, hr.dst, hr.skip, hr.still, hr.effect⟩
   ·have hi' : i = recs.length := by have := (List.getElem?_eq_some_iff.1 hx).1; simp at this; omega
    subst hi'
    simp at hx
    subst hx
    refine ⟨hops, (by exact (by omega : sts.length - 1 < sts.length)), heff.symm, hgate, hdst, fun hr => (hskip hr).1, fun h1 _ k H2 T2 e2 hk hlo hor => ?_, fun h => (by cases h)⟩
    simp only at hk hlo hor h1 ⊢
    have hkl := (List.getElem?_eq_some_iff.1 hk).1
    rcases Nat.lt_or_ge k (sts.length - 1) with hlt | hge
    ·have hk2 : ((sts.drop (D.lo.getD recs.length 0)).dropLast)[k - D.lo.getD recs.length 0]? = some (H2, T2, e2) := by
      rw [List.getElem?_dropLast, if_pos (by rw [List.length_drop]; omega), List.getElem?_drop, show D.lo.getD recs.length 0 + (k - D.lo.getD recs.length 0) = k by omega]
      exact hk
     exact exAt_spec (hex h1) _ _ hk2
    ·have hk' : k = sts.length - 1 := by omega
     subst hk'
     rw [hat] at hk
     cases hk
     exact hrun h1 (fun e => by rw [e, hnx] at heff; cases heff)
  ·rcases Nat.lt_or_ge i recs.length with hi | hi
   ·rw [List.getElem?_append_left hi] at hx
    rw [List.take_append_of_le_length (by omega)]; exact hw.envs i x hx
   ·have hi' : i = recs.length := by have := (List.getElem?_eq_some_iff.1 hx).1; simp at this; omega
    subst hi'
    simp at hx
    subst hx
    rw [List.take_append_of_le_length (Nat.le_refl _), List.take_length]; exact hw.cur
  ·rw [envAfter_snoc, ← hw.cur]; rfl
theorem adraw_walkM {nx : Nat} {D : DCx} {ops : List Oper} {e0 : Env} (hck : effCk D.eff = true) (hnx : D.eff.contains nx = true) : ∀ (l : List Oper) (recs : List DRec) (sts : List Stg) (e : Env), WalkOkM nx D ops e0 recs sts e → ops.drop recs.length = l → recs.length ≤ ops.length → adraw D l recs sts e →
  ∃ recs' sts' H T i, WalkOkM nx D ops e0 recs' sts' (envAfter e0 recs') ∧ recs'.length = ops.length ∧ sts'.getLast? = some (H, T, i) ∧ D.K ⟨envAfter e0 recs', H, T⟩ ∧ sts'[0]? = sts[0]? ∧ (∃ q, recs' = recs ++ q) ∧ ∃ q, sts' = sts ++ q := by
 intro l
 induction l with
 | nil =>
  intro recs sts e hw hl hle h
  unfold adraw at h
  split at h
  ·rename_i H T i hlast
   have hlen : recs.length = ops.length := by
    have := congrArg List.length hl
    simp at this; omega
   have hc := hw.cur
   subst hc
   exact ⟨recs, sts, H, T, i, hw, hlen, hlast, h, rfl, ⟨[], by simp⟩, ⟨[], by simp⟩⟩
  ·exact h.elim
 | cons o r ih =>
  intro recs sts e hw hl hle h
  have hlt : recs.length < ops.length := by
   have := congrArg List.length hl
   simp at this; omega
  have hops : ops[recs.length]? = some o := by
   have := congrArg (fun l => l[0]?) hl
   simpa using this
  have hdrop : ops.drop (recs.length + 1) = r := by
   have := congrArg (fun l => l.drop 1) hl
   simpa [List.drop_drop, Nat.add_comm] using this
  have fin : ∀ {H T i0 run v H' T'}, sts.getLast? = some (H, T, i0) → (match o.guard with | none => run = true | some (j, want) => ∃ b, gval D.all j e = some b ∧ run = (b == some want)) → (run = false → v = .tup [] ∧ H' = H ∧ T' = T) → (run = true → recs.length ≠ nx → aexec D.C.P o e H T v H' T') →
    (D.eff.contains recs.length = false → H' = H ∧ T' = T) → dgo D (adraw D r) o recs sts e run v H' T' → ∃ recs' sts' H T i, WalkOkM nx D ops e0 recs' sts' (envAfter e0 recs') ∧ recs'.length = ops.length ∧ sts'.getLast? = some (H, T, i) ∧ D.K ⟨envAfter e0 recs', H, T⟩ ∧ sts'[0]? = sts[0]? ∧ (∃ q, recs' = recs ++ q) ∧ ∃ q, sts' = sts ++ q := by
   intro H T i0 run v H' T' hlast hg h1 h2 h3 h4
   obtain ⟨recs', sts', e', g1, g2, g3, g4, _, ⟨x9, g9, _⟩, ⟨q8, g8⟩, _⟩ := dgo_stepM hck hnx hw hops hlast hg h1 h2 h3 h4
   obtain ⟨r2, s2, H2, T2, i2, k1, k2, k3, k4, k5, ⟨q6, k6⟩, ⟨q7, k7⟩⟩ := ih recs' sts' e' g1 (by rw [g2]; exact hdrop) (by omega) g3
   exact ⟨r2, s2, H2, T2, i2, k1, k2, k3, k4, k5.trans g4, ⟨_, by rw [k6, g9, List.append_assoc]⟩, ⟨_, by rw [k7, g8, List.append_assoc]⟩⟩
  have exec : ∀ {H T i0}, sts.getLast? = some (H, T, i0) → (match o.guard with | none => true = true | some (j, want) => ∃ b, gval D.all j e = some b ∧ true = (b == some want)) → dexec D (adraw D r) o recs sts e H T →
    ∃ recs' sts' H T i, WalkOkM nx D ops e0 recs' sts' (envAfter e0 recs') ∧ recs'.length = ops.length ∧ sts'.getLast? = some (H, T, i) ∧ D.K ⟨envAfter e0 recs', H, T⟩ ∧ sts'[0]? = sts[0]? ∧ (∃ q, recs' = recs ++ q) ∧ ∃ q, sts' = sts ++ q := by
   intro H T i0 hlast hg hx
   unfold dexec at hx
   split at hx
   ·rename_i g as hcal
    obtain ⟨v, H', T', hc, hs, hd⟩ := hx
    refine fin (run := true) hlast hg (fun e => by cases e) (fun _ _ => ?_) hs hd
    unfold aexec; rw [hcal]; exact hc
   ·rename_i hcal
    split at hx
    ·rename_i v H' T' hop
     refine fin (run := true) hlast hg (fun e => by cases e) (fun _ _ => ?_) hx.1 hx.2
     unfold aexec; rw [hcal]; exact hop
    ·exact hx.elim
  unfold adraw at h
  split at h
  ·rename_i H T i0 hlast
   split at h
   ·rename_i hg
    exact exec hlast (by rw [hg]) h
   ·rename_i j want hg
    split at h
    ·rename_i b hb
     split at h
     ·rename_i hbw
      exact exec hlast (by rw [hg]; exact ⟨b, hb, by simp [hbw]⟩) h
     ·rename_i hbw
      exact fin (run := false) hlast (by rw [hg]; exact ⟨b, hb, by simp [hbw]⟩) (fun _ => ⟨rfl, rfl, rfl⟩) (fun e => by cases e) (fun _ => ⟨rfl, rfl⟩) h
    ·exact h.elim
  ·exact h.elim
def mexec (C : Cx) (o : Oper) (e : Env) (H : List Blk) (T : Toks) (κ : AV → List Blk → Toks → Prop) : Prop :=
 match acap0 C.P C.bx o e H with
 | some (m, ys, z) => ∀ nc : Nat, m ≤ nc → κ (.csl H.length m nc) (H ++ [.cells (ys ++ List.replicate ((nc - m) * z) .top)]) T
 | none => match acap o e with
  | some (t, t2, i, n, cap, x) => ∃ (el : TypeId) (vs xs : List AV) (m : Nat), C.P.underlying t = some (.slice el) ∧ H[i]? = some (.cells vs) ∧ vs.length = cap * C.P.cellsOf el ∧ asrc H (C.P.cellsOf el) x = some (m, xs) ∧ (n + m) * C.P.bytesOf el ≤ 140737488355328 ∧ n + m ≤ 9223372036854775807 ∧
    notInt C.P t2 = true ∧ (azero C.P el).isSome = true ∧
    (n + m ≤ cap → κ (.csl i (n + m) cap) (H.set i (.cells (vs.take (n * C.P.cellsOf el) ++ xs ++ vs.drop ((n + m) * C.P.cellsOf el)))) T) ∧
    ∀ nc, cap < n + m → n + m ≤ nc → κ (.csl H.length (n + m) nc) (H ++ [.cells (vs.take (n * C.P.cellsOf el) ++ xs ++ List.replicate ((nc - (n + m)) * C.P.cellsOf el) .top)]) T
  | none => False
theorem acap_congr {o : Oper} {e e' : Env} (h : ∀ x ∈ o.op.operands, aev e x = aev e' x) : acap o e = acap o e' := by
 unfold acap
 cases ho : o.op <;> try rfl
 rename_i c
 rw [ho] at h
 obtain ⟨callee, args, ats⟩ := c
 cases callee <;> try rfl
 rename_i bi
 cases bi <;> try rfl
 have h2 : args.toList.map (aev e) = args.toList.map (aev e') := List.map_congr_left fun x hx => h x (by simp only [Op.operands, Call.operands]; exact Array.mem_append.2 (.inr (Array.mem_toList_iff.1 hx)))
 simp only [h2]
theorem acap0_congr {P : Program} {bx : List Nat} {o : Oper} {e e' : Env} {H : List Blk} (h : ∀ x ∈ o.op.operands, aev e x = aev e' x) : acap0 P bx o e H = acap0 P bx o e' H := by
 obtain ⟨dst, op, type, pos, after, guard⟩ := o
 unfold acap0
 simp only at h ⊢
 cases op <;> try rfl
 rename_i c
 obtain ⟨callee, args, ats⟩ := c
 cases callee <;> try rfl
 rename_i bi
 cases bi <;> try rfl
 cases dst <;> try rfl
 have h2 : args.toList.map (aev e) = args.toList.map (aev e') := List.map_congr_left fun x hx => h x (by simp only [Op.operands, Call.operands]; exact Array.mem_append.2 (.inr (Array.mem_toList_iff.1 hx)))
 simp only [h2]
theorem mexec_congr {C : Cx} {o : Oper} {e e' : Env} {H : List Blk} {T : Toks} {κ : AV → List Blk → Toks → Prop} (h : ∀ x ∈ o.op.operands, aev e x = aev e' x) (k : mexec C o e H T κ) : mexec C o e' H T κ := by
 unfold mexec at k ⊢
 rw [← acap0_congr h, ← acap_congr h]
 exact k
theorem mexec_wp {C : Cx} {o : Oper} {e : Env} {H : List Blk} {T : Toks} {κ : AV → List Blk → Toks → Prop} (k : mexec C o e H T κ) {L : Lay} {w : World} {a : Act} (hc : Con L H T w) (he : EnvRep L H.length T w e a) {K : Act → World → Prop} {Q : Exit → Act → World → Prop}
  (hk : ∀ v H' T' cv w' L', κ v H' T' → Con L' H' T' w' → Rep L' H'.length T' w' v cv → Ev H.length T.length L H.length T w L' H'.length T' w' → K (a.put o.dst cv) w') : o.wp C.P a w K Q := by
 unfold mexec at k
 split at k
 ·rename_i m ys z hbo
  obtain ⟨nc, hnc, cv, w', L', hrun, hcon, hrep, hev⟩ := run_acap0 hbo hc he
  unfold Oper.wp
  rw [hrun]
  exact hk _ _ _ _ _ _ (k nc hnc) hcon hrep hev
 ·split at k
  ·rename_i t t2 i n cap x hac
   obtain ⟨el, vs, xs, m, hu, hH, hvs, hsrc, hby, hmax, hni, hzs, hk1, hk2⟩ := k
   unfold acap at hac
   split at hac
   ·rename_i args ats hop
    split at hac
    ·rename_i t' t2' i' n' cap' x' hts hargs
     cases hac
     have hts' : ats = #[t, t2] := by rw [← Array.toList_inj]; exact hts
     subst hts'
     have hl2 : args.toList.length = 2 := by have := congrArg List.length hargs; simpa using this
     match hal : args.toList, hl2, hargs with
     | [p, q], _, hargs =>
      simp only [List.map_cons, List.map_nil, List.cons.injEq, and_true] at hargs
      obtain ⟨e1, e2⟩ := hargs
      have h0 := he.aev p
      have h1 := he.aev q
      rw [e1] at h0; rw [e2] at h1
      have hargs' : args = #[p, q] := by rw [← Array.toList_inj]; exact hal
      subst hargs'
      have hex : ∀ cv w', (Builtin.append_ #[t, t2] o.type #[a.eval p, a.eval q]).run C.P w = .ok cv w' → (execOp a.eval o).run C.P w = .ok (.value cv) w' := fun cv w' hr => by
       simp only [execOp, hop, resolve, Sem.run_bind, Sem.run_pure, Result.andThen_ok, invoke, builtin, List.map_toArray, List.map_cons, List.map_nil, hr]
      rcases run_appC (ty := o.type) hc h0 h1 hu hH hvs hsrc hby hmax hni hzs with ⟨hle, cv, w', L', hrun, hcon, hrep, hev⟩ | ⟨hlt, nc, hnc, cv, w', L', hrun, hcon, hrep, hev⟩
      ·unfold Oper.wp
       rw [hex _ _ hrun]
       exact hk _ _ _ _ _ _ (hk1 hle) hcon hrep hev
      ·unfold Oper.wp
       rw [hex _ _ hrun]
       exact hk _ _ _ _ _ _ (hk2 nc hlt hnc) hcon hrep hev
    ·cases hac
   ·cases hac
  ·exact k.elim
def madraw (D : DCx) : Nat → List Oper → List DRec → List Stg → Env → Prop
 | _, [], _, _, _ => False
 | 0, o :: r, recs, sts, e => match sts.getLast? with
  | some (H, T, _) => match o.guard with
   | none => mexec D.C o e H T (fun v H' T' => dgo D (adraw D r) o recs sts e true v H' T')
   | some _ => False
  | none => False
 | n + 1, o :: r, recs, sts, e => match sts.getLast? with
  | some (H, T, _) => match o.guard with
   | none => dexec D (madraw D n r) o recs sts e H T
   | some (j, want) => match gval D.all j e with
    | some b => if b = some want then dexec D (madraw D n r) o recs sts e H T else dgo D (madraw D n r) o recs sts e false (.tup []) H T
    | none => False
  | none => False
theorem madraw_walk {nx : Nat} {D : DCx} {ops : List Oper} {e0 : Env} (hck : effCk D.eff = true) (hnx : D.eff.contains nx = true) : ∀ (n : Nat) (l : List Oper) (recs : List DRec) (sts : List Stg) (e : Env), WalkOkM nx D ops e0 recs sts e → ops.drop recs.length = l → recs.length ≤ ops.length → recs.length + n = nx → madraw D n l recs sts e →
  ∃ recs' sts' H T i o r, WalkOkM nx D ops e0 recs' sts' (envAfter e0 recs') ∧ recs'.length = nx ∧ sts'.getLast? = some (H, T, i) ∧ sts'[0]? = sts[0]? ∧ ops.drop nx = o :: r ∧ o.guard = none ∧ mexec D.C o (envAfter e0 recs') H T (fun v H' T' => dgo D (adraw D r) o recs' sts' (envAfter e0 recs') true v H' T') := by
 intro n
 induction n with
 | zero =>
  intro l recs sts e hw hl hle hn h
  cases l with
  | nil => exact h.elim
  | cons o r =>
   unfold madraw at h
   split at h
   ·rename_i H T i hlast
    split at h
    ·rename_i hg
     have hc := hw.cur
     subst hc
     exact ⟨recs, sts, H, T, i, o, r, hw, by omega, hlast, rfl, by rw [← hl]; congr 1; omega, hg, h⟩
    ·exact h.elim
   ·exact h.elim
 | succ n ih =>
  intro l recs sts e hw hl hle hn h
  cases l with
  | nil => exact h.elim
  | cons o r =>
  have hlt : recs.length < ops.length := by
   have := congrArg List.length hl
   simp at this; omega
  have hops : ops[recs.length]? = some o := by
   have := congrArg (fun l => l[0]?) hl
   simpa using this
  have hdrop : ops.drop (recs.length + 1) = r := by
   have := congrArg (fun l => l.drop 1) hl
   simpa [List.drop_drop, Nat.add_comm] using this
  have fin : ∀ {H T i0 run v H' T'}, sts.getLast? = some (H, T, i0) → (match o.guard with | none => run = true | some (j, want) => ∃ b, gval D.all j e = some b ∧ run = (b == some want)) → (run = false → v = .tup [] ∧ H' = H ∧ T' = T) → (run = true → recs.length ≠ nx → aexec D.C.P o e H T v H' T') →
    (D.eff.contains recs.length = false → H' = H ∧ T' = T) → dgo D (madraw D n r) o recs sts e run v H' T' → ∃ recs' sts' H T i o r, WalkOkM nx D ops e0 recs' sts' (envAfter e0 recs') ∧ recs'.length = nx ∧ sts'.getLast? = some (H, T, i) ∧ sts'[0]? = sts[0]? ∧ ops.drop nx = o :: r ∧ o.guard = none ∧ mexec D.C o (envAfter e0 recs') H T (fun v H' T' => dgo D (adraw D r) o recs' sts' (envAfter e0 recs') true v H' T') := by
   intro H T i0 run v H' T' hlast hg h1 h2 h3 h4
   obtain ⟨recs', sts', e', g1, g2, g3, g4, _⟩ := dgo_stepM hck hnx hw hops hlast hg h1 h2 h3 h4
   obtain ⟨r2, s2, H2, T2, i2, o2, q2, k1, k2, k3, k4, k5⟩ := ih r recs' sts' e' g1 (by rw [g2]; exact hdrop) (by omega) (by omega) g3
   exact ⟨r2, s2, H2, T2, i2, o2, q2, k1, k2, k3, k4.trans g4, k5⟩
  have exec : ∀ {H T i0}, sts.getLast? = some (H, T, i0) → (match o.guard with | none => true = true | some (j, want) => ∃ b, gval D.all j e = some b ∧ true = (b == some want)) → dexec D (madraw D n r) o recs sts e H T →
    ∃ recs' sts' H T i o r, WalkOkM nx D ops e0 recs' sts' (envAfter e0 recs') ∧ recs'.length = nx ∧ sts'.getLast? = some (H, T, i) ∧ sts'[0]? = sts[0]? ∧ ops.drop nx = o :: r ∧ o.guard = none ∧ mexec D.C o (envAfter e0 recs') H T (fun v H' T' => dgo D (adraw D r) o recs' sts' (envAfter e0 recs') true v H' T') := by
   intro H T i0 hlast hg hx
   unfold dexec at hx
   split at hx
   ·rename_i g as hcal
    obtain ⟨v, H', T', hc, hs, hd⟩ := hx
    refine fin (run := true) hlast hg (fun e => by cases e) (fun _ _ => ?_) hs hd
    unfold aexec; rw [hcal]; exact hc
   ·rename_i hcal
    split at hx
    ·rename_i v H' T' hop
     refine fin (run := true) hlast hg (fun e => by cases e) (fun _ _ => ?_) hx.1 hx.2
     unfold aexec; rw [hcal]; exact hop
    ·exact hx.elim
  unfold madraw at h
  split at h
  ·rename_i H T i0 hlast
   split at h
   ·rename_i hg
    exact exec hlast (by rw [hg]) h
   ·rename_i j want hg
    split at h
    ·rename_i b hb
     split at h
     ·rename_i hbw
      exact exec hlast (by rw [hg]; exact ⟨b, hb, by simp [hbw]⟩) h
     ·rename_i hbw
      exact fin (run := false) hlast (by rw [hg]; exact ⟨b, hb, by simp [hbw]⟩) (fun _ => ⟨rfl, rfl, rfl⟩) (fun e => by cases e) (fun _ => ⟨rfl, rfl⟩) h
    ·exact h.elim
  ·exact h.elim
theorem core_game {C : Cx} {ops : List Oper} {Q : Exit → St → Prop} {s' : St} {K : St → Prop} {eff lo : List Nat} {na : List (List Nat)} (hck : drawCk ops eff lo na = true) (hef : effCk eff = true) {nx : Nat} {L0 : Lay} {w0 : World} {D : DCx}
  (hDC : D.C = C) (hDe : D.eff = eff) (hDl : D.lo = lo) (hDn : D.na = na) (hDa : D.all = ops.toArray) {recs : List DRec} {sts : List Stg} (hlen : recs.length = ops.length) (hro : ∀ (i : Nat) (x : DRec), recs[i]? = some x → ops[i]? = some x.o)
  (Rk : Nat → Prop) (hnx : ∀ i, Rk i → i ≠ nx) (hRk : ∀ (i : Nat) (x : DRec), recs[i]? = some x → Rk i → RecOkM nx D ops sts recs i x) (henvs : ∀ (i : Nat) (x : DRec), recs[i]? = some x → Rk i → x.e = envAfter s'.e (recs.take i))
  (hks : ∀ (i : Nat) (x : DRec), recs[i]? = some x → Rk i → x.k = (D.eff.filter (· < i)).length) (J : Array Bool → Prop) (hJ : ∀ listed i, Rk i → J listed → J (listed.setIfInBounds i true))
  (hfin : ∀ (listed : Array Bool) (a : Act) (w : World), Inv D s' recs sts L0 w0 listed a w → J listed → (∀ i, i < ops.length → listed.getD i false = true) → Post C (ExitK K Q) L0 s' w0 .normal a w)
  (hother : ∀ (fuel : Nat) (listed : Array Bool) (a : Act) (w : World), Inv D s' recs sts L0 w0 listed a w → J listed → ∀ i, i ∈ Region.ready .any ops.toArray listed → ¬ Rk i →
   ((∀ j, j < ops.length → (listed.setIfInBounds i true).getD j false = true) ∨ (List.range ops.length).countP (fun j => !(listed.setIfInBounds i true).getD j false) ≤ fuel) →
   wpOp C.P ops.toArray (Post C (ExitK K Q) L0 s' w0) i (wpAny C.P .any ops.toArray (Post C (ExitK K Q) L0 s' w0) fuel (listed.setIfInBounds i true)) a w) :
  ∀ (fuel : Nat) (listed : Array Bool) (a : Act) (w : World), Inv D s' recs sts L0 w0 listed a w → J listed → (∀ i, i < ops.length → listed.getD i false = true) ∨ (List.range ops.length).countP (fun i => !listed.getD i false) ≤ fuel →
   wpAny C.P .any ops.toArray (Post C (ExitK K Q) L0 s' w0) fuel listed a w := by
 obtain ⟨d1, d2, d3, d4, d5, d6, d7⟩ := drawCk_spec hck
 have hmap : recs.map (·.o) = ops := by
  apply List.ext_getElem?
  intro i
  rw [List.getElem?_map]
  by_cases hi : i < recs.length
  ·rw [List.getElem?_eq_getElem hi, Option.map_some, hro i _ (List.getElem?_eq_getElem hi)]
  ·rw [List.getElem?_eq_none (by omega), List.getElem?_eq_none (by omega)]; rfl
 have hrec : ∀ i, i < ops.length → ∃ x : DRec, recs[i]? = some x := fun i hi => ⟨_, List.getElem?_eq_getElem (by omega)⟩
 have stp : ∀ (listed : Array Bool) (a : Act) (w : World) (i : Nat) (KK : Act → World → Prop), Inv D s' recs sts L0 w0 listed a w → Rk i → i ∈ Region.ready .any ops.toArray listed →
   (∀ a' w', Inv D s' recs sts L0 w0 (listed.setIfInBounds i true) a' w' → KK a' w') → wpOp C.P ops.toArray (Post C (ExitK K Q) L0 s' w0) i KK a w := by
  intro listed a w i KK hI hrk hi hKK'
  obtain ⟨hnl, o, ho, hready⟩ := mem_ready.1 hi
  rw [List.getElem?_toArray] at ho
  have hil : i < ops.length := (List.getElem?_eq_some_iff.1 ho).1
  have hisz : i < listed.size := by rw [hI.size]; omega
  have hnl' : listed.getD i false = false := by rw [← getD_false hisz]; exact hnl
  obtain ⟨x, hx⟩ := hrec i hil
  have hox : x.o = o := by have := hro i x hx; rw [ho] at this; injection this with this; exact this.symm
  have hR := hRk i x hx hrk
  have hcl : ∀ i j, listed.getD i false = true → anc (ancs ops []) j i = true → listed.getD j false = true := by
   have := hI.closed; rw [hmap] at this; exact this
  have hancl : ∀ j, anc (ancs ops []) j i = true → listed.getD j false = true := fun j hj => anc_listed hcl ho hready (d6 i o ho) hj
  obtain ⟨k, H, T, e, L, hk, hkl, hstk, hcon, hnb, htb, hslots, hev⟩ := hI.st
  rw [hDe] at hk hkl
  rw [hDC] at hnb htb hev
  have hlook : ∀ t ∈ o.looksAt ops.toArray, ∀ v, VS recs listed s'.e t v → v = eget x.e t := by
   intro t ht v hv
   rw [henvs i x hx hrk]
   have hw_ : ∀ (j : Nat) (z : DRec), recs[j]? = some z → z.o.dst = some t → i ≠ j ∧ ((j < i ∧ anc (ancs ops []) j i = true) ∨ (i < j ∧ anc (ancs ops []) i j = true)) := fun j z hz hd => d2 i j o z.o t ho (hro j z hz) ht hd
   rcases hv with ⟨j, z, hz, hd, hl, rfl⟩ | ⟨hno, rfl⟩
   ·obtain ⟨hne, h1 | h1⟩ := hw_ j z hz hd
    ·rw [eget_envAfter_at (recs.take i) s'.e t j z (by rw [List.getElem?_take, if_pos h1.1]; exact hz) hd (fun i' y' hy' hd' => by
      rw [List.getElem?_take] at hy'
      split at hy'
      ·exact d1 i' j y'.o z.o t (hro i' y' hy') (hro j z hz) hd' hd
      ·cases hy')]
    ·have := hcl j i hl h1.2
     rw [hnl'] at this; cases this
   ·rw [eget_envAfter_none (recs.take i) s'.e t (fun z hz hd => by
     obtain ⟨j, hj, e1⟩ := List.mem_iff_getElem.1 hz
     simp at hj
     have hz' : recs[j]? = some z := by rw [List.getElem?_eq_getElem (by omega), ← e1]; simp
     have hf := hno j z hz' hd
     obtain ⟨hne, h1 | h1⟩ := hw_ j z hz' hd
     ·have := hancl j h1.2; rw [hf] at this; cases this
     ·omega)]
  have henv : EnvRep L H.length T w (keepOf x.e (o.looksAt ops.toArray)) a := by
   intro t
   rw [eget_keepOf]
   split
   ·rename_i ht
    obtain ⟨v, hv, hr⟩ := hslots t
    rw [← hlook t ht v hv]; exact hr
   ·exact .top _
  have haev : ∀ z ∈ o.op.operands, aev x.e z = aev (keepOf x.e (o.looksAt ops.toArray)) z := by
   intro z hz
   cases z with
   | tmp t =>
    have : t ∈ o.looksAt ops.toArray := by
     unfold Oper.looksAt
     exact List.mem_append.2 (.inl (List.mem_filterMap.2 ⟨_, Array.mem_toList_iff.2 hz, rfl⟩))
    simp only [aev, eget_keepOf, if_pos this]
   | _ => rfl
  have behind : ∀ (H' : List Blk) (T' : Toks) (cv : Value) (w' : World) (L' : Lay), Con L' H' T' w' → Rep L' H'.length T' w' x.v cv → Ev H.length T.length L H.length T w L' H'.length T' w' →
    ((eff.contains i = false ∧ H' = H ∧ T' = T) ∨ (eff.contains i = true ∧ eff[k]? = some i ∧ ∃ e', sts[k + 1]? = some (H', T', e'))) → KK (a.put o.dst cv) w' := by
   intro H' T' cv w' L' hcon' hrep' hev' hor
   refine hKK' _ _ ⟨by simp [hI.size], fun i' j' hl' hanc' => ?_, ?_, ?_, by cases o.dst <;> exact hI.defers⟩
   ·rw [hmap] at hanc'
    by_cases hii : i = i'
    ·subst hii
     have := hancl j' hanc'
     by_cases hij : i = j'
     ·subst hij; rw [hnl'] at this; cases this
     ·rw [getD_set_ne false hij]; exact this
    ·rw [getD_set_ne false hii] at hl'
     have := hcl i' j' hl' hanc'
     exact getD_set_true this
   ·have hval : ∀ t, ∃ v, VS recs (listed.setIfInBounds i true) s'.e t v ∧ Rep L' H'.length T' w' v ((a.put o.dst cv).tmps.getD t undef) := by
     intro t
     by_cases hd : o.dst = some t
     ·refine ⟨x.v, .inl ⟨i, x, hx, by rw [hox]; exact hd, by simp [hisz], rfl⟩, ?_⟩
      have hlt : t < a.tmps.size := by rw [hI.tmps]; exact hR.dst t (by rw [hox]; exact hd)
      rw [hd, getD_put a t t cv hlt, if_pos rfl]
      exact hrep'
     ·obtain ⟨v, hv, hr⟩ := hslots t
      refine ⟨v, ?_, ?_⟩
      ·rcases hv with ⟨j, z, hz, hzd, hl, rfl⟩ | ⟨hno, rfl⟩
       ·exact .inl ⟨j, z, hz, hzd, getD_set_true hl, rfl⟩
       ·refine .inr ⟨fun j z hz hzd => ?_, rfl⟩
        have hij : i ≠ j := by
         rintro rfl
         rw [hx] at hz
         cases hz
         rw [hox] at hzd; exact hd hzd
        rw [getD_set_ne false hij]; exact hno j z hz hzd
      ·have e1 : (a.put o.dst cv).tmps.getD t undef = a.tmps.getD t undef := by
        cases hdst : o.dst with
        | none => rfl
        | some d =>
         have hlt : d < a.tmps.size := by rw [hI.tmps]; exact hR.dst d (by rw [hox]; exact hdst)
         rw [getD_put a d t cv hlt, if_neg (fun e => hd (by rw [hdst, e]))]
       rw [e1]; exact hr.keep hev'.keeps
    have hev2 := hev.trans (hev'.mono hnb htb)
    rcases hor with ⟨hne, rfl, rfl⟩ | ⟨heq, hek, e', hst'⟩
    ·refine ⟨k, H', T', e, L', fun m i' hm' => ?_, by rw [hDe]; exact hkl, hstk, hcon', by rw [hDC]; exact hnb, by rw [hDC]; exact htb, hval, by rw [hDC]; exact hev2⟩
     rw [hDe] at hm'
     have hii : i ≠ i' := by
      rintro rfl
      have := List.mem_of_getElem? hm'
      rw [← List.contains_iff_mem] at this
      rw [hne] at this; cases this
     rw [getD_set_ne false hii]; exact hk m i' hm'
    ·refine ⟨k + 1, H', T', e', L', fun m i' hm' => ?_, by rw [hDe]; have := (List.getElem?_eq_some_iff.1 hek).1; omega, hst', hcon', by rw [hDC]; exact Nat.le_trans hnb hev'.n, by rw [hDC]; exact Nat.le_trans htb hev'.t, hval, by rw [hDC]; exact hev2⟩
     rw [hDe] at hm'
     by_cases hii : i = i'
     ·subst hii
      have e1 := (effCk_spec hef heq).1
      have hmk : ∀ m', eff[m']? = some i → m' = (eff.filter (· < i)).length := by
       intro m' hm''
       have hml := (List.getElem?_eq_some_iff.1 hm'').1
       have := List.all_eq_true.1 hef m' (List.mem_range.2 hml)
       simp only [Bool.and_eq_true, beq_iff_eq, List.getD_eq_getElem?_getD, hm'', Option.getD_some] at this
       exact this.1.symm
      have h1 := hmk m hm'
      have h2 := hmk k hek
      simp [hisz]; omega
     ·rw [getD_set_ne false hii, hk m i' hm']
      constructor
      ·intro h; omega
      ·intro h
       rcases Nat.lt_or_ge m k with h1 | h1
       ·exact h1
       ·have : m = k := by omega
        subst this
        rw [hek] at hm'
        injection hm' with hm'
        exact absurd hm' hii
   ·simp [Act.put]; cases o.dst <;> simp [hI.tmps]
  have hstage : eff.contains i = true → eff[k]? = some i ∧ x.k = k := by
   intro heq
   obtain ⟨e1, _⟩ := effCk_spec hef heq
   have hxk := hks i x hx hrk
   rw [hDe] at hxk
   have hge : k ≤ (eff.filter (· < i)).length := by
    rcases Nat.lt_or_ge (eff.filter (· < i)).length k with h1 | h1
    ·have := (hk _ i e1).2 h1
     rw [hnl'] at this; cases this
    ·exact h1
   have hle : (eff.filter (· < i)).length ≤ k := by
    rcases Nat.eq_zero_or_pos (eff.filter (· < i)).length with h0 | h0
    ·omega
    ·obtain ⟨e', h1, h2⟩ := (d3 _ i e1).2 h0
     have := (hk _ e' h1).1 (hancl e' h2)
     omega
   have : (eff.filter (· < i)).length = k := by omega
   exact ⟨by rw [← this]; exact e1, by omega⟩
  have hgv : ∀ j b, gval D.all j x.e = some b → o.guard = some (j, true) ∨ o.guard = some (j, false) → yielded ops.toArray a.tmps j = b := by
   intro j b hb hg
   rw [hDa] at hb
   refine yielded_gval henv ?_
   unfold gval at hb ⊢
   split at hb
   ·rename_i d hd
    have : d ∈ o.looksAt ops.toArray := by
     unfold Oper.looksAt
     refine List.mem_append.2 (.inr ?_)
     rcases hg with hg | hg <;> rw [hg] <;> simp only [hd] <;> simp
    rw [eget_keepOf, if_pos this]
    exact hb
   ·cases hb
  unfold wpOp
  rw [List.getElem?_toArray, ho]
  dsimp only
  have hgate := hR.gate
  rw [hox] at hgate
  by_cases hrun : x.run = true
  ·
   have hwant : Region.wanted o (yielded ops.toArray a.tmps) = true := by
    unfold Region.wanted
    cases hg : o.guard with
    | none => rfl
    | some jw =>
     obtain ⟨j, want⟩ := jw
     rw [hg] at hgate
     obtain ⟨b, hb, hb2⟩ := hgate
     have := hgv j b hb (by cases want <;> simp [hg])
     rw [hrun] at hb2
     simp only [this]
     have hbw : b = some want := by simpa using hb2.symm
     simp [hbw]
   rw [if_pos hwant]
   refine .inl ?_
   have hxx : ∃ H' T', aexec C.P o x.e H T x.v H' T' ∧ ((eff.contains i = false ∧ H' = H ∧ T' = T) ∨ (eff.contains i = true ∧ eff[k]? = some i ∧ ∃ e', sts[k + 1]? = some (H', T', e'))) := by
    cases heq : eff.contains i with
    | false =>
     have hxe : x.eff = false := by rw [hR.eff, hDe]; exact heq
     have hst := hR.still hrun hxe k H T e hstk ?_ ?_
     ·rw [hDC, hox] at hst; exact ⟨H, T, hst, .inl ⟨rfl, rfl, rfl⟩⟩
     ·rw [hDl]
      refine Nat.le_trans (d4 i hil) ?_
      unfold effIn
      have hsub : ∀ e' ∈ eff.filter (fun e => anc (ancs ops []) e i), ∃ m, m < k ∧ eff[m]? = some e' := by
       intro e' he'
       obtain ⟨h1, h2⟩ := List.mem_filter.1 he'
       obtain ⟨m, hm1, hm2⟩ := List.mem_iff_getElem.1 h1
       have hm3 : eff[m]? = some e' := by rw [List.getElem?_eq_getElem hm1, hm2]
       exact ⟨m, (hk m e' hm3).1 (hancl e' h2), hm3⟩
      have hle : (eff.filter (fun e => anc (ancs ops []) e i)).length ≤ (eff.take k).length := by
       have e1 : eff.filter (fun e => anc (ancs ops []) e i) = (eff.take k).filter (fun e => anc (ancs ops []) e i) ++ (eff.drop k).filter (fun e => anc (ancs ops []) e i) := by
        rw [← List.filter_append, List.take_append_drop]
       have e2 : (eff.drop k).filter (fun e => anc (ancs ops []) e i) = [] := by
        rw [List.filter_eq_nil_iff]
        intro e' he' hanc'
        obtain ⟨m, hm1, hm2⟩ := List.mem_iff_getElem.1 he'
        simp at hm1
        have hm3 : eff[k + m]? = some e' := by
         rw [List.getElem?_eq_getElem (by omega), ← hm2]; simp
        have := (hk (k + m) e' hm3).1 (hancl e' hanc')
        omega
       rw [e1, e2, List.append_nil]
       exact List.length_filter_le _ _
      refine Nat.le_trans hle ?_
      simp; omega
     ·rcases Nat.lt_or_ge x.k k with hlt | hge
      ·right
       rw [hDn]
       have hkk : k - 1 < eff.length := by omega
       have he' := List.getElem?_eq_getElem hkk
       have hll := (hk (k - 1) _ he').2 (by omega)
       have hgt : i < eff[k - 1] := by
        rcases Nat.lt_or_ge i eff[k - 1] with h1 | h1
        ·exact h1
        ·exfalso
         have hne : eff[k - 1] ≠ i := by
          intro e1
          have := List.mem_of_getElem? he'
          rw [e1, ← List.contains_iff_mem] at this
          rw [heq] at this; cases this
         have hxk := hks i x hx hrk
         rw [hDe] at hxk
         have h2 := List.all_eq_true.1 hef (k - 1) (List.mem_range.2 hkk)
         simp only [Bool.and_eq_true, beq_iff_eq, List.getD_eq_getElem?_getD, he', Option.getD_some] at h2
         have h3 : (eff.filter (· < eff[k - 1] + 1)).length ≤ (eff.filter (· < i)).length := by
          rw [← List.countP_eq_length_filter, ← List.countP_eq_length_filter]
          exact List.countP_mono_left (fun z _ hz => by simp at hz ⊢; omega)
         omega
       rcases d5 (k - 1) _ he' i hgt with h1 | h1 | h1
       ·rw [heq] at h1; cases h1
       ·exact h1
       ·have := hcl _ i hll h1
        rw [hnl'] at this; cases this
      ·exact .inl hge
    | true =>
     have hxe : x.eff = true := by rw [hR.eff, hDe]; exact heq
     obtain ⟨hek, hxk⟩ := hstage heq
     obtain ⟨Ha, Ta, ea, Hb, Tb, g1, g2, g3, _⟩ := hR.effect hxe
     rw [hxk, hstk] at g1
     obtain ⟨rfl, rfl⟩ : H = Ha ∧ T = Ta := by injection g1 with h1; injection h1 with h1 h2; injection h2 with h2 h3; exact ⟨h1, h2⟩
     rw [hxk] at g2
     have := g3 hrun (hnx i hrk)
     rw [hDC, hox] at this
     exact ⟨Hb, Tb, this, .inr ⟨rfl, hek, i, g2⟩⟩
   obtain ⟨H', T', hex, hor⟩ := hxx
   exact aexec_wp (aexec_congr haev hex) hcon henv fun cv w' L' g1 g2 g3 => behind H' T' cv w' L' g1 g2 g3 hor
  ·
   have hrun' : x.run = false := by simpa using hrun
   have hwant : Region.wanted o (yielded ops.toArray a.tmps) = false := by
    unfold Region.wanted
    cases hg : o.guard with
    | none => rw [hg] at hgate; rw [hgate] at hrun'; cases hrun'
    | some jw =>
     obtain ⟨j, want⟩ := jw
     rw [hg] at hgate
     obtain ⟨b, hb, hb2⟩ := hgate
     have := hgv j b hb (by cases want <;> simp [hg])
     rw [hrun'] at hb2
     simp only [this]
     have hbw : b ≠ some want := by simpa using hb2.symm
     simp [hbw]
   rw [if_neg (by simp [hwant])]
   have hv : x.v = .tup [] := hR.skip hrun'
   cases heq : eff.contains i with
   | false => exact behind H T undef w L hcon (by rw [hv]; exact .tup [] #[] rfl (fun j hj => by simp at hj)) (Ev.refl (Nat.le_refl _) (Nat.le_refl _)) (.inl ⟨heq, rfl, rfl⟩)
   | true =>
    have hxe : x.eff = true := by rw [hR.eff, hDe]; exact heq
    obtain ⟨hek, hxk⟩ := hstage heq
    obtain ⟨Ha, Ta, ea, Hb, Tb, g1, g2, _, g4⟩ := hR.effect hxe
    rw [hxk, hstk] at g1
    obtain ⟨rfl, rfl⟩ : H = Ha ∧ T = Ta := by injection g1 with h1; injection h1 with h1 h2; injection h2 with h2 h3; exact ⟨h1, h2⟩
    obtain ⟨rfl, rfl⟩ := g4 hrun'
    rw [hxk] at g2
    exact behind _ _ undef w L hcon (by rw [hv]; exact .tup [] #[] rfl (fun j hj => by simp at hj)) (Ev.refl (Nat.le_refl _) (Nat.le_refl _)) (.inr ⟨heq, hek, i, g2⟩)
 have some_ready : ∀ (listed : Array Bool), listed.size = recs.length → Region.ready .any ops.toArray listed = [] → ∀ i, i < ops.length → listed.getD i false = true := by
  intro listed hsz hr i
  induction i using Nat.strongRecOn with
  | _ i ih =>
   intro hil
   cases hli : listed.getD i false with
   | true => rfl
   | false =>
    exfalso
    have hmem : i ∈ Region.ready .any ops.toArray listed := by
     refine mem_ready.2 ⟨by rw [getD_false (by omega)]; exact hli, ops[i], by rw [List.getElem?_toArray, List.getElem?_eq_getElem hil], fun e he hb => ?_⟩
     have hlt := d6 i _ (List.getElem?_eq_getElem hil) e he hb
     exact ih e.on hlt (by omega)
    rw [hr] at hmem
    simp at hmem
 intro fuel
 induction fuel with
 | zero =>
  intro listed a w hI hJ' hcnt
  have hall : ∀ i, i < ops.length → listed.getD i false = true := by
   rcases hcnt with h1 | h1
   ·exact h1
   ·intro i hi
    have h2 : (List.range ops.length).countP (fun i => !listed.getD i false) = 0 := by omega
    have := List.countP_eq_zero.1 h2 i (List.mem_range.2 hi)
    simpa using this
  refine ⟨?_, hfin listed a w hI hJ' hall⟩
  rw [List.eq_nil_iff_forall_not_mem]
  intro i hi
  obtain ⟨h1, o, ho, _⟩ := mem_ready.1 hi
  rw [List.getElem?_toArray] at ho
  have hil := (List.getElem?_eq_some_iff.1 ho).1
  rw [getD_false (by rw [hI.size]; omega), hall i hil] at h1
  cases h1
 | succ fuel ih =>
  intro listed a w hI hJ' hcnt
  refine ⟨fun hr => hfin listed a w hI hJ' (some_ready listed hI.size hr), fun i hi => ?_⟩
  have hcnt' : i ∈ Region.ready .any ops.toArray listed → (∀ j, j < ops.length → (listed.setIfInBounds i true).getD j false = true) ∨ (List.range ops.length).countP (fun j => !(listed.setIfInBounds i true).getD j false) ≤ fuel := fun hi => ?_
  ·by_cases hrk : Rk i
   ·exact stp listed a w i _ hI hrk hi fun a' w' hI' => ih _ a' w' hI' (hJ _ _ hrk hJ') (hcnt' hi)
   ·exact hother fuel listed a w hI hJ' i hi hrk (hcnt' hi)
  obtain ⟨h1, o, ho, _⟩ := mem_ready.1 hi
  rw [List.getElem?_toArray] at ho
  have hil := (List.getElem?_eq_some_iff.1 ho).1
  have hisz : i < listed.size := by rw [hI.size]; omega
  rw [getD_false hisz] at h1
  rcases hcnt with h2 | h2
  ·rw [h2 i hil] at h1; cases h1
  ·right
   have : (List.range ops.length).countP (fun j => !(listed.setIfInBounds i true).getD j false) + 1 ≤ (List.range ops.length).countP (fun j => !listed.getD j false) := by
    have hsplit : (List.range ops.length).countP (fun j => !listed.getD j false) = (List.range ops.length).countP (fun j => !(listed.setIfInBounds i true).getD j false) + (List.range ops.length).countP (fun j => decide (j = i)) := by
     generalize List.range ops.length = l
     induction l with
     | nil => rfl
     | cons y r ihl =>
      simp only [List.countP_cons, ihl]
      by_cases hy : y = i
      ·subst hy
       simp [h1, hisz]; omega
      ·rw [getD_set_ne false (fun e => hy e.symm)]
       simp [hy]; omega
    have hpos : 0 < (List.range ops.length).countP (fun j => decide (j = i)) := List.countP_pos_iff.2 ⟨i, List.mem_range.2 hil, by simp⟩
    omega
   omega
def mCk (ops : List Oper) (eff : List Nat) (nx : Nat) : Bool :=
 (eff[0]? == some nx) && (List.range ops.length).all fun i => decide (i ≤ nx) || anc (ancs ops []) nx i
theorem drawM_game {C : Cx} {ops : List Oper} {Q : Exit → St → Prop} {s : St} (K : St → Prop) (nx : Nat) (eff lo : List Nat) (na : List (List Nat)) (hck : drawCk ops eff lo na = true) (hef : effCk eff = true) (hm : mCk ops eff nx = true)
  (h : madraw ⟨C, ops.toArray, eff, lo, na, K⟩ nx ops [] [(s.H, s.T, 0)] (prune C.nv s.e)) : ∀ L0 w0 a0, ConSt C s L0 w0 a0 →
   wpAny C.P .any ops.toArray (Post C (ExitK K Q) L0 s w0) ops.toArray.size (Array.replicate ops.toArray.size false) a0 { w0 with drawn := w0.drawn + 1 } := by
 intro L0 w0 a0 hc0
 have hc : ConSt C ⟨prune C.nv s.e, s.H, s.T⟩ L0 w0 a0 := ⟨hc0.nb, hc0.tb, hc0.con, hc0.size, hc0.defers, fun t => by
  rcases eget_prune C.nv s.e t with e | e <;> rw [e]
  ·exact hc0.env t
  ·exact .top _⟩
 generalize hs' : (⟨prune C.nv s.e, s.H, s.T⟩ : St) = s' at hc
 have hs1 : prune C.nv s.e = s'.e := by rw [← hs']
 have hs2 : s.H = s'.H := by rw [← hs']
 have hs3 : s.T = s'.T := by rw [← hs']
 rw [hs1, hs2, hs3] at h
 rw [show Post C (ExitK K Q) L0 s w0 = Post C (ExitK K Q) L0 s' w0 by unfold Post; rw [hs2, hs3]]
 clear hs' hs1 hs2 hs3 hc0
 generalize hD : (⟨C, ops.toArray, eff, lo, na, K⟩ : DCx) = D at h
 have hDC : D.C = C := by rw [← hD]
 have hDe : D.eff = eff := by rw [← hD]
 have hDl : D.lo = lo := by rw [← hD]
 have hDn : D.na = na := by rw [← hD]
 have hDa : D.all = ops.toArray := by rw [← hD]
 have hDK : D.K = K := by rw [← hD]
 unfold mCk at hm
 simp only [Bool.and_eq_true, beq_iff_eq, List.all_eq_true, List.mem_range, Bool.or_eq_true, decide_eq_true_eq] at hm
 obtain ⟨hm0, hmA⟩ := hm
 have hnxe : eff.contains nx = true := by rw [List.contains_iff_mem]; exact List.mem_of_getElem? hm0
 have hnxD : D.eff.contains nx = true := by rw [hDe]; exact hnxe
 have hfl0 : (eff.filter (· < nx)).length = 0 := by
  have := List.all_eq_true.1 hef 0 (List.mem_range.2 (List.getElem?_eq_some_iff.1 hm0).1)
  simp only [Bool.and_eq_true, beq_iff_eq, List.getD_eq_getElem?_getD, hm0, Option.getD_some] at this
  exact this.1
 have hefge : ∀ m i, eff[m]? = some i → nx ≤ i := fun m i hmi => by
  rcases Nat.lt_or_ge i nx with h1 | h1
  ·have : i ∈ eff.filter (· < nx) := List.mem_filter.2 ⟨List.mem_of_getElem? hmi, by simpa using h1⟩
   rw [List.length_eq_zero_iff.1 hfl0] at this
   simp at this
  ·exact h1
 obtain ⟨recs1, sts1, H1, T1, i1, o, r, hw1, hl1, hlast1, hst01, hdrop, hguard, hmx⟩ := madraw_walk (D := D) (ops := ops) (e0 := s'.e) (by rw [hDe]; exact hef) hnxD nx ops [] [(s'.H, s'.T, 0)] s'.e
  ⟨⟨by simp, fun i x hx => by simp at hx⟩, fun i x hx => by simp at hx, fun i x hx => by simp at hx, rfl⟩ (by simp) (by simp) (by simp) h
 obtain ⟨d1, d2, d3, d4, d5, d6, d7⟩ := drawCk_spec hck
 have hnxl : nx < ops.length := (d3 0 nx hm0).1
 have hon : ops[nx]? = some o := by
  have := congrArg (fun l => l[0]?) hdrop
  simpa using this
 have hsl1 : sts1.length = 1 := by
  have := hw1.st.len
  rw [hDe, hl1, hfl0] at this
  exact this
 have hsts1 : sts1 = [(s'.H, s'.T, 0)] := by
  match sts1, hsl1, hst01 with
  | [x], _, h0 => simpa using h0
 subst hsts1
 simp only [List.getLast?_singleton, Option.some.injEq, Prod.mk.injEq] at hlast1
 obtain ⟨rfl, rfl, rfl⟩ := hlast1
 obtain ⟨recsP, hP⟩ : ∃ l, l = recs1 ++ (ops.drop nx).map fun o => (⟨o, [], false, .top, 0, false⟩ : DRec) := ⟨_, rfl⟩
 have hPlen : recsP.length = ops.length := by rw [hP]; simp [hl1]; omega
 have hPlo : ∀ i, i < nx → recsP[i]? = recs1[i]? := fun i hi => by rw [hP, List.getElem?_append_left (by omega)]
 have hPo : ∀ (i : Nat) (x : DRec), recsP[i]? = some x → ops[i]? = some x.o := fun i x hx => by
  rcases Nat.lt_or_ge i nx with hi | hi
  ·rw [hPlo i hi] at hx
   exact (hw1.rcs i x hx).o
  ·rw [hP, List.getElem?_append_right (by omega), hl1, List.getElem?_map, List.getElem?_drop, show nx + (i - nx) = i by omega] at hx
   cases ho : ops[i]? with
   | none => rw [ho] at hx; cases hx
   | some z => rw [ho] at hx; cases hx; rfl
 have hPtake : recsP.take nx = recs1 := by rw [hP, List.take_append_of_le_length (by omega), ← hl1, List.take_length]
 have hmapP : recsP.map (·.o) = ops := by
  apply List.ext_getElem?
  intro i
  rw [List.getElem?_map]
  by_cases hi : i < recsP.length
  ·rw [List.getElem?_eq_getElem hi, Option.map_some, hPo i _ (List.getElem?_eq_getElem hi)]
  ·rw [List.getElem?_eq_none (by omega), List.getElem?_eq_none (by omega)]; rfl
 have hsz : ops.toArray.size = ops.length := by simp
 rw [hsz]
 refine core_game (sts := [(s'.H, s'.T, 0)]) hck hef hDC hDe hDl hDn hDa hPlen hPo (fun i => i < nx) (nx := nx) (fun i hi => by omega) (fun i x hx hi => by have hr := hw1.rcs i x (by rw [← hPlo i hi]; exact hx); exact ⟨hr.o, hr.k, hr.eff, hr.gate, hr.dst, hr.skip, hr.still, hr.effect⟩) (fun i x hx hi => ?_) (fun i x hx hi => hw1.st.k i x (by rw [← hPlo i hi]; exact hx)) (fun l => l.getD nx false = false)
  (fun l i hi hl => by rw [getD_set_ne false (by omega)]; exact hl) (fun listed a w hI hJ hall => by rw [hall nx hnxl] at hJ; cases hJ) ?_ ops.length _ a0 _ ⟨by simp [hPlen], fun i j hl _ => ?_, ⟨0, s'.H, s'.T, 0, L0, fun m i hmi => ?_, Nat.zero_le _, rfl, hc.con.drew rfl, by rw [hDC]; exact hc.nb, by rw [hDC]; exact hc.tb, fun t => ?_, ?_⟩, by rw [hDC]; exact hc.size, hc.defers⟩ ?_ (.inr ?_)
 ·rw [hw1.envs i x (by rw [← hPlo i hi]; exact hx)]
  congr 1
  rw [hP, List.take_append_of_le_length (by omega)]
 rotate_left
 ·exfalso
  by_cases hi : i < ops.length <;> simp [hi] at hl
 ·constructor
  ·intro hl
   exfalso
   by_cases hi : i < ops.length <;> simp [hi] at hl
  ·intro h; omega
 ·refine ⟨eget s'.e t, .inr ⟨fun j x hx hd => ?_, rfl⟩, ?_⟩
  ·by_cases hj : j < ops.length <;> simp [hj]
  ·have kd : Keeps L0 s'.H.length s'.T w0 L0 s'.H.length s'.T { w0 with drawn := w0.drawn + 1 } := (Ev.drew (H := s'.H) (T := s'.T) (L := L0) (w := w0) (w' := { w0 with drawn := w0.drawn + 1 }) rfl rfl rfl rfl (Nat.le_succ _)).keeps
   exact (hc.env t).keep kd
 ·rw [hDC]
  exact (Ev.drew (H := s'.H) (T := s'.T) (L := L0) (w := w0) (w' := { w0 with drawn := w0.drawn + 1 }) rfl rfl rfl rfl (Nat.le_succ _)).mono hc.nb hc.tb
 ·simp [hnxl]
 ·refine Nat.le_trans (List.countP_le_length) ?_
  simp
 intro fuel listed a w hI hJ i hi hnr hcnt
 obtain ⟨hnl, o', ho', hready⟩ := mem_ready.1 hi
 rw [List.getElem?_toArray] at ho'
 have hil : i < ops.length := (List.getElem?_eq_some_iff.1 ho').1
 have hcl : ∀ i j, listed.getD i false = true → anc (ancs ops []) j i = true → listed.getD j false = true := by
  have := hI.closed; rw [hmapP] at this; exact this
 have hancl : ∀ j, anc (ancs ops []) j i = true → listed.getD j false = true := fun j hj => anc_listed hcl ho' hready (d6 i o' ho') hj
 have hinx : i = nx := by
  rcases hmA i hil with h1 | h1
  ·omega
  ·have := hancl nx h1
   rw [hJ] at this; cases this
 subst hinx
 have hoo : o' = o := by rw [ho'] at hon; exact Option.some.inj hon
 subst hoo
 have hlater : ∀ j, i < j → j < ops.length → listed.getD j false = false := fun j hj hjl => by
  rcases hmA j hjl with h1 | h1
  ·omega
  ·cases hlj : listed.getD j false with
   | false => rfl
   | true => have := hcl j i hlj h1; rw [hJ] at this; cases this
 obtain ⟨k, H, T, e, L, hk, hkl, hstk, hcon, hnb, htb, hslots, hev⟩ := hI.st
 rw [hDe] at hk hkl
 rw [hDC] at hnb htb hev
 have hk0 : k = 0 := by
  have := (hk 0 i hm0)
  rw [hJ] at this
  have h2 : ¬ 0 < k := fun hh => by have := this.2 hh; cases this
  omega
 subst hk0
 simp at hstk
 obtain ⟨rfl, rfl, rfl⟩ := hstk
 have hlook : ∀ t ∈ o'.looksAt ops.toArray, ∀ v, VS recsP listed s'.e t v → v = eget (envAfter s'.e recs1) t := by
  intro t ht v hv
  rw [← hPtake]
  have hw_ : ∀ (j : Nat) (z : DRec), recsP[j]? = some z → z.o.dst = some t → i ≠ j ∧ ((j < i ∧ anc (ancs ops []) j i = true) ∨ (i < j ∧ anc (ancs ops []) i j = true)) := fun j z hz hd => d2 i j o' z.o t ho' (hPo j z hz) ht hd
  rcases hv with ⟨j, z, hz, hd, hl, rfl⟩ | ⟨hno, rfl⟩
  ·obtain ⟨hne, h1 | h1⟩ := hw_ j z hz hd
   ·rw [eget_envAfter_at (recsP.take i) s'.e t j z (by rw [List.getElem?_take, if_pos h1.1]; exact hz) hd (fun i' y' hy' hd' => by
     rw [List.getElem?_take] at hy'
     split at hy'
     ·exact d1 i' j y'.o z.o t (hPo i' y' hy') (hPo j z hz) hd' hd
     ·cases hy')]
   ·have := hcl j i hl h1.2
    rw [hJ] at this; cases this
  ·rw [eget_envAfter_none (recsP.take i) s'.e t (fun z hz hd => by
    obtain ⟨j, hj, e1⟩ := List.mem_iff_getElem.1 hz
    simp at hj
    have hz' : recsP[j]? = some z := by rw [List.getElem?_eq_getElem (by omega), ← e1]; simp
    have hf := hno j z hz' hd
    obtain ⟨hne, h1 | h1⟩ := hw_ j z hz' hd
    ·have := hancl j h1.2; rw [hf] at this; cases this
    ·omega)]
 have henv : EnvRep L s'.H.length s'.T w (keepOf (envAfter s'.e recs1) (o'.looksAt ops.toArray)) a := by
  intro t
  rw [eget_keepOf]
  split
  ·rename_i ht
   obtain ⟨v, hv, hr⟩ := hslots t
   rw [← hlook t ht v hv]; exact hr
  ·exact .top _
 have haev : ∀ z ∈ o'.op.operands, aev (envAfter s'.e recs1) z = aev (keepOf (envAfter s'.e recs1) (o'.looksAt ops.toArray)) z := by
  intro z hz
  cases z with
  | tmp t =>
   have : t ∈ o'.looksAt ops.toArray := by
    unfold Oper.looksAt
    exact List.mem_append.2 (.inl (List.mem_filterMap.2 ⟨_, Array.mem_toList_iff.2 hz, rfl⟩))
   simp only [aev, eget_keepOf, if_pos this]
  | _ => rfl
 have hwant : Region.wanted o' (yielded ops.toArray a.tmps) = true := by
  unfold Region.wanted
  rw [hguard]
 have hisz : i < listed.size := by rw [hI.size]; omega
 unfold wpOp
 rw [List.getElem?_toArray, ho']
 dsimp only
 rw [if_pos hwant]
 refine .inl ?_
 rw [hDC] at hmx
 refine mexec_wp (mexec_congr haev hmx) hcon henv fun v H' T' cv w' L' hgo hcon' hrep' hev' => ?_
 obtain ⟨recs', sts', e', g1, g2, g3, g4, _, ⟨x9, g9, gx⟩, _, g8⟩ := dgo_stepM (nx := i) (ops := ops) (e0 := s'.e) (H := s'.H) (T := s'.T) (i0 := 0) (by rw [hDe]; exact hef) hnxD hw1 (by rw [hl1]; exact ho') rfl (by rw [hguard]) (fun hh => by cases hh) (fun _ hne => absurd hl1 hne) (fun hh => by rw [hl1, hnxD] at hh; cases hh) hgo
 have hx9 := gx (by rw [hl1]; exact hnxD)
 have hs9 := g8 (by rw [hl1]; exact hnxD)
 obtain ⟨recs2, sts2, HL, TL, iL, k1, k2, k3, k4, k5, ⟨q6, k6⟩, ⟨q7, k7⟩⟩ := adraw_walkM (nx := i) (D := D) (ops := ops) (e0 := s'.e) (by rw [hDe]; exact hef) hnxD r recs' sts' e' g1 (by
  rw [g2, hl1]
  have := congrArg (fun l => l.drop 1) hdrop
  simpa [List.drop_drop, Nat.add_comm] using this) (by rw [g2, hl1]; omega) g3
 have hr2lo : ∀ j, j < i → recs2[j]? = recs1[j]? := fun j hj => by rw [k6, g9, List.append_assoc, List.getElem?_append_left (by omega)]
 have hr2at : recs2[i]? = some x9 := by rw [k6, g9, List.append_assoc, List.getElem?_append_right (by omega), hl1, Nat.sub_self]; rfl
 have hr2o : ∀ (j : Nat) (x : DRec), recs2[j]? = some x → ops[j]? = some x.o := fun j x hx => (k1.rcs j x hx).o
 have hmap2 : recs2.map (·.o) = ops := by
  apply List.ext_getElem?
  intro j
  rw [List.getElem?_map]
  by_cases hj : j < recs2.length
  ·rw [List.getElem?_eq_getElem hj, Option.map_some, hr2o j _ (List.getElem?_eq_getElem hj)]
  ·rw [List.getElem?_eq_none (by omega), List.getElem?_eq_none (by omega)]; rfl
 have hst2 : sts2[1]? = some (H', T', i) := by
  rw [k7, hs9, hl1]; rfl
 have hstl : sts2.length = 1 + eff.length := by
  have h1 := k1.st.len
  rw [hDe] at h1
  rw [h1]
  congr 2
  apply List.filter_eq_self.2
  intro e he
  obtain ⟨m, hm, e1⟩ := List.mem_iff_getElem.1 he
  have := (d3 m e (by rw [List.getElem?_eq_getElem hm, e1])).1
  simp; omega
 refine core_game hck hef hDC hDe hDl hDn hDa k2 hr2o (fun j => j ≠ i) (nx := i) (fun j hj => hj) (fun j x hx _ => k1.rcs j x hx) (fun j x hx _ => k1.envs j x hx) (fun j x hx _ => k1.st.k j x hx) (fun l => l.getD i false = true)
  (fun l j _ hl => getD_set_true hl) (fun listed a w hI2 _ hall => ?_) (fun fuel listed a w hI2 hJ2 j hj hne _ => ?_) fuel _ _ _ ⟨by simp [hI.size, hPlen, k2], fun i' j' hl' hanc' => ?_, ⟨1, H', T', i, L', fun m i' hm' => ?_, ?_, hst2, hcon', by rw [hDC]; exact Nat.le_trans hnb hev'.n, by rw [hDC]; exact Nat.le_trans htb hev'.t, fun t => ?_, by rw [hDC]; exact hev.trans (hev'.mono hnb htb)⟩, ?_, ?_⟩ ?_ hcnt
 ·
  obtain ⟨k, H, T, e, L, hk, hkl, hstk, hcon, hnb, htb, hslots, hev⟩ := hI2.st
  have hkk : k = eff.length := by
   rw [hDe] at hk hkl
   rcases Nat.lt_or_ge k eff.length with hlt | hge
   ·have := (hk k _ (List.getElem?_eq_getElem hlt)).1 (hall _ (d3 k _ (List.getElem?_eq_getElem hlt)).1)
    omega
   ·omega
  have hlst : sts2[k]? = some (HL, TL, iL) := by rw [← k3, List.getLast?_eq_getElem?, hstl, hkk]; congr 1; omega
  rw [hstk] at hlst
  obtain ⟨rfl, rfl, rfl⟩ : H = HL ∧ T = TL ∧ e = iL := by injection hlst with h1; injection h1 with h1 h2; injection h2 with h2 h3; exact ⟨h1, h2, h3⟩
  rw [hDK] at k4
  rw [hDC] at hev hnb htb
  refine ⟨_, L, k4, ⟨hnb, htb, hcon, by rw [hI2.tmps, hDC], hI2.defers, fun t => ?_⟩, hev⟩
  obtain ⟨v, hv, hr⟩ := hslots t
  show Rep L H.length T w (eget (envAfter s'.e recs2) t) _
  rcases hv with ⟨j, x, hx, hd, hl, rfl⟩ | ⟨hno, rfl⟩
  ·rw [eget_envAfter_at recs2 s'.e t j x hx hd (fun i y hy hyd => d1 i j y.o x.o t (hr2o i y hy) (hr2o j x hx) hyd hd)]
   exact hr
  ·rw [eget_envAfter_none recs2 s'.e t (fun x hx hd => by
    obtain ⟨j, hj, e1⟩ := List.mem_iff_getElem.1 hx
    have h1 := hno j x (by rw [List.getElem?_eq_getElem hj, e1]) hd
    have h2 := hall j (by omega)
    rw [h1] at h2; cases h2)]
   exact hr
 ·have : j = i := Classical.byContradiction hne
  subst this
  obtain ⟨h1, z, hz, _⟩ := mem_ready.1 hj
  rw [getD_false (by rw [hI2.size, k2]; exact hnxl), hJ2] at h1
  cases h1
 ·rw [hmap2] at hanc'
  by_cases hii : i = i'
  ·subst hii
   have := hancl j' hanc'
   by_cases hij : i = j'
   ·subst hij; rw [hJ] at this; cases this
   ·rw [getD_set_ne false hij]; exact this
  ·rw [getD_set_ne false hii] at hl'
   have := hcl i' j' hl' hanc'
   exact getD_set_true this
 ·rw [hDe] at hm'
  have hnl' := (List.getElem?_eq_some_iff.1 hm').1
  by_cases hm0' : m = 0
  ·subst hm0'
   rw [hm0] at hm'
   cases hm'
   simp [hisz]
  ·have hne : i ≠ i' := by
    rintro rfl
    have h1 := List.all_eq_true.1 hef m (List.mem_range.2 hnl')
    simp only [Bool.and_eq_true, beq_iff_eq, List.getD_eq_getElem?_getD, hm', Option.getD_some] at h1
    omega
   rw [getD_set_ne false hne, hk m i' hm']
   omega
 ·rw [hDe]; have := (List.getElem?_eq_some_iff.1 hm0).1; omega
 ·by_cases hd : o'.dst = some t
  ·refine ⟨x9.v, .inl ⟨i, x9, hr2at, by rw [hx9]; exact hd, by simp [hisz], rfl⟩, ?_⟩
   have hdl := (k1.rcs i x9 hr2at).dst t (by rw [hx9]; exact hd)
   have hlt : t < a.tmps.size := by rw [hI.tmps]; exact hdl
   rw [hd, getD_put a t t cv hlt, if_pos rfl, hx9]
   exact hrep'
  ·obtain ⟨v', hv, hr⟩ := hslots t
   refine ⟨v', ?_, ?_⟩
   ·rcases hv with ⟨j, z, hz, hzd, hl, rfl⟩ | ⟨hno, rfl⟩
    ·have hjl : j < ops.length := by have := (List.getElem?_eq_some_iff.1 hz).1; omega
     have hji : j < i := by
      rcases Nat.lt_trichotomy j i with h1 | h1 | h1
      ·exact h1
      ·subst h1; rw [hJ] at hl; cases hl
      ·rw [hlater j h1 hjl] at hl; cases hl
     exact .inl ⟨j, z, by rw [hr2lo j hji, ← hPlo j hji]; exact hz, hzd, getD_set_true hl, rfl⟩
    ·refine .inr ⟨fun j z hz hzd => ?_, rfl⟩
     have hjl : j < ops.length := by have := (List.getElem?_eq_some_iff.1 hz).1; omega
     have hij : i ≠ j := by
      rintro rfl
      have := hr2o i z hz
      rw [ho'] at this
      have := Option.some.inj this
      rw [← this] at hzd; exact hd hzd
     rw [getD_set_ne false hij]
     rcases Nat.lt_or_ge j i with h1 | h1
     ·exact hno j z (by rw [hPlo j h1, ← hr2lo j h1]; exact hz) hzd
     ·exact hlater j (by omega) hjl
   ·have e1 : (a.put o'.dst cv).tmps.getD t undef = a.tmps.getD t undef := by
     cases hdst : o'.dst with
     | none => rfl
     | some d =>
      have hlt : d < a.tmps.size := by rw [hI.tmps]; exact (k1.rcs i x9 hr2at).dst d (by rw [hx9]; exact hdst)
      rw [getD_put a d t cv hlt, if_neg (fun e => hd (by rw [hdst, e]))]
    rw [e1]; exact hr.keep hev'.keeps
 ·simp [Act.put]; cases o'.dst <;> simp [hI.tmps]
 ·cases o'.dst <;> exact hI.defers
 ·simp [hisz]
theorem aw_drawMK {C : Cx} {id : Nat} {ops : List Oper} {Q : Exit → St → Prop} {s : St} (K : St → Prop) (nx : Nat) (eff lo : List Nat) (na : List (List Nat)) (hm : C.P.follows .mixedOrders = true) (hck : drawCk ops eff lo na = true) (hef : effCk eff = true) (hmk : mCk ops eff nx = true)
  (h : madraw ⟨C, ops.toArray, eff, lo, na, K⟩ nx ops [] [(s.H, s.T, 0)] (prune C.nv s.e)) : AW C (.region id ops.toArray true) (ExitK K Q) s :=
 fun L0 w0 a0 hc0 => wp_region_any hm (drawM_game K nx eff lo na hck hef hmk h L0 w0 a0 hc0)
theorem aw_drawM0 {C : Cx} {id : Nat} {ops : List Oper} {Q : Exit → St → Prop} {s : St} (nx : Nat) (eff lo : List Nat) (na : List (List Nat)) (hm : C.P.follows .mixedOrders = true) (hck : drawCk ops eff lo na = true) (hef : effCk eff = true) (hmk : mCk ops eff nx = true)
  (h : ∀ K : St → Prop, (∀ s, Q .normal s → K s) → madraw ⟨C, ops.toArray, eff, lo, na, K⟩ nx ops [] [(s.H, s.T, 0)] (prune C.nv s.e)) : AW C (.region id ops.toArray true) Q s :=
 (aw_drawMK (Q := Q) (fun s => Q .normal s) nx eff lo na hm hck hef hmk (h _ fun _ h => h)).mono fun e s q => by cases e <;> exact q
section
variable {D : DCx} {o : Oper} {r : List Oper} {recs : List DRec} {sts : List Stg} {e : Env}
@[simp] theorem madraw_zero : madraw D 0 (o :: r) recs sts e = (match sts.getLast? with
  | some (H, T, _) => match o.guard with
   | none => mexec D.C o e H T (fun v H' T' => dgo D (adraw D r) o recs sts e true v H' T')
   | some _ => False
  | none => False) := rfl
@[simp] theorem madraw_succ {n : Nat} : madraw D (n + 1) (o :: r) recs sts e = (match sts.getLast? with
  | some (H, T, _) => match o.guard with
   | none => dexec D (madraw D n r) o recs sts e H T
   | some (j, want) => match gval D.all j e with
    | some b => if b = some want then dexec D (madraw D n r) o recs sts e H T else dgo D (madraw D n r) o recs sts e false (.tup []) H T
    | none => False
  | none => False) := rfl
end
attribute [simp] mexec
end Go.Am
