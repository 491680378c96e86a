/- Steps that only the abstract states take: what is new is forgotten, a finished row becomes immutable, an empty end gets a token.
  Conditions: none; it speaks of every program. -/
import Derived.Test.YtneohapkboaplaaGreatAmDrw
set_option linter.unusedVariables false
namespace Go.Am
open Go
section
variable {P : Program} {f : FuncId} {args : List AV} {H rH : List Blk} {T rT : Toks} {L : Lay} {w : World}
theorem Con.front (P : Program) (h : Con L (H ++ rH) (T ++ rT) w) (ho : HOk H T) : Con L H T w := by
 let C : Cx := ⟨P, 0, 0, H.length, T.length, []⟩
 let a : Act := { tmps := #[], defers := [] }
 have hc : ConSt C ⟨[], H ++ rH, T ++ rT⟩ L w a := ⟨by simp [C], by simp [C], h, rfl, rfl, fun t => .top _⟩
 have hw : Weak C ⟨[], H ++ rH, T ++ rT⟩ ⟨[], H, T⟩ := ⟨Nat.le_refl _, Nat.le_refl _, ⟨rH, rfl⟩, ⟨rT, rfl⟩, ho, fun t => .inl rfl⟩
 exact (hw.con hc).con
theorem Ev.front {L0 : Lay} {w0 : World} {H0 : List Blk} {T0 : Toks} {nb tb : Nat} (h : Ev nb tb L0 H0.length T0 w0 L (H ++ rH).length (T ++ rT) w) (hn : nb ≤ H.length) (ht : tb ≤ T.length) : Ev nb tb L0 H0.length T0 w0 L H.length T w := by
 refine ⟨hn, h.phi, fun t u z hlt hT => ?_, ht, h.m, h.com, h.size, h.frame, fun b hb => h.wr b ?_, h.os, h.tape, h.output, h.drawn, h.dr⟩
 ·obtain ⟨u', h1, h2, h3⟩ := h.tok t u z hlt hT
  exact ⟨u', by rwa [List.getElem?_append_left (by omega)] at h1, h2, h3⟩
 ·rcases hb with ⟨i, hi, e⟩ | ⟨t, u, z, h1, h2, e⟩
  ·exact .inl ⟨i, by simp; omega, e⟩
  ·exact .inr ⟨t, u, z, by rw [List.getElem?_append_left (List.getElem?_eq_some_iff.1 h1).1]; exact h1, h2, e⟩
theorem ACall.drop {r : AV} (h : ACall P f args H T (Is r (H ++ rH) (T ++ rT))) (hb : Below H.length T.length (untag r)) : ACall P f args H T (Is (untag r) H T) := by
 refine ⟨h.1, fun L w ca hc hl hr => (h.2 L w ca hc hl hr).mono ?_⟩
 rintro e w' ⟨r', H', T', L', cv, ⟨e1, e2, e3⟩, rfl, hcon, hrep, hev⟩
 subst e1; subst e2; subst e3
 refine ⟨_, H, T, L', cv, ⟨rfl, rfl, rfl⟩, rfl, Con.front P hcon hc.hok, ?_, hev.front (Nat.le_refl _) (Nat.le_refl _)⟩
 have := (hrep.untag).drop hb
 simpa using this
theorem ACall.cut {r0 : AV} (H1 : List Blk) (T1 : Toks) (hl : H.length ≤ H1.length) (ht : T.length ≤ T1.length) (ho : HOk H T → HOk H1 T1) (hb : Below H1.length T1.length r0)
  (h : ACall P f args H T (fun r H' T' => (∃ rH, H' = H1 ++ rH) ∧ (∃ rT, T' = T1 ++ rT) ∧ (r = r0 ∨ untag r = r0))) : ACall P f args H T (Is r0 H1 T1) := by
 refine ⟨h.1, fun L w ca hc hl' hr => (h.2 L w ca hc hl' hr).mono ?_⟩
 rintro e w' ⟨r', H', T', L', cv, ⟨⟨rH, e1⟩, ⟨rT, e2⟩, e3⟩, rfl, hcon, hrep, hev⟩
 subst e1; subst e2
 refine ⟨_, H1, T1, L', cv, ⟨rfl, rfl, rfl⟩, rfl, Con.front P hcon (ho hc.hok), ?_, hev.front hl ht⟩
 have hrep' : Rep L' (H1 ++ rH).length (T1 ++ rT) w' r0 cv := by
  rcases e3 with e3 | e3
  ·rw [← e3]; exact hrep
  ·rw [← e3]; exact hrep.untag
 have := hrep'.drop hb
 simpa using this
theorem ACall.drop' {r0 : AV} (h : ACall P f args H T (fun r H' T' => (∃ rH, H' = H ++ rH) ∧ (∃ rT, T' = T ++ rT) ∧ (r = r0 ∨ untag r = r0))) (hb : Below H.length T.length r0) : ACall P f args H T (Is r0 H T) :=
 ACall.cut H T (Nat.le_refl _) (Nat.le_refl _) id hb h
theorem Con.commitAt (h : Con L H T w) {b k : Nat} (hb : b < w.heap.size) (hw : ¬ Wr L H.length T b) (hk : L.m b ≤ k) : Con (L.commit b k) H T w := by
 have hm : ∀ x, L.m x ≤ (L.commit b k).m x := by
  intro x
  show L.m x ≤ if x = b then k else L.m x
  split
  ·rename_i e; rw [e]; exact hk
  ·exact Nat.le_refl _
 have kp : Keeps L H.length T w (L.commit b k) H.length T w := ⟨Nat.le_refl _, fun _ _ => rfl, fun t u z h => ⟨u, h, Nat.le_refl _, fun _ => rfl⟩, hm, fun _ _ _ => rfl, rfl⟩
 refine ⟨fun i x hx => ?_, h.inj, fun t u z ht => ?_, h.tinj, h.tbox, fun x hx => ?_, h.gl.keep hm (fun _ _ _ => rfl)⟩
 ·have hi := (List.getElem?_eq_some_iff.1 hx).1
  refine (h.box i x hx).stay kp hi rfl fun h5 => ?_
  show (if L.phi i = b then k else L.m (L.phi i)) = 0
  rw [if_neg (fun e => hw (.inl ⟨i, hi, e⟩))]; exact h5
 ·obtain ⟨h1, h2⟩ := h.tok t u z ht
  refine ⟨h1, fun hs => ?_⟩
  obtain ⟨c, e, fr, g1, g2, g3, g4⟩ := h2 hs
  refine ⟨c, e, fr, g1, g2, g3, ?_⟩
  show (if (L.tau t).b = b then k else L.m (L.tau t).b) ≤ _
  rw [if_neg (fun e => hw (.inr ⟨t, u, z, ht, hs, e⟩))]; exact g4
 ·show (if x = b then k else L.m x) = 0
  rw [if_neg (by omega)]; exact h.mz x hx
theorem ACall.freeze {n : Nat} {vs : List AV} (h : ACall P f args H T (Is (.msl H.length 0 n) (H ++ [.cells vs]) T)) (hb : BelowAll H.length T.length vs) : ACall P f args H T (Is (.sl n vs .none) H T) := by
 refine ⟨h.1, fun L w ca hc hl hr => (h.2 L w ca hc hl hr).mono ?_⟩
 rintro e w' ⟨r', H', T', L', cv, ⟨e1, e2, e3⟩, rfl, hcon, hrep, hev⟩
 have e3' := e3.symm
 subst e1; subst e2; subst e3'
 obtain ⟨cap, rfl, hcap, hlt⟩ := hrep.msl_inv
 have hbox := hcon.box H.length (.cells vs) (by simp)
 have hblt := hbox.lt
 obtain ⟨c, t, fr, g1, g2, g3, g3', g4, g5⟩ := hbox
 have hc1 : Con L' H T w' := Con.front (rT := []) P (by simpa using hcon) hc.hok
 have hnw : ¬ Wr L' H.length T (L'.phi H.length) := by
  rintro (⟨i, hi, e⟩ | ⟨t, u, z, ht, hs, e⟩)
  ·have := hcon.inj i H.length (by simp; omega) (by simp) e
   omega
  ·exact hcon.tbox t u z H.length ht hs (by simp) e
 have hc2 := hc1.commitAt (k := vs.length) hblt hnw (by omega)
 have e1 : Ev H.length T.length L H.length T w L' H.length T w' := by
  have := hev
  have h2 := Ev.front (H := H) (rH := [.cells vs]) (T := T) (rT := []) (L := L') (w := w') (L0 := L) (w0 := w) (H0 := H) (T0 := T) (nb := H.length) (tb := T.length) (by simpa using hev) (Nat.le_refl _) (Nat.le_refl _)
  exact h2
 have kp : Keeps L' H.length T w' (L'.commit (L'.phi H.length) vs.length) H.length T w' := by
  refine ⟨Nat.le_refl _, fun _ _ => rfl, fun t u z h => ⟨u, h, Nat.le_refl _, fun _ => rfl⟩, fun x => ?_, fun _ _ _ => rfl, rfl⟩
  show L'.m x ≤ if x = L'.phi H.length then vs.length else L'.m x
  split
  ·rename_i e; rw [e, g5]; exact Nat.zero_le _
  ·exact Nat.le_refl _
 refine ⟨_, H, T, L'.commit (L'.phi H.length) vs.length, _, ⟨rfl, rfl, rfl⟩, rfl, hc2, ?_, ?_⟩
 ·have hrc : RepC L' H.length T w' vs c.toList := by
   refine ⟨by simpa using g3, fun j hj => ?_, fun j hj hj' => ?_⟩
   ·have := g3' j (by simpa using hj); rw [Array.getElem_toList]; exact this
   ·have := (g4 j hj (by simpa using hj')).drop (hb _ (List.getElem_mem hj))
    rw [List.take_length] at this
    rw [Array.getElem_toList]; exact this
  refine Rep.sl_mk hcap ?_ (hrc.keep kp) (fun j hj => ?_) trivial
  ·show 0 + vs.length ≤ if L'.phi H.length = L'.phi H.length then vs.length else _
   rw [if_pos rfl]; omega
  ·rw [cell_row g1]; simp
 ·exact ⟨e1.n, e1.phi, e1.tok, e1.t, fun b => Nat.le_trans (e1.m b) (kp.m b), e1.com, e1.size, e1.frame, e1.wr, e1.os, e1.tape, e1.output, e1.drawn, e1.dr⟩
theorem Con.own (h : Con L H T w) (u : Nat) {z : Nat} (hz : 0 < z) : Con (L.withTok T.length ⟨0, 0, 0⟩) H (T ++ [(u, z)]) w :=
 h.addTok ⟨0, 0, 0⟩ u z (fun h => by simp at h) ⟨hz, fun h => by simp [Lay.withTok] at h⟩
theorem Ev.own (u z : Nat) : Ev H.length T.length L H.length T w (L.withTok T.length ⟨0, 0, 0⟩) H.length (T ++ [(u, z)]) w :=
 (Ev.refl (Nat.le_refl _) (Nat.le_refl _)).addTok (fun h => by simp at h)
theorem Rep.own {n : Nat} {cs : List AV} {c : Value} {z : Nat} (h : Rep L H.length T w (.sl n cs .full) c) : Rep (L.withTok T.length ⟨0, 0, 0⟩) H.length (T ++ [(cs.length, z)]) w (.sl n cs (.own T.length)) c := by
 have hk := (h.untag).keep (Ev.own (H := H) (T := T) (L := L) (w := w) cs.length z).keeps
 obtain ⟨a, cap, rfl, hcap, ht, _⟩ := h.sl_inv
 have tok : ∀ a', tagOk (L.withTok T.length ⟨0, 0, 0⟩) (T ++ [(cs.length, z)]) (.own T.length) n cs.length a' cap := fun a' => ⟨cs.length, z, by simp, Nat.le_refl _, fun _ => .inl ht⟩
 simp only [Am.untag] at hk
 obtain ⟨a', cap', e1, hc', _, hx'⟩ := hk.sl_inv
 cases e1
 rcases hx' with ⟨e2, e3⟩ | ⟨b, base, cv, e2, g1, g2, g3⟩
 ·subst e2; subst e3; exact .sl0 _ _ _ (tok _)
 ·subst e2; exact Rep.sl_mk hc' g1 g2 g3 (tok _)
theorem ACall.untag1 {a : AV} {as : List AV} {Q : AV → List Blk → Toks → Prop} (h : ACall P f (untag a :: as) H T Q) : ACall P f (a :: as) H T Q := by
 refine ⟨h.1, fun L w ca hc hl hr => h.2 L w ca hc hl (fun j hj hj' => ?_)⟩
 cases j with
 | zero => exact (hr 0 (by simp) hj').untag
 | succ j => exact hr (j + 1) hj hj'
theorem ACall.untag2 {a b : AV} {as : List AV} {Q : AV → List Blk → Toks → Prop} (h : ACall P f (a :: untag b :: as) H T Q) : ACall P f (a :: b :: as) H T Q := by
 refine ⟨h.1, fun L w ca hc hl hr => h.2 L w ca hc hl (fun j hj hj' => ?_)⟩
 match j, hj with
 | 0, _ => exact hr 0 (by simp) hj'
 | 1, _ => exact (hr 1 (by simp) hj').untag
 | j + 2, hj => exact hr (j + 2) hj hj'
theorem aw_own {C : Cx} {c : Code} {Q : Exit → St → Prop} {s : St} (t : Nat) (n z : Nat) (cs : List AV) (hz : 0 < z) (ht : eget s.e t = .sl n cs .full) (h : AW C c Q ⟨eput s.e t (.sl n cs (.own s.T.length)), s.H, s.T ++ [(cs.length, z)]⟩) : AW C c Q s := by
 intro L w a hc
 have ev := Ev.own (H := s.H) (T := s.T) (L := L) (w := w) cs.length z
 refine wp_mono (h (L.withTok s.T.length ⟨0, 0, 0⟩) w a ⟨hc.nb, by simp; have := hc.tb; omega, hc.con.own _ hz, hc.size, hc.defers, fun t' => ?_⟩) fun _ _ _ k => Post.step (s1 := ⟨eput s.e t (.sl n cs (.own s.T.length)), s.H, s.T ++ [(cs.length, z)]⟩) (ev.mono hc.nb hc.tb) k
 by_cases h1 : t = t'
 ·subst h1
  rw [eget_eput_same]
  have := hc.env t
  rw [ht] at this
  exact this.own
 ·rw [eget_eput_other _ _ _ _ h1]
  exact (hc.env t').keep ev.keeps
theorem ACall.is {r r' : AV} {H' H'' : List Blk} {T' T'' : Toks} (h : ACall P f args H T (Is r H' T')) (h1 : r = r') (h2 : H' = H'') (h3 : T' = T'') : ACall P f args H T (Is r' H'' T'') := by subst h1; subst h2; subst h3; exact h
end
theorem Below.more {n n' t t' : Nat} {v : AV} (h : Below n t v) (hn : n ≤ n') (ht : t ≤ t') : Below n' t' v := by
 induction h with
 | top => exact .top
 | bool b => exact .bool b
 | int k x => exact .int k x
 | str s => exact .str s
 | nilp => exact .nilp
 | ptr i o h => exact .ptr i o (Nat.lt_of_lt_of_le h hn)
 | vptr cs o h ih => exact .vptr cs o ih
 | sl m cs tg h hx ih => exact .sl m cs tg ih (fun x e => Nat.lt_of_lt_of_le (hx x e) ht)
 | msl i o m h => exact .msl i o m (Nat.lt_of_lt_of_le h hn)
 | csl i m cap h => exact .csl i m cap (Nat.lt_of_lt_of_le h hn)
 | mref i h => exact .mref i (Nat.lt_of_lt_of_le h hn)
 | fn f a b h1 h2 ih1 ih2 => exact .fn f a b ih1 ih2
 | nilf => exact .nilf
 | nili => exact .nili
 | ifc => exact .ifc
 | agg cs h ih => exact .agg cs ih
 | tup cs h ih => exact .tup cs ih
theorem HOk.snocB {H : List Blk} {T : Toks} {b : Blk} (h : HOk H T) (hv : BelowAll (H.length + 1) T.length b.vals) : HOk (H ++ [b]) T := by
 intro i us hi v hm
 rw [List.length_append, List.length_singleton]
 rcases Nat.lt_or_ge i H.length with hlt | hge
 ·rw [List.getElem?_append_left hlt] at hi
  exact (h i us hi v hm).more (by omega) (Nat.le_refl _)
 ·have : i = H.length := by have := (List.getElem?_eq_some_iff.1 hi).1; simp at this; omega
  subst this
  simp at hi
  subst hi
  exact hv v hm
theorem HOk.snoc {H : List Blk} {T : Toks} {vs : List AV} (h : HOk H T) (hv : BelowAll (H.length + 1) T.length vs) : HOk (H ++ [.cells vs]) T := h.snocB hv
theorem HOk.snocMit {H : List Blk} {T : Toks} {m n : Nat} {seen : List Nat} (h : HOk H T) : HOk (H ++ [.mit m n seen]) T := h.snocB (fun v hm => by simp at hm)
theorem HOk.toks {H : List Blk} {T T' : Toks} (h : HOk H T) (ht : T.length ≤ T'.length) : HOk H T' := fun i us hi v hm => (h i us hi v hm).more (Nat.le_refl _) ht
theorem HOk.setB {H : List Blk} {T : Toks} {b : Blk} {k : Nat} (h : HOk H T) (hv : BelowAll H.length T.length b.vals) : HOk (H.set k b) T := by
 intro i us hi v hm
 rw [List.length_set]
 by_cases hk : k = i
 ·subst hk
  have hl := (List.getElem?_eq_some_iff.1 hi).1
  rw [List.length_set] at hl
  rw [List.getElem?_set_self hl] at hi
  injection hi with hi
  subst hi
  exact hv v hm
 ·rw [List.getElem?_set_ne hk] at hi
  exact h i us hi v hm
theorem HOk.set {H : List Blk} {T : Toks} {vs : List AV} {k : Nat} (h : HOk H T) (hv : BelowAll H.length T.length vs) : HOk (H.set k (.cells vs)) T := h.setB hv
theorem HOk.setMap {H : List Blk} {T : Toks} {es : List (MKey × AV)} {k : Nat} (h : HOk H T) (hv : BelowAll H.length T.length (es.map (·.2))) : HOk (H.set k (.map es)) T := h.setB hv
theorem HOk.setMit {H : List Blk} {T : Toks} {m n : Nat} {seen : List Nat} {k : Nat} (h : HOk H T) : HOk (H.set k (.mit m n seen)) T := h.setB (fun v hm => by simp at hm)
theorem weak_to {C : Cx} {e e' : Env} {H H' : List Blk} {T T' : Toks} (rH : List Blk) (rT : Toks) (hH : H = H' ++ rH) (hT : T = T' ++ rT) (hn : C.nb ≤ H'.length) (ht : C.tb ≤ T'.length) (ho : HOk H' T') (he : envLe H'.length T'.length e e') :
  Weak C ⟨e, H, T⟩ ⟨e', H', T'⟩ := ⟨hn, ht, ⟨rH, hH⟩, ⟨rT, hT⟩, ho, envLe_get he⟩
section
variable {α : Type} (H l : List α) (k : Nat) (x : α)
@[simp] theorem new_at : (H ++ l)[H.length + k]? = l[k]? := by rw [List.getElem?_append_right (by omega)]; congr 1; omega
@[simp] theorem new_at0 : (H ++ l)[H.length]? = l[0]? := new_at H l 0
end
theorem dcall_is {D : DCx} {next : List DRec → List Stg → Env → Prop} {o : Oper} {recs : List DRec} {sts : List Stg} {e : Env} {g : FuncId} {as : List AV} {H : List Blk} {T : Toks} {v : AV}
  (h : ACall D.C.P g as H T (Is v H T)) (hn : D.eff.contains recs.length = false) (k : dgo D next o recs sts e true v H T) : dcall D next o recs sts e g as H T := ⟨v, H, T, h, fun _ => ⟨rfl, rfl⟩, k⟩
theorem dcall_eff {D : DCx} {next : List DRec → List Stg → Env → Prop} {o : Oper} {recs : List DRec} {sts : List Stg} {e : Env} {g : FuncId} {as : List AV} {H H' : List Blk} {T T' : Toks} {v : AV}
  (h : ACall D.C.P g as H T (Is v H' T')) (hn : D.eff.contains recs.length = true) (k : dgo D next o recs sts e true v H' T') : dcall D next o recs sts e g as H T := ⟨v, H', T', h, fun hc => absurd (hn.symm.trans hc) (by decide), k⟩
@[simp] theorem adraw_nil {D : DCx} {recs : List DRec} {sts : List Stg} {e : Env} : adraw D [] recs sts e = (match sts.getLast? with
  | some (H, T, _) => D.K ⟨e, H, T⟩
  | none => False) := rfl
@[simp] theorem adraw_cons {D : DCx} {o : Oper} {r : List Oper} {recs : List DRec} {sts : List Stg} {e : Env} : adraw D (o :: r) recs sts e = (match sts.getLast? with
  | some (H, T, _) => match o.guard with
   | none => dexec D (adraw D r) o recs sts e H T
   | some (j, want) => match gval D.all j e with
    | some b => if b = some want then dexec D (adraw D r) o recs sts e H T else dgo D (adraw D r) o recs sts e false (.tup []) H T
    | none => False
  | none => False) := rfl
attribute [simp] dexec dgo putE exAt naOb aexec
@[simp] theorem toNat_add_pos {a b : Int} (h1 : 0 ≤ a) (h2 : 0 ≤ b) : (a + b).toNat = a.toNat + b.toNat := by omega
attribute [simp] List.getD_cons_zero List.getD_cons_succ List.getD_nil
attribute [simp] if_pos if_neg List.getElem?_cons_zero List.getElem?_cons_succ List.getElem?_nil
@[simp] theorem fdiv_pos {a b : Int} (h : 0 ≤ b) : a.fdiv b = a / b := Int.fdiv_eq_ediv_of_nonneg a h
@[simp] theorem bits_u64 : IntKind.u64.bits = 64 := rfl
@[simp] theorem bits_u8 : IntKind.u8.bits = 8 := rfl
@[simp] theorem bits_i64 : IntKind.i64.bits = 64 := rfl
@[simp] theorem signed_u64 : IntKind.u64.signed = false := rfl
@[simp] theorem signed_i64 : IntKind.i64.signed = true := rfl
@[simp] theorem max_u64 : IntKind.u64.max = 18446744073709551615 := rfl
end Go.Am
