/- Rules for the structured code over abstract states: sequence, condition, block, loop, region, region that draws its order; contracts of calls.
  Conditions: none; it speaks of every program. -/
import Derived.Test.YtneohapkboaplaaGreatAmCore
set_option linter.unusedVariables false
namespace Go.Am
open Go
structure St where
 e : Env
 H : List Blk
 T : Toks
structure Cx where
 P : Program
 nt : Nat
 nv : Nat
 nb : Nat
 tb : Nat
 bx : List Nat
structure ConSt (C : Cx) (s : St) (L : Lay) (w : World) (a : Act) : Prop where
 nb : C.nb ≤ s.H.length
 tb : C.tb ≤ s.T.length
 con : Con L s.H s.T w
 size : a.tmps.size = C.nt
 defers : a.defers = []
 env : EnvRep L s.H.length s.T w s.e a
def Post (C : Cx) (Q : Exit → St → Prop) (L : Lay) (s : St) (w : World) (e : Exit) (a' : Act) (w' : World) : Prop :=
 ∃ s' L', Q e s' ∧ ConSt C s' L' w' a' ∧ Ev C.nb C.tb L s.H.length s.T w L' s'.H.length s'.T w'
def AW (C : Cx) (c : Code) (Q : Exit → St → Prop) (s : St) : Prop :=
 ∀ L w a, ConSt C s L w a → c.wp C.P (Post C Q L s w) a w
theorem Post.step {C Q L s w L1 s1 w1 e a' w'} (h : Ev C.nb C.tb L s.H.length s.T w L1 s1.H.length s1.T w1) (k : Post C Q L1 s1 w1 e a' w') : Post C Q L s w e a' w' := by
 obtain ⟨s', L', q, c, ev⟩ := k
 exact ⟨s', L', q, c, h.trans ev⟩
theorem AW.mono {C c Q Q' s} (h : AW C c Q s) (hq : ∀ e s, Q e s → Q' e s) : AW C c Q' s := fun L w a hc =>
 wp_mono (h L w a hc) fun _ _ _ ⟨s', L', q, r⟩ => ⟨s', L', hq _ _ q, r⟩
def ExitK (K : St → Prop) (Q : Exit → St → Prop) : Exit → St → Prop
 | .normal, s => K s
 | e, s => Q e s
theorem aw_skip {C Q s} (h : Q .normal s) : AW C .skip Q s := fun L w a hc => wp_skip ⟨s, L, h, hc, Ev.refl hc.nb hc.tb⟩
theorem aw_exit {C Q s id} (h : Q (.exit id) s) : AW C (.exit id) Q s := fun L w a hc => wp_exit ⟨s, L, h, hc, Ev.refl hc.nb hc.tb⟩
theorem aw_ret {C Q s} (h : Q .ret s) : AW C .ret Q s := fun L w a hc => wp_ret ⟨s, L, h, hc, Ev.refl hc.nb hc.tb⟩
theorem aw_seq {C x y Q s} (h : ∀ K : St → Prop, (∀ s, AW C y Q s → K s) → AW C x (ExitK K Q) s) : AW C (.seq x y) Q s := fun L w a hc =>
 wp_seq (wp_mono (h _ (fun _ h => h) L w a hc) fun e a' w' ⟨s', L', q, c, ev⟩ => by
  cases e with
  | normal => exact wp_mono (q L' w' a' c) fun _ _ _ k => Post.step ev k
  | _ => exact ⟨s', L', q, c, ev⟩)
def BlockQ (id : Nat) (Q : Exit → St → Prop) : Exit → St → Prop
 | .exit id', s => if id' = id then Q .normal s else Q (.exit id') s
 | e, s => Q e s
theorem aw_block {C id x Q s} (h : AW C x (BlockQ id Q) s) : AW C (.block id x) Q s := fun L w a hc =>
 wp_block (wp_mono (h L w a hc) fun e a' w' ⟨s', L', q, c, ev⟩ => by
  cases e with
  | exit id' =>
   simp only [BlockQ] at q
   simp only [Exit.inBlock]
   split
   ·rename_i hid; rw [if_pos hid] at q; exact ⟨s', L', q, c, ev⟩
   ·rename_i hid; rw [if_neg hid] at q; exact ⟨s', L', q, c, ev⟩
  | _ => exact ⟨s', L', q, c, ev⟩)
inductive Below (n t : Nat) : AV → Prop
 | top : Below n t .top
 | bool (b : Bool) : Below n t (.bool b)
 | int (k : IntKind) (x : Int) : Below n t (.int k x)
 | str (s : List UInt8) : Below n t (.str s)
 | nilp : Below n t .nilp
 | ptr (i o : Nat) (h : i < n) : Below n t (.ptr i o)
 | vptr (cs : List AV) (o : Nat) (h : ∀ c ∈ cs, Below n t c) : Below n t (.vptr cs o)
 | sl (m : Nat) (cs : List AV) (tg : Tag) (h : ∀ c ∈ cs, Below n t c) (ht : ∀ x, tg = .own x → x < t) : Below n t (.sl m cs tg)
 | msl (i o m : Nat) (h : i < n) : Below n t (.msl i o m)
 | csl (i m cap : Nat) (h : i < n) : Below n t (.csl i m cap)
 | mref (i : Nat) (h : i < n) : Below n t (.mref i)
 | fn (f : FuncId) (first caps : List AV) (h1 : ∀ c ∈ first, Below n t c) (h2 : ∀ c ∈ caps, Below n t c) : Below n t (.fn f first caps)
 | nilf : Below n t .nilf
 | nili : Below n t .nili
 | ifc : Below n t .ifc
 | agg (cs : List AV) (h : ∀ c ∈ cs, Below n t c) : Below n t (.agg cs)
 | tup (cs : List AV) (h : ∀ c ∈ cs, Below n t c) : Below n t (.tup cs)
theorem Rep.drop {L : Lay} {N n t : Nat} {T : Toks} {w : World} {v : AV} {c : Value} (h : Rep L N T w v c) (hb : Below n t v) : Rep L n (T.take t) w v c := by
 have tag : ∀ (tg : Tag) (m u : Nat) (a : Option Addr) (cap : Nat), (∀ x, tg = .own x → x < t) → tagOk L T tg m u a cap → tagOk L (T.take t) tg m u a cap := by
  intro tg m u a cap hx ht
  cases tg with
  | none => trivial
  | full => exact ht
  | own x =>
   obtain ⟨u0, z, h0, r⟩ := ht
   exact ⟨u0, z, by rw [List.getElem?_take, if_pos (hx x rfl)]; exact h0, r⟩
 induction h with
 | top v => exact .top v
 | bool b => exact .bool b
 | int k x => exact .int k x
 | str s => exact .str s
 | nilp => exact .nilp
 | ptr i o h => cases hb with | ptr _ _ h' => exact .ptr i o h'
 | vptr cs o b base f hm hc h1 hr ih => cases hb with | vptr _ _ hx => exact .vptr cs o b base f hm hc h1 (fun j hj => ih j hj (hx _ (List.getElem_mem hj)))
 | sl0 tg a cap ht => cases hb with | sl _ _ _ hx hy => exact .sl0 tg a cap (tag _ _ _ _ _ hy ht)
 | sl1 m cs tg b base cap f hcap hm hc h1 hr ht ih =>
  cases hb with | sl _ _ _ hx hy => exact .sl1 m cs tg b base cap f hcap hm hc h1 (fun j hj => ih j hj (hx _ (List.getElem_mem hj))) (tag _ _ _ _ _ hy ht)
 | msl i o m cap h hcap => cases hb with | msl _ _ _ h' => exact .msl i o m cap h' hcap
 | csl i m cap h hcap => cases hb with | csl _ _ _ h' => exact .csl i m cap h' hcap
 | mref i h => cases hb with | mref _ h' => exact .mref i h'
 | fn f first caps fv cv h1 h2 hr1 hr2 ih1 ih2 =>
  cases hb with | fn _ _ _ hx hy => exact .fn f first caps fv cv h1 h2 (fun j hj hj' => ih1 j hj hj' (hx _ (List.getElem_mem hj))) (fun j hj hj' => ih2 j hj hj' (hy _ (List.getElem_mem hj)))
 | nilf => exact .nilf
 | nili => exact .nili
 | ifc t v => exact .ifc t v
 | agg cs cv h1 h2 hr ih => cases hb with | agg _ hx => exact .agg cs cv h1 h2 (fun j hj hj' => ih j hj hj' (hx _ (List.getElem_mem hj)))
 | tup cs cv h1 hr ih => cases hb with | tup _ hx => exact .tup cs cv h1 (fun j hj hj' => ih j hj hj' (hx _ (List.getElem_mem hj)))
def untag : AV → AV
 | .sl n cs _ => .sl n cs .none
 | .csl i n _ => .msl i 0 n
 | v => v
theorem Rep.untag {L : Lay} {N : Nat} {T : Toks} {w : World} {v : AV} {c : Value} (h : Rep L N T w v c) : Rep L N T w (untag v) c := by
 cases h with
 | sl0 tg a cap ht => exact .sl0 .none a cap trivial
 | sl1 n cs tg b base cap f hcap hm hc h1 hr ht => exact .sl1 n cs .none b base cap f hcap hm hc h1 hr trivial
 | top _ => exact .top _
 | bool b => exact .bool b
 | int k x => exact .int k x
 | str s => exact .str s
 | nilp => exact .nilp
 | ptr i o h => exact .ptr i o h
 | vptr cs o b base f hm hc h1 hr => exact .vptr cs o b base f hm hc h1 hr
 | msl i o m cap h hcap => exact .msl i o m cap h hcap
 | csl i m cap h hcap => exact .msl i 0 m cap h hcap
 | mref i h => exact .mref i h
 | fn f first caps fv cv h1 h2 hr1 hr2 => exact .fn f first caps fv cv h1 h2 hr1 hr2
 | nilf => exact .nilf
 | nili => exact .nili
 | ifc t v => exact .ifc t v
 | agg cs cv h1 h2 hr => exact .agg cs cv h1 h2 hr
 | tup cs cv h1 hr => exact .tup cs cv h1 hr
theorem Below.untag {n t : Nat} {v : AV} (h : Below n t v) : Below n t (untag v) := by
 cases h with
 | sl m cs tg h ht => exact .sl m cs .none h (fun x hx => by cases hx)
 | top => exact .top
 | bool b => exact .bool b
 | int k x => exact .int k x
 | str s => exact .str s
 | nilp => exact .nilp
 | ptr i o h => exact .ptr i o h
 | vptr cs o h => exact .vptr cs o h
 | msl i o m h => exact .msl i o m h
 | csl i m cap h => exact .msl i 0 m h
 | mref i h => exact .mref i h
 | fn f a b h1 h2 => exact .fn f a b h1 h2
 | nilf => exact .nilf
 | nili => exact .nili
 | ifc => exact .ifc
 | agg cs h => exact .agg cs h
 | tup cs h => exact .tup cs h
structure Weak (C : Cx) (s s' : St) : Prop where
 nb : C.nb ≤ s'.H.length
 tb : C.tb ≤ s'.T.length
 H : ∃ r, s.H = s'.H ++ r
 T : ∃ r, s.T = s'.T ++ r
 cells : ∀ (i : Nat) (b : Blk), s'.H[i]? = some b → ∀ v ∈ b.vals, Below s'.H.length s'.T.length v
 env : ∀ t, eget s'.e t = .top ∨ ((eget s'.e t = eget s.e t ∨ eget s'.e t = untag (eget s.e t)) ∧ Below s'.H.length s'.T.length (eget s'.e t))
theorem Weak.con {C s s' L w a} (h : Weak C s s') (c : ConSt C s L w a) : ConSt C s' L w a := by
 obtain ⟨hnb, htb, ⟨rH, hH⟩, ⟨rT, hT⟩, hcells, henv⟩ := h
 have hTt : s.T.take s'.T.length = s'.T := by rw [hT]; simp
 have hlen : s'.H.length ≤ s.H.length := by rw [hH]; simp
 have hat : ∀ (i : Nat) (b : Blk), s'.H[i]? = some b → s.H[i]? = some b := by
  intro i b hb
  have hi := (List.getElem?_eq_some_iff.1 hb).1
  rw [hH, List.getElem?_append_left hi]; exact hb
 have htat : ∀ (t : Nat) (x : Nat × Nat), s'.T[t]? = some x → s.T[t]? = some x := by
  intro t x hx
  have hi := (List.getElem?_eq_some_iff.1 hx).1
  rw [hT, List.getElem?_append_left hi]; exact hx
 have rep : ∀ v c', Rep L s.H.length s.T w v c' → Below s'.H.length s'.T.length v → Rep L s'.H.length s'.T w v c' := by
  intro v c' hr hb
  have := hr.drop hb
  rwa [hTt] at this
 refine ⟨hnb, htb, ⟨fun i b hb => ?_, fun i j hi hj => c.con.inj i j (by omega) (by omega), fun t u z ht => c.con.tok t u z (htat _ _ ht), fun t u z t' u' z' h1 h2 => c.con.tinj t u z t' u' z' (htat _ _ h1) (htat _ _ h2),
  fun t u z i h1 h2 hi => c.con.tbox t u z i (htat _ _ h1) h2 (by omega), c.con.mz, c.con.gl⟩, c.size, c.defers, fun t => ?_⟩
 ·have hbx := c.con.box i b (hat i b hb)
  cases b with
  | cells vs =>
   obtain ⟨cc, t, fr, h1, h2, h3, h3', h4, h5⟩ := hbx
   exact ⟨cc, t, fr, h1, h2, h3, h3', fun j hj hj' => rep _ _ (h4 j hj hj') (hcells i _ hb _ (List.getElem_mem hj)), h5⟩
  | iter s0 pos => exact hbx
  | map es =>
   obtain ⟨ents, h1, h2, h3, h4⟩ := hbx
   exact ⟨ents, h1, h2, fun j hj hj' => ⟨(h3 j hj hj').1, (h3 j hj hj').2.1, rep _ _ (h3 j hj hj').2.2 (hcells i _ hb _ (List.mem_map.2 ⟨_, List.getElem_mem hj, rfl⟩))⟩, h4⟩
  | mit m n seen => exact hbx
  | glob g p => exact hbx
 ·rcases henv t with h0 | ⟨h1, h2⟩
  ·rw [h0]; exact .top _
  ·rcases h1 with h1 | h1
   ·rw [h1] at h2 ⊢; exact rep _ _ (c.env t) h2
   ·rw [h1] at h2 ⊢; exact rep _ _ (c.env t).untag h2
theorem Weak.ev {C s s' L w} (h : Weak C s s') : Ev C.nb C.tb L s.H.length s.T w L s'.H.length s'.T w := by
 obtain ⟨hnb, htb, ⟨rH, hH⟩, ⟨rT, hT⟩, _, _⟩ := h
 have htat : ∀ (t : Nat) (x : Nat × Nat), s'.T[t]? = some x → s.T[t]? = some x := by
  intro t x hx
  have hi := (List.getElem?_eq_some_iff.1 hx).1
  rw [hT, List.getElem?_append_left hi]; exact hx
 refine ⟨hnb, fun _ _ => rfl, fun t u z ht hx => ⟨u, ?_, Nat.le_refl _, fun _ => rfl⟩, htb, fun _ => Nat.le_refl _, fun _ _ _ => rfl, Nat.le_refl _, fun _ _ _ => rfl, fun b hb => .inl ?_, rfl, rfl, rfl, fun _ => Nat.le_refl _, rfl⟩
 ·rw [hT, List.getElem?_append_left (by omega)] at hx; exact hx
 ·rcases hb with ⟨i, hi, e⟩ | ⟨t, u, z, h1, h2, e⟩
  ·exact .inl ⟨i, by rw [hH]; simp; omega, e⟩
  ·exact .inr ⟨t, u, z, htat _ _ h1, h2, e⟩
theorem aw_weak {C c Q s} (s' : St) (hw : Weak C s s') (h : AW C c Q s') : AW C c Q s := fun L w a hc =>
 wp_mono (h L w a (hw.con hc)) fun _ _ _ k => Post.step hw.ev k
theorem aw_loop {C c Q s} {X : Type} (st : X → St) (I : X → Prop) (μ : X → Nat) (x0 : X) (h0 : I x0) (hw : Weak C s (st x0))
  (round : ∀ x, I x → AW C c (ExitK (fun s' => ∃ x', I x' ∧ μ x' < μ x ∧ Weak C s' (st x')) Q) (st x)) : AW C (.loop c) Q s := by
 refine aw_weak (st x0) hw ?_
 intro L w a hc
 refine wp_loop (fun a' w' => ∃ x L', I x ∧ ConSt C (st x) L' w' a' ∧ Ev C.nb C.tb L (st x0).H.length (st x0).T w L' (st x).H.length (st x).T w')
  (fun a' w' => Classical.epsilon fun n => (∃ x L', I x ∧ ConSt C (st x) L' w' a' ∧ Ev C.nb C.tb L (st x0).H.length (st x0).T w L' (st x).H.length (st x).T w' ∧ μ x = n) ∧
   ∀ x L', I x → ConSt C (st x) L' w' a' → Ev C.nb C.tb L (st x0).H.length (st x0).T w L' (st x).H.length (st x).T w' → n ≤ μ x) ⟨x0, L, h0, hc, Ev.refl hc.nb hc.tb⟩ ?_
 have least : ∀ a' w', (∃ x L', I x ∧ ConSt C (st x) L' w' a' ∧ Ev C.nb C.tb L (st x0).H.length (st x0).T w L' (st x).H.length (st x).T w') →
   ∃ n, (∃ x L', I x ∧ ConSt C (st x) L' w' a' ∧ Ev C.nb C.tb L (st x0).H.length (st x0).T w L' (st x).H.length (st x).T w' ∧ μ x = n) ∧
    ∀ x L', I x → ConSt C (st x) L' w' a' → Ev C.nb C.tb L (st x0).H.length (st x0).T w L' (st x).H.length (st x).T w' → n ≤ μ x := by
  intro a' w' ⟨x, L', hI, hcn, hev⟩
  have key : ∀ n, ∀ x L', I x → ConSt C (st x) L' w' a' → Ev C.nb C.tb L (st x0).H.length (st x0).T w L' (st x).H.length (st x).T w' → μ x = n →
    ∃ n, (∃ x L', I x ∧ ConSt C (st x) L' w' a' ∧ Ev C.nb C.tb L (st x0).H.length (st x0).T w L' (st x).H.length (st x).T w' ∧ μ x = n) ∧
    ∀ x L', I x → ConSt C (st x) L' w' a' → Ev C.nb C.tb L (st x0).H.length (st x0).T w L' (st x).H.length (st x).T w' → n ≤ μ x := by
   intro n
   induction n using Nat.strongRecOn with
   | _ n ih =>
    intro x L' h1 h2 h3 h4
    by_cases hs : ∃ y L'', I y ∧ ConSt C (st y) L'' w' a' ∧ Ev C.nb C.tb L (st x0).H.length (st x0).T w L'' (st y).H.length (st y).T w' ∧ μ y < n
    ·obtain ⟨y, L'', g1, g2, g3, g4⟩ := hs
     exact ih (μ y) g4 y L'' g1 g2 g3 rfl
    ·refine ⟨n, ⟨x, L', h1, h2, h3, h4⟩, fun y L'' g1 g2 g3 => ?_⟩
     rcases Nat.lt_or_ge (μ y) n with g | g
     ·exact absurd ⟨y, L'', g1, g2, g3, g⟩ hs
     ·exact g
  exact key _ x L' hI hcn hev rfl
 intro a1 w1 hI1
 obtain ⟨⟨x, L1, hI, hcn, hev, hμ⟩, hmin⟩ := Classical.epsilon_spec (least a1 w1 hI1)
 refine wp_mono (round x hI L1 w1 a1 hcn) fun e a' w' ⟨s', L', q, c', ev⟩ => ?_
 cases e with
 | normal =>
  obtain ⟨x', hI', hlt, hwk⟩ := q
  have hP : I x' ∧ ConSt C (st x') L' w' a' ∧ Ev C.nb C.tb L (st x0).H.length (st x0).T w L' (st x').H.length (st x').T w' :=
   ⟨hI', hwk.con c', (hev.trans ev).trans hwk.ev⟩
  refine ⟨⟨x', L', hP⟩, ?_⟩
  obtain ⟨_, hmin'⟩ := Classical.epsilon_spec (least a' w' ⟨x', L', hP⟩)
  have h1 := hmin' x' L' hP.1 hP.2.1 hP.2.2
  rw [← hμ]
  exact Nat.lt_of_le_of_lt h1 hlt
 | _ => exact ⟨s', L', q, c', hev.trans ev⟩
end Go.Am
