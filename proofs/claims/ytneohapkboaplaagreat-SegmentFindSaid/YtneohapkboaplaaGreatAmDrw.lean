/- Regions that draw their order: every order comes to what the text's order comes to.
  Conditions: none; it speaks of every program. -/
import Derived.Test.YtneohapkboaplaaGreatAmDraw
set_option linter.unusedVariables false
namespace Go.Am
open Go
def keepOf (e : Env) : List Tmp → Env
 | [] => []
 | t :: r => (t, eget e t) :: keepOf e r
theorem eget_keepOf (e : Env) : ∀ (l : List Tmp) (t : Tmp), eget (keepOf e l) t = if t ∈ l then eget e t else .top := by
 intro l
 induction l with
 | nil => intro t; rfl
 | cons s r ih =>
  intro t
  simp only [keepOf, eget]
  by_cases h : s = t
  ·subst h; simp
  ·rw [if_neg h, ih]
   have : t ≠ s := fun e => h e.symm
   simp [this]
def VS (recs : List DRec) (listed : Array Bool) (e0 : Env) (t : Nat) (v : AV) : Prop :=
 (∃ j x, recs[j]? = some x ∧ x.o.dst = some t ∧ listed.getD j false = true ∧ v = x.v) ∨
 ((∀ j x, recs[j]? = some x → x.o.dst = some t → listed.getD j false = false) ∧ v = eget e0 t)
structure Inv (D : DCx) (s : St) (recs : List DRec) (sts : List Stg) (L0 : Lay) (w0 : World) (listed : Array Bool) (a : Act) (w : World) : Prop where
 size : listed.size = recs.length
 closed : ∀ i j, listed.getD i false = true → anc (ancs (recs.map (·.o)) []) j i = true → listed.getD j false = true
 st : ∃ k H T e L, (∀ (m i : Nat), D.eff[m]? = some i → (listed.getD i false = true ↔ m < k)) ∧ k ≤ D.eff.length ∧ sts[k]? = some (H, T, e) ∧ Con L H T w ∧ D.C.nb ≤ H.length ∧ D.C.tb ≤ T.length ∧
  (∀ t, ∃ v, VS recs listed s.e t v ∧ Rep L H.length T w v (a.tmps.getD t undef)) ∧ Ev D.C.nb D.C.tb L0 s.H.length s.T w0 L H.length T w
 tmps : a.tmps.size = D.C.nt
 defers : a.defers = []
theorem getD_false {listed : Array Bool} {j : Nat} (h : j < listed.size) : listed.getD j true = listed.getD j false := by
 simp [h]
theorem draw_game {C : Cx} {ops : List Oper} {Q : Exit → St → Prop} {s : St} (K : St → Prop) (eff lo : List Nat) (na : List (List Nat)) (hck : drawCk ops eff lo na = true) (hef : effCk eff = true)
  (h : adraw ⟨C, ops.toArray, eff, lo, na, K⟩ ops [] [(s.H, s.T, 0)] (prune C.nv s.e)) : ∀ L0 w0 a0, ConSt C s L0 w0 a0 →
   wpAny C.P .any ops.toArray (Post C (ExitK K Q) L0 s w0) ops.toArray.size (Array.replicate ops.toArray.size false) a0 { w0 with drawn := w0.drawn + 1 } := by
 intro L0 w0 a0 hc0
 have hc : ConSt C ⟨prune C.nv s.e, s.H, s.T⟩ L0 w0 a0 := ⟨hc0.nb, hc0.tb, hc0.con, hc0.size, hc0.defers, fun t => by
  rcases eget_prune C.nv s.e t with e | e <;> rw [e]
  ·exact hc0.env t
  ·exact .top _⟩
 generalize hs' : (⟨prune C.nv s.e, s.H, s.T⟩ : St) = s' at hc
 have hs1 : prune C.nv s.e = s'.e := by rw [← hs']
 have hs2 : s.H = s'.H := by rw [← hs']
 have hs3 : s.T = s'.T := by rw [← hs']
 rw [hs1, hs2, hs3] at h
 rw [show Post C (ExitK K Q) L0 s w0 = Post C (ExitK K Q) L0 s' w0 by unfold Post; rw [hs2, hs3]]
 clear hs' hs1 hs2 hs3 hc0
 generalize hD : (⟨C, ops.toArray, eff, lo, na, K⟩ : DCx) = D at h
 have hDC : D.C = C := by rw [← hD]
 have hDe : D.eff = eff := by rw [← hD]
 have hDl : D.lo = lo := by rw [← hD]
 have hDn : D.na = na := by rw [← hD]
 have hDa : D.all = ops.toArray := by rw [← hD]
 have hDK : D.K = K := by rw [← hD]
 obtain ⟨recs, sts, HL, TL, iL, hw, hlen, hlast, hKK, hst0⟩ := adraw_walk (D := D) (ops := ops) (e0 := s'.e) (by rw [hDe]; exact hef) ops [] [(s'.H, s'.T, 0)] s'.e
  ⟨⟨by simp, fun i x hx => by simp at hx⟩, fun i x hx => by simp at hx, fun i x hx => by simp at hx, rfl⟩ (by simp) (by simp) h
 obtain ⟨d1, d2, d3, d4, d5, d6, d7⟩ := drawCk_spec hck
 have hro : ∀ (i : Nat) (x : DRec), recs[i]? = some x → ops[i]? = some x.o := fun i x hx => (hw.rcs i x hx).o
 have hmap : recs.map (·.o) = ops := by
  apply List.ext_getElem?
  intro i
  rw [List.getElem?_map]
  by_cases hi : i < recs.length
  ·rw [List.getElem?_eq_getElem hi, Option.map_some, hro i _ (List.getElem?_eq_getElem hi)]
  ·rw [List.getElem?_eq_none (by omega), List.getElem?_eq_none (by omega)]; rfl
 have hrec : ∀ i, i < ops.length → ∃ x : DRec, recs[i]? = some x := fun i hi => ⟨_, List.getElem?_eq_getElem (by omega)⟩
 have hstl : sts.length = 1 + eff.length := by
  have h1 := hw.st.len
  rw [hDe] at h1
  rw [h1]
  congr 2
  apply List.filter_eq_self.2
  intro e he
  obtain ⟨k, hk, e1⟩ := List.mem_iff_getElem.1 he
  have := (d3 k e (by rw [List.getElem?_eq_getElem hk, e1])).1
  simp; omega
 have key : ∀ (fuel : Nat) (listed : Array Bool) (a : Act) (w : World), Inv D s' recs sts L0 w0 listed a w → (∀ i, i < ops.length → listed.getD i false = true) ∨ (List.range ops.length).countP (fun i => !listed.getD i false) ≤ fuel →
   wpAny C.P .any ops.toArray (Post C (ExitK K Q) L0 s' w0) fuel listed a w := by
  have done : ∀ (listed : Array Bool) (a : Act) (w : World), Inv D s' recs sts L0 w0 listed a w → (∀ i, i < ops.length → listed.getD i false = true) → Post C (ExitK K Q) L0 s' w0 .normal a w := by
   intro listed a w hI hall
   obtain ⟨k, H, T, e, L, hk, hkl, hstk, hcon, hnb, htb, hslots, hev⟩ := hI.st
   have hkk : k = eff.length := by
    rw [hDe] at hk hkl
    rcases Nat.lt_or_ge k eff.length with hlt | hge
    ·have := (hk k _ (List.getElem?_eq_getElem hlt)).1 (hall _ (d3 k _ (List.getElem?_eq_getElem hlt)).1)
     omega
    ·omega
   have hlst : sts[k]? = some (HL, TL, iL) := by rw [← hlast, List.getLast?_eq_getElem?, hstl, hkk]; congr 1; omega
   rw [hstk] at hlst
   obtain ⟨rfl, rfl, rfl⟩ : H = HL ∧ T = TL ∧ e = iL := by injection hlst with h1; injection h1 with h1 h2; injection h2 with h2 h3; exact ⟨h1, h2, h3⟩
   rw [hDK] at hKK
   rw [hDC] at hev hnb htb
   refine ⟨_, L, hKK, ⟨hnb, htb, hcon, by rw [hI.tmps, hDC], hI.defers, fun t => ?_⟩, hev⟩
   obtain ⟨v, hv, hr⟩ := hslots t
   show Rep L H.length T w (eget (envAfter s'.e recs) t) _
   rcases hv with ⟨j, x, hx, hd, hl, rfl⟩ | ⟨hno, rfl⟩
   ·rw [eget_envAfter_at recs s'.e t j x hx hd (fun i y hy hyd => d1 i j y.o x.o t (hro i y hy) (hro j x hx) hyd hd)]
    exact hr
   ·rw [eget_envAfter_none recs s'.e t (fun x hx hd => by
     obtain ⟨j, hj, e1⟩ := List.mem_iff_getElem.1 hx
     have h1 := hno j x (by rw [List.getElem?_eq_getElem hj, e1]) hd
     have h2 := hall j (by omega)
     rw [h1] at h2; cases h2)]
    exact hr
  have stp : ∀ (listed : Array Bool) (a : Act) (w : World) (i : Nat) (KK : Act → World → Prop), Inv D s' recs sts L0 w0 listed a w → i ∈ Region.ready .any ops.toArray listed →
    (∀ a' w', Inv D s' recs sts L0 w0 (listed.setIfInBounds i true) a' w' → KK a' w') → wpOp C.P ops.toArray (Post C (ExitK K Q) L0 s' w0) i KK a w := by
   intro listed a w i KK hI hi hKK'
   obtain ⟨hnl, o, ho, hready⟩ := mem_ready.1 hi
   rw [List.getElem?_toArray] at ho
   have hil : i < ops.length := (List.getElem?_eq_some_iff.1 ho).1
   have hisz : i < listed.size := by rw [hI.size]; omega
   have hnl' : listed.getD i false = false := by rw [← getD_false hisz]; exact hnl
   obtain ⟨x, hx⟩ := hrec i hil
   have hox : x.o = o := by have := hro i x hx; rw [ho] at this; injection this with this; exact this.symm
   have hR := hw.rcs i x hx
   have hcl : ∀ i j, listed.getD i false = true → anc (ancs ops []) j i = true → listed.getD j false = true := by
    have := hI.closed; rw [hmap] at this; exact this
   have hancl : ∀ j, anc (ancs ops []) j i = true → listed.getD j false = true := fun j hj => anc_listed hcl ho hready (d6 i o ho) hj
   obtain ⟨k, H, T, e, L, hk, hkl, hstk, hcon, hnb, htb, hslots, hev⟩ := hI.st
   rw [hDe] at hk hkl
   rw [hDC] at hnb htb hev
   have hlook : ∀ t ∈ o.looksAt ops.toArray, ∀ v, VS recs listed s'.e t v → v = eget x.e t := by
    intro t ht v hv
    rw [hw.envs i x hx]
    have hw_ : ∀ (j : Nat) (z : DRec), recs[j]? = some z → z.o.dst = some t → i ≠ j ∧ ((j < i ∧ anc (ancs ops []) j i = true) ∨ (i < j ∧ anc (ancs ops []) i j = true)) := fun j z hz hd => d2 i j o z.o t ho (hro j z hz) ht hd
    rcases hv with ⟨j, z, hz, hd, hl, rfl⟩ | ⟨hno, rfl⟩
    ·obtain ⟨hne, h1 | h1⟩ := hw_ j z hz hd
     ·rw [eget_envAfter_at (recs.take i) s'.e t j z (by rw [List.getElem?_take, if_pos h1.1]; exact hz) hd (fun i' y' hy' hd' => by
       rw [List.getElem?_take] at hy'
       split at hy'
       ·exact d1 i' j y'.o z.o t (hro i' y' hy') (hro j z hz) hd' hd
       ·cases hy')]
     ·have := hcl j i hl h1.2
      rw [hnl'] at this; cases this
    ·rw [eget_envAfter_none (recs.take i) s'.e t (fun z hz hd => by
      obtain ⟨j, hj, e1⟩ := List.mem_iff_getElem.1 hz
      simp at hj
      have hz' : recs[j]? = some z := by rw [List.getElem?_eq_getElem (by omega), ← e1]; simp
      have hf := hno j z hz' hd
      obtain ⟨hne, h1 | h1⟩ := hw_ j z hz' hd
      ·have := hancl j h1.2; rw [hf] at this; cases this
      ·omega)]
   have henv : EnvRep L H.length T w (keepOf x.e (o.looksAt ops.toArray)) a := by
    intro t
    rw [eget_keepOf]
    split
    ·rename_i ht
     obtain ⟨v, hv, hr⟩ := hslots t
     rw [← hlook t ht v hv]; exact hr
    ·exact .top _
   have haev : ∀ z ∈ o.op.operands, aev x.e z = aev (keepOf x.e (o.looksAt ops.toArray)) z := by
    intro z hz
    cases z with
    | tmp t =>
     have : t ∈ o.looksAt ops.toArray := by
      unfold Oper.looksAt
      exact List.mem_append.2 (.inl (List.mem_filterMap.2 ⟨_, Array.mem_toList_iff.2 hz, rfl⟩))
     simp only [aev, eget_keepOf, if_pos this]
    | _ => rfl
   have behind : ∀ (H' : List Blk) (T' : Toks) (cv : Value) (w' : World) (L' : Lay), Con L' H' T' w' → Rep L' H'.length T' w' x.v cv → Ev H.length T.length L H.length T w L' H'.length T' w' →
     ((eff.contains i = false ∧ H' = H ∧ T' = T) ∨ (eff.contains i = true ∧ eff[k]? = some i ∧ ∃ e', sts[k + 1]? = some (H', T', e'))) → KK (a.put o.dst cv) w' := by
    intro H' T' cv w' L' hcon' hrep' hev' hor
    refine hKK' _ _ ⟨by simp [hI.size], fun i' j' hl' hanc' => ?_, ?_, ?_, by cases o.dst <;> exact hI.defers⟩
    ·rw [hmap] at hanc'
     by_cases hii : i = i'
     ·subst hii
      have := hancl j' hanc'
      by_cases hij : i = j'
      ·subst hij; rw [hnl'] at this; cases this
      ·rw [getD_set_ne false hij]; exact this
     ·rw [getD_set_ne false hii] at hl'
      have := hcl i' j' hl' hanc'
      exact getD_set_true this
    ·have hval : ∀ t, ∃ v, VS recs (listed.setIfInBounds i true) s'.e t v ∧ Rep L' H'.length T' w' v ((a.put o.dst cv).tmps.getD t undef) := by
      intro t
      by_cases hd : o.dst = some t
      ·refine ⟨x.v, .inl ⟨i, x, hx, by rw [hox]; exact hd, by simp [hisz], rfl⟩, ?_⟩
       have hlt : t < a.tmps.size := by rw [hI.tmps]; exact hR.dst t (by rw [hox]; exact hd)
       rw [hd, getD_put a t t cv hlt, if_pos rfl]
       exact hrep'
      ·obtain ⟨v, hv, hr⟩ := hslots t
       refine ⟨v, ?_, ?_⟩
       ·rcases hv with ⟨j, z, hz, hzd, hl, rfl⟩ | ⟨hno, rfl⟩
        ·exact .inl ⟨j, z, hz, hzd, getD_set_true hl, rfl⟩
        ·refine .inr ⟨fun j z hz hzd => ?_, rfl⟩
         have hij : i ≠ j := by
          rintro rfl
          rw [hx] at hz
          cases hz
          rw [hox] at hzd; exact hd hzd
         rw [getD_set_ne false hij]; exact hno j z hz hzd
       ·have e1 : (a.put o.dst cv).tmps.getD t undef = a.tmps.getD t undef := by
         cases hdst : o.dst with
         | none => rfl
         | some d =>
          have hlt : d < a.tmps.size := by rw [hI.tmps]; exact hR.dst d (by rw [hox]; exact hdst)
          rw [getD_put a d t cv hlt, if_neg (fun e => hd (by rw [hdst, e]))]
        rw [e1]; exact hr.keep hev'.keeps
     have hev2 := hev.trans (hev'.mono hnb htb)
     rcases hor with ⟨hne, rfl, rfl⟩ | ⟨heq, hek, e', hst'⟩
     ·refine ⟨k, H', T', e, L', fun m i' hm' => ?_, by rw [hDe]; exact hkl, hstk, hcon', by rw [hDC]; exact hnb, by rw [hDC]; exact htb, hval, by rw [hDC]; exact hev2⟩
      rw [hDe] at hm'
      have hii : i ≠ i' := by
       rintro rfl
       have := List.mem_of_getElem? hm'
       rw [← List.contains_iff_mem] at this
       rw [hne] at this; cases this
      rw [getD_set_ne false hii]; exact hk m i' hm'
     ·refine ⟨k + 1, H', T', e', L', fun m i' hm' => ?_, by rw [hDe]; have := (List.getElem?_eq_some_iff.1 hek).1; omega, hst', hcon', by rw [hDC]; exact Nat.le_trans hnb hev'.n, by rw [hDC]; exact Nat.le_trans htb hev'.t, hval, by rw [hDC]; exact hev2⟩
      rw [hDe] at hm'
      by_cases hii : i = i'
      ·subst hii
       have e1 := (effCk_spec hef heq).1
       have hmk : ∀ m', eff[m']? = some i → m' = (eff.filter (· < i)).length := by
        intro m' hm''
        have hml := (List.getElem?_eq_some_iff.1 hm'').1
        have := List.all_eq_true.1 hef m' (List.mem_range.2 hml)
        simp only [Bool.and_eq_true, beq_iff_eq, List.getD_eq_getElem?_getD, hm'', Option.getD_some] at this
        exact this.1.symm
       have h1 := hmk m hm'
       have h2 := hmk k hek
       simp [hisz]; omega
      ·rw [getD_set_ne false hii, hk m i' hm']
       constructor
       ·intro h; omega
       ·intro h
        rcases Nat.lt_or_ge m k with h1 | h1
        ·exact h1
        ·have : m = k := by omega
         subst this
         rw [hek] at hm'
         injection hm' with hm'
         exact absurd hm' hii
    ·simp [Act.put]; cases o.dst <;> simp [hI.tmps]
   have hstage : eff.contains i = true → eff[k]? = some i ∧ x.k = k := by
    intro heq
    obtain ⟨e1, _⟩ := effCk_spec hef heq
    have hxk := hw.st.k i x hx
    rw [hDe] at hxk
    have hge : k ≤ (eff.filter (· < i)).length := by
     rcases Nat.lt_or_ge (eff.filter (· < i)).length k with h1 | h1
     ·have := (hk _ i e1).2 h1
      rw [hnl'] at this; cases this
     ·exact h1
    have hle : (eff.filter (· < i)).length ≤ k := by
     rcases Nat.eq_zero_or_pos (eff.filter (· < i)).length with h0 | h0
     ·omega
     ·obtain ⟨e', h1, h2⟩ := (d3 _ i e1).2 h0
      have := (hk _ e' h1).1 (hancl e' h2)
      omega
    have : (eff.filter (· < i)).length = k := by omega
    exact ⟨by rw [← this]; exact e1, by omega⟩
   have hgv : ∀ j b, gval D.all j x.e = some b → o.guard = some (j, true) ∨ o.guard = some (j, false) → yielded ops.toArray a.tmps j = b := by
    intro j b hb hg
    rw [hDa] at hb
    refine yielded_gval henv ?_
    unfold gval at hb ⊢
    split at hb
    ·rename_i d hd
     have : d ∈ o.looksAt ops.toArray := by
      unfold Oper.looksAt
      refine List.mem_append.2 (.inr ?_)
      rcases hg with hg | hg <;> rw [hg] <;> simp only [hd] <;> simp
     rw [eget_keepOf, if_pos this]
     exact hb
    ·cases hb
   unfold wpOp
   rw [List.getElem?_toArray, ho]
   dsimp only
   have hgate := hR.gate
   rw [hox] at hgate
   by_cases hrun : x.run = true
   ·
    have hwant : Region.wanted o (yielded ops.toArray a.tmps) = true := by
     unfold Region.wanted
     cases hg : o.guard with
     | none => rfl
     | some jw =>
      obtain ⟨j, want⟩ := jw
      rw [hg] at hgate
      obtain ⟨b, hb, hb2⟩ := hgate
      have := hgv j b hb (by cases want <;> simp [hg])
      rw [hrun] at hb2
      simp only [this]
      have hbw : b = some want := by simpa using hb2.symm
      simp [hbw]
    rw [if_pos hwant]
    refine .inl ?_
    have hxx : ∃ H' T', aexec C.P o x.e H T x.v H' T' ∧ ((eff.contains i = false ∧ H' = H ∧ T' = T) ∨ (eff.contains i = true ∧ eff[k]? = some i ∧ ∃ e', sts[k + 1]? = some (H', T', e'))) := by
     cases heq : eff.contains i with
     | false =>
      have hxe : x.eff = false := by rw [hR.eff, hDe]; exact heq
      have hst := hR.still hrun hxe k H T e hstk ?_ ?_
      ·rw [hDC, hox] at hst; exact ⟨H, T, hst, .inl ⟨rfl, rfl, rfl⟩⟩
      ·rw [hDl]
       refine Nat.le_trans (d4 i hil) ?_
       unfold effIn
       have hsub : ∀ e' ∈ eff.filter (fun e => anc (ancs ops []) e i), ∃ m, m < k ∧ eff[m]? = some e' := by
        intro e' he'
        obtain ⟨h1, h2⟩ := List.mem_filter.1 he'
        obtain ⟨m, hm1, hm2⟩ := List.mem_iff_getElem.1 h1
        have hm3 : eff[m]? = some e' := by rw [List.getElem?_eq_getElem hm1, hm2]
        exact ⟨m, (hk m e' hm3).1 (hancl e' h2), hm3⟩
       have hle : (eff.filter (fun e => anc (ancs ops []) e i)).length ≤ (eff.take k).length := by
        have e1 : eff.filter (fun e => anc (ancs ops []) e i) = (eff.take k).filter (fun e => anc (ancs ops []) e i) ++ (eff.drop k).filter (fun e => anc (ancs ops []) e i) := by
         rw [← List.filter_append, List.take_append_drop]
        have e2 : (eff.drop k).filter (fun e => anc (ancs ops []) e i) = [] := by
         rw [List.filter_eq_nil_iff]
         intro e' he' hanc'
         obtain ⟨m, hm1, hm2⟩ := List.mem_iff_getElem.1 he'
         simp at hm1
         have hm3 : eff[k + m]? = some e' := by
          rw [List.getElem?_eq_getElem (by omega), ← hm2]; simp
         have := (hk (k + m) e' hm3).1 (hancl e' hanc')
         omega
        rw [e1, e2, List.append_nil]
        exact List.length_filter_le _ _
       refine Nat.le_trans hle ?_
       simp; omega
      ·rcases Nat.lt_or_ge x.k k with hlt | hge
       ·right
        rw [hDn]
        have hkk : k - 1 < eff.length := by omega
        have he' := List.getElem?_eq_getElem hkk
        have hll := (hk (k - 1) _ he').2 (by omega)
        have hgt : i < eff[k - 1] := by
         rcases Nat.lt_or_ge i eff[k - 1] with h1 | h1
         ·exact h1
         ·exfalso
          have hne : eff[k - 1] ≠ i := by
           intro e1
           have := List.mem_of_getElem? he'
           rw [e1, ← List.contains_iff_mem] at this
           rw [heq] at this; cases this
          have hxk := hw.st.k i x hx
          rw [hDe] at hxk
          have h2 := List.all_eq_true.1 hef (k - 1) (List.mem_range.2 hkk)
          simp only [Bool.and_eq_true, beq_iff_eq, List.getD_eq_getElem?_getD, he', Option.getD_some] at h2
          have h3 : (eff.filter (· < eff[k - 1] + 1)).length ≤ (eff.filter (· < i)).length := by
           rw [← List.countP_eq_length_filter, ← List.countP_eq_length_filter]
           exact List.countP_mono_left (fun z _ hz => by simp at hz ⊢; omega)
          omega
        rcases d5 (k - 1) _ he' i hgt with h1 | h1 | h1
        ·rw [heq] at h1; cases h1
        ·exact h1
        ·have := hcl _ i hll h1
         rw [hnl'] at this; cases this
       ·exact .inl hge
     | true =>
      have hxe : x.eff = true := by rw [hR.eff, hDe]; exact heq
      obtain ⟨hek, hxk⟩ := hstage heq
      obtain ⟨Ha, Ta, ea, Hb, Tb, g1, g2, g3, _⟩ := hR.effect hxe
      rw [hxk, hstk] at g1
      obtain ⟨rfl, rfl⟩ : H = Ha ∧ T = Ta := by injection g1 with h1; injection h1 with h1 h2; injection h2 with h2 h3; exact ⟨h1, h2⟩
      rw [hxk] at g2
      have := g3 hrun
      rw [hDC, hox] at this
      exact ⟨Hb, Tb, this, .inr ⟨rfl, hek, i, g2⟩⟩
    obtain ⟨H', T', hex, hor⟩ := hxx
    exact aexec_wp (aexec_congr haev hex) hcon henv fun cv w' L' g1 g2 g3 => behind H' T' cv w' L' g1 g2 g3 hor
   ·
    have hrun' : x.run = false := by simpa using hrun
    have hwant : Region.wanted o (yielded ops.toArray a.tmps) = false := by
     unfold Region.wanted
     cases hg : o.guard with
     | none => rw [hg] at hgate; rw [hgate] at hrun'; cases hrun'
     | some jw =>
      obtain ⟨j, want⟩ := jw
      rw [hg] at hgate
      obtain ⟨b, hb, hb2⟩ := hgate
      have := hgv j b hb (by cases want <;> simp [hg])
      rw [hrun'] at hb2
      simp only [this]
      have hbw : b ≠ some want := by simpa using hb2.symm
      simp [hbw]
    rw [if_neg (by simp [hwant])]
    have hv : x.v = .tup [] := hR.skip hrun'
    cases heq : eff.contains i with
    | false => exact behind H T undef w L hcon (by rw [hv]; exact .tup [] #[] rfl (fun j hj => by simp at hj)) (Ev.refl (Nat.le_refl _) (Nat.le_refl _)) (.inl ⟨heq, rfl, rfl⟩)
    | true =>
     have hxe : x.eff = true := by rw [hR.eff, hDe]; exact heq
     obtain ⟨hek, hxk⟩ := hstage heq
     obtain ⟨Ha, Ta, ea, Hb, Tb, g1, g2, _, g4⟩ := hR.effect hxe
     rw [hxk, hstk] at g1
     obtain ⟨rfl, rfl⟩ : H = Ha ∧ T = Ta := by injection g1 with h1; injection h1 with h1 h2; injection h2 with h2 h3; exact ⟨h1, h2⟩
     obtain ⟨rfl, rfl⟩ := g4 hrun'
     rw [hxk] at g2
     exact behind _ _ undef w L hcon (by rw [hv]; exact .tup [] #[] rfl (fun j hj => by simp at hj)) (Ev.refl (Nat.le_refl _) (Nat.le_refl _)) (.inr ⟨heq, hek, i, g2⟩)
  have some_ready : ∀ (listed : Array Bool), listed.size = recs.length → Region.ready .any ops.toArray listed = [] → ∀ i, i < ops.length → listed.getD i false = true := by
   intro listed hsz hr i
   induction i using Nat.strongRecOn with
   | _ i ih =>
    intro hil
    cases hli : listed.getD i false with
    | true => rfl
    | false =>
     exfalso
     have hmem : i ∈ Region.ready .any ops.toArray listed := by
      refine mem_ready.2 ⟨by rw [getD_false (by omega)]; exact hli, ops[i], by rw [List.getElem?_toArray, List.getElem?_eq_getElem hil], fun e he hb => ?_⟩
      have hlt := d6 i _ (List.getElem?_eq_getElem hil) e he hb
      exact ih e.on hlt (by omega)
     rw [hr] at hmem
     simp at hmem
  intro fuel
  induction fuel with
  | zero =>
   intro listed a w hI hcnt
   have hall : ∀ i, i < ops.length → listed.getD i false = true := by
    rcases hcnt with h1 | h1
    ·exact h1
    ·intro i hi
     have h2 : (List.range ops.length).countP (fun i => !listed.getD i false) = 0 := by omega
     have := List.countP_eq_zero.1 h2 i (List.mem_range.2 hi)
     simpa using this
   refine ⟨?_, done listed a w hI hall⟩
   rw [List.eq_nil_iff_forall_not_mem]
   intro i hi
   obtain ⟨h1, o, ho, _⟩ := mem_ready.1 hi
   rw [List.getElem?_toArray] at ho
   have hil := (List.getElem?_eq_some_iff.1 ho).1
   rw [getD_false (by rw [hI.size]; omega), hall i hil] at h1
   cases h1
  | succ fuel ih =>
   intro listed a w hI hcnt
   refine ⟨fun hr => done listed a w hI (some_ready listed hI.size hr), fun i hi => ?_⟩
   refine stp listed a w i _ hI hi fun a' w' hI' => ih _ a' w' hI' ?_
   obtain ⟨h1, o, ho, _⟩ := mem_ready.1 hi
   rw [List.getElem?_toArray] at ho
   have hil := (List.getElem?_eq_some_iff.1 ho).1
   have hisz : i < listed.size := by rw [hI.size]; omega
   rw [getD_false hisz] at h1
   rcases hcnt with h2 | h2
   ·rw [h2 i hil] at h1; cases h1
   ·right
    have : (List.range ops.length).countP (fun j => !(listed.setIfInBounds i true).getD j false) + 1 ≤ (List.range ops.length).countP (fun j => !listed.getD j false) := by
     have hsplit : (List.range ops.length).countP (fun j => !listed.getD j false) = (List.range ops.length).countP (fun j => !(listed.setIfInBounds i true).getD j false) + (List.range ops.length).countP (fun j => decide (j = i)) := by
      generalize List.range ops.length = l
      induction l with
      | nil => rfl
      | cons y r ihl =>
       simp only [List.countP_cons, ihl]
       by_cases hy : y = i
       ·subst hy
        simp [h1, hisz]; omega
       ·rw [getD_set_ne false (fun e => hy e.symm)]
        simp [hy]; omega
     have hpos : 0 < (List.range ops.length).countP (fun j => decide (j = i)) := List.countP_pos_iff.2 ⟨i, List.mem_range.2 hil, by simp⟩
     omega
    omega
 have hsz : ops.toArray.size = ops.length := by simp
 rw [hsz]
 refine key ops.length _ a0 _ ⟨by simp [hlen], fun i j hl _ => ?_, ⟨0, s'.H, s'.T, 0, L0, fun m i hmi => ?_, Nat.zero_le _, by rw [hst0]; rfl, hc.con.drew rfl, by rw [hDC]; exact hc.nb, by rw [hDC]; exact hc.tb, fun t => ?_, ?_⟩, by rw [hDC]; exact hc.size, hc.defers⟩ (.inr ?_)
 ·exfalso
  by_cases hi : i < ops.length <;> simp [hi] at hl
 ·constructor
  ·intro hl
   exfalso
   by_cases hi : i < ops.length <;> simp [hi] at hl
  ·intro h; omega
 ·refine ⟨eget s'.e t, .inr ⟨fun j x hx hd => ?_, rfl⟩, ?_⟩
  ·by_cases hj : j < ops.length <;> simp [hj]
  ·have kd : Keeps L0 s'.H.length s'.T w0 L0 s'.H.length s'.T { w0 with drawn := w0.drawn + 1 } := (Ev.drew (H := s'.H) (T := s'.T) (L := L0) (w := w0) (w' := { w0 with drawn := w0.drawn + 1 }) rfl rfl rfl rfl (Nat.le_succ _)).keeps
   exact (hc.env t).keep kd
 ·rw [hDC]
  exact (Ev.drew (H := s'.H) (T := s'.T) (L := L0) (w := w0) (w' := { w0 with drawn := w0.drawn + 1 }) rfl rfl rfl rfl (Nat.le_succ _)).mono hc.nb hc.tb
 ·refine Nat.le_trans (List.countP_le_length) ?_
  simp
theorem aw_drawK {C : Cx} {id : Nat} {ops : List Oper} {Q : Exit → St → Prop} {s : St} (K : St → Prop) (eff lo : List Nat) (na : List (List Nat)) (hm : C.P.follows .mixedOrders = true) (hck : drawCk ops eff lo na = true) (hef : effCk eff = true)
  (h : adraw ⟨C, ops.toArray, eff, lo, na, K⟩ ops [] [(s.H, s.T, 0)] (prune C.nv s.e)) : AW C (.region id ops.toArray true) (ExitK K Q) s :=
 fun L0 w0 a0 hc0 => wp_region_any hm (draw_game K eff lo na hck hef h L0 w0 a0 hc0)
theorem aw_draw {C : Cx} {id : Nat} {ops : List Oper} {Q : Exit → St → Prop} {s : St} {y : Code} (eff lo : List Nat) (na : List (List Nat)) (hm : C.P.follows .mixedOrders = true) (hck : drawCk ops eff lo na = true) (hef : effCk eff = true)
  (h : ∀ K : St → Prop, (∀ s, AW C y Q s → K s) → adraw ⟨C, ops.toArray, eff, lo, na, K⟩ ops [] [(s.H, s.T, 0)] (prune C.nv s.e)) : AW C (.seq (.region id ops.toArray true) y) Q s :=
 aw_seq fun K hK => aw_drawK K eff lo na hm hck hef (h K hK)
theorem aw_draw0 {C : Cx} {id : Nat} {ops : List Oper} {Q : Exit → St → Prop} {s : St} (eff lo : List Nat) (na : List (List Nat)) (hm : C.P.follows .mixedOrders = true) (hck : drawCk ops eff lo na = true) (hef : effCk eff = true)
  (h : ∀ K : St → Prop, (∀ s, Q .normal s → K s) → adraw ⟨C, ops.toArray, eff, lo, na, K⟩ ops [] [(s.H, s.T, 0)] (prune C.nv s.e)) : AW C (.region id ops.toArray true) Q s :=
 (aw_drawK (Q := Q) (fun s => Q .normal s) eff lo na hm hck hef (h _ fun _ h => h)).mono fun e s q => by cases e <;> exact q
end Go.Am
