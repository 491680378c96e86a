/- A region that draws its order, whose last operations come behind all others: these are walked as elsewhere.
   Conditions: none; it speaks of every program. -/
import Derived.Test.YtfdlngemkhiiiaaAmDr2
namespace Go.Am
open Go
set_option linter.unusedVariables false

/-- From the n-th one on, each operation comes behind all that stand ahead of it. -/
def tailCk (ops : List Oper) (n : Nat) : Bool :=
  decide (n ≤ ops.length) &&
  ((List.range ops.length).all fun i => (ops.getD i default).after.all fun e => !Region.binds .any e || decide (e.on < i)) &&
  ((List.range n).all fun i => match (ops.getD i default).guard with | some (g, _) => decide (g < n) | none => true) &&
  ((List.range ops.length).all fun i => decide (i < n) || (List.range i).all fun j => anc (ancs ops []) j i)

theorem tailCk_spec {ops : List Oper} {n : Nat} (h : tailCk ops n = true) :
    n ≤ ops.length ∧ (∀ (i : Nat) (o : Oper), ops[i]? = some o → ∀ e ∈ o.after, Region.binds .any e = true → e.on < i) ∧
    (∀ (i g : Nat) (o : Oper) (b : Bool), i < n → ops[i]? = some o → o.guard = some (g, b) → g < n) ∧
    ∀ i j, n ≤ i → i < ops.length → j < i → anc (ancs ops []) j i = true := by
  unfold tailCk at h
  simp only [Bool.and_eq_true, decide_eq_true_eq] at h
  obtain ⟨⟨⟨h1, h2⟩, h3⟩, h4⟩ := h
  have at_ : ∀ {i : Nat} {x : Oper}, ops[i]? = some x → i < ops.length ∧ ops.getD i default = x := fun {i x} hi => by
    obtain ⟨a, b⟩ := List.getElem?_eq_some_iff.1 hi
    exact ⟨a, by rw [List.getD_eq_getElem?_getD, hi]; rfl⟩
  refine ⟨h1, fun i o ho e he hb => ?_, fun i g o b hi ho hg => ?_, fun i j hn hi hj => ?_⟩
  · obtain ⟨a1, a2⟩ := at_ ho
    have := Array.all_eq_true_iff_forall_mem.1 (List.all_eq_true.1 h2 i (List.mem_range.2 a1)) e (by rw [a2]; exact he)
    rw [hb] at this
    simpa using this
  · obtain ⟨a1, a2⟩ := at_ ho
    have := List.all_eq_true.1 h3 i (List.mem_range.2 hi)
    rw [a2, hg] at this
    simpa using this
  · have := List.all_eq_true.1 h4 i (List.mem_range.2 hi)
    have hf : decide (i < n) = false := decide_eq_false (by omega)
    rw [hf, Bool.false_or] at this
    exact List.all_eq_true.1 this j (List.mem_range.2 hj)

section
variable {P : Program}

theorem wp_exits {o : Oper} {a : Act} {w : World} {K K' : Act → World → Prop} {Q1 Q2 : Exit → Act → World → Prop} (hQ : ∀ e a w, e ≠ .normal → Q1 e a w → Q2 e a w) (hK : ∀ a w, K a w → K' a w) (h : o.wp P a w K Q1) : o.wp P a w K' Q2 := by
  unfold Oper.wp at *
  generalize (execOp a.eval o).run P w = r at *
  cases r with
  | ok n w' =>
    cases n <;> simp only [Oper.upon] at h ⊢ <;> first
      | exact hK _ _ h
      | exact h
      | (refine h.mono ?_
         intro e w3 he
         cases e with
         | returned v => exact hK _ _ he
         | panicked ch => exact hQ _ _ _ (by intro hh; cases hh) he
         | outgrown => obtain ⟨a0, w0, h0⟩ := he; exact ⟨a0, w0, hQ _ _ _ (by intro hh; cases hh) h0⟩)
      | exact h.mono fun v w3 he => hK _ _ he
  | halt x w' => cases x <;> simp only [Oper.upon] at h ⊢ <;> first | exact hQ _ _ _ (by intro hh; cases hh) h | exact h

theorem lets_exits {Q1 Q2 : Exit → Act → World → Prop} (hQ : ∀ e a w, e ≠ .normal → Q1 e a w → Q2 e a w) (h : LetsOut Q1) : LetsOut Q2 := by
  obtain ⟨a, w, h⟩ := h
  exact ⟨a, w, hQ _ _ _ (by intro hh; cases hh) h⟩

theorem list_exits {ops : Array Oper} {Q1 Q2 : Exit → Act → World → Prop} (hQ : ∀ e a w, Q1 e a w → Q2 e a w) : ∀ (l : List Oper) (a : Act) (w : World), wpList P ops Q1 l a w → wpList P ops Q2 l a w := by
  intro l
  induction l with
  | nil => intro a w h; exact hQ _ _ _ h
  | cons o r ih =>
    intro a w h
    unfold wpList at h ⊢
    split
    · rename_i hw
      rw [if_pos hw] at h
      rcases h with h | ⟨h1, h2⟩
      · exact .inl (wp_exits (fun e a w _ => hQ e a w) ih h)
      · exact .inr ⟨h1, lets_exits (fun e a w _ => hQ e a w) h2⟩
    · rename_i hw
      rw [if_neg hw] at h
      exact ih _ _ h

/-- Whoever is listed, all that must come before it are listed. -/
def Closed (ops : List Oper) (listed : Array Bool) : Prop := ∀ i j, listed.getD i false = true → anc (ancs ops []) j i = true → listed.getD j false = true

theorem Closed.step {ops : List Oper} {listed : Array Bool} (h : Closed ops listed) {i : Nat} {o : Oper} (ho : ops[i]? = some o) (hr : ∀ e ∈ o.after, Region.binds .any e = true → listed.getD e.on false = true) (hback : ∀ e ∈ o.after, Region.binds .any e = true → e.on < i) : Closed ops (listed.setIfInBounds i true) := by
  intro x j hx hj
  by_cases hxi : x = i
  · subst hxi
    exact getD_set_true (anc_listed h ho hr hback hj)
  · rw [getD_set_ne false (fun e => hxi e.symm)] at hx
    exact getD_set_true (h x j hx hj)

theorem chain_game {ops : List Oper} {Q : Exit → Act → World → Prop} {n : Nat} (hck : tailCk ops n = true) : ∀ (l : List Oper) (i : Nat), n ≤ i → l = ops.drop i → i ≤ ops.length → ∀ (fuel : Nat) (listed : Array Bool) (a : Act) (w : World), l.length ≤ fuel → listed.size = ops.length →
    (∀ j, j < ops.length → (listed.getD j false = true ↔ j < i)) → Closed ops listed → wpList P ops.toArray Q l a w → wpAny P .any ops.toArray Q fuel listed a w := by
  obtain ⟨c1, c2, c3, c4⟩ := tailCk_spec hck
  intro l
  induction l with
  | nil =>
    intro i hn hl hi fuel listed a w hf hsz hls hcl h
    have hil : i = ops.length := by
      have := congrArg List.length hl
      rw [List.length_drop, List.length_nil] at this
      omega
    have hr : Region.ready .any ops.toArray listed = [] := by
      rw [List.eq_nil_iff_forall_not_mem]
      intro k hk
      obtain ⟨h1, o, ho, _⟩ := mem_ready.1 hk
      rw [List.getElem?_toArray] at ho
      have hkl := (List.getElem?_eq_some_iff.1 ho).1
      rw [getD_false (by omega), (hls k hkl).2 (by omega)] at h1
      cases h1
    cases fuel with
    | zero => exact ⟨hr, h⟩
    | succ f => exact ⟨fun _ => h, fun k hk => by rw [hr] at hk; cases hk⟩
  | cons o r ih =>
    intro i hn hl hi fuel listed a w hf hsz hls hcl h
    have hil : i < ops.length := by
      rcases Nat.lt_or_ge i ops.length with h1 | h1
      · exact h1
      · rw [List.drop_of_length_le h1] at hl; cases hl
    have hdr := List.drop_eq_getElem_cons hil
    rw [hdr] at hl
    have ho : ops[i]? = some o := by rw [List.getElem?_eq_getElem hil]; exact congrArg some (List.cons.inj hl).1.symm
    have hr' := (List.cons.inj hl).2
    have hedge : ∀ e ∈ o.after, Region.binds .any e = true → listed.getD e.on false = true := fun e he hb => by
      have := c2 i o ho e he hb
      exact (hls _ (by omega)).2 this
    have hmem : i ∈ Region.ready .any ops.toArray listed := mem_ready.2 ⟨by
      rw [getD_false (by omega)]
      cases hli : listed.getD i false with
      | false => rfl
      | true => have := (hls i hil).1 hli; omega, o, by rw [List.getElem?_toArray]; exact ho, hedge⟩
    have honly : ∀ k ∈ Region.ready .any ops.toArray listed, k = i := by
      intro k hk
      obtain ⟨h1, o', ho', h2⟩ := mem_ready.1 hk
      rw [List.getElem?_toArray] at ho'
      have hkl := (List.getElem?_eq_some_iff.1 ho').1
      rw [getD_false (by omega)] at h1
      rcases Nat.lt_trichotomy k i with h3 | h3 | h3
      · rw [(hls k hkl).2 h3] at h1; cases h1
      · exact h3
      · have := anc_listed hcl ho' h2 (fun e he hb => c2 k o' ho' e he hb) (c4 k i (by omega) hkl h3)
        have := (hls i hil).1 this
        omega
    cases fuel with
    | zero => simp at hf
    | succ f =>
      refine ⟨fun hn => (by rw [hn] at hmem; cases hmem), fun k hk => ?_⟩
      have := honly k hk
      subst this
      have hgo := ih (k + 1) (by omega) hr' (by omega) f (listed.setIfInBounds k true)
      have hls' : ∀ j, j < ops.length → ((listed.setIfInBounds k true).getD j false = true ↔ j < k + 1) := by
        intro j hj
        by_cases hjk : j = k
        · subst hjk
          simp [hsz, hil]
        · rw [getD_set_ne false (fun e => hjk e.symm), hls j hj]; omega
      have hgo' := fun a w => hgo a w (by simpa using hf) (by simpa using hsz) hls' (hcl.step ho hedge (fun e he hb => c2 k o ho e he hb))
      unfold wpOp
      rw [List.getElem?_toArray, ho]
      unfold wpList at h
      dsimp only
      split
      · rename_i hw
        rw [if_pos hw] at h
        rcases h with h | h
        · exact .inl (Oper.wp_mono hgo' h)
        · exact .inr h
      · rename_i hw
        rw [if_neg hw] at h
        exact hgo' _ _ h

theorem op_exits {ops : List Oper} {n i : Nat} {Q1 Q2 : Exit → Act → World → Prop} (hQ : ∀ e a w, e ≠ .normal → Q1 e a w → Q2 e a w) (hi : i < n) (hg : ∀ (g : Nat) (o : Oper) (b : Bool), ops[i]? = some o → o.guard = some (g, b) → g < n)
    {K K' : Act → World → Prop} (hK : ∀ a w, K a w → K' a w) {a : Act} {w : World} (h : wpOp P (ops.take n).toArray Q1 i K a w) : wpOp P ops.toArray Q2 i K' a w := by
  unfold wpOp at *
  rw [List.getElem?_toArray] at *
  rw [List.getElem?_take_of_lt hi] at h
  cases ho : ops[i]? with
  | none => rw [ho] at h; exact hK _ _ h
  | some o =>
    rw [ho] at h
    dsimp only at h ⊢
    have hw : Region.wanted o (yielded (ops.take n).toArray a.tmps) = Region.wanted o (yielded ops.toArray a.tmps) := by
      unfold Region.wanted
      cases hgo : o.guard with
      | none => rfl
      | some gb =>
        obtain ⟨g, b⟩ := gb
        have hgn := hg g o b ho hgo
        have : yielded (ops.take n).toArray a.tmps g = yielded ops.toArray a.tmps g := by
          unfold yielded
          rw [List.getElem?_toArray, List.getElem?_toArray, List.getElem?_take_of_lt hgn]
        simp only [this]
    rw [hw] at h
    split
    · rename_i hwt
      rw [if_pos hwt] at h
      rcases h with h | ⟨h1, h2⟩
      · exact .inl (wp_exits hQ hK h)
      · exact .inr ⟨h1, lets_exits hQ h2⟩
    · rename_i hwt
      rw [if_neg hwt] at h
      exact hK _ _ h

theorem pre_game {ops : List Oper} {Q1 Q2 : Exit → Act → World → Prop} {n : Nat} (hck : tailCk ops n = true) (hQ : ∀ e a w, e ≠ .normal → Q1 e a w → Q2 e a w) (hfin : ∀ a w, Q1 .normal a w → wpList P ops.toArray Q2 (ops.drop n) a w) :
    ∀ (fuel : Nat) (lp listed : Array Bool) (a : Act) (w : World), lp.size = n → listed.size = ops.length → (∀ j, j < n → listed.getD j false = lp.getD j false) → (∀ j, n ≤ j → listed.getD j false = false) → Closed ops listed →
      wpAny P .any (ops.take n).toArray Q1 fuel lp a w → wpAny P .any ops.toArray Q2 (fuel + (ops.length - n)) listed a w := by
  obtain ⟨c1, c2, c3, c4⟩ := tailCk_spec hck
  have tk : ∀ i, i < n → (ops.take n).toArray[i]? = ops[i]? := fun i hi => by rw [List.getElem?_toArray, List.getElem?_take_of_lt hi]
  have hall : ∀ (lp : Array Bool), lp.size = n → Region.ready .any (ops.take n).toArray lp = [] → ∀ j, j < n → lp.getD j false = true := by
    intro lp hsz hr i
    induction i using Nat.strongRecOn with
    | _ i ih =>
      intro hil
      cases hli : lp.getD i false with
      | true => rfl
      | false =>
        exfalso
        have hio : ops[i]? = some ops[i] := List.getElem?_eq_getElem (by omega)
        have hmem : i ∈ Region.ready .any (ops.take n).toArray lp := by
          refine mem_ready.2 ⟨by rw [getD_false (by omega)]; exact hli, ops[i], by rw [tk i hil]; exact hio, fun e he hb => ?_⟩
          have hlt := c2 i _ hio e he hb
          exact ih e.on hlt (by omega)
        rw [hr] at hmem
        cases hmem
  have hend : ∀ (fuel : Nat) (lp listed : Array Bool) (a : Act) (w : World), lp.size = n → listed.size = ops.length → (∀ j, j < n → listed.getD j false = lp.getD j false) → (∀ j, n ≤ j → listed.getD j false = false) → Closed ops listed →
      Region.ready .any (ops.take n).toArray lp = [] → Q1 .normal a w → ops.length - n ≤ fuel → wpAny P .any ops.toArray Q2 fuel listed a w := by
    intro fuel lp listed a w hz hsz hl ht hcl hr hq hf
    have hl2 := hall lp hz hr
    refine chain_game hck (ops.drop n) n (Nat.le_refl _) rfl c1 fuel listed a w (by rw [List.length_drop]; exact hf) hsz (fun j hj => ?_) hcl (hfin _ _ hq)
    rcases Nat.lt_or_ge j n with h1 | h1
    · rw [hl j h1, hl2 j h1]; simp [h1]
    · rw [ht j h1]; simp; omega
  intro fuel
  induction fuel with
  | zero =>
    intro lp listed a w hz hsz hl ht hcl h
    exact hend _ lp listed a w hz hsz hl ht hcl h.1 h.2 (by omega)
  | succ fuel ih =>
    intro lp listed a w hz hsz hl ht hcl h
    cases hrr : Region.ready .any (ops.take n).toArray lp with
    | nil => exact hend _ lp listed a w hz hsz hl ht hcl hrr (h.1 hrr) (by omega)
    | cons k rest =>
      have hk : k ∈ Region.ready .any (ops.take n).toArray lp := by rw [hrr]; simp
      have hkn : ∀ i, i ∈ Region.ready .any (ops.take n).toArray lp → i < n := by
        intro i hi
        obtain ⟨_, o, ho, _⟩ := mem_ready.1 hi
        rw [List.getElem?_toArray] at ho
        have := (List.getElem?_eq_some_iff.1 ho).1
        rw [List.length_take] at this
        omega
      have hto : ∀ i, i ∈ Region.ready .any (ops.take n).toArray lp → i ∈ Region.ready .any ops.toArray listed := by
        intro i hi
        have hin := hkn i hi
        obtain ⟨h1, o, ho, h2⟩ := mem_ready.1 hi
        rw [tk i hin] at ho
        rw [getD_false (by omega)] at h1
        refine mem_ready.2 ⟨by rw [getD_false (by omega), hl i hin]; exact h1, o, by rw [List.getElem?_toArray]; exact ho, fun e he hb => ?_⟩
        have := c2 i o ho e he hb
        rw [hl _ (by omega)]
        exact h2 e he hb
      have hfrom : ∀ i, i ∈ Region.ready .any ops.toArray listed → i ∈ Region.ready .any (ops.take n).toArray lp := by
        intro i hi
        obtain ⟨h1, o, ho, h2⟩ := mem_ready.1 hi
        rw [List.getElem?_toArray] at ho
        have hil := (List.getElem?_eq_some_iff.1 ho).1
        rw [getD_false (by omega)] at h1
        rcases Nat.lt_or_ge i n with hin | hin
        · refine mem_ready.2 ⟨by rw [getD_false (by omega), ← hl i hin]; exact h1, o, by rw [tk i hin]; exact ho, fun e he hb => ?_⟩
          have := c2 i o ho e he hb
          rw [← hl _ (by omega)]
          exact h2 e he hb
        · exfalso
          have hkk := hkn k hk
          have h3 := anc_listed hcl ho h2 (fun e he hb => c2 i o ho e he hb) (c4 i k hin hil (by omega))
          obtain ⟨h4, _⟩ := mem_ready.1 hk
          rw [getD_false (by omega), ← hl k hkk, h3] at h4
          cases h4
      rw [show fuel + 1 + (ops.length - n) = (fuel + (ops.length - n)) + 1 by omega]
      refine ⟨fun hn => (by have := hto k hk; rw [hn] at this; cases this), fun i hi => ?_⟩
      have hip := hfrom i hi
      have hin := hkn i hip
      obtain ⟨_, o, ho, h2⟩ := mem_ready.1 hi
      rw [List.getElem?_toArray] at ho
      refine op_exits hQ hin (fun g o' b ho' hg => c3 i g o' b hin ho' hg) (fun a' w' h' => ?_) (h.2 i hip)
      refine ih (lp.setIfInBounds i true) (listed.setIfInBounds i true) a' w' (by simpa using hz) (by simpa using hsz) (fun j hj => ?_) (fun j hj => ?_) (hcl.step ho h2 (fun e he hb => c2 i o ho e he hb)) h'
      · by_cases hji : j = i
        · subst hji
          have h5 : j < ops.length := by omega
          simp [hsz, hz, hj, h5]
        · rw [getD_set_ne false (fun e => hji e.symm), getD_set_ne false (fun e => hji e.symm), hl j hj]
      · rw [getD_set_ne false (by omega), ht j hj]
end

/-- The operations ahead of the n-th one are walked in any order, the others as they stand. -/
theorem aw_drawTK {C : Cx} {id : Nat} {ops : List Oper} {Q : Exit → St → Prop} {s : St} (K : St → Prop) (n : Nat) (eff lo : List Nat) (na : List (List Nat)) (hm : C.P.follows .mixedOrders = true) (htl : tailCk ops n = true) (hck : drawCk (ops.take n) eff lo na = true) (hef : effCk eff = true)
    (h : adraw ⟨C, (ops.take n).toArray, eff, lo, na, aops C ops.toArray K (ops.drop n)⟩ (ops.take n) [] [(s.H, s.T, 0)] (prune C.nv s.e)) : AW C (.region id ops.toArray true) (ExitK K Q) s := by
  intro L0 w0 a0 hc0
  obtain ⟨c1, _⟩ := tailCk_spec htl
  refine wp_region_any hm ?_
  have hg := draw_game (Q := Q) (aops C ops.toArray K (ops.drop n)) eff lo na hck hef h L0 w0 a0 hc0
  have hlen : (ops.take n).toArray.size = n := by simp; omega
  rw [hlen] at hg
  have := pre_game (P := C.P) (ops := ops) (n := n) (Q2 := Post C (ExitK K Q) L0 s w0) htl ?_ ?_ n (Array.replicate n false) (Array.replicate ops.length false) a0 _ (by simp) (by simp) ?_ ?_ ?_ hg
  · rw [show ops.toArray.size = n + (ops.length - n) by simp; omega]
    rw [show ops.length = n + (ops.length - n) by omega] at this
    simpa using this
  · rintro e a w hne ⟨s', L', q, r⟩
    refine ⟨s', L', ?_, r⟩
    cases e <;> first | exact absurd rfl hne | exact q
  · rintro a w ⟨s', L', q, hc, hev⟩
    refine list_exits ?_ _ _ _ (aops_sound (ops.drop n) s' q L' w a L0 s w0 hc hev)
    rintro e a w ⟨s', L', q, r⟩
    refine ⟨s', L', ?_, r⟩
    cases e <;> first | exact q | exact q.elim
  · intro j hj
    have : j < ops.length := by omega
    simp [hj, this]
  · intro j hj
    by_cases h1 : j < ops.length <;> simp [h1]
  · intro i j hi
    exfalso
    by_cases h1 : i < ops.length <;> simp [h1] at hi

theorem aw_drawT {C : Cx} {id : Nat} {ops : List Oper} {Q : Exit → St → Prop} {s : St} {y : Code} (n : Nat) (eff lo : List Nat) (na : List (List Nat)) (hm : C.P.follows .mixedOrders = true) (htl : tailCk ops n = true) (hck : drawCk (ops.take n) eff lo na = true) (hef : effCk eff = true)
    (h : ∀ K : St → Prop, (∀ s, AW C y Q s → K s) → adraw ⟨C, (ops.take n).toArray, eff, lo, na, aops C ops.toArray K (ops.drop n)⟩ (ops.take n) [] [(s.H, s.T, 0)] (prune C.nv s.e)) : AW C (.seq (.region id ops.toArray true) y) Q s :=
  aw_seq fun K hK => aw_drawTK K n eff lo na hm htl hck hef (h K hK)

theorem aw_drawT0 {C : Cx} {id : Nat} {ops : List Oper} {Q : Exit → St → Prop} {s : St} (n : Nat) (eff lo : List Nat) (na : List (List Nat)) (hm : C.P.follows .mixedOrders = true) (htl : tailCk ops n = true) (hck : drawCk (ops.take n) eff lo na = true) (hef : effCk eff = true)
    (h : ∀ K : St → Prop, (∀ s, Q .normal s → K s) → adraw ⟨C, (ops.take n).toArray, eff, lo, na, aops C ops.toArray K (ops.drop n)⟩ (ops.take n) [] [(s.H, s.T, 0)] (prune C.nv s.e)) : AW C (.region id ops.toArray true) Q s :=
  (aw_drawTK (Q := Q) (fun s => Q .normal s) n eff lo na hm htl hck hef (h _ fun _ h => h)).mono fun e s q => by cases e <;> exact q

end Go.Am
