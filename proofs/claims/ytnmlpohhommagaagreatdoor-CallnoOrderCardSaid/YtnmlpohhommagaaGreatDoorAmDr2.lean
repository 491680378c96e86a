/- A region that draws its order, where two operations with effects may come in either order: both orders are walked.
   Conditions: none; it speaks of every program. -/
import Derived.Test.YtnmlpohhommagaaGreatDoorAmDrw
namespace Go.Am
open Go
set_option linter.unusedVariables false

/-- Operations that call nothing. -/
def stillOp : Op → Bool
  | .move _ | .assign _ | .alloc _ | .build _ _ | .buildSlice _ _ _ | .load _ _ | .store _ _ _ | .binOp _ _ _ _ _ | .fieldAddr _ _ _ | .indexAddr _ _ _ | .index _ _ _ | .convert .. | .slice .. | .extract .. | .unOp .. => true
  | _ => false

def okNext : Result Next → Prop
  | .ok (.value _) _ => True
  | .ok .skip _ => True
  | .ok _ _ => False
  | .halt _ _ => True

theorem still_run {P : Program} {o : Oper} (h : stillOp o.op = true) (ρ : Operand → Value) (w : World) : okNext ((execOp ρ o).run P w) := by
  obtain ⟨dst, op, type, pos, after, guard⟩ := o
  have hv : ∀ s : Sem Value, okNext ((do pure (Next.value (← s)) : Sem Next).run P w) := fun s => by
    simp only [Sem.run_bind]
    cases s.run P w with
    | ok x w' => exact trivial
    | halt x w' => exact trivial
  have hu : ∀ s : Sem Unit, okNext ((do s; pure Next.skip : Sem Next).run P w) := fun s => by
    simp only [Sem.run_bind]
    cases s.run P w with
    | ok x w' => exact trivial
    | halt x w' => exact trivial
  cases op <;> first
    | exact trivial
    | exact hv _
    | exact hu _
    | (revert h; simp [stillOp]; done)

theorem wp_both {P : Program} {o : Oper} {a : Act} {w : World} {K1 K2 : Act → World → Prop} {Q : Exit → Act → World → Prop} (hs : stillOp o.op = true) (h1 : o.wp P a w K1 Q) (h2 : o.wp P a w K2 Q) : o.wp P a w (fun a w => K1 a w ∧ K2 a w) Q := by
  have hr := still_run (P := P) hs a.eval w
  unfold Oper.wp at *
  generalize (execOp a.eval o).run P w = r at *
  cases r with
  | ok n w' => cases n <;> first
    | exact ⟨h1, h2⟩
    | exact hr.elim
  | halt x w' => cases x <;> exact h1

section
variable {P : Program} {Q : Exit → Act → World → Prop}

/-- Two lists of operations that differ in their edges alone. -/
def SameOps (x y : List Oper) : Prop := ∀ i : Nat, (y[i]?).map (fun o => (o.dst, o.op, o.type, o.guard)) = (x[i]?).map (fun o => (o.dst, o.op, o.type, o.guard))

theorem exec_same {o o' : Oper} (h1 : o'.op = o.op) (h2 : o'.type = o.type) (ρ : Operand → Value) : execOp ρ o' = execOp ρ o := by
  obtain ⟨dst, op, type, pos, after, guard⟩ := o
  obtain ⟨dst', op', type', pos', after', guard'⟩ := o'
  simp only at h1 h2
  subst h1; subst h2
  rfl

theorem oper_same {o o' : Oper} (h0 : o'.dst = o.dst) (h1 : o'.op = o.op) (h2 : o'.type = o.type) (a : Act) (w : World) (K : Act → World → Prop) : (o'.wp P a w K Q ↔ o.wp P a w K Q) ∧ (o'.asks P a w ↔ o.asks P a w) := by
  have he := exec_same h1 h2 a.eval
  constructor
  · unfold Oper.wp
    rw [he]
    generalize (execOp a.eval o).run P w = r
    cases r with
    | ok n w' => cases n <;> simp only [Oper.upon, h0]
    | halt x w' => cases x <;> rfl
  · unfold Oper.asks
    rw [he]

theorem op_same {x y : List Oper} (h : SameOps x y) {i : Nat} {K : Act → World → Prop} {a : Act} {w : World} (hh : wpOp P y.toArray Q i K a w) : wpOp P x.toArray Q i K a w := by
  unfold wpOp at *
  rw [List.getElem?_toArray] at *
  have hi := h i
  have hy : ∀ t j, yielded y.toArray t j = yielded x.toArray t j := fun t j => by
    unfold yielded
    rw [List.getElem?_toArray, List.getElem?_toArray]
    have hj := h j
    have : (y[j]?).bind (·.dst) = (x[j]?).bind (·.dst) := by
      cases hx : x[j]? with
      | none => rw [hx] at hj; cases hyj : y[j]? with
        | none => rfl
        | some o' => rw [hyj] at hj; cases hj
      | some o => rw [hx] at hj; cases hyj : y[j]? with
        | none => rw [hyj] at hj; cases hj
        | some o' => rw [hyj] at hj; simp only [Option.map_some, Option.some.injEq, Prod.mk.injEq] at hj; exact hj.1
    rw [this]
  cases hx : x[i]? with
  | none =>
    rw [hx] at hi
    cases hyi : y[i]? with
    | none => rw [hyi] at hh; exact hh
    | some o' => rw [hyi] at hi; cases hi
  | some o =>
    rw [hx] at hi
    cases hyi : y[i]? with
    | none => rw [hyi] at hi; cases hi
    | some o' =>
      rw [hyi] at hi hh
      simp only [Option.map_some, Option.some.injEq, Prod.mk.injEq] at hi
      obtain ⟨e0, e1, e2, e3⟩ := hi
      dsimp only at hh ⊢
      have hw : Region.wanted o' (yielded y.toArray a.tmps) = Region.wanted o (yielded x.toArray a.tmps) := by
        unfold Region.wanted
        rw [e3]
        cases o.guard with
        | none => rfl
        | some g => simp only [hy]
      rw [hw] at hh
      obtain ⟨g1, g2⟩ := oper_same (P := P) (Q := Q) e0 e1 e2 a w K
      split at hh
      · rename_i hwt
        rw [if_pos hwt]
        rw [g1, g2] at hh
        exact hh
      · rename_i hwt
        rw [if_neg hwt]
        rw [e0] at hh
        exact hh

/-- One more edge: b comes behind a. -/
def addE (ops : List Oper) (b a : Nat) : List Oper := ops.modify b fun o => { o with after := o.after.push { on := a, ground := .data } }

theorem addE_get (ops : List Oper) (b a i : Nat) : (addE ops b a)[i]? = if b = i then (ops[i]?).map (fun o => { o with after := o.after.push { on := a, ground := .data } }) else ops[i]? := by
  rw [addE, List.getElem?_modify]
  split
  · rfl
  · cases ops[i]? <;> rfl

theorem addE_same (ops : List Oper) (b a : Nat) : SameOps ops (addE ops b a) := by
  intro i
  rw [addE_get]
  split
  · cases ops[i]? <;> rfl
  · rfl

theorem addE_ready {ops : List Oper} {a b i : Nat} {listed : Array Bool} : i ∈ Region.ready .any (addE ops b a).toArray listed ↔ i ∈ Region.ready .any ops.toArray listed ∧ (i = b → listed.getD a false = true) := by
  rw [mem_ready, mem_ready, List.getElem?_toArray, List.getElem?_toArray, addE_get]
  by_cases hb : b = i
  · subst hb
    rw [if_pos rfl]
    cases ops[b]? with
    | none => simp
    | some o =>
      simp only [Option.map_some, Option.some.injEq, exists_eq_left', Array.mem_push, true_imp_iff]
      constructor
      · rintro ⟨h1, h2⟩
        exact ⟨⟨h1, fun e he hb => h2 e (.inl he) hb⟩, h2 ⟨a, .data⟩ (.inr rfl) rfl⟩
      · rintro ⟨⟨h1, h2⟩, h3⟩
        refine ⟨h1, fun e he hb => ?_⟩
        rcases he with he | rfl
        · exact h2 e he hb
        · exact h3
  · rw [if_neg hb]
    simp [Ne.symm hb]

/-- Behind a, the edge asks nothing more. -/
theorem addE_game {ops : List Oper} {a b : Nat} : ∀ (fuel : Nat) (listed : Array Bool) (s : Act) (w : World), listed.getD a false = true → wpAny P .any (addE ops b a).toArray Q fuel listed s w → wpAny P .any ops.toArray Q fuel listed s w := by
  intro fuel
  have hr : ∀ listed : Array Bool, listed.getD a false = true → Region.ready .any (addE ops b a).toArray listed = Region.ready .any ops.toArray listed := fun listed hl => by
    have : ∀ i, i ∈ Region.ready .any (addE ops b a).toArray listed ↔ i ∈ Region.ready .any ops.toArray listed := fun i => by rw [addE_ready]; exact ⟨fun h => h.1, fun h => ⟨h, fun _ => hl⟩⟩
    unfold Region.ready at this ⊢
    have hsz : (addE ops b a).toArray.size = ops.toArray.size := by simp [addE]
    rw [hsz] at this ⊢
    refine List.filter_congr fun i hi => ?_
    have := this i
    rw [List.mem_filter, List.mem_filter] at this
    rw [Bool.eq_iff_iff]
    exact ⟨fun h => (this.1 ⟨hi, h⟩).2, fun h => (this.2 ⟨hi, h⟩).2⟩
  induction fuel with
  | zero =>
    intro listed s w hl h
    exact ⟨by rw [← hr listed hl]; exact h.1, h.2⟩
  | succ fuel ih =>
    intro listed s w hl h
    refine ⟨fun hn => h.1 (by rw [hr listed hl]; exact hn), fun i hi => ?_⟩
    have := h.2 i (by rw [hr listed hl]; exact hi)
    exact wpOp_mono (fun s' w' h' => ih _ s' w' (getD_set_true hl) h') (op_same (addE_same ops b a) this)

/-- Both orders walked: the game is won. -/
theorem both_game {ops : List Oper} {a b : Nat} (hab : a ≠ b) (hst : ∀ (i : Nat) (o : Oper), ops[i]? = some o → i ≠ a → i ≠ b → stillOp o.op = true) : ∀ (fuel : Nat) (listed : Array Bool) (s : Act) (w : World), listed.size = ops.length → listed.getD a false = false → listed.getD b false = false →
    wpAny P .any (addE ops b a).toArray Q fuel listed s w → wpAny P .any (addE ops a b).toArray Q fuel listed s w → wpAny P .any ops.toArray Q fuel listed s w := by
  intro fuel
  induction fuel with
  | zero =>
    intro listed s w hsz ha hb h1 h2
    refine ⟨?_, h1.2⟩
    cases hr : Region.ready .any ops.toArray listed with
    | nil => rfl
    | cons i r =>
      have hi : i ∈ Region.ready .any ops.toArray listed := by rw [hr]; simp
      by_cases hib : i = b
      · subst hib
        have : i ∈ Region.ready .any (addE ops a i).toArray listed := addE_ready.2 ⟨hi, fun e => absurd e.symm hab⟩
        rw [h2.1] at this; cases this
      · have : i ∈ Region.ready .any (addE ops b a).toArray listed := addE_ready.2 ⟨hi, fun e => absurd e hib⟩
        rw [h1.1] at this; cases this
  | succ fuel ih =>
    intro listed s w hsz ha hb h1 h2
    refine ⟨fun hn => h1.1 ?_, fun i hi => ?_⟩
    · cases hr : Region.ready .any (addE ops b a).toArray listed with
      | nil => rfl
      | cons i r =>
        have hi : i ∈ Region.ready .any (addE ops b a).toArray listed := by rw [hr]; simp
        have := (addE_ready.1 hi).1
        rw [hn] at this; cases this
    · have hil : i < listed.size := by
        obtain ⟨_, o, ho, _⟩ := mem_ready.1 hi
        rw [List.getElem?_toArray] at ho
        have := (List.getElem?_eq_some_iff.1 ho).1
        omega
      by_cases hib : i = b
      · subst hib
        have g := op_same (addE_same ops a i) (h2.2 i (addE_ready.2 ⟨hi, fun e => absurd e.symm hab⟩))
        exact wpOp_mono (fun s' w' h' => addE_game _ _ s' w' (by simp [hil]) h') g
      · by_cases hia : i = a
        · subst hia
          have g := op_same (addE_same ops b i) (h1.2 i (addE_ready.2 ⟨hi, fun e => absurd e hab⟩))
          exact wpOp_mono (fun s' w' h' => addE_game _ _ s' w' (by simp [hil]) h') g
        · have g1 := op_same (addE_same ops b a) (h1.2 i (addE_ready.2 ⟨hi, fun e => absurd e hib⟩))
          have g2 := op_same (addE_same ops a b) (h2.2 i (addE_ready.2 ⟨hi, fun e => absurd e hia⟩))
          have g : wpOp P ops.toArray Q i (fun s' w' => wpAny P .any (addE ops b a).toArray Q fuel (listed.setIfInBounds i true) s' w' ∧ wpAny P .any (addE ops a b).toArray Q fuel (listed.setIfInBounds i true) s' w') s w := by
            unfold wpOp at g1 g2 ⊢
            rw [List.getElem?_toArray] at g1 g2 ⊢
            cases ho : ops[i]? with
            | none => rw [ho] at g1 g2; exact ⟨g1, g2⟩
            | some o =>
              rw [ho] at g1 g2
              dsimp only at g1 g2 ⊢
              split at g1
              · rename_i hw
                rw [if_pos hw] at g2
                rw [if_pos hw]
                rcases g1 with g1 | g1
                · rcases g2 with g2 | g2
                  · exact .inl (wp_both (hst i o ho hia hib) g1 g2)
                  · exact .inr g2
                · exact .inr g1
              · rename_i hw
                rw [if_neg hw] at g2
                rw [if_neg hw]
                exact ⟨g1, g2⟩
          refine wpOp_mono (fun s' w' h' => ih _ s' w' (by simpa using hsz) ?_ ?_ h'.1 h'.2) g
          · rw [getD_set_ne false hia]; exact ha
          · rw [getD_set_ne false hib]; exact hb

def sw (a b i : Nat) : Nat := if i = a then b else if i = b then a else i
theorem sw_sw (a b i : Nat) : sw a b (sw a b i) = i := by
  unfold sw
  by_cases h1 : i = a
  · subst h1
    rw [if_pos rfl]
    by_cases h2 : b = i
    · rw [if_pos h2]; exact h2
    · rw [if_neg h2, if_pos rfl]
  · rw [if_neg h1]
    by_cases h2 : i = b
    · subst h2; rw [if_pos rfl, if_pos rfl]
    · rw [if_neg h2, if_neg h1, if_neg h2]
theorem sw_lt {a b i n : Nat} (ha : a < n) (hb : b < n) (hi : i < n) : sw a b i < n := by
  unfold sw
  split
  · exact hb
  · split
    · exact ha
    · exact hi
def relO (a b : Nat) (o : Oper) : Oper := { o with after := o.after.map (fun e => { e with on := sw a b e.on }), guard := o.guard.map (fun g => (sw a b g.1, g.2)) }
/-- The operations a and b change places, and whoever names them says so. -/
def swapE (a b : Nat) (ops : List Oper) : List Oper := ((ops.set a (ops.getD b default)).set b (ops.getD a default)).map (relO a b)

theorem swapE_len (a b : Nat) (ops : List Oper) : (swapE a b ops).length = ops.length := by simp [swapE]
theorem swapE_get {a b : Nat} {ops : List Oper} (hab : a ≠ b) (ha : a < ops.length) (hb : b < ops.length) (i : Nat) : (swapE a b ops)[i]? = (ops[sw a b i]?).map (relO a b) := by
  rw [swapE, List.getElem?_map]
  congr 1
  rw [List.getElem?_set, List.getElem?_set, List.length_set]
  unfold sw
  by_cases h1 : i = a
  · subst h1
    rw [if_neg (Ne.symm hab), if_pos rfl, if_pos ha, if_pos rfl, List.getD_eq_getElem?_getD, List.getElem?_eq_getElem hb]
    rfl
  · by_cases h2 : i = b
    · subst h2
      rw [if_pos rfl, if_pos hb, if_neg h1, if_pos rfl, List.getD_eq_getElem?_getD, List.getElem?_eq_getElem ha]
      rfl
    · rw [if_neg (Ne.symm h2), if_neg (Ne.symm h1), if_neg h1, if_neg h2]

theorem swapE_ready {a b : Nat} {ops : List Oper} (hab : a ≠ b) (ha : a < ops.length) (hb : b < ops.length) {l l2 : Array Bool} (hl : l.size = ops.length) (hl2 : l2.size = ops.length) (hr : ∀ i, i < ops.length → l2.getD i false = l.getD (sw a b i) false) (i : Nat) :
    i ∈ Region.ready .any ops.toArray l ↔ sw a b i ∈ Region.ready .any (swapE a b ops).toArray l2 := by
  rw [mem_ready, mem_ready, List.getElem?_toArray, List.getElem?_toArray, swapE_get hab ha hb, sw_sw]
  cases ho : ops[i]? with
  | none => simp
  | some o =>
    have hi : i < ops.length := (List.getElem?_eq_some_iff.1 ho).1
    have e1 : l2.getD (sw a b i) true = l.getD i true := by
      have := sw_lt ha hb hi
      rw [getD_false (by omega), getD_false (by omega), hr _ this, sw_sw]
    simp only [Option.map_some, Option.some.injEq, exists_eq_left', e1]
    have e2 : (∀ e ∈ o.after, Region.binds .any e = true → l.getD e.on false = true) ↔ ∀ e ∈ (relO a b o).after, Region.binds .any e = true → l2.getD e.on false = true := by
      have out : ∀ (z : Array Bool) (n : Nat), z.size = ops.length → ¬ n < ops.length → z.getD n false = false := fun z n hz hn => by
        have : ¬ n < z.size := by omega
        simp [this]
      constructor
      · intro h e he hbd
        simp only [relO, Array.mem_map] at he
        obtain ⟨e', he', rfl⟩ := he
        have := h e' he' hbd
        have hlt : e'.on < ops.length := by
          rcases Nat.lt_or_ge e'.on ops.length with h1 | h1
          · exact h1
          · rw [out l _ hl (by omega)] at this; cases this
        show l2.getD (sw a b e'.on) false = true
        rw [hr _ (sw_lt ha hb hlt), sw_sw]; exact this
      · intro h e he hbd
        have := h { e with on := sw a b e.on } (by simp only [relO, Array.mem_map]; exact ⟨e, he, rfl⟩) hbd
        have hlt : sw a b e.on < ops.length := by
          rcases Nat.lt_or_ge (sw a b e.on) ops.length with h1 | h1
          · exact h1
          · have h2 := out l2 (sw a b e.on) hl2 (by omega)
            rw [show l2.getD (sw a b e.on) false = true from this] at h2; cases h2
        have h3 := hr _ hlt
        rw [sw_sw] at h3
        rw [← h3]; exact this
    rw [e2]

theorem swapE_op {a b : Nat} {ops : List Oper} (hab : a ≠ b) (ha : a < ops.length) (hb : b < ops.length) {i : Nat} {K : Act → World → Prop} {s : Act} {w : World} (hh : wpOp P (swapE a b ops).toArray Q (sw a b i) K s w) : wpOp P ops.toArray Q i K s w := by
  unfold wpOp at *
  rw [List.getElem?_toArray] at *
  rw [swapE_get hab ha hb, sw_sw] at hh
  have hy : ∀ t j, yielded (swapE a b ops).toArray t (sw a b j) = yielded ops.toArray t j := fun t j => by
    unfold yielded
    rw [List.getElem?_toArray, List.getElem?_toArray, swapE_get hab ha hb, sw_sw]
    cases ops[j]? <;> rfl
  cases ho : ops[i]? with
  | none => rw [ho] at hh; exact hh
  | some o =>
    rw [ho] at hh
    simp only [Option.map_some] at hh
    dsimp only
    have hw : Region.wanted (relO a b o) (yielded (swapE a b ops).toArray s.tmps) = Region.wanted o (yielded ops.toArray s.tmps) := by
      unfold Region.wanted relO
      cases o.guard with
      | none => rfl
      | some g => simp only [Option.map_some, hy]
    rw [hw] at hh
    obtain ⟨g1, g2⟩ := oper_same (P := P) (Q := Q) (o := o) (o' := relO a b o) rfl rfl rfl s w K
    split at hh
    · rename_i hwt
      rw [if_pos hwt]
      rw [g1, g2] at hh
      exact hh
    · rename_i hwt
      rw [if_neg hwt]
      exact hh

theorem swapE_game {a b : Nat} {ops : List Oper} (hab : a ≠ b) (ha : a < ops.length) (hb : b < ops.length) : ∀ (fuel : Nat) (l l2 : Array Bool) (s : Act) (w : World), l.size = ops.length → l2.size = ops.length → (∀ i, i < ops.length → l2.getD i false = l.getD (sw a b i) false) →
    wpAny P .any (swapE a b ops).toArray Q fuel l2 s w → wpAny P .any ops.toArray Q fuel l s w := by
  intro fuel
  have hnil : ∀ l l2 : Array Bool, l.size = ops.length → l2.size = ops.length → (∀ i, i < ops.length → l2.getD i false = l.getD (sw a b i) false) → (Region.ready .any ops.toArray l = [] ↔ Region.ready .any (swapE a b ops).toArray l2 = []) := by
    intro l l2 hl hl2 hr
    have h := swapE_ready hab ha hb hl hl2 hr
    constructor
    · intro hn
      cases hx : Region.ready .any (swapE a b ops).toArray l2 with
      | nil => rfl
      | cons j r =>
        have hj : j ∈ Region.ready .any (swapE a b ops).toArray l2 := by rw [hx]; simp
        have := (h (sw a b j)).2 (by rw [sw_sw]; exact hj)
        rw [hn] at this; cases this
    · intro hn
      cases hx : Region.ready .any ops.toArray l with
      | nil => rfl
      | cons j r =>
        have hj : j ∈ Region.ready .any ops.toArray l := by rw [hx]; simp
        have := (h j).1 hj
        rw [hn] at this; cases this
  induction fuel with
  | zero => intro l l2 s w hl hl2 hr h; exact ⟨(hnil l l2 hl hl2 hr).2 h.1, h.2⟩
  | succ fuel ih =>
    intro l l2 s w hl hl2 hr h
    refine ⟨fun hn => h.1 ((hnil l l2 hl hl2 hr).1 hn), fun i hi => ?_⟩
    have hi2 := (swapE_ready hab ha hb hl hl2 hr i).1 hi
    have hil : i < ops.length := by
      obtain ⟨_, o, ho, _⟩ := mem_ready.1 hi
      rw [List.getElem?_toArray] at ho
      exact (List.getElem?_eq_some_iff.1 ho).1
    have g := swapE_op hab ha hb (h.2 _ hi2)
    refine wpOp_mono (fun s' w' h' => ih _ _ s' w' (by simpa using hl) (by simpa using hl2) (fun j hj => ?_) h') g
    have hsl := sw_lt ha hb hil
    have hsj := sw_lt ha hb hj
    by_cases hji : j = sw a b i
    · subst hji
      rw [sw_sw]
      simp [hl, hl2, hil, hsl]
    · rw [getD_set_ne false (fun e => hji e.symm), getD_set_ne false (fun e => hji (by rw [e, sw_sw])), hr j hj]
end

/-- A region that draws, in which the operations a and b may come in either order. -/
theorem aw_draw2 {C : Cx} {id : Nat} {ops : List Oper} {Q : Exit → St → Prop} {s : St} {y : Code} (a b : Nat) (eff1 lo1 : List Nat) (na1 : List (List Nat)) (eff2 lo2 : List Nat) (na2 : List (List Nat)) (hm : C.P.follows .mixedOrders = true)
    (hck : (decide (a ≠ b) && decide (a < ops.length) && decide (b < ops.length) && ops.all fun o => stillOp o.op) = true) (hck1 : drawCk (addE ops b a) eff1 lo1 na1 = true) (hef1 : effCk eff1 = true) (hck2 : drawCk (swapE a b (addE ops a b)) eff2 lo2 na2 = true) (hef2 : effCk eff2 = true)
    (h : ∀ K : St → Prop, (∀ s, AW C y Q s → K s) → adraw ⟨C, (addE ops b a).toArray, eff1, lo1, na1, K⟩ (addE ops b a) [] [(s.H, s.T, 0)] (prune C.nv s.e) ∧
      adraw ⟨C, (swapE a b (addE ops a b)).toArray, eff2, lo2, na2, K⟩ (swapE a b (addE ops a b)) [] [(s.H, s.T, 0)] (prune C.nv s.e)) : AW C (.seq (.region id ops.toArray true) y) Q s := by
  simp only [Bool.and_eq_true, decide_eq_true_eq, List.all_eq_true] at hck
  obtain ⟨⟨⟨hab, ha⟩, hb⟩, hst⟩ := hck
  refine aw_seq fun K hK => fun L0 w0 a0 hc0 => wp_region_any hm ?_
  obtain ⟨h1, h2⟩ := h K hK
  have g1 := draw_game (Q := Q) K eff1 lo1 na1 hck1 hef1 h1 L0 w0 a0 hc0
  have g2 := draw_game (Q := Q) K eff2 lo2 na2 hck2 hef2 h2 L0 w0 a0 hc0
  have l1 : (addE ops b a).toArray.size = ops.toArray.size := by simp [addE]
  have l2 : (swapE a b (addE ops a b)).toArray.size = ops.toArray.size := by simp [addE, swapE]
  have l3 : (addE ops a b).length = ops.length := by simp [addE]
  rw [l1] at g1
  rw [l2] at g2
  have g3 := swapE_game (ops := addE ops a b) hab (by rw [l3]; exact ha) (by rw [l3]; exact hb) _ (Array.replicate ops.toArray.size false) (Array.replicate ops.toArray.size false) _ _ (by simp [l3]) (by simp [l3]) (fun i hi => by
    rw [l3] at hi
    have := sw_lt ha hb hi
    simp [hi, this]) g2
  exact both_game hab (fun i o ho _ _ => hst o (List.mem_of_getElem? ho)) _ _ _ _ (by simp) (by simp [ha]) (by simp [hb]) g1 g3
end Go.Am
