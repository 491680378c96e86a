/- PostingSets: the walk. And, Or, Without obey the laws of sets. Merging of lists of numbers in layer 38, for any function that takes the numbers. The parts of Union in layer 38: copies, joined. The union of posting lists: going through both is the same as collecting the positions of each document. Union of layer 38. Union of the reference of layer 38.
   Conditions: lengths below 400 or 1000, as each theorem says. -/
import Derived.Test.YtlijaamjcpefoaaPC
import Derived.Test.YtlijaamjcpefoaaPB
import Derived.Test.YtlijaamjcpefoaaPD

/- PostingSets: the walk. -/
namespace Go.Proofs.Ytlijaamjcpefoaa
open Go Go.Am Post
set_option linter.unusedVariables false

theorem mg_len {fA fB fAB : List Int → Int → List Int} (hA : ∀ o x, (fA o x).length ≤ o.length + 1) (hB : ∀ o x, (fB o x).length ≤ o.length + 1) (hAB : ∀ o x, (fAB o x).length ≤ o.length + 1) :
    ∀ (n : Nat) (a b o : List Int), (mgN fA fB fAB n a b o).length ≤ o.length + a.length + b.length := by
  intro n
  induction n with
  | zero => intro a b o; simp only [mgN]; omega
  | succ n ih =>
    intro a b o
    cases a with
    | nil =>
      cases b with
      | nil => simp only [mgN]; omega
      | cons y b => have := ih [] b (fB o y); have := hB o y; simp only [mgN, List.length_cons]; omega
    | cons x a =>
      cases b with
      | nil => have := ih a [] (fA o x); have := hA o x; simp only [mgN, List.length_cons]; omega
      | cons y b =>
        have e1 := ih a (y :: b) (fA o x)
        have e2 := ih (x :: a) b (fB o y)
        have e3 := ih a b (fAB o x)
        have := hA o x
        have := hB o y
        have := hAB o x
        simp only [List.length_cons] at e1 e2 ⊢
        rw [mgN]
        split
        · omega
        · split
          · omega
          · omega
theorem comb_len (kf : Bool → Bool → Bool) (a b : List Int) : (comb kf a b).length ≤ a.length + b.length := by
  have st : ∀ (k : Bool) (o : List Int) (x : Int), (if k = true then o ++ [x] else o).length ≤ o.length + 1 := fun k o x => by split <;> simp
  unfold comb
  split
  · have := mg_len (fA := fun o x => if kf true false then o ++ [x] else o) (fB := fun o x => if kf false true then o ++ [x] else o) (fAB := fun o x => if kf true true then o ++ [x] else o) (fun o x => st _ o x) (fun o x => st _ o x) (fun o x => st _ o x) (a.length + b.length) a b []
    simp only [List.length_nil, Nat.zero_add] at this
    exact this
  · simp
theorem keepR_len (f : Bool → Bool) (a b : List Int) : (keepR f a b).length ≤ a.length + b.length := by
  unfold keepR
  split
  · exact Nat.le_trans (List.length_filter_le _ _) (by omega)
  · simp

theorem psets_ok (a b : List Int) (ha : a.length ≤ maxLen) (hb : b.length ≤ maxLen) : ACall Try.prog 4 [.sl a.length (ints a) .none, .sl b.length (ints b) .none] [] [] (fun r _ _ => r = .bool true) := by
  have hml : 400 ≤ maxLen := by decide
  have cs := short_ok a b ha hb [] [] .none
  refine acall_enter 5 [] Try.ntmps4 Try.func4 rfl (fun _ _ => Try.call4 _ _) (by simp) (fun HO => ?_)
  refine aw_reg fun K hK => ?_; simp (maxSteps := 1000000) (disch := omega) [-List.getD_eq_getElem?_getD]; refine hK _ ?_; clear hK K
  refine aw_then fun K1 hK1 => ?_
  refine aw_reg fun K hK => ?_; simp (maxSteps := 1000000) (disch := omega) [-List.getD_eq_getElem?_getD]
  refine acall_is (awake_ok _ _) ?_; simp (maxSteps := 1000000) (disch := omega) [-List.getD_eq_getElem?_getD]
  refine hK _ ?_; clear hK K
  refine aw_if rfl (fun h => absurd h (by simp)) (fun h => ?_)
  refine aw_skip ?_; simp (maxSteps := 1000000) (disch := omega) [-List.getD_eq_getElem?_getD]
  refine hK1 _ ?_; clear hK1
  refine aw_then fun K1 hK1 => ?_
  by_cases hs : a.length ≤ 60 ∧ b.length ≤ 60
  · rw [decide_eq_true hs] at cs
    obtain ⟨h1, h2⟩ := hs
    refine aw_reg fun K hK => ?_; simp (maxSteps := 1000000) (disch := omega) [-List.getD_eq_getElem?_getD]
    refine acall_is (cs) ?_; simp (maxSteps := 1000000) (disch := omega) [-List.getD_eq_getElem?_getD]
    refine hK _ ?_; clear hK K
    refine aw_if rfl (fun h => absurd h (by simp)) (fun h => ?_)
    refine aw_skip ?_; simp (maxSteps := 1000000) (disch := omega) [-List.getD_eq_getElem?_getD]
    refine hK1 _ ?_; clear hK1
    have c1 := validDocs_ok a ha [] [] .none
    have c2 := validDocsR_ok a ha [] [] .none
    have c3 := and_ok a b (by omega) (by omega) [] [] .none .none
    have c4 := andR_ok a b (by omega) (by omega) [] [] .none .none
    rw [and_eq] at c3
    have l1 : (keepR (fun m => m) a b).length ≤ maxLen := Nat.le_trans (keepR_len _ a b) (by omega)
    have c5 := ints_ok (keepR (fun m => m) a b) (keepR (fun m => m) a b) l1 l1 [] [] .none .none
    have c6 := or_ok a b (by omega) (by omega) [] [] .none .none
    have c7 := orR_ok a b (by omega) (by omega) [] []
    have l2 : (comb (fun _ _ => true) a b).length ≤ maxLen := Nat.le_trans (comb_len _ a b) (by omega)
    have c8 := ints_ok (comb (fun _ _ => true) a b) (comb (fun _ _ => true) a b) l2 l2 [] [] .none .none
    have c9 := without_ok a b (by omega) (by omega) [] [] .none .none
    have c10 := withoutR_ok a b (by omega) (by omega) [] [] .none .none
    rw [without_eq] at c9
    have l3 : (keepR (fun m => !m) a b).length ≤ maxLen := Nat.le_trans (keepR_len _ a b) (by omega)
    have c11 := ints_ok (keepR (fun m => !m) a b) (keepR (fun m => !m) a b) l3 l3 [] [] .none .none
    rw [beq_self_eq_true] at c5 c8 c11
    refine aw_reg fun K hK => ?_; simp (maxSteps := 1000000) (disch := omega) [-List.getD_eq_getElem?_getD]
    refine acall_is (c1) ?_; simp (maxSteps := 1000000) (disch := omega) [-List.getD_eq_getElem?_getD]
    refine acall_is (c2) ?_; simp (maxSteps := 1000000) (disch := omega) [-List.getD_eq_getElem?_getD]
    refine acall_is (c3) ?_; simp (maxSteps := 1000000) (disch := omega) [-List.getD_eq_getElem?_getD]
    refine acall_is (c4) ?_; simp (maxSteps := 1000000) (disch := omega) [-List.getD_eq_getElem?_getD]
    refine acall_is (c5) ?_; simp (maxSteps := 1000000) (disch := omega) [-List.getD_eq_getElem?_getD]
    refine acall_is (c6) ?_; simp (maxSteps := 1000000) (disch := omega) [-List.getD_eq_getElem?_getD]
    refine acall_is (c7) ?_; simp (maxSteps := 1000000) (disch := omega) [-List.getD_eq_getElem?_getD]
    refine acall_is (c8) ?_; simp (maxSteps := 1000000) (disch := omega) [-List.getD_eq_getElem?_getD]
    refine acall_is (c9) ?_; simp (maxSteps := 1000000) (disch := omega) [-List.getD_eq_getElem?_getD]
    refine acall_is (c10) ?_; simp (maxSteps := 1000000) (disch := omega) [-List.getD_eq_getElem?_getD]
    refine acall_is (c11) ?_; simp (maxSteps := 1000000) (disch := omega) [-List.getD_eq_getElem?_getD]
    refine hK _ ?_; clear hK K
    refine aw_ret ?_; simp (maxSteps := 1000000) (disch := omega) [-List.getD_eq_getElem?_getD]
  · rw [decide_eq_false hs] at cs
    refine aw_reg fun K hK => ?_; simp (maxSteps := 1000000) (disch := omega) [-List.getD_eq_getElem?_getD]
    refine acall_is (cs) ?_; simp (maxSteps := 1000000) (disch := omega) [-List.getD_eq_getElem?_getD]
    refine hK _ ?_; clear hK K
    refine aw_if rfl (fun h => ?_) (fun h => absurd h (by simp))
    refine aw_reg fun K hK => ?_; simp (maxSteps := 1000000) (disch := omega) [-List.getD_eq_getElem?_getD]; refine hK _ ?_; clear hK K
    refine aw_ret ?_; simp (maxSteps := 1000000) (disch := omega) [-List.getD_eq_getElem?_getD]
end Go.Proofs.Ytlijaamjcpefoaa

/- And, Or, Without obey the laws of sets. -/
namespace Go.Proofs.Ytlijaamjcpefoaa
open Go Go.Am Post
set_option linter.unusedVariables false

def V (l : List Int) : Prop := asc l 1 1000000000 = true

theorem asc_bounds {l : List Int} {lo hi : Int} (h : asc l lo hi = true) : ∀ q ∈ l, lo ≤ q ∧ q ≤ hi := fun q hq => by
  obtain ⟨j, hj, e⟩ := memD_inv 0 hq
  unfold asc at h
  rw [List.all_eq_true] at h
  have := h j (by simpa using hj)
  unfold ascAt at this
  simp only [Bool.and_eq_true, decide_eq_true_eq] at this
  rw [e] at this
  exact this.1
theorem asc_of {l : List Int} {lo hi : Int} (h : Asc l) (hb : ∀ q ∈ l, lo ≤ q ∧ q ≤ hi) : asc l lo hi = true := by
  refine asc_all fun j hj => ?_
  have hbj := hb _ (memD l j 0 hj)
  unfold ascAt
  simp only [Bool.and_eq_true, decide_eq_true_eq, Bool.or_eq_true]
  refine ⟨hbj, ?_⟩
  rcases Nat.eq_zero_or_pos j with h0 | h0
  · exact .inl h0
  · exact .inr (asc_get h (by omega) hj)

theorem comb_spec (kf : Bool → Bool → Bool) {a b : List Int} (ha : V a) (hb : V b) : Asc (comb kf a b) ∧ ∀ z, z ∈ comb kf a b ↔ (z ∈ a ∧ z ∉ b ∧ kf true false = true) ∨ (z ∈ b ∧ z ∉ a ∧ kf false true = true) ∨ (z ∈ a ∧ z ∈ b ∧ kf true true = true) := by
  obtain ⟨_, g2, g3⟩ := mg_keep (kf true false) (kf false true) (kf true true) (a.length + b.length) a b [] (Nat.le_refl _) (asc_pair ha) (asc_pair hb)
  have e : comb kf a b = mgN (fun o x => if kf true false then o ++ [x] else o) (fun o x => if kf false true then o ++ [x] else o) (fun o x => if kf true true then o ++ [x] else o) (a.length + b.length) a b [] := by
    unfold comb
    rw [if_pos ⟨ha, hb⟩]
    rfl
  rw [e]
  exact ⟨g3, g2⟩
theorem comb_V (kf : Bool → Bool → Bool) {a b : List Int} (ha : V a) (hb : V b) : V (comb kf a b) := by
  obtain ⟨g1, g2⟩ := comb_spec kf ha hb
  refine asc_of g1 fun q hq => ?_
  rcases (g2 q).1 hq with h | h | h
  · exact asc_bounds ha q h.1
  · exact asc_bounds hb q h.1
  · exact asc_bounds ha q h.1
def An (a b : List Int) : List Int := comb (fun p q => p && q) a b
def Orr (a b : List Int) : List Int := comb (fun _ _ => true) a b
def Wo (a b : List Int) : List Int := comb (fun _ q => !q) a b
theorem An_V {a b : List Int} (ha : V a) (hb : V b) : V (An a b) := comb_V _ ha hb
theorem Orr_V {a b : List Int} (ha : V a) (hb : V b) : V (Orr a b) := comb_V _ ha hb
theorem Wo_V {a b : List Int} (ha : V a) (hb : V b) : V (Wo a b) := comb_V _ ha hb
theorem An_mem {a b : List Int} (ha : V a) (hb : V b) (z : Int) : z ∈ An a b ↔ z ∈ a ∧ z ∈ b := by
  refine ((comb_spec _ ha hb).2 z).trans ?_
  simp
theorem Orr_mem {a b : List Int} (ha : V a) (hb : V b) (z : Int) : z ∈ Orr a b ↔ z ∈ a ∨ z ∈ b := by
  refine ((comb_spec _ ha hb).2 z).trans ?_
  by_cases h1 : z ∈ a <;> by_cases h2 : z ∈ b <;> simp [h1, h2]
theorem Wo_mem {a b : List Int} (ha : V a) (hb : V b) (z : Int) : z ∈ Wo a b ↔ z ∈ a ∧ ¬ z ∈ b := by
  refine ((comb_spec _ ha hb).2 z).trans ?_
  simp
theorem V_ext {a b : List Int} (ha : V a) (hb : V b) (h : ∀ z, z ∈ a ↔ z ∈ b) : a = b := asc_ext _ _ (asc_pair ha) (asc_pair hb) h

section
variable {a b c : List Int} (ha : V a) (hb : V b) (hc : V c)
include ha hb
theorem al1 : An b a = An a b := V_ext (An_V hb ha) (An_V ha hb) fun z => by rw [An_mem hb ha, An_mem ha hb]; exact And.comm
theorem al2 : Orr b a = Orr a b := V_ext (Orr_V hb ha) (Orr_V ha hb) fun z => by rw [Orr_mem hb ha, Orr_mem ha hb]; exact Or.comm
theorem al6 : Orr (An a b) (Wo a b) = a := V_ext (Orr_V (An_V ha hb) (Wo_V ha hb)) ha fun z => by
  rw [Orr_mem (An_V ha hb) (Wo_V ha hb), An_mem ha hb, Wo_mem ha hb]
  by_cases h2 : z ∈ b <;> simp [h2]
theorem al7 : An (An a b) (Wo a b) = [] := by
  apply List.eq_nil_iff_forall_not_mem.2
  intro z hz
  rw [An_mem (An_V ha hb) (Wo_V ha hb), An_mem ha hb, Wo_mem ha hb] at hz
  exact hz.2.2 hz.1.2
theorem al8 : Orr (Wo a b) b = Orr a b := V_ext (Orr_V (Wo_V ha hb) hb) (Orr_V ha hb) fun z => by
  rw [Orr_mem (Wo_V ha hb) hb, Orr_mem ha hb, Wo_mem ha hb]
  by_cases h2 : z ∈ b <;> simp [h2]
include hc
theorem al3 : An a (An b c) = An (An a b) c := V_ext (An_V ha (An_V hb hc)) (An_V (An_V ha hb) hc) fun z => by
  rw [An_mem ha (An_V hb hc), An_mem (An_V ha hb) hc, An_mem ha hb, An_mem hb hc]
  exact and_assoc.symm
theorem al4 : Orr a (Orr b c) = Orr (Orr a b) c := V_ext (Orr_V ha (Orr_V hb hc)) (Orr_V (Orr_V ha hb) hc) fun z => by
  rw [Orr_mem ha (Orr_V hb hc), Orr_mem (Orr_V ha hb) hc, Orr_mem ha hb, Orr_mem hb hc]
  exact or_assoc.symm
theorem al5 : Orr (An a c) (An b c) = An (Orr a b) c := V_ext (Orr_V (An_V ha hc) (An_V hb hc)) (An_V (Orr_V ha hb) hc) fun z => by
  rw [Orr_mem (An_V ha hc) (An_V hb hc), An_mem (Orr_V ha hb) hc, Orr_mem ha hb, An_mem ha hc, An_mem hb hc]
  exact or_and_right.symm
end
end Go.Proofs.Ytlijaamjcpefoaa

/- Merging of lists of numbers in layer 38, for any function that takes the numbers. -/
namespace Go.Proofs.Ytlijaamjcpefoaa
open Go Go.Am Post
set_option linter.unusedVariables false

/-- The walk through two lists of numbers, with a function for what is in both. -/
def mgI {β : Type} (fA fB : β → Int → β) (fAB : β → Int → Int → β) : Nat → List Int → List Int → β → β
  | 0, _, _, o => o
  | n + 1, x :: a, y :: b, o => if x < y then mgI fA fB fAB n a (y :: b) (fA o x) else if y < x then mgI fA fB fAB n (x :: a) b (fB o y) else mgI fA fB fAB n a b (fAB o x y)
  | n + 1, x :: a, [], o => mgI fA fB fAB n a [] (fA o x)
  | n + 1, [], y :: b, o => mgI fA fB fAB n [] b (fB o y)
  | _ + 1, [], [], o => o
@[simp] theorem ints_len (l : List Int) : (ints l).length = l.length := by simp [ints]

/-- What is left of the walk through two posting lists. -/
def MI {β : Type} (fA fB : β → Int → β) (fAB : β → Int → Int → β) (a b : List Int) (n i j : Nat) (o : β) : β := mgI fA fB fAB n (a.drop i) (b.drop j) o

section
variable {β : Type} {fA fB : β → Int → β} {fAB : β → Int → Int → β} {a b : List Int} {o : β} {n i j : Nat}
theorem MI_A (hn : 0 < n) (hi : i < a.length) (hj : j < b.length) (h : a.getD i 0 < b.getD j 0) : MI fA fB fAB a b n i j o = MI fA fB fAB a b (n - 1) (i + 1) j (fA o (a.getD i 0)) := by
  obtain ⟨m, rfl⟩ : ∃ m, n = m + 1 := ⟨n - 1, by omega⟩
  unfold MI
  rw [drop_cons0 a i hi, drop_cons0 b j hj, mgI, if_pos h]
  rfl
theorem MI_B (hn : 0 < n) (hi : i < a.length) (hj : j < b.length) (h : ¬ a.getD i 0 < b.getD j 0) (h2 : b.getD j 0 < a.getD i 0) : MI fA fB fAB a b n i j o = MI fA fB fAB a b (n - 1) i (j + 1) (fB o (b.getD j 0)) := by
  obtain ⟨m, rfl⟩ : ∃ m, n = m + 1 := ⟨n - 1, by omega⟩
  unfold MI
  rw [drop_cons0 a i hi, drop_cons0 b j hj, mgI, if_neg h, if_pos h2]
  rfl
theorem MI_AB (hn : 0 < n) (hi : i < a.length) (hj : j < b.length) (h : ¬ a.getD i 0 < b.getD j 0) (h2 : ¬ b.getD j 0 < a.getD i 0) : MI fA fB fAB a b n i j o = MI fA fB fAB a b (n - 1) (i + 1) (j + 1) (fAB o (a.getD i 0) (b.getD j 0)) := by
  obtain ⟨m, rfl⟩ : ∃ m, n = m + 1 := ⟨n - 1, by omega⟩
  unfold MI
  rw [drop_cons0 a i hi, drop_cons0 b j hj, mgI, if_neg h, if_neg h2]
  rfl
theorem MI_A0 (hn : 0 < n) (hi : i < a.length) (hj : j = b.length) : MI fA fB fAB a b n i j o = MI fA fB fAB a b (n - 1) (i + 1) j (fA o (a.getD i 0)) := by
  obtain ⟨m, rfl⟩ : ∃ m, n = m + 1 := ⟨n - 1, by omega⟩
  unfold MI
  rw [drop_cons0 a i hi, hj, List.drop_length, mgI]
  rfl
theorem MI_B0 (hn : 0 < n) (hi : i = a.length) (hj : j < b.length) : MI fA fB fAB a b n i j o = MI fA fB fAB a b (n - 1) i (j + 1) (fB o (b.getD j 0)) := by
  obtain ⟨m, rfl⟩ : ∃ m, n = m + 1 := ⟨n - 1, by omega⟩
  unfold MI
  rw [drop_cons0 b j hj, hi, List.drop_length, mgI]
  rfl
theorem MI_end (hi : i = a.length) (hj : j = b.length) : MI fA fB fAB a b n i j o = o := by
  unfold MI
  rw [hi, hj, List.drop_length, List.drop_length]
  cases n <;> rfl
end

set_option maxRecDepth 100000 in
set_option maxHeartbeats 4000000 in
theorem mergeI_ok {β : Type} (g : Nat) (caps : List AV) (fA fB : β → Int → β) (fAB : β → Int → Int → β) (S : β → List Blk) (U : β → Toks) (I : Nat → β → Prop) (N M : Nat) (o0 : β)
    (a b : List Int) (ha : a.length ≤ 400) (hb : b.length ≤ 400) (hS : ∀ o, (S o).length = N) (hU : ∀ o, (U o).length = M) (hbc : BelowAll N M caps) (hok : ∀ n o, I n o → HOk (S o) (U o)) (h0 : I 0 o0)
    (cA : ∀ n i o, i < a.length → n ≤ 800 → I n o → ACall Try.prog g ([.vptr (ints a) i, .nilp] ++ caps) (S o) (U o) (Is (.tup []) (S (fA o (a.getD i 0))) (U (fA o (a.getD i 0)))))
    (cB : ∀ n j o, j < b.length → n ≤ 800 → I n o → ACall Try.prog g ([.nilp, .vptr (ints b) j] ++ caps) (S o) (U o) (Is (.tup []) (S (fB o (b.getD j 0))) (U (fB o (b.getD j 0)))))
    (cAB : ∀ n i j o, i < a.length → j < b.length → n ≤ 800 → I n o → ACall Try.prog g ([.vptr (ints a) i, .vptr (ints b) j] ++ caps) (S o) (U o) (Is (.tup []) (S (fAB o (a.getD i 0) (b.getD j 0))) (U (fAB o (a.getD i 0) (b.getD j 0)))))
    (iA : ∀ n i o, i < a.length → I n o → I (n + 1) (fA o (a.getD i 0))) (iB : ∀ n j o, j < b.length → I n o → I (n + 1) (fB o (b.getD j 0))) (iAB : ∀ n i j o, i < a.length → j < b.length → I n o → I (n + 2) (fAB o (a.getD i 0) (b.getD j 0))) :
    ACall Try.prog 89 [.sl a.length (ints a) .none, .sl b.length (ints b) .none, .fn 90 [] [], .fn g [] caps] (S o0) (U o0)
      (Is (.tup []) (S (MI fA fB fAB a b (a.length + b.length) 0 0 o0)) (U (MI fA fB fAB a b (a.length + b.length) 0 0 o0))) := by
  refine acall_enter 11 [] Try.ntmps89 Try.func89 rfl (fun _ _ => Try.call89 _ _) (by simp) (fun HO => ?_)
  refine aw_reg fun K hK => ?_; simp (maxSteps := 1000000) (disch := omega) [-List.getD_eq_getElem?_getD]; refine hK _ ?_; clear hK K
  refine aw_block ?_
  refine aw_loop (X := Nat × Nat × Nat × β) (fun x => ⟨[(0, .sl a.length (ints a) .none), (1, .sl b.length (ints b) .none), (2, .fn 90 [] []), (3, .fn g [] caps), (8, .int .i64 (x.2.1 : Nat)), (9, .int .i64 (x.2.2.1 : Nat))], S x.2.2.2, U x.2.2.2⟩)
    (fun x => x.2.1 ≤ a.length ∧ x.2.2.1 ≤ b.length ∧ (a.length - x.2.1) + (b.length - x.2.2.1) ≤ x.1 ∧ MI fA fB fAB a b (a.length + b.length) 0 0 o0 = MI fA fB fAB a b x.1 x.2.1 x.2.2.1 x.2.2.2 ∧ I (x.2.1 + x.2.2.1) x.2.2.2) (fun x => x.1) (a.length + b.length, 0, 0, o0) ?_ ?_ ?_
  · exact ⟨Nat.zero_le _, Nat.zero_le _, by simp only; omega, rfl, h0⟩
  · refine weak_to [] [] ?_ ?_ ?_ ?_ HO ?_
    · simp
    · simp
    · simp
    · simp
    · simp [hS, hU, hbc]
  · rintro ⟨n, i, j, out⟩ ⟨h1, h2, h3, h4, h5⟩
    simp only at h1 h2 h3 h4 h5
    by_cases hi : i < a.length
    · have bi : decide ((i : Int) < a.length) = true := by simp; omega
      have ni : ((i : Int) == a.length) = false := by rw [beq_eq_false_iff_ne]; omega
      have ni2 : ¬ i = a.length := by omega
      have hca := getD_ints (xs := a) (k := i) hi
      by_cases hj : j < b.length
      · have bj : decide ((j : Int) < b.length) = true := by simp; omega
        have nj : ((j : Int) == b.length) = false := by rw [beq_eq_false_iff_ne]; omega
        have nj2 : ¬ j = b.length := by omega
        have hcb := getD_ints (xs := b) (k := j) hj
        have hn : 0 < n := by omega
        refine aw_then fun K2 hK2 => ?_
        refine aw_reg fun K hK => ?_; simp (maxSteps := 1000000) (disch := omega) [-List.getD_eq_getElem?_getD, bi, bj, hi, hj]; refine hK _ ?_; clear hK K
        refine aw_if rfl (fun h => ?_) (fun h => absurd h (by simp))
        refine aw_skip ?_; simp (maxSteps := 1000000) (disch := omega) [-List.getD_eq_getElem?_getD]
        refine hK2 _ ?_; clear hK2
        refine aw_block ?_
        refine aw_block ?_
        by_cases c1 : a.getD i 0 < b.getD j 0
        · have b1 : decide (a.getD i 0 < b.getD j 0) = true := by simpa using c1
          have hst := MI_A (fA := fA) (fB := fB) (fAB := fAB) (o := out) hn hi hj c1
          refine aw_draw [] [] [] drawMixed (by kernel_rfl) (by kernel_rfl) fun K hK => ?_; simp (maxSteps := 1000000) (disch := omega) [-List.getD_eq_getElem?_getD, bi, hi, nj, nj2, hca, ints_len]
          refine dcall_is (itself_ok _ _ _) rfl ?_; simp (maxSteps := 1000000) (disch := omega) [-List.getD_eq_getElem?_getD, hcb, ints_len]
          refine dcall_is (itself_ok _ _ _) rfl ?_; simp (maxSteps := 1000000) (disch := omega) [-List.getD_eq_getElem?_getD, b1, c1]
          refine hK _ ?_; clear hK K
          refine aw_if rfl (fun h => ?_) (fun h => absurd h (by simp))
          refine aw_reg fun K hK => ?_; simp (maxSteps := 1000000) (disch := omega) [-List.getD_eq_getElem?_getD, ints_len]
          refine acall_is (cA (i + j) i out hi (by omega) h5) ?_; simp (maxSteps := 1000000) (disch := omega) [-List.getD_eq_getElem?_getD]
          refine hK _ ?_; clear hK K
          refine aw_reg0 fun K hK => ?_; simp (maxSteps := 1000000) (disch := omega) [-List.getD_eq_getElem?_getD]
          refine hK _ ?_; clear hK K
          refine ⟨(n - 1, i + 1, j, fA out (a.getD i 0)), ⟨by show i + 1 ≤ a.length; omega, by show j ≤ b.length; omega, by show (a.length - (i + 1)) + (b.length - (j)) ≤ n - 1; omega, h4.trans hst, (show I (i + 1 + j) _ by rw [show i + 1 + j = i + j + 1 by omega]; exact iA _ i out hi h5)⟩, by show n - 1 < n; omega, ?_⟩
          refine weak_to [] [] ?_ ?_ ?_ ?_ (hok _ _ ((show I (i + 1 + j) _ by rw [show i + 1 + j = i + j + 1 by omega]; exact iA _ i out hi h5))) ?_
          · simp
          · simp
          · simp [hS]
          · simp [hU]
          · simp [hS, hU, hbc]
            try omega
        · have b1 : decide (a.getD i 0 < b.getD j 0) = false := by simpa using c1
          refine aw_draw [] [] [] drawMixed (by kernel_rfl) (by kernel_rfl) fun K hK => ?_; simp (maxSteps := 1000000) (disch := omega) [-List.getD_eq_getElem?_getD, bi, hi, nj, nj2, hca, ints_len]
          refine dcall_is (itself_ok _ _ _) rfl ?_; simp (maxSteps := 1000000) (disch := omega) [-List.getD_eq_getElem?_getD, hcb, ints_len]
          refine dcall_is (itself_ok _ _ _) rfl ?_; simp (maxSteps := 1000000) (disch := omega) [-List.getD_eq_getElem?_getD, b1, c1]
          refine hK _ ?_; clear hK K
          refine aw_if rfl (fun h => absurd h (by simp)) (fun h => ?_)
          by_cases c2 : b.getD j 0 < a.getD i 0
          · have b2 : decide (b.getD j 0 < a.getD i 0) = true := by simpa using c2
            have hst := MI_B (fA := fA) (fB := fB) (fAB := fAB) (o := out) hn hi hj c1 c2
            refine aw_draw [] [] [] drawMixed (by kernel_rfl) (by kernel_rfl) fun K hK => ?_; simp (maxSteps := 1000000) (disch := omega) [-List.getD_eq_getElem?_getD, ni, ni2, hcb, ints_len, hj]
            refine dcall_is (itself_ok _ _ _) rfl ?_; simp (maxSteps := 1000000) (disch := omega) [-List.getD_eq_getElem?_getD, hca, ints_len]
            refine dcall_is (itself_ok _ _ _) rfl ?_; simp (maxSteps := 1000000) (disch := omega) [-List.getD_eq_getElem?_getD, b2, c2]
            refine hK _ ?_; clear hK K
            refine aw_if rfl (fun h => ?_) (fun h => absurd h (by simp))
            refine aw_reg fun K hK => ?_; simp (maxSteps := 1000000) (disch := omega) [-List.getD_eq_getElem?_getD, ints_len]
            refine acall_is (cB (i + j) j out hj (by omega) h5) ?_; simp (maxSteps := 1000000) (disch := omega) [-List.getD_eq_getElem?_getD]
            refine hK _ ?_; clear hK K
            refine aw_reg0 fun K hK => ?_; simp (maxSteps := 1000000) (disch := omega) [-List.getD_eq_getElem?_getD]
            refine hK _ ?_; clear hK K
            refine ⟨(n - 1, i, j + 1, fB out (b.getD j 0)), ⟨by show i ≤ a.length; omega, by show j + 1 ≤ b.length; omega, by show (a.length - (i)) + (b.length - (j + 1)) ≤ n - 1; omega, h4.trans hst, (show I (i + (j + 1)) _ from iB _ j out hj h5)⟩, by show n - 1 < n; omega, ?_⟩
            refine weak_to [] [] ?_ ?_ ?_ ?_ (hok _ _ ((show I (i + (j + 1)) _ from iB _ j out hj h5))) ?_
            · simp
            · simp
            · simp [hS]
            · simp [hU]
            · simp [hS, hU, hbc]
              try omega
          · have b2 : decide (b.getD j 0 < a.getD i 0) = false := by simpa using c2
            have hst := MI_AB (fA := fA) (fB := fB) (fAB := fAB) (o := out) hn hi hj c1 c2
            refine aw_draw [] [] [] drawMixed (by kernel_rfl) (by kernel_rfl) fun K hK => ?_; simp (maxSteps := 1000000) (disch := omega) [-List.getD_eq_getElem?_getD, ni, ni2, hcb, ints_len, hj]
            refine dcall_is (itself_ok _ _ _) rfl ?_; simp (maxSteps := 1000000) (disch := omega) [-List.getD_eq_getElem?_getD, hca, ints_len]
            refine dcall_is (itself_ok _ _ _) rfl ?_; simp (maxSteps := 1000000) (disch := omega) [-List.getD_eq_getElem?_getD, b2, c2]
            refine hK _ ?_; clear hK K
            refine aw_if rfl (fun h => absurd h (by simp)) (fun h => ?_)
            refine aw_draw [7] [0, 0, 0, 0, 0, 0, 0, 0] [[]] drawMixed (by kernel_rfl) (by kernel_rfl) fun K hK => ?_; simp (maxSteps := 1000000) (disch := omega) [-List.getD_eq_getElem?_getD, ints_len, hi, hj]
            refine dcall_eff (cAB (i + j) i j out hi hj (by omega) h5) rfl ?_; simp (maxSteps := 1000000) (disch := omega) [-List.getD_eq_getElem?_getD]
            refine hK _ ?_; clear hK K
            refine aw_reg0 fun K hK => ?_; simp (maxSteps := 1000000) (disch := omega) [-List.getD_eq_getElem?_getD]
            refine hK _ ?_; clear hK K
            refine ⟨(n - 1, i + 1, j + 1, fAB out (a.getD i 0) (b.getD j 0)), ⟨by show i + 1 ≤ a.length; omega, by show j + 1 ≤ b.length; omega, by show (a.length - (i + 1)) + (b.length - (j + 1)) ≤ n - 1; omega, h4.trans hst, (show I (i + 1 + (j + 1)) _ by rw [show i + 1 + (j + 1) = i + j + 2 by omega]; exact iAB _ i j out hi hj h5)⟩, by show n - 1 < n; omega, ?_⟩
            refine weak_to [] [] ?_ ?_ ?_ ?_ (hok _ _ ((show I (i + 1 + (j + 1)) _ by rw [show i + 1 + (j + 1) = i + j + 2 by omega]; exact iAB _ i j out hi hj h5))) ?_
            · simp
            · simp
            · simp [hS]
            · simp [hU]
            · simp [hS, hU, hbc]
              try omega
      · have bj : decide ((j : Int) < b.length) = false := by simp; omega
        have hjb : j = b.length := by omega
        have nj : ((j : Int) == b.length) = true := by simp; omega
        have hn : 0 < n := by omega
        have hst := MI_A0 (fA := fA) (fB := fB) (fAB := fAB) (o := out) hn hi hjb
        refine aw_then fun K2 hK2 => ?_
        refine aw_reg fun K hK => ?_; simp (maxSteps := 1000000) (disch := omega) [-List.getD_eq_getElem?_getD, bi, bj, hi, hj]; refine hK _ ?_; clear hK K
        refine aw_if rfl (fun h => ?_) (fun h => absurd h (by simp))
        refine aw_skip ?_; simp (maxSteps := 1000000) (disch := omega) [-List.getD_eq_getElem?_getD]
        refine hK2 _ ?_; clear hK2
        refine aw_block ?_
        refine aw_block ?_
        have hjz : (j : Int) = (b.length : Int) := by omega
        refine aw_draw [] [] [] drawMixed (by kernel_rfl) (by kernel_rfl) fun K hK => ?_; simp (maxSteps := 1000000) (disch := omega) [-List.getD_eq_getElem?_getD, nj, hjz]
        refine hK _ ?_; clear hK K
        refine aw_if rfl (fun h => ?_) (fun h => absurd h (by simp))
        refine aw_reg fun K hK => ?_; simp (maxSteps := 1000000) (disch := omega) [-List.getD_eq_getElem?_getD, ints_len]
        refine acall_is (cA (i + j) i out hi (by omega) h5) ?_; simp (maxSteps := 1000000) (disch := omega) [-List.getD_eq_getElem?_getD]
        refine hK _ ?_; clear hK K
        refine aw_reg0 fun K hK => ?_; simp (maxSteps := 1000000) (disch := omega) [-List.getD_eq_getElem?_getD]
        refine hK _ ?_; clear hK K
        refine ⟨(n - 1, i + 1, j, fA out (a.getD i 0)), ⟨by show i + 1 ≤ a.length; omega, by show j ≤ b.length; omega, by show (a.length - (i + 1)) + (b.length - (j)) ≤ n - 1; omega, h4.trans hst, (show I (i + 1 + j) _ by rw [show i + 1 + j = i + j + 1 by omega]; exact iA _ i out hi h5)⟩, by show n - 1 < n; omega, ?_⟩
        refine weak_to [] [] ?_ ?_ ?_ ?_ (hok _ _ ((show I (i + 1 + j) _ by rw [show i + 1 + j = i + j + 1 by omega]; exact iA _ i out hi h5))) ?_
        · simp
        · simp
        · simp [hS]
        · simp [hU]
        · simp [hS, hU, hbc]
          try omega
    · have bi : decide ((i : Int) < a.length) = false := by simp; omega
      have hia : i = a.length := by omega
      by_cases hj : j < b.length
      · have bj : decide ((j : Int) < b.length) = true := by simp; omega
        have nj : ((j : Int) == b.length) = false := by rw [beq_eq_false_iff_ne]; omega
        have nj2 : ¬ j = b.length := by omega
        have ni : ((i : Int) == a.length) = true := by simp; omega
        have hn : 0 < n := by omega
        have hst := MI_B0 (fA := fA) (fB := fB) (fAB := fAB) (o := out) hn hia hj
        refine aw_then fun K2 hK2 => ?_
        refine aw_reg fun K hK => ?_; simp (maxSteps := 1000000) (disch := omega) [-List.getD_eq_getElem?_getD, bi, bj, hi, hj]; refine hK _ ?_; clear hK K
        refine aw_if rfl (fun h => ?_) (fun h => absurd h (by simp))
        refine aw_skip ?_; simp (maxSteps := 1000000) (disch := omega) [-List.getD_eq_getElem?_getD]
        refine hK2 _ ?_; clear hK2
        refine aw_block ?_
        refine aw_block ?_
        refine aw_draw [] [] [] drawMixed (by kernel_rfl) (by kernel_rfl) fun K hK => ?_; simp (maxSteps := 1000000) (disch := omega) [-List.getD_eq_getElem?_getD, nj, nj2, bi, hi]
        refine hK _ ?_; clear hK K
        refine aw_if rfl (fun h => absurd h (by simp)) (fun h => ?_)
        have hiz : (i : Int) = (a.length : Int) := by omega
        refine aw_draw [] [] [] drawMixed (by kernel_rfl) (by kernel_rfl) fun K hK => ?_; simp (maxSteps := 1000000) (disch := omega) [-List.getD_eq_getElem?_getD, ni, hiz]
        refine hK _ ?_; clear hK K
        refine aw_if rfl (fun h => ?_) (fun h => absurd h (by simp))
        refine aw_reg fun K hK => ?_; simp (maxSteps := 1000000) (disch := omega) [-List.getD_eq_getElem?_getD, ints_len]
        refine acall_is (cB (i + j) j out hj (by omega) h5) ?_; simp (maxSteps := 1000000) (disch := omega) [-List.getD_eq_getElem?_getD]
        refine hK _ ?_; clear hK K
        refine aw_reg0 fun K hK => ?_; simp (maxSteps := 1000000) (disch := omega) [-List.getD_eq_getElem?_getD]
        refine hK _ ?_; clear hK K
        refine ⟨(n - 1, i, j + 1, fB out (b.getD j 0)), ⟨by show i ≤ a.length; omega, by show j + 1 ≤ b.length; omega, by show (a.length - (i)) + (b.length - (j + 1)) ≤ n - 1; omega, h4.trans hst, (show I (i + (j + 1)) _ from iB _ j out hj h5)⟩, by show n - 1 < n; omega, ?_⟩
        refine weak_to [] [] ?_ ?_ ?_ ?_ (hok _ _ ((show I (i + (j + 1)) _ from iB _ j out hj h5))) ?_
        · simp
        · simp
        · simp [hS]
        · simp [hU]
        · simp [hS, hU, hbc]
          try omega
      · have bj : decide ((j : Int) < b.length) = false := by simp; omega
        have hend := MI_end (fA := fA) (fB := fB) (fAB := fAB) (a := a) (b := b) (o := out) (n := n) hia (show j = b.length by omega)
        rw [hend] at h4
        refine aw_then fun K2 hK2 => ?_
        refine aw_reg fun K hK => ?_; simp (maxSteps := 1000000) (disch := omega) [-List.getD_eq_getElem?_getD, bi, bj, hi, hj]; refine hK _ ?_; clear hK K
        refine aw_if rfl (fun h => absurd h (by simp)) (fun h => ?_)
        refine aw_exit ?_; simp (maxSteps := 1000000) (disch := omega) [-List.getD_eq_getElem?_getD]
        rw [h4]
        exact ⟨rfl, rfl, rfl⟩
end Go.Proofs.Ytlijaamjcpefoaa

/- The parts of Union in layer 38: copies, joined. -/
namespace Go.Proofs.Ytlijaamjcpefoaa
open Go Go.Am Post
set_option linter.unusedVariables false

theorem cloneI_ok (l : List Int) (hl : l.length ≤ 1000) (H : List Blk) (T : Toks) : ACall Try.prog 67 [.sl l.length (ints l) .none] H T (Is (.sl l.length (ints l) .none) H T) := by
  refine ACall.cut H T (Nat.le_refl _) (Nat.le_refl _) id (by simp) ?_
  refine acall_enter 3 [] Try.ntmps67 Try.func67 rfl (fun _ _ => Try.call67 _ _) (by simp) (fun HO => ?_)
  refine aw_reg fun K hK => ?_; simp (maxSteps := 1000000) (disch := omega) [-List.getD_eq_getElem?_getD]; refine hK _ ?_; clear hK K
  refine aw_then fun K1 hK1 => ?_
  refine aw_reg fun K hK => ?_; simp (maxSteps := 1000000) (disch := omega) [-List.getD_eq_getElem?_getD]
  refine ⟨hK _ ?_, fun he => hK _ ?_⟩
  · refine aw_if rfl (fun h => absurd h (by simp)) (fun h => ?_)
    refine aw_skip ?_; simp (maxSteps := 1000000) (disch := omega) [-List.getD_eq_getElem?_getD]
    refine hK1 _ ?_; clear hK1
    refine aw_reg fun K hK => ?_; simp (maxSteps := 1000000) (disch := omega) [-List.getD_eq_getElem?_getD]; refine hK _ ?_; clear hK K
    refine aw_ret ?_; simp (maxSteps := 1000000) (disch := omega) [-List.getD_eq_getElem?_getD]
  · refine aw_if rfl (fun h => ?_) (fun h => absurd h (by simp))
    refine aw_reg fun K hK => ?_; simp (maxSteps := 1000000) (disch := omega) [-List.getD_eq_getElem?_getD]; refine hK _ ?_; clear hK K
    refine aw_ret ?_; simp (maxSteps := 1000000) (disch := omega) [-List.getD_eq_getElem?_getD, he]

/-- The box of joined: the list that is being made. -/
def SJ (H : List Blk) (out : List Int) (tk : Nat) : List Blk := H ++ [.cells [.sl out.length (ints out) (.own tk)]]
def TJ (T : Toks) (out : List Int) : Toks := T ++ [(out.length, 1)]
theorem SJ_len (H : List Blk) (out : List Int) (tk : Nat) : (SJ H out tk).length = H.length + 1 := by simp [SJ]
theorem TJ_len (T : Toks) (out : List Int) : (TJ T out).length = T.length + 1 := by simp [TJ]
theorem hok_SJ {H : List Blk} {T : Toks} (h : HOk H T) (out : List Int) : HOk (SJ H out T.length) (TJ T out) := HOk.snoc (h.toks (by rw [TJ_len]; omega)) (by simp [TJ_len])

theorem joinA_ok (a : List Int) (i : Nat) (hi : i < a.length) (v : AV) (out : List Int) (ho : out.length ≤ 1000) (H : List Blk) (T : Toks) :
    ACall Try.prog 92 [.vptr (ints a) i, v, .ptr H.length 0] (SJ H out T.length) (TJ T out) (Is (.tup []) (SJ H (out ++ [a.getD i 0]) T.length) (TJ T (out ++ [a.getD i 0]))) := by
  have hgp := getD_ints (xs := a) (k := i) hi
  have hsn := ints_snoc out (a.getD i 0)
  simp only [SJ, TJ]
  refine acall_enter 5 [] Try.ntmps92 Try.func92 rfl (fun _ _ => Try.call92 _ _) (by simp) (fun HO => ?_)
  refine aw_then fun K1 hK1 => ?_
  refine aw_reg fun K hK => ?_; simp (maxSteps := 1000000) (disch := omega) [-List.getD_eq_getElem?_getD]; refine hK _ ?_; clear hK K
  refine aw_if rfl (fun h => absurd h (by simp)) (fun h => ?_)
  refine aw_skip ?_; simp (maxSteps := 1000000) (disch := omega) [-List.getD_eq_getElem?_getD]
  refine hK1 _ ?_; clear hK1
  refine aw_draw0 [5, 6] [0, 0, 0, 0, 0, 0, 1] [[], []] drawMixed (by kernel_rfl) (by kernel_rfl) fun K hK => ?_; simp (maxSteps := 1000000) (disch := omega) [-List.getD_eq_getElem?_getD, hgp, hsn, hi]
  refine hK _ ?_; clear hK K
  exact ⟨rfl, by simp, by simp⟩

theorem joinB_ok (b : List Int) (j : Nat) (hj : j < b.length) (out : List Int) (ho : out.length ≤ 1000) (H : List Blk) (T : Toks) :
    ACall Try.prog 92 [.nilp, .vptr (ints b) j, .ptr H.length 0] (SJ H out T.length) (TJ T out) (Is (.tup []) (SJ H (out ++ [b.getD j 0]) T.length) (TJ T (out ++ [b.getD j 0]))) := by
  have hgp := getD_ints (xs := b) (k := j) hj
  have hsn := ints_snoc out (b.getD j 0)
  simp only [SJ, TJ]
  refine acall_enter 5 [] Try.ntmps92 Try.func92 rfl (fun _ _ => Try.call92 _ _) (by simp) (fun HO => ?_)
  refine aw_then fun K1 hK1 => ?_
  refine aw_reg fun K hK => ?_; simp (maxSteps := 1000000) (disch := omega) [-List.getD_eq_getElem?_getD]; refine hK _ ?_; clear hK K
  refine aw_if rfl (fun h => ?_) (fun h => absurd h (by simp))
  refine aw_reg0 fun K hK => ?_; simp (maxSteps := 1000000) (disch := omega) [-List.getD_eq_getElem?_getD]
  refine hK _ ?_; clear hK K
  refine hK1 _ ?_; clear hK1
  refine aw_draw0 [5, 6] [0, 0, 0, 0, 0, 0, 1] [[], []] drawMixed (by kernel_rfl) (by kernel_rfl) fun K hK => ?_; simp (maxSteps := 1000000) (disch := omega) [-List.getD_eq_getElem?_getD, hgp, hsn, hj]
  refine hK _ ?_; clear hK K
  exact ⟨rfl, by simp, by simp⟩

/-- The numbers of two lists. -/
def jn (a b : List Int) : List Int := MG (fun _ _ => true) a b (a.length + b.length) 0 0 []

theorem mgI_mgN (fA fB : List Int → Int → List Int) : ∀ (n : Nat) (a b o : List Int), mgI fA fB (fun o x _ => fA o x) n a b o = mgN fA fB fA n a b o := by
  intro n
  induction n with
  | zero => intro a b o; rfl
  | succ n ih =>
    intro a b o
    cases a with
    | nil => cases b with
      | nil => rfl
      | cons y b => exact ih _ _ _
    | cons x a => cases b with
      | nil => exact ih _ _ _
      | cons y b => simp only [mgI, mgN, ih]

theorem jn_len (a b : List Int) : (jn a b).length ≤ a.length + b.length := by
  have := mg_len (fA := fun (o : List Int) (x : Int) => if (fun _ _ => true : Bool → Bool → Bool) true false then o ++ [x] else o) (fB := fun o x => if (fun _ _ => true : Bool → Bool → Bool) false true then o ++ [x] else o) (fAB := fun o x => if (fun _ _ => true : Bool → Bool → Bool) true true then o ++ [x] else o) (by simp) (by simp) (by simp) (a.length + b.length) a b []
  simp only [List.length_nil, Nat.zero_add] at this
  exact this

theorem joined_ok (a b : List Int) (ha : a.length ≤ 400) (hb : b.length ≤ 400) (H : List Blk) (T : Toks) (ta tb : Tag) :
    ACall Try.prog 68 [.sl a.length (ints a) ta, .sl b.length (ints b) tb] H T (Is (.sl (jn a b).length (ints (jn a b)) .none) H T) := by
  refine ACall.untag1 (ACall.untag2 ?_)
  refine ACall.drop' ?_ (by simp)
  have hres : MI (fun (o : List Int) x => o ++ [x]) (fun o x => o ++ [x]) (fun o x _ => o ++ [x]) a b (a.length + b.length) 0 0 [] = jn a b := mgI_mgN _ _ _ _ _ _
  have c := fun HO : HOk H T => mergeI_ok (β := List Int) 92 [.ptr H.length 0] (fun o x => o ++ [x]) (fun o x => o ++ [x]) (fun o x _ => o ++ [x])
    (fun o => SJ H o T.length) (fun o => TJ T o) (fun n o => o.length ≤ n) (H.length + 1) (T.length + 1) [] a b ha hb (fun o => SJ_len _ _ _) (fun o => TJ_len _ _) (by simp)
    (fun n o _ => hok_SJ HO o) (Nat.zero_le _)
    (fun n i o hi hn h => joinA_ok a i hi _ o (by omega) H T) (fun n j o hj hn h => joinB_ok b j hj o (by omega) H T)
    (fun n i j o hi hj hn h => joinA_ok a i hi _ o (by omega) H T)
    (fun n i o _ h => by simp; omega) (fun n j o _ h => by simp; omega) (fun n i j o _ _ h => by simp; omega)
  rw [hres] at c
  generalize jn a b = r at *
  have k1 : (SJ H r T.length)[H.length]? = some (.cells [.sl r.length (ints r) (.own T.length)]) := by simp [SJ]
  have hH : ∃ rH, SJ H r T.length = H ++ rH := ⟨_, rfl⟩
  have hT : ∃ rT, TJ T r = T ++ rT := ⟨_, rfl⟩
  refine acall_enter 6 [] Try.ntmps68 Try.func68 rfl (fun _ _ => Try.call68 _ _) (by simp) (fun HO => ?_)
  have c1 := c HO
  refine aw_reg fun K hK => ?_; simp (maxSteps := 1000000) (disch := omega) [-List.getD_eq_getElem?_getD]; refine hK _ ?_; clear hK K
  refine aw_reg fun K hK => ?_; simp (maxSteps := 1000000) (disch := omega) [-List.getD_eq_getElem?_getD]; refine hK _ ?_; clear hK K
  refine aw_ownB 1 H 0 [] (by omega) (by simp) ?_
  refine aw_reg fun K hK => ?_; simp (maxSteps := 1000000) (disch := omega) [-List.getD_eq_getElem?_getD]
  refine acall_is (c1) ?_; simp (maxSteps := 1000000) (disch := omega) [-List.getD_eq_getElem?_getD]
  refine hK _ ?_; clear hK K
  refine aw_reg fun K hK => ?_; simp (maxSteps := 1000000) (disch := omega) [-List.getD_eq_getElem?_getD, k1]; refine hK _ ?_; clear hK K
  refine aw_ret ?_; simp (maxSteps := 1000000) (disch := omega) [-List.getD_eq_getElem?_getD]
  exact ⟨hH, hT⟩
end Go.Proofs.Ytlijaamjcpefoaa

/- The union of posting lists: going through both is the same as collecting the positions of each document. -/
namespace Go.Proofs.Ytlijaamjcpefoaa
open Go Go.Am Post
set_option linter.unusedVariables false

def jF (o : List Int) (x : Int) : List Int := if (fun _ _ => true : Bool → Bool → Bool) true false then o ++ [x] else o
theorem jn_spec {a b : List Int} (ha : Asc a) (hb : Asc b) (n : Nat) (hn : a.length + b.length ≤ n) (o : List Int) : mgN jF jF jF n a b o = o ++ mgN jF jF jF n a b [] ∧
    (∀ z, z ∈ mgN jF jF jF n a b [] ↔ z ∈ a ∨ z ∈ b) ∧ Asc (mgN jF jF jF n a b []) := by
  obtain ⟨g1, g2, g3⟩ := mg_keep true true true n a b o hn ha hb
  refine ⟨g1, fun z => ?_, g3⟩
  refine (g2 z).trans ?_
  by_cases h1 : z ∈ a <;> by_cases h2 : z ∈ b <;> simp [h1, h2]
theorem jn_def (a b : List Int) : jn a b = mgN jF jF jF (a.length + b.length) a b [] := rfl
theorem jn_mem {a b : List Int} (ha : Asc a) (hb : Asc b) (z : Int) : z ∈ jn a b ↔ z ∈ a ∨ z ∈ b := (jn_spec ha hb _ (Nat.le_refl _) []).2.1 z
theorem jn_asc {a b : List Int} (ha : Asc a) (hb : Asc b) : Asc (jn a b) := (jn_spec ha hb _ (Nat.le_refl _) []).2.2
theorem jn_fuel {a b : List Int} (ha : Asc a) (hb : Asc b) {n : Nat} (hn : a.length + b.length ≤ n) : mgN jF jF jF n a b [] = jn a b := by
  refine asc_ext _ _ (jn_spec ha hb n hn []).2.2 (jn_asc ha hb) fun z => ?_
  rw [(jn_spec ha hb n hn []).2.1, jn_mem ha hb]
theorem jn_nilr {a : List Int} (ha : Asc a) : jn a [] = a := asc_ext _ _ (jn_asc ha List.Pairwise.nil) ha fun z => by rw [jn_mem ha List.Pairwise.nil]; simp
theorem jn_nill {a : List Int} (ha : Asc a) : jn [] a = a := asc_ext _ _ (jn_asc List.Pairwise.nil ha) ha fun z => by rw [jn_mem List.Pairwise.nil ha]; simp

/-- The posting of a document in the union. -/
def un1 (a b : PL) (d : Int) : Int × List Int := (d, jn (posOf a d) (posOf b d))
def unL (a b : PL) : PL := (jn (docs a) (docs b)).map (un1 a b)

theorem docs_cons (p : Int × List Int) (l : PL) : docs (p :: l) = p.1 :: docs l := rfl
theorem posOf_lt {l : PL} {d : Int} (h : ∀ p ∈ l, d < p.1) : posOf l d = [] := posOf_none fun p hp e => by have := h p hp; omega

theorem mgP_union : ∀ (n : Nat) (a b o : PL), a.length + b.length ≤ n → Asc' a → Asc' b → (∀ p ∈ a, Asc p.2) → (∀ p ∈ b, Asc p.2) →
    mgP (fun o x => o ++ [x]) (fun o y => o ++ [y]) (fun o x y => o ++ [(x.1, jn x.2 y.2)]) n a b o = o ++ (mgN jF jF jF n (docs a) (docs b) []).map (un1 a b) := by
  intro n
  induction n with
  | zero =>
    intro a b o h _ _ _ _
    have ha : a = [] := List.eq_nil_of_length_eq_zero (by omega)
    subst ha
    simp [mgP, mgN]
  | succ n ih =>
    intro a b o h ha hb pa pb
    have step : ∀ (a' b' : PL) (q : Int × List Int), Asc (docs a') → Asc (docs b') → (docs a').length + (docs b').length ≤ n → un1 a b q.1 = q → (∀ d, d ∈ docs a' ∨ d ∈ docs b' → un1 a' b' d = un1 a b d) →
        (o ++ [q]) ++ (mgN jF jF jF n (docs a') (docs b') []).map (un1 a' b') = o ++ (mgN jF jF jF n (docs a') (docs b') [q.1]).map (un1 a b) := by
      intro a' b' q g1 g2 g3 g4 g5
      obtain ⟨k1, k2, _⟩ := jn_spec g1 g2 n g3 [q.1]
      rw [k1, List.map_append, List.append_assoc]
      congr 1
      have : (mgN jF jF jF n (docs a') (docs b') []).map (un1 a' b') = (mgN jF jF jF n (docs a') (docs b') []).map (un1 a b) := List.map_congr_left fun d hd => g5 d ((k2 d).1 hd)
      rw [this]
      simp [g4]
    have hdl : ∀ l : PL, (docs l).length = l.length := fun l => by simp [docs]
    cases a with
    | nil =>
      cases b with
      | nil => simp [mgP, mgN, docs]
      | cons y b =>
        obtain ⟨h3, h4⟩ := asc'_tail hb
        rw [mgP, ih [] b _ (by simp at h ⊢; omega) ha h3 pa (fun p hp => pb p (by simp [hp])), step [] b y ha h3 (by rw [hdl, hdl]; simp at h ⊢; omega)]
        · rfl
        · unfold un1
          rw [posOf_cons_eq, show posOf [] y.1 = [] from rfl, jn_nill (pb y (by simp))]
        · intro d hd
          have : y.1 ≠ d := by
            rcases hd with hd | hd
            · simp [docs] at hd
            · obtain ⟨p, hp, e⟩ := List.mem_map.1 hd
              have := h4 p hp
              omega
          unfold un1
          rw [posOf_cons_ne this]
    | cons x a =>
      obtain ⟨h1, h2⟩ := asc'_tail ha
      cases b with
      | nil =>
        rw [mgP, ih a [] _ (by simp at h ⊢; omega) h1 hb (fun p hp => pa p (by simp [hp])) pb, step a [] x h1 hb (by rw [hdl, hdl]; simp at h ⊢; omega)]
        · rfl
        · unfold un1
          rw [posOf_cons_eq, show posOf [] x.1 = [] from rfl, jn_nilr (pa x (by simp))]
        · intro d hd
          have : x.1 ≠ d := by
            rcases hd with hd | hd
            · obtain ⟨p, hp, e⟩ := List.mem_map.1 hd
              have := h2 p hp
              omega
            · simp [docs] at hd
          unfold un1
          rw [posOf_cons_ne this]
      | cons y b =>
        obtain ⟨h3, h4⟩ := asc'_tail hb
        simp only [List.length_cons] at h
        rw [docs_cons x a, docs_cons y b]
        by_cases c1 : x.1 < y.1
        · have hyb : ∀ p ∈ y :: b, x.1 < p.1 := fun p hp => by
            rcases List.mem_cons.1 hp with rfl | hp
            · exact c1
            · have := h4 p hp; omega
          rw [mgP, if_pos c1, ih a (y :: b) _ (by simp; omega) h1 hb (fun p hp => pa p (by simp [hp])) pb, step a (y :: b) x h1 hb (by rw [hdl, hdl]; simp; omega), mgN, if_pos c1]
          · rfl
          · unfold un1
            rw [posOf_cons_eq, posOf_lt hyb, jn_nilr (pa x (by simp))]
          · intro d hd
            have : x.1 ≠ d := by
              rcases hd with hd | hd
              · obtain ⟨p, hp, e⟩ := List.mem_map.1 hd
                have := h2 p hp
                omega
              · obtain ⟨p, hp, e⟩ := List.mem_map.1 hd
                have := hyb p hp
                omega
            unfold un1
            rw [posOf_cons_ne (l := a) this]
        · by_cases c2 : y.1 < x.1
          · have hxa : ∀ p ∈ x :: a, y.1 < p.1 := fun p hp => by
              rcases List.mem_cons.1 hp with rfl | hp
              · exact c2
              · have := h2 p hp; omega
            rw [mgP, if_neg c1, if_pos c2, ih (x :: a) b _ (by simp; omega) ha h3 pa (fun p hp => pb p (by simp [hp])), step (x :: a) b y ha h3 (by rw [hdl, hdl]; simp; omega), mgN, if_neg c1, if_pos c2]
            · rfl
            · unfold un1
              rw [posOf_cons_eq, posOf_lt hxa, jn_nill (pb y (by simp))]
            · intro d hd
              have : y.1 ≠ d := by
                rcases hd with hd | hd
                · obtain ⟨p, hp, e⟩ := List.mem_map.1 hd
                  have := hxa p hp
                  omega
                · obtain ⟨p, hp, e⟩ := List.mem_map.1 hd
                  have := h4 p hp
                  omega
              unfold un1
              rw [posOf_cons_ne (l := b) this]
          · have e : x.1 = y.1 := by omega
            rw [mgP, if_neg c1, if_neg c2, ih a b _ (by omega) h1 h3 (fun p hp => pa p (by simp [hp])) (fun p hp => pb p (by simp [hp])), step a b (x.1, jn x.2 y.2) h1 h3 (by rw [hdl, hdl]; omega), mgN, if_neg c1, if_neg c2]
            · rfl
            · unfold un1
              rw [posOf_cons_eq, e, posOf_cons_eq]
            · intro d hd
              have : x.1 ≠ d := by
                rcases hd with hd | hd
                · obtain ⟨p, hp, e⟩ := List.mem_map.1 hd
                  have := h2 p hp
                  omega
                · obtain ⟨p, hp, e⟩ := List.mem_map.1 hd
                  have := h4 p hp
                  omega
              unfold un1
              rw [posOf_cons_ne (l := a) this, posOf_cons_ne (l := b) (by omega)]

theorem mgP_unL {a b : PL} (ha : Asc' a) (hb : Asc' b) (pa : ∀ p ∈ a, Asc p.2) (pb : ∀ p ∈ b, Asc p.2) : mgP (fun o x => o ++ [x]) (fun o y => o ++ [y]) (fun o x y => o ++ [(x.1, jn x.2 y.2)]) (a.length + b.length) a b [] = unL a b := by
  rw [mgP_union _ a b [] (Nat.le_refl _) ha hb pa pb, List.nil_append, jn_fuel (a := docs a) (b := docs b) ha hb (by simp [docs])]
  rfl
end Go.Proofs.Ytlijaamjcpefoaa

/- Union of layer 38. -/
namespace Go.Proofs.Ytlijaamjcpefoaa
open Go Go.Am Post
set_option linter.unusedVariables false

/-- The box of Union: the list that is being made. -/
def SU (H : List Blk) (out : PL) (tk : Nat) : List Blk := H ++ [.cells [.sl out.length (psAV out) (.own tk)]]
theorem SU_len (H : List Blk) (out : PL) (tk : Nat) : (SU H out tk).length = H.length + 1 := by simp [SU]
theorem hok_SU {H : List Blk} {T : Toks} (h : HOk H T) (out : PL) : HOk (SU H out T.length) (STp T out) := HOk.snoc (h.toks (by rw [STp_len]; omega)) (by simp [STp_len])

set_option maxRecDepth 100000 in
theorem unA_ok (a : PL) (i : Nat) (hi : i < a.length) (ha : (a.getD i (0, [])).2.length ≤ 1000) (out : PL) (ho : out.length ≤ 1000) (H : List Blk) (T : Toks) :
    ACall Try.prog 66 [.vptr (psAV a) (i * 2), .nilp, .ptr H.length 0] (SU H out T.length) (STp T out) (Is (.tup []) (SU H (out ++ [a.getD i (0, [])]) T.length) (STp T (out ++ [a.getD i (0, [])]))) := by
  have hia := psAV_at a i hi
  have c := cloneI_ok (a.getD i (0, [])).2 ha (SU H out T.length) (STp T out)
  have hps := psAV_snoc out (a.getD i (0, [])).1 (a.getD i (0, [])).2
  rw [show ((a.getD i (0, [])).1, (a.getD i (0, [])).2) = a.getD i (0, []) from rfl] at hps
  generalize a.getD i (0, []) = x at *
  simp only [SU, STp] at c ⊢
  refine acall_enter 3 [] Try.ntmps66 Try.func66 rfl (fun _ _ => Try.call66 _ _) (by simp) (fun HO => ?_)
  refine aw_block ?_
  refine aw_reg fun K hK => ?_; simp (maxSteps := 1000000) (disch := omega) [-List.getD_eq_getElem?_getD]; refine hK _ ?_; clear hK K
  refine aw_if rfl (fun h => absurd h (by simp)) (fun h => ?_)
  refine aw_reg fun K hK => ?_; simp (maxSteps := 1000000) (disch := omega) [-List.getD_eq_getElem?_getD]; refine hK _ ?_; clear hK K
  refine aw_if rfl (fun h => ?_) (fun h => absurd h (by simp))
  refine aw_draw0 [12, 13] [0, 0, 0, 0, 0, 0, 0, 0, 0, 0, 0, 0, 0, 1] [[], []] drawMixed (by kernel_rfl) (by kernel_rfl) fun K hK => ?_; simp (maxSteps := 1000000) (disch := omega) [-List.getD_eq_getElem?_getD, hia.1, hia.2, psAV_len, hps, hi]
  refine dcall_is (c) rfl ?_; simp (maxSteps := 1000000) (disch := omega) [-List.getD_eq_getElem?_getD, hia.1, hia.2, psAV_len, hps, hi]
  refine hK _ ?_; clear hK K
  exact ⟨rfl, by simp, by simp⟩

set_option maxRecDepth 100000 in
theorem unB_ok (b : PL) (j : Nat) (hj : j < b.length) (hb : (b.getD j (0, [])).2.length ≤ 1000) (out : PL) (ho : out.length ≤ 1000) (H : List Blk) (T : Toks) :
    ACall Try.prog 66 [.nilp, .vptr (psAV b) (j * 2), .ptr H.length 0] (SU H out T.length) (STp T out) (Is (.tup []) (SU H (out ++ [b.getD j (0, [])]) T.length) (STp T (out ++ [b.getD j (0, [])]))) := by
  have hia := psAV_at b j hj
  have c := cloneI_ok (b.getD j (0, [])).2 hb (SU H out T.length) (STp T out)
  have hps := psAV_snoc out (b.getD j (0, [])).1 (b.getD j (0, [])).2
  rw [show ((b.getD j (0, [])).1, (b.getD j (0, [])).2) = b.getD j (0, []) from rfl] at hps
  generalize b.getD j (0, []) = x at *
  simp only [SU, STp] at c ⊢
  refine acall_enter 3 [] Try.ntmps66 Try.func66 rfl (fun _ _ => Try.call66 _ _) (by simp) (fun HO => ?_)
  refine aw_block ?_
  refine aw_reg fun K hK => ?_; simp (maxSteps := 1000000) (disch := omega) [-List.getD_eq_getElem?_getD]; refine hK _ ?_; clear hK K
  refine aw_if rfl (fun h => ?_) (fun h => absurd h (by simp))
  refine aw_draw0 [12, 13] [0, 0, 0, 0, 0, 0, 0, 0, 0, 0, 0, 0, 0, 1] [[], []] drawMixed (by kernel_rfl) (by kernel_rfl) fun K hK => ?_; simp (maxSteps := 1000000) (disch := omega) [-List.getD_eq_getElem?_getD, hia.1, hia.2, psAV_len, hps, hj]
  refine dcall_is (c) rfl ?_; simp (maxSteps := 1000000) (disch := omega) [-List.getD_eq_getElem?_getD, hia.1, hia.2, psAV_len, hps, hj]
  refine hK _ ?_; clear hK K
  exact ⟨rfl, by simp, by simp⟩

set_option maxRecDepth 100000 in
theorem unAB_ok (a b : PL) (i j : Nat) (hi : i < a.length) (hj : j < b.length) (ha : (a.getD i (0, [])).2.length ≤ 400) (hb : (b.getD j (0, [])).2.length ≤ 400) (out : PL) (ho : out.length ≤ 1000) (H : List Blk) (T : Toks) :
    ACall Try.prog 66 [.vptr (psAV a) (i * 2), .vptr (psAV b) (j * 2), .ptr H.length 0] (SU H out T.length) (STp T out) (Is (.tup []) (SU H (out ++ [((a.getD i (0, [])).1, jn (a.getD i (0, [])).2 (b.getD j (0, [])).2)]) T.length) (STp T (out ++ [((a.getD i (0, [])).1, jn (a.getD i (0, [])).2 (b.getD j (0, [])).2)]))) := by
  have hia := psAV_at a i hi
  have hjb := psAV_at b j hj
  have c := joined_ok (a.getD i (0, [])).2 (b.getD j (0, [])).2 ha hb (SU H out T.length) (STp T out) .none .none
  have hps := psAV_snoc out (a.getD i (0, [])).1 (jn (a.getD i (0, [])).2 (b.getD j (0, [])).2)
  generalize a.getD i (0, []) = x at *
  generalize b.getD j (0, []) = y at *
  generalize jn x.2 y.2 = r at *
  simp only [SU, STp] at c ⊢
  refine acall_enter 3 [] Try.ntmps66 Try.func66 rfl (fun _ _ => Try.call66 _ _) (by simp) (fun HO => ?_)
  refine aw_block ?_
  refine aw_reg fun K hK => ?_; simp (maxSteps := 1000000) (disch := omega) [-List.getD_eq_getElem?_getD]; refine hK _ ?_; clear hK K
  refine aw_if rfl (fun h => absurd h (by simp)) (fun h => ?_)
  refine aw_reg fun K hK => ?_; simp (maxSteps := 1000000) (disch := omega) [-List.getD_eq_getElem?_getD]; refine hK _ ?_; clear hK K
  refine aw_if rfl (fun h => absurd h (by simp)) (fun h => ?_)
  refine aw_draw0 [16, 17] [0, 0, 0, 0, 0, 0, 0, 0, 0, 0, 0, 0, 0, 0, 0, 0, 0, 1] [[], []] drawMixed (by kernel_rfl) (by kernel_rfl) fun K hK => ?_; simp (maxSteps := 1000000) (disch := omega) [-List.getD_eq_getElem?_getD, hia.1, hia.2, hjb.1, hjb.2, psAV_len, hps, hi, hj]
  refine dcall_is (c) rfl ?_; simp (maxSteps := 1000000) (disch := omega) [-List.getD_eq_getElem?_getD, hia.1, hia.2, psAV_len, hps, hi]
  refine hK _ ?_; clear hK K
  exact ⟨rfl, by simp, by simp⟩

def unionL (a b : PL) : PL := if validL a = true ∧ validL b = true then unL a b else []

theorem union_ok (a b : PL) (ha : a.length ≤ 400) (hb : b.length ≤ 400) (hpa : ∀ p ∈ a, p.2.length ≤ 400) (hpb : ∀ p ∈ b, p.2.length ≤ 400) (H : List Blk) (T : Toks) (ta tb : Tag) :
    ACall Try.prog 27 [.sl a.length (psAV a) ta, .sl b.length (psAV b) tb] H T (Is (.sl (unionL a b).length (psAV (unionL a b)) .none) H T) := by
  refine ACall.untag1 (ACall.untag2 ?_)
  refine ACall.drop' ?_ (by simp)
  have hml : 400 ≤ maxLen := by decide
  have c1 := valid_ok a (by omega) (fun p h => Nat.le_trans (hpa p h) hml) (H ++ [.cells [.sl 0 [] .full]]) T .none
  have c2 := valid_ok b (by omega) (fun p h => Nat.le_trans (hpb p h) hml) (H ++ [.cells [.sl 0 [] .full]]) T .none
  refine acall_enter 6 [] Try.ntmps27 Try.func27 rfl (fun _ _ => Try.call27 _ _) (by simp) (fun HO => ?_)
  refine aw_reg fun K hK => ?_; simp (maxSteps := 1000000) (disch := omega) [-List.getD_eq_getElem?_getD]; refine hK _ ?_; clear hK K
  refine aw_reg fun K hK => ?_; simp (maxSteps := 1000000) (disch := omega) [-List.getD_eq_getElem?_getD]; refine hK _ ?_; clear hK K
  refine aw_then fun K1 hK1 => ?_
  cases hva : validL a with
  | false =>
    rw [hva] at c1
    refine aw_reg fun K hK => ?_; simp (maxSteps := 1000000) (disch := omega) [-List.getD_eq_getElem?_getD]
    refine acall_is (c1) ?_; simp (maxSteps := 1000000) (disch := omega) [-List.getD_eq_getElem?_getD]
    refine hK _ ?_; clear hK K
    refine aw_if rfl (fun h => ?_) (fun h => absurd h (by simp))
    refine aw_reg fun K hK => ?_; simp (maxSteps := 1000000) (disch := omega) [-List.getD_eq_getElem?_getD]; refine hK _ ?_; clear hK K
    refine aw_ret ?_; simp (maxSteps := 1000000) (disch := omega) [-List.getD_eq_getElem?_getD]
    simp [unionL, hva, psAV]
  | true =>
    rw [hva] at c1
    cases hvb : validL b with
    | false =>
      rw [hvb] at c2
      refine aw_reg fun K hK => ?_; simp (maxSteps := 1000000) (disch := omega) [-List.getD_eq_getElem?_getD]
      refine acall_is (c1) ?_; simp (maxSteps := 1000000) (disch := omega) [-List.getD_eq_getElem?_getD]
      refine acall_is (c2) ?_; simp (maxSteps := 1000000) (disch := omega) [-List.getD_eq_getElem?_getD]
      refine hK _ ?_; clear hK K
      refine aw_if rfl (fun h => ?_) (fun h => absurd h (by simp))
      refine aw_reg fun K hK => ?_; simp (maxSteps := 1000000) (disch := omega) [-List.getD_eq_getElem?_getD]; refine hK _ ?_; clear hK K
      refine aw_ret ?_; simp (maxSteps := 1000000) (disch := omega) [-List.getD_eq_getElem?_getD]
      simp [unionL, hvb, psAV]
    | true =>
      rw [hvb] at c2
      obtain ⟨a1, a2, a3⟩ := validL_iff hva
      obtain ⟨e1, e2, e3⟩ := validL_iff hvb
      have hr : unionL a b = unL a b := by unfold unionL; rw [if_pos ⟨hva, hvb⟩]
      have hres : MP (fun o x => o ++ [x]) (fun o y => o ++ [y]) (fun o x y => o ++ [(x.1, jn x.2 y.2)]) a b (a.length + b.length) 0 0 [] = unL a b := mgP_unL a1 e1 (fun p hp => (a3 p hp).2.1) (fun p hp => (e3 p hp).2.1)
      have c := mergeP_ok (β := PL) 66 [.ptr H.length 0] (fun o x => o ++ [x]) (fun o y => o ++ [y]) (fun o x y => o ++ [(x.1, jn x.2 y.2)])
        (fun o => SU H o T.length) (fun o => STp T o) (fun n o => o.length ≤ n) (H.length + 1) (T.length + 1) [] a b ha hb (fun o => SU_len _ _ _) (fun o => STp_len _ _) (by simp)
        (fun n o _ => hok_SU HO o) (Nat.zero_le _)
        (fun n i o hi hn h => unA_ok a i hi (by have := hpa _ (memD a i (0, []) hi); omega) o (by omega) H T) (fun n j o hj hn h => unB_ok b j hj (by have := hpb _ (memD b j (0, []) hj); omega) o (by omega) H T)
        (fun n i j o hi hj hn h => unAB_ok a b i j hi hj (hpa _ (memD a i _ hi)) (hpb _ (memD b j _ hj)) o (by omega) H T)
        (fun n i o _ h => by simp; omega) (fun n j o _ h => by simp; omega) (fun n i j o _ _ h => by simp; omega)
      rw [hres, ← hr] at c
      generalize unionL a b = r at *
      have k1 : (SU H r T.length)[H.length]? = some (.cells [.sl r.length (psAV r) (.own T.length)]) := by simp [SU]
      have hH : ∃ rH, SU H r T.length = H ++ rH := ⟨_, rfl⟩
      have hT : ∃ rT, STp T r = T ++ rT := ⟨_, rfl⟩
      refine aw_reg fun K hK => ?_; simp (maxSteps := 1000000) (disch := omega) [-List.getD_eq_getElem?_getD]
      refine acall_is (c1) ?_; simp (maxSteps := 1000000) (disch := omega) [-List.getD_eq_getElem?_getD]
      refine acall_is (c2) ?_; simp (maxSteps := 1000000) (disch := omega) [-List.getD_eq_getElem?_getD]
      refine hK _ ?_; clear hK K
      refine aw_if rfl (fun h => absurd h (by simp)) (fun h => ?_)
      refine aw_skip ?_; simp (maxSteps := 1000000) (disch := omega) [-List.getD_eq_getElem?_getD]
      refine hK1 _ ?_; clear hK1
      refine aw_ownB 2 H 0 [] (by omega) (by simp) ?_
      refine aw_reg fun K hK => ?_; simp (maxSteps := 1000000) (disch := omega) [-List.getD_eq_getElem?_getD]
      refine acall_is (c) ?_; simp (maxSteps := 1000000) (disch := omega) [-List.getD_eq_getElem?_getD]
      refine hK _ ?_; clear hK K
      refine aw_reg fun K hK => ?_; simp (maxSteps := 1000000) (disch := omega) [-List.getD_eq_getElem?_getD, k1]; refine hK _ ?_; clear hK K
      refine aw_ret ?_; simp (maxSteps := 1000000) (disch := omega) [-List.getD_eq_getElem?_getD]
      exact ⟨hH, hT⟩
end Go.Proofs.Ytlijaamjcpefoaa

/- Union of the reference of layer 38. -/
namespace Go.Proofs.Ytlijaamjcpefoaa
open Go Go.Am Post
set_option linter.unusedVariables false

set_option maxRecDepth 100000 in
theorem unionR_ok (a b : PL) (ha : a.length ≤ 200) (hb : b.length ≤ 200) (hpa : ∀ p ∈ a, p.2.length ≤ 400) (hpb : ∀ p ∈ b, p.2.length ≤ 400) (H : List Blk) (T : Toks) (ta tb : Tag) :
    ACall Try.prog 28 [.sl a.length (psAV a) ta, .sl b.length (psAV b) tb] H T (Is (.sl (unionL a b).length (psAV (unionL a b)) .none) H T) := by
  refine ACall.untag1 (ACall.untag2 ?_)
  refine ACall.drop' ?_ (by simp)
  have hml : 400 ≤ maxLen := by decide
  have c1 := validR_ok a (by omega) (fun p h => Nat.le_trans (hpa p h) hml) H T .none
  have c2 := validR_ok b (by omega) (fun p h => Nat.le_trans (hpb p h) hml) H T .none
  refine acall_enter 8 [] Try.ntmps28 Try.func28 rfl (fun _ _ => Try.call28 _ _) (by simp) (fun HO => ?_)
  refine aw_reg fun K hK => ?_; simp (maxSteps := 1000000) (disch := omega) [-List.getD_eq_getElem?_getD]; refine hK _ ?_; clear hK K
  refine aw_then fun K1 hK1 => ?_
  cases hva : validL a with
  | false =>
    rw [hva] at c1
    refine aw_reg fun K hK => ?_; simp (maxSteps := 1000000) (disch := omega) [-List.getD_eq_getElem?_getD]
    refine acall_is (c1) ?_; simp (maxSteps := 1000000) (disch := omega) [-List.getD_eq_getElem?_getD]
    refine hK _ ?_; clear hK K
    refine aw_if rfl (fun h => ?_) (fun h => absurd h (by simp))
    refine aw_reg fun K hK => ?_; simp (maxSteps := 1000000) (disch := omega) [-List.getD_eq_getElem?_getD]; refine hK _ ?_; clear hK K
    refine aw_ret ?_; simp (maxSteps := 1000000) (disch := omega) [-List.getD_eq_getElem?_getD]
    simp [unionL, hva, psAV]
  | true =>
    rw [hva] at c1
    cases hvb : validL b with
    | false =>
      rw [hvb] at c2
      refine aw_reg fun K hK => ?_; simp (maxSteps := 1000000) (disch := omega) [-List.getD_eq_getElem?_getD]
      refine acall_is (c1) ?_; simp (maxSteps := 1000000) (disch := omega) [-List.getD_eq_getElem?_getD]
      refine acall_is (c2) ?_; simp (maxSteps := 1000000) (disch := omega) [-List.getD_eq_getElem?_getD]
      refine hK _ ?_; clear hK K
      refine aw_if rfl (fun h => ?_) (fun h => absurd h (by simp))
      refine aw_reg fun K hK => ?_; simp (maxSteps := 1000000) (disch := omega) [-List.getD_eq_getElem?_getD]; refine hK _ ?_; clear hK K
      refine aw_ret ?_; simp (maxSteps := 1000000) (disch := omega) [-List.getD_eq_getElem?_getD]
      simp [unionL, hvb, psAV]
    | true =>
      rw [hvb] at c2
      have hr : unionL a b = (jn (docs a) (docs b)).map (un1 a b) := by unfold unionL; rw [if_pos ⟨hva, hvb⟩]; rfl
      have hda : (docs a).length = a.length := by simp [docs]
      have hdb : (docs b).length = b.length := by simp [docs]
      have c3 := docsR_ok a (by omega) H T .none
      have c4 := docsR_ok b (by omega) H T .none
      have c5 := merged_ok (docs a) (docs b) (by omega) (by omega) H T .none .none
      rw [hda, hdb] at c5
      have hjl := jn_len (docs a) (docs b)
      rw [hda, hdb] at hjl
      rw [show MG (fun _ _ => true) (docs a) (docs b) (a.length + b.length) 0 0 [] = jn (docs a) (docs b) by unfold jn; rw [hda, hdb]] at c5
      generalize jn (docs a) (docs b) = l at *
      obtain ⟨L, hL⟩ : ∃ L, L = l.map (un1 a b) := ⟨_, rfl⟩
      have hLl : L.length = l.length := by rw [hL]; simp
      have hLg : ∀ k, k < l.length → L.getD k (0, []) = un1 a b (l.getD k 0) := fun k hk => by
        rw [hL, List.getD_eq_getElem?_getD, List.getD_eq_getElem?_getD, List.getElem?_map, List.getElem?_eq_getElem hk]
        rfl
      rw [← hL] at hr
      clear hL
      refine aw_reg fun K hK => ?_; simp (maxSteps := 1000000) (disch := omega) [-List.getD_eq_getElem?_getD]
      refine acall_is (c1) ?_; simp (maxSteps := 1000000) (disch := omega) [-List.getD_eq_getElem?_getD]
      refine acall_is (c2) ?_; simp (maxSteps := 1000000) (disch := omega) [-List.getD_eq_getElem?_getD]
      refine hK _ ?_; clear hK K
      refine aw_if rfl (fun h => absurd h (by simp)) (fun h => ?_)
      refine aw_skip ?_; simp (maxSteps := 1000000) (disch := omega) [-List.getD_eq_getElem?_getD]
      refine hK1 _ ?_; clear hK1
      refine aw_reg fun K hK => ?_; simp (maxSteps := 1000000) (disch := omega) [-List.getD_eq_getElem?_getD]; refine hK _ ?_; clear hK K
      refine aw_reg fun K hK => ?_; simp (maxSteps := 1000000) (disch := omega) [-List.getD_eq_getElem?_getD]
      refine acall_is (c3) ?_; simp (maxSteps := 1000000) (disch := omega) [-List.getD_eq_getElem?_getD]
      refine acall_is (c4) ?_; simp (maxSteps := 1000000) (disch := omega) [-List.getD_eq_getElem?_getD]
      refine acall_is (c5) ?_; simp (maxSteps := 1000000) (disch := omega) [-List.getD_eq_getElem?_getD]
      refine hK _ ?_; clear hK K
      refine aw_then fun K1 hK1 => ?_
      refine aw_reg fun K hK => ?_; simp (maxSteps := 1000000) (disch := omega) [-List.getD_eq_getElem?_getD]; refine hK _ ?_; clear hK K
      refine aw_block ?_
      refine aw_own 5 0 2 [] (by omega) (by simp) ?_
      refine aw_loop (X := Nat) (fun k => ⟨[(0, .sl a.length (psAV a) .none), (1, .sl b.length (psAV b) .none), (5, .sl k (psAV (L.take k)) (.own T.length)), (6, .sl l.length (ints l) .none), (7, .int .i64 (k : Nat))], H, T ++ [(k * 2, 2)]⟩) (fun k => k ≤ l.length) (fun k => l.length - k) 0 ?_ ?_ ?_
      · exact Nat.zero_le _
      · refine weak_to [] [] ?_ ?_ ?_ ?_ (HO.toks (by simp)) ?_
        all_goals simp [psAV_nil]
      · intro k hk0
        refine aw_then fun K2 hK2 => ?_
        refine aw_reg fun K hK => ?_; simp (maxSteps := 1000000) (disch := omega) [-List.getD_eq_getElem?_getD]; refine hK _ ?_; clear hK K
        refine aw_if rfl (fun hk => ?_) (fun hk => ?_)
        · simp [-List.getD_eq_getElem?_getD] at hk
          have hgk := getD_ints (xs := l) (k := k) hk
          have hst := psAV_take L k (by omega)
          rw [hLg k hk] at hst
          have htl : (psAV (L.take k)).length = k * 2 := by rw [psAV_len, List.length_take]; omega
          generalize l.getD k 0 = d at *
          have c6 := atR_ok a d (by omega) H (T ++ [(k * 2, 2)]) .none
          have c7 := atR_ok b d (by omega) H (T ++ [(k * 2, 2)]) .none
          have c8 := merged_ok (posOf a d) (posOf b d) (posOf_len hpa d) (posOf_len hpb d) H (T ++ [(k * 2, 2)]) .none .none
          have hj : MG (fun _ _ => true) (posOf a d) (posOf b d) ((posOf a d).length + (posOf b d).length) 0 0 [] = jn (posOf a d) (posOf b d) := rfl
          rw [hj] at c8
          have hst' : psAV (L.take k) ++ [.int .i64 d, .sl (jn (posOf a d) (posOf b d)).length (ints (jn (posOf a d) (posOf b d))) .none] = psAV (L.take (k + 1)) := hst
          generalize jn (posOf a d) (posOf b d) = r at *
          generalize posOf a d = pa at *
          generalize posOf b d = pb at *
          refine aw_skip ?_; simp (maxSteps := 1000000) (disch := omega) [-List.getD_eq_getElem?_getD]
          refine hK2 _ ?_; clear hK2
          refine aw_then fun K3 hK3 => ?_
          refine aw_block ?_
          refine aw_draw0 [20] [0, 0, 0, 0, 0, 0, 0, 0, 0, 0, 0, 0, 0, 0, 0, 0, 0, 0, 0, 0, 0, 1] [[]] drawMixed (by kernel_rfl) (by kernel_rfl) fun K hK => ?_; simp (maxSteps := 1000000) (disch := omega) [-List.getD_eq_getElem?_getD, hgk, hk, htl, psAV_len, hst']
          refine dcall_is (c6) rfl ?_; simp (maxSteps := 1000000) (disch := omega) [-List.getD_eq_getElem?_getD, hgk, hk]
          refine dcall_is (c7) rfl ?_; simp (maxSteps := 1000000) (disch := omega) [-List.getD_eq_getElem?_getD]
          refine dcall_is (c8) rfl ?_; simp (maxSteps := 1000000) (disch := omega) [-List.getD_eq_getElem?_getD, htl, psAV_len, hst']
          refine hK _ ?_; clear hK K
          refine hK3 _ ?_; clear hK3
          refine aw_reg0 fun K hK => ?_; simp (maxSteps := 1000000) (disch := omega) [-List.getD_eq_getElem?_getD]
          refine hK _ ?_; clear hK K
          refine ⟨k + 1, by show k + 1 ≤ _; omega, by show l.length - (k + 1) < l.length - k; omega, ?_⟩
          refine weak_to [] [] ?_ ?_ ?_ ?_ (HO.toks (by simp)) ?_
          all_goals simp
        · simp at hk
          have : k = l.length := by omega
          subst this
          refine aw_exit ?_; simp (maxSteps := 1000000) (disch := omega) [-List.getD_eq_getElem?_getD]
          refine hK1 _ ?_; clear hK1
          refine aw_reg fun K hK => ?_; simp (maxSteps := 1000000) (disch := omega) [-List.getD_eq_getElem?_getD]; refine hK _ ?_; clear hK K
          refine aw_ret ?_; simp (maxSteps := 1000000) (disch := omega) [-List.getD_eq_getElem?_getD]
          rw [hr, ← hLl, List.take_length]
          simp
end Go.Proofs.Ytlijaamjcpefoaa
