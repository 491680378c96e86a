/- And, Or, Without obey the laws of sets.
   Conditions: none. -/
import Derived.Test.YtlijaamjcpefoaaPWk1
namespace Go.Proofs.Ytlijaamjcpefoaa
open Go Go.Am Post
set_option linter.unusedVariables false

def V (l : List Int) : Prop := asc l 1 1000000000 = true

theorem asc_bounds {l : List Int} {lo hi : Int} (h : asc l lo hi = true) : ∀ q ∈ l, lo ≤ q ∧ q ≤ hi := fun q hq => by
  obtain ⟨j, hj, e⟩ := memD_inv 0 hq
  unfold asc at h
  rw [List.all_eq_true] at h
  have := h j (by simpa using hj)
  unfold ascAt at this
  simp only [Bool.and_eq_true, decide_eq_true_eq] at this
  rw [e] at this
  exact this.1
theorem asc_of {l : List Int} {lo hi : Int} (h : Asc l) (hb : ∀ q ∈ l, lo ≤ q ∧ q ≤ hi) : asc l lo hi = true := by
  refine asc_all fun j hj => ?_
  have hbj := hb _ (memD l j 0 hj)
  unfold ascAt
  simp only [Bool.and_eq_true, decide_eq_true_eq, Bool.or_eq_true]
  refine ⟨hbj, ?_⟩
  rcases Nat.eq_zero_or_pos j with h0 | h0
  · exact .inl h0
  · exact .inr (asc_get h (by omega) hj)

theorem comb_spec (kf : Bool → Bool → Bool) {a b : List Int} (ha : V a) (hb : V b) : Asc (comb kf a b) ∧ ∀ z, z ∈ comb kf a b ↔ (z ∈ a ∧ z ∉ b ∧ kf true false = true) ∨ (z ∈ b ∧ z ∉ a ∧ kf false true = true) ∨ (z ∈ a ∧ z ∈ b ∧ kf true true = true) := by
  obtain ⟨_, g2, g3⟩ := mg_keep (kf true false) (kf false true) (kf true true) (a.length + b.length) a b [] (Nat.le_refl _) (asc_pair ha) (asc_pair hb)
  have e : comb kf a b = mgN (fun o x => if kf true false then o ++ [x] else o) (fun o x => if kf false true then o ++ [x] else o) (fun o x => if kf true true then o ++ [x] else o) (a.length + b.length) a b [] := by
    unfold comb
    rw [if_pos ⟨ha, hb⟩]
    rfl
  rw [e]
  exact ⟨g3, g2⟩
theorem comb_V (kf : Bool → Bool → Bool) {a b : List Int} (ha : V a) (hb : V b) : V (comb kf a b) := by
  obtain ⟨g1, g2⟩ := comb_spec kf ha hb
  refine asc_of g1 fun q hq => ?_
  rcases (g2 q).1 hq with h | h | h
  · exact asc_bounds ha q h.1
  · exact asc_bounds hb q h.1
  · exact asc_bounds ha q h.1
def An (a b : List Int) : List Int := comb (fun p q => p && q) a b
def Orr (a b : List Int) : List Int := comb (fun _ _ => true) a b
def Wo (a b : List Int) : List Int := comb (fun _ q => !q) a b
theorem An_V {a b : List Int} (ha : V a) (hb : V b) : V (An a b) := comb_V _ ha hb
theorem Orr_V {a b : List Int} (ha : V a) (hb : V b) : V (Orr a b) := comb_V _ ha hb
theorem Wo_V {a b : List Int} (ha : V a) (hb : V b) : V (Wo a b) := comb_V _ ha hb
theorem An_mem {a b : List Int} (ha : V a) (hb : V b) (z : Int) : z ∈ An a b ↔ z ∈ a ∧ z ∈ b := by
  refine ((comb_spec _ ha hb).2 z).trans ?_
  simp
theorem Orr_mem {a b : List Int} (ha : V a) (hb : V b) (z : Int) : z ∈ Orr a b ↔ z ∈ a ∨ z ∈ b := by
  refine ((comb_spec _ ha hb).2 z).trans ?_
  by_cases h1 : z ∈ a <;> by_cases h2 : z ∈ b <;> simp [h1, h2]
theorem Wo_mem {a b : List Int} (ha : V a) (hb : V b) (z : Int) : z ∈ Wo a b ↔ z ∈ a ∧ ¬ z ∈ b := by
  refine ((comb_spec _ ha hb).2 z).trans ?_
  simp
theorem V_ext {a b : List Int} (ha : V a) (hb : V b) (h : ∀ z, z ∈ a ↔ z ∈ b) : a = b := asc_ext _ _ (asc_pair ha) (asc_pair hb) h

section
variable {a b c : List Int} (ha : V a) (hb : V b) (hc : V c)
include ha hb
theorem al1 : An b a = An a b := V_ext (An_V hb ha) (An_V ha hb) fun z => by rw [An_mem hb ha, An_mem ha hb]; exact And.comm
theorem al2 : Orr b a = Orr a b := V_ext (Orr_V hb ha) (Orr_V ha hb) fun z => by rw [Orr_mem hb ha, Orr_mem ha hb]; exact Or.comm
theorem al6 : Orr (An a b) (Wo a b) = a := V_ext (Orr_V (An_V ha hb) (Wo_V ha hb)) ha fun z => by
  rw [Orr_mem (An_V ha hb) (Wo_V ha hb), An_mem ha hb, Wo_mem ha hb]
  by_cases h2 : z ∈ b <;> simp [h2]
theorem al7 : An (An a b) (Wo a b) = [] := by
  apply List.eq_nil_iff_forall_not_mem.2
  intro z hz
  rw [An_mem (An_V ha hb) (Wo_V ha hb), An_mem ha hb, Wo_mem ha hb] at hz
  exact hz.2.2 hz.1.2
theorem al8 : Orr (Wo a b) b = Orr a b := V_ext (Orr_V (Wo_V ha hb) hb) (Orr_V ha hb) fun z => by
  rw [Orr_mem (Wo_V ha hb) hb, Orr_mem ha hb, Wo_mem ha hb]
  by_cases h2 : z ∈ b <;> simp [h2]
include hc
theorem al3 : An a (An b c) = An (An a b) c := V_ext (An_V ha (An_V hb hc)) (An_V (An_V ha hb) hc) fun z => by
  rw [An_mem ha (An_V hb hc), An_mem (An_V ha hb) hc, An_mem ha hb, An_mem hb hc]
  exact and_assoc.symm
theorem al4 : Orr a (Orr b c) = Orr (Orr a b) c := V_ext (Orr_V ha (Orr_V hb hc)) (Orr_V (Orr_V ha hb) hc) fun z => by
  rw [Orr_mem ha (Orr_V hb hc), Orr_mem (Orr_V ha hb) hc, Orr_mem ha hb, Orr_mem hb hc]
  exact or_assoc.symm
theorem al5 : Orr (An a c) (An b c) = An (Orr a b) c := V_ext (Orr_V (An_V ha hc) (An_V hb hc)) (An_V (Orr_V ha hb) hc) fun z => by
  rw [Orr_mem (An_V ha hc) (An_V hb hc), An_mem (Orr_V ha hb) hc, Orr_mem ha hb, An_mem ha hc, An_mem hb hc]
  exact or_and_right.symm
end
end Go.Proofs.Ytlijaamjcpefoaa
