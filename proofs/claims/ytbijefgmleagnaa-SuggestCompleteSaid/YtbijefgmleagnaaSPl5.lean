/- As many words begin with a prefix as with its continuations by one byte, and the prefix itself (layer 43).
   Conditions: none. -/
import Derived.Test.YtbijefgmleagnaaSFn12
import Derived.Test.YtbijefgmleagnaaSPl3
namespace Sug
open Go.Proofs.Ytbijefgmleagnaa
def nKeep (l : List Ent) (p : Str) : Nat := (keepE p l).length
def sumTo (l : List Ent) (p : Str) : Nat → Nat
  | 0 => 0
  | n + 1 => sumTo l p n + nKeep l (p ++ [UInt8.ofNat n])
def hitC (p : Str) (n : Nat) (w : Str) : Nat := if hasP p w = true ∧ p.length < w.length ∧ (w.getD p.length 0).toNat < n then 1 else 0

theorem hasP_snoc (p : Str) (c : UInt8) (w : Str) : hasP (p ++ [c]) w = (hasP p w && decide (p.length < w.length) && (w.getD p.length 0 == c)) := by
  by_cases hl : p.length < w.length
  · have h1 : w.take (p.length + 1) = w.take p.length ++ [w.getD p.length 0] := by
      rw [List.take_succ_eq_append_getElem hl, List.getD_eq_getElem?_getD, List.getElem?_eq_getElem hl]
      rfl
    have h2 : (w.take p.length).length = p.length := by rw [List.length_take]; omega
    simp only [hasP, List.length_append, List.length_singleton, h1]
    rw [decide_eq_true (by omega : p.length + 1 ≤ w.length), decide_eq_true (by omega : p.length ≤ w.length), decide_eq_true hl]
    simp only [Bool.true_and, Bool.and_true]
    rw [Bool.eq_iff_iff, Bool.and_eq_true, beq_iff_eq, beq_iff_eq, beq_iff_eq]
    constructor
    · intro h
      have := List.append_inj h h2
      exact ⟨this.1, by simpa using this.2⟩
    · rintro ⟨e1, e2⟩
      rw [e1, e2]
  · rw [decide_eq_false hl, Bool.and_false, Bool.false_and]
    simp only [hasP, List.length_append, List.length_singleton]
    rw [decide_eq_false (by omega), Bool.false_and]

theorem nKeep_count (l : List Ent) (p : Str) : nKeep l p = l.countP fun e => hasP p e.1 := by
  rw [nKeep, keepE, List.countP_eq_length_filter]
theorem sumTo_eq (l : List Ent) (p : Str) : ∀ n, n ≤ 256 → sumTo l p n = l.countP fun e => hasP p e.1 && decide (p.length < e.1.length) && decide ((e.1.getD p.length 0).toNat < n)
  | 0, _ => by
    rw [sumTo]
    symm
    rw [List.countP_eq_zero]
    intro e _
    simp
  | n + 1, hn => by
    rw [sumTo, sumTo_eq l p n (by omega), nKeep_count]
    induction l with
    | nil => rfl
    | cons e r ih =>
      simp only [List.countP_cons]
      have key : ∀ b1 b2 : Bool, (if (b1 && b2 && decide ((e.1.getD p.length 0).toNat < n)) = true then 1 else 0) + (if (b1 && b2 && (e.1.getD p.length 0 == UInt8.ofNat n)) = true then 1 else 0) = (if (b1 && b2 && decide ((e.1.getD p.length 0).toNat < n + 1)) = true then 1 else 0) := by
        intro b1 b2
        have hb : (e.1.getD p.length 0 == UInt8.ofNat n) = decide ((e.1.getD p.length 0).toNat = n) := by
          rw [Bool.eq_iff_iff, beq_iff_eq, decide_eq_true_eq]
          constructor
          · intro h; rw [h, UInt8.toNat_ofNat']; omega
          · intro h; rw [← h]; exact (UInt8.ofNat_toNat).symm
        rw [hb]
        cases b1 <;> cases b2 <;> simp only [Bool.true_and, Bool.false_and, Bool.false_eq_true, if_false, decide_eq_true_eq]
        split
        · split
          · omega
          · rw [if_pos (by omega)]
        · split
          · rw [if_pos (by omega)]
          · rw [if_neg (by omega)]
      have k2 := key (hasP p e.1) (decide (p.length < e.1.length))
      rw [hasP_snoc, ← k2]
      omega

theorem once {l : List Ent} (h : l.Pairwise fun a b => a.1 ≠ b.1) (p : Str) : l.countP (fun e => e.1 == p) ≤ 1 := by
  induction l with
  | nil => simp
  | cons e r ih =>
    have h1 := List.pairwise_cons.1 h
    rw [List.countP_cons]
    by_cases he : e.1 = p
    · have : r.countP (fun e => e.1 == p) = 0 := by
        rw [List.countP_eq_zero]
        intro x hx hxp
        exact h1.1 x hx (by rw [he]; exact (by simpa using hxp : x.1 = p).symm)
      rw [this]
      split <;> omega
    · rw [if_neg (by simpa using he)]
      exact ih h1.2
theorem whole_or_more (l : List Ent) (p : Str) : (l.countP fun e => hasP p e.1) = (l.countP fun e => hasP p e.1 && decide (p.length < e.1.length) && decide ((e.1.getD p.length 0).toNat < 256)) + l.countP (fun e => e.1 == p) := by
  induction l with
  | nil => rfl
  | cons e r ih =>
    simp only [List.countP_cons]
    have hb : decide ((e.1.getD p.length 0).toNat < 256) = true := decide_eq_true (UInt8.toNat_lt _)
    rw [hb, Bool.and_true]
    have key : (if hasP p e.1 = true then 1 else 0) = (if (hasP p e.1 && decide (p.length < e.1.length)) = true then 1 else 0) + (if (e.1 == p) = true then 1 else 0) := by
      by_cases he : e.1 = p
      · have h1 : hasP p e.1 = true := by rw [he]; simp [hasP]
        rw [h1, he]
        simp
      · have h2 : (e.1 == p) = false := by simpa using he
        rw [h2]
        cases h3 : hasP p e.1 with
        | false => simp
        | true =>
          obtain ⟨s, hs⟩ := hasP_app h3
          have hlt : p.length < e.1.length := by
            rw [hs, List.length_append]
            cases s with
            | nil => exact absurd (by rw [hs, List.append_nil]) he
            | cons x t => simp
          rw [decide_eq_true hlt]
          simp
    rw [key]
    have ih' := ih
    simp only [hb] at *
    omega

/-- All continuations, and the prefix itself. -/
theorem sum_all {l : List Ent} (hv : validE l = true) (p : Str) : sumTo l p 256 + (if 0 < countE l p then 1 else 0) = nKeep l p := by
  rw [sumTo_eq l p 256 (Nat.le_refl _), nKeep_count, whole_or_more]
  congr 1
  have h1 := once (valid_words hv) p
  split
  · rename_i h
    obtain ⟨e, he, e1⟩ := count_mem h
    have : 0 < l.countP (fun e => e.1 == p) := List.countP_pos_iff.2 ⟨e, he, by simpa using e1⟩
    omega
  · rename_i h
    symm
    rw [List.countP_eq_zero]
    intro e he hep
    have : e.1 = p := by simpa using hep
    exact h (by rw [← this]; exact count_pos hv he)
end Sug
