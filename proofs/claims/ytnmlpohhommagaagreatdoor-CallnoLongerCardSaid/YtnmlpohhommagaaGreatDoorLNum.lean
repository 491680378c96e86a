/- Decimal numerals: what they are made of, and that they are read back.
   Conditions: none. -/
import Derived.Lib.AtoiAll
import Derived.Lib.ItoaNum
namespace Go.Lib
theorem dec_ne (u : Nat) : decDigits u ≠ [] := by
  rw [decDigits]
  split <;> simp
theorem dec_mem : ∀ (u : Nat) {c : UInt8}, c ∈ decDigits u → 48 ≤ c.toNat ∧ c.toNat ≤ 57 := by
  intro u
  induction u using Nat.strongRecOn with
  | ind u ih =>
    intro c h
    rw [decDigits] at h
    split at h
    · rename_i h1
      rw [List.mem_singleton] at h
      subst h
      rw [UInt8.toNat_ofNat']
      omega
    · rename_i h1
      rw [List.mem_append] at h
      rcases h with h | h
      · exact ih (u / 10) (by omega) h
      · rw [List.mem_singleton] at h
        subst h
        rw [UInt8.toNat_ofNat']
        omega
theorem parse_app (a b : List UInt8) : ∀ (acc u : Nat), parseUint10 acc a = .ok u → parseUint10 acc (a ++ b) = parseUint10 u b := by
  induction a with
  | nil => intro acc u h; simp only [parseUint10] at h; injection h with h; subst h; rfl
  | cons c r ih =>
    intro acc u h
    rw [List.cons_append]
    simp only [parseUint10] at h ⊢
    split at h
    · rename_i h1
      rw [if_pos h1]
      split at h
      · cases h
      · rename_i h2
        rw [if_neg h2]
        split at h
        · cases h
        · rename_i h3
          rw [if_neg h3]
          exact ih _ _ h
    · cases h
theorem parse_one {acc d : Nat} (hd : d < 10) (ha : acc ≤ 922337203685477580) : parseUint10 acc [UInt8.ofNat (48 + d)] = .ok (acc * 10 + d) := by
  have e : (UInt8.ofNat (48 + d)).toNat = 48 + d := by rw [UInt8.toNat_ofNat']; omega
  simp only [parseUint10, e]
  rw [if_pos (by omega), if_neg (by omega), if_neg (by omega)]
  congr 1
  omega
theorem parse_dec : ∀ (u : Nat), u ≤ 9223372036854775807 → parseUint10 0 (decDigits u) = .ok u := by
  intro u
  induction u using Nat.strongRecOn with
  | ind u ih =>
    intro hu
    rw [decDigits]
    split
    · rename_i h1
      rw [parse_one h1 (by omega)]
      congr 1
      omega
    · rename_i h1
      rw [parse_app _ _ _ _ (ih (u / 10) (by omega) (by omega)), parse_one (by omega) (by omega)]
      congr 1
      omega
theorem atoi_dec {u : Nat} (hu : u ≤ 9223372036854775807) : atoiAll (decDigits u) = .ok (u : Int) := by
  have h1 := parse_dec u hu
  have h2 := dec_ne u
  have h3 := fun c (h : c ∈ decDigits u) => dec_mem u h
  generalize decDigits u = l at *
  match l, h2 with
  | c :: r, _ =>
    have h4 := h3 c (by simp)
    unfold atoiAll
    simp only
    rw [if_neg (by omega)]
    unfold parseMag
    rw [if_neg (by simp), h1]
    simp only
    rw [if_neg (by omega), if_neg (by omega), if_neg (by omega)]
theorem dec_inj {u v : Nat} (hu : u ≤ 9223372036854775807) (hv : v ≤ 9223372036854775807) (h : decDigits u = decDigits v) : u = v := by
  have h1 := atoi_dec hu
  rw [h, atoi_dec hv] at h1
  injection h1 with h1
  omega
/-- The first digit is no zero, but for the number zero. -/
theorem dec_head : ∀ (u : Nat), (decDigits u).head? ≠ some 48 ∨ decDigits u = [48] := by
  intro u
  induction u using Nat.strongRecOn with
  | ind u ih =>
    rw [decDigits]
    split
    · rename_i h1
      by_cases h0 : u = 0
      · subst h0; exact .inr rfl
      · refine .inl (fun h => ?_)
        have h := Option.some.inj h
        have := congrArg UInt8.toNat h
        rw [UInt8.toNat_ofNat'] at this
        have e : (48 : UInt8).toNat = 48 := rfl
        omega
    · rename_i h1
      refine .inl ?_
      have h2 := dec_ne (u / 10)
      rcases ih (u / 10) (by omega) with h | h
      · generalize decDigits (u / 10) = l at *
        match l, h2 with
        | c :: r, _ => simpa using h
      · exfalso
        have h3 : u / 10 = 0 := by
          rcases Nat.lt_or_ge (u / 10) 10 with hlt | hge
          · rw [decDigits, dif_pos hlt] at h
            have h := (List.cons.inj h).1
            have := congrArg UInt8.toNat h
            rw [UInt8.toNat_ofNat'] at this
            have e : (48 : UInt8).toNat = 48 := rfl
            omega
          · rw [decDigits, dif_neg (by omega)] at h
            have := congrArg List.length h
            have h4 := List.length_pos_iff.2 (dec_ne (u / 10 / 10))
            rw [List.length_append] at this
            simp only [List.length_singleton] at this
            omega
        omega
/-- The number that digits spell. -/
def numV (l : List UInt8) : Nat := l.foldl (fun n c => 10 * n + (c.toNat - 48)) 0
theorem numV_snoc (l : List UInt8) (c : UInt8) : numV (l ++ [c]) = 10 * numV l + (c.toNat - 48) := by simp [numV]
theorem numV_dec : ∀ (u : Nat), numV (decDigits u) = u := by
  intro u
  induction u using Nat.strongRecOn with
  | ind u ih =>
    rw [decDigits]
    split
    · rename_i h1
      show 10 * 0 + ((UInt8.ofNat (48 + u)).toNat - 48) = u
      rw [UInt8.toNat_ofNat']
      omega
    · rename_i h1
      rw [numV_snoc, ih (u / 10) (by omega), UInt8.toNat_ofNat']
      omega
theorem numV_lt : ∀ (l : List UInt8), (∀ c ∈ l, c.toNat ≤ 57) → numV l < 10 ^ l.length := by
  intro l
  generalize hn : l.length = n
  induction n generalizing l with
  | zero => intro h; have : l = [] := List.length_eq_zero_iff.1 hn; subst this; simp [numV]
  | succ n ih =>
    intro h
    rcases List.eq_nil_or_concat l with rfl | ⟨r, c, rfl⟩
    · simp at hn
    · rw [List.concat_eq_append] at *
      rw [numV_snoc, Nat.pow_succ]
      have := ih r (by simpa using hn) fun x hx => h x (by simp [hx])
      have := h c (by simp)
      omega
/-- Digits are read as the number that they spell. -/
theorem parse_all : ∀ (n : Nat) (l : List UInt8), l.length = n → n ≤ 18 → (∀ c ∈ l, 48 ≤ c.toNat ∧ c.toNat ≤ 57) → parseUint10 0 l = .ok (numV l) := by
  intro n
  induction n with
  | zero => intro l h _ _; have : l = [] := List.length_eq_zero_iff.1 h; subst this; rfl
  | succ n ih =>
    intro l h hn hd
    rcases List.eq_nil_or_concat l with rfl | ⟨r, c, rfl⟩
    · simp at h
    · rw [List.concat_eq_append] at *
      have hr : r.length = n := by simpa using h
      have h1 := ih r hr (by omega) fun x hx => hd x (by simp [hx])
      have h2 := hd c (by simp)
      have h3 := numV_lt r fun x hx => (hd x (by simp [hx])).2
      have h4 : 10 ^ r.length ≤ 10 ^ 17 := Nat.pow_le_pow_right (by omega) (by omega)
      have e : c = UInt8.ofNat (48 + (c.toNat - 48)) := by
        apply UInt8.toNat_inj.1
        rw [UInt8.toNat_ofNat']; omega
      have h5 := parse_one (acc := numV r) (d := c.toNat - 48) (by omega) (by omega)
      rw [parse_app _ _ _ _ h1, numV_snoc]
      rw [← e] at h5
      rw [h5]
      congr 1
      omega
theorem atoi_all {l : List UInt8} (h0 : l ≠ []) (hl : l.length ≤ 18) (hd : ∀ c ∈ l, 48 ≤ c.toNat ∧ c.toNat ≤ 57) : atoiAll l = .ok (numV l : Int) := by
  have h1 := parse_all l.length l rfl hl hd
  have h2 := numV_lt l fun x hx => (hd x hx).2
  have h3 : 10 ^ l.length ≤ 10 ^ 18 := Nat.pow_le_pow_right (by omega) hl
  match l, h0 with
  | c :: r, _ =>
    have h4 := hd c (by simp)
    unfold atoiAll
    simp only
    rw [if_neg (by omega)]
    unfold parseMag
    rw [if_neg (by simp), h1]
    simp only
    rw [if_neg (by omega), if_neg (by omega), if_neg (by omega)]
end Go.Lib
