/- The order of the encodings is the order of the folded numbers.
   Conditions: none. -/
import Derived.Test.YtgnhfcncbkikgaaWEnc
import GoSem.Op.String
namespace Wire
open Go

theorem less_irrefl (a : List UInt8) : Op.bytesLess a a = false := by
  induction a with
  | nil => rfl
  | cons x r ih => simp [Op.bytesLess, ih]

theorem less_append : ∀ (a b c d : List UInt8), a.length = b.length → Op.bytesLess a b = true → Op.bytesLess (a ++ c) (b ++ d) = true := by
  intro a
  induction a with
  | nil => intro b c d hl h; cases b with
    | nil => simp [Op.bytesLess] at h
    | cons _ _ => simp at hl
  | cons x r ih =>
    intro b c d hl h
    cases b with
    | nil => simp at hl
    | cons y s =>
      simp only [Op.bytesLess, List.cons_append] at h ⊢
      simp only [Bool.or_eq_true, Bool.and_eq_true] at h ⊢
      rcases h with h | h
      · exact .inl h
      · exact .inr ⟨h.1, ih s c d (by simpa using hl) h.2⟩

theorem less_same (a c d : List UInt8) (h : Op.bytesLess c d = true) : Op.bytesLess (a ++ c) (a ++ d) = true := by
  induction a with
  | nil => exact h
  | cons x r ih => simp [Op.bytesLess, ih]

/-- Shorter, or as long and earlier. -/
def ord (a b : List UInt8) : Bool := decide (a.length < b.length) || (decide (a.length = b.length) && Op.bytesLess a b)

theorem ord_snoc (a b : List UInt8) (x y : UInt8) (h : ord a b = true) : ord (a ++ [x]) (b ++ [y]) = true := by
  simp only [ord, Bool.or_eq_true, decide_eq_true_eq, Bool.and_eq_true, List.length_append, List.length_singleton] at h ⊢
  rcases h with h | ⟨h1, h2⟩
  · exact .inl (by omega)
  · exact .inr ⟨by omega, less_append _ _ _ _ h1 h2⟩

theorem ord_last (a : List UInt8) (x y : UInt8) (h : x < y) : ord (a ++ [x]) (a ++ [y]) = true := by
  simp only [ord, Bool.or_eq_true, decide_eq_true_eq, Bool.and_eq_true, List.length_append, List.length_singleton]
  exact .inr ⟨trivial, less_same _ _ _ (by simp [Op.bytesLess, h])⟩

theorem lo7_lt {u v : Nat} (h : u % 128 < v % 128) : lo7 u < lo7 v := by
  rw [UInt8.lt_iff_toNat_lt]; simp [lo7, UInt8.toNat_ofNat']; omega
theorem hi7_lt {u v : Nat} (h : u % 128 < v % 128) : hi7 u < hi7 v := by
  rw [UInt8.lt_iff_toNat_lt]; simp [hi7, UInt8.toNat_ofNat']; omega

theorem encHi_ord : ∀ (v u : Nat), u < v → ord (encHi u) (encHi v) = true := by
  intro v
  induction v using Nat.strongRecOn with
  | _ v ih =>
    intro u h
    rw [encHi_pos (u := v) (by omega)]
    rcases Nat.eq_zero_or_pos u with h0 | h0
    · subst h0
      rw [encHi_zero]
      simp [ord]
    · rw [encHi_pos h0]
      rcases Nat.lt_or_ge (u / 128) (v / 128) with h1 | h1
      · exact ord_snoc _ _ _ _ (ih (v / 128) (by omega) _ h1)
      · have e : u / 128 = v / 128 := by omega
        rw [e]
        exact ord_last _ _ _ (hi7_lt (by omega))

theorem encN_ord {u v : Nat} (h : u < v) : ord (encN u) (encN v) = true := by
  unfold encN
  rcases Nat.lt_or_ge (u / 128) (v / 128) with h1 | h1
  · exact ord_snoc _ _ _ _ (encHi_ord _ _ h1)
  · have e : u / 128 = v / 128 := by omega
    rw [e]
    exact ord_last _ _ _ (lo7_lt (by omega))

theorem less_asymm : ∀ (a b : List UInt8), Op.bytesLess a b = true → Op.bytesLess b a = false := by
  intro a
  induction a with
  | nil => intro b h; cases b <;> simp [Op.bytesLess] at h ⊢
  | cons x r ih =>
    intro b h
    cases b with
    | nil => simp [Op.bytesLess] at h
    | cons y s =>
      simp only [Op.bytesLess, Bool.or_eq_true, Bool.and_eq_true, decide_eq_true_eq, beq_iff_eq] at h
      simp only [Op.bytesLess, Bool.or_eq_false_iff, Bool.and_eq_false_imp, decide_eq_false_iff_not, beq_iff_eq]
      rcases h with h | ⟨h1, h2⟩
      · rw [UInt8.lt_iff_toNat_lt] at h
        exact ⟨by rw [UInt8.lt_iff_toNat_lt]; omega, fun e => by rw [e] at h; omega⟩
      · subst h1
        exact ⟨by rw [UInt8.lt_iff_toNat_lt]; omega, fun _ => ih s h2⟩

theorem ord_asymm (a b : List UInt8) (h : ord a b = true) : ord b a = false := by
  simp only [ord, Bool.or_eq_true, decide_eq_true_eq, Bool.and_eq_true] at h
  simp only [ord, Bool.or_eq_false_iff, Bool.and_eq_false_imp, decide_eq_false_iff_not, decide_eq_true_eq]
  rcases h with h | ⟨h1, h2⟩
  · exact ⟨by omega, fun e => by omega⟩
  · exact ⟨by omega, fun _ => less_asymm _ _ h2⟩

theorem ord_self (a : List UInt8) : ord a a = false := by simp [ord, less_irrefl]

theorem encN_ord_iff (u v : Nat) : ord (encN u) (encN v) = decide (u < v) := by
  rcases Nat.lt_trichotomy u v with h | h | h
  · rw [encN_ord h]; simp [h]
  · subst h; rw [ord_self]; simp
  · rw [ord_asymm _ _ (encN_ord h)]; simp; omega

theorem encN_inj {u v : Nat} (h : encN u = encN v) : u = v := by
  rcases Nat.lt_trichotomy u v with h1 | h1 | h1
  · have := encN_ord h1; rw [h, ord_self] at this; simp at this
  · exact h1
  · have := encN_ord h1; rw [h, ord_self] at this; simp at this

theorem fo_inj {x y : Int} (h : fo x = fo y) : x = y := by
  unfold fo at h
  split at h <;> split at h <;> omega

theorem enc_inj {x y : Int} (h : enc x = enc y) : x = y := fo_inj (encN_inj h)

theorem enc_order (x y : Int) : (decide ((enc x).length < (enc y).length) || (decide ((enc x).length = (enc y).length) && Op.bytesLess (enc x) (enc y))) = decide (fo x < fo y) := encN_ord_iff _ _

theorem enc_eq (x y : Int) : (enc x == enc y) = (x == y) := by
  by_cases h : x = y
  · subst h; simp
  · have : ¬ enc x = enc y := fun e => h (enc_inj e)
    rw [beq_eq_false_iff_ne.2 this, beq_eq_false_iff_ne.2 h]
end Wire
