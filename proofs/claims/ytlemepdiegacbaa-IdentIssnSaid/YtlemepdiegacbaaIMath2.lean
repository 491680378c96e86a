/- The normal form of thirteen digits: no change of one digit leaves it an ISBN; the last of ten digits is the one check digit.
   Conditions: none. -/
import Derived.Test.YtlemepdiegacbaaIMath
namespace Go.Proofs.Ytlemepdiegacbaa
open Go Go.Am Ident
set_option linter.unusedVariables false

theorem getD_snoc_lt (l : List UInt8) (c : UInt8) {i : Nat} (h : i < l.length) : (l ++ [c]).getD i 0 = l.getD i 0 := by
  rw [List.getD_eq_getElem?_getD, List.getElem?_append_left h, ← List.getD_eq_getElem?_getD]
theorem getD_snoc (l : List UInt8) (c : UInt8) : (l ++ [c]).getD l.length 0 = c := by
  rw [List.getD_eq_getElem?_getD, List.getElem?_append_right (Nat.le_refl _)]
  simp
theorem getD_set_ne (l : List UInt8) (c : UInt8) {i k : Nat} (h : i ≠ k) : (l.set k c).getD i 0 = l.getD i 0 := by
  rw [List.getD_eq_getElem?_getD, List.getElem?_set_ne (Ne.symm h), ← List.getD_eq_getElem?_getD]
theorem getD_set_eq (l : List UInt8) (c : UInt8) {k : Nat} (h : k < l.length) : (l.set k c).getD k 0 = c := by
  rw [List.getD_eq_getElem?_getD, List.getElem?_set_self h]
  rfl
theorem allDig_set {t : List UInt8} (h : allDig t) (k : Nat) {x : UInt8} (hx : dig x = true) : allDig (t.set k x) := by
  intro i hi
  rw [List.length_set] at hi
  by_cases e : i = k
  · subst e; rw [getD_set_eq _ _ hi]; exact hx
  · rw [getD_set_ne _ _ e]; exact h i hi
theorem allDig_plain {t : List UInt8} (h : allDig t) (hl : 2 ≤ t.length) : plainX t := ⟨hl, fun i hi => .inl (h i hi)⟩
theorem allDig_one {c : UInt8} (h : dig c = true) : allDig [c] := by
  intro i hi
  match i, hi with
  | 0, _ => exact h

theorem altn_snoc (l : List UInt8) (c : UInt8) : altn (l ++ [c]) = altn l + ((valN c : Nat) : Int) * wA l.length := by
  have e : (l ++ [c]).length = l.length + 1 := by simp
  unfold altn
  rw [e, wsum]
  congr 1
  · refine wsum_congr _ fun i hi => ?_
    unfold fV
    rw [getD_snoc_lt l c hi]
  · unfold fV
    rw [getD_snoc]
theorem altn_set {l : List UInt8} {k : Nat} (hk : k < l.length) (c : UInt8) : altn (l.set k c) = altn l + (((valN c : Nat) : Int) - ((valN (l.getD k 0) : Nat) : Int)) * wA k := by
  unfold altn
  rw [List.length_set, wsum_diff (f := fV (l.set k c)) (g := fV l) (k := k) l.length hk (fun i _ hne => by unfold fV; rw [getD_set_ne _ _ hne])]
  unfold fV
  rw [getD_set_eq _ _ hk]
theorem ck13_val (l : List UInt8) : dig (ck13 l) = true ∧ ((valN (ck13 l) : Nat) : Int) = (10 - altn l % 10) % 10 := by
  have key : ∀ r : Fin 10, dig (UInt8.ofNat (48 + r.1)) = true ∧ valN (UInt8.ofNat (48 + r.1)) = r.1 := by decide
  have hr : ((10 - altn l % 10) % 10).toNat < 10 := by omega
  obtain ⟨k1, k2⟩ := key ⟨_, hr⟩
  unfold ck13
  refine ⟨k1, ?_⟩
  simp only at k2
  rw [k2]
  omega

/-- The normal form of nine digits. -/
def lead (s : List UInt8) : List UInt8 := 57 :: 55 :: 56 :: s
def long (s : List UInt8) : List UInt8 := lead s ++ [ck13 (lead s)]
theorem long_eq (s : List UInt8) : (57 :: 55 :: 56 :: (s ++ [ck13 (57 :: 55 :: 56 :: s)])) = long s := rfl
theorem lead_len {s : List UInt8} (hl : s.length = 9) : (lead s).length = 12 := by simp [lead, hl]
theorem long_len {s : List UInt8} (hl : s.length = 9) : (long s).length = 13 := by simp [long, lead, hl]
theorem lead_dig {s : List UInt8} (hd : allDig s) : allDig (lead s) := allDig_append (a := [57, 55, 56]) dig978 hd
theorem long_dig {s : List UInt8} (hd : allDig s) : allDig (long s) := allDig_append (lead_dig hd) (allDig_one (ck13_val _).1)
theorem long_alt {s : List UInt8} (hl : s.length = 9) : altn (long s) % 10 = 0 := by
  unfold long
  rw [altn_snoc, lead_len hl, (ck13_val _).2]
  have : wA 12 = 1 := rfl
  rw [this]
  omega
theorem isbn_13 {t : List UInt8} (h : allDig t) (hl : t.length = 13) : isbnR t = if bookB t = false then ([], 7) else if altn t % 10 ≠ 0 then ([], 6) else (t, 0) := by
  have e := digs_plain (allDig_plain h (by omega))
  unfold isbnR
  rw [e, if_neg (by omega)]
  have h12 : t.getD 12 0 ≠ 88 := fun e => by
    have := h 12 (by omega)
    rw [e] at this
    exact absurd this (by decide)
  by_cases hb : bookB t = false
  · rw [if_pos (.inr (.inl hb)), if_pos hb]
  · rw [if_neg (fun hh => hh.elim (fun g => g hl) (fun g => g.elim hb h12)), if_neg hb]
theorem long_book (s : List UInt8) : bookB (long s) = true := by
  unfold bookB pre long lead
  simp
theorem long_isbn {s : List UInt8} (hl : s.length = 9) (hd : allDig s) : isbnR (long s) = (long s, 0) := by
  rw [isbn_13 (long_dig hd) (long_len hl), if_neg (by rw [long_book]; simp), if_neg (by rw [long_alt hl]; simp)]
theorem long_change {s : List UInt8} (hl : s.length = 9) (hd : allDig s) {k : Nat} (hk : k < 13) {x : UInt8} (hx : dig x = true) (hne : (long s).getD k 0 ≠ x) : (isbnR ((long s).set k x)).2 ≠ 0 := by
  have hL := long_len hl
  have hD := long_dig hd
  have ha := long_alt hl
  rw [isbn_13 (allDig_set hD k hx) (by rw [List.length_set]; exact hL)]
  have hdk := hD k (by omega)
  have e := altn_set (l := long s) (k := k) (by omega) x
  have hne2 : valN x ≠ valN ((long s).getD k 0) := fun h => hne (dig_inj hdk hx h.symm)
  have h1 := (dig_val hx).1
  have h2 := (dig_val hdk).1
  have hw : wA k = 1 ∨ wA k = 3 := by unfold wA; omega
  split
  · simp
  · have : altn ((long s).set k x) % 10 ≠ 0 := by
      rw [e]
      rcases hw with hw | hw <;> rw [hw] <;> omega
    rw [if_pos this]
    simp

theorem val_inj {c d : UInt8} (hc : dig c = true ∨ c = 88) (hd : dig d = true ∨ d = 88) (h : valN c = valN d) : c = d := by
  have e88 : valN 88 = 10 := by decide
  rcases hc with hc | hc <;> rcases hd with hd | hd
  · exact dig_inj hc hd h
  · have := (dig_val hc).1; rw [hd, e88] at h; omega
  · have := (dig_val hd).1; rw [hc, e88] at h; omega
  · rw [hc, hd]
theorem fall_snoc (l : List UInt8) (c d : UInt8) : fall (l ++ [c]) = fall (l ++ [d]) + (((valN c : Nat) : Int) - ((valN d : Nat) : Int)) := by
  have e : ∀ x : UInt8, (l ++ [x]).length = l.length + 1 := by simp
  unfold fall
  rw [e, e, wsum_diff (f := fV (l ++ [c])) (g := fV (l ++ [d])) (k := l.length) (l.length + 1) (by omega) (fun i hi hne => by unfold fV; rw [getD_snoc_lt _ _ (by omega), getD_snoc_lt _ _ (by omega)])]
  unfold fV
  rw [getD_snoc, getD_snoc]
  have : wF (l.length + 1) l.length = 1 := by unfold wF; omega
  rw [this, Int.mul_one]
theorem snoc_plain {s : List UInt8} (hl : 1 ≤ s.length) (hd : allDig s) {w : UInt8} (hw : dig w = true ∨ w = 88) : plainX (s ++ [w]) := by
  refine ⟨by simp; omega, fun i hi => ?_⟩
  simp at hi
  rcases Nat.lt_or_ge i s.length with h | h
  · rw [getD_snoc_lt _ _ h]; exact .inl (hd i h)
  · obtain rfl : i = s.length := by omega
    rw [getD_snoc]
    rcases hw with hw | hw
    · exact .inl hw
    · exact .inr ⟨hw, by simp⟩
theorem ck10_X {s : List UInt8} (hl : s.length = 9) (hd : allDig s) : dig (ck10 s) = true ∨ ck10 s = 88 := by
  have h := (ten_ok hl hd).1.2 9 (by rw [ten_len hl]; omega)
  unfold ten at h
  rw [← hl, getD_snoc] at h
  exact h.elim .inl (fun g => .inr g.1)
theorem last_bad {s : List UInt8} (hl : s.length = 9) (hd : allDig s) {w : UInt8} (hw : dig w = true ∨ w = 88) (hne : w ≠ ck10 s) : isbnR (s ++ [w]) = ([], 6) := by
  have hc := ck10_X hl hd
  have h0 := (ten_ok hl hd).2
  unfold ten at h0
  have e := fall_snoc s w (ck10 s)
  have h1 := valN_le _ hw
  have h2 := valN_le _ hc
  have hv : valN w ≠ valN (ck10 s) := fun h => hne (val_inj hw hc h)
  rw [isbn_ten (snoc_plain (by omega) hd hw) (by simp; omega), if_pos (by omega)]
end Go.Proofs.Ytlemepdiegacbaa
