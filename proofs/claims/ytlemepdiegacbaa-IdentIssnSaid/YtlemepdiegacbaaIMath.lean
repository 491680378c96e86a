/- Ten digits with a check digit: the weighted sum is a multiple of 11; no exchange and no change of one digit leaves it so.
   Conditions: none. -/
import Derived.Test.YtlemepdiegacbaaIFn6
namespace Go.Proofs.Ytlemepdiegacbaa
open Go Go.Am Ident
set_option linter.unusedVariables false

theorem dig_val {c : UInt8} (h : dig c = true) : valN c ≤ 9 ∧ c.toNat = valN c + 48 := by
  have h1 : 48 ≤ c.toNat ∧ c.toNat ≤ 57 := by simpa [dig] using h
  have h2 : ¬ c = 88 := fun e => by rw [e] at h1; exact absurd h1.2 (by decide)
  unfold valN
  rw [if_neg h2]
  omega
theorem dig_inj {c d : UInt8} (hc : dig c = true) (hd : dig d = true) (h : valN c = valN d) : c = d := by
  have h1 := dig_val hc
  have h2 := dig_val hd
  exact UInt8.toNat_inj.1 (by omega)
theorem list9 {α : Type} (l : List α) (h : l.length = 9) : ∃ d0 d1 d2 d3 d4 d5 d6 d7 d8, l = [d0, d1, d2, d3, d4, d5, d6, d7, d8] := by
  match l, h with
  | [d0, d1, d2, d3, d4, d5, d6, d7, d8], _ => exact ⟨d0, d1, d2, d3, d4, d5, d6, d7, d8, rfl⟩
theorem fall10 (d0 d1 d2 d3 d4 d5 d6 d7 d8 c : UInt8) : fall [d0, d1, d2, d3, d4, d5, d6, d7, d8, c] = ((valN d0 : Nat) : Int) * 10 + ((valN d1 : Nat) : Int) * 9 + ((valN d2 : Nat) : Int) * 8 + ((valN d3 : Nat) : Int) * 7 + ((valN d4 : Nat) : Int) * 6 + ((valN d5 : Nat) : Int) * 5 + ((valN d6 : Nat) : Int) * 4 + ((valN d7 : Nat) : Int) * 3 + ((valN d8 : Nat) : Int) * 2 + ((valN c : Nat) : Int) * 1 := by
  simp [fall, wsum, fV, wF]
theorem plainX10 {d0 d1 d2 d3 d4 d5 d6 d7 d8 c : UInt8} (h0 : dig d0 = true) (h1 : dig d1 = true) (h2 : dig d2 = true) (h3 : dig d3 = true) (h4 : dig d4 = true) (h5 : dig d5 = true) (h6 : dig d6 = true) (h7 : dig d7 = true) (h8 : dig d8 = true) (hc : dig c = true ∨ c = 88) : plainX [d0, d1, d2, d3, d4, d5, d6, d7, d8, c] := ⟨by simp, fun i hi => by
  match i, hi with
  | 0, _ => exact .inl h0
  | 1, _ => exact .inl h1
  | 2, _ => exact .inl h2
  | 3, _ => exact .inl h3
  | 4, _ => exact .inl h4
  | 5, _ => exact .inl h5
  | 6, _ => exact .inl h6
  | 7, _ => exact .inl h7
  | 8, _ => exact .inl h8
  | 9, _ => exact hc.elim .inl (fun e => .inr ⟨e, rfl⟩)⟩
theorem isbn_ten {t : List UInt8} (h : plainX t) (hl : t.length = 10) : isbnR t = if fall t % 11 ≠ 0 then ([], 6) else (57 :: 55 :: 56 :: (t.take 9 ++ [ck13 (57 :: 55 :: 56 :: t.take 9)]), 0) := by
  unfold isbnR
  rw [digs_plain h, if_pos hl]

theorem tab_val : ∀ r : Fin 11, valN (tabX.getD r.1 0) = r.1 ∧ (dig (tabX.getD r.1 0) = true ∨ tabX.getD r.1 0 = 88) := by decide
theorem ck_fall {d0 d1 d2 d3 d4 d5 d6 d7 d8 : UInt8} (h0 : dig d0 = true) (h1 : dig d1 = true) (h2 : dig d2 = true) (h3 : dig d3 = true) (h4 : dig d4 = true) (h5 : dig d5 = true) (h6 : dig d6 = true) (h7 : dig d7 = true) (h8 : dig d8 = true) : fall ([d0, d1, d2, d3, d4, d5, d6, d7, d8] ++ [ck10 [d0, d1, d2, d3, d4, d5, d6, d7, d8]]) % 11 = 0 ∧ (dig (ck10 [d0, d1, d2, d3, d4, d5, d6, d7, d8]) = true ∨ ck10 [d0, d1, d2, d3, d4, d5, d6, d7, d8] = 88) ∧ valN (ck10 [d0, d1, d2, d3, d4, d5, d6, d7, d8]) ≤ 10 := by
  have e1 : fall ([d0, d1, d2, d3, d4, d5, d6, d7, d8] ++ [48]) = ((valN d0 : Nat) : Int) * 10 + ((valN d1 : Nat) : Int) * 9 + ((valN d2 : Nat) : Int) * 8 + ((valN d3 : Nat) : Int) * 7 + ((valN d4 : Nat) : Int) * 6 + ((valN d5 : Nat) : Int) * 5 + ((valN d6 : Nat) : Int) * 4 + ((valN d7 : Nat) : Int) * 3 + ((valN d8 : Nat) : Int) * 2 := by
    have := fall10 d0 d1 d2 d3 d4 d5 d6 d7 d8 48
    have e : valN 48 = 0 := by decide
    rw [e] at this
    rw [show [d0, d1, d2, d3, d4, d5, d6, d7, d8] ++ [48] = [d0, d1, d2, d3, d4, d5, d6, d7, d8, 48] from rfl, this]
    simp
  have hr : ((11 - fall ([d0, d1, d2, d3, d4, d5, d6, d7, d8] ++ [48]) % 11) % 11).toNat < 11 := by omega
  obtain ⟨t1, t2⟩ := tab_val ⟨_, hr⟩
  have hck : ck10 [d0, d1, d2, d3, d4, d5, d6, d7, d8] = tabX.getD ((11 - fall ([d0, d1, d2, d3, d4, d5, d6, d7, d8] ++ [48]) % 11) % 11).toNat 0 := rfl
  rw [← hck] at t1 t2
  rw [show [d0, d1, d2, d3, d4, d5, d6, d7, d8] ++ [ck10 [d0, d1, d2, d3, d4, d5, d6, d7, d8]] = [d0, d1, d2, d3, d4, d5, d6, d7, d8, ck10 [d0, d1, d2, d3, d4, d5, d6, d7, d8]] from rfl, fall10]
  generalize fall ([d0, d1, d2, d3, d4, d5, d6, d7, d8] ++ [48]) = F at *
  generalize ck10 [d0, d1, d2, d3, d4, d5, d6, d7, d8] = c at *
  simp only at t1
  refine ⟨?_, t2, by omega⟩
  omega

/-- Ten digits with their check digit. -/
def ten (s : List UInt8) : List UInt8 := s ++ [ck10 s]
theorem ten_len {s : List UInt8} (hl : s.length = 9) : (ten s).length = 10 := by simp [ten, hl]
theorem ten_ok {s : List UInt8} (hl : s.length = 9) (hd : allDig s) : plainX (ten s) ∧ fall (ten s) % 11 = 0 := by
  obtain ⟨d0, d1, d2, d3, d4, d5, d6, d7, d8, rfl⟩ := list9 s hl
  have h0 : dig d0 = true := hd 0 (by simp)
  have h1 : dig d1 = true := hd 1 (by simp)
  have h2 : dig d2 = true := hd 2 (by simp)
  have h3 : dig d3 = true := hd 3 (by simp)
  have h4 : dig d4 = true := hd 4 (by simp)
  have h5 : dig d5 = true := hd 5 (by simp)
  have h6 : dig d6 = true := hd 6 (by simp)
  have h7 : dig d7 = true := hd 7 (by simp)
  have h8 : dig d8 = true := hd 8 (by simp)
  obtain ⟨g1, g2, _⟩ := ck_fall h0 h1 h2 h3 h4 h5 h6 h7 h8
  exact ⟨plainX10 h0 h1 h2 h3 h4 h5 h6 h7 h8 g2, g1⟩
theorem ten_isbn {s : List UInt8} (hl : s.length = 9) (hd : allDig s) : isbnR (ten s) = (57 :: 55 :: 56 :: (s ++ [ck13 (57 :: 55 :: 56 :: s)]), 0) := by
  obtain ⟨h1, h2⟩ := ten_ok hl hd
  have e : (ten s).take 9 = s := by unfold ten; rw [← hl, List.take_left]
  rw [isbn_ten h1 (ten_len hl), if_neg (fun h => h h2), e]

set_option maxHeartbeats 2000000 in
theorem swap_bad {s : List UInt8} (hl : s.length = 9) (hd : allDig s) (k : Nat) (hk : k < 8) (hne : (ten s).getD k 0 ≠ (ten s).getD (k + 1) 0) :
    isbnR ((ten s).take k ++ (ten s).getD (k + 1) 0 :: (ten s).getD k 0 :: (ten s).drop (k + 2)) = ([], 6) := by
  obtain ⟨d0, d1, d2, d3, d4, d5, d6, d7, d8, rfl⟩ := list9 s hl
  have h0 : dig d0 = true := hd 0 (by simp)
  have h1 : dig d1 = true := hd 1 (by simp)
  have h2 : dig d2 = true := hd 2 (by simp)
  have h3 : dig d3 = true := hd 3 (by simp)
  have h4 : dig d4 = true := hd 4 (by simp)
  have h5 : dig d5 = true := hd 5 (by simp)
  have h6 : dig d6 = true := hd 6 (by simp)
  have h7 : dig d7 = true := hd 7 (by simp)
  have h8 : dig d8 = true := hd 8 (by simp)
  obtain ⟨g1, g2, g3⟩ := ck_fall h0 h1 h2 h3 h4 h5 h6 h7 h8
  have hten : ten [d0, d1, d2, d3, d4, d5, d6, d7, d8] = [d0, d1, d2, d3, d4, d5, d6, d7, d8, ck10 [d0, d1, d2, d3, d4, d5, d6, d7, d8]] := rfl
  rw [hten] at hne ⊢
  rw [show [d0, d1, d2, d3, d4, d5, d6, d7, d8] ++ [ck10 [d0, d1, d2, d3, d4, d5, d6, d7, d8]] = [d0, d1, d2, d3, d4, d5, d6, d7, d8, ck10 [d0, d1, d2, d3, d4, d5, d6, d7, d8]] from rfl] at g1
  generalize ck10 [d0, d1, d2, d3, d4, d5, d6, d7, d8] = c at *
  rw [fall10] at g1
  have v0 := (dig_val h0).1
  have v1 := (dig_val h1).1
  have v2 := (dig_val h2).1
  have v3 := (dig_val h3).1
  have v4 := (dig_val h4).1
  have v5 := (dig_val h5).1
  have v6 := (dig_val h6).1
  have v7 := (dig_val h7).1
  have v8 := (dig_val h8).1
  match k, hk with
  | 0, _ =>
    have hv : valN d0 ≠ valN d1 := fun e => hne (dig_inj h0 h1 e)
    have hp := plainX10 h1 h0 h2 h3 h4 h5 h6 h7 h8 g2
    show isbnR [d1, d0, d2, d3, d4, d5, d6, d7, d8, c] = _
    rw [isbn_ten hp rfl, fall10, if_pos (by omega)]
  | 1, _ =>
    have hv : valN d1 ≠ valN d2 := fun e => hne (dig_inj h1 h2 e)
    have hp := plainX10 h0 h2 h1 h3 h4 h5 h6 h7 h8 g2
    show isbnR [d0, d2, d1, d3, d4, d5, d6, d7, d8, c] = _
    rw [isbn_ten hp rfl, fall10, if_pos (by omega)]
  | 2, _ =>
    have hv : valN d2 ≠ valN d3 := fun e => hne (dig_inj h2 h3 e)
    have hp := plainX10 h0 h1 h3 h2 h4 h5 h6 h7 h8 g2
    show isbnR [d0, d1, d3, d2, d4, d5, d6, d7, d8, c] = _
    rw [isbn_ten hp rfl, fall10, if_pos (by omega)]
  | 3, _ =>
    have hv : valN d3 ≠ valN d4 := fun e => hne (dig_inj h3 h4 e)
    have hp := plainX10 h0 h1 h2 h4 h3 h5 h6 h7 h8 g2
    show isbnR [d0, d1, d2, d4, d3, d5, d6, d7, d8, c] = _
    rw [isbn_ten hp rfl, fall10, if_pos (by omega)]
  | 4, _ =>
    have hv : valN d4 ≠ valN d5 := fun e => hne (dig_inj h4 h5 e)
    have hp := plainX10 h0 h1 h2 h3 h5 h4 h6 h7 h8 g2
    show isbnR [d0, d1, d2, d3, d5, d4, d6, d7, d8, c] = _
    rw [isbn_ten hp rfl, fall10, if_pos (by omega)]
  | 5, _ =>
    have hv : valN d5 ≠ valN d6 := fun e => hne (dig_inj h5 h6 e)
    have hp := plainX10 h0 h1 h2 h3 h4 h6 h5 h7 h8 g2
    show isbnR [d0, d1, d2, d3, d4, d6, d5, d7, d8, c] = _
    rw [isbn_ten hp rfl, fall10, if_pos (by omega)]
  | 6, _ =>
    have hv : valN d6 ≠ valN d7 := fun e => hne (dig_inj h6 h7 e)
    have hp := plainX10 h0 h1 h2 h3 h4 h5 h7 h6 h8 g2
    show isbnR [d0, d1, d2, d3, d4, d5, d7, d6, d8, c] = _
    rw [isbn_ten hp rfl, fall10, if_pos (by omega)]
  | 7, _ =>
    have hv : valN d7 ≠ valN d8 := fun e => hne (dig_inj h7 h8 e)
    have hp := plainX10 h0 h1 h2 h3 h4 h5 h6 h8 h7 g2
    show isbnR [d0, d1, d2, d3, d4, d5, d6, d8, d7, c] = _
    rw [isbn_ten hp rfl, fall10, if_pos (by omega)]

set_option maxHeartbeats 2000000 in
theorem change_bad {s : List UInt8} (hl : s.length = 9) (hd : allDig s) (k : Nat) (hk : k < 10) (x : UInt8) (hx : dig x = true) (hne : (ten s).getD k 0 ≠ x) :
    isbnR ((ten s).set k x) = ([], 6) := by
  obtain ⟨d0, d1, d2, d3, d4, d5, d6, d7, d8, rfl⟩ := list9 s hl
  have h0 : dig d0 = true := hd 0 (by simp)
  have h1 : dig d1 = true := hd 1 (by simp)
  have h2 : dig d2 = true := hd 2 (by simp)
  have h3 : dig d3 = true := hd 3 (by simp)
  have h4 : dig d4 = true := hd 4 (by simp)
  have h5 : dig d5 = true := hd 5 (by simp)
  have h6 : dig d6 = true := hd 6 (by simp)
  have h7 : dig d7 = true := hd 7 (by simp)
  have h8 : dig d8 = true := hd 8 (by simp)
  obtain ⟨g1, g2, g3⟩ := ck_fall h0 h1 h2 h3 h4 h5 h6 h7 h8
  have hten : ten [d0, d1, d2, d3, d4, d5, d6, d7, d8] = [d0, d1, d2, d3, d4, d5, d6, d7, d8, ck10 [d0, d1, d2, d3, d4, d5, d6, d7, d8]] := rfl
  rw [hten] at hne ⊢
  rw [show [d0, d1, d2, d3, d4, d5, d6, d7, d8] ++ [ck10 [d0, d1, d2, d3, d4, d5, d6, d7, d8]] = [d0, d1, d2, d3, d4, d5, d6, d7, d8, ck10 [d0, d1, d2, d3, d4, d5, d6, d7, d8]] from rfl] at g1
  generalize ck10 [d0, d1, d2, d3, d4, d5, d6, d7, d8] = c at *
  rw [fall10] at g1
  have vx := (dig_val hx).1
  have v0 := (dig_val h0).1
  have v1 := (dig_val h1).1
  have v2 := (dig_val h2).1
  have v3 := (dig_val h3).1
  have v4 := (dig_val h4).1
  have v5 := (dig_val h5).1
  have v6 := (dig_val h6).1
  have v7 := (dig_val h7).1
  have v8 := (dig_val h8).1
  match k, hk with
  | 0, _ =>
    have hv : valN d0 ≠ valN x := fun e => hne (dig_inj h0 hx e)
    have hp := plainX10 hx h1 h2 h3 h4 h5 h6 h7 h8 g2
    show isbnR [x, d1, d2, d3, d4, d5, d6, d7, d8, c] = _
    rw [isbn_ten hp rfl, fall10, if_pos (by omega)]
  | 1, _ =>
    have hv : valN d1 ≠ valN x := fun e => hne (dig_inj h1 hx e)
    have hp := plainX10 h0 hx h2 h3 h4 h5 h6 h7 h8 g2
    show isbnR [d0, x, d2, d3, d4, d5, d6, d7, d8, c] = _
    rw [isbn_ten hp rfl, fall10, if_pos (by omega)]
  | 2, _ =>
    have hv : valN d2 ≠ valN x := fun e => hne (dig_inj h2 hx e)
    have hp := plainX10 h0 h1 hx h3 h4 h5 h6 h7 h8 g2
    show isbnR [d0, d1, x, d3, d4, d5, d6, d7, d8, c] = _
    rw [isbn_ten hp rfl, fall10, if_pos (by omega)]
  | 3, _ =>
    have hv : valN d3 ≠ valN x := fun e => hne (dig_inj h3 hx e)
    have hp := plainX10 h0 h1 h2 hx h4 h5 h6 h7 h8 g2
    show isbnR [d0, d1, d2, x, d4, d5, d6, d7, d8, c] = _
    rw [isbn_ten hp rfl, fall10, if_pos (by omega)]
  | 4, _ =>
    have hv : valN d4 ≠ valN x := fun e => hne (dig_inj h4 hx e)
    have hp := plainX10 h0 h1 h2 h3 hx h5 h6 h7 h8 g2
    show isbnR [d0, d1, d2, d3, x, d5, d6, d7, d8, c] = _
    rw [isbn_ten hp rfl, fall10, if_pos (by omega)]
  | 5, _ =>
    have hv : valN d5 ≠ valN x := fun e => hne (dig_inj h5 hx e)
    have hp := plainX10 h0 h1 h2 h3 h4 hx h6 h7 h8 g2
    show isbnR [d0, d1, d2, d3, d4, x, d6, d7, d8, c] = _
    rw [isbn_ten hp rfl, fall10, if_pos (by omega)]
  | 6, _ =>
    have hv : valN d6 ≠ valN x := fun e => hne (dig_inj h6 hx e)
    have hp := plainX10 h0 h1 h2 h3 h4 h5 hx h7 h8 g2
    show isbnR [d0, d1, d2, d3, d4, d5, x, d7, d8, c] = _
    rw [isbn_ten hp rfl, fall10, if_pos (by omega)]
  | 7, _ =>
    have hv : valN d7 ≠ valN x := fun e => hne (dig_inj h7 hx e)
    have hp := plainX10 h0 h1 h2 h3 h4 h5 h6 hx h8 g2
    show isbnR [d0, d1, d2, d3, d4, d5, d6, x, d8, c] = _
    rw [isbn_ten hp rfl, fall10, if_pos (by omega)]
  | 8, _ =>
    have hv : valN d8 ≠ valN x := fun e => hne (dig_inj h8 hx e)
    have hp := plainX10 h0 h1 h2 h3 h4 h5 h6 h7 hx g2
    show isbnR [d0, d1, d2, d3, d4, d5, d6, d7, x, c] = _
    rw [isbn_ten hp rfl, fall10, if_pos (by omega)]
  | 9, _ =>
    have hv : valN c ≠ valN x := fun e => by
      rcases g2 with g2 | g2
      · exact hne (dig_inj g2 hx e)
      · rw [g2] at e
        have : valN 88 = 10 := by decide
        omega
    have hp := plainX10 h0 h1 h2 h3 h4 h5 h6 h7 h8 (.inl hx)
    show isbnR [d0, d1, d2, d3, d4, d5, d6, d7, d8, x] = _
    rw [isbn_ten hp rfl, fall10, if_pos (by omega)]
end Go.Proofs.Ytlemepdiegacbaa
