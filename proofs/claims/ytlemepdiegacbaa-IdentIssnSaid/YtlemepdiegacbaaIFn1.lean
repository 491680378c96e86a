/- Digits, sums, prefixes of layer 14.
   Conditions: lengths below 1000. -/
import Derived.Test.YtlemepdiegacbaaIIdx
namespace Go.Proofs.Ytlemepdiegacbaa
open Go Go.Am Ident
set_option linter.unusedVariables false

theorem drawMixed : Try.prog.follows .mixedOrders = true := by kernel_rfl

def u8 (c : UInt8) : AV := .int .u8 (c.toNat : Int)
theorem toNat_lt (c : UInt8) : c.toNat < 256 := c.toNat_lt

theorem digit_ok (c : UInt8) (H : List Blk) (T : Toks) : ACall Try.prog 41 [.int .u8 (c.toNat : Int)] H T (Is (.bool (dig c)) H T) := by
  have hc := toNat_lt c
  refine acall_enter 9 [] Try.ntmps41 Try.func41 rfl (fun _ _ => Try.call41 _ _) (by simp) (fun HO => ?_)
  refine aw_reg fun K hK => ?_; simp (maxSteps := 1000000) (disch := omega) [-List.getD_eq_getElem?_getD]; refine hK _ ?_; clear hK K
  by_cases h1 : 48 ≤ c.toNat
  · have b1 : decide ((48 : Int) ≤ c.toNat) = true := by simp; omega
    by_cases h2 : c.toNat ≤ 57
    · have b2 : decide ((c.toNat : Int) ≤ 57) = true := by simp; omega
      refine aw_reg fun K hK => ?_; simp (maxSteps := 1000000) (disch := omega) [-List.getD_eq_getElem?_getD, b1, b2, h1, h2]; refine hK _ ?_; clear hK K
      refine aw_ret ?_; simp (maxSteps := 1000000) (disch := omega) [-List.getD_eq_getElem?_getD]
      refine ⟨?_, rfl, rfl⟩
      simp [dig, h1, h2]
      try omega
    · have b2 : decide ((c.toNat : Int) ≤ 57) = false := by simp; omega
      refine aw_reg fun K hK => ?_; simp (maxSteps := 1000000) (disch := omega) [-List.getD_eq_getElem?_getD, b1, b2, h1, h2]; refine hK _ ?_; clear hK K
      refine aw_ret ?_; simp (maxSteps := 1000000) (disch := omega) [-List.getD_eq_getElem?_getD]
      refine ⟨?_, rfl, rfl⟩
      simp [dig, h1, h2]
      try omega
  · have b1 : decide ((48 : Int) ≤ c.toNat) = false := by simp; omega
    refine aw_reg fun K hK => ?_; simp (maxSteps := 1000000) (disch := omega) [-List.getD_eq_getElem?_getD, b1, h1]; refine hK _ ?_; clear hK K
    refine aw_ret ?_; simp (maxSteps := 1000000) (disch := omega) [-List.getD_eq_getElem?_getD]
    refine ⟨?_, rfl, rfl⟩
    simp [dig, h1]

theorem value_ok (c : UInt8) (hd : dig c = true ∨ c = 88) (H : List Blk) (T : Toks) : ACall Try.prog 42 [.int .u8 (c.toNat : Int)] H T (Is (.int .i64 ((valN c : Nat) : Int)) H T) := by
  have hc := toNat_lt c
  refine acall_enter 9 [] Try.ntmps42 Try.func42 rfl (fun _ _ => Try.call42 _ _) (by simp) (fun HO => ?_)
  refine aw_reg fun K hK => ?_; simp (maxSteps := 1000000) (disch := omega) [-List.getD_eq_getElem?_getD]; refine hK _ ?_; clear hK K
  refine aw_then fun K1 hK1 => ?_
  by_cases h : c = 88
  · subst h
    refine aw_reg fun K hK => ?_; simp (maxSteps := 1000000) (disch := omega) [-List.getD_eq_getElem?_getD]; refine hK _ ?_; clear hK K
    refine aw_if rfl (fun h => ?_) (fun h => absurd h (by decide))
    refine aw_reg fun K hK => ?_; simp (maxSteps := 1000000) (disch := omega) [-List.getD_eq_getElem?_getD]; refine hK _ ?_; clear hK K
    refine aw_ret ?_; simp (maxSteps := 1000000) (disch := omega) [-List.getD_eq_getElem?_getD]
    exact ⟨rfl, rfl, rfl⟩
  · have h88 : ¬ c.toNat = 88 := fun e => h (UInt8.toNat_inj.1 (by rw [e]; rfl))
    have b : ((c.toNat : Int) == 88) = false := by rw [beq_eq_false_iff_ne]; omega
    have hdg : 48 ≤ c.toNat ∧ c.toNat ≤ 57 := by
      rcases hd with hd | hd
      · simpa [dig] using hd
      · exact absurd hd h
    refine aw_reg fun K hK => ?_; simp (maxSteps := 1000000) (disch := omega) [-List.getD_eq_getElem?_getD, b]; refine hK _ ?_; clear hK K
    refine aw_if rfl (fun hh => absurd hh (by simp [h88])) (fun hh => ?_)
    refine aw_skip ?_; simp (maxSteps := 1000000) (disch := omega) [-List.getD_eq_getElem?_getD]
    refine hK1 _ ?_; clear hK1
    refine aw_reg fun K hK => ?_; simp (maxSteps := 1000000) (disch := omega) [-List.getD_eq_getElem?_getD]; refine hK _ ?_; clear hK K
    refine aw_ret ?_; simp (maxSteps := 1000000) (disch := omega) [-List.getD_eq_getElem?_getD]
    refine ⟨?_, rfl, rfl⟩
    simp only [valN, if_neg h]
    congr 1
    omega

def fV (s : List UInt8) (i : Nat) : Int := ((valN (s.getD i 0) : Nat) : Int)
def wF (n : Nat) (i : Nat) : Int := (n : Int) - i
def wA (i : Nat) : Int := 1 + 2 * ((i % 2 : Nat) : Int)
def fall (s : List UInt8) : Int := wsum (fV s) (wF s.length) s.length
def altn (s : List UInt8) : Int := wsum (fV s) wA s.length
def okD (s : List UInt8) : Prop := ∀ i, i < s.length → dig (s.getD i 0) = true ∨ s.getD i 0 = 88

theorem valN_le (c : UInt8) (h : dig c = true ∨ c = 88) : valN c ≤ 10 := by
  unfold valN
  split
  · omega
  · rename_i h88
    have : 48 ≤ c.toNat ∧ c.toNat ≤ 57 := by
      rcases h with hd | hd
      · simpa [dig] using hd
      · exact absurd hd h88
    omega

theorem okD_val {s : List UInt8} (h : okD s) {i : Nat} (hi : i < s.length) : 0 ≤ fV s i ∧ fV s i ≤ 10 := by
  have := valN_le _ (h i hi)
  unfold fV
  omega
theorem fall_part {s : List UInt8} (h : okD s) (hl : s.length ≤ 100) : ∀ k, k ≤ s.length → 0 ≤ wsum (fV s) (wF s.length) k ∧ wsum (fV s) (wF s.length) k ≤ (k : Int) * (10 * 100) := fun k hk =>
  wsum_bounds (by omega) (by omega) k (fun i hi => okD_val h (by omega)) (fun i hi => by unfold wF; omega)
theorem altn_part {s : List UInt8} (h : okD s) (hl : s.length ≤ 100) : ∀ k, k ≤ s.length → 0 ≤ wsum (fV s) wA k ∧ wsum (fV s) wA k ≤ (k : Int) * (10 * 3) := fun k hk =>
  wsum_bounds (by omega) (by omega) k (fun i hi => okD_val h (by omega)) (fun i hi => by unfold wA; omega)
theorem tmod2 (u : Nat) : (u : Int).tmod 2 = ((u % 2 : Nat) : Int) := rfl

set_option maxRecDepth 100000 in
theorem falling_ok (s : List UInt8) (h : okD s) (hl : s.length ≤ 100) (H : List Blk) (T : Toks) : ACall Try.prog 28 [.str s] H T (Is (.int .i64 (fall s)) H T) := by
  refine acall_enter 8 [] Try.ntmps28 Try.func28 rfl (fun _ _ => Try.call28 _ _) (by simp) (fun HO => ?_)
  refine aw_reg fun K hK => ?_; simp (maxSteps := 1000000) (disch := omega) [-List.getD_eq_getElem?_getD]; refine hK _ ?_; clear hK K
  refine aw_reg fun K hK => ?_; simp (maxSteps := 1000000) (disch := omega) [-List.getD_eq_getElem?_getD]; refine hK _ ?_; clear hK K
  refine aw_then fun K1 hK1 => ?_
  refine aw_reg fun K hK => ?_; simp (maxSteps := 1000000) (disch := omega) [-List.getD_eq_getElem?_getD]; refine hK _ ?_; clear hK K
  refine aw_block ?_
  refine aw_loop (X := Nat) (fun k => ⟨[(0, .str s), (3, .int .i64 (wsum (fV s) (wF s.length) k)), (6, .int .i64 (s.length : Nat)), (7, .int .i64 (k : Nat))], H, T⟩) (fun k => k ≤ s.length) (fun k => s.length - k) 0 ?_ ?_ ?_
  · exact Nat.zero_le _
  · refine weak_to [] [] ?_ ?_ ?_ ?_ HO ?_
    all_goals simp [wsum]
  · intro k hk0
    obtain ⟨p1, p2⟩ := fall_part h hl k hk0
    have hst : wsum (fV s) (wF s.length) (k + 1) = wsum (fV s) (wF s.length) k + ((valN (s.getD k 0) : Nat) : Int) * ((s.length : Int) - k) := rfl
    refine aw_reg fun K hK => ?_; simp (maxSteps := 1000000) (disch := omega) [-List.getD_eq_getElem?_getD]; refine hK _ ?_; clear hK K
    refine aw_then fun K2 hK2 => ?_
    refine aw_if rfl (fun hk => ?_) (fun hk => ?_)
    · simp [-List.getD_eq_getElem?_getD] at hk
      have hv := value_ok (s.getD k 0) (h k hk) H T
      have hvl := valN_le _ (h k hk)
      generalize wsum (fV s) (wF s.length) k = w at *
      generalize hgc : s.getD k 0 = c at *
      generalize valN c = v at *
      have q1 : 0 ≤ (v : Int) * ((s.length : Int) - k) := Int.mul_nonneg (by omega) (by omega)
      have q2 : (v : Int) * ((s.length : Int) - k) ≤ 10 * 100 := Int.mul_le_mul (by omega) (by omega) (by omega) (by omega)
      refine aw_skip ?_; simp (maxSteps := 1000000) (disch := omega) [-List.getD_eq_getElem?_getD]
      refine hK2 _ ?_; clear hK2
      refine aw_then fun K3 hK3 => ?_
      refine aw_block ?_
      refine aw_reg fun K hK => ?_; simp (maxSteps := 1000000) (disch := omega) [-List.getD_eq_getElem?_getD]; refine hK _ ?_; clear hK K
      refine aw_reg0 fun K hK => ?_; simp (maxSteps := 1000000) (disch := omega) [-List.getD_eq_getElem?_getD, hgc]
      refine acall_is (hv) ?_; simp (maxSteps := 1000000) (disch := omega) [-List.getD_eq_getElem?_getD]
      refine hK _ ?_; clear hK K
      refine hK3 _ ?_; clear hK3
      refine aw_reg0 fun K hK => ?_; simp (maxSteps := 1000000) (disch := omega) [-List.getD_eq_getElem?_getD]
      refine hK _ ?_; clear hK K
      refine ⟨k + 1, by show k + 1 ≤ _; omega, by show s.length - (k + 1) < s.length - k; omega, ?_⟩
      simp only [hst]
      refine weak_to [] [] ?_ ?_ ?_ ?_ HO ?_
      all_goals simp
    · simp at hk
      have : k = s.length := by omega
      subst this
      refine aw_exit ?_; simp (maxSteps := 1000000) (disch := omega) [-List.getD_eq_getElem?_getD]
      refine hK1 _ ?_; clear hK1
      refine aw_reg fun K hK => ?_; simp (maxSteps := 1000000) (disch := omega) [-List.getD_eq_getElem?_getD]; refine hK _ ?_; clear hK K
      refine aw_ret ?_; simp (maxSteps := 1000000) (disch := omega) [-List.getD_eq_getElem?_getD]
      exact ⟨rfl, rfl, rfl⟩

set_option maxRecDepth 100000 in
theorem alternating_ok (s : List UInt8) (h : okD s) (hl : s.length ≤ 100) (H : List Blk) (T : Toks) : ACall Try.prog 33 [.str s] H T (Is (.int .i64 (altn s)) H T) := by
  refine acall_enter 8 [] Try.ntmps33 Try.func33 rfl (fun _ _ => Try.call33 _ _) (by simp) (fun HO => ?_)
  refine aw_reg fun K hK => ?_; simp (maxSteps := 1000000) (disch := omega) [-List.getD_eq_getElem?_getD]; refine hK _ ?_; clear hK K
  refine aw_reg fun K hK => ?_; simp (maxSteps := 1000000) (disch := omega) [-List.getD_eq_getElem?_getD]; refine hK _ ?_; clear hK K
  refine aw_then fun K1 hK1 => ?_
  refine aw_reg fun K hK => ?_; simp (maxSteps := 1000000) (disch := omega) [-List.getD_eq_getElem?_getD]; refine hK _ ?_; clear hK K
  refine aw_block ?_
  refine aw_loop (X := Nat) (fun k => ⟨[(0, .str s), (3, .int .i64 (wsum (fV s) wA k)), (6, .int .i64 (s.length : Nat)), (7, .int .i64 (k : Nat))], H, T⟩) (fun k => k ≤ s.length) (fun k => s.length - k) 0 ?_ ?_ ?_
  · exact Nat.zero_le _
  · refine weak_to [] [] ?_ ?_ ?_ ?_ HO ?_
    all_goals simp [wsum]
  · intro k hk0
    obtain ⟨p1, p2⟩ := altn_part h hl k hk0
    have hst : wsum (fV s) wA (k + 1) = wsum (fV s) wA k + ((valN (s.getD k 0) : Nat) : Int) * (1 + 2 * ((k % 2 : Nat) : Int)) := rfl
    refine aw_reg fun K hK => ?_; simp (maxSteps := 1000000) (disch := omega) [-List.getD_eq_getElem?_getD]; refine hK _ ?_; clear hK K
    refine aw_then fun K2 hK2 => ?_
    refine aw_if rfl (fun hk => ?_) (fun hk => ?_)
    · simp [-List.getD_eq_getElem?_getD] at hk
      have hv := value_ok (s.getD k 0) (h k hk) H T
      have hvl := valN_le _ (h k hk)
      generalize wsum (fV s) wA k = w at *
      generalize hgc : s.getD k 0 = c at *
      generalize valN c = v at *
      have hm := tmod2 k
      have hm2 : k % 2 < 2 := Nat.mod_lt _ (by omega)
      generalize k % 2 = m at *
      have q1 : 0 ≤ (v : Int) * (1 + 2 * (m : Int)) := Int.mul_nonneg (by omega) (by omega)
      have q2 : (v : Int) * (1 + 2 * (m : Int)) ≤ 10 * 3 := Int.mul_le_mul (by omega) (by omega) (by omega) (by omega)
      refine aw_skip ?_; simp (maxSteps := 1000000) (disch := omega) [-List.getD_eq_getElem?_getD]
      refine hK2 _ ?_; clear hK2
      refine aw_then fun K3 hK3 => ?_
      refine aw_block ?_
      refine aw_reg fun K hK => ?_; simp (maxSteps := 1000000) (disch := omega) [-List.getD_eq_getElem?_getD]; refine hK _ ?_; clear hK K
      refine aw_reg0 fun K hK => ?_; simp (maxSteps := 1000000) (disch := omega) [-List.getD_eq_getElem?_getD, hgc]
      refine acall_is (hv) ?_; simp (maxSteps := 1000000) (disch := omega) [-List.getD_eq_getElem?_getD, hm]
      refine hK _ ?_; clear hK K
      refine hK3 _ ?_; clear hK3
      refine aw_reg0 fun K hK => ?_; simp (maxSteps := 1000000) (disch := omega) [-List.getD_eq_getElem?_getD]
      refine hK _ ?_; clear hK K
      refine ⟨k + 1, by show k + 1 ≤ _; omega, by show s.length - (k + 1) < s.length - k; omega, ?_⟩
      simp only [hst]
      refine weak_to [] [] ?_ ?_ ?_ ?_ HO ?_
      all_goals simp
    · simp at hk
      have : k = s.length := by omega
      subst this
      refine aw_exit ?_; simp (maxSteps := 1000000) (disch := omega) [-List.getD_eq_getElem?_getD]
      refine hK1 _ ?_; clear hK1
      refine aw_reg fun K hK => ?_; simp (maxSteps := 1000000) (disch := omega) [-List.getD_eq_getElem?_getD]; refine hK _ ?_; clear hK K
      refine aw_ret ?_; simp (maxSteps := 1000000) (disch := omega) [-List.getD_eq_getElem?_getD]
      exact ⟨rfl, rfl, rfl⟩

/-- Whether a string begins with another. -/
def pre (s p : List UInt8) : Bool := decide (p.length ≤ s.length) && (s.take p.length == p)
theorem hasPrefix_ok (s p : List UInt8) (hs : s.length ≤ 1000) (hp : p.length ≤ 1000) (H : List Blk) (T : Toks) : ACall Try.prog 37 [.str s, .str p] H T (Is (.bool (pre s p)) H T) := by
  have c1 : ACall Try.prog 44 [.str s, .str p] H T (Is (.bool (pre s p)) H T) := by
    refine acall_enter 5 [] Try.ntmps44 Try.func44 rfl (fun _ _ => Try.call44 _ _) (by simp) (fun HO => ?_)
    refine aw_reg fun K hK => ?_; simp (maxSteps := 1000000) (disch := omega) [-List.getD_eq_getElem?_getD]; refine hK _ ?_; clear hK K
    by_cases h : p.length ≤ s.length
    · have b1 : decide ((p.length : Int) ≤ s.length) = true := by simp; omega
      refine aw_reg fun K hK => ?_; simp (maxSteps := 1000000) (disch := omega) [-List.getD_eq_getElem?_getD, b1, h]; refine hK _ ?_; clear hK K
      refine aw_ret ?_; simp (maxSteps := 1000000) (disch := omega) [-List.getD_eq_getElem?_getD]
      simp [pre, h]
      exact ⟨rfl, rfl, rfl⟩
    · have b1 : decide ((p.length : Int) ≤ s.length) = false := by simp; omega
      refine aw_reg fun K hK => ?_; simp (maxSteps := 1000000) (disch := omega) [-List.getD_eq_getElem?_getD, b1, h]; refine hK _ ?_; clear hK K
      refine aw_ret ?_; simp (maxSteps := 1000000) (disch := omega) [-List.getD_eq_getElem?_getD]
      simp [pre, h]
      exact ⟨rfl, rfl, rfl⟩
  generalize pre s p = q at *
  refine acall_enter 5 [] Try.ntmps37 Try.func37 rfl (fun _ _ => Try.call37 _ _) (by simp) (fun HO => ?_)
  refine aw_reg fun K hK => ?_; simp (maxSteps := 1000000) (disch := omega) [-List.getD_eq_getElem?_getD]; refine hK _ ?_; clear hK K
  refine aw_reg fun K hK => ?_; simp (maxSteps := 1000000) (disch := omega) [-List.getD_eq_getElem?_getD]
  refine acall_is (c1) ?_; simp (maxSteps := 1000000) (disch := omega) [-List.getD_eq_getElem?_getD]
  refine hK _ ?_; clear hK K
  refine aw_ret ?_; simp (maxSteps := 1000000) (disch := omega) [-List.getD_eq_getElem?_getD]
  exact ⟨rfl, rfl, rfl⟩

def bookB (s : List UInt8) : Bool := pre s [57, 55, 56] || pre s [57, 55, 57]
theorem book_ok (s : List UInt8) (hs : s.length ≤ 1000) (H : List Blk) (T : Toks) : ACall Try.prog 36 [.str s] H T (Is (.bool (bookB s)) H T) := by
  have c1 := hasPrefix_ok s [57, 55, 56] hs (by simp) H T
  have c2 := hasPrefix_ok s [57, 55, 57] hs (by simp) H T
  unfold bookB
  generalize pre s [57, 55, 57] = q2 at *
  refine acall_enter 3 [] Try.ntmps36 Try.func36 rfl (fun _ _ => Try.call36 _ _) (by simp) (fun HO => ?_)
  refine aw_reg fun K hK => ?_; simp (maxSteps := 1000000) (disch := omega) [-List.getD_eq_getElem?_getD]; refine hK _ ?_; clear hK K
  cases hq : pre s [57, 55, 56]
  · rw [hq] at c1
    refine aw_reg fun K hK => ?_; simp (maxSteps := 1000000) (disch := omega) [-List.getD_eq_getElem?_getD]
    refine acall_is (c1) ?_; simp (maxSteps := 1000000) (disch := omega) [-List.getD_eq_getElem?_getD]
    refine acall_is (c2) ?_; simp (maxSteps := 1000000) (disch := omega) [-List.getD_eq_getElem?_getD]
    refine hK _ ?_; clear hK K
    refine aw_ret ?_; simp (maxSteps := 1000000) (disch := omega) [-List.getD_eq_getElem?_getD]
    exact ⟨rfl, rfl, rfl⟩
  · rw [hq] at c1
    refine aw_reg fun K hK => ?_; simp (maxSteps := 1000000) (disch := omega) [-List.getD_eq_getElem?_getD]
    refine acall_is (c1) ?_; simp (maxSteps := 1000000) (disch := omega) [-List.getD_eq_getElem?_getD]
    refine hK _ ?_; clear hK K
    refine aw_ret ?_; simp (maxSteps := 1000000) (disch := omega) [-List.getD_eq_getElem?_getD]
    exact ⟨rfl, rfl, rfl⟩

theorem plain1_ok (c : UInt8) (H : List Blk) (T : Toks) : ACall Try.prog 43 [.int .u8 (c.toNat : Int)] H T (Is (.bool (!dig c)) H T) := by
  refine acall_enter 3 [] Try.ntmps43 Try.func43 rfl (fun _ _ => Try.call43 _ _) (by simp) (fun HO => ?_)
  refine aw_reg fun K hK => ?_; simp (maxSteps := 1000000) (disch := omega) [-List.getD_eq_getElem?_getD]; refine hK _ ?_; clear hK K
  refine aw_reg fun K hK => ?_; simp (maxSteps := 1000000) (disch := omega) [-List.getD_eq_getElem?_getD]
  refine acall_is (digit_ok c H T) ?_; simp (maxSteps := 1000000) (disch := omega) [-List.getD_eq_getElem?_getD]
  refine hK _ ?_; clear hK K
  refine aw_ret ?_; simp (maxSteps := 1000000) (disch := omega) [-List.getD_eq_getElem?_getD]
  exact ⟨rfl, rfl, rfl⟩

def low (c : UInt8) : Bool := decide (97 ≤ c.toNat ∧ c.toNat ≤ 122)
theorem language1_ok (c : UInt8) (H : List Blk) (T : Toks) : ACall Try.prog 39 [.int .u8 (c.toNat : Int)] H T (Is (.bool (!low c)) H T) := by
  have hc := toNat_lt c
  refine acall_enter 3 [] Try.ntmps39 Try.func39 rfl (fun _ _ => Try.call39 _ _) (by simp) (fun HO => ?_)
  refine aw_reg fun K hK => ?_; simp (maxSteps := 1000000) (disch := omega) [-List.getD_eq_getElem?_getD]; refine hK _ ?_; clear hK K
  by_cases h1 : c.toNat < 97
  · have b1 : decide ((c.toNat : Int) < 97) = true := by simp; omega
    refine aw_reg fun K hK => ?_; simp (maxSteps := 1000000) (disch := omega) [-List.getD_eq_getElem?_getD, b1, h1]; refine hK _ ?_; clear hK K
    refine aw_ret ?_; simp (maxSteps := 1000000) (disch := omega) [-List.getD_eq_getElem?_getD]
    refine ⟨?_, rfl, rfl⟩
    have : ¬ 97 ≤ c.toNat := by omega
    simp [low, this]
  · have b1 : decide ((c.toNat : Int) < 97) = false := by simp; omega
    have h2 : 97 ≤ c.toNat := by omega
    by_cases h3 : 122 < c.toNat
    · have b2 : decide ((122 : Int) < c.toNat) = true := by simp; omega
      have h4 : ¬ c.toNat ≤ 122 := by omega
      refine aw_reg fun K hK => ?_; simp (maxSteps := 1000000) (disch := omega) [-List.getD_eq_getElem?_getD, b1, b2, h1, h3]; refine hK _ ?_; clear hK K
      refine aw_ret ?_; simp (maxSteps := 1000000) (disch := omega) [-List.getD_eq_getElem?_getD]
      refine ⟨?_, rfl, rfl⟩
      simp [low, h4]
    · have b2 : decide ((122 : Int) < c.toNat) = false := by simp; omega
      have h4 : c.toNat ≤ 122 := by omega
      refine aw_reg fun K hK => ?_; simp (maxSteps := 1000000) (disch := omega) [-List.getD_eq_getElem?_getD, b1, b2, h1, h3]; refine hK _ ?_; clear hK K
      refine aw_ret ?_; simp (maxSteps := 1000000) (disch := omega) [-List.getD_eq_getElem?_getD]
      refine ⟨?_, rfl, rfl⟩
      simp [low, h2, h4]
end Go.Proofs.Ytlemepdiegacbaa
