/- Nine digits of a number, a changed digit; the weighted sums of ten digits.
   Conditions: none. -/
import Derived.Test.YtlemepdiegacbaaIFn5
namespace Go.Proofs.Ytlemepdiegacbaa
open Go Go.Am Ident
set_option linter.unusedVariables false

def digN (n i : Nat) : UInt8 := UInt8.ofNat (48 + n / 10 ^ i % 10)
def nineK (n : Nat) : Nat → List UInt8
  | 0 => List.replicate 9 0
  | k + 1 => (nineK n k).set k (digN n k)
def nineS (n : Nat) : List UInt8 := nineK n 9
theorem nineK_len (n : Nat) : ∀ k, (nineK n k).length = 9 := by
  intro k
  induction k with
  | zero => simp [nineK]
  | succ k ih => rw [nineK, List.length_set, ih]
theorem nineS_eq (n : Nat) : nineS n = [digN n 0, digN n 1, digN n 2, digN n 3, digN n 4, digN n 5, digN n 6, digN n 7, digN n 8] := rfl
theorem digN_dig (n i : Nat) : dig (digN n i) = true := by
  have : n / 10 ^ i % 10 < 10 := Nat.mod_lt _ (by omega)
  simp [dig, digN, UInt8.toNat_ofNat']
  omega
theorem digN_nat (n i : Nat) : ((digN n i).toNat : Int) = 48 + ((n / 10 ^ i % 10 : Nat) : Int) := by
  have : n / 10 ^ i % 10 < 10 := Nat.mod_lt _ (by omega)
  simp [digN, UInt8.toNat_ofNat']
  omega
theorem w32 (x : Int) (h1 : 0 ≤ x) (h2 : x < 4294967296) : IntKind.u32.wrap x = x := by
  show x % 4294967296 = x
  omega
theorem encB_set (l : List UInt8) (k : Nat) (c : UInt8) : (encB l).set k (.int .u8 (c.toNat : Int)) = encB (l.set k c) := by simp [encB, List.map_set]

set_option maxRecDepth 100000 in
theorem nine_ok (n : Nat) (hn : n < 4294967296) (H : List Blk) (T : Toks) : ACall Try.prog 19 [.int .u32 (n : Nat)] H T (Is (.str (nineS n)) H T) := by
  refine ACall.drop' ?_ (by simp)
  refine acall_enter 9 [] Try.ntmps19 Try.func19 rfl (fun _ _ => Try.call19 _ _) (by simp) (fun HO => ?_)
  refine aw_reg fun K hK => ?_; simp (maxSteps := 1000000) (disch := omega) [-List.getD_eq_getElem?_getD]; refine hK _ ?_; clear hK K
  refine aw_reg fun K hK => ?_; simp (maxSteps := 1000000) (disch := omega) [-List.getD_eq_getElem?_getD]; refine hK _ ?_; clear hK K
  refine aw_then fun K1 hK1 => ?_
  refine aw_reg fun K hK => ?_; simp (maxSteps := 1000000) (disch := omega) [-List.getD_eq_getElem?_getD]; refine hK _ ?_; clear hK K
  refine aw_block ?_
  refine aw_loop (X := Nat) (fun k => ⟨[(0, .int .u32 ((n / 10 ^ k : Nat) : Int)), (3, .msl H.length 0 9), (7, .int .i64 9), (8, .int .i64 (k : Nat))], H ++ [.cells (encB (nineK n k))], T⟩) (fun k => k ≤ 9) (fun k => 9 - k) 0 ?_ ?_ ?_
  · exact Nat.zero_le _
  · refine weak_to [] [] ?_ ?_ ?_ ?_ (HOk.snoc HO (by simp)) ?_
    all_goals simp [nineK, encB]
  · intro k hk0
    have hl := nineK_len n k
    have hdv : (((n / 10 ^ k : Nat) : Int)).tdiv 10 = ((n / 10 ^ (k + 1) : Nat) : Int) := by
      rw [Nat.pow_succ, ← Nat.div_div_eq_div_mul]
      rfl
    have hmd : (((n / 10 ^ k : Nat) : Int)).tmod 10 = ((n / 10 ^ k % 10 : Nat) : Int) := rfl
    have hdn := digN_nat n k
    have hlt : n / 10 ^ k ≤ n := Nat.div_le_self _ _
    have hlt2 : n / 10 ^ (k + 1) ≤ n := Nat.div_le_self _ _
    have hm10 : n / 10 ^ k % 10 < 10 := Nat.mod_lt _ (by omega)
    have hst : nineK n (k + 1) = (nineK n k).set k (digN n k) := rfl
    have hset := encB_set (nineK n k) k (digN n k)
    rw [hdn] at hset
    generalize n / 10 ^ k % 10 = dg at *
    generalize hq1 : n / 10 ^ (k + 1) = q1 at *
    generalize n / 10 ^ k = q0 at *
    generalize hL : nineK n k = L at *
    refine aw_reg fun K hK => ?_; simp (maxSteps := 1000000) (disch := omega) [-List.getD_eq_getElem?_getD]; refine hK _ ?_; clear hK K
    refine aw_then fun K2 hK2 => ?_
    by_cases hk : k < 9
    · have bk : decide ((k : Int) < 9) = true := decide_eq_true (by omega)
      refine aw_if rfl (fun h => ?_) (fun h => absurd h (by simp; omega))
      refine aw_skip ?_; simp (maxSteps := 1000000) (disch := omega) [-List.getD_eq_getElem?_getD]
      refine hK2 _ ?_; clear hK2
      refine aw_then fun K3 hK3 => ?_
      refine aw_block ?_
      refine aw_reg fun K hK => ?_; simp (maxSteps := 1000000) (disch := omega) [-List.getD_eq_getElem?_getD]; refine hK _ ?_; clear hK K
      have e1 := w32 (48 + dg) (by omega) (by omega)
      have e2 := w32 q1 (by omega) (by omega)
      refine aw_reg fun K hK => ?_; simp (maxSteps := 1000000) (disch := omega) [-List.getD_eq_getElem?_getD, hmd, hl, e1, hset]; refine hK _ ?_; clear hK K
      refine aw_reg0 fun K hK => ?_; simp (maxSteps := 1000000) (disch := omega) [-List.getD_eq_getElem?_getD, hdv, e2]
      refine hK _ ?_; clear hK K
      refine hK3 _ ?_; clear hK3
      refine aw_reg0 fun K hK => ?_; simp (maxSteps := 1000000) (disch := omega) [-List.getD_eq_getElem?_getD]
      refine hK _ ?_; clear hK K
      refine ⟨k + 1, by show k + 1 ≤ 9; omega, by show 9 - (k + 1) < 9 - k; omega, ?_⟩
      rw [hq1, hst]
      refine weak_to [] [] ?_ ?_ ?_ ?_ (HOk.snoc HO (by simp)) ?_
      all_goals simp
    · have hk9 : k = 9 := by omega
      subst hk9
      refine aw_if rfl (fun h => absurd h (by simp)) (fun h => ?_)
      refine aw_exit ?_; simp (maxSteps := 1000000) (disch := omega) [-List.getD_eq_getElem?_getD]
      refine hK1 _ ?_; clear hK1
      have htk : List.take 9 (encB L) = encB L := List.take_of_length_le (by simp [encB, hl])
      refine aw_reg fun K hK => ?_; simp (maxSteps := 1000000) (disch := omega) [-List.getD_eq_getElem?_getD, hl, htk]; refine hK _ ?_; clear hK K
      refine aw_ret ?_; simp (maxSteps := 1000000) (disch := omega) [-List.getD_eq_getElem?_getD]
      rw [← hL]
      simp [nineS]

theorem changed_ok (s : List UInt8) (k : Nat) (c : UInt8) (hs : s.length ≤ 1000) (hk : k < s.length) (hc : c.toNat < 128) (H : List Blk) (T : Toks) :
    ACall Try.prog 21 [.str s, .int .i64 (k : Nat), .int .u8 (c.toNat : Int)] H T (Is (.str (s.set k c)) H T) := by
  have hc8 := enc1 c hc
  have hsz := enc1_size c hc
  have hw := wrap32 c
  have htk : List.take (s.length - (k + 1)) (List.drop (k + 1) s) = List.drop (k + 1) s := List.take_of_length_le (by rw [List.length_drop]; omega)
  have hset : s.set k c = s.take k ++ c :: s.drop (k + 1) := by rw [List.set_eq_take_append_cons_drop, if_pos hk]
  refine acall_enter 7 [] Try.ntmps21 Try.func21 rfl (fun _ _ => Try.call21 _ _) (by simp) (fun HO => ?_)
  refine aw_reg fun K hK => ?_; simp (maxSteps := 1000000) (disch := omega) [-List.getD_eq_getElem?_getD]; refine hK _ ?_; clear hK K
  refine aw_draw [] [] [] drawMixed (by kernel_rfl) (by kernel_rfl) fun K hK => ?_; simp (maxSteps := 1000000) (disch := omega) [-List.getD_eq_getElem?_getD, hc8, hsz, hw, htk]
  refine hK _ ?_; clear hK K
  refine aw_ret ?_; simp (maxSteps := 1000000) (disch := omega) [-List.getD_eq_getElem?_getD]
  rw [hset]
  refine ⟨?_, rfl, rfl⟩
  simp
end Go.Proofs.Ytlemepdiegacbaa
