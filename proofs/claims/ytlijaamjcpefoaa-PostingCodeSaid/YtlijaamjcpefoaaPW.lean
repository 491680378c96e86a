/- Int of layer 1 and of its reference.
   Conditions: lengths below 2^40. -/
import Derived.Test.YtlijaamjcpefoaaAmFacts
import Derived.Test.YtlijaamjcpefoaaAmGhost
import Derived.Test.YtlijaamjcpefoaaPF
import Derived.Test.YtlijaamjcpefoaaWEnc
namespace Go.Proofs.Ytlijaamjcpefoaa
open Go Go.Am Wire
set_option linter.unusedVariables false

theorem toNat_lo7 (u : Nat) : (lo7 u).toNat = u % 128 := by simp [lo7, UInt8.toNat_ofNat']; omega
theorem toNat_hi7 (u : Nat) : (hi7 u).toNat = u % 128 + 128 := by simp [hi7, UInt8.toNat_ofNat']; omega

theorem byte_lo {u : Nat} (h : u < 18446744073709551616) : IntKind.u8.wrap (bits .and .u64 (u : Int) 127) = ((lo7 u).toNat : Int) := by
  have h1 := bits_and_u64 u 127 h (by omega)
  have h2 : u &&& 127 = u % 128 := Nat.and_two_pow_sub_one_eq_mod u 7
  rw [h2] at h1
  rw [show ((127 : Nat) : Int) = 127 from rfl] at h1
  rw [h1, wrapU8 (by omega) (by omega), toNat_lo7]

theorem byte_hi (u : Nat) : bits .or .u8 ((lo7 u).toNat : Int) 128 = ((hi7 u).toNat : Int) := by
  rw [toNat_lo7, toNat_hi7]
  have h1 := bits_or_u8 (u % 128) 128 (by omega) (by omega)
  rw [show ((128 : Nat) : Int) = 128 from rfl] at h1
  rw [h1]
  have h2 := Nat.two_pow_add_eq_or_of_lt (i := 7) (b := u % 128) (by omega) 1
  rw [Nat.or_comm] at h2
  simp at h2
  omega

theorem xor_u64 {n : Int} (h1 : 0 ≤ n) (h2 : n < 18446744073709551616) : bits .xor .u64 18446744073709551615 n = 18446744073709551615 - n := by
  obtain ⟨k, rfl⟩ := Int.eq_ofNat_of_zero_le h1
  have e1 : (BitVec.ofInt 64 (18446744073709551615 : Int)) = BitVec.allOnes 64 := by decide
  have e2 : (BitVec.ofInt 64 (k : Int)).toNat = k := by rw [BitVec.ofInt_natCast, BitVec.toNat_ofNat]; exact Nat.mod_eq_of_lt (by omega)
  show IntKind.u64.wrap ((BitVec.ofInt 64 (18446744073709551615 : Int) ^^^ BitVec.ofInt 64 (k : Int)).toNat : Int) = _
  rw [e1, BitVec.allOnes_xor, BitVec.toNat_not, e2]
  rw [wrapU64 (by omega) (by omega)]
  omega

theorem fold_ok (n : Int) (h1 : -9223372036854775808 ≤ n) (h2 : n ≤ 9223372036854775807) (H : List Blk) (T : Toks) : ACall Try.prog 95 [.int .i64 n] H T (Is (.int .u64 (fo n : Nat)) H T) := by
  refine acall_enter 4 [] Try.ntmps95 Try.func95 rfl (fun _ _ => Try.call95 _ _) (by simp) (fun HO => ?_)
  refine aw_reg fun K hK => ?_; simp (maxSteps := 1000000) (disch := omega) [-List.getD_eq_getElem?_getD]; refine hK _ ?_; clear hK K
  refine aw_reg fun K hK => ?_; simp (maxSteps := 1000000) (disch := omega) [-List.getD_eq_getElem?_getD]; refine hK _ ?_; clear hK K
  refine aw_then fun K1 hK1 => ?_
  refine aw_reg fun K hK => ?_; simp (maxSteps := 1000000) (disch := omega) [-List.getD_eq_getElem?_getD]; refine hK _ ?_; clear hK K
  refine aw_if rfl (fun h => ?_) (fun h => ?_)
  · simp at h
    refine aw_reg fun K hK => ?_; simp (maxSteps := 1000000) (disch := omega) [-List.getD_eq_getElem?_getD]; refine hK _ ?_; clear hK K
    refine aw_ret ?_; simp (maxSteps := 1000000) (disch := omega) [-List.getD_eq_getElem?_getD]
    refine ⟨?_, rfl, rfl⟩
    have e : IntKind.u64.wrap (IntKind.u64.wrap n * 2) = 18446744073709551616 + n * 2 := by
      show (n % 18446744073709551616 * 2) % 18446744073709551616 = _
      omega
    rw [e, xor_u64 (by omega) (by omega)]
    simp only [fo, h, if_true]
    congr 1
    omega
  · simp at h
    refine aw_skip ?_; simp (maxSteps := 1000000) (disch := omega) [-List.getD_eq_getElem?_getD]
    refine hK1 _ ?_; clear hK1
    refine aw_reg fun K hK => ?_; simp (maxSteps := 1000000) (disch := omega) [-List.getD_eq_getElem?_getD]; refine hK _ ?_; clear hK K
    refine aw_ret ?_; simp (maxSteps := 1000000) (disch := omega) [-List.getD_eq_getElem?_getD]
    refine ⟨?_, rfl, rfl⟩
    have : ¬ n < 0 := by omega
    simp only [fo, this, if_false]
    congr 1
    omega

def grp (a : Nat) (sfx : List UInt8) : List AV := List.replicate a (.int .u8 0) ++ encB sfx
@[simp] theorem length_grp (a : Nat) (sfx : List UInt8) : (grp a sfx).length = a + sfx.length := by simp [grp]
theorem drop_grp {a k : Nat} {sfx : List UInt8} (h : sfx.length = k) : List.take k (List.drop a (grp a sfx)) = encB sfx := by
  unfold grp
  rw [List.drop_left' (by simp)]
  rw [List.take_of_length_le (by simp; omega)]
theorem set_grp (a : Nat) (sfx : List UInt8) (x : UInt8) : (grp (a + 1) sfx).set a (.int .u8 (x.toNat : Int)) = grp a (x :: sfx) := by
  unfold grp
  rw [List.replicate_succ', List.append_assoc]
  have := new_set0 (List.replicate a (AV.int .u8 0)) ([AV.int .u8 0] ++ encB sfx) (AV.int .u8 (x.toNat : Int))
  simp only [List.length_replicate] at this
  rw [this]
  simp [encB]

structure IntI (U : Nat) (x : Nat × Nat × List UInt8) : Prop where
  le : x.2.1 + x.2.2.length = 10
  lt : x.2.1 ≤ 9
  u : x.1 * 128 ^ x.2.2.length < 18446744073709551616
  e : encHi x.1 ++ x.2.2 = encN U

theorem int_ok (b : List UInt8) (k : Nat) (n : Int) (h1 : -9223372036854775808 ≤ n) (h2 : n ≤ 9223372036854775807) (H : List Blk) (T : Toks) (hT : T[k]? = some (b.length, 1)) (hb : b.length ≤ 1099511627776) :
    ACall Try.prog 77 [.sl b.length (encB b) (.own k), .int .i64 n] H T (Is (.sl (b ++ enc n).length (encB (b ++ enc n)) (.own k)) H (T.set k ((b ++ enc n).length, 1))) := by
  have hk := (List.getElem?_eq_some_iff.1 hT).1
  have hT' := (List.getElem?_eq_some_iff.1 hT).2
  have hlen := enc_len h1 h2
  have hfo := fo_lt h1 h2
  refine ACall.cut H _ (Nat.le_refl _) (by simp) (fun h => h.toks (by simp)) (by simp [hk]) ?_
  refine acall_enter 8 [] Try.ntmps77 Try.func77 rfl (fun _ _ => Try.call77 _ _) (by simp) (fun HO => ?_)
  refine aw_reg fun K hK => ?_; simp (maxSteps := 1000000) (disch := omega) [-List.getD_eq_getElem?_getD]; refine hK _ ?_; clear hK K
  refine aw_reg fun K hK => ?_; simp (maxSteps := 1000000) (disch := omega) [-List.getD_eq_getElem?_getD]; refine hK _ ?_; clear hK K
  refine aw_reg fun K hK => ?_; simp (maxSteps := 1000000) (disch := omega) [-List.getD_eq_getElem?_getD]
  refine acall_is (fold_ok n h1 h2 _ _) ?_; simp (maxSteps := 1000000) (disch := omega) [-List.getD_eq_getElem?_getD]
  refine hK _ ?_; clear hK K
  refine aw_reg fun K hK => ?_; simp (maxSteps := 1000000) (disch := omega) [-List.getD_eq_getElem?_getD]; refine hK _ ?_; clear hK K
  refine aw_reg fun K hK => ?_; simp (maxSteps := 1000000) (disch := omega) [-List.getD_eq_getElem?_getD]; refine hK _ ?_; clear hK K
  refine aw_then fun K1 hK1 => ?_
  refine aw_reg fun K hK => ?_; simp (maxSteps := 1000000) (disch := omega) [-List.getD_eq_getElem?_getD]; refine hK _ ?_; clear hK K
  refine aw_block ?_
  refine aw_loop (X := Nat × Nat × List UInt8) (fun x => ⟨[(0, .sl b.length (encB b) (.own k)), (5, .ptr H.length 0), (6, .int .u64 (x.1 : Nat)), (7, .int .i64 (x.2.1 : Nat))], H ++ [.cells (grp x.2.1 x.2.2)], T⟩) (IntI (fo n)) (fun x => x.1) ((fo n) / 128, 9, [lo7 (fo n)]) ?_ ?_ ?_
  · exact ⟨rfl, by simp, by simp; omega, rfl⟩
  · refine weak_to [] [] ?_ ?_ ?_ ?_ ?_ ?_
    · simp [byte_lo hfo, grp, encB, List.replicate_succ]
    · simp
    · simp
    · simp
    · refine HOk.snoc HO ?_
      simp [grp]
    · simp [hk]
  · rintro ⟨u, a, sfx⟩ ⟨hle, hlt, hu, he⟩
    simp at hle hlt hu he
    refine aw_then fun K2 hK2 => ?_
    refine aw_reg fun K hK => ?_; simp (maxSteps := 1000000) (disch := omega) [-List.getD_eq_getElem?_getD]; refine hK _ ?_; clear hK K
    refine aw_if rfl (fun h => ?_) (fun h => ?_)
    · simp at h
      obtain ⟨a, rfl⟩ : ∃ a', a = a' + 1 := by
        rcases Nat.eq_zero_or_pos a with h0 | h0
        · exfalso
          have : sfx.length = 10 := by omega
          rw [this] at hu
          omega
        · exact ⟨a - 1, by omega⟩
      have hu64 : u < 18446744073709551616 := Nat.lt_of_le_of_lt (Nat.le_mul_of_pos_right _ (Nat.pow_pos (by omega))) hu
      refine aw_skip ?_; simp (maxSteps := 1000000) (disch := omega) [-List.getD_eq_getElem?_getD]
      refine hK2 _ ?_; clear hK2
      refine aw_then fun K3 hK3 => ?_
      refine aw_block ?_
      refine aw_reg fun K hK => ?_; simp (maxSteps := 1000000) (disch := omega) [-List.getD_eq_getElem?_getD]; refine hK _ ?_; clear hK K
      refine aw_reg0 fun K hK => ?_; simp (maxSteps := 1000000) (disch := omega) [-List.getD_eq_getElem?_getD, byte_lo hu64, byte_hi, set_grp]
      refine hK _ ?_; clear hK K
      (try simp (maxSteps := 1000000) (disch := omega) [-List.getD_eq_getElem?_getD])
      refine hK3 _ ?_; clear hK3
      refine aw_reg0 fun K hK => ?_; simp (maxSteps := 1000000) (disch := omega) [-List.getD_eq_getElem?_getD]
      refine hK _ ?_; clear hK K
      (try simp (maxSteps := 1000000) (disch := omega) [-List.getD_eq_getElem?_getD])
      refine ⟨u / 128, a, hi7 u :: sfx, ⟨by simp; omega, by show a ≤ 9; omega, ?_, ?_⟩, by omega, ?_⟩
      · simp only [List.length_cons, Nat.pow_succ]
        have : u / 128 * (128 ^ sfx.length * 128) ≤ u * 128 ^ sfx.length := by
          rw [Nat.mul_comm (128 ^ sfx.length) 128, ← Nat.mul_assoc]
          exact Nat.mul_le_mul_right _ (Nat.div_mul_le_self u 128)
        show u / 128 * (128 ^ sfx.length * 128) < _
        omega
      · rw [← he, encHi_pos h]; simp
      · refine weak_to [] [] ?_ ?_ ?_ ?_ ?_ ?_
        · simp
        · simp
        · simp
        · simp
        · exact HOk.snoc HO (by simp [grp])
        · simp [hk]
    · simp at h
      subst h
      rw [encHi_zero] at he
      simp at he
      subst he
      have hdr := drop_grp (a := a) (k := 10 - a) (sfx := encN (fo n)) (by omega)
      refine aw_exit ?_; simp (maxSteps := 1000000) (disch := omega) [-List.getD_eq_getElem?_getD]
      refine hK1 _ ?_; clear hK1
      refine aw_reg fun K hK => ?_; simp (maxSteps := 1000000) (disch := omega) [-List.getD_eq_getElem?_getD, hdr, hT']
      refine hK _ ?_; clear hK K
      refine aw_ret ?_; simp (maxSteps := 1000000) (disch := omega) [-List.getD_eq_getElem?_getD]
      have e2 : 10 - a = (enc n).length := by unfold enc; omega
      rw [e2]
      exact ⟨⟨[], by simp⟩, by simp [encB_append, enc]⟩

/-- The same for a slice without room behind it. -/
theorem int_full (b : List UInt8) (n : Int) (h1 : -9223372036854775808 ≤ n) (h2 : n ≤ 9223372036854775807) (H : List Blk) (T : Toks) (hb : b.length ≤ 1099511627776) :
    ACall Try.prog 77 [.sl b.length (encB b) .full, .int .i64 n] H T (Is (.sl (b ++ enc n).length (encB (b ++ enc n)) (.own T.length)) H (T ++ [((b ++ enc n).length, 1)])) := by
  refine ACall.own0 (z := 1) (by omega) ?_
  have := int_ok b T.length n h1 h2 H (T ++ [((encB b).length, 1)]) (by simp) hb
  simpa using this
theorem folded_ok (n : Int) (h1 : -9223372036854775808 ≤ n) (h2 : n ≤ 9223372036854775807) (H : List Blk) (T : Toks) : ACall Try.prog 96 [.int .i64 n] H T (Is (.int .u64 (fo n : Nat)) H T) := by
  refine acall_enter 3 [] Try.ntmps96 Try.func96 rfl (fun _ _ => Try.call96 _ _) (by simp) (fun HO => ?_)
  refine aw_reg fun K hK => ?_; simp (maxSteps := 1000000) (disch := omega) [-List.getD_eq_getElem?_getD]; refine hK _ ?_; clear hK K
  refine aw_then fun K1 hK1 => ?_
  refine aw_reg fun K hK => ?_; simp (maxSteps := 1000000) (disch := omega) [-List.getD_eq_getElem?_getD]; refine hK _ ?_; clear hK K
  refine aw_if rfl (fun h => ?_) (fun h => ?_)
  · simp at h
    refine aw_reg fun K hK => ?_; simp (maxSteps := 1000000) (disch := omega) [-List.getD_eq_getElem?_getD]; refine hK _ ?_; clear hK K
    refine aw_ret ?_; simp (maxSteps := 1000000) (disch := omega) [-List.getD_eq_getElem?_getD]
    refine ⟨?_, rfl, rfl⟩
    have : ¬ n < 0 := by omega
    simp only [fo, this, if_false]
    congr 1
    omega
  · simp at h
    refine aw_skip ?_; simp (maxSteps := 1000000) (disch := omega) [-List.getD_eq_getElem?_getD]
    refine hK1 _ ?_; clear hK1
    refine aw_reg fun K hK => ?_; simp (maxSteps := 1000000) (disch := omega) [-List.getD_eq_getElem?_getD]; refine hK _ ?_; clear hK K
    refine aw_ret ?_; simp (maxSteps := 1000000) (disch := omega) [-List.getD_eq_getElem?_getD]
    refine ⟨?_, rfl, rfl⟩
    simp only [fo, h, if_true]
    congr 1
    omega

theorem sameB_ok (a b : List UInt8) (H : List Blk) (T : Toks) (ta tb : Tag) : ACall Try.prog 46 [.sl a.length (encB a) ta, .sl b.length (encB b) tb] H T (Is (.bool (a == b)) H T) := by
  refine acall_enter 5 [] Try.ntmps46 Try.func46 rfl (fun _ _ => Try.call46 _ _) (by simp) (fun HO => ?_)
  refine aw_reg fun K hK => ?_; simp (maxSteps := 1000000) (disch := omega) [-List.getD_eq_getElem?_getD]; refine hK _ ?_; clear hK K
  refine aw_reg fun K hK => ?_; simp (maxSteps := 1000000) (disch := omega) [-List.getD_eq_getElem?_getD]; refine hK _ ?_; clear hK K
  refine aw_ret ?_; simp (maxSteps := 1000000) (disch := omega) [-List.getD_eq_getElem?_getD]
  exact ⟨rfl, rfl, rfl⟩

end Go.Proofs.Ytlijaamjcpefoaa
