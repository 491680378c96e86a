/- The functions of layer 1 that append, as contracts over lists.
   Conditions: lengths below 2^40. -/
import Derived.Test.YtgnhfcncbkikgaaAmFacts
import Derived.Test.YtgnhfcncbkikgaaWEnc
namespace Go.Proofs.Ytgnhfcncbkikgaa
open Go Go.Am Wire
set_option linter.unusedVariables false

theorem toNat_lo7 (u : Nat) : (lo7 u).toNat = u % 128 := by simp [lo7, UInt8.toNat_ofNat']; omega
theorem toNat_hi7 (u : Nat) : (hi7 u).toNat = u % 128 + 128 := by simp [hi7, UInt8.toNat_ofNat']; omega

theorem byte_lo {u : Nat} (h : u < 18446744073709551616) : IntKind.u8.wrap (bits .and .u64 (u : Int) 127) = ((lo7 u).toNat : Int) := by
  have h1 := bits_and_u64 u 127 h (by omega)
  have h2 : u &&& 127 = u % 128 := Nat.and_two_pow_sub_one_eq_mod u 7
  rw [h2] at h1
  rw [show ((127 : Nat) : Int) = 127 from rfl] at h1
  rw [h1, wrapU8 (by omega) (by omega), toNat_lo7]

theorem byte_hi (u : Nat) : bits .or .u8 ((lo7 u).toNat : Int) 128 = ((hi7 u).toNat : Int) := by
  rw [toNat_lo7, toNat_hi7]
  have h1 := bits_or_u8 (u % 128) 128 (by omega) (by omega)
  rw [show ((128 : Nat) : Int) = 128 from rfl] at h1
  rw [h1]
  have h2 := Nat.two_pow_add_eq_or_of_lt (i := 7) (b := u % 128) (by omega) 1
  rw [Nat.or_comm] at h2
  simp at h2
  omega

theorem xor_u64 {n : Int} (h1 : 0 ≤ n) (h2 : n < 18446744073709551616) : bits .xor .u64 18446744073709551615 n = 18446744073709551615 - n := by
  obtain ⟨k, rfl⟩ := Int.eq_ofNat_of_zero_le h1
  have e1 : (BitVec.ofInt 64 (18446744073709551615 : Int)) = BitVec.allOnes 64 := by decide
  have e2 : (BitVec.ofInt 64 (k : Int)).toNat = k := by rw [BitVec.ofInt_natCast, BitVec.toNat_ofNat]; exact Nat.mod_eq_of_lt (by omega)
  show IntKind.u64.wrap ((BitVec.ofInt 64 (18446744073709551615 : Int) ^^^ BitVec.ofInt 64 (k : Int)).toNat : Int) = _
  rw [e1, BitVec.allOnes_xor, BitVec.toNat_not, e2]
  rw [wrapU64 (by omega) (by omega)]
  omega

theorem fold_ok (n : Int) (h1 : -9223372036854775808 ≤ n) (h2 : n ≤ 9223372036854775807) (H : List Blk) (T : Toks) : ACall Try.prog 32 [.int .i64 n] H T (Is (.int .u64 (fo n : Nat)) H T) := by
  refine acall_enter 4 [] Try.ntmps32 Try.func32 rfl (fun _ _ => Try.call32 _ _) (by simp) (fun HO => ?_)
  refine aw_reg fun K hK => ?_; simp (maxSteps := 200000) (disch := omega) [-List.getD_eq_getElem?_getD]; refine hK _ ?_; clear hK K
  refine aw_reg fun K hK => ?_; simp (maxSteps := 200000) (disch := omega) [-List.getD_eq_getElem?_getD]; refine hK _ ?_; clear hK K
  refine aw_then fun K1 hK1 => ?_
  refine aw_reg fun K hK => ?_; simp (maxSteps := 200000) (disch := omega) [-List.getD_eq_getElem?_getD]; refine hK _ ?_; clear hK K
  refine aw_if rfl (fun h => ?_) (fun h => ?_)
  · simp at h
    refine aw_reg fun K hK => ?_; simp (maxSteps := 200000) (disch := omega) [-List.getD_eq_getElem?_getD]; refine hK _ ?_; clear hK K
    refine aw_ret ?_; simp (maxSteps := 200000) (disch := omega) [-List.getD_eq_getElem?_getD]
    refine ⟨?_, rfl, rfl⟩
    have e : IntKind.u64.wrap (IntKind.u64.wrap n * 2) = 18446744073709551616 + n * 2 := by
      show (n % 18446744073709551616 * 2) % 18446744073709551616 = _
      omega
    rw [e, xor_u64 (by omega) (by omega)]
    simp only [fo, h, if_true]
    congr 1
    omega
  · simp at h
    refine aw_skip ?_; simp (maxSteps := 200000) (disch := omega) [-List.getD_eq_getElem?_getD]
    refine hK1 _ ?_; clear hK1
    refine aw_reg fun K hK => ?_; simp (maxSteps := 200000) (disch := omega) [-List.getD_eq_getElem?_getD]; refine hK _ ?_; clear hK K
    refine aw_ret ?_; simp (maxSteps := 200000) (disch := omega) [-List.getD_eq_getElem?_getD]
    refine ⟨?_, rfl, rfl⟩
    have : ¬ n < 0 := by omega
    simp only [fo, this, if_false]
    congr 1
    omega

def grp (a : Nat) (sfx : List UInt8) : List AV := List.replicate a (.int .u8 0) ++ encB sfx
@[simp] theorem length_grp (a : Nat) (sfx : List UInt8) : (grp a sfx).length = a + sfx.length := by simp [grp]
theorem drop_grp {a k : Nat} {sfx : List UInt8} (h : sfx.length = k) : List.take k (List.drop a (grp a sfx)) = encB sfx := by
  unfold grp
  rw [List.drop_left' (by simp)]
  rw [List.take_of_length_le (by simp; omega)]
theorem set_grp (a : Nat) (sfx : List UInt8) (x : UInt8) : (grp (a + 1) sfx).set a (.int .u8 (x.toNat : Int)) = grp a (x :: sfx) := by
  unfold grp
  rw [List.replicate_succ', List.append_assoc]
  have := new_set0 (List.replicate a (AV.int .u8 0)) ([AV.int .u8 0] ++ encB sfx) (AV.int .u8 (x.toNat : Int))
  simp only [List.length_replicate] at this
  rw [this]
  simp [encB]

structure IntI (U : Nat) (x : Nat × Nat × List UInt8) : Prop where
  le : x.2.1 + x.2.2.length = 10
  lt : x.2.1 ≤ 9
  u : x.1 * 128 ^ x.2.2.length < 18446744073709551616
  e : encHi x.1 ++ x.2.2 = encN U

theorem int_ok (b : List UInt8) (k : Nat) (n : Int) (h1 : -9223372036854775808 ≤ n) (h2 : n ≤ 9223372036854775807) (H : List Blk) (T : Toks) (hT : T[k]? = some (b.length, 1)) (hb : b.length ≤ 1099511627776) :
    ACall Try.prog 10 [.sl b.length (encB b) (.own k), .int .i64 n] H T (Is (.sl (b ++ enc n).length (encB (b ++ enc n)) (.own k)) H (T.set k ((b ++ enc n).length, 1))) := by
  have hk := (List.getElem?_eq_some_iff.1 hT).1
  have hT' := (List.getElem?_eq_some_iff.1 hT).2
  have hlen := enc_len h1 h2
  have hfo := fo_lt h1 h2
  refine ACall.cut H _ (Nat.le_refl _) (by simp) (fun h => h.toks (by simp)) (by simp [hk]) ?_
  refine acall_enter 8 [] Try.ntmps10 Try.func10 rfl (fun _ _ => Try.call10 _ _) (by simp) (fun HO => ?_)
  refine aw_reg fun K hK => ?_; simp (maxSteps := 200000) (disch := omega) [-List.getD_eq_getElem?_getD]; refine hK _ ?_; clear hK K
  refine aw_reg fun K hK => ?_; simp (maxSteps := 200000) (disch := omega) [-List.getD_eq_getElem?_getD]; refine hK _ ?_; clear hK K
  refine aw_reg fun K hK => ?_; simp (maxSteps := 200000) (disch := omega) [-List.getD_eq_getElem?_getD]
  refine acall_is (fold_ok n h1 h2 _ _) ?_; simp (maxSteps := 200000) (disch := omega) [-List.getD_eq_getElem?_getD]
  refine hK _ ?_; clear hK K
  refine aw_reg fun K hK => ?_; simp (maxSteps := 200000) (disch := omega) [-List.getD_eq_getElem?_getD]; refine hK _ ?_; clear hK K
  refine aw_reg fun K hK => ?_; simp (maxSteps := 200000) (disch := omega) [-List.getD_eq_getElem?_getD]; refine hK _ ?_; clear hK K
  refine aw_then fun K1 hK1 => ?_
  refine aw_reg fun K hK => ?_; simp (maxSteps := 200000) (disch := omega) [-List.getD_eq_getElem?_getD]; refine hK _ ?_; clear hK K
  refine aw_block ?_
  refine aw_loop (X := Nat × Nat × List UInt8) (fun x => ⟨[(0, .sl b.length (encB b) (.own k)), (5, .ptr H.length 0), (6, .int .u64 (x.1 : Nat)), (7, .int .i64 (x.2.1 : Nat))], H ++ [.cells (grp x.2.1 x.2.2)], T⟩) (IntI (fo n)) (fun x => x.1) ((fo n) / 128, 9, [lo7 (fo n)]) ?_ ?_ ?_
  · exact ⟨rfl, by simp, by simp; omega, rfl⟩
  · refine weak_to [] [] ?_ ?_ ?_ ?_ ?_ ?_
    · simp [byte_lo hfo, grp, encB, List.replicate_succ]
    · simp
    · simp
    · simp
    · refine HOk.snoc HO ?_
      simp [grp]
    · simp [hk]
  · rintro ⟨u, a, sfx⟩ ⟨hle, hlt, hu, he⟩
    simp at hle hlt hu he
    refine aw_then fun K2 hK2 => ?_
    refine aw_reg fun K hK => ?_; simp (maxSteps := 200000) (disch := omega) [-List.getD_eq_getElem?_getD]; refine hK _ ?_; clear hK K
    refine aw_if rfl (fun h => ?_) (fun h => ?_)
    · simp at h
      obtain ⟨a, rfl⟩ : ∃ a', a = a' + 1 := by
        rcases Nat.eq_zero_or_pos a with h0 | h0
        · exfalso
          have : sfx.length = 10 := by omega
          rw [this] at hu
          omega
        · exact ⟨a - 1, by omega⟩
      have hu64 : u < 18446744073709551616 := Nat.lt_of_le_of_lt (Nat.le_mul_of_pos_right _ (Nat.pow_pos (by omega))) hu
      refine aw_skip ?_; simp (maxSteps := 200000) (disch := omega) [-List.getD_eq_getElem?_getD]
      refine hK2 _ ?_; clear hK2
      refine aw_then fun K3 hK3 => ?_
      refine aw_block ?_
      refine aw_reg fun K hK => ?_; simp (maxSteps := 200000) (disch := omega) [-List.getD_eq_getElem?_getD]; refine hK _ ?_; clear hK K
      refine aw_reg0 fun K hK => ?_; simp (maxSteps := 200000) (disch := omega) [-List.getD_eq_getElem?_getD, byte_lo hu64, byte_hi, set_grp]
      refine hK _ ?_; clear hK K
      (try simp (maxSteps := 200000) (disch := omega) [-List.getD_eq_getElem?_getD])
      refine hK3 _ ?_; clear hK3
      refine aw_reg0 fun K hK => ?_; simp (maxSteps := 200000) (disch := omega) [-List.getD_eq_getElem?_getD]
      refine hK _ ?_; clear hK K
      (try simp (maxSteps := 200000) (disch := omega) [-List.getD_eq_getElem?_getD])
      refine ⟨u / 128, a, hi7 u :: sfx, ⟨by simp; omega, by show a ≤ 9; omega, ?_, ?_⟩, by omega, ?_⟩
      · simp only [List.length_cons, Nat.pow_succ]
        have : u / 128 * (128 ^ sfx.length * 128) ≤ u * 128 ^ sfx.length := by
          rw [Nat.mul_comm (128 ^ sfx.length) 128, ← Nat.mul_assoc]
          exact Nat.mul_le_mul_right _ (Nat.div_mul_le_self u 128)
        show u / 128 * (128 ^ sfx.length * 128) < _
        omega
      · rw [← he, encHi_pos h]; simp
      · refine weak_to [] [] ?_ ?_ ?_ ?_ ?_ ?_
        · simp
        · simp
        · simp
        · simp
        · exact HOk.snoc HO (by simp [grp])
        · simp [hk]
    · simp at h
      subst h
      rw [encHi_zero] at he
      simp at he
      subst he
      have hdr := drop_grp (a := a) (k := 10 - a) (sfx := encN (fo n)) (by omega)
      refine aw_exit ?_; simp (maxSteps := 200000) (disch := omega) [-List.getD_eq_getElem?_getD]
      refine hK1 _ ?_; clear hK1
      refine aw_reg fun K hK => ?_; simp (maxSteps := 200000) (disch := omega) [-List.getD_eq_getElem?_getD, hdr, hT']
      refine hK _ ?_; clear hK K
      refine aw_ret ?_; simp (maxSteps := 200000) (disch := omega) [-List.getD_eq_getElem?_getD]
      have e2 : 10 - a = (enc n).length := by unfold enc; omega
      rw [e2]
      exact ⟨⟨[], by simp⟩, by simp [encB_append, enc]⟩

/-- The same for a slice without room behind it. -/
theorem int_full (b : List UInt8) (n : Int) (h1 : -9223372036854775808 ≤ n) (h2 : n ≤ 9223372036854775807) (H : List Blk) (T : Toks) (hb : b.length ≤ 1099511627776) :
    ACall Try.prog 10 [.sl b.length (encB b) .full, .int .i64 n] H T (Is (.sl (b ++ enc n).length (encB (b ++ enc n)) (.own T.length)) H (T ++ [((b ++ enc n).length, 1)])) := by
  refine ACall.own0 (z := 1) (by omega) ?_
  have := int_ok b T.length n h1 h2 H (T ++ [((encB b).length, 1)]) (by simp) hb
  simpa using this

theorem bool_ok (b : List UInt8) (k : Nat) (v : Bool) (H : List Blk) (T : Toks) (hT : T[k]? = some (b.length, 1)) (hb : b.length ≤ 1099511627776) :
    ACall Try.prog 28 [.sl b.length (encB b) (.own k), .bool v] H T (Is (.sl (b ++ enc (if v then 1 else 0)).length (encB (b ++ enc (if v then 1 else 0))) (.own k)) H (T.set k ((b ++ enc (if v then 1 else 0)).length, 1))) := by
  cases v
  · refine acall_enter 5 [] Try.ntmps28 Try.func28 rfl (fun _ _ => Try.call28 _ _) (by simp) (fun HO => ?_)
    refine aw_reg fun K hK => ?_; simp (maxSteps := 200000) (disch := omega) [-List.getD_eq_getElem?_getD]; refine hK _ ?_; clear hK K
    refine aw_then fun K1 hK1 => ?_
    refine aw_reg fun K hK => ?_; simp (maxSteps := 200000) (disch := omega) [-List.getD_eq_getElem?_getD]; refine hK _ ?_; clear hK K
    refine aw_if rfl (fun h => absurd h (by simp)) (fun h => ?_)
    refine aw_skip ?_; simp (maxSteps := 200000) (disch := omega) [-List.getD_eq_getElem?_getD]
    refine hK1 _ ?_; clear hK1
    refine aw_reg fun K hK => ?_; simp (maxSteps := 200000) (disch := omega) [-List.getD_eq_getElem?_getD]
    refine acall_is (int_ok b k 0 (by omega) (by omega) _ _ hT hb) ?_; simp (maxSteps := 200000) (disch := omega) [-List.getD_eq_getElem?_getD]
    refine hK _ ?_; clear hK K
    refine aw_ret ?_; simp (maxSteps := 200000) (disch := omega) [-List.getD_eq_getElem?_getD]
    exact ⟨by simp, rfl, by simp⟩
  · refine acall_enter 5 [] Try.ntmps28 Try.func28 rfl (fun _ _ => Try.call28 _ _) (by simp) (fun HO => ?_)
    refine aw_reg fun K hK => ?_; simp (maxSteps := 200000) (disch := omega) [-List.getD_eq_getElem?_getD]; refine hK _ ?_; clear hK K
    refine aw_then fun K1 hK1 => ?_
    refine aw_reg fun K hK => ?_; simp (maxSteps := 200000) (disch := omega) [-List.getD_eq_getElem?_getD]; refine hK _ ?_; clear hK K
    refine aw_if rfl (fun h => ?_) (fun h => absurd h (by simp))
    refine aw_reg fun K hK => ?_; simp (maxSteps := 200000) (disch := omega) [-List.getD_eq_getElem?_getD]
    refine acall_is (int_ok b k 1 (by omega) (by omega) _ _ hT hb) ?_; simp (maxSteps := 200000) (disch := omega) [-List.getD_eq_getElem?_getD]
    refine hK _ ?_; clear hK K
    refine aw_ret ?_; simp (maxSteps := 200000) (disch := omega) [-List.getD_eq_getElem?_getD]
    exact ⟨by simp, rfl, by simp⟩

theorem text_ok (b s : List UInt8) (k : Nat) (H : List Blk) (T : Toks) (hT : T[k]? = some (b.length, 1)) (hb : b.length + s.length ≤ 1099511627776) :
    ACall Try.prog 29 [.sl b.length (encB b) (.own k), .str s] H T (Is (.sl (b ++ encText s).length (encB (b ++ encText s)) (.own k)) H (T.set k ((b ++ encText s).length, 1))) := by
  have hk := (List.getElem?_eq_some_iff.1 hT).1
  have hl := enc_len (n := s.length) (by omega) (by omega)
  refine acall_enter 5 [] Try.ntmps29 Try.func29 rfl (fun _ _ => Try.call29 _ _) (by simp) (fun HO => ?_)
  refine aw_reg fun K hK => ?_; simp (maxSteps := 200000) (disch := omega) [-List.getD_eq_getElem?_getD]; refine hK _ ?_; clear hK K
  refine aw_reg fun K hK => ?_; simp (maxSteps := 200000) (disch := omega) [-List.getD_eq_getElem?_getD]
  refine acall_is (int_ok b k s.length (by omega) (by omega) _ _ hT (by omega)) ?_; simp (maxSteps := 200000) (disch := omega) [-List.getD_eq_getElem?_getD, hk]
  refine hK _ ?_; clear hK K
  refine aw_ret ?_; simp (maxSteps := 200000) (disch := omega) [-List.getD_eq_getElem?_getD]
  refine ⟨?_, rfl, ?_⟩
  · simp [encText, encB_append, Nat.add_assoc]
  · simp [encText, Nat.add_assoc]

theorem list_int_ok (b : List UInt8) (k : Nat) (l : List Int) (H : List Blk) (T : Toks) (hT : T[k]? = some (b.length, 1)) (hl : ∀ x ∈ l, inI x) (hb : b.length + 10 + 10 * l.length ≤ 1099511627776) :
    ACall Try.prog 44 [.sl b.length (encB b) (.own k), .sl l.length (ints l) .none, .fn 10 [] []] H T (Is (.sl (b ++ encInts l).length (encB (b ++ encInts l)) (.own k)) H (T.set k ((b ++ encInts l).length, 1))) := by
  have hk := (List.getElem?_eq_some_iff.1 hT).1
  have hal := fun i => acc_len b l enc 10 i (by omega) (fun x hx => (enc_len (hl x hx).1 (hl x hx).2).2)
  refine ACall.is (r := .sl (acc b l enc l.length).length (encB (acc b l enc l.length)) (.own k)) (H' := H) (T' := T.set k ((acc b l enc l.length).length, 1)) ?_ (by rw [acc_all]; rfl) rfl (by rw [acc_all]; rfl)
  refine acall_enter 16 [] Try.ntmps44 Try.func44 rfl (fun _ _ => Try.call44 _ _) (by simp) (fun HO => ?_)
  refine aw_reg fun K hK => ?_; simp (maxSteps := 200000) (disch := omega) [-List.getD_eq_getElem?_getD]; refine hK _ ?_; clear hK K
  refine aw_reg fun K hK => ?_; simp (maxSteps := 200000) (disch := omega) [-List.getD_eq_getElem?_getD]
  refine acall_is (int_ok b k l.length (by omega) (by omega) _ _ hT (by omega)) ?_; simp (maxSteps := 200000) (disch := omega) [-List.getD_eq_getElem?_getD]
  rw [← acc_zero b l enc]
  refine hK _ ?_; clear hK K
  refine aw_then fun K1 hK1 => ?_
  refine aw_reg fun K hK => ?_; simp (maxSteps := 200000) (disch := omega) [-List.getD_eq_getElem?_getD]; refine hK _ ?_; clear hK K
  refine aw_block ?_
  refine aw_loop (X := Nat) (fun i => ⟨[(0, .sl (acc b l enc i).length (encB (acc b l enc i)) (.own k)), (1, .sl l.length (ints l) .none), (2, .fn 10 [] []), (13, .sl l.length (ints l) .none), (14, .int .i64 l.length), (15, .int .i64 i)], H, T.set k ((acc b l enc i).length, 1)⟩) (fun i => i ≤ l.length) (fun i => l.length - i) 0 (by omega) ?_ ?_
  · refine weak_to [] [] ?_ ?_ ?_ ?_ ?_ ?_
    · simp
    · simp [acc_zero]
    · simp
    · simp
    · exact HO.toks (by simp)
    · simp [hk, acc_zero]
  · intro i hi
    refine aw_reg fun K hK => ?_; simp (maxSteps := 200000) (disch := omega) [-List.getD_eq_getElem?_getD]; refine hK _ ?_; clear hK K
    refine aw_then fun K2 hK2 => ?_
    refine aw_if rfl (fun h => ?_) (fun h => ?_)
    · simp at h
      have hx := hl _ (getD_mem l i 0 h)
      have ha := hal i
      refine aw_skip ?_; simp (maxSteps := 200000) (disch := omega) [-List.getD_eq_getElem?_getD]
      refine hK2 _ ?_; clear hK2
      refine aw_then fun K3 hK3 => ?_
      refine aw_block ?_
      refine aw_reg fun K hK => ?_; simp (maxSteps := 200000) (disch := omega) [-List.getD_eq_getElem?_getD, getD_ints h]; refine hK _ ?_; clear hK K
      refine aw_reg0 fun K hK => ?_; simp (maxSteps := 200000) (disch := omega) [-List.getD_eq_getElem?_getD]
      have hc := int_ok (acc b l enc i) k (l.getD i 0) hx.1 hx.2 H (T.set k ((acc b l enc i).length, 1)) (by simp [hk]) (by omega)
      rw [acc_succ b l enc i 0 h] at hc
      refine acall_is (hc) ?_; simp (maxSteps := 200000) (disch := omega) [-List.getD_eq_getElem?_getD, hk]
      refine hK _ ?_; clear hK K
      (try simp (maxSteps := 200000) (disch := omega) [-List.getD_eq_getElem?_getD])
      refine hK3 _ ?_; clear hK3
      refine aw_reg0 fun K hK => ?_; simp (maxSteps := 200000) (disch := omega) [-List.getD_eq_getElem?_getD]
      refine hK _ ?_; clear hK K
      refine ⟨i + 1, h, by omega, ?_⟩
      refine weak_to [] [] ?_ ?_ ?_ ?_ ?_ ?_
      · simp
      · simp
      · simp
      · simp
      · exact HO.toks (by simp)
      · simp [hk]
    · simp at h
      have : i = l.length := by omega
      subst this
      refine aw_exit ?_; simp (maxSteps := 200000) (disch := omega) [-List.getD_eq_getElem?_getD]
      refine hK1 _ ?_; clear hK1
      refine aw_reg fun K hK => ?_; simp (maxSteps := 200000) (disch := omega) [-List.getD_eq_getElem?_getD]; refine hK _ ?_; clear hK K
      refine aw_ret ?_; simp (maxSteps := 200000) (disch := omega) [-List.getD_eq_getElem?_getD]
      exact ⟨rfl, rfl, rfl⟩

theorem list_text_ok (b : List UInt8) (k : Nat) (l : List (List UInt8)) (H : List Blk) (T : Toks) (hT : T[k]? = some (b.length, 1)) (m : Nat) (hl : ∀ x ∈ l, (encText x).length ≤ m) (hb : b.length + 10 + m * l.length ≤ 1099511627776) (hll : l.length ≤ 1099511627776) :
    ACall Try.prog 45 [.sl b.length (encB b) (.own k), .sl l.length (strs l) .none, (.fn 29 [] [])] H T (Is (.sl (b ++ encTexts l).length (encB (b ++ encTexts l)) (.own k)) H (T.set k ((b ++ encTexts l).length, 1))) := by
  have hk := (List.getElem?_eq_some_iff.1 hT).1
  have hal := fun i => acc_len b l encText m i (by omega) hl
  refine ACall.is (r := .sl (acc b l encText l.length).length (encB (acc b l encText l.length)) (.own k)) (H' := H) (T' := T.set k ((acc b l encText l.length).length, 1)) ?_ (by rw [acc_all]; rfl) rfl (by rw [acc_all]; rfl)
  refine acall_enter 16 [] Try.ntmps45 Try.func45 rfl (fun _ _ => Try.call45 _ _) (by simp) (fun HO => ?_)
  refine aw_reg fun K hK => ?_; simp (maxSteps := 200000) (disch := omega) [-List.getD_eq_getElem?_getD]; refine hK _ ?_; clear hK K
  refine aw_reg fun K hK => ?_; simp (maxSteps := 200000) (disch := omega) [-List.getD_eq_getElem?_getD]
  refine acall_is (int_ok b k l.length (by omega) (by omega) _ _ hT (by omega)) ?_; simp (maxSteps := 200000) (disch := omega) [-List.getD_eq_getElem?_getD]
  rw [← acc_zero b l encText]
  refine hK _ ?_; clear hK K
  refine aw_then fun K1 hK1 => ?_
  refine aw_reg fun K hK => ?_; simp (maxSteps := 200000) (disch := omega) [-List.getD_eq_getElem?_getD]; refine hK _ ?_; clear hK K
  refine aw_block ?_
  refine aw_loop (X := Nat) (fun i => ⟨[(0, .sl (acc b l encText i).length (encB (acc b l encText i)) (.own k)), (1, .sl l.length (strs l) .none), (2, (.fn 29 [] [])), (13, .sl l.length (strs l) .none), (14, .int .i64 l.length), (15, .int .i64 i)], H, T.set k ((acc b l encText i).length, 1)⟩) (fun i => i ≤ l.length) (fun i => l.length - i) 0 (by omega) ?_ ?_
  · refine weak_to [] [] ?_ ?_ ?_ ?_ ?_ ?_
    · simp
    · simp [acc_zero]
    · simp
    · simp
    · exact HO.toks (by simp)
    · simp [hk, acc_zero]
  · intro i hi
    refine aw_reg fun K hK => ?_; simp (maxSteps := 200000) (disch := omega) [-List.getD_eq_getElem?_getD]; refine hK _ ?_; clear hK K
    refine aw_then fun K2 hK2 => ?_
    refine aw_if rfl (fun h => ?_) (fun h => ?_)
    · simp at h
      have hx := hl _ (getD_mem l i [] h)
      have ha := hal i
      refine aw_skip ?_; simp (maxSteps := 200000) (disch := omega) [-List.getD_eq_getElem?_getD]
      refine hK2 _ ?_; clear hK2
      refine aw_then fun K3 hK3 => ?_
      refine aw_block ?_
      refine aw_reg fun K hK => ?_; simp (maxSteps := 200000) (disch := omega) [-List.getD_eq_getElem?_getD, getD_strs h]; refine hK _ ?_; clear hK K
      refine aw_reg0 fun K hK => ?_; simp (maxSteps := 200000) (disch := omega) [-List.getD_eq_getElem?_getD]
      have hc := text_ok (acc b l encText i) (l.getD i []) k H (T.set k ((acc b l encText i).length, 1)) (by simp [hk]) (by simp only [encText, List.length_append] at hx; have := acc_step b l encText m i [] (by omega) hl h; simp only [encText, List.length_append] at this; omega)
      rw [acc_succ b l encText i [] h] at hc
      refine acall_is (hc) ?_; simp (maxSteps := 200000) (disch := omega) [-List.getD_eq_getElem?_getD, hk]
      refine hK _ ?_; clear hK K
      (try simp (maxSteps := 200000) (disch := omega) [-List.getD_eq_getElem?_getD])
      refine hK3 _ ?_; clear hK3
      refine aw_reg0 fun K hK => ?_; simp (maxSteps := 200000) (disch := omega) [-List.getD_eq_getElem?_getD]
      refine hK _ ?_; clear hK K
      refine ⟨i + 1, h, by omega, ?_⟩
      refine weak_to [] [] ?_ ?_ ?_ ?_ ?_ ?_
      · simp
      · simp
      · simp
      · simp
      · exact HO.toks (by simp)
      · simp [hk]
    · simp at h
      have : i = l.length := by omega
      subst this
      refine aw_exit ?_; simp (maxSteps := 200000) (disch := omega) [-List.getD_eq_getElem?_getD]
      refine hK1 _ ?_; clear hK1
      refine aw_reg fun K hK => ?_; simp (maxSteps := 200000) (disch := omega) [-List.getD_eq_getElem?_getD]; refine hK _ ?_; clear hK K
      refine aw_ret ?_; simp (maxSteps := 200000) (disch := omega) [-List.getD_eq_getElem?_getD]
      exact ⟨rfl, rfl, rfl⟩

theorem ints_ok (b : List UInt8) (k : Nat) (l : List Int) (H : List Blk) (T : Toks) (hT : T[k]? = some (b.length, 1)) (hl : ∀ x ∈ l, inI x) (hb : b.length + 10 + 10 * l.length ≤ 1099511627776) :
    ACall Try.prog 25 [.sl b.length (encB b) (.own k), .sl l.length (ints l) .none] H T (Is (.sl (b ++ encInts l).length (encB (b ++ encInts l)) (.own k)) H (T.set k ((b ++ encInts l).length, 1))) := by
  refine acall_enter 5 [] Try.ntmps25 Try.func25 rfl (fun _ _ => Try.call25 _ _) (by simp) (fun HO => ?_)
  refine aw_reg fun K hK => ?_; simp (maxSteps := 200000) (disch := omega) [-List.getD_eq_getElem?_getD]; refine hK _ ?_; clear hK K
  refine aw_reg fun K hK => ?_; simp (maxSteps := 200000) (disch := omega) [-List.getD_eq_getElem?_getD]
  refine acall_is (list_int_ok b k l H T hT hl hb) ?_; simp (maxSteps := 200000) (disch := omega) [-List.getD_eq_getElem?_getD]
  refine hK _ ?_; clear hK K
  refine aw_ret ?_; simp (maxSteps := 200000) (disch := omega) [-List.getD_eq_getElem?_getD]
  exact ⟨by simp, rfl, by simp⟩

theorem texts_ok (b : List UInt8) (k : Nat) (l : List (List UInt8)) (m : Nat) (H : List Blk) (T : Toks) (hT : T[k]? = some (b.length, 1)) (hl : ∀ x ∈ l, (encText x).length ≤ m) (hb : b.length + 10 + m * l.length ≤ 1099511627776) (hll : l.length ≤ 1099511627776) :
    ACall Try.prog 26 [.sl b.length (encB b) (.own k), .sl l.length (strs l) .none] H T (Is (.sl (b ++ encTexts l).length (encB (b ++ encTexts l)) (.own k)) H (T.set k ((b ++ encTexts l).length, 1))) := by
  refine acall_enter 5 [] Try.ntmps26 Try.func26 rfl (fun _ _ => Try.call26 _ _) (by simp) (fun HO => ?_)
  refine aw_reg fun K hK => ?_; simp (maxSteps := 200000) (disch := omega) [-List.getD_eq_getElem?_getD]; refine hK _ ?_; clear hK K
  refine aw_reg fun K hK => ?_; simp (maxSteps := 200000) (disch := omega) [-List.getD_eq_getElem?_getD]
  refine acall_is (list_text_ok b k l H T hT m hl hb hll) ?_; simp (maxSteps := 200000) (disch := omega) [-List.getD_eq_getElem?_getD]
  refine hK _ ?_; clear hK K
  refine aw_ret ?_; simp (maxSteps := 200000) (disch := omega) [-List.getD_eq_getElem?_getD]
  exact ⟨by simp, rfl, by simp⟩

theorem folded_ok (n : Int) (h1 : -9223372036854775808 ≤ n) (h2 : n ≤ 9223372036854775807) (H : List Blk) (T : Toks) : ACall Try.prog 11 [.int .i64 n] H T (Is (.int .u64 (fo n : Nat)) H T) := by
  refine acall_enter 3 [] Try.ntmps11 Try.func11 rfl (fun _ _ => Try.call11 _ _) (by simp) (fun HO => ?_)
  refine aw_reg fun K hK => ?_; simp (maxSteps := 200000) (disch := omega) [-List.getD_eq_getElem?_getD]; refine hK _ ?_; clear hK K
  refine aw_then fun K1 hK1 => ?_
  refine aw_reg fun K hK => ?_; simp (maxSteps := 200000) (disch := omega) [-List.getD_eq_getElem?_getD]; refine hK _ ?_; clear hK K
  refine aw_if rfl (fun h => ?_) (fun h => ?_)
  · simp at h
    refine aw_reg fun K hK => ?_; simp (maxSteps := 200000) (disch := omega) [-List.getD_eq_getElem?_getD]; refine hK _ ?_; clear hK K
    refine aw_ret ?_; simp (maxSteps := 200000) (disch := omega) [-List.getD_eq_getElem?_getD]
    refine ⟨?_, rfl, rfl⟩
    have : ¬ n < 0 := by omega
    simp only [fo, this, if_false]
    congr 1
    omega
  · simp at h
    refine aw_skip ?_; simp (maxSteps := 200000) (disch := omega) [-List.getD_eq_getElem?_getD]
    refine hK1 _ ?_; clear hK1
    refine aw_reg fun K hK => ?_; simp (maxSteps := 200000) (disch := omega) [-List.getD_eq_getElem?_getD]; refine hK _ ?_; clear hK K
    refine aw_ret ?_; simp (maxSteps := 200000) (disch := omega) [-List.getD_eq_getElem?_getD]
    refine ⟨?_, rfl, rfl⟩
    simp only [fo, h, if_true]
    congr 1
    omega

theorem same_ok (a b : List UInt8) (H : List Blk) (T : Toks) (ta tb : Tag) : ACall Try.prog 12 [.sl a.length (encB a) ta, .sl b.length (encB b) tb] H T (Is (.bool (a == b)) H T) := by
  refine acall_enter 5 [] Try.ntmps12 Try.func12 rfl (fun _ _ => Try.call12 _ _) (by simp) (fun HO => ?_)
  refine aw_reg fun K hK => ?_; simp (maxSteps := 200000) (disch := omega) [-List.getD_eq_getElem?_getD]; refine hK _ ?_; clear hK K
  refine aw_reg fun K hK => ?_; simp (maxSteps := 200000) (disch := omega) [-List.getD_eq_getElem?_getD]; refine hK _ ?_; clear hK K
  refine aw_ret ?_; simp (maxSteps := 200000) (disch := omega) [-List.getD_eq_getElem?_getD]
  exact ⟨rfl, rfl, rfl⟩

end Go.Proofs.Ytgnhfcncbkikgaa
