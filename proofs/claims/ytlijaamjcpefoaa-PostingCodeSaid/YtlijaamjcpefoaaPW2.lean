/- The readers of layer 1, as contracts over lists.
   Conditions: lengths below 2^40. -/
import Derived.Test.YtlijaamjcpefoaaPW
import Derived.Test.YtlijaamjcpefoaaWRd
namespace Go.Proofs.Ytlijaamjcpefoaa
open Go Go.Am Wire
set_option linter.unusedVariables false

def rd (bs : List UInt8) (s : Rd) : List AV := [.sl bs.length (encB bs) .none, .int .i64 (s.at_ : Nat), .bool s.bad]

theorem and1 {u : Nat} (h : u < 18446744073709551616) : bits .and .u64 (u : Int) 1 = ((u % 2 : Nat) : Int) := by
  have h1 := bits_and_u64 u 1 h (by omega)
  have h2 : u &&& 1 = u % 2 := Nat.and_two_pow_sub_one_eq_mod u 1
  rw [h2] at h1
  exact h1

theorem xor_i64 {n : Int} (h1 : -9223372036854775808 ≤ n) (h2 : n ≤ 9223372036854775807) : bits .xor .i64 (-1) n = -n - 1 := by
  have e1 : (BitVec.ofInt 64 (-1 : Int)) = BitVec.allOnes 64 := by decide
  show IntKind.i64.wrap ((BitVec.ofInt 64 (-1 : Int) ^^^ BitVec.ofInt 64 n).toNat : Int) = _
  rw [e1, BitVec.allOnes_xor, BitVec.toNat_not, IntKind.wrap_i64, BitVec.toNat_ofInt]
  omega

theorem unfold_ok (u : Nat) (hu : u < 18446744073709551616) (H : List Blk) (T : Toks) : ACall Try.prog 102 [.int .u64 (u : Nat)] H T (Is (.int .i64 (unf u)) H T) := by
  refine acall_enter 4 [] Try.ntmps102 Try.func102 rfl (fun _ _ => Try.call102 _ _) (by simp) (fun HO => ?_)
  refine aw_reg fun K hK => ?_; simp (maxSteps := 1000000) (disch := omega) [-List.getD_eq_getElem?_getD]; refine hK _ ?_; clear hK K
  refine aw_reg fun K hK => ?_; simp (maxSteps := 1000000) (disch := omega) [-List.getD_eq_getElem?_getD]; refine hK _ ?_; clear hK K
  refine aw_then fun K1 hK1 => ?_
  refine aw_reg fun K hK => ?_; simp (maxSteps := 1000000) (disch := omega) [-List.getD_eq_getElem?_getD, and1 hu]; refine hK _ ?_; clear hK K
  refine aw_if rfl (fun h => ?_) (fun h => ?_)
  · simp at h
    refine aw_reg fun K hK => ?_; simp (maxSteps := 1000000) (disch := omega) [-List.getD_eq_getElem?_getD]; refine hK _ ?_; clear hK K
    refine aw_ret ?_; simp (maxSteps := 1000000) (disch := omega) [-List.getD_eq_getElem?_getD]
    refine ⟨?_, rfl, rfl⟩
    have h3 : u % 2 = 1 := by omega
    rw [xor_i64 (by omega) (by omega)]
    simp only [unf, h3, if_true]
    congr 1
  · simp at h
    refine aw_skip ?_; simp (maxSteps := 1000000) (disch := omega) [-List.getD_eq_getElem?_getD]
    refine hK1 _ ?_; clear hK1
    refine aw_reg fun K hK => ?_; simp (maxSteps := 1000000) (disch := omega) [-List.getD_eq_getElem?_getD]; refine hK _ ?_; clear hK K
    refine aw_ret ?_; simp (maxSteps := 1000000) (disch := omega) [-List.getD_eq_getElem?_getD]
    refine ⟨?_, rfl, rfl⟩
    have h3 : ¬ u % 2 = 1 := by omega
    simp only [unf, h3, if_false]
    congr 1

theorem clone_ok (bs : List UInt8) (hb : bs.length ≤ 1099511627776) (H : List Blk) (T : Toks) : ACall Try.prog 97 [.sl bs.length (encB bs) .none] H T (Is (.sl bs.length (encB bs) .none) H T) := by
  refine ACall.cut H T (Nat.le_refl _) (Nat.le_refl _) id (by simp) ?_
  refine acall_enter 3 [] Try.ntmps97 Try.func97 rfl (fun _ _ => Try.call97 _ _) (by simp) (fun HO => ?_)
  refine aw_reg fun K hK => ?_; simp (maxSteps := 1000000) (disch := omega) [-List.getD_eq_getElem?_getD]; refine hK _ ?_; clear hK K
  refine aw_then fun K1 hK1 => ?_
  refine aw_reg fun K hK => ?_; simp (maxSteps := 1000000) (disch := omega) [-List.getD_eq_getElem?_getD]
  refine ⟨hK _ ?_, fun he => hK _ ?_⟩
  · refine aw_if rfl (fun h => absurd h (by simp)) (fun h => ?_)
    refine aw_skip ?_; simp (maxSteps := 1000000) (disch := omega) [-List.getD_eq_getElem?_getD]
    refine hK1 _ ?_; clear hK1
    refine aw_reg fun K hK => ?_; simp (maxSteps := 1000000) (disch := omega) [-List.getD_eq_getElem?_getD]; refine hK _ ?_; clear hK K
    refine aw_ret ?_; simp (maxSteps := 1000000) (disch := omega) [-List.getD_eq_getElem?_getD]
  · refine aw_if rfl (fun h => ?_) (fun h => absurd h (by simp))
    refine aw_reg fun K hK => ?_; simp (maxSteps := 1000000) (disch := omega) [-List.getD_eq_getElem?_getD]; refine hK _ ?_; clear hK K
    refine aw_ret ?_; simp (maxSteps := 1000000) (disch := omega) [-List.getD_eq_getElem?_getD, he]

theorem from_ok (bs : List UInt8) (hb : bs.length ≤ 1099511627776) (H : List Blk) (T : Toks) : ACall Try.prog 79 [.sl bs.length (encB bs) .none] H T (Is (.ptr H.length 0) (H ++ [.cells (rd bs ⟨0, false⟩)]) T) := by
  refine acall_enter 3 [] Try.ntmps79 Try.func79 rfl (fun _ _ => Try.call79 _ _) (by simp) (fun HO => ?_)
  refine aw_reg fun K hK => ?_; simp (maxSteps := 1000000) (disch := omega) [-List.getD_eq_getElem?_getD]; refine hK _ ?_; clear hK K
  refine aw_reg fun K hK => ?_; simp (maxSteps := 1000000) (disch := omega) [-List.getD_eq_getElem?_getD]
  refine acall_is (clone_ok bs hb H T) ?_; simp (maxSteps := 1000000) (disch := omega) [-List.getD_eq_getElem?_getD, rd]
  refine hK _ ?_; clear hK K
  refine aw_ret ?_; simp (maxSteps := 1000000) (disch := omega) [-List.getD_eq_getElem?_getD]
  exact ⟨rfl, rfl, rfl⟩

/-- No number: two zeros. -/
def gtup (o : Option (Nat × Nat)) : AV := .tup [.int .i64 (gnum o), .int .i64 (glen o : Nat)]

theorem div57 (u : Nat) : ((u : Int) / 144115188075855872 != 0) = decide (144115188075855872 ≤ u) := by
  rw [bne, Bool.not_eq_eq_eq_not, ← decide_not]
  by_cases h : 144115188075855872 ≤ u
  · simp [h]; omega
  · simp [h]; omega

theorem bits_and_u8 (a b : Nat) (ha : a < 256) (hb : b < 256) : bits .and .u8 (a : Int) (b : Int) = ((a &&& b : Nat) : Int) := by
  have hx : a &&& b < 2 ^ 8 := Nat.and_lt_two_pow _ (by omega)
  have e1 : ∀ x : Nat, x < 256 → (BitVec.ofInt 8 (x : Int)).toNat = x := fun x hx => by
    rw [BitVec.ofInt_natCast, BitVec.toNat_ofNat]; exact Nat.mod_eq_of_lt (by omega)
  show IntKind.u8.wrap ((BitVec.ofInt 8 (a : Int) &&& BitVec.ofInt 8 (b : Int)).toNat : Int) = _
  rw [BitVec.toNat_and, e1 a ha, e1 b hb]
  exact wrapU8 (by omega) (by omega)

theorem bits_or_u64 (a b : Nat) (ha : a < 18446744073709551616) (hb : b < 18446744073709551616) : bits .or .u64 (a : Int) (b : Int) = ((a ||| b : Nat) : Int) := by
  have hx : a ||| b < 2 ^ 64 := Nat.or_lt_two_pow (by omega) (by omega)
  have e1 : ∀ x : Nat, x < 18446744073709551616 → (BitVec.ofInt 64 (x : Int)).toNat = x := fun x hx => by
    rw [BitVec.ofInt_natCast, BitVec.toNat_ofNat]; exact Nat.mod_eq_of_lt (by omega)
  show IntKind.u64.wrap ((BitVec.ofInt 64 (a : Int) ||| BitVec.ofInt 64 (b : Int)).toNat : Int) = _
  rw [BitVec.toNat_or, e1 a ha, e1 b hb]
  exact wrapU64 (by omega) (by omega)

theorem byte7 (u c : Nat) (hu : u < 144115188075855872) (hc : c < 256) : bits .or .u64 ((u : Int) * 128) (IntKind.u64.wrap (bits .and .u8 (c : Int) 127)) = ((u * 128 + c % 128 : Nat) : Int) := by
  have h1 := bits_and_u8 c 127 hc (by omega)
  have h2 : c &&& 127 = c % 128 := Nat.and_two_pow_sub_one_eq_mod c 7
  rw [h2] at h1
  rw [show ((127 : Nat) : Int) = 127 from rfl] at h1
  rw [h1, wrapU64 (by omega) (by omega)]
  have h3 := bits_or_u64 (u * 128) (c % 128) (by omega) (by omega)
  have h4 := Nat.two_pow_add_eq_or_of_lt (i := 7) (b := c % 128) (by omega) u
  rw [show ((u : Int) * 128) = ((u * 128 : Nat) : Int) from by omega, h3, Nat.mul_comm u 128]
  exact congrArg _ h4.symm


theorem group_ok (bs : List UInt8) (s : Rd) (hs : s.at_ ≤ bs.length) (hb : bs.length ≤ 1099511627776) (H : List Blk) (T : Toks) (i : Nat) (hi : H[i]? = some (.cells (rd bs s))) :
    ACall Try.prog 98 [.ptr i 0] H T (Is (gtup (rnum bs s.at_)) H T) := by
  have hl := (List.getElem?_eq_some_iff.1 hi).1
  have hi' := (List.getElem?_eq_some_iff.1 hi).2
  refine acall_enter 7 [] Try.ntmps98 Try.func98 rfl (fun _ _ => Try.call98 _ _) (by simp) (fun HO => ?_)
  refine aw_reg fun K hK => ?_; simp (maxSteps := 1000000) (disch := omega) [-List.getD_eq_getElem?_getD]; refine hK _ ?_; clear hK K
  refine aw_reg fun K hK => ?_; simp (maxSteps := 1000000) (disch := omega) [-List.getD_eq_getElem?_getD]; refine hK _ ?_; clear hK K
  refine aw_then fun K1 hK1 => ?_
  refine aw_reg fun K hK => ?_; simp (maxSteps := 1000000) (disch := omega) [-List.getD_eq_getElem?_getD, hi, hi', hl, rd]; refine hK _ ?_; clear hK K
  refine aw_block ?_
  refine aw_loop (X := Nat × Nat) (fun x => ⟨[(0, .ptr i 0), (4, .int .u64 (x.1 : Nat)), (5, .int .i64 ((s.at_ + x.2 : Nat) : Int))], H, T⟩) (fun x => x.1 < 18446744073709551616 ∧ s.at_ + x.2 ≤ bs.length ∧ rnum bs s.at_ = addk x.2 (gl (x.2 == 0) x.1 (bs.drop (s.at_ + x.2)))) (fun x => bs.length - x.2) (0, 0) ?_ ?_ ?_
  · exact ⟨by decide, by simpa using hs, by simp [addk_zero, rnum]⟩
  · refine weak_to [] [] ?_ ?_ ?_ ?_ ?_ ?_
    · simp
    · simp
    · simp
    · simp
    · exact HO
    · simp [hl, rd]
  · rintro ⟨u, k⟩ ⟨hu, hk, hg⟩
    simp only at hu hk hg
    refine aw_then fun K2 hK2 => ?_
    refine aw_reg fun K hK => ?_; simp (maxSteps := 1000000) (disch := omega) [-List.getD_eq_getElem?_getD, hi, hi', hl, rd]; refine hK _ ?_; clear hK K
    refine aw_if rfl (fun h => ?_) (fun h => ?_)
    · simp at h
      refine aw_skip ?_; simp (maxSteps := 1000000) (disch := omega) [-List.getD_eq_getElem?_getD]
      refine hK2 _ ?_; clear hK2
      refine aw_then fun K3 hK3 => ?_
      refine aw_block ?_
      have hlt : s.at_ + k < bs.length := by omega
      refine aw_reg fun K hK => ?_; simp (maxSteps := 1000000) (disch := omega) [-List.getD_eq_getElem?_getD, hi, hi', hl, rd, getD_encB hlt]; refine hK _ ?_; clear hK K
      have hc : (bs.getD (s.at_ + k) 0).toNat < 256 := UInt8.toNat_lt _
      generalize hcc : (bs.getD (s.at_ + k) 0).toNat = c at hc
      refine aw_then fun K4 hK4 => ?_
      refine aw_reg fun K hK => ?_
      have key : ∀ e, envLe H.length T.length e [(0, .ptr i 0), (4, .int .u64 (u : Nat)), (5, .int .i64 ((s.at_ + k : Nat) : Int)), (6, .int .u8 (c : Nat)), (41, .bool (decide ((k = 0 ∧ c = 128) ∨ 144115188075855872 ≤ u)))] → K ⟨e, H, T⟩ := by
        intro e he
        refine hK _ (aw_weak ⟨[(0, .ptr i 0), (4, .int .u64 (u : Nat)), (5, .int .i64 ((s.at_ + k : Nat) : Int)), (6, .int .u8 (c : Nat)), (41, .bool (decide ((k = 0 ∧ c = 128) ∨ 144115188075855872 ≤ u)))], H, T⟩ (weak_to [] [] (by simp) (by simp) (by simp) (by simp) HO he) ?_)
        refine aw_if rfl (fun h => ?_) (fun h => ?_)
        · simp at h
          refine aw_reg fun K hK => ?_; simp (maxSteps := 1000000) (disch := omega) [-List.getD_eq_getElem?_getD]; refine hK _ ?_; clear hK K
          refine aw_ret ?_; simp (maxSteps := 1000000) (disch := omega) [-List.getD_eq_getElem?_getD]
          rw [hg, gl_bad _ _ _ _ hlt (by rw [← UInt8.toNat_inj, hcc]; simpa using h)]
          exact ⟨rfl, rfl, rfl⟩
        · simp only [decide_eq_false_iff_not] at h
          have h' : ¬ ((k == 0) = true ∧ bs.getD (s.at_ + k) 0 = 128 ∨ 144115188075855872 ≤ u) := by rw [← UInt8.toNat_inj, hcc]; simpa using h
          have hv : u * 128 + c % 128 < 18446744073709551616 := by omega
          refine aw_skip ?_; simp (maxSteps := 1000000) (disch := omega) [-List.getD_eq_getElem?_getD]
          refine hK4 _ ?_; clear hK4
          refine aw_reg fun K hK => ?_; simp (maxSteps := 1000000) (disch := omega) [-List.getD_eq_getElem?_getD, byte7 u c (by omega) hc]; refine hK _ ?_; clear hK K
          refine aw_reg fun K hK => ?_; simp (maxSteps := 1000000) (disch := omega) [-List.getD_eq_getElem?_getD]; refine hK _ ?_; clear hK K
          refine aw_if rfl (fun h => ?_) (fun h => ?_)
          · simp at h
            refine aw_draw [] [] [] drawMixed (by kernel_rfl) (by kernel_rfl) fun K hK => ?_; simp (maxSteps := 1000000) (disch := omega) [-List.getD_eq_getElem?_getD]
            refine dcall_is (unfold_ok _ hv _ _) rfl ?_; simp (maxSteps := 1000000) (disch := omega) [-List.getD_eq_getElem?_getD, hi, hi', hl, rd]
            refine hK _ ?_; clear hK K
            refine aw_ret ?_; simp (maxSteps := 1000000) (disch := omega) [-List.getD_eq_getElem?_getD]
            have hlt8 : bs.getD (s.at_ + k) 0 < 128 := by rw [UInt8.lt_iff_toNat_lt, hcc]; exact (show c < 128 by omega)
            rw [hg, gl_last _ _ _ _ hlt h' hlt8, hcc]
            refine ⟨?_, rfl, rfl⟩
            simp [gtup, addk, gnum, glen]
            omega
          · simp at h
            refine aw_skip ?_; simp (maxSteps := 1000000) (disch := omega) [-List.getD_eq_getElem?_getD]
            refine hK3 _ ?_; clear hK3
            refine aw_reg0 fun K hK => ?_; simp (maxSteps := 1000000) (disch := omega) [-List.getD_eq_getElem?_getD]
            refine hK _ ?_; clear hK K
            have hlt8 : ¬ bs.getD (s.at_ + k) 0 < 128 := by rw [UInt8.lt_iff_toNat_lt, hcc]; simp; omega
            refine ⟨(u * 128 + c % 128, k + 1), ⟨hv, by show s.at_ + (k + 1) ≤ _; omega, ?_⟩, by show bs.length - (k + 1) < bs.length - k; omega, ?_⟩
            · rw [hg, gl_more _ _ _ _ hlt h' hlt8, hcc, addk_map]
              rfl
            · refine weak_to [] [] ?_ ?_ ?_ ?_ ?_ ?_
              · simp
              · simp
              · simp
              · simp
              · exact HO
              · simp [hl]
                omega
      clear hK
      by_cases hk0 : k = 0
      · by_cases h128 : c = 128
        · simp (maxSteps := 1000000) (disch := omega) [-List.getD_eq_getElem?_getD, hi, hi', hl, rd, hk0, h128]
          exact key _ (by simp [hk0, h128, hl])
        · have hb : ((c : Int) == 128) = false := by simp; omega
          simp (maxSteps := 1000000) (disch := omega) [-List.getD_eq_getElem?_getD, hi, hi', hl, rd, hk0, hb, div57]
          exact key _ (by simp [hk0, h128, hl])
      · have hb : ((s.at_ : Int) + (k : Int) == s.at_) = false := by simp; omega
        simp (maxSteps := 1000000) (disch := omega) [-List.getD_eq_getElem?_getD, hi, hi', hl, rd, hb, div57]
        exact key _ (by simp [hk0, hl])
    · simp at h
      refine aw_exit ?_; simp (maxSteps := 1000000) (disch := omega) [-List.getD_eq_getElem?_getD]
      refine hK1 _ ?_; clear hK1
      refine aw_reg fun K hK => ?_; simp (maxSteps := 1000000) (disch := omega) [-List.getD_eq_getElem?_getD]; refine hK _ ?_; clear hK K
      refine aw_ret ?_; simp (maxSteps := 1000000) (disch := omega) [-List.getD_eq_getElem?_getD]
      rw [hg, gl_end _ _ _ _ (by omega)]
      exact ⟨rfl, rfl, rfl⟩
end Go.Proofs.Ytlijaamjcpefoaa
