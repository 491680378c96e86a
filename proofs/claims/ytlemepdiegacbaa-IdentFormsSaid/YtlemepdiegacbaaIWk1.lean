/- IdentSwap: the walk.
   Conditions: none. -/
import Derived.Test.YtlemepdiegacbaaIMath
namespace Go.Proofs.Ytlemepdiegacbaa
open Go Go.Am Ident
set_option linter.unusedVariables false

theorem u32_wf {n : Int} (h : (Lit.int .u32 n).wf = true) : ∃ N : Nat, n = N ∧ N < 4294967296 := by
  have : 0 ≤ n ∧ n ≤ 4294967295 := by simpa [Lit.wf, IntKind.min, IntKind.max, IntKind.signed, IntKind.bits] using h
  exact ⟨n.toNat, by omega, by omega⟩
theorem u8_wf {n : Int} (h : (Lit.int .u8 n).wf = true) : ∃ N : Nat, n = N ∧ N < 256 := by
  have : 0 ≤ n ∧ n ≤ 255 := by simpa [Lit.wf, IntKind.min, IntKind.max, IntKind.signed, IntKind.bits] using h
  exact ⟨n.toNat, by omega, by omega⟩
theorem nineS_len (n : Nat) : (nineS n).length = 9 := nineK_len n 9
theorem nineS_dig (n : Nat) : allDig (nineS n) := by
  rw [nineS_eq]
  intro i hi
  match i, hi with
  | 0, _ => exact digN_dig n 0
  | 1, _ => exact digN_dig n 1
  | 2, _ => exact digN_dig n 2
  | 3, _ => exact digN_dig n 3
  | 4, _ => exact digN_dig n 4
  | 5, _ => exact digN_dig n 5
  | 6, _ => exact digN_dig n 6
  | 7, _ => exact digN_dig n 7
  | 8, _ => exact digN_dig n 8
theorem dig_lt {c : UInt8} (h : dig c = true ∨ c = 88) : c.toNat < 128 := by
  rcases h with h | h
  · have h1 : 48 ≤ c.toNat ∧ c.toNat ≤ 57 := by simpa [dig] using h
    omega
  · rw [h]; decide
theorem plainX_at {t : List UInt8} (h : plainX t) {i : Nat} (hi : i < t.length) : dig (t.getD i 0) = true ∨ t.getD i 0 = 88 := (h.2 i hi).elim .inl (fun e => .inr e.1)

set_option maxRecDepth 100000 in
set_option maxHeartbeats 2000000 in
theorem iswap_ok (n a : Int) (hn0 : (Lit.int .u32 n).wf = true) (ha0 : (Lit.int .u8 a).wf = true) : ACall Try.prog 5 [.int .u32 n, .int .u8 a] [] [] (fun r _ _ => r = .bool true) := by
  obtain ⟨n, rfl, hn⟩ := u32_wf hn0
  obtain ⟨a, rfl, ha⟩ := u8_wf ha0
  have c1 := nine_ok n hn [] []
  have hl := nineS_len n
  have hd := nineS_dig n
  have c2 := check10_ok (nineS n) (by omega) [] []
  have hck : check10R (nineS n) = (ck10 (nineS n), true) := by unfold check10R; rw [if_pos (plainB_iff.2 ⟨hl, hd⟩)]
  rw [hck] at c2
  have hc8 := enc1 _ (ck10_lt (nineS n))
  have hsz := enc1_size _ (ck10_lt (nineS n))
  have hw := wrap32 (ck10 (nineS n))
  have hten : nineS n ++ [ck10 (nineS n)] = ten (nineS n) := rfl
  have htl := ten_len hl
  have hpx := (ten_ok hl hd).1
  have hmod : ((a : Nat) : Int).tmod 8 = ((a % 8 : Nat) : Int) := rfl
  have hk := Nat.mod_lt a (show 0 < 8 by omega)
  have hsw := fun hne => swap_bad hl hd (a % 8) hk hne
  have e1 := enc1 _ (dig_lt (plainX_at hpx (show a % 8 < (ten (nineS n)).length by omega)))
  have e1s := enc1_size _ (dig_lt (plainX_at hpx (show a % 8 < (ten (nineS n)).length by omega)))
  have e1w := wrap32 ((ten (nineS n)).getD (a % 8) 0)
  have e2 := enc1 _ (dig_lt (plainX_at hpx (show a % 8 + 1 < (ten (nineS n)).length by omega)))
  have e2s := enc1_size _ (dig_lt (plainX_at hpx (show a % 8 + 1 < (ten (nineS n)).length by omega)))
  have e2w := wrap32 ((ten (nineS n)).getD (a % 8 + 1) 0)
  have c3 := isbn_ok ((ten (nineS n)).take (a % 8) ++ (ten (nineS n)).getD (a % 8 + 1) 0 :: (ten (nineS n)).getD (a % 8) 0 :: (ten (nineS n)).drop (a % 8 + 2)) (by simp; omega) [] []
  have htk : List.take (8 - a % 8) (List.drop (a % 8 + 2) (ten (nineS n))) = List.drop (a % 8 + 2) (ten (nineS n)) := List.take_of_length_le (by rw [List.length_drop]; omega)
  generalize a % 8 = k at *
  generalize hS : nineS n = s at *
  generalize hC : ck10 s = c at *
  generalize hT : ten s = t at *
  refine acall_enter 12 [] Try.ntmps5 Try.func5 rfl (fun _ _ => Try.call5 _ _) (by simp) (fun HO => ?_)
  refine aw_reg fun K hK => ?_; simp (maxSteps := 1000000) (disch := omega) [-List.getD_eq_getElem?_getD]; refine hK _ ?_; clear hK K
  refine aw_then fun K1 hK1 => ?_
  refine aw_reg fun K hK => ?_; simp (maxSteps := 1000000) (disch := omega) [-List.getD_eq_getElem?_getD]
  refine acall_is (awake_ok _ _) ?_; simp (maxSteps := 1000000) (disch := omega) [-List.getD_eq_getElem?_getD]
  refine hK _ ?_; clear hK K
  refine aw_if rfl (fun h => absurd h (by simp)) (fun h => ?_)
  refine aw_skip ?_; simp (maxSteps := 1000000) (disch := omega) [-List.getD_eq_getElem?_getD]
  refine hK1 _ ?_; clear hK1
  refine aw_reg fun K hK => ?_; simp (maxSteps := 1000000) (disch := omega) [-List.getD_eq_getElem?_getD]
  refine acall_is (c1) ?_; simp (maxSteps := 1000000) (disch := omega) [-List.getD_eq_getElem?_getD]
  refine hK _ ?_; clear hK K
  refine aw_reg fun K hK => ?_; simp (maxSteps := 1000000) (disch := omega) [-List.getD_eq_getElem?_getD]
  refine acall_is (c2) ?_; simp (maxSteps := 1000000) (disch := omega) [-List.getD_eq_getElem?_getD]
  refine hK _ ?_; clear hK K
  refine aw_reg fun K hK => ?_; simp (maxSteps := 1000000) (disch := omega) [-List.getD_eq_getElem?_getD, hc8, hsz, hw, hten, hl]; refine hK _ ?_; clear hK K
  refine aw_reg fun K hK => ?_; simp (maxSteps := 1000000) (disch := omega) [-List.getD_eq_getElem?_getD, hmod]; refine hK _ ?_; clear hK K
  refine aw_then fun K1 hK1 => ?_
  by_cases hne : t.getD k 0 = t.getD (k + 1) 0
  · refine aw_draw [] [] [] drawMixed (by kernel_rfl) (by kernel_rfl) fun K hK => ?_; simp (maxSteps := 1000000) (disch := omega) [-List.getD_eq_getElem?_getD, htl, hne]
    refine hK _ ?_; clear hK K
    refine aw_if rfl (fun h => ?_) (fun h => absurd h (by simp))
    refine aw_reg fun K hK => ?_; simp (maxSteps := 1000000) (disch := omega) [-List.getD_eq_getElem?_getD]; refine hK _ ?_; clear hK K
    refine aw_ret ?_; simp (maxSteps := 1000000) (disch := omega) [-List.getD_eq_getElem?_getD]
  · have bne : (((t.getD k 0).toNat : Int) == ((t.getD (k + 1) 0).toNat : Int)) = false := by
      rw [beq_eq_false_iff_ne]
      intro e
      exact hne (UInt8.toNat_inj.1 (by omega))
    have bne' : ¬ (t.getD k 0).toNat = (t.getD (k + 1) 0).toNat := fun e => hne (UInt8.toNat_inj.1 e)
    rw [hsw hne] at c3
    refine aw_draw [] [] [] drawMixed (by kernel_rfl) (by kernel_rfl) fun K hK => ?_; simp (maxSteps := 1000000) (disch := omega) [-List.getD_eq_getElem?_getD, htl, bne, bne']
    refine hK _ ?_; clear hK K
    refine aw_if rfl (fun h => absurd h (by simp [bne'])) (fun h => ?_)
    refine aw_skip ?_; simp (maxSteps := 1000000) (disch := omega) [-List.getD_eq_getElem?_getD]
    refine hK1 _ ?_; clear hK1
    refine aw_draw [] [] [] drawMixed (by kernel_rfl) (by kernel_rfl) fun K hK => ?_; simp (maxSteps := 1000000) (disch := omega) [-List.getD_eq_getElem?_getD, htl, e1, e1s, e1w, e2, e2s, e2w, htk]
    refine dcall_is (c3) rfl ?_; simp (maxSteps := 1000000) (disch := omega) [-List.getD_eq_getElem?_getD]
    refine hK _ ?_; clear hK K
    refine aw_reg fun K hK => ?_; simp (maxSteps := 1000000) (disch := omega) [-List.getD_eq_getElem?_getD]; refine hK _ ?_; clear hK K
    refine aw_ret ?_; simp (maxSteps := 1000000) (disch := omega) [-List.getD_eq_getElem?_getD]
end Go.Proofs.Ytlemepdiegacbaa
