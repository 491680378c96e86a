/- What SuggestComplete asks, answered.
   Conditions: none. -/
import Derived.Test.YtbijefgmleagnaaSFn14
import Derived.Test.YtbijefgmleagnaaSPl5
import Derived.Test.YtbijefgmleagnaaSWk1
namespace Sug
open Go.Proofs.Ytbijefgmleagnaa
def nComp (l : List Ent) (p : Str) : Nat := (compE l p 100).length
theorem nComp_eq {l : List Ent} (hl : l.length ≤ 40) (p : Str) : nComp l p = if validE l = true then nKeep l p else 0 := by
  unfold nComp compE
  by_cases hv : validE l = true
  · rw [if_pos ⟨hv, by decide⟩, if_pos hv, List.length_take, sortC_len]
    have := keep_len p l
    rw [nKeep]
    have : (100 : Int).toNat = 100 := rfl
    omega
  · rw [if_neg (fun h => hv h.1), if_neg hv]
    rfl
def sumC (l : List Ent) (p : Str) : Nat → Nat
  | 0 => 0
  | n + 1 => sumC l p n + nComp l (p ++ [UInt8.ofNat n])
theorem sumC_eq {l : List Ent} (hl : l.length ≤ 40) (p : Str) : ∀ n, sumC l p n = if validE l = true then sumTo l p n else 0
  | 0 => by rw [sumC, sumTo]; split <;> rfl
  | n + 1 => by
    rw [sumC, sumC_eq hl p n, nComp_eq hl, sumTo]
    split <;> rfl
theorem sumC_all {l : List Ent} (hl : l.length ≤ 40) (p : Str) : (if 0 < countE l p then 1 else 0) + sumC l p 256 = nComp l p := by
  rw [sumC_eq hl, nComp_eq hl]
  by_cases hv : validE l = true
  · rw [if_pos hv, if_pos hv, ← sum_all hv p]
    omega
  · have : countE l p = 0 := by rw [countE, if_neg hv]
    rw [if_neg hv, if_neg hv, this]
    rfl
theorem nComp_le {l : List Ent} (hl : l.length ≤ 40) (p : Str) : nComp l p ≤ 40 := by
  rw [nComp_eq hl]
  split
  · exact Nat.le_trans (keep_len p l) hl
  · omega
theorem sumC_le {l : List Ent} (hl : l.length ≤ 40) (p : Str) : ∀ n, sumC l p n ≤ 40 * n
  | 0 => Nat.le_refl _
  | n + 1 => by
    have := sumC_le hl p n
    have := nComp_le hl (p ++ [UInt8.ofNat n])
    rw [sumC]
    omega
end Sug
namespace Go.Proofs.Ytbijefgmleagnaa
open Go Go.Am Sug Edit
set_option linter.unusedVariables false

set_option maxRecDepth 100000 in
set_option maxHeartbeats 4000000 in
theorem scomplete_ok (l : List Ent) (p : Str) (most : Int) (hz : Sz l) (hs : p.length ≤ maxLen) (hm : -9223372036854775808 ≤ most ∧ most ≤ 9223372036854775807) :
    ACall Try.prog 7 [.sl l.length (entAV l) .none, .str p, .int .i64 most] [] [] (fun r _ _ => r = .bool true) := by
  have hml : maxLen ≤ 9223372036854775807 := by decide
  have hs' := Nat.le_trans hs hml
  have ca := awake_ok [] []
  have cf := few_ok l hz.1 hz.2 [] [] .none
  refine acall_enter 10 [] Try.ntmps7 Try.func7 rfl (fun _ _ => Try.call7 _ _) (by simp) (fun HO => ?_)
  refine aw_reg fun K hK => ?_; simp (maxSteps := 1000000) (disch := omega) [-List.getD_eq_getElem?_getD]; refine hK _ ?_; clear hK K
  refine aw_then fun K1 hK1 => ?_
  refine aw_reg fun K hK => ?_; simp (maxSteps := 1000000) (disch := omega) [-List.getD_eq_getElem?_getD]
  refine acall_is (ca) ?_; simp (maxSteps := 1000000) (disch := omega) [-List.getD_eq_getElem?_getD]
  refine hK _ ?_; clear hK K
  refine aw_if rfl (fun h => absurd h (by simp)) (fun h => ?_)
  refine aw_skip ?_; simp (maxSteps := 1000000) (disch := omega) [-List.getD_eq_getElem?_getD]
  refine hK1 _ ?_; clear hK1
  refine aw_then fun K1 hK1 => ?_
  cases hf : fewE l with
  | false =>
    rw [hf] at cf
    refine aw_reg fun K hK => ?_; simp (maxSteps := 1000000) (disch := omega) [-List.getD_eq_getElem?_getD]
    refine acall_is (cf) ?_; simp (maxSteps := 1000000) (disch := omega) [-List.getD_eq_getElem?_getD]
    refine hK _ ?_; clear hK K
    refine aw_if rfl (fun h => ?_) (fun h => absurd h (by simp))
    refine aw_reg fun K hK => ?_; simp (maxSteps := 1000000) (disch := omega) [-List.getD_eq_getElem?_getD]; refine hK _ ?_; clear hK K
    refine aw_ret ?_; simp (maxSteps := 1000000) (disch := omega) [-List.getD_eq_getElem?_getD]
  | true =>
    rw [hf] at cf
    obtain ⟨hl, hp⟩ := fewE_facts hf
    have hl40 : l.length ≤ 40 := (of_decide_eq_true hf).1
    by_cases h1 : 60 < p.length
    · have b1 : decide ((60 : Int) < p.length) = true := decide_eq_true (by omega)
      refine aw_reg fun K hK => ?_; simp (maxSteps := 1000000) (disch := omega) [-List.getD_eq_getElem?_getD]
      refine acall_is (cf) ?_; simp (maxSteps := 1000000) (disch := omega) [-List.getD_eq_getElem?_getD, b1, h1]
      refine hK _ ?_; clear hK K
      refine aw_if rfl (fun h => ?_) (fun h => absurd h (by simp))
      refine aw_reg fun K hK => ?_; simp (maxSteps := 1000000) (disch := omega) [-List.getD_eq_getElem?_getD]; refine hK _ ?_; clear hK K
      refine aw_ret ?_; simp (maxSteps := 1000000) (disch := omega) [-List.getD_eq_getElem?_getD]
    · have b1 : decide ((60 : Int) < p.length) = false := decide_eq_false (by omega)
      have hw : p.length ≤ 1000 := by omega
      have c1 := own_ok l hl [] [] .none
      have c2 := complete_ok l p most hm hl40 hp hw [] [] .none
      have hcl : (compE l p most).length ≤ 1000 := by
        unfold compE
        split
        · rw [List.length_take, sortC_len]; have := keep_len p l; omega
        · simp
      have c3 := theirs_ok (compE l p most) hcl [] [] .none
      have c4 := completeR_ok l p most hm hl hp hw [] [] .none
      have c5 := sameE_ok _ (compE l p most) rfl hcl [] [] .none .none
      have c6 := count_ok l p hl hp [] [] .none
      have c7 := fun (q : Str) (hq : q.length ≤ 1000) => complete_ok l q 100 (by decide) hl40 hp hq [] [] .none
      have hall := sumC_all hl40 p
      refine aw_reg fun K hK => ?_; simp (maxSteps := 1000000) (disch := omega) [-List.getD_eq_getElem?_getD]
      refine acall_is (cf) ?_; simp (maxSteps := 1000000) (disch := omega) [-List.getD_eq_getElem?_getD, b1, h1]
      refine hK _ ?_; clear hK K
      refine aw_if rfl (fun h => absurd h (by simp)) (fun h => ?_)
      refine aw_skip ?_; simp (maxSteps := 1000000) (disch := omega) [-List.getD_eq_getElem?_getD]
      refine hK1 _ ?_; clear hK1
      refine aw_reg fun K hK => ?_; simp (maxSteps := 1000000) (disch := omega) [-List.getD_eq_getElem?_getD]
      refine acall_is (c1) ?_; simp (maxSteps := 1000000) (disch := omega) [-List.getD_eq_getElem?_getD]
      refine hK _ ?_; clear hK K
      refine aw_then fun K1 hK1 => ?_
      refine aw_reg fun K hK => ?_; simp (maxSteps := 1000000) (disch := omega) [-List.getD_eq_getElem?_getD]
      refine acall_is (c2) ?_; simp (maxSteps := 1000000) (disch := omega) [-List.getD_eq_getElem?_getD]
      refine acall_is (c3) ?_; simp (maxSteps := 1000000) (disch := omega) [-List.getD_eq_getElem?_getD]
      refine acall_is (c4) ?_; simp (maxSteps := 1000000) (disch := omega) [-List.getD_eq_getElem?_getD]
      refine acall_is (c5) ?_; simp (maxSteps := 1000000) (disch := omega) [-List.getD_eq_getElem?_getD]
      refine hK _ ?_; clear hK K
      refine aw_if rfl (fun h => absurd h (by simp)) (fun h => ?_)
      refine aw_skip ?_; simp (maxSteps := 1000000) (disch := omega) [-List.getD_eq_getElem?_getD]
      refine hK1 _ ?_; clear hK1
      refine aw_reg fun K hK => ?_; simp (maxSteps := 1000000) (disch := omega) [-List.getD_eq_getElem?_getD]; refine hK _ ?_; clear hK K
      refine aw_then fun K1 hK1 => ?_
      have key : ∀ e (b0 : Nat), b0 = (if 0 < countE l p then 1 else 0) → envLe 0 0 e [(1, .str p), (7, .sl l.length (entAV l) .none), (8, .int .i64 (b0 : Nat))] → K1 ⟨e, [], []⟩ := by
        intro e b0 hb0 he
        refine hK1 _ (aw_weak ⟨[(1, .str p), (7, .sl l.length (entAV l) .none), (8, .int .i64 (b0 : Nat))], [], []⟩ (weak_to [] [] (by simp) (by simp) (by simp) (by simp) HO he) ?_)
        rw [← hb0] at hall
        have hb1 : b0 ≤ 1 := by rw [hb0]; split <;> omega
        clear hb0
        refine aw_then fun K2 hK2 => ?_
        refine aw_reg fun K hK => ?_; simp (maxSteps := 1000000) (disch := omega) [-List.getD_eq_getElem?_getD]; refine hK _ ?_; clear hK K
        refine aw_block ?_
        refine aw_loop (X := Nat) (fun k => ⟨[(1, .str p), (7, .sl l.length (entAV l) .none), (8, .int .i64 ((b0 + sumC l p k : Nat) : Int)), (9, .int .i64 (k : Nat))], [], []⟩)
          (fun k => k ≤ 256) (fun k => 256 - k) 0 ?_ ?_ ?_
        · exact Nat.zero_le _
        · refine weak_to [] [] ?_ ?_ ?_ ?_ HO ?_
          all_goals simp [sumC]
        · rintro k hk
          have hle := sumC_le hl40 p k
          refine aw_then fun K3 hK3 => ?_
          refine aw_reg fun K hK => ?_; simp (maxSteps := 1000000) (disch := omega) [-List.getD_eq_getElem?_getD]; refine hK _ ?_; clear hK K
          refine aw_if rfl (fun hk2 => ?_) (fun hk2 => ?_)
          · simp [-List.getD_eq_getElem?_getD] at hk2
            refine aw_skip ?_; simp (maxSteps := 1000000) (disch := omega) [-List.getD_eq_getElem?_getD]
            refine hK3 _ ?_; clear hK3
            refine aw_then fun K4 hK4 => ?_
            refine aw_block ?_
            have c8 := c7 (p ++ [UInt8.ofNat k]) (by rw [List.length_append, List.length_singleton]; omega)
            have hby : bytesOf [AV.int .u8 (k : Int)] = some [UInt8.ofNat k] := by
              have e : (k : Int) = ((UInt8.ofNat k).toNat : Int) := by rw [UInt8.toNat_ofNat']; omega
              rw [e]
              exact bytesOf_encB [UInt8.ofNat k]
            have hcc : (compE l (p ++ [UInt8.ofNat k]) 100).length ≤ 40 := nComp_le hl40 _
            refine aw_reg0 fun K hK => ?_; simp (maxSteps := 1000000) (disch := omega) [-List.getD_eq_getElem?_getD, hby]
            refine acall_is (c8) ?_; simp (maxSteps := 1000000) (disch := omega) [-List.getD_eq_getElem?_getD]
            refine hK _ ?_; clear hK K
            refine hK4 _ ?_; clear hK4
            refine aw_reg0 fun K hK => ?_; simp (maxSteps := 1000000) (disch := omega) [-List.getD_eq_getElem?_getD]
            refine hK _ ?_; clear hK K
            refine ⟨k + 1, by show k + 1 ≤ 256; omega, by show 256 - (k + 1) < 256 - k; omega, ?_⟩
            refine weak_to [] [] ?_ ?_ ?_ ?_ HO ?_
            all_goals simp [sumC, nComp]
            all_goals omega
          · simp [-List.getD_eq_getElem?_getD] at hk2
            have e : k = 256 := by omega
            subst e
            have c8 := c7 p hw
            refine aw_exit ?_; simp (maxSteps := 1000000) (disch := omega) [-List.getD_eq_getElem?_getD]
            refine hK2 _ ?_; clear hK2
            refine aw_reg fun K hK => ?_; simp (maxSteps := 1000000) (disch := omega) [-List.getD_eq_getElem?_getD]
            refine acall_is (c8) ?_; simp (maxSteps := 1000000) (disch := omega) [-List.getD_eq_getElem?_getD]
            refine hK _ ?_; clear hK K
            refine aw_ret ?_; simp (maxSteps := 1000000) (disch := omega) [-List.getD_eq_getElem?_getD]
            have hall' : b0 + sumC l p 256 = (compE l p 100).length := hall
            omega
      clear hK1
      by_cases hc : 0 < countE l p
      · have bc : decide (0 < countE l p) = true := decide_eq_true hc
        refine aw_reg fun K hK => ?_; simp (maxSteps := 1000000) (disch := omega) [-List.getD_eq_getElem?_getD]
        refine acall_is (c6) ?_; simp (maxSteps := 1000000) (disch := omega) [-List.getD_eq_getElem?_getD, bc, hc]
        refine hK _ ?_; clear hK K
        refine aw_if rfl (fun h => ?_) (fun h => absurd h (by simp))
        refine aw_reg0 fun K hK => ?_; simp (maxSteps := 1000000) (disch := omega) [-List.getD_eq_getElem?_getD]
        refine hK _ ?_; clear hK K
        refine key _ 1 (by rw [if_pos hc]) ?_
        simp
      · have bc : decide (0 < countE l p) = false := decide_eq_false hc
        refine aw_reg fun K hK => ?_; simp (maxSteps := 1000000) (disch := omega) [-List.getD_eq_getElem?_getD]
        refine acall_is (c6) ?_; simp (maxSteps := 1000000) (disch := omega) [-List.getD_eq_getElem?_getD, bc, hc]
        refine hK _ ?_; clear hK K
        refine aw_if rfl (fun h => absurd h (by simp)) (fun h => ?_)
        refine aw_skip ?_; simp (maxSteps := 1000000) (disch := omega) [-List.getD_eq_getElem?_getD]
        refine key _ 0 (by rw [if_neg hc]) ?_
        simp
end Go.Proofs.Ytbijefgmleagnaa
