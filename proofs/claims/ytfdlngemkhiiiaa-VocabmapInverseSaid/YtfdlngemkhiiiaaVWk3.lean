/- The inverse (layer 26): the walk of the law.
   Conditions: lengths of the arguments below 2^47, as arguments have. -/
import Derived.Test.YtfdlngemkhiiiaaVWk2
namespace Voc
theorem invF_of {l : List Mp} (h : validM l = true) : invF l = (invL l, 0) := if_pos h
end Voc
namespace Go.Proofs.Ytfdlngemkhiiiaa
open Go Go.Am Voc
set_option linter.unusedVariables false

set_option maxRecDepth 100000 in
set_option maxHeartbeats 8000000 in
theorem u8_range {n : Int} (h : (Lit.int .u8 n).wf = true) : 0 ≤ n ∧ n ≤ 255 := by
  have e1 : IntKind.u8.min = 0 := by decide
  have e2 : IntKind.u8.max = 255 := by decide
  simp only [Lit.wf, Bool.and_eq_true, decide_eq_true_eq, e1, e2] at h
  exact h
set_option maxRecDepth 100000 in
set_option maxHeartbeats 8000000 in
/-- VocabmapInverse. -/
theorem inverse_law (l m : List Mp) (t : Int) (hl : l.length ≤ maxLen) (hm : m.length ≤ maxLen) (ht : 0 ≤ t ∧ t ≤ 255) : ACall Try.prog 5 [.sl l.length (mpAV l) .none, .sl m.length (mpAV m) .none, .int .u8 t] [] [] (fun r _ _ => r = .bool true) := by
  have c0 := awake_ok [] []
  refine acall_enter 22 [] Try.ntmps5 Try.func5 rfl (fun _ _ => Try.call5 _ _) (by simp) (fun HO => ?_)
  refine aw_reg fun K hK => ?_; simp (maxSteps := 1000000) (disch := omega) [-List.getD_eq_getElem?_getD]; refine hK _ ?_; clear hK K
  refine aw_then fun K1 hK1 => ?_
  refine aw_reg fun K hK => ?_; simp (maxSteps := 1000000) (disch := omega) [-List.getD_eq_getElem?_getD]
  refine acall_is (c0) ?_; simp (maxSteps := 1000000) (disch := omega) [-List.getD_eq_getElem?_getD]
  refine hK _ ?_; clear hK K
  refine aw_if rfl (fun h => absurd h (by simp)) (fun h => ?_)
  refine aw_skip ?_; simp (maxSteps := 1000000) (disch := omega) [-List.getD_eq_getElem?_getD]
  refine hK1 _ ?_; clear hK1
  refine aw_then fun K1 hK1 => ?_
  by_cases h1 : 12 < l.length
  · have b1 : decide ((12 : Int) < l.length) = true := decide_eq_true (by omega)
    refine aw_reg fun K hK => ?_; simp (maxSteps := 1000000) (disch := omega) [-List.getD_eq_getElem?_getD, b1, h1]; refine hK _ ?_; clear hK K
    refine aw_if rfl (fun h => ?_) (fun h => absurd h (by simp))
    refine aw_reg fun K hK => ?_; simp (maxSteps := 1000000) (disch := omega) [-List.getD_eq_getElem?_getD]; refine hK _ ?_; clear hK K
    refine aw_ret ?_; simp (maxSteps := 1000000) (disch := omega) [-List.getD_eq_getElem?_getD]
  have b1 : decide ((12 : Int) < l.length) = false := decide_eq_false (by omega)
  by_cases h2 : 12 < m.length
  · have b2 : decide ((12 : Int) < m.length) = true := decide_eq_true (by omega)
    refine aw_reg fun K hK => ?_; simp (maxSteps := 1000000) (disch := omega) [-List.getD_eq_getElem?_getD, b1, h1, b2, h2]; refine hK _ ?_; clear hK K
    refine aw_if rfl (fun h => ?_) (fun h => absurd h (by simp))
    refine aw_reg fun K hK => ?_; simp (maxSteps := 1000000) (disch := omega) [-List.getD_eq_getElem?_getD]; refine hK _ ?_; clear hK K
    refine aw_ret ?_; simp (maxSteps := 1000000) (disch := omega) [-List.getD_eq_getElem?_getD]
  have b2 : decide ((12 : Int) < m.length) = false := decide_eq_false (by omega)
  have v1 := validR_ok l (by omega) [] [] .none
  have v2 := validR_ok m (by omega) [] [] .none
  cases hvl : validM l with
  | false =>
    rw [hvl] at v1
    refine aw_reg fun K hK => ?_; simp (maxSteps := 1000000) (disch := omega) [-List.getD_eq_getElem?_getD, b1, h1, b2, h2]
    refine acall_is (v1) ?_; simp (maxSteps := 1000000) (disch := omega) [-List.getD_eq_getElem?_getD]
    refine hK _ ?_; clear hK K
    refine aw_if rfl (fun h => ?_) (fun h => absurd h (by simp))
    refine aw_reg fun K hK => ?_; simp (maxSteps := 1000000) (disch := omega) [-List.getD_eq_getElem?_getD]; refine hK _ ?_; clear hK K
    refine aw_ret ?_; simp (maxSteps := 1000000) (disch := omega) [-List.getD_eq_getElem?_getD]
  | true =>
  rw [hvl] at v1
  cases hvm : validM m with
  | false =>
    rw [hvm] at v2
    refine aw_reg fun K hK => ?_; simp (maxSteps := 1000000) (disch := omega) [-List.getD_eq_getElem?_getD, b1, h1, b2, h2]
    refine acall_is (v1) ?_; simp (maxSteps := 1000000) (disch := omega) [-List.getD_eq_getElem?_getD]
    refine acall_is (v2) ?_; simp (maxSteps := 1000000) (disch := omega) [-List.getD_eq_getElem?_getD]
    refine hK _ ?_; clear hK K
    refine aw_if rfl (fun h => ?_) (fun h => absurd h (by simp))
    refine aw_reg fun K hK => ?_; simp (maxSteps := 1000000) (disch := omega) [-List.getD_eq_getElem?_getD]; refine hK _ ?_; clear hK K
    refine aw_ret ?_; simp (maxSteps := 1000000) (disch := omega) [-List.getD_eq_getElem?_getD]
  | true =>
  rw [hvm] at v2
  refine aw_reg fun K hK => ?_; simp (maxSteps := 1000000) (disch := omega) [-List.getD_eq_getElem?_getD, b1, h1, b2, h2]
  refine acall_is (v1) ?_; simp (maxSteps := 1000000) (disch := omega) [-List.getD_eq_getElem?_getD]
  refine acall_is (v2) ?_; simp (maxSteps := 1000000) (disch := omega) [-List.getD_eq_getElem?_getD]
  refine hK _ ?_; clear hK K
  refine aw_if rfl (fun h => absurd h (by simp)) (fun h => ?_)
  refine aw_skip ?_; simp (maxSteps := 1000000) (disch := omega) [-List.getD_eq_getElem?_getD]
  refine hK1 _ ?_; clear hK1
  have hcv := comp_valid hvl hvm (by have := comp_small (l := l) (m := m) (by omega) (by omega); omega)
  have hsm := comp_small (l := l) (m := m) (by omega) (by omega)
  have i1 := inverse_ok l (by omega) [] [] .none
  have i2 := inverse_ok m (by omega) [] [] .none
  have i3 := inverse_ok (invL l) (by rw [invL_len]; omega) [] [] .none
  have i4 := inverse_ok (comp l m) (by omega) [] [] .none
  have w1 := ways_ok l m (by omega) (by omega) [] [] .none .none
  have w2 := ways_ok (invL m) (invL l) (by rw [invL_len]; omega) (by rw [invL_len]; omega) [] [] .none .none
  rw [compF_few hvl hvm (by omega) (by omega)] at w1
  rw [compF_few (invL_valid hvm) (invL_valid hvl) (by rw [invL_len]; omega) (by rw [invL_len]; omega), ← inv_comp (valid_kOk hvl) (valid_kOk hvm)] at w2
  rw [invF_of hvl] at i1
  rw [invF_of hvm] at i2
  rw [invF_of (invL_valid hvl), invL_invL (valid_asc hvl)] at i3
  rw [invF_of hcv] at i4
  simp only at i1 i2 i3 i4 w1 w2
  have s1 := fun T => same_ok l (by omega) [] T .none .none
  have s2 := fun T => same_ok (invL (comp l m)) (by rw [invL_len]; omega) [] T .none .none
  have l1 := invL_len l
  have l2 := invL_len m
  have l3 := invL_len (comp l m)
  have o1 := fun k (hk : k ≤ l.length) T tg => of_ok (l.drop k ++ l.take k ++ l) (by simp; omega) [] T tg
  have o2 := fun k => ofF_same (m := l.drop k ++ l.take k ++ l) hvl fun x => ⟨fun h => List.mem_append.2 (.inr h), fun h => (List.mem_append.1 h).elim (fun h => (List.mem_append.1 h).elim List.mem_of_mem_drop List.mem_of_mem_take) id⟩
  generalize invL (comp l m) = q3 at *
  generalize invL l = q1 at *
  generalize invL m = q2 at *
  generalize comp l m = c at *
  refine aw_reg fun K hK => ?_; simp (maxSteps := 1000000) (disch := omega) [-List.getD_eq_getElem?_getD]
  refine acall_is (i1) ?_; simp (maxSteps := 1000000) (disch := omega) [-List.getD_eq_getElem?_getD]
  refine hK _ ?_; clear hK K
  refine aw_reg fun K hK => ?_; simp (maxSteps := 1000000) (disch := omega) [-List.getD_eq_getElem?_getD]
  refine acall_is (i2) ?_; simp (maxSteps := 1000000) (disch := omega) [-List.getD_eq_getElem?_getD]
  refine hK _ ?_; clear hK K
  refine aw_reg fun K hK => ?_; simp (maxSteps := 1000000) (disch := omega) [-List.getD_eq_getElem?_getD]
  refine acall_is (i3) ?_; simp (maxSteps := 1000000) (disch := omega) [-List.getD_eq_getElem?_getD]
  refine hK _ ?_; clear hK K
  refine aw_reg fun K hK => ?_; simp (maxSteps := 1000000) (disch := omega) [-List.getD_eq_getElem?_getD]
  refine acall_is (w1) ?_; simp (maxSteps := 1000000) (disch := omega) [-List.getD_eq_getElem?_getD]
  refine hK _ ?_; clear hK K
  refine aw_reg fun K hK => ?_; simp (maxSteps := 1000000) (disch := omega) [-List.getD_eq_getElem?_getD]
  refine acall_is (i4) ?_; simp (maxSteps := 1000000) (disch := omega) [-List.getD_eq_getElem?_getD]
  refine hK _ ?_; clear hK K
  refine aw_reg fun K hK => ?_; simp (maxSteps := 1000000) (disch := omega) [-List.getD_eq_getElem?_getD]
  refine acall_is (w2) ?_; simp (maxSteps := 1000000) (disch := omega) [-List.getD_eq_getElem?_getD]
  refine hK _ ?_; clear hK K
  obtain ⟨k, hk, hk2⟩ : ∃ k : Nat, t.tmod ((l.length : Int) + 1) = (k : Int) ∧ k ≤ l.length := by
    rw [Int.tmod_eq_emod_of_nonneg ht.1]
    have g1 := Int.emod_nonneg t (b := (l.length : Int) + 1) (by omega)
    have g2 := Int.emod_lt_of_pos t (b := (l.length : Int) + 1) (by omega)
    exact ⟨(t % ((l.length : Int) + 1)).toNat, by rw [Int.toNat_of_nonneg g1], by omega⟩
  refine aw_reg fun K hK => ?_; simp (maxSteps := 1000000) (disch := omega) [-List.getD_eq_getElem?_getD, hk]; refine hK _ ?_; clear hK K
  have p1 : ((mpAV l).drop (k * 3)).take ((l.length - k) * 3) = mpAV (l.drop k) := by
    rw [mpAV_dropN, List.take_of_length_le]
    rw [mpAV_len, List.length_drop]; exact Nat.le_refl _
  have p2 : (mpAV l).take (k * 3) = mpAV (l.take k) := mpAV_takeN l k
  have p3 : (mpAV (l.drop k)).length = (l.length - k) * 3 := by rw [mpAV_len, List.length_drop]
  have p4 := mpAV_app (l.drop k) (l.take k)
  have p5 := mpAV_app (l.drop k ++ l.take k) l
  have p6 : (mpAV (l.drop k ++ l.take k)).length = l.length * 3 := by rw [mpAV_len, List.length_append, List.length_drop, List.length_take]; omega
  have o3 := fun T tg => o1 k hk2 T tg
  rw [o2 k] at o3
  have p7 : (l.drop k ++ l.take k ++ l).length = l.length + l.length := by rw [List.length_append, List.length_append, List.length_drop, List.length_take]; omega
  rw [p7] at o3
  have n0 : (l.take k).length = k := by rw [List.length_take]; omega
  have n1 : (l.drop k).length = l.length - k := List.length_drop
  have n2 : (l.drop k ++ l.take k).length = l.length := by rw [List.length_append, n0, n1]; omega
  generalize l.drop k ++ l.take k ++ l = u3 at *
  generalize l.drop k ++ l.take k = u2 at *
  generalize l.drop k = u1 at *
  generalize l.take k = u0 at *
  refine aw_draw [4, 8, 10] [0, 0, 0, 0, 0, 0, 0, 0, 1, 0, 2, 3, 3, 3, 3, 3, 3] [[], [], []] drawMixed (by kernel_rfl) (by kernel_rfl) fun K hK => ?_
  have hk3 : l.length - k + k = l.length := by omega
  simp (maxSteps := 1000000) (disch := omega) [-List.getD_eq_getElem?_getD, hk2, hk3, p1, p2, p4, p5, n0, n1, n2, mpAV_len, amade_zero]
  refine dcall_is (o3 _ _) rfl ?_; simp (maxSteps := 1000000) (disch := omega) [-List.getD_eq_getElem?_getD]
  refine hK _ ?_; clear hK K
  refine aw_reg fun K hK => ?_; simp (maxSteps := 1000000) (disch := omega) [-List.getD_eq_getElem?_getD]
  refine acall_is (s1 _) ?_; simp (maxSteps := 1000000) (disch := omega) [-List.getD_eq_getElem?_getD]
  refine acall_is (s2 _) ?_; simp (maxSteps := 1000000) (disch := omega) [-List.getD_eq_getElem?_getD]
  refine acall_is (s1 _) ?_; simp (maxSteps := 1000000) (disch := omega) [-List.getD_eq_getElem?_getD]
  refine hK _ ?_; clear hK K
  refine aw_ret ?_; simp (maxSteps := 1000000) (disch := omega) [-List.getD_eq_getElem?_getD]
end Go.Proofs.Ytfdlngemkhiiiaa
