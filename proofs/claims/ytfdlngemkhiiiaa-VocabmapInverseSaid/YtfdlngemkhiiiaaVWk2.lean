/- Inverse lists; exact mappings (layer 26): the walks of the laws.
   Conditions: lengths of the arguments below 2^47, as arguments have. -/
import Derived.Test.YtfdlngemkhiiiaaVWk1
import Derived.Test.YtfdlngemkhiiiaaVFn7
namespace Voc
theorem exF_len (l : List Mp) : (exF l).length = l.length := by rw [exF, exM_len, List.length_map]
theorem exT_len (l : List Mp) : (exT l).length = l.length := by rw [exT, exM_len, List.length_map]
theorem valid_le {l : List Mp} (h : validM l = true) : l.length ≤ 500 := ((validM_iff l).1 h).2
theorem exF_of {l : List Mp} (h : validM l = true) : ofF (exF l) = (dd (exF l), 0) ∧ validM (dd (exF l)) = true := by
  refine ofF_ex (fun n hn => ?_) (by rw [List.length_map]; exact valid_le h)
  obtain ⟨x, hx, rfl⟩ := List.mem_map.1 hn
  exact (goodM_iff.1 (validM_mem h hx)).1
theorem exT_of {l : List Mp} (h : validM l = true) : ofF (exT l) = (dd (exT l), 0) ∧ validM (dd (exT l)) = true := by
  refine ofF_ex (fun n hn => ?_) (by rw [List.length_map]; exact valid_le h)
  obtain ⟨x, hx, rfl⟩ := List.mem_map.1 hn
  exact (goodM_iff.1 (validM_mem h hx)).2.1
theorem compF_from {l : List Mp} (h : validM l = true) : compF (dd (exF l)) l = (l, 0) := by
  rw [compF, if_pos ⟨(exF_of h).2, h⟩, comp_from h, if_pos (valid_le h)]
theorem compF_to {l : List Mp} (h : validM l = true) : compF l (dd (exT l)) = (l, 0) := by
  rw [compF, if_pos ⟨h, (exT_of h).2⟩, comp_to h, if_pos (valid_le h)]
theorem compF_few {l m : List Mp} (hl : validM l = true) (hm : validM m = true) (h1 : l.length ≤ 12) (h2 : m.length ≤ 12) : compF l m = (comp l m, 0) := by
  rw [compF, if_pos ⟨hl, hm⟩, if_pos (by have := comp_small h1 h2; omega)]
/-- Exact mappings one after the other. -/
theorem SP_one {l m : List Mp} (hl : ∀ x ∈ l, x.2.2 = 1) (hm : ∀ x ∈ m, x.2.2 = 1) {e : Pr} {n : Nat} (h : SP l m e n) : n = 1 := by
  obtain ⟨x, hx, y, hy, _, _, rfl⟩ := h
  rw [hl x hx, hm y hy]
  rfl
theorem comp_one {l m : List Mp} (kl : kOk l) (km : kOk m) (hl : ∀ x ∈ l, x.2.2 = 1) (hm : ∀ x ∈ m, x.2.2 = 1) : ∀ x ∈ comp l m, x.2.2 = 1 := by
  intro x hx
  rcases (mem_comp kl km x).1 hx with ⟨h, _⟩ | ⟨_, _, h, _⟩ | ⟨_, _, h, _⟩
  · exact h
  · exact absurd (SP_one hl hm h) (by decide)
  · exact absurd (SP_one hl hm h) (by decide)
theorem comp_way {l m : List Mp} (kl : kOk l) (km : kOk m) (hl : ∀ x ∈ l, x.2.2 = 1) (hm : ∀ x ∈ m, x.2.2 = 1) {x y : Mp} (hx : x ∈ l) (hy : y ∈ m) (he : x.2.1 = y.1) : (x.1, y.2.1, 1) ∈ comp l m := by
  rw [mem_comp kl km]
  refine .inl ⟨rfl, x, hx, y, hy, he.symm, rfl, ?_⟩
  rw [hl x hx, hm y hy]
  rfl
/-- How many pairs meet, counted row by row. -/
def cnt (l m : List Mp) (i k : Nat) : Nat := (pairs (l.take i) m).length + (onePairs (l.getD i d0) (m.take k)).length
theorem cnt_zero (l m : List Mp) : cnt l m 0 0 = 0 := by simp [cnt, pairs, onePairs]
theorem cnt_row {l m : List Mp} {i : Nat} (hi : i < l.length) : cnt l m i m.length = cnt l m (i + 1) 0 := by
  unfold cnt
  rw [take_succD d0 hi, List.take_length]
  simp [pairs, onePairs]
theorem cnt_all (l m : List Mp) : cnt l m l.length 0 = (pairs l m).length := by simp [cnt, onePairs]
theorem cnt_skip {l m : List Mp} {i k : Nat} (hk : k < m.length) (h : (l.getD i d0).2.1 ≠ (m.getD k d0).1) : cnt l m i (k + 1) = cnt l m i k := by
  unfold cnt
  rw [take_succD d0 hk, onePairs_snoc, if_neg (Ne.symm h), List.append_nil]
theorem cnt_add {l m : List Mp} {i k : Nat} (hk : k < m.length) (h : (l.getD i d0).2.1 = (m.getD k d0).1) : cnt l m i (k + 1) = cnt l m i k + 1 := by
  unfold cnt
  rw [take_succD d0 hk, onePairs_snoc, if_pos h.symm, List.length_append]
  rfl
theorem onePairs_len (x : Mp) (m : List Mp) : (onePairs x m).length ≤ m.length := by
  unfold onePairs
  rw [List.length_map]
  exact List.length_filter_le _ _
theorem cnt_le {l m : List Mp} (h1 : l.length ≤ 12) (h2 : m.length ≤ 12) (i k : Nat) : cnt l m i k ≤ 200 := by
  have a := pairs_len (l.take i) m
  have b := onePairs_len (l.getD i d0) (m.take k)
  rw [List.length_take] at a b
  have c := Nat.mul_le_mul (Nat.le_trans (Nat.min_le_right i l.length) h1) h2
  unfold cnt
  omega
/-- Whether a way is among the first ones. -/
def fnd (c : List Mp) (a b : Int) (t : Nat) : Bool := (c.take t).any fun z => z.1 == a && z.2.1 == b
theorem fnd_succ {c : List Mp} {a b : Int} {t : Nat} (h : t < c.length) : fnd c a b (t + 1) = (fnd c a b t || ((c.getD t d0).1 == a && (c.getD t d0).2.1 == b)) := by
  unfold fnd
  rw [take_succD d0 h, List.any_append]
  simp
theorem fnd_all {c : List Mp} {z : Mp} (h : z ∈ c) : fnd c z.1 z.2.1 c.length = true := by
  unfold fnd
  rw [List.take_length, List.any_eq_true]
  exact ⟨z, h, by simp⟩
end Voc
namespace Go.Proofs.Ytfdlngemkhiiiaa
open Go Go.Am Voc
set_option linter.unusedVariables false

set_option maxRecDepth 100000 in
set_option maxHeartbeats 8000000 in
/-- VocabmapExact. -/
theorem exact_law (l m : List Mp) (hl : l.length ≤ maxLen) (hm : m.length ≤ maxLen) : ACall Try.prog 4 [.sl l.length (mpAV l) .none, .sl m.length (mpAV m) .none] [] [] (fun r _ _ => r = .bool true) := by
  have c0 := awake_ok [] []
  refine acall_enter 23 [] Try.ntmps4 Try.func4 rfl (fun _ _ => Try.call4 _ _) (by simp) (fun HO => ?_)
  refine aw_reg fun K hK => ?_; simp (maxSteps := 1000000) (disch := omega) [-List.getD_eq_getElem?_getD]; refine hK _ ?_; clear hK K
  refine aw_then fun K1 hK1 => ?_
  refine aw_reg fun K hK => ?_; simp (maxSteps := 1000000) (disch := omega) [-List.getD_eq_getElem?_getD]
  refine acall_is (c0) ?_; simp (maxSteps := 1000000) (disch := omega) [-List.getD_eq_getElem?_getD]
  refine hK _ ?_; clear hK K
  refine aw_if rfl (fun h => absurd h (by simp)) (fun h => ?_)
  refine aw_skip ?_; simp (maxSteps := 1000000) (disch := omega) [-List.getD_eq_getElem?_getD]
  refine hK1 _ ?_; clear hK1
  refine aw_then fun K1 hK1 => ?_
  by_cases h1 : 12 < l.length
  · have b1 : decide ((12 : Int) < l.length) = true := decide_eq_true (by omega)
    refine aw_reg fun K hK => ?_; simp (maxSteps := 1000000) (disch := omega) [-List.getD_eq_getElem?_getD, b1, h1]; refine hK _ ?_; clear hK K
    refine aw_if rfl (fun h => ?_) (fun h => absurd h (by simp))
    refine aw_reg fun K hK => ?_; simp (maxSteps := 1000000) (disch := omega) [-List.getD_eq_getElem?_getD]; refine hK _ ?_; clear hK K
    refine aw_ret ?_; simp (maxSteps := 1000000) (disch := omega) [-List.getD_eq_getElem?_getD]
  have b1 : decide ((12 : Int) < l.length) = false := decide_eq_false (by omega)
  by_cases h2 : 12 < m.length
  · have b2 : decide ((12 : Int) < m.length) = true := decide_eq_true (by omega)
    refine aw_reg fun K hK => ?_; simp (maxSteps := 1000000) (disch := omega) [-List.getD_eq_getElem?_getD, b1, h1, b2, h2]; refine hK _ ?_; clear hK K
    refine aw_if rfl (fun h => ?_) (fun h => absurd h (by simp))
    refine aw_reg fun K hK => ?_; simp (maxSteps := 1000000) (disch := omega) [-List.getD_eq_getElem?_getD]; refine hK _ ?_; clear hK K
    refine aw_ret ?_; simp (maxSteps := 1000000) (disch := omega) [-List.getD_eq_getElem?_getD]
  have b2 : decide ((12 : Int) < m.length) = false := decide_eq_false (by omega)
  have v1 := validR_ok l (by omega) [] [] .none
  have v2 := validR_ok m (by omega) [] [] .none
  cases hvl : validM l with
  | false =>
    rw [hvl] at v1
    refine aw_reg fun K hK => ?_; simp (maxSteps := 1000000) (disch := omega) [-List.getD_eq_getElem?_getD, b1, h1, b2, h2]
    refine acall_is (v1) ?_; simp (maxSteps := 1000000) (disch := omega) [-List.getD_eq_getElem?_getD]
    refine hK _ ?_; clear hK K
    refine aw_if rfl (fun h => ?_) (fun h => absurd h (by simp))
    refine aw_reg fun K hK => ?_; simp (maxSteps := 1000000) (disch := omega) [-List.getD_eq_getElem?_getD]; refine hK _ ?_; clear hK K
    refine aw_ret ?_; simp (maxSteps := 1000000) (disch := omega) [-List.getD_eq_getElem?_getD]
  | true =>
  rw [hvl] at v1
  cases hvm : validM m with
  | false =>
    rw [hvm] at v2
    refine aw_reg fun K hK => ?_; simp (maxSteps := 1000000) (disch := omega) [-List.getD_eq_getElem?_getD, b1, h1, b2, h2]
    refine acall_is (v1) ?_; simp (maxSteps := 1000000) (disch := omega) [-List.getD_eq_getElem?_getD]
    refine acall_is (v2) ?_; simp (maxSteps := 1000000) (disch := omega) [-List.getD_eq_getElem?_getD]
    refine hK _ ?_; clear hK K
    refine aw_if rfl (fun h => ?_) (fun h => absurd h (by simp))
    refine aw_reg fun K hK => ?_; simp (maxSteps := 1000000) (disch := omega) [-List.getD_eq_getElem?_getD]; refine hK _ ?_; clear hK K
    refine aw_ret ?_; simp (maxSteps := 1000000) (disch := omega) [-List.getD_eq_getElem?_getD]
  | true =>
  rw [hvm] at v2
  refine aw_reg fun K hK => ?_; simp (maxSteps := 1000000) (disch := omega) [-List.getD_eq_getElem?_getD, b1, h1, b2, h2]
  refine acall_is (v1) ?_; simp (maxSteps := 1000000) (disch := omega) [-List.getD_eq_getElem?_getD]
  refine acall_is (v2) ?_; simp (maxSteps := 1000000) (disch := omega) [-List.getD_eq_getElem?_getD]
  refine hK _ ?_; clear hK K
  refine aw_if rfl (fun h => absurd h (by simp)) (fun h => ?_)
  refine aw_skip ?_; simp (maxSteps := 1000000) (disch := omega) [-List.getD_eq_getElem?_getD]
  refine hK1 _ ?_; clear hK1
  have kl := valid_kOk hvl
  have km := valid_kOk hvm
  have e1 := exact_ok l false (by omega) [] [] .none
  have e2 := exact_ok l true (by omega) [] [] .none
  simp only [Bool.false_eq_true, if_false, if_true] at e1 e2
  have o1 := of_ok (exF l) (by rw [exF_len]; omega) [] [] .none
  have o2 := of_ok (exT l) (by rw [exT_len]; omega) [] [] .none
  rw [exF_len, (exF_of hvl).1] at o1
  rw [exT_len, (exT_of hvl).1] at o2
  have d1 := dd_len (exF l)
  have d2 := dd_len (exT l)
  rw [exF_len] at d1
  rw [exT_len] at d2
  have w1 := ways_ok (dd (exF l)) l (by omega) (by omega) [] [] .none .none
  have w2 := ways_ok l (dd (exT l)) (by omega) (by omega) [] [] .none .none
  rw [compF_from hvl] at w1
  rw [compF_to hvl] at w2
  have w3 := ways_ok l m (by omega) (by omega) [] [] .none .none
  rw [compF_few hvl hvm (by omega) (by omega)] at w3
  have s1 := same_ok l (by omega) [] [] .none .none
  simp only at o1 o2 w1 w2 w3
  have hsm := comp_small (l := l) (m := m) (by omega) (by omega)
  have hone := comp_one (l := l) (m := m) kl km
  have hway := fun a b {x y} => comp_way (l := l) (m := m) (x := x) (y := y) kl km a b
  have hpl := comp_pairs l m
  generalize dd (exF l) = f1 at *
  generalize dd (exT l) = f2 at *
  generalize comp l m = c at *
  refine aw_reg fun K hK => ?_; simp (maxSteps := 1000000) (disch := omega) [-List.getD_eq_getElem?_getD]
  refine acall_is (e1) ?_; simp (maxSteps := 1000000) (disch := omega) [-List.getD_eq_getElem?_getD]
  refine acall_is (o1) ?_; simp (maxSteps := 1000000) (disch := omega) [-List.getD_eq_getElem?_getD]
  refine hK _ ?_; clear hK K
  refine aw_reg fun K hK => ?_; simp (maxSteps := 1000000) (disch := omega) [-List.getD_eq_getElem?_getD]
  refine acall_is (e2) ?_; simp (maxSteps := 1000000) (disch := omega) [-List.getD_eq_getElem?_getD]
  refine acall_is (o2) ?_; simp (maxSteps := 1000000) (disch := omega) [-List.getD_eq_getElem?_getD]
  refine hK _ ?_; clear hK K
  refine aw_reg fun K hK => ?_; simp (maxSteps := 1000000) (disch := omega) [-List.getD_eq_getElem?_getD]
  refine acall_is (w1) ?_; simp (maxSteps := 1000000) (disch := omega) [-List.getD_eq_getElem?_getD]
  refine hK _ ?_; clear hK K
  refine aw_reg fun K hK => ?_; simp (maxSteps := 1000000) (disch := omega) [-List.getD_eq_getElem?_getD]
  refine acall_is (w2) ?_; simp (maxSteps := 1000000) (disch := omega) [-List.getD_eq_getElem?_getD]
  refine hK _ ?_; clear hK K
  refine aw_then fun K1 hK1 => ?_
  refine aw_reg fun K hK => ?_; simp (maxSteps := 1000000) (disch := omega) [-List.getD_eq_getElem?_getD]
  refine acall_is (s1) ?_; simp (maxSteps := 1000000) (disch := omega) [-List.getD_eq_getElem?_getD]
  refine acall_is (s1) ?_; simp (maxSteps := 1000000) (disch := omega) [-List.getD_eq_getElem?_getD]
  refine hK _ ?_; clear hK K
  refine aw_if rfl (fun h => absurd h (by simp)) (fun h => ?_)
  refine aw_skip ?_; simp (maxSteps := 1000000) (disch := omega) [-List.getD_eq_getElem?_getD]
  refine hK1 _ ?_; clear hK1
  refine aw_then fun K1 hK1 => ?_
  refine aw_reg fun K hK => ?_; simp (maxSteps := 1000000) (disch := omega) [-List.getD_eq_getElem?_getD]; refine hK _ ?_; clear hK K
  refine aw_block ?_
  refine aw_loop (X := Nat) (fun k => ⟨[(0, .sl l.length (mpAV l) .none), (1, .sl m.length (mpAV m) .none), (13, .int .i64 (k : Nat))], [], []⟩) (fun k => k ≤ l.length ∧ ∀ j, j < k → (l.getD j d0).2.2 = 1) (fun k => l.length - k) 0 ?_ ?_ ?_
  · exact ⟨Nat.zero_le _, fun j hj => absurd hj (Nat.not_lt_zero _)⟩
  · refine weak_to [] [] ?_ ?_ ?_ ?_ HO ?_
    all_goals simp
  · rintro k ⟨g1, g2⟩
    refine aw_then fun K2 hK2 => ?_
    refine aw_reg fun K hK => ?_; simp (maxSteps := 1000000) (disch := omega) [-List.getD_eq_getElem?_getD]; refine hK _ ?_; clear hK K
    refine aw_if rfl (fun hk => ?_) (fun hk => ?_)
    · simp [-List.getD_eq_getElem?_getD] at hk
      have hat := mpAV_at l k hk
      refine aw_skip ?_; simp (maxSteps := 1000000) (disch := omega) [-List.getD_eq_getElem?_getD]
      refine hK2 _ ?_; clear hK2
      refine aw_then fun K3 hK3 => ?_
      refine aw_block ?_
      by_cases hq : (l.getD k d0).2.2 = 1
      · have bq : ((l.getD k d0).2.2 != 1) = false := by rw [hq]; rfl
        refine aw_reg fun K hK => ?_; simp (maxSteps := 1000000) (disch := omega) [-List.getD_eq_getElem?_getD, hat.2.2, hk, mpAV_len, bq, hq]; refine hK _ ?_; clear hK K
        refine aw_if rfl (fun h => absurd h (by simp)) (fun h => ?_)
        refine aw_skip ?_; simp (maxSteps := 1000000) (disch := omega) [-List.getD_eq_getElem?_getD]
        refine hK3 _ ?_; clear hK3
        refine aw_reg0 fun K hK => ?_; simp (maxSteps := 1000000) (disch := omega) [-List.getD_eq_getElem?_getD]
        refine hK _ ?_; clear hK K
        refine ⟨k + 1, ⟨by show k + 1 ≤ _; omega, fun j hj => ?_⟩, by show l.length - (k + 1) < l.length - k; omega, ?_⟩
        · rcases Nat.lt_or_ge j k with h3 | h3
          · exact g2 j h3
          · have : j = k := by omega
            subst this; exact hq
        · refine weak_to [] [] ?_ ?_ ?_ ?_ HO ?_
          all_goals simp
      · have bq : ((l.getD k d0).2.2 != 1) = true := bne_iff_ne.2 hq
        refine aw_reg fun K hK => ?_; simp (maxSteps := 1000000) (disch := omega) [-List.getD_eq_getElem?_getD, hat.2.2, hk, mpAV_len, bq, hq]; refine hK _ ?_; clear hK K
        refine aw_if rfl (fun h => ?_) (fun h => absurd h (by simp))
        refine aw_reg fun K hK => ?_; simp (maxSteps := 1000000) (disch := omega) [-List.getD_eq_getElem?_getD]; refine hK _ ?_; clear hK K
        refine aw_ret ?_; simp (maxSteps := 1000000) (disch := omega) [-List.getD_eq_getElem?_getD]
    · simp [-List.getD_eq_getElem?_getD] at hk
      have hla : ∀ x ∈ l, x.2.2 = 1 := fun x hx => by
        obtain ⟨j, hj, e⟩ := memD_inv d0 hx
        rw [← e]; exact g2 j (by omega)
      refine aw_exit ?_; simp (maxSteps := 1000000) (disch := omega) [-List.getD_eq_getElem?_getD]
      refine hK1 _ ?_; clear hK1
      clear g1 g2
      refine aw_then fun K1 hK1 => ?_
      refine aw_reg fun K hK => ?_; simp (maxSteps := 1000000) (disch := omega) [-List.getD_eq_getElem?_getD]; refine hK _ ?_; clear hK K
      refine aw_block ?_
      refine aw_loop (X := Nat) (fun k => ⟨[(0, .sl l.length (mpAV l) .none), (1, .sl m.length (mpAV m) .none), (14, .int .i64 (k : Nat))], [], []⟩) (fun k => k ≤ m.length ∧ ∀ j, j < k → (m.getD j d0).2.2 = 1) (fun k => m.length - k) 0 ?_ ?_ ?_
      · exact ⟨Nat.zero_le _, fun j hj => absurd hj (Nat.not_lt_zero _)⟩
      · refine weak_to [] [] ?_ ?_ ?_ ?_ HO ?_
        all_goals simp
      · rintro k ⟨g1, g2⟩
        refine aw_then fun K2 hK2 => ?_
        refine aw_reg fun K hK => ?_; simp (maxSteps := 1000000) (disch := omega) [-List.getD_eq_getElem?_getD]; refine hK _ ?_; clear hK K
        refine aw_if rfl (fun hk => ?_) (fun hk => ?_)
        · simp [-List.getD_eq_getElem?_getD] at hk
          have hat := mpAV_at m k hk
          refine aw_skip ?_; simp (maxSteps := 1000000) (disch := omega) [-List.getD_eq_getElem?_getD]
          refine hK2 _ ?_; clear hK2
          refine aw_then fun K3 hK3 => ?_
          refine aw_block ?_
          by_cases hq : (m.getD k d0).2.2 = 1
          · have bq : ((m.getD k d0).2.2 != 1) = false := by rw [hq]; rfl
            refine aw_reg fun K hK => ?_; simp (maxSteps := 1000000) (disch := omega) [-List.getD_eq_getElem?_getD, hat.2.2, hk, mpAV_len, bq, hq]; refine hK _ ?_; clear hK K
            refine aw_if rfl (fun h => absurd h (by simp)) (fun h => ?_)
            refine aw_skip ?_; simp (maxSteps := 1000000) (disch := omega) [-List.getD_eq_getElem?_getD]
            refine hK3 _ ?_; clear hK3
            refine aw_reg0 fun K hK => ?_; simp (maxSteps := 1000000) (disch := omega) [-List.getD_eq_getElem?_getD]
            refine hK _ ?_; clear hK K
            refine ⟨k + 1, ⟨by show k + 1 ≤ _; omega, fun j hj => ?_⟩, by show m.length - (k + 1) < m.length - k; omega, ?_⟩
            · rcases Nat.lt_or_ge j k with h3 | h3
              · exact g2 j h3
              · have : j = k := by omega
                subst this; exact hq
            · refine weak_to [] [] ?_ ?_ ?_ ?_ HO ?_
              all_goals simp
          · have bq : ((m.getD k d0).2.2 != 1) = true := bne_iff_ne.2 hq
            refine aw_reg fun K hK => ?_; simp (maxSteps := 1000000) (disch := omega) [-List.getD_eq_getElem?_getD, hat.2.2, hk, mpAV_len, bq, hq]; refine hK _ ?_; clear hK K
            refine aw_if rfl (fun h => ?_) (fun h => absurd h (by simp))
            refine aw_reg fun K hK => ?_; simp (maxSteps := 1000000) (disch := omega) [-List.getD_eq_getElem?_getD]; refine hK _ ?_; clear hK K
            refine aw_ret ?_; simp (maxSteps := 1000000) (disch := omega) [-List.getD_eq_getElem?_getD]
        · simp [-List.getD_eq_getElem?_getD] at hk
          have hma : ∀ x ∈ m, x.2.2 = 1 := fun x hx => by
            obtain ⟨j, hj, e⟩ := memD_inv d0 hx
            rw [← e]; exact g2 j (by omega)
          have hone := hone hla hma
          have hway := fun {x y} => hway hla hma (x := x) (y := y)
          refine aw_exit ?_; simp (maxSteps := 1000000) (disch := omega) [-List.getD_eq_getElem?_getD]
          refine hK1 _ ?_; clear hK1
          clear g1 g2
          refine aw_reg fun K hK => ?_; simp (maxSteps := 1000000) (disch := omega) [-List.getD_eq_getElem?_getD]
          refine acall_is (w3) ?_; simp (maxSteps := 1000000) (disch := omega) [-List.getD_eq_getElem?_getD]
          refine hK _ ?_; clear hK K
          refine aw_reg fun K hK => ?_; simp (maxSteps := 1000000) (disch := omega) [-List.getD_eq_getElem?_getD]; refine hK _ ?_; clear hK K
          refine aw_then fun K1 hK1 => ?_
          refine aw_reg fun K hK => ?_; simp (maxSteps := 1000000) (disch := omega) [-List.getD_eq_getElem?_getD]; refine hK _ ?_; clear hK K
          refine aw_block ?_
          refine aw_loop (X := Nat) (fun k => ⟨[(0, .sl l.length (mpAV l) .none), (1, .sl m.length (mpAV m) .none), (15, .sl c.length (mpAV c) .none), (16, .int .i64 0), (17, .int .i64 0), (18, .int .i64 (k : Nat))], [], []⟩) (fun k => k ≤ c.length) (fun k => c.length - k) 0 ?_ ?_ ?_
          · exact Nat.zero_le _
          · refine weak_to [] [] ?_ ?_ ?_ ?_ HO ?_
            all_goals simp
          · rintro k g1
            refine aw_then fun K2 hK2 => ?_
            refine aw_reg fun K hK => ?_; simp (maxSteps := 1000000) (disch := omega) [-List.getD_eq_getElem?_getD]; refine hK _ ?_; clear hK K
            refine aw_if rfl (fun hk => ?_) (fun hk => ?_)
            · simp [-List.getD_eq_getElem?_getD] at hk
              have hat := mpAV_at c k hk
              have hq := hone _ (memD c k d0 hk)
              have bq : ((c.getD k d0).2.2 != 1) = false := by rw [hq]; rfl
              refine aw_skip ?_; simp (maxSteps := 1000000) (disch := omega) [-List.getD_eq_getElem?_getD]
              refine hK2 _ ?_; clear hK2
              refine aw_then fun K3 hK3 => ?_
              refine aw_block ?_
              refine aw_reg fun K hK => ?_; simp (maxSteps := 1000000) (disch := omega) [-List.getD_eq_getElem?_getD, hat.2.2, hk, mpAV_len, bq, hq]; refine hK _ ?_; clear hK K
              refine aw_if rfl (fun h => absurd h (by simp)) (fun h => ?_)
              refine aw_skip ?_; simp (maxSteps := 1000000) (disch := omega) [-List.getD_eq_getElem?_getD]
              refine hK3 _ ?_; clear hK3
              refine aw_reg0 fun K hK => ?_; simp (maxSteps := 1000000) (disch := omega) [-List.getD_eq_getElem?_getD]
              refine hK _ ?_; clear hK K
              refine ⟨k + 1, by show k + 1 ≤ _; omega, by show c.length - (k + 1) < c.length - k; omega, ?_⟩
              refine weak_to [] [] ?_ ?_ ?_ ?_ HO ?_
              all_goals simp
            · refine aw_exit ?_; simp (maxSteps := 1000000) (disch := omega) [-List.getD_eq_getElem?_getD]
              refine hK1 _ ?_; clear hK1
              clear g1
              refine aw_then fun K1 hK1 => ?_
              refine aw_reg fun K hK => ?_; simp (maxSteps := 1000000) (disch := omega) [-List.getD_eq_getElem?_getD]; refine hK _ ?_; clear hK K
              refine aw_block ?_
              refine aw_loop (X := Nat) (fun i => ⟨[(0, .sl l.length (mpAV l) .none), (1, .sl m.length (mpAV m) .none), (15, .sl c.length (mpAV c) .none), (16, .int .i64 0), (17, .int .i64 (cnt l m i 0 : Nat)), (19, .int .i64 (i : Nat))], [], []⟩) (fun i => i ≤ l.length) (fun i => l.length - i) 0 ?_ ?_ ?_
              · exact Nat.zero_le _
              · refine weak_to [] [] ?_ ?_ ?_ ?_ HO ?_
                all_goals simp [cnt_zero]
              · rintro i g1
                refine aw_then fun K2 hK2 => ?_
                refine aw_reg fun K hK => ?_; simp (maxSteps := 1000000) (disch := omega) [-List.getD_eq_getElem?_getD]; refine hK _ ?_; clear hK K
                refine aw_if rfl (fun hi => ?_) (fun hi => ?_)
                · simp [-List.getD_eq_getElem?_getD] at hi
                  have hat := mpAV_at l i hi
                  refine aw_skip ?_; simp (maxSteps := 1000000) (disch := omega) [-List.getD_eq_getElem?_getD]
                  refine hK2 _ ?_; clear hK2
                  refine aw_then fun K3 hK3 => ?_
                  refine aw_block ?_
                  refine aw_reg fun K hK => ?_; simp (maxSteps := 1000000) (disch := omega) [-List.getD_eq_getElem?_getD]; refine hK _ ?_; clear hK K
                  refine aw_block ?_
                  refine aw_loop (X := Nat) (fun k => ⟨[(0, .sl l.length (mpAV l) .none), (1, .sl m.length (mpAV m) .none), (15, .sl c.length (mpAV c) .none), (16, .int .i64 0), (17, .int .i64 (cnt l m i k : Nat)), (19, .int .i64 (i : Nat)), (20, .int .i64 (k : Nat))], [], []⟩) (fun k => k ≤ m.length) (fun k => m.length - k) 0 ?_ ?_ ?_
                  · exact Nat.zero_le _
                  · refine weak_to [] [] ?_ ?_ ?_ ?_ HO ?_
                    all_goals simp
                  · rintro k g2
                    refine aw_then fun K4 hK4 => ?_
                    refine aw_reg fun K hK => ?_; simp (maxSteps := 1000000) (disch := omega) [-List.getD_eq_getElem?_getD]; refine hK _ ?_; clear hK K
                    refine aw_if rfl (fun hk => ?_) (fun hk => ?_)
                    · simp [-List.getD_eq_getElem?_getD] at hk
                      have hat2 := mpAV_at m k hk
                      refine aw_skip ?_; simp (maxSteps := 1000000) (disch := omega) [-List.getD_eq_getElem?_getD]
                      refine hK4 _ ?_; clear hK4
                      refine aw_then fun K5 hK5 => ?_
                      refine aw_block ?_
                      refine aw_then fun K6 hK6 => ?_
                      have next : ∀ e n, n = cnt l m i (k + 1) → envLe 0 0 e [(0, .sl l.length (mpAV l) .none), (1, .sl m.length (mpAV m) .none), (15, .sl c.length (mpAV c) .none), (16, .int .i64 0), (17, .int .i64 (n : Nat)), (19, .int .i64 (i : Nat)), (20, .int .i64 (k : Nat))] → K5 ⟨e, [], []⟩ := by
                        intro e n hn he
                        subst hn
                        refine hK5 _ (aw_weak ⟨[(0, .sl l.length (mpAV l) .none), (1, .sl m.length (mpAV m) .none), (15, .sl c.length (mpAV c) .none), (16, .int .i64 0), (17, .int .i64 (cnt l m i (k + 1) : Nat)), (19, .int .i64 (i : Nat)), (20, .int .i64 (k : Nat))], [], []⟩ (weak_to [] [] (by simp) (by simp) (by simp) (by simp) HO (by simpa using he)) ?_)
                        refine aw_reg0 fun K hK => ?_; simp (maxSteps := 1000000) (disch := omega) [-List.getD_eq_getElem?_getD]
                        refine hK _ ?_; clear hK K
                        refine ⟨k + 1, by show k + 1 ≤ _; omega, by show m.length - (k + 1) < m.length - k; omega, ?_⟩
                        refine weak_to [] [] ?_ ?_ ?_ ?_ HO ?_
                        all_goals simp
                      clear hK5
                      by_cases hto : (l.getD i d0).2.1 = (m.getD k d0).1
                      rotate_left
                      · have hcn := cnt_skip hk hto
                        have bt : ((l.getD i d0).2.1 != (m.getD k d0).1) = true := bne_iff_ne.2 hto
                        refine aw_draw [] [] [] drawMixed (by kernel_rfl) (by kernel_rfl) fun K hK => ?_; simp (maxSteps := 1000000) (disch := omega) [-List.getD_eq_getElem?_getD, hi, hk, hat.2.1, hat2.1, mpAV_len, bt, hto]
                        refine hK _ ?_; clear hK K
                        refine aw_if rfl (fun h => ?_) (fun h => absurd h (by simp))
                        refine aw_exit ?_; simp (maxSteps := 1000000) (disch := omega) [-List.getD_eq_getElem?_getD]
                        refine next _ (cnt l m i k) hcn.symm ?_
                        simp
                      · have hcn := cnt_add hk hto
                        have hle := cnt_le (l := l) (m := m) (by omega) (by omega) i k
                        have bt : ((l.getD i d0).2.1 != (m.getD k d0).1) = false := by rw [hto]; exact bne_self_eq_false _
                        have hin := hway (memD l i d0 hi) (memD m k d0 hk) hto
                        refine aw_draw [] [] [] drawMixed (by kernel_rfl) (by kernel_rfl) fun K hK => ?_; simp (maxSteps := 1000000) (disch := omega) [-List.getD_eq_getElem?_getD, hi, hk, hat.2.1, hat2.1, mpAV_len, bt, hto]
                        refine hK _ ?_; clear hK K
                        refine aw_if rfl (fun h => absurd h (by simp)) (fun h => ?_)
                        refine aw_skip ?_; simp (maxSteps := 1000000) (disch := omega) [-List.getD_eq_getElem?_getD]
                        refine hK6 _ ?_; clear hK6
                        refine aw_reg fun K hK => ?_; simp (maxSteps := 1000000) (disch := omega) [-List.getD_eq_getElem?_getD]; refine hK _ ?_; clear hK K
                        refine aw_reg fun K hK => ?_; simp (maxSteps := 1000000) (disch := omega) [-List.getD_eq_getElem?_getD]; refine hK _ ?_; clear hK K
                        refine aw_then fun K6 hK6 => ?_
                        refine aw_reg fun K hK => ?_; simp (maxSteps := 1000000) (disch := omega) [-List.getD_eq_getElem?_getD]; refine hK _ ?_; clear hK K
                        generalize cnt l m i k = n at *
                        generalize (l.getD i d0).1 = a at *
                        generalize (m.getD k d0).2.1 = b at *
                        have hfa := fnd_all hin
                        simp only at hfa
                        refine aw_block ?_
                        refine aw_loop (X := Nat) (fun t => ⟨[(0, .sl l.length (mpAV l) .none), (1, .sl m.length (mpAV m) .none), (15, .sl c.length (mpAV c) .none), (16, .int .i64 0), (17, .int .i64 ((n + 1 : Nat) : Int)), (19, .int .i64 (i : Nat)), (20, .int .i64 (k : Nat)), (21, .bool (fnd c a b t)), (22, .int .i64 (t : Nat))], [], []⟩) (fun t => t ≤ c.length) (fun t => c.length - t) 0 ?_ ?_ ?_
                        · exact Nat.zero_le _
                        · refine weak_to [] [] ?_ ?_ ?_ ?_ HO ?_
                          all_goals simp [fnd]
                        · rintro t g3
                          refine aw_then fun K7 hK7 => ?_
                          refine aw_reg fun K hK => ?_; simp (maxSteps := 1000000) (disch := omega) [-List.getD_eq_getElem?_getD]; refine hK _ ?_; clear hK K
                          refine aw_if rfl (fun ht => ?_) (fun ht => ?_)
                          · simp [-List.getD_eq_getElem?_getD] at ht
                            have hat3 := mpAV_at c t ht
                            have hfs := fnd_succ (a := a) (b := b) ht
                            refine aw_skip ?_; simp (maxSteps := 1000000) (disch := omega) [-List.getD_eq_getElem?_getD]
                            refine hK7 _ ?_; clear hK7
                            refine aw_then fun K8 hK8 => ?_
                            refine aw_block ?_
                            have go : ∀ e v, v = fnd c a b (t + 1) → envLe 0 0 e [(0, .sl l.length (mpAV l) .none), (1, .sl m.length (mpAV m) .none), (15, .sl c.length (mpAV c) .none), (16, .int .i64 0), (17, .int .i64 ((n + 1 : Nat) : Int)), (19, .int .i64 (i : Nat)), (20, .int .i64 (k : Nat)), (21, .bool v), (22, .int .i64 (t : Nat))] → K8 ⟨e, [], []⟩ := by
                              intro e v hv he
                              subst hv
                              refine hK8 _ (aw_weak ⟨[(0, .sl l.length (mpAV l) .none), (1, .sl m.length (mpAV m) .none), (15, .sl c.length (mpAV c) .none), (16, .int .i64 0), (17, .int .i64 ((n + 1 : Nat) : Int)), (19, .int .i64 (i : Nat)), (20, .int .i64 (k : Nat)), (21, .bool (fnd c a b (t + 1))), (22, .int .i64 (t : Nat))], [], []⟩ (weak_to [] [] (by simp) (by simp) (by simp) (by simp) HO (by simpa using he)) ?_)
                              refine aw_reg0 fun K hK => ?_; simp (maxSteps := 1000000) (disch := omega) [-List.getD_eq_getElem?_getD]
                              refine hK _ ?_; clear hK K
                              refine ⟨t + 1, by show t + 1 ≤ _; omega, by show c.length - (t + 1) < c.length - t; omega, ?_⟩
                              refine weak_to [] [] ?_ ?_ ?_ ?_ HO ?_
                              all_goals simp
                            clear hK8
                            generalize fnd c a b (t + 1) = v' at *
                            generalize fnd c a b t = v at *
                            generalize c.getD t d0 = z at *
                            obtain ⟨z1, z2, z3⟩ := z
                            simp only at hat3 hfs
                            cases v with
                            | true =>
                              refine aw_draw0 [] [] [] drawMixed (by kernel_rfl) (by kernel_rfl) fun K hK => ?_
                              simp (maxSteps := 1000000) (disch := omega) [-List.getD_eq_getElem?_getD, hat3.1, hat3.2.1, hat.1, hat2.2.1, hi, hk, ht, mpAV_len]
                              refine hK _ ?_; clear hK K
                              refine go _ true (by simp [hfs]) ?_
                              simp
                            | false =>
                              by_cases q1 : z1 = a
                              · subst q1
                                by_cases q2 : z2 = b
                                · subst q2
                                  refine aw_draw0 [] [] [] drawMixed (by kernel_rfl) (by kernel_rfl) fun K hK => ?_
                                  simp (maxSteps := 1000000) (disch := omega) [-List.getD_eq_getElem?_getD, hat3.1, hat3.2.1, hat.1, hat2.2.1, hi, hk, ht, mpAV_len]
                                  refine hK _ ?_; clear hK K
                                  refine go _ true (by simp [hfs]) ?_
                                  simp
                                · have bq : (z2 == b) = false := beq_eq_false_iff_ne.2 q2
                                  refine aw_draw0 [] [] [] drawMixed (by kernel_rfl) (by kernel_rfl) fun K hK => ?_
                                  simp (maxSteps := 1000000) (disch := omega) [-List.getD_eq_getElem?_getD, hat3.1, hat3.2.1, hat.1, hat2.2.1, hi, hk, ht, mpAV_len, bq, q2]
                                  refine hK _ ?_; clear hK K
                                  refine go _ false (by simp [hfs, q2]) ?_
                                  simp
                              · have bq : (z1 == a) = false := beq_eq_false_iff_ne.2 q1
                                refine aw_draw0 [] [] [] drawMixed (by kernel_rfl) (by kernel_rfl) fun K hK => ?_
                                simp (maxSteps := 1000000) (disch := omega) [-List.getD_eq_getElem?_getD, hat3.1, hat3.2.1, hat.1, hat2.2.1, hi, hk, ht, mpAV_len, bq, q1]
                                refine hK _ ?_; clear hK K
                                refine go _ false (by simp [hfs, q1]) ?_
                                simp
                          · simp [-List.getD_eq_getElem?_getD] at ht
                            have e : t = c.length := by omega
                            subst e
                            rw [hfa]
                            refine aw_exit ?_; simp (maxSteps := 1000000) (disch := omega) [-List.getD_eq_getElem?_getD]
                            refine hK6 _ ?_; clear hK6
                            refine aw_reg fun K hK => ?_; simp (maxSteps := 1000000) (disch := omega) [-List.getD_eq_getElem?_getD]; refine hK _ ?_; clear hK K
                            refine aw_if rfl (fun h => absurd h (by simp)) (fun h => ?_)
                            refine aw_skip ?_; simp (maxSteps := 1000000) (disch := omega) [-List.getD_eq_getElem?_getD]
                            refine next _ (n + 1) hcn.symm ?_
                            simp
                    · simp [-List.getD_eq_getElem?_getD] at hk
                      have e : k = m.length := by omega
                      subst e
                      have hr := cnt_row (m := m) hi
                      rw [hr]
                      refine aw_exit ?_; simp (maxSteps := 1000000) (disch := omega) [-List.getD_eq_getElem?_getD]
                      refine hK3 _ ?_; clear hK3
                      refine aw_reg0 fun K hK => ?_; simp (maxSteps := 1000000) (disch := omega) [-List.getD_eq_getElem?_getD]
                      refine hK _ ?_; clear hK K
                      refine ⟨i + 1, by show i + 1 ≤ _; omega, by show l.length - (i + 1) < l.length - i; omega, ?_⟩
                      refine weak_to [] [] ?_ ?_ ?_ ?_ HO ?_
                      all_goals simp
                · simp [-List.getD_eq_getElem?_getD] at hi
                  have e : i = l.length := by omega
                  subst e
                  rw [cnt_all]
                  have bl : decide ((c.length : Int) ≤ ((pairs l m).length : Nat)) = true := decide_eq_true (by omega)
                  generalize (pairs l m).length = p at *
                  refine aw_exit ?_; simp (maxSteps := 1000000) (disch := omega) [-List.getD_eq_getElem?_getD]
                  refine hK1 _ ?_; clear hK1
                  refine aw_reg fun K hK => ?_; simp (maxSteps := 1000000) (disch := omega) [-List.getD_eq_getElem?_getD, bl, hpl]; refine hK _ ?_; clear hK K
                  refine aw_ret ?_; simp (maxSteps := 1000000) (disch := omega) [-List.getD_eq_getElem?_getD]
end Go.Proofs.Ytfdlngemkhiiiaa
