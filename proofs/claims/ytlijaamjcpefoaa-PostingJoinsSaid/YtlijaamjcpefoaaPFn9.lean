/- Or of the reference of layer 38, and that it is the program's.
   Conditions: lengths below 400. -/
import Derived.Test.YtlijaamjcpefoaaPFn8
namespace Go.Proofs.Ytlijaamjcpefoaa
open Go Go.Am Post
set_option linter.unusedVariables false

set_option maxRecDepth 100000 in
set_option maxHeartbeats 4000000 in
theorem merged_ok (a b : List Int) (ha : a.length ≤ 400) (hb : b.length ≤ 400) (H : List Blk) (T : Toks) (ta tb : Tag) :
    ACall Try.prog 62 [.sl a.length (ints a) ta, .sl b.length (ints b) tb] H T
      (Is (.sl (MG (fun _ _ => true) a b (a.length + b.length) 0 0 []).length (ints (MG (fun _ _ => true) a b (a.length + b.length) 0 0 [])) .none) H T) := by
  refine ACall.untag1 (ACall.untag2 ?_)
  refine ACall.drop' ?_ (by simp)
  refine acall_enter 9 [] Try.ntmps62 Try.func62 rfl (fun _ _ => Try.call62 _ _) (by simp) (fun HO => ?_)
  refine aw_reg fun K hK => ?_; simp (maxSteps := 200000) (disch := omega) [-List.getD_eq_getElem?_getD]; refine hK _ ?_; clear hK K
  refine aw_reg fun K hK => ?_; simp (maxSteps := 200000) (disch := omega) [-List.getD_eq_getElem?_getD]; refine hK _ ?_; clear hK K
  refine aw_reg fun K hK => ?_; simp (maxSteps := 200000) (disch := omega) [-List.getD_eq_getElem?_getD]; refine hK _ ?_; clear hK K
  refine aw_then fun K1 hK1 => ?_
  refine aw_block ?_
  refine aw_own 5 0 1 [] (by omega) (by simp) ?_
  refine aw_loop (X := Nat × Nat × Nat × List Int) (fun x => ⟨[(0, .sl a.length (ints a) .none), (1, .sl b.length (ints b) .none), (5, .sl x.2.2.2.length (ints x.2.2.2) (.own T.length)), (6, .int .i64 (x.2.1 : Nat)), (7, .int .i64 (x.2.2.1 : Nat))], H, T ++ [(x.2.2.2.length, 1)]⟩)
    (fun x => x.2.1 ≤ a.length ∧ x.2.2.1 ≤ b.length ∧ (a.length - x.2.1) + (b.length - x.2.2.1) ≤ x.1 ∧ MG (fun _ _ => true) a b (a.length + b.length) 0 0 [] = MG (fun _ _ => true) a b x.1 x.2.1 x.2.2.1 x.2.2.2 ∧ x.2.2.2.length ≤ x.2.1 + x.2.2.1) (fun x => x.1) (a.length + b.length, 0, 0, []) ?_ ?_ ?_
  · exact ⟨Nat.zero_le _, Nat.zero_le _, by simp only; omega, rfl, Nat.zero_le _⟩
  · refine weak_to [] [] ?_ ?_ ?_ ?_ (HO.toks (by simp)) ?_
    all_goals simp
  · rintro ⟨n, i, j, out⟩ ⟨h1, h2, h3, h4, h5⟩
    simp only at h1 h2 h3 h4 h5
    by_cases hi : i < a.length
    · have bi : decide ((i : Int) < a.length) = true := by simp; omega
      have ni : ((i : Int) == a.length) = false := by rw [beq_eq_false_iff_ne]; omega
      have ni2 : ¬ i = a.length := by omega
      by_cases hj : j < b.length
      · have bj : decide ((j : Int) < b.length) = true := by simp; omega
        have nj : ((j : Int) == b.length) = false := by rw [beq_eq_false_iff_ne]; omega
        have nj2 : ¬ j = b.length := by omega
        have hn : 0 < n := by omega
        refine aw_then fun K2 hK2 => ?_
        refine aw_reg fun K hK => ?_; simp (maxSteps := 200000) (disch := omega) [-List.getD_eq_getElem?_getD, bi, bj, hi, hj]; refine hK _ ?_; clear hK K
        refine aw_if rfl (fun h => ?_) (fun h => absurd h (by simp))
        refine aw_skip ?_; simp (maxSteps := 200000) (disch := omega) [-List.getD_eq_getElem?_getD]
        refine hK2 _ ?_; clear hK2
        refine aw_block ?_
        refine aw_block ?_
        by_cases c1 : a.getD i 0 < b.getD j 0
        · have b1 : decide (a.getD i 0 < b.getD j 0) = true := by simpa using c1
          have hst := MG_A (kf := (fun _ _ => true)) (o := out) hn hi hj c1
          refine aw_draw [] [] [] drawMixed (by kernel_rfl) (by kernel_rfl) fun K hK => ?_; simp (maxSteps := 200000) (disch := omega) [-List.getD_eq_getElem?_getD, bi, hi, nj, nj2, getD_ints, b1, c1]
          refine hK _ ?_; clear hK K
          refine aw_if rfl (fun h => ?_) (fun h => absurd h (by simp))
          refine aw_reg fun K hK => ?_; simp (maxSteps := 200000) (disch := omega) [-List.getD_eq_getElem?_getD, getD_ints]; refine hK _ ?_; clear hK K
          refine aw_reg0 fun K hK => ?_; simp (maxSteps := 200000) (disch := omega) [-List.getD_eq_getElem?_getD]
          refine hK _ ?_; clear hK K
          refine ⟨(n - 1, i + 1, j, out ++ [a.getD i 0]), ⟨by show i + 1 ≤ a.length; omega, by show j ≤ b.length; omega, by show (a.length - (i + 1)) + (b.length - (j)) ≤ n - 1; omega, by rw [h4, hst]; rfl, by show (out ++ [a.getD i 0]).length ≤ (i + 1) + (j); simp only [List.length_append, List.length_cons, List.length_nil]; omega⟩, by show n - 1 < n; omega, ?_⟩
          refine weak_to [] [] ?_ ?_ ?_ ?_ (HO.toks (by simp)) ?_
          · simp
          · simp
          · simp
          · simp
          · simp [-List.getD_eq_getElem?_getD, ints_snoc]
            try omega
        · have b1 : decide (a.getD i 0 < b.getD j 0) = false := by simpa using c1
          refine aw_draw [] [] [] drawMixed (by kernel_rfl) (by kernel_rfl) fun K hK => ?_; simp (maxSteps := 200000) (disch := omega) [-List.getD_eq_getElem?_getD, bi, hi, nj, nj2, getD_ints, b1, c1]
          refine hK _ ?_; clear hK K
          refine aw_if rfl (fun h => absurd h (by simp)) (fun h => ?_)
          by_cases c2 : b.getD j 0 < a.getD i 0
          · have b2 : decide (b.getD j 0 < a.getD i 0) = true := by simpa using c2
            have hst := MG_B (kf := (fun _ _ => true)) (o := out) hn hi hj c1 c2
            refine aw_draw [] [] [] drawMixed (by kernel_rfl) (by kernel_rfl) fun K hK => ?_; simp (maxSteps := 200000) (disch := omega) [-List.getD_eq_getElem?_getD, ni, ni2, getD_ints, b2, c2]
            refine hK _ ?_; clear hK K
            refine aw_if rfl (fun h => ?_) (fun h => absurd h (by simp))
            refine aw_reg fun K hK => ?_; simp (maxSteps := 200000) (disch := omega) [-List.getD_eq_getElem?_getD, getD_ints]; refine hK _ ?_; clear hK K
            refine aw_reg0 fun K hK => ?_; simp (maxSteps := 200000) (disch := omega) [-List.getD_eq_getElem?_getD]
            refine hK _ ?_; clear hK K
            refine ⟨(n - 1, i, j + 1, out ++ [b.getD j 0]), ⟨by show i ≤ a.length; omega, by show j + 1 ≤ b.length; omega, by show (a.length - (i)) + (b.length - (j + 1)) ≤ n - 1; omega, by rw [h4, hst]; rfl, by show (out ++ [b.getD j 0]).length ≤ (i) + (j + 1); simp only [List.length_append, List.length_cons, List.length_nil]; omega⟩, by show n - 1 < n; omega, ?_⟩
            refine weak_to [] [] ?_ ?_ ?_ ?_ (HO.toks (by simp)) ?_
            · simp
            · simp
            · simp
            · simp
            · simp [-List.getD_eq_getElem?_getD, ints_snoc]
              try omega
          · have b2 : decide (b.getD j 0 < a.getD i 0) = false := by simpa using c2
            have hst := MG_AB (kf := (fun _ _ => true)) (o := out) hn hi hj c1 c2
            refine aw_draw [] [] [] drawMixed (by kernel_rfl) (by kernel_rfl) fun K hK => ?_; simp (maxSteps := 200000) (disch := omega) [-List.getD_eq_getElem?_getD, ni, ni2, getD_ints, b2, c2]
            refine hK _ ?_; clear hK K
            refine aw_if rfl (fun h => absurd h (by simp)) (fun h => ?_)
            refine aw_reg fun K hK => ?_; simp (maxSteps := 200000) (disch := omega) [-List.getD_eq_getElem?_getD, getD_ints]; refine hK _ ?_; clear hK K
            refine aw_reg0 fun K hK => ?_; simp (maxSteps := 200000) (disch := omega) [-List.getD_eq_getElem?_getD]
            refine hK _ ?_; clear hK K
            refine ⟨(n - 1, i + 1, j + 1, out ++ [a.getD i 0]), ⟨by show i + 1 ≤ a.length; omega, by show j + 1 ≤ b.length; omega, by show (a.length - (i + 1)) + (b.length - (j + 1)) ≤ n - 1; omega, by rw [h4, hst]; rfl, by show (out ++ [a.getD i 0]).length ≤ (i + 1) + (j + 1); simp only [List.length_append, List.length_cons, List.length_nil]; omega⟩, by show n - 1 < n; omega, ?_⟩
            refine weak_to [] [] ?_ ?_ ?_ ?_ (HO.toks (by simp)) ?_
            · simp
            · simp
            · simp
            · simp
            · simp [-List.getD_eq_getElem?_getD, ints_snoc]
              try omega
      · have bj : decide ((j : Int) < b.length) = false := by simp; omega
        have hjb : j = b.length := by omega
        have nj : ((j : Int) == b.length) = true := by simp; omega
        have hjz : (j : Int) = (b.length : Int) := by omega
        have hn : 0 < n := by omega
        have hst := MG_A0 (kf := (fun _ _ => true)) (o := out) hn hi hjb
        refine aw_then fun K2 hK2 => ?_
        refine aw_reg fun K hK => ?_; simp (maxSteps := 200000) (disch := omega) [-List.getD_eq_getElem?_getD, bi, bj, hi, hj]; refine hK _ ?_; clear hK K
        refine aw_if rfl (fun h => ?_) (fun h => absurd h (by simp))
        refine aw_skip ?_; simp (maxSteps := 200000) (disch := omega) [-List.getD_eq_getElem?_getD]
        refine hK2 _ ?_; clear hK2
        refine aw_block ?_
        refine aw_block ?_
        refine aw_draw [] [] [] drawMixed (by kernel_rfl) (by kernel_rfl) fun K hK => ?_; simp (maxSteps := 200000) (disch := omega) [-List.getD_eq_getElem?_getD, nj, hjz]
        refine hK _ ?_; clear hK K
        refine aw_if rfl (fun h => ?_) (fun h => absurd h (by simp))
        refine aw_reg fun K hK => ?_; simp (maxSteps := 200000) (disch := omega) [-List.getD_eq_getElem?_getD, getD_ints]; refine hK _ ?_; clear hK K
        refine aw_reg0 fun K hK => ?_; simp (maxSteps := 200000) (disch := omega) [-List.getD_eq_getElem?_getD]
        refine hK _ ?_; clear hK K
        refine ⟨(n - 1, i + 1, j, out ++ [a.getD i 0]), ⟨by show i + 1 ≤ a.length; omega, by show j ≤ b.length; omega, by show (a.length - (i + 1)) + (b.length - (j)) ≤ n - 1; omega, by rw [h4, hst]; rfl, by show (out ++ [a.getD i 0]).length ≤ (i + 1) + (j); simp only [List.length_append, List.length_cons, List.length_nil]; omega⟩, by show n - 1 < n; omega, ?_⟩
        refine weak_to [] [] ?_ ?_ ?_ ?_ (HO.toks (by simp)) ?_
        · simp
        · simp
        · simp
        · simp
        · simp [-List.getD_eq_getElem?_getD, ints_snoc]
          try omega
    · have bi : decide ((i : Int) < a.length) = false := by simp; omega
      have hia : i = a.length := by omega
      by_cases hj : j < b.length
      · have bj : decide ((j : Int) < b.length) = true := by simp; omega
        have nj : ((j : Int) == b.length) = false := by rw [beq_eq_false_iff_ne]; omega
        have nj2 : ¬ j = b.length := by omega
        have ni : ((i : Int) == a.length) = true := by simp; omega
        have hiz : (i : Int) = (a.length : Int) := by omega
        have hn : 0 < n := by omega
        have hst := MG_B0 (kf := (fun _ _ => true)) (o := out) hn hia hj
        refine aw_then fun K2 hK2 => ?_
        refine aw_reg fun K hK => ?_; simp (maxSteps := 200000) (disch := omega) [-List.getD_eq_getElem?_getD, bi, bj, hi, hj]; refine hK _ ?_; clear hK K
        refine aw_if rfl (fun h => ?_) (fun h => absurd h (by simp))
        refine aw_skip ?_; simp (maxSteps := 200000) (disch := omega) [-List.getD_eq_getElem?_getD]
        refine hK2 _ ?_; clear hK2
        refine aw_block ?_
        refine aw_block ?_
        refine aw_draw [] [] [] drawMixed (by kernel_rfl) (by kernel_rfl) fun K hK => ?_; simp (maxSteps := 200000) (disch := omega) [-List.getD_eq_getElem?_getD, nj, nj2, bi, hi]
        refine hK _ ?_; clear hK K
        refine aw_if rfl (fun h => absurd h (by simp)) (fun h => ?_)
        refine aw_draw [] [] [] drawMixed (by kernel_rfl) (by kernel_rfl) fun K hK => ?_; simp (maxSteps := 200000) (disch := omega) [-List.getD_eq_getElem?_getD, ni, hiz]
        refine hK _ ?_; clear hK K
        refine aw_if rfl (fun h => ?_) (fun h => absurd h (by simp))
        refine aw_reg fun K hK => ?_; simp (maxSteps := 200000) (disch := omega) [-List.getD_eq_getElem?_getD, getD_ints]; refine hK _ ?_; clear hK K
        refine aw_reg0 fun K hK => ?_; simp (maxSteps := 200000) (disch := omega) [-List.getD_eq_getElem?_getD]
        refine hK _ ?_; clear hK K
        refine ⟨(n - 1, i, j + 1, out ++ [b.getD j 0]), ⟨by show i ≤ a.length; omega, by show j + 1 ≤ b.length; omega, by show (a.length - (i)) + (b.length - (j + 1)) ≤ n - 1; omega, by rw [h4, hst]; rfl, by show (out ++ [b.getD j 0]).length ≤ (i) + (j + 1); simp only [List.length_append, List.length_cons, List.length_nil]; omega⟩, by show n - 1 < n; omega, ?_⟩
        refine weak_to [] [] ?_ ?_ ?_ ?_ (HO.toks (by simp)) ?_
        · simp
        · simp
        · simp
        · simp
        · simp [-List.getD_eq_getElem?_getD, ints_snoc]
          try omega
      · have bj : decide ((j : Int) < b.length) = false := by simp; omega
        have hend := MG_end (kf := (fun _ _ => true)) (a := a) (b := b) (o := out) (n := n) hia (show j = b.length by omega)
        rw [hend] at h4
        refine aw_then fun K2 hK2 => ?_
        refine aw_reg fun K hK => ?_; simp (maxSteps := 200000) (disch := omega) [-List.getD_eq_getElem?_getD, bi, bj, hi, hj]; refine hK _ ?_; clear hK K
        refine aw_if rfl (fun h => absurd h (by simp)) (fun h => ?_)
        refine aw_exit ?_; simp (maxSteps := 200000) (disch := omega) [-List.getD_eq_getElem?_getD]
        refine hK1 _ ?_; clear hK1
        refine aw_reg fun K hK => ?_; simp (maxSteps := 200000) (disch := omega) [-List.getD_eq_getElem?_getD]; refine hK _ ?_; clear hK K
        refine aw_ret ?_; simp (maxSteps := 200000) (disch := omega) [-List.getD_eq_getElem?_getD]
        rw [h4]
        exact ⟨rfl, rfl⟩

theorem orR_ok (a b : List Int) (ha : a.length ≤ 400) (hb : b.length ≤ 400) (H : List Blk) (T : Toks) : ACall Try.prog 24 [.sl a.length (ints a) .none, .sl b.length (ints b) .none] H T (Is (.sl (comb (fun _ _ => true) a b).length (ints (comb (fun _ _ => true) a b)) .none) H T) := by
  refine ACall.drop' ?_ (by simp)
  have hml : 400 ≤ maxLen := by decide
  have c1 := validDocsR_ok a (by omega) H T .none
  have c2 := validDocsR_ok b (by omega) H T .none
  refine acall_enter 5 [] Try.ntmps24 Try.func24 rfl (fun _ _ => Try.call24 _ _) (by simp) (fun HO => ?_)
  refine aw_reg fun K hK => ?_; simp (maxSteps := 200000) (disch := omega) [-List.getD_eq_getElem?_getD]; refine hK _ ?_; clear hK K
  refine aw_then fun K1 hK1 => ?_
  cases hv : asc a 1 1000000000
  · rw [hv] at c1
    refine aw_reg fun K hK => ?_; simp (maxSteps := 200000) (disch := omega) [-List.getD_eq_getElem?_getD]
    refine acall_is (c1) ?_; simp (maxSteps := 200000) (disch := omega) [-List.getD_eq_getElem?_getD]
    refine hK _ ?_; clear hK K
    refine aw_if rfl (fun h => ?_) (fun h => absurd h (by simp))
    refine aw_reg fun K hK => ?_; simp (maxSteps := 200000) (disch := omega) [-List.getD_eq_getElem?_getD]; refine hK _ ?_; clear hK K
    refine aw_ret ?_; simp (maxSteps := 200000) (disch := omega) [-List.getD_eq_getElem?_getD]
    simp [comb, hv, ints]
  · rw [hv] at c1
    cases hw : asc b 1 1000000000
    · rw [hw] at c2
      refine aw_reg fun K hK => ?_; simp (maxSteps := 200000) (disch := omega) [-List.getD_eq_getElem?_getD]
      refine acall_is (c1) ?_; simp (maxSteps := 200000) (disch := omega) [-List.getD_eq_getElem?_getD]
      refine acall_is (c2) ?_; simp (maxSteps := 200000) (disch := omega) [-List.getD_eq_getElem?_getD]
      refine hK _ ?_; clear hK K
      refine aw_if rfl (fun h => ?_) (fun h => absurd h (by simp))
      refine aw_reg fun K hK => ?_; simp (maxSteps := 200000) (disch := omega) [-List.getD_eq_getElem?_getD]; refine hK _ ?_; clear hK K
      refine aw_ret ?_; simp (maxSteps := 200000) (disch := omega) [-List.getD_eq_getElem?_getD]
      simp [comb, hw, ints]
    · rw [hw] at c2
      have hr : comb (fun _ _ => true) a b = MG (fun _ _ => true) a b (a.length + b.length) 0 0 [] := by unfold comb; rw [if_pos ⟨hv, hw⟩]
      have c3 := merged_ok a b ha hb H T .none .none
      rw [← hr] at c3
      refine aw_reg fun K hK => ?_; simp (maxSteps := 200000) (disch := omega) [-List.getD_eq_getElem?_getD]
      refine acall_is (c1) ?_; simp (maxSteps := 200000) (disch := omega) [-List.getD_eq_getElem?_getD]
      refine acall_is (c2) ?_; simp (maxSteps := 200000) (disch := omega) [-List.getD_eq_getElem?_getD]
      refine hK _ ?_; clear hK K
      refine aw_if rfl (fun h => absurd h (by simp)) (fun h => ?_)
      refine aw_skip ?_; simp (maxSteps := 200000) (disch := omega) [-List.getD_eq_getElem?_getD]
      refine hK1 _ ?_; clear hK1
      refine aw_reg fun K hK => ?_; simp (maxSteps := 200000) (disch := omega) [-List.getD_eq_getElem?_getD]
      refine acall_is (c3) ?_; simp (maxSteps := 200000) (disch := omega) [-List.getD_eq_getElem?_getD]
      refine hK _ ?_; clear hK K
      refine aw_ret ?_; simp (maxSteps := 200000) (disch := omega) [-List.getD_eq_getElem?_getD]
end Go.Proofs.Ytlijaamjcpefoaa
