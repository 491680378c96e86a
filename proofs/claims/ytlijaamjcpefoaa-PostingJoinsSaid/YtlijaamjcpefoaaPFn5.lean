/- Merging in layer 38: the walk over two lists of numbers.
   Conditions: lengths below 400. -/
import Derived.Test.YtlijaamjcpefoaaPFn4
namespace Go.Proofs.Ytlijaamjcpefoaa
open Go Go.Am Post
set_option linter.unusedVariables false

theorem len_if (k : Bool) (o : List Int) (x : Int) (m : Nat) (h : o.length + 1 ≤ m) : (if k = true then o ++ [x] else o).length ≤ m := by
  split
  · simp only [List.length_append, List.length_cons, List.length_nil]; omega
  · omega

set_option maxRecDepth 100000 in
set_option maxHeartbeats 4000000 in
theorem mergeC_ok (g : Nat) (kf : Bool → Bool → Bool) (hg : ∀ p q H T, ACall Try.prog g [.bool p, .bool q] H T (Is (.bool (kf p q)) H T)) (a b : List Int) (ha : a.length ≤ 400) (hb : b.length ≤ 400) (H : List Blk) (T : Toks) (HO0 : HOk H T) :
    ACall Try.prog 89 [.sl a.length (ints a) .none, .sl b.length (ints b) .none, .fn 90 [] [], .fn 91 [] [.ptr H.length 0, .ptr (H.length + 1) 0]] (SH H g [] T.length) T
      (Is (.tup []) (SH H g (MG kf a b (a.length + b.length) 0 0 []) T.length) (ST T (MG kf a b (a.length + b.length) 0 0 []))) := by
  have e0 : ST T [] = T := rfl
  refine acall_enter 11 [] Try.ntmps89 Try.func89 rfl (fun _ _ => Try.call89 _ _) (by simp) (fun HO => ?_)
  clear HO
  have HO := HO0
  refine aw_reg fun K hK => ?_; simp (maxSteps := 200000) (disch := omega) [-List.getD_eq_getElem?_getD]; refine hK _ ?_; clear hK K
  refine aw_block ?_
  refine aw_loop (X := Nat × Nat × Nat × List Int) (fun x => ⟨[(0, .sl a.length (ints a) .none), (1, .sl b.length (ints b) .none), (2, .fn 90 [] []), (3, .fn 91 [] [.ptr H.length 0, .ptr (H.length + 1) 0]), (8, .int .i64 (x.2.1 : Nat)), (9, .int .i64 (x.2.2.1 : Nat))], SH H g x.2.2.2 T.length, ST T x.2.2.2⟩)
    (fun x => x.2.1 ≤ a.length ∧ x.2.2.1 ≤ b.length ∧ (a.length - x.2.1) + (b.length - x.2.2.1) ≤ x.1 ∧ MG kf a b (a.length + b.length) 0 0 [] = MG kf a b x.1 x.2.1 x.2.2.1 x.2.2.2 ∧ x.2.2.2.length ≤ x.2.1 + x.2.2.1) (fun x => x.1) (a.length + b.length, 0, 0, []) ?_ ?_ ?_
  · exact ⟨Nat.zero_le _, Nat.zero_le _, by simp only; omega, rfl, Nat.zero_le _⟩
  · refine weak_to [] [] ?_ ?_ ?_ ?_ (hok_SH HO g _) ?_
    · simp
    · simp [e0]
    · simp [SH_len]
    · exact ST_len T _
    · simp [SH_len]
  · rintro ⟨n, i, j, out⟩ ⟨h1, h2, h3, h4, h5⟩
    simp only at h1 h2 h3 h4 h5
    by_cases hi : i < a.length
    · have bi : decide ((i : Int) < a.length) = true := by simp; omega
      have ni : ((i : Int) == a.length) = false := by rw [beq_eq_false_iff_ne]; omega
      have ni2 : ¬ i = a.length := by omega
      by_cases hj : j < b.length
      · have bj : decide ((j : Int) < b.length) = true := by simp; omega
        have nj : ((j : Int) == b.length) = false := by rw [beq_eq_false_iff_ne]; omega
        have nj2 : ¬ j = b.length := by omega
        have hn : 0 < n := by omega
        refine aw_then fun K2 hK2 => ?_
        refine aw_reg fun K hK => ?_; simp (maxSteps := 200000) (disch := omega) [-List.getD_eq_getElem?_getD, bi, bj, hi, hj]; refine hK _ ?_; clear hK K
        refine aw_if rfl (fun h => ?_) (fun h => absurd h (by simp))
        refine aw_skip ?_; simp (maxSteps := 200000) (disch := omega) [-List.getD_eq_getElem?_getD]
        refine hK2 _ ?_; clear hK2
        refine aw_block ?_
        refine aw_block ?_
        by_cases c1 : a.getD i 0 < b.getD j 0
        · have b1 : decide (a.getD i 0 < b.getD j 0) = true := by simpa using c1
          have hst := MG_A (kf := kf) (o := out) hn hi hj c1
          refine aw_draw [] [] [] drawMixed (by kernel_rfl) (by kernel_rfl) fun K hK => ?_; simp (maxSteps := 200000) (disch := omega) [-List.getD_eq_getElem?_getD, bi, hi, nj, nj2, getD_ints]
          refine dcall_is (itself_ok _ _ _) rfl ?_; simp (maxSteps := 200000) (disch := omega) [-List.getD_eq_getElem?_getD, getD_ints]
          refine dcall_is (itself_ok _ _ _) rfl ?_; simp (maxSteps := 200000) (disch := omega) [-List.getD_eq_getElem?_getD, b1, c1]
          refine hK _ ?_; clear hK K
          refine aw_if rfl (fun h => ?_) (fun h => absurd h (by simp))
          refine aw_reg fun K hK => ?_; simp (maxSteps := 200000) (disch := omega) [-List.getD_eq_getElem?_getD]
          refine acall_is (combA_ok g kf hg out (by omega) a i hi (by omega) H T) ?_; simp (maxSteps := 200000) (disch := omega) [-List.getD_eq_getElem?_getD]
          refine hK _ ?_; clear hK K
          refine aw_reg0 fun K hK => ?_; simp (maxSteps := 200000) (disch := omega) [-List.getD_eq_getElem?_getD]
          refine hK _ ?_; clear hK K
          refine ⟨(n - 1, i + 1, j, if kf true false = true then out ++ [a.getD i 0] else out), ⟨by show i + 1 ≤ a.length; omega, by show j ≤ b.length; omega, by show (a.length - (i + 1)) + (b.length - (j)) ≤ n - 1; omega, by rw [h4, hst], len_if _ _ _ _ (by show out.length + 1 ≤ (i + 1) + (j); omega)⟩, by show n - 1 < n; omega, ?_⟩
          refine weak_to [] [] ?_ ?_ ?_ ?_ (hok_SH HO g _) ?_
          · simp
          · simp
          · simp [SH_len]
          · exact ST_len T _
          · simp [SH_len]
            try omega
        · have b1 : decide (a.getD i 0 < b.getD j 0) = false := by simpa using c1
          refine aw_draw [] [] [] drawMixed (by kernel_rfl) (by kernel_rfl) fun K hK => ?_; simp (maxSteps := 200000) (disch := omega) [-List.getD_eq_getElem?_getD, bi, hi, nj, nj2, getD_ints]
          refine dcall_is (itself_ok _ _ _) rfl ?_; simp (maxSteps := 200000) (disch := omega) [-List.getD_eq_getElem?_getD, getD_ints]
          refine dcall_is (itself_ok _ _ _) rfl ?_; simp (maxSteps := 200000) (disch := omega) [-List.getD_eq_getElem?_getD, b1, c1]
          refine hK _ ?_; clear hK K
          refine aw_if rfl (fun h => absurd h (by simp)) (fun h => ?_)
          by_cases c2 : b.getD j 0 < a.getD i 0
          · have b2 : decide (b.getD j 0 < a.getD i 0) = true := by simpa using c2
            have hst := MG_B (kf := kf) (o := out) hn hi hj c1 c2
            refine aw_draw [] [] [] drawMixed (by kernel_rfl) (by kernel_rfl) fun K hK => ?_; simp (maxSteps := 200000) (disch := omega) [-List.getD_eq_getElem?_getD, ni, ni2, getD_ints]
            refine dcall_is (itself_ok _ _ _) rfl ?_; simp (maxSteps := 200000) (disch := omega) [-List.getD_eq_getElem?_getD, getD_ints]
            refine dcall_is (itself_ok _ _ _) rfl ?_; simp (maxSteps := 200000) (disch := omega) [-List.getD_eq_getElem?_getD, b2, c2]
            refine hK _ ?_; clear hK K
            refine aw_if rfl (fun h => ?_) (fun h => absurd h (by simp))
            refine aw_reg fun K hK => ?_; simp (maxSteps := 200000) (disch := omega) [-List.getD_eq_getElem?_getD]
            refine acall_is (combB_ok g kf hg out (by omega) b j hj (by omega) H T) ?_; simp (maxSteps := 200000) (disch := omega) [-List.getD_eq_getElem?_getD]
            refine hK _ ?_; clear hK K
            refine aw_reg0 fun K hK => ?_; simp (maxSteps := 200000) (disch := omega) [-List.getD_eq_getElem?_getD]
            refine hK _ ?_; clear hK K
            refine ⟨(n - 1, i, j + 1, if kf false true = true then out ++ [b.getD j 0] else out), ⟨by show i ≤ a.length; omega, by show j + 1 ≤ b.length; omega, by show (a.length - (i)) + (b.length - (j + 1)) ≤ n - 1; omega, by rw [h4, hst], len_if _ _ _ _ (by show out.length + 1 ≤ (i) + (j + 1); omega)⟩, by show n - 1 < n; omega, ?_⟩
            refine weak_to [] [] ?_ ?_ ?_ ?_ (hok_SH HO g _) ?_
            · simp
            · simp
            · simp [SH_len]
            · exact ST_len T _
            · simp [SH_len]
              try omega
          · have b2 : decide (b.getD j 0 < a.getD i 0) = false := by simpa using c2
            have hst := MG_AB (kf := kf) (o := out) hn hi hj c1 c2
            refine aw_draw [] [] [] drawMixed (by kernel_rfl) (by kernel_rfl) fun K hK => ?_; simp (maxSteps := 200000) (disch := omega) [-List.getD_eq_getElem?_getD, ni, ni2, getD_ints]
            refine dcall_is (itself_ok _ _ _) rfl ?_; simp (maxSteps := 200000) (disch := omega) [-List.getD_eq_getElem?_getD, getD_ints]
            refine dcall_is (itself_ok _ _ _) rfl ?_; simp (maxSteps := 200000) (disch := omega) [-List.getD_eq_getElem?_getD, b2, c2]
            refine hK _ ?_; clear hK K
            refine aw_if rfl (fun h => absurd h (by simp)) (fun h => ?_)
            refine aw_draw [7] [0, 0, 0, 0, 0, 0, 0, 0] [[]] drawMixed (by kernel_rfl) (by kernel_rfl) fun K hK => ?_; simp (maxSteps := 200000) (disch := omega) [-List.getD_eq_getElem?_getD]
            refine dcall_eff (combAB_ok g kf hg out (by omega) a i hi (by omega) b j H T) rfl ?_; simp (maxSteps := 200000) (disch := omega) [-List.getD_eq_getElem?_getD]
            refine hK _ ?_; clear hK K
            refine aw_reg0 fun K hK => ?_; simp (maxSteps := 200000) (disch := omega) [-List.getD_eq_getElem?_getD]
            refine hK _ ?_; clear hK K
            refine ⟨(n - 1, i + 1, j + 1, if kf true true = true then out ++ [a.getD i 0] else out), ⟨by show i + 1 ≤ a.length; omega, by show j + 1 ≤ b.length; omega, by show (a.length - (i + 1)) + (b.length - (j + 1)) ≤ n - 1; omega, by rw [h4, hst], len_if _ _ _ _ (by show out.length + 1 ≤ (i + 1) + (j + 1); omega)⟩, by show n - 1 < n; omega, ?_⟩
            refine weak_to [] [] ?_ ?_ ?_ ?_ (hok_SH HO g _) ?_
            · simp
            · simp
            · simp [SH_len]
            · exact ST_len T _
            · simp [SH_len]
              try omega
      · have bj : decide ((j : Int) < b.length) = false := by simp; omega
        have hjb : j = b.length := by omega
        have nj : ((j : Int) == b.length) = true := by simp; omega
        have hn : 0 < n := by omega
        have hst := MG_A0 (kf := kf) (o := out) hn hi hjb
        refine aw_then fun K2 hK2 => ?_
        refine aw_reg fun K hK => ?_; simp (maxSteps := 200000) (disch := omega) [-List.getD_eq_getElem?_getD, bi, bj, hi, hj]; refine hK _ ?_; clear hK K
        refine aw_if rfl (fun h => ?_) (fun h => absurd h (by simp))
        refine aw_skip ?_; simp (maxSteps := 200000) (disch := omega) [-List.getD_eq_getElem?_getD]
        refine hK2 _ ?_; clear hK2
        refine aw_block ?_
        refine aw_block ?_
        have hjz : (j : Int) = (b.length : Int) := by omega
        refine aw_draw [] [] [] drawMixed (by kernel_rfl) (by kernel_rfl) fun K hK => ?_; simp (maxSteps := 200000) (disch := omega) [-List.getD_eq_getElem?_getD, nj, hjz]
        refine hK _ ?_; clear hK K
        refine aw_if rfl (fun h => ?_) (fun h => absurd h (by simp))
        refine aw_reg fun K hK => ?_; simp (maxSteps := 200000) (disch := omega) [-List.getD_eq_getElem?_getD]
        refine acall_is (combA_ok g kf hg out (by omega) a i hi (by omega) H T) ?_; simp (maxSteps := 200000) (disch := omega) [-List.getD_eq_getElem?_getD]
        refine hK _ ?_; clear hK K
        refine aw_reg0 fun K hK => ?_; simp (maxSteps := 200000) (disch := omega) [-List.getD_eq_getElem?_getD]
        refine hK _ ?_; clear hK K
        refine ⟨(n - 1, i + 1, j, if kf true false = true then out ++ [a.getD i 0] else out), ⟨by show i + 1 ≤ a.length; omega, by show j ≤ b.length; omega, by show (a.length - (i + 1)) + (b.length - (j)) ≤ n - 1; omega, by rw [h4, hst], len_if _ _ _ _ (by show out.length + 1 ≤ (i + 1) + (j); omega)⟩, by show n - 1 < n; omega, ?_⟩
        refine weak_to [] [] ?_ ?_ ?_ ?_ (hok_SH HO g _) ?_
        · simp
        · simp
        · simp [SH_len]
        · exact ST_len T _
        · simp [SH_len]
          try omega
    · have bi : decide ((i : Int) < a.length) = false := by simp; omega
      have hia : i = a.length := by omega
      by_cases hj : j < b.length
      · have bj : decide ((j : Int) < b.length) = true := by simp; omega
        have nj : ((j : Int) == b.length) = false := by rw [beq_eq_false_iff_ne]; omega
        have nj2 : ¬ j = b.length := by omega
        have ni : ((i : Int) == a.length) = true := by simp; omega
        have hn : 0 < n := by omega
        have hst := MG_B0 (kf := kf) (o := out) hn hia hj
        refine aw_then fun K2 hK2 => ?_
        refine aw_reg fun K hK => ?_; simp (maxSteps := 200000) (disch := omega) [-List.getD_eq_getElem?_getD, bi, bj, hi, hj]; refine hK _ ?_; clear hK K
        refine aw_if rfl (fun h => ?_) (fun h => absurd h (by simp))
        refine aw_skip ?_; simp (maxSteps := 200000) (disch := omega) [-List.getD_eq_getElem?_getD]
        refine hK2 _ ?_; clear hK2
        refine aw_block ?_
        refine aw_block ?_
        refine aw_draw [] [] [] drawMixed (by kernel_rfl) (by kernel_rfl) fun K hK => ?_; simp (maxSteps := 200000) (disch := omega) [-List.getD_eq_getElem?_getD, nj, nj2, bi, hi]
        refine hK _ ?_; clear hK K
        refine aw_if rfl (fun h => absurd h (by simp)) (fun h => ?_)
        have hiz : (i : Int) = (a.length : Int) := by omega
        refine aw_draw [] [] [] drawMixed (by kernel_rfl) (by kernel_rfl) fun K hK => ?_; simp (maxSteps := 200000) (disch := omega) [-List.getD_eq_getElem?_getD, ni, hiz]
        refine hK _ ?_; clear hK K
        refine aw_if rfl (fun h => ?_) (fun h => absurd h (by simp))
        refine aw_reg fun K hK => ?_; simp (maxSteps := 200000) (disch := omega) [-List.getD_eq_getElem?_getD]
        refine acall_is (combB_ok g kf hg out (by omega) b j hj (by omega) H T) ?_; simp (maxSteps := 200000) (disch := omega) [-List.getD_eq_getElem?_getD]
        refine hK _ ?_; clear hK K
        refine aw_reg0 fun K hK => ?_; simp (maxSteps := 200000) (disch := omega) [-List.getD_eq_getElem?_getD]
        refine hK _ ?_; clear hK K
        refine ⟨(n - 1, i, j + 1, if kf false true = true then out ++ [b.getD j 0] else out), ⟨by show i ≤ a.length; omega, by show j + 1 ≤ b.length; omega, by show (a.length - (i)) + (b.length - (j + 1)) ≤ n - 1; omega, by rw [h4, hst], len_if _ _ _ _ (by show out.length + 1 ≤ (i) + (j + 1); omega)⟩, by show n - 1 < n; omega, ?_⟩
        refine weak_to [] [] ?_ ?_ ?_ ?_ (hok_SH HO g _) ?_
        · simp
        · simp
        · simp [SH_len]
        · exact ST_len T _
        · simp [SH_len]
          try omega
      · have bj : decide ((j : Int) < b.length) = false := by simp; omega
        have hend := MG_end (kf := kf) (a := a) (b := b) (o := out) (n := n) hia (show j = b.length by omega)
        rw [hend] at h4
        refine aw_then fun K2 hK2 => ?_
        refine aw_reg fun K hK => ?_; simp (maxSteps := 200000) (disch := omega) [-List.getD_eq_getElem?_getD, bi, bj, hi, hj]; refine hK _ ?_; clear hK K
        refine aw_if rfl (fun h => absurd h (by simp)) (fun h => ?_)
        refine aw_exit ?_; simp (maxSteps := 200000) (disch := omega) [-List.getD_eq_getElem?_getD]
        rw [h4]
        exact ⟨rfl, rfl, rfl⟩
end Go.Proofs.Ytlijaamjcpefoaa
