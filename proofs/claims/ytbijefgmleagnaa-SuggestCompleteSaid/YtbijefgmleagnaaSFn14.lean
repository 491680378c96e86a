/- Completing a prefix: the reference's walk (layer 43).
   Conditions: lengths below 1000, as the theorem says. -/
import Derived.Test.YtbijefgmleagnaaSFn13
namespace Go.Proofs.Ytbijefgmleagnaa
open Go Go.Am Sug
set_option linter.unusedVariables false

set_option maxRecDepth 100000 in
set_option maxHeartbeats 8000000 in
theorem completeR_ok (l : List Ent) (p : Str) (most : Int) (hm : -9223372036854775808 ≤ most ∧ most ≤ 9223372036854775807) (hl : l.length ≤ 1000) (hp : ∀ p ∈ l, p.1.length ≤ 1000) (hpl : p.length ≤ 1000) (H : List Blk) (T : Toks) (tg : Tag) :
    ACall Try.prog 29 [.sl l.length (entAV l) tg, .str p, .int .i64 most] H T (Is (.sl (compE l p most).length (entAV (compE l p most)) .none) H T) := by
  refine ACall.untag1 ?_
  refine ACall.drop' ?_ (by simp)
  have c0 := validR_ok l hl hp H T .none
  generalize hq : compE l p most = q
  refine acall_enter 10 [] Try.ntmps29 Try.func29 rfl (fun _ _ => Try.call29 _ _) (by simp) (fun HO => ?_)
  refine aw_reg fun K hK => ?_; simp (maxSteps := 1000000) (disch := omega) [-List.getD_eq_getElem?_getD]; refine hK _ ?_; clear hK K
  refine aw_reg fun K hK => ?_; simp (maxSteps := 1000000) (disch := omega) [-List.getD_eq_getElem?_getD]; refine hK _ ?_; clear hK K
  refine aw_then fun K1 hK1 => ?_
  cases hv : validE l with
  | false =>
    rw [hv] at c0
    have hwe : q = [] := by rw [← hq, compE, hv, if_neg (by simp)]
    subst hwe
    refine aw_reg fun K hK => ?_; simp (maxSteps := 1000000) (disch := omega) [-List.getD_eq_getElem?_getD]
    refine acall_is (c0) ?_; simp (maxSteps := 1000000) (disch := omega) [-List.getD_eq_getElem?_getD]
    refine hK _ ?_; clear hK K
    refine aw_if rfl (fun h => ?_) (fun h => absurd h (by simp))
    refine aw_reg fun K hK => ?_; simp (maxSteps := 1000000) (disch := omega) [-List.getD_eq_getElem?_getD]; refine hK _ ?_; clear hK K
    refine aw_ret ?_; simp (maxSteps := 1000000) (disch := omega) [-List.getD_eq_getElem?_getD, entAV_nil]
  | true =>
    rw [hv] at c0
    refine aw_reg fun K hK => ?_; simp (maxSteps := 1000000) (disch := omega) [-List.getD_eq_getElem?_getD]
    refine acall_is (c0) ?_; simp (maxSteps := 1000000) (disch := omega) [-List.getD_eq_getElem?_getD]
    refine hK _ ?_; clear hK K
    refine aw_if rfl (fun h => absurd h (by simp)) (fun h => ?_)
    refine aw_skip ?_; simp (maxSteps := 1000000) (disch := omega) [-List.getD_eq_getElem?_getD]
    refine hK1 _ ?_; clear hK1
    refine aw_then fun K1 hK1 => ?_
    refine aw_reg fun K hK => ?_; simp (maxSteps := 1000000) (disch := omega) [-List.getD_eq_getElem?_getD]; refine hK _ ?_; clear hK K
    refine aw_block ?_
    refine aw_loop (X := Nat) (fun k => ⟨[(0, .sl l.length (entAV l) .none), (1, .str p), (2, .int .i64 most), (7, .sl (insCs (keepE p (l.take k))).length (entAV (insCs (keepE p (l.take k)))) .none), (8, .int .i64 (k : Nat))], H, T⟩)
      (fun k => k ≤ l.length) (fun k => l.length - k) 0 ?_ ?_ ?_
    · exact Nat.zero_le _
    · refine weak_to [] [] ?_ ?_ ?_ ?_ HO ?_
      all_goals simp [keepE, insCs, entAV_nil]
    · rintro k h1
      refine aw_then fun K2 hK2 => ?_
      refine aw_reg fun K hK => ?_; simp (maxSteps := 1000000) (disch := omega) [-List.getD_eq_getElem?_getD]; refine hK _ ?_; clear hK K
      refine aw_if rfl (fun hk => ?_) (fun hk => ?_)
      · simp [-List.getD_eq_getElem?_getD] at hk
        have hat1 := (entAV_at l k hk).1
        have hat2 := (entAV_at l k hk).2
        have hcut := entAV_cut l k hk
        have hkt := keep_take (p := p) hk
        have hpe := hp _ (memD l k ([], 0) hk)
        have hdl : (insCs (keepE p (l.take k))).length ≤ 1000 := by rw [insCs_len]; exact Nat.le_trans (keep_len _ _) (by rw [List.length_take]; omega)
        generalize l.getD k ([], 0) = y at *
        refine aw_skip ?_; simp (maxSteps := 1000000) (disch := omega) [-List.getD_eq_getElem?_getD]
        refine hK2 _ ?_; clear hK2
        refine aw_then fun K3 hK3 => ?_
        refine aw_block ?_
        refine aw_then fun K4 hK4 => ?_
        have no : hasP p y.1 = false → ∀ e, envLe H.length T.length e [(0, .sl l.length (entAV l) .none), (1, .str p), (2, .int .i64 most), (7, .sl (insCs (keepE p (l.take k))).length (entAV (insCs (keepE p (l.take k)))) .none), (8, .int .i64 (k : Nat))] → K3 ⟨e, H, T⟩ := by
          intro hpr e he
          rw [hpr, if_neg (by simp), List.append_nil] at hkt
          refine hK3 _ (aw_weak ⟨[(0, .sl l.length (entAV l) .none), (1, .str p), (2, .int .i64 most), (7, .sl (insCs (keepE p (l.take k))).length (entAV (insCs (keepE p (l.take k)))) .none), (8, .int .i64 (k : Nat))], H, T⟩ (weak_to [] [] (by simp) (by simp) (by simp) (by simp) HO he) ?_)
          refine aw_reg0 fun K hK => ?_; simp (maxSteps := 1000000) (disch := omega) [-List.getD_eq_getElem?_getD]
          refine hK _ ?_; clear hK K
          refine ⟨k + 1, by show k + 1 ≤ _; omega, by show l.length - (k + 1) < l.length - k; omega, ?_⟩
          simp only [hkt]
          refine weak_to [] [] ?_ ?_ ?_ ?_ HO ?_
          all_goals simp
        by_cases w1 : y.1.length < p.length
        · have v1 : decide ((y.1.length : Int) < p.length) = true := decide_eq_true (by omega)
          refine aw_reg fun K hK => ?_; simp (maxSteps := 1000000) (disch := omega) [-List.getD_eq_getElem?_getD, hat1, entAV_len, v1, w1]; refine hK _ ?_; clear hK K
          refine aw_if rfl (fun h => ?_) (fun h => absurd h (by simp [w1]))
          refine aw_exit ?_; simp (maxSteps := 1000000) (disch := omega) [-List.getD_eq_getElem?_getD]
          refine no (by rw [hasP, decide_eq_false (by omega), Bool.false_and]) _ ?_
          simp
        · have v1 : decide ((y.1.length : Int) < p.length) = false := decide_eq_false (by omega)
          cases hpr : (y.1.take p.length == p) with
          | false =>
            have v2 : (y.1.take p.length != p) = true := by simp only [bne, hpr, Bool.not_false]
            refine aw_reg fun K hK => ?_; simp (maxSteps := 1000000) (disch := omega) [-List.getD_eq_getElem?_getD, hat1, entAV_len, v1, w1, hpr, v2]; refine hK _ ?_; clear hK K
            refine aw_if rfl (fun h => ?_) (fun h => absurd h (by simp))
            refine aw_exit ?_; simp (maxSteps := 1000000) (disch := omega) [-List.getD_eq_getElem?_getD]
            refine no (by rw [hasP, hpr, Bool.and_false]) _ ?_
            simp
          | true =>
            clear no
            have v2 : (y.1.take p.length != p) = false := by simp only [bne, hpr, Bool.not_true]
            have hpt : hasP p y.1 = true := by rw [hasP, hpr, decide_eq_true (by omega)]; rfl
            rw [hpt, if_pos rfl] at hkt
            have hft : insCs (keepE p (l.take (k + 1))) = insC y (insCs (keepE p (l.take k))) := by rw [hkt]; exact insCs_snoc _ _
            clear hkt
            generalize insCs (keepE p (l.take k)) = d at *
            refine aw_reg fun K hK => ?_; simp (maxSteps := 1000000) (disch := omega) [-List.getD_eq_getElem?_getD, hat1, entAV_len, v1, w1, hpr, v2]; refine hK _ ?_; clear hK K
            refine aw_if rfl (fun h => absurd h (by simp)) (fun h => ?_)
            refine aw_skip ?_; simp (maxSteps := 1000000) (disch := omega) [-List.getD_eq_getElem?_getD]
            refine hK4 _ ?_; clear hK4
            refine aw_reg fun K hK => ?_; simp (maxSteps := 1000000) (disch := omega) [-List.getD_eq_getElem?_getD]; refine hK _ ?_; clear hK K
            refine aw_then fun K5 hK5 => ?_
            refine aw_block ?_
            refine aw_loop (X := Nat) (fun n => ⟨[(0, .sl l.length (entAV l) .none), (1, .str p), (2, .int .i64 most), (7, .sl d.length (entAV d) .none), (8, .int .i64 (k : Nat)), (9, .int .i64 (n : Nat))], H, T⟩)
              (fun n => n ≤ d.length ∧ ∀ j, j < n → y.2 ≤ (d.getD j ([], 0)).2) (fun n => d.length - n) 0 ?_ ?_ ?_
            · exact ⟨Nat.zero_le _, fun j hj => absurd hj (Nat.not_lt_zero _)⟩
            · refine weak_to [] [] ?_ ?_ ?_ ?_ HO ?_
              all_goals simp
            · rintro n ⟨hn1, hn2⟩
              have go : (n < d.length → ¬ y.2 ≤ (d.getD n ([], 0)).2) → ∀ e, envLe H.length T.length e [(0, .sl l.length (entAV l) .none), (1, .str p), (2, .int .i64 most), (7, .sl d.length (entAV d) .none), (8, .int .i64 (k : Nat)), (9, .int .i64 (n : Nat))] → K5 ⟨e, H, T⟩ := by
                intro hn3 e he
                have hins := insC_at y d n hn1 hn2 hn3
                refine hK5 _ (aw_weak ⟨[(0, .sl l.length (entAV l) .none), (1, .str p), (2, .int .i64 most), (7, .sl d.length (entAV d) .none), (8, .int .i64 (k : Nat)), (9, .int .i64 (n : Nat))], H, T⟩ (weak_to [] [] (by simp) (by simp) (by simp) (by simp) HO he) ?_)
                have ht := entAV_takeN d n
                have hdr := entAV_dropN d n
                have hlt : (entAV (d.take n)).length = n * 2 := by rw [entAV_len, List.length_take]; omega
                have hld : (entAV (d.drop n)).length = (d.length - n) * 2 := by rw [entAV_len, List.length_drop]
                have htk : (entAV (d.drop n)).take ((d.length - n) * 2) = entAV (d.drop n) := by rw [← hld, List.take_length]
                have hres : entAV (d.take n) ++ .str y.1 :: .int .i64 y.2 :: entAV (d.drop n) = entAV (insC y d) := by rw [hins]; simp [entAV]
                have hlen : n + 1 + (d.length - n) = (insC y d).length := by rw [hins]; simp; omega
                refine aw_draw0 [4, 10, 14] [0, 0, 0, 0, 0, 0, 0, 0, 0, 0, 1, 0, 0, 0, 2, 3] [[], [], []] drawMixed (by kernel_rfl) (by kernel_rfl) fun K hK => ?_; simp (maxSteps := 1000000) (disch := omega) [-List.getD_eq_getElem?_getD, amade_zero, entAV_len, hcut, ht, hdr, hlt, hld, htk]
                rw [hres, hlen]
                refine hK _ ?_; clear hK K
                refine hK3 _ ?_; clear hK3
                refine aw_reg0 fun K hK => ?_; simp (maxSteps := 1000000) (disch := omega) [-List.getD_eq_getElem?_getD]
                refine hK _ ?_; clear hK K
                refine ⟨k + 1, by show k + 1 ≤ _; omega, by show l.length - (k + 1) < l.length - k; omega, ?_⟩
                simp only [hft]
                refine weak_to [] [((insC y d).length * 2, 2)] ?_ ?_ ?_ ?_ HO ?_
                all_goals simp
              clear hK5
              refine aw_then fun K6 hK6 => ?_
              by_cases hn3 : n < d.length
              · have hda := (entAV_at d n hn3).2
                have b4 : decide ((n : Int) < d.length) = true := decide_eq_true (by omega)
                by_cases hc : y.2 ≤ (d.getD n ([], 0)).2
                · have b5 : decide (y.2 ≤ (d.getD n ([], 0)).2) = true := decide_eq_true hc
                  refine aw_draw [] [] [] drawMixed (by kernel_rfl) (by kernel_rfl) fun K hK => ?_; simp (maxSteps := 1000000) (disch := omega) [-List.getD_eq_getElem?_getD, b4, hn3, hda, hat2, entAV_len, b5, hc]
                  refine hK _ ?_; clear hK K
                  refine aw_if rfl (fun h => ?_) (fun h => absurd h (by simp))
                  refine aw_skip ?_; simp (maxSteps := 1000000) (disch := omega) [-List.getD_eq_getElem?_getD]
                  refine hK6 _ ?_; clear hK6
                  refine aw_block ?_
                  refine aw_reg0 fun K hK => ?_; simp (maxSteps := 1000000) (disch := omega) [-List.getD_eq_getElem?_getD]
                  refine hK _ ?_; clear hK K
                  refine ⟨n + 1, ⟨by show n + 1 ≤ _; omega, fun j hj => ?_⟩, by show d.length - (n + 1) < d.length - n; omega, ?_⟩
                  · rcases Nat.lt_or_ge j n with h3 | h3
                    · exact hn2 j h3
                    · have : j = n := by omega
                      subst this; exact hc
                  · refine weak_to [] [] ?_ ?_ ?_ ?_ HO ?_
                    all_goals simp
                · have b5 : decide (y.2 ≤ (d.getD n ([], 0)).2) = false := decide_eq_false hc
                  refine aw_draw [] [] [] drawMixed (by kernel_rfl) (by kernel_rfl) fun K hK => ?_; simp (maxSteps := 1000000) (disch := omega) [-List.getD_eq_getElem?_getD, b4, hn3, hda, hat2, entAV_len, b5, hc]
                  refine hK _ ?_; clear hK K
                  refine aw_if rfl (fun h => absurd h (by simp)) (fun h => ?_)
                  refine aw_exit ?_; simp (maxSteps := 1000000) (disch := omega) [-List.getD_eq_getElem?_getD]
                  refine go (fun _ => hc) _ ?_
                  simp
              · have b4 : decide ((n : Int) < d.length) = false := decide_eq_false (by omega)
                refine aw_draw [] [] [] drawMixed (by kernel_rfl) (by kernel_rfl) fun K hK => ?_; simp (maxSteps := 1000000) (disch := omega) [-List.getD_eq_getElem?_getD, b4, hn3]
                refine hK _ ?_; clear hK K
                refine aw_if rfl (fun h => absurd h (by simp)) (fun h => ?_)
                refine aw_exit ?_; simp (maxSteps := 1000000) (disch := omega) [-List.getD_eq_getElem?_getD]
                refine go (fun h => absurd h hn3) _ ?_
                simp
      · simp [-List.getD_eq_getElem?_getD] at hk
        have e : k = l.length := by omega
        subst e
        rw [List.take_length]
        have hsc := insCs_sort (keep_asc hv p)
        have hle : (insCs (keepE p l)).length ≤ 1000 := by rw [insCs_len]; exact Nat.le_trans (keep_len _ _) hl
        have hqe : q = (insCs (keepE p l)).take (min (insCs (keepE p l)).length (max most 0).toNat) := by
          rw [← hq, compE, hsc]
          by_cases hm1 : 1 ≤ most
          · rw [if_pos ⟨hv, hm1⟩, show (max most 0).toNat = most.toNat by omega, Nat.min_comm, List.take_eq_take_iff]
            omega
          · rw [if_neg (fun h => hm1 h.2), show (max most 0).toNat = 0 by omega]
            simp
        generalize insCs (keepE p l) = d at *
        have htn := entAV_takeN d (min d.length (max most 0).toNat)
        rw [← hqe] at htn
        have hql : q.length = min d.length (max most 0).toNat := by rw [hqe, List.length_take]; omega
        refine aw_exit ?_; simp (maxSteps := 1000000) (disch := omega) [-List.getD_eq_getElem?_getD]
        refine hK1 _ ?_; clear hK1
        refine aw_reg fun K hK => ?_; simp (maxSteps := 1000000) (disch := omega) [-List.getD_eq_getElem?_getD, entAV_len]; refine hK _ ?_; clear hK K
        rw [show (min (d.length : Int) (max most 0)).toNat = min d.length (max most 0).toNat by omega, htn, ← hql]
        refine aw_ret ?_; simp (maxSteps := 1000000) (disch := omega) [-List.getD_eq_getElem?_getD]
end Go.Proofs.Ytbijefgmleagnaa
