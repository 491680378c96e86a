/- What SuggestWithin asks, answered.
   Conditions: none. -/
import Derived.Test.YtbijefgmleagnaaSPl2
import Derived.Test.YtbijefgmleagnaaSWk1
import Derived.Test.YtbijefgmleagnaaAmDr2
namespace Go.Proofs.Ytbijefgmleagnaa
open Go Go.Am Sug Edit
set_option linter.unusedVariables false

theorem ahead_cases {a b : Fnd} (h : aheadF a b = true) : a.2.1 < b.2.1 ∨ (a.2.1 = b.2.1 ∧ b.2.2 < a.2.2) ∨ (a.2.1 = b.2.1 ∧ a.2.2 = b.2.2 ∧ slt a.1 b.1 = true) := by
  unfold aheadF at h
  split at h
  · exact .inl (of_decide_eq_true h)
  · rename_i h1
    have h1 : a.2.1 = b.2.1 := by simpa using h1
    split at h
    · exact .inr (.inl ⟨h1, of_decide_eq_true h⟩)
    · rename_i h2
      have h2 : a.2.2 = b.2.2 := by simpa using h2
      exact .inr (.inr ⟨h1, h2, h⟩)

theorem countP_take {p : Fnd → Bool} {l : List Fnd} {n : Nat} (h : n < l.length) : (l.take (n + 1)).countP p = (l.take n).countP p + if p (l.getD n ([], 0, 0)) = true then 1 else 0 := by
  rw [List.take_succ_eq_append_getElem h, List.countP_append, List.countP_singleton, List.getD_eq_getElem?_getD, List.getElem?_eq_getElem h]
  rfl

set_option maxRecDepth 100000 in
set_option maxHeartbeats 8000000 in
theorem swithin_ok (l : List Ent) (s : Str) (kk : Int) (hz : Sz l) (hs : s.length ≤ maxLen) (hkk : -9223372036854775808 ≤ kk ∧ kk ≤ 9223372036854775807) :
    ACall Try.prog 4 [.sl l.length (entAV l) .none, .str s, .int .i64 kk] [] [] (fun r _ _ => r = .bool true) := by
  have hml : maxLen ≤ 9223372036854775807 := by decide
  have hs' := Nat.le_trans hs hml
  have ca := awake_ok [] []
  have cf := few_ok l hz.1 hz.2 [] [] .none
  refine acall_enter 17 [] Try.ntmps4 Try.func4 rfl (fun _ _ => Try.call4 _ _) (by simp) (fun HO => ?_)
  refine aw_reg fun K hK => ?_; simp (maxSteps := 1000000) (disch := omega) [-List.getD_eq_getElem?_getD]; refine hK _ ?_; clear hK K
  refine aw_then fun K1 hK1 => ?_
  refine aw_reg fun K hK => ?_; simp (maxSteps := 1000000) (disch := omega) [-List.getD_eq_getElem?_getD]
  refine acall_is (ca) ?_; simp (maxSteps := 1000000) (disch := omega) [-List.getD_eq_getElem?_getD]
  refine hK _ ?_; clear hK K
  refine aw_if rfl (fun h => absurd h (by simp)) (fun h => ?_)
  refine aw_skip ?_; simp (maxSteps := 1000000) (disch := omega) [-List.getD_eq_getElem?_getD]
  refine hK1 _ ?_; clear hK1
  refine aw_then fun K1 hK1 => ?_
  cases hf : fewE l with
  | false =>
    rw [hf] at cf
    refine aw_reg fun K hK => ?_; simp (maxSteps := 1000000) (disch := omega) [-List.getD_eq_getElem?_getD]
    refine acall_is (cf) ?_; simp (maxSteps := 1000000) (disch := omega) [-List.getD_eq_getElem?_getD]
    refine hK _ ?_; clear hK K
    refine aw_if rfl (fun h => ?_) (fun h => absurd h (by simp))
    refine aw_reg fun K hK => ?_; simp (maxSteps := 1000000) (disch := omega) [-List.getD_eq_getElem?_getD]; refine hK _ ?_; clear hK K
    refine aw_ret ?_; simp (maxSteps := 1000000) (disch := omega) [-List.getD_eq_getElem?_getD]
  | true =>
    rw [hf] at cf
    obtain ⟨hl, hp⟩ := fewE_facts hf
    have cv := validR_ok l hl hp [] [] .none
    cases hv : validE l with
    | false =>
      rw [hv] at cv
      refine aw_reg fun K hK => ?_; simp (maxSteps := 1000000) (disch := omega) [-List.getD_eq_getElem?_getD]
      refine acall_is (cf) ?_; simp (maxSteps := 1000000) (disch := omega) [-List.getD_eq_getElem?_getD]
      refine acall_is (cv) ?_; simp (maxSteps := 1000000) (disch := omega) [-List.getD_eq_getElem?_getD]
      refine hK _ ?_; clear hK K
      refine aw_if rfl (fun h => ?_) (fun h => absurd h (by simp))
      refine aw_reg fun K hK => ?_; simp (maxSteps := 1000000) (disch := omega) [-List.getD_eq_getElem?_getD]; refine hK _ ?_; clear hK K
      refine aw_ret ?_; simp (maxSteps := 1000000) (disch := omega) [-List.getD_eq_getElem?_getD]
    | true =>
      rw [hv] at cv
      by_cases h0 : 120 < s.length
      · have b0 : decide ((120 : Int) < s.length) = true := decide_eq_true (by omega)
        refine aw_reg fun K hK => ?_; simp (maxSteps := 1000000) (disch := omega) [-List.getD_eq_getElem?_getD]
        refine acall_is (cf) ?_; simp (maxSteps := 1000000) (disch := omega) [-List.getD_eq_getElem?_getD]
        refine acall_is (cv) ?_; simp (maxSteps := 1000000) (disch := omega) [-List.getD_eq_getElem?_getD, b0, h0]
        refine hK _ ?_; clear hK K
        refine aw_if rfl (fun h => ?_) (fun h => absurd h (by simp))
        refine aw_reg fun K hK => ?_; simp (maxSteps := 1000000) (disch := omega) [-List.getD_eq_getElem?_getD]; refine hK _ ?_; clear hK K
        refine aw_ret ?_; simp (maxSteps := 1000000) (disch := omega) [-List.getD_eq_getElem?_getD]
      · have b0 : decide ((120 : Int) < s.length) = false := decide_eq_false (by omega)
        have hw : s.length ≤ 1000 := by omega
        by_cases h1 : kk < 0
        · have b1 : decide (kk < 0) = true := decide_eq_true h1
          refine aw_reg fun K hK => ?_; simp (maxSteps := 1000000) (disch := omega) [-List.getD_eq_getElem?_getD]
          refine acall_is (cf) ?_; simp (maxSteps := 1000000) (disch := omega) [-List.getD_eq_getElem?_getD]
          refine acall_is (cv) ?_; simp (maxSteps := 1000000) (disch := omega) [-List.getD_eq_getElem?_getD, b0, h0, b1, h1]
          refine hK _ ?_; clear hK K
          refine aw_if rfl (fun h => ?_) (fun h => absurd h (by simp))
          refine aw_reg fun K hK => ?_; simp (maxSteps := 1000000) (disch := omega) [-List.getD_eq_getElem?_getD]; refine hK _ ?_; clear hK K
          refine aw_ret ?_; simp (maxSteps := 1000000) (disch := omega) [-List.getD_eq_getElem?_getD]
        · have b1 : decide (kk < 0) = false := decide_eq_false h1
          by_cases h2 : 3 < kk
          · have b2 : decide (3 < kk) = true := decide_eq_true h2
            refine aw_reg fun K hK => ?_; simp (maxSteps := 1000000) (disch := omega) [-List.getD_eq_getElem?_getD]
            refine acall_is (cf) ?_; simp (maxSteps := 1000000) (disch := omega) [-List.getD_eq_getElem?_getD]
            refine acall_is (cv) ?_; simp (maxSteps := 1000000) (disch := omega) [-List.getD_eq_getElem?_getD, b0, h0, b1, h1, b2, h2]
            refine hK _ ?_; clear hK K
            refine aw_if rfl (fun h => ?_) (fun h => absurd h (by simp))
            refine aw_reg fun K hK => ?_; simp (maxSteps := 1000000) (disch := omega) [-List.getD_eq_getElem?_getD]; refine hK _ ?_; clear hK K
            refine aw_ret ?_; simp (maxSteps := 1000000) (disch := omega) [-List.getD_eq_getElem?_getD]
          · have b2 : decide (3 < kk) = false := decide_eq_false h2
            have c1 := own_ok l hl [] [] .none
            have c2 := within43_ok l s kk hkk hl hp hw [] [] .none
            have c3 := within43_ok l s (kk - 1) (by omega) hl hp hw [] [] .none
            have hO : withinE l s kk = sortF (foundE l s kk) := by rw [withinE, if_pos ⟨hv, by omega, by omega⟩]
            obtain ⟨rest, hsp, hrest⟩ := within_split (w := s) hv (by omega : 0 ≤ kk) (by omega)
            have hnd := found_nodup hv s kk
            have hOl : (withinE l s kk).length ≤ 1000 := by rw [hO, sortF_len]; exact Nat.le_trans (found_len _ _ _) hl
            have hhit : ∀ e ∈ l, (withinE l s kk).countP (hit (e.1, distE e.1 s, e.2) kk) = if distE e.1 s ≤ kk then 1 else 0 := fun e he => by rw [hO]; exact count_hit hv s kk he
            have hah : ∀ i j, i < j → j < (withinE l s kk).length → aheadF ((withinE l s kk).getD i ([], 0, 0)) ((withinE l s kk).getD j ([], 0, 0)) = true := fun i j hij hj => by
              rw [hO] at hj ⊢
              exact sort_ahead hnd hij hj
            clear hO hnd
            refine aw_reg fun K hK => ?_; simp (maxSteps := 1000000) (disch := omega) [-List.getD_eq_getElem?_getD]
            refine acall_is (cf) ?_; simp (maxSteps := 1000000) (disch := omega) [-List.getD_eq_getElem?_getD]
            refine acall_is (cv) ?_; simp (maxSteps := 1000000) (disch := omega) [-List.getD_eq_getElem?_getD, b0, h0, b1, h1, b2, h2]
            refine hK _ ?_; clear hK K
            refine aw_if rfl (fun h => absurd h (by simp)) (fun h => ?_)
            refine aw_skip ?_; simp (maxSteps := 1000000) (disch := omega) [-List.getD_eq_getElem?_getD]
            refine hK1 _ ?_; clear hK1
            refine aw_reg fun K hK => ?_; simp (maxSteps := 1000000) (disch := omega) [-List.getD_eq_getElem?_getD]
            refine acall_is (c1) ?_; simp (maxSteps := 1000000) (disch := omega) [-List.getD_eq_getElem?_getD]
            refine acall_is (c2) ?_; simp (maxSteps := 1000000) (disch := omega) [-List.getD_eq_getElem?_getD]
            refine hK _ ?_; clear hK K
            generalize withinE l s kk = O at *
            generalize withinE l s (kk - 1) = M at *
            refine aw_reg fun K hK => ?_; simp (maxSteps := 1000000) (disch := omega) [-List.getD_eq_getElem?_getD]; refine hK _ ?_; clear hK K
            refine aw_then fun K1 hK1 => ?_
            refine aw_reg fun K hK => ?_; simp (maxSteps := 1000000) (disch := omega) [-List.getD_eq_getElem?_getD]; refine hK _ ?_; clear hK K
            refine aw_block ?_
            refine aw_loop (X := Nat) (fun i => ⟨[(0, .sl l.length (entAV l) .none), (1, .str s), (2, .int .i64 kk), (7, .sl O.length (fndAV O) .none), (8, .int .i64 0), (9, .int .i64 (i : Nat))], [], []⟩)
              (fun i => i ≤ l.length) (fun i => l.length - i) 0 ?_ ?_ ?_
            · exact Nat.zero_le _
            · refine weak_to [] [] ?_ ?_ ?_ ?_ HO ?_
              all_goals simp
            · rintro i hi
              refine aw_then fun K2 hK2 => ?_
              refine aw_reg fun K hK => ?_; simp (maxSteps := 1000000) (disch := omega) [-List.getD_eq_getElem?_getD]; refine hK _ ?_; clear hK K
              refine aw_if rfl (fun hk => ?_) (fun hk => ?_)
              · simp [-List.getD_eq_getElem?_getD] at hk
                have hat1 := (entAV_at l i hk).1
                have hat2 := (entAV_at l i hk).2
                have hpm := memD l i ([], 0) hk
                have hct := hhit _ hpm
                rw [distE_symm] at hct
                generalize l.getD i ([], 0) = p at *
                have cd := distR_ok2 s p.1 hw (hp _ hpm) [] []
                generalize distE s p.1 = d at *
                refine aw_skip ?_; simp (maxSteps := 1000000) (disch := omega) [-List.getD_eq_getElem?_getD]
                refine hK2 _ ?_; clear hK2
                refine aw_then fun K3 hK3 => ?_
                refine aw_block ?_
                refine aw_reg fun K hK => ?_; simp (maxSteps := 1000000) (disch := omega) [-List.getD_eq_getElem?_getD, hat1, entAV_len]
                refine acall_is (cd) ?_; simp (maxSteps := 1000000) (disch := omega) [-List.getD_eq_getElem?_getD]
                refine hK _ ?_; clear hK K
                refine aw_then fun K4 hK4 => ?_
                refine aw_reg fun K hK => ?_; simp (maxSteps := 1000000) (disch := omega) [-List.getD_eq_getElem?_getD]; refine hK _ ?_; clear hK K
                refine aw_block ?_
                refine aw_loop (X := Nat) (fun n => ⟨[(0, .sl l.length (entAV l) .none), (1, .str s), (2, .int .i64 kk), (7, .sl O.length (fndAV O) .none), (8, .int .i64 ((O.take n).countP (hit (p.1, d, p.2) kk) : Nat)), (9, .int .i64 (i : Nat)), (10, .int .i64 d), (11, .int .i64 (n : Nat))], [], []⟩)
                  (fun n => n ≤ O.length) (fun n => O.length - n) 0 ?_ ?_ ?_
                · exact Nat.zero_le _
                · refine weak_to [] [] ?_ ?_ ?_ ?_ HO ?_
                  all_goals simp
                · rintro n hn
                  refine aw_then fun K5 hK5 => ?_
                  refine aw_reg fun K hK => ?_; simp (maxSteps := 1000000) (disch := omega) [-List.getD_eq_getElem?_getD]; refine hK _ ?_; clear hK K
                  refine aw_if rfl (fun hn2 => ?_) (fun hn2 => ?_)
                  · simp [-List.getD_eq_getElem?_getD] at hn2
                    have f1 := (fndAV_at O n hn2).1
                    have f2 := (fndAV_at O n hn2).2.1
                    have f3 := (fndAV_at O n hn2).2.2
                    have hcs := countP_take (p := hit (p.1, d, p.2) kk) hn2
                    have hcle : (O.take n).countP (hit (p.1, d, p.2) kk) ≤ n := Nat.le_trans List.countP_le_length (by rw [List.length_take]; omega)
                    generalize O.getD n ([], 0, 0) = y at *
                    refine aw_skip ?_; simp (maxSteps := 1000000) (disch := omega) [-List.getD_eq_getElem?_getD]
                    refine hK5 _ ?_; clear hK5
                    refine aw_then fun K6 hK6 => ?_
                    refine aw_block ?_
                    refine aw_draw [] [] [] drawMixed (by kernel_rfl) (by kernel_rfl) fun K hK => ?_
                    have key : ∀ e b, b = hit (p.1, d, p.2) kk y → envLe 0 0 e [(0, .sl l.length (entAV l) .none), (1, .str s), (2, .int .i64 kk), (7, .sl O.length (fndAV O) .none), (8, .int .i64 ((O.take n).countP (hit (p.1, d, p.2) kk) : Nat)), (9, .int .i64 (i : Nat)), (10, .int .i64 d), (11, .int .i64 (n : Nat)), (101, .bool b)] → K ⟨e, [], []⟩ := by
                      intro e b hb he
                      refine hK _ (aw_weak ⟨[(0, .sl l.length (entAV l) .none), (1, .str s), (2, .int .i64 kk), (7, .sl O.length (fndAV O) .none), (8, .int .i64 ((O.take n).countP (hit (p.1, d, p.2) kk) : Nat)), (9, .int .i64 (i : Nat)), (10, .int .i64 d), (11, .int .i64 (n : Nat)), (101, .bool b)], [], []⟩ (weak_to [] [] (by simp) (by simp) (by simp) (by simp) HO he) ?_)
                      rw [← hb] at hcs
                      cases b with
                      | true =>
                        refine aw_if rfl (fun h => ?_) (fun h => absurd h (by simp))
                        refine aw_reg0 fun K hK => ?_; simp (maxSteps := 1000000) (disch := omega) [-List.getD_eq_getElem?_getD]
                        refine hK _ ?_; clear hK K
                        refine hK6 _ ?_; clear hK6
                        refine aw_reg0 fun K hK => ?_; simp (maxSteps := 1000000) (disch := omega) [-List.getD_eq_getElem?_getD]
                        refine hK _ ?_; clear hK K
                        refine ⟨n + 1, by show n + 1 ≤ _; omega, by show O.length - (n + 1) < O.length - n; omega, ?_⟩
                        rw [hcs]
                        refine weak_to [] [] ?_ ?_ ?_ ?_ HO ?_
                        all_goals simp
                      | false =>
                        refine aw_if rfl (fun h => absurd h (by simp)) (fun h => ?_)
                        refine aw_skip ?_; simp (maxSteps := 1000000) (disch := omega) [-List.getD_eq_getElem?_getD]
                        refine hK6 _ ?_; clear hK6
                        refine aw_reg0 fun K hK => ?_; simp (maxSteps := 1000000) (disch := omega) [-List.getD_eq_getElem?_getD]
                        refine hK _ ?_; clear hK K
                        refine ⟨n + 1, by show n + 1 ≤ _; omega, by show O.length - (n + 1) < O.length - n; omega, ?_⟩
                        rw [hcs]
                        refine weak_to [] [] ?_ ?_ ?_ ?_ HO ?_
                        all_goals simp
                    clear hK
                    by_cases q1 : y.1 = p.1
                    · have r1 : (y.1 == p.1) = true := by simpa using q1
                      by_cases q2 : y.2.1 = d
                      · have r2 : (y.2.1 == d) = true := by simpa using q2
                        by_cases q3 : y.2.2 = p.2
                        · have r3 : (y.2.2 == p.2) = true := by simpa using q3
                          by_cases q4 : d ≤ kk
                          · have r4 : decide (d ≤ kk) = true := decide_eq_true q4
                            simp (maxSteps := 1000000) (disch := omega) [-List.getD_eq_getElem?_getD, hat1, hat2, entAV_len, fndAV_len, f1, f2, f3, r1, r2, r3, r4, q4]
                            refine key _ true ?_ (by simp)
                            simp only [hit, r1, r2, r3, r4, Bool.and_true]
                          · have r4 : decide (d ≤ kk) = false := decide_eq_false q4
                            simp (maxSteps := 1000000) (disch := omega) [-List.getD_eq_getElem?_getD, hat1, hat2, entAV_len, fndAV_len, f1, f2, f3, r1, r2, r3, r4, q4]
                            refine key _ false ?_ (by simp)
                            simp only [hit, r4, Bool.and_false]
                        · have r3 : (y.2.2 == p.2) = false := by simpa using q3
                          simp (maxSteps := 1000000) (disch := omega) [-List.getD_eq_getElem?_getD, hat1, hat2, entAV_len, fndAV_len, f1, f2, f3, r1, r2, r3, q3]
                          refine key _ false ?_ (by simp)
                          simp only [hit, r3, Bool.and_false, Bool.false_and]
                      · have r2 : (y.2.1 == d) = false := by simpa using q2
                        simp (maxSteps := 1000000) (disch := omega) [-List.getD_eq_getElem?_getD, hat1, hat2, entAV_len, fndAV_len, f1, f2, f3, r1, r2, q2]
                        refine key _ false ?_ (by simp)
                        simp only [hit, r2, Bool.and_false, Bool.false_and]
                    · have r1 : (y.1 == p.1) = false := by simpa using q1
                      simp (maxSteps := 1000000) (disch := omega) [-List.getD_eq_getElem?_getD, hat1, hat2, entAV_len, fndAV_len, f1, f2, f3, r1, q1]
                      refine key _ false ?_ (by simp)
                      simp only [hit, r1, Bool.false_and]
                  · simp [-List.getD_eq_getElem?_getD] at hn2
                    have e : n = O.length := by omega
                    subst e
                    rw [List.take_length, hct]
                    refine aw_exit ?_; simp (maxSteps := 1000000) (disch := omega) [-List.getD_eq_getElem?_getD]
                    refine hK4 _ ?_; clear hK4
                    by_cases q4 : d ≤ kk
                    · have r4 : decide (d ≤ kk) = true := decide_eq_true q4
                      rw [if_pos q4]
                      refine aw_reg fun K hK => ?_; simp (maxSteps := 1000000) (disch := omega) [-List.getD_eq_getElem?_getD, r4, q4]; refine hK _ ?_; clear hK K
                      refine aw_if rfl (fun h => ?_) (fun h => absurd h (by simp))
                      refine aw_reg0 fun K hK => ?_; simp (maxSteps := 1000000) (disch := omega) [-List.getD_eq_getElem?_getD]
                      refine hK _ ?_; clear hK K
                      refine hK3 _ ?_; clear hK3
                      refine aw_reg0 fun K hK => ?_; simp (maxSteps := 1000000) (disch := omega) [-List.getD_eq_getElem?_getD]
                      refine hK _ ?_; clear hK K
                      refine ⟨i + 1, by show i + 1 ≤ _; omega, by show l.length - (i + 1) < l.length - i; omega, ?_⟩
                      refine weak_to [] [] ?_ ?_ ?_ ?_ HO ?_
                      all_goals simp
                    · have r4 : decide (d ≤ kk) = false := decide_eq_false q4
                      rw [if_neg q4]
                      refine aw_reg fun K hK => ?_; simp (maxSteps := 1000000) (disch := omega) [-List.getD_eq_getElem?_getD, r4, q4]; refine hK _ ?_; clear hK K
                      refine aw_if rfl (fun h => absurd h (by simp)) (fun h => ?_)
                      refine aw_skip ?_; simp (maxSteps := 1000000) (disch := omega) [-List.getD_eq_getElem?_getD]
                      refine hK3 _ ?_; clear hK3
                      refine aw_reg0 fun K hK => ?_; simp (maxSteps := 1000000) (disch := omega) [-List.getD_eq_getElem?_getD]
                      refine hK _ ?_; clear hK K
                      refine ⟨i + 1, by show i + 1 ≤ _; omega, by show l.length - (i + 1) < l.length - i; omega, ?_⟩
                      refine weak_to [] [] ?_ ?_ ?_ ?_ HO ?_
                      all_goals simp
              · simp [-List.getD_eq_getElem?_getD] at hk
                refine aw_exit ?_; simp (maxSteps := 1000000) (disch := omega) [-List.getD_eq_getElem?_getD]
                refine hK1 _ ?_; clear hK1
                refine aw_then fun K1 hK1 => ?_
                refine aw_reg fun K hK => ?_; simp (maxSteps := 1000000) (disch := omega) [-List.getD_eq_getElem?_getD]; refine hK _ ?_; clear hK K
                refine aw_block ?_
                refine aw_loop (X := Nat) (fun n => ⟨[(0, .sl l.length (entAV l) .none), (1, .str s), (2, .int .i64 kk), (7, .sl O.length (fndAV O) .none), (8, .int .i64 0), (12, .int .i64 ((n : Int) + 1))], [], []⟩)
                  (fun n => n ≤ O.length) (fun n => O.length - n) 0 ?_ ?_ ?_
                · exact Nat.zero_le _
                · refine weak_to [] [] ?_ ?_ ?_ ?_ HO ?_
                  all_goals simp
                · rintro n hn
                  refine aw_then fun K2 hK2 => ?_
                  by_cases hn2 : n + 1 < O.length
                  · have bl : decide (((n : Int) + 1) < O.length) = true := decide_eq_true (by omega)
                    have bl' : ((n : Int) + 1) < O.length := by omega
                    refine aw_reg fun K hK => ?_; simp (maxSteps := 1000000) (disch := omega) [-List.getD_eq_getElem?_getD, bl, bl']; refine hK _ ?_; clear hK K
                    refine aw_if rfl (fun h => ?_) (fun h => absurd h (by simp))
                    have hA := fndAV_cut O n (by omega)
                    have hB := fndAV_cut O (n + 1) hn2
                    have hab := ahead_cases (hah n (n + 1) (by omega) hn2)
                    generalize O.getD n ([], 0, 0) = y at *
                    generalize O.getD (n + 1) ([], 0, 0) = z at *
                    refine aw_skip ?_; simp (maxSteps := 1000000) (disch := omega) [-List.getD_eq_getElem?_getD]
                    refine hK2 _ ?_; clear hK2
                    refine aw_then fun K3 hK3 => ?_
                    refine aw_block ?_
                    refine aw_draw2 9 10 [9, 10, 11, 12] [0, 0, 0, 0, 0, 0, 0, 0, 0, 0, 1, 2, 3] [[0, 1, 2, 3, 4, 5, 6, 7, 8], [0, 1, 2, 3, 4, 5, 6, 7, 8], [5, 6, 7, 8], []] [9, 10, 11, 12] [0, 0, 0, 0, 0, 0, 0, 0, 0, 0, 1, 2, 3] [[0, 1, 2, 3, 4, 5, 6, 7, 8], [0, 1, 2, 3, 4, 5, 6, 7, 8], [5, 6, 7, 8], []] drawMixed (by kernel_rfl) (by kernel_rfl) (by kernel_rfl) (by kernel_rfl) (by kernel_rfl) fun K hK => ?_
                    have fin : ∀ e H2 pa pb, H2[pa]? = some (.cells [.str y.1, .int .i64 y.2.1, .int .i64 y.2.2]) → H2[pb]? = some (.cells [.str z.1, .int .i64 z.2.1, .int .i64 z.2.2]) → HOk H2 [] → envLe H2.length 0 e [(0, .sl l.length (entAV l) .none), (1, .str s), (2, .int .i64 kk), (7, .sl O.length (fndAV O) .none), (8, .int .i64 0), (12, .int .i64 ((n : Int) + 1)), (13, .ptr pa 0), (14, .ptr pb 0)] → K ⟨e, H2, []⟩ := by
                      intro e H2 pa pb ga gb hok he
                      refine hK _ (aw_weak ⟨[(0, .sl l.length (entAV l) .none), (1, .str s), (2, .int .i64 kk), (7, .sl O.length (fndAV O) .none), (8, .int .i64 0), (12, .int .i64 ((n : Int) + 1)), (13, .ptr pa 0), (14, .ptr pb 0)], H2, []⟩ (weak_to [] [] (by simp) (by simp) (by simp) (by simp) hok he) ?_)
                      have go : ∀ e, envLe H2.length 0 e [(0, .sl l.length (entAV l) .none), (1, .str s), (2, .int .i64 kk), (7, .sl O.length (fndAV O) .none), (8, .int .i64 0), (12, .int .i64 ((n : Int) + 1))] → K3 ⟨e, H2, []⟩ := by
                        intro e he
                        refine hK3 _ (aw_weak ⟨[(0, .sl l.length (entAV l) .none), (1, .str s), (2, .int .i64 kk), (7, .sl O.length (fndAV O) .none), (8, .int .i64 0), (12, .int .i64 ((n : Int) + 1))], H2, []⟩ (weak_to [] [] (by simp) (by simp) (by simp) (by simp) hok he) ?_)
                        refine aw_reg0 fun K hK => ?_; simp (maxSteps := 1000000) (disch := omega) [-List.getD_eq_getElem?_getD]
                        refine hK _ ?_; clear hK K
                        refine ⟨n + 1, by show n + 1 ≤ _; omega, by show O.length - (n + 1) < O.length - n; omega, ?_⟩
                        refine weak_to H2 [] ?_ ?_ ?_ ?_ HO ?_
                        all_goals simp
                      rcases hab with q1 | ⟨q1, q2⟩ | ⟨q1, q2, q3⟩
                      · have r1 : decide (z.2.1 < y.2.1) = false := decide_eq_false (by omega)
                        have r1' : ¬ z.2.1 < y.2.1 := by omega
                        have r2 : (y.2.1 == z.2.1) = false := by rw [beq_eq_false_iff_ne]; omega
                        have r2' : ¬ y.2.1 = z.2.1 := by omega
                        refine aw_reg fun K hK => ?_; simp (maxSteps := 1000000) (disch := omega) [-List.getD_eq_getElem?_getD, ga, gb, r1, r1', r2, r2']; refine hK _ ?_; clear hK K
                        refine aw_if rfl (fun h => absurd h (by simp)) (fun h => ?_)
                        refine aw_skip ?_; simp (maxSteps := 1000000) (disch := omega) [-List.getD_eq_getElem?_getD]
                        refine go _ ?_
                        simp
                      · have r1 : decide (z.2.1 < y.2.1) = false := decide_eq_false (by omega)
                        have r1' : ¬ z.2.1 < y.2.1 := by omega
                        have r2 : (y.2.1 == z.2.1) = true := by rw [q1]; simp
                        have r3 : decide (y.2.2 < z.2.2) = false := decide_eq_false (by omega)
                        have r3' : ¬ y.2.2 < z.2.2 := by omega
                        have r4 : (y.2.2 == z.2.2) = false := by rw [beq_eq_false_iff_ne]; omega
                        have r4' : ¬ y.2.2 = z.2.2 := by omega
                        refine aw_reg fun K hK => ?_; simp (maxSteps := 1000000) (disch := omega) [-List.getD_eq_getElem?_getD, ga, gb, r1, r1', r2, r3, r3', r4, r4']; refine hK _ ?_; clear hK K
                        refine aw_if rfl (fun h => absurd h (by simp)) (fun h => ?_)
                        refine aw_skip ?_; simp (maxSteps := 1000000) (disch := omega) [-List.getD_eq_getElem?_getD]
                        refine go _ ?_
                        simp
                      · have r1 : decide (z.2.1 < y.2.1) = false := decide_eq_false (by omega)
                        have r1' : ¬ z.2.1 < y.2.1 := by omega
                        have r2 : (y.2.1 == z.2.1) = true := by rw [q1]; simp
                        have r3 : decide (y.2.2 < z.2.2) = false := decide_eq_false (by omega)
                        have r3' : ¬ y.2.2 < z.2.2 := by omega
                        have r4 : (y.2.2 == z.2.2) = true := by rw [q2]; simp
                        have r5 : Op.bytesLess y.1 z.1 = true := q3
                        refine aw_reg fun K hK => ?_; simp (maxSteps := 1000000) (disch := omega) [-List.getD_eq_getElem?_getD, ga, gb, r1, r1', r2, r3, r3', r4, r5]; refine hK _ ?_; clear hK K
                        refine aw_if rfl (fun h => absurd h (by simp)) (fun h => ?_)
                        refine aw_skip ?_; simp (maxSteps := 1000000) (disch := omega) [-List.getD_eq_getElem?_getD]
                        refine go _ ?_
                        simp
                    clear hK hK3
                    have hk1 : HOk [.cells [.str y.1, .int .i64 y.2.1, .int .i64 y.2.2]] [] := HOk.snoc (H := []) HO (by simp)
                    have hk2 : HOk [.cells [.str z.1, .int .i64 z.2.1, .int .i64 z.2.2]] [] := HOk.snoc (H := []) HO (by simp)
                    refine ⟨?_, ?_⟩
                    · simp (maxSteps := 1000000) (disch := omega) [-List.getD_eq_getElem?_getD, addE, hA, hB, fndAV_len]
                      refine fin _ _ 0 1 rfl rfl (HOk.snoc (H := [.cells _]) hk1 (by simp)) ?_
                      simp
                    · simp (maxSteps := 1000000) (disch := omega) [-List.getD_eq_getElem?_getD, addE, swapE, relO, sw, hA, hB, fndAV_len]
                      refine fin _ _ 1 0 rfl rfl (HOk.snoc (H := [.cells _]) hk2 (by simp)) ?_
                      simp
                  · have bl : decide (((n : Int) + 1) < O.length) = false := decide_eq_false (by omega)
                    have bl' : ¬ ((n : Int) + 1) < O.length := by omega
                    refine aw_reg fun K hK => ?_; simp (maxSteps := 1000000) (disch := omega) [-List.getD_eq_getElem?_getD, bl, bl']; refine hK _ ?_; clear hK K
                    refine aw_if rfl (fun h => absurd h (by simp)) (fun h => ?_)
                    refine aw_exit ?_; simp (maxSteps := 1000000) (disch := omega) [-List.getD_eq_getElem?_getD]
                    refine hK1 _ ?_; clear hK1
                    refine aw_reg fun K hK => ?_; simp (maxSteps := 1000000) (disch := omega) [-List.getD_eq_getElem?_getD]
                    refine acall_is (c1) ?_; simp (maxSteps := 1000000) (disch := omega) [-List.getD_eq_getElem?_getD]
                    refine acall_is (c3) ?_; simp (maxSteps := 1000000) (disch := omega) [-List.getD_eq_getElem?_getD]
                    refine hK _ ?_; clear hK K
                    have hMl : M.length ≤ O.length := by rw [hsp]; simp
                    have hOM : ∀ j, j < M.length → O.getD j ([], 0, 0) = M.getD j ([], 0, 0) := fun j hj => by
                      rw [hsp, List.getD_eq_getElem?_getD, List.getD_eq_getElem?_getD, List.getElem?_append_left hj]
                    have hOk : M.length < O.length → (O.getD M.length ([], 0, 0)).2.1 = kk := fun hj => by
                      rw [hsp] at hj ⊢
                      rw [List.getD_eq_getElem?_getD, List.getElem?_append_right (Nat.le_refl _), Nat.sub_self]
                      cases rest with
                      | nil => simp at hj
                      | cons x r => exact hrest x (by simp)
                    clear hsp
                    refine aw_then fun K1 hK1 => ?_
                    refine aw_reg fun K hK => ?_; simp (maxSteps := 1000000) (disch := omega) [-List.getD_eq_getElem?_getD]; refine hK _ ?_; clear hK K
                    refine aw_block ?_
                    refine aw_loop (X := Nat) (fun n => ⟨[(2, .int .i64 kk), (7, .sl O.length (fndAV O) .none), (8, .int .i64 0), (15, .sl M.length (fndAV M) .none), (16, .int .i64 (n : Nat))], [], []⟩)
                      (fun n => n ≤ M.length) (fun n => M.length - n) 0 ?_ ?_ ?_
                    · exact Nat.zero_le _
                    · refine weak_to [] [] ?_ ?_ ?_ ?_ HO ?_
                      all_goals simp
                    · rintro m hm
                      refine aw_then fun K2 hK2 => ?_
                      refine aw_reg fun K hK => ?_; simp (maxSteps := 1000000) (disch := omega) [-List.getD_eq_getElem?_getD]; refine hK _ ?_; clear hK K
                      refine aw_if rfl (fun hk2 => ?_) (fun hk2 => ?_)
                      · simp [-List.getD_eq_getElem?_getD] at hk2
                        have hA := fndAV_cut O m (by omega)
                        have hB := fndAV_cut M m hk2
                        rw [hOM m hk2] at hA
                        have bm : decide ((O.length : Int) ≤ m) = false := decide_eq_false (by omega)
                        have bm' : ¬ (O.length : Int) ≤ m := by omega
                        refine aw_skip ?_; simp (maxSteps := 1000000) (disch := omega) [-List.getD_eq_getElem?_getD]
                        refine hK2 _ ?_; clear hK2
                        refine aw_then fun K3 hK3 => ?_
                        refine aw_block ?_
                        refine aw_draw [] [] [] drawMixed (by kernel_rfl) (by kernel_rfl) fun K hK => ?_; simp (maxSteps := 1000000) (disch := omega) [-List.getD_eq_getElem?_getD, hA, hB, fndAV_len, bm, bm']
                        refine hK _ ?_; clear hK K
                        refine aw_if rfl (fun h => absurd h (by simp)) (fun h => ?_)
                        refine aw_skip ?_; simp (maxSteps := 1000000) (disch := omega) [-List.getD_eq_getElem?_getD]
                        refine hK3 _ ?_; clear hK3
                        refine aw_reg0 fun K hK => ?_; simp (maxSteps := 1000000) (disch := omega) [-List.getD_eq_getElem?_getD]
                        refine hK _ ?_; clear hK K
                        refine ⟨m + 1, by show m + 1 ≤ _; omega, by show M.length - (m + 1) < M.length - m; omega, ?_⟩
                        refine weak_to [] [] ?_ ?_ ?_ ?_ HO ?_
                        all_goals simp
                      · simp [-List.getD_eq_getElem?_getD] at hk2
                        refine aw_exit ?_; simp (maxSteps := 1000000) (disch := omega) [-List.getD_eq_getElem?_getD]
                        refine hK1 _ ?_; clear hK1
                        by_cases hlen : O.length = M.length
                        · have bq : ((O.length : Int) == M.length) = true := by rw [hlen]; simp
                          refine aw_reg fun K hK => ?_; simp (maxSteps := 1000000) (disch := omega) [-List.getD_eq_getElem?_getD, bq, hlen]; refine hK _ ?_; clear hK K
                          refine aw_ret ?_; simp (maxSteps := 1000000) (disch := omega) [-List.getD_eq_getElem?_getD]
                        · have bq : ((O.length : Int) == M.length) = false := by rw [beq_eq_false_iff_ne]; omega
                          have hf := (fndAV_at O M.length (by omega)).2.1
                          rw [hOk (by omega)] at hf
                          have hlt : M.length < O.length := by omega
                          refine aw_reg fun K hK => ?_; simp (maxSteps := 1000000) (disch := omega) [-List.getD_eq_getElem?_getD, bq, hlen, hf, fndAV_len]; refine hK _ ?_; clear hK K
                          refine aw_ret ?_; simp (maxSteps := 1000000) (disch := omega) [-List.getD_eq_getElem?_getD]
end Go.Proofs.Ytbijefgmleagnaa
