/- What SuggestAgain asks, answered.
   Conditions: none. -/
import Derived.Test.YtbijefgmleagnaaSPl3
import Derived.Test.YtbijefgmleagnaaSWk2
namespace Go.Proofs.Ytbijefgmleagnaa
open Go Go.Am Sug Edit
set_option linter.unusedVariables false

theorem corr_len {l : List Ent} (hp : ∀ p ∈ l, p.1.length ≤ 1000) (k : Int) {w : Str} (hw : w.length ≤ 1000) : (corr l k w).length ≤ 1000 := by
  by_cases h : 0 < countE l w
  · rw [(corr_in h).1]; exact hw
  · cases hb : (bestE l w k).2 with
    | false => rw [(corr_none hb).1]; exact hw
    | true =>
      rw [(corr_best h hb).1]
      obtain ⟨e, he, e1, _⟩ := best_mem hb
      rw [← e1]
      exact hp _ he

set_option maxRecDepth 100000 in
set_option maxHeartbeats 8000000 in
theorem sagain_ok (l : List Ent) (ws : List Str) (kk : Int) (hz : Sz l) (hs : (∀ z ∈ ws, z.length ≤ maxLen) ∧ ws.length ≤ maxLen) (hkk : -9223372036854775808 ≤ kk ∧ kk ≤ 9223372036854775807) :
    ACall Try.prog 6 [.sl l.length (entAV l) .none, .sl ws.length (strs ws) .none, .int .i64 kk] [] [] (fun r _ _ => r = .bool true) := by
  have ca := awake_ok [] []
  have cf := few_ok l hz.1 hz.2 [] [] .none
  have cg := fewT_ok ws 10 60 hs.2 hs.1 [] [] .none
  refine acall_enter 17 [] Try.ntmps6 Try.func6 rfl (fun _ _ => Try.call6 _ _) (by simp) (fun HO => ?_)
  refine aw_reg fun K hK => ?_; simp (maxSteps := 1000000) (disch := omega) [-List.getD_eq_getElem?_getD]; refine hK _ ?_; clear hK K
  refine aw_then fun K1 hK1 => ?_
  refine aw_reg fun K hK => ?_; simp (maxSteps := 1000000) (disch := omega) [-List.getD_eq_getElem?_getD]
  refine acall_is (ca) ?_; simp (maxSteps := 1000000) (disch := omega) [-List.getD_eq_getElem?_getD]
  refine hK _ ?_; clear hK K
  refine aw_if rfl (fun h => absurd h (by simp)) (fun h => ?_)
  refine aw_skip ?_; simp (maxSteps := 1000000) (disch := omega) [-List.getD_eq_getElem?_getD]
  refine hK1 _ ?_; clear hK1
  refine aw_then fun K1 hK1 => ?_
  cases hf : fewE l with
  | false =>
    rw [hf] at cf
    refine aw_reg fun K hK => ?_; simp (maxSteps := 1000000) (disch := omega) [-List.getD_eq_getElem?_getD]
    refine acall_is (cf) ?_; simp (maxSteps := 1000000) (disch := omega) [-List.getD_eq_getElem?_getD]
    refine hK _ ?_; clear hK K
    refine aw_if rfl (fun h => ?_) (fun h => absurd h (by simp))
    refine aw_reg fun K hK => ?_; simp (maxSteps := 1000000) (disch := omega) [-List.getD_eq_getElem?_getD]; refine hK _ ?_; clear hK K
    refine aw_ret ?_; simp (maxSteps := 1000000) (disch := omega) [-List.getD_eq_getElem?_getD]
  | true =>
    rw [hf] at cf
    obtain ⟨hl, hp⟩ := fewE_facts hf
    have cv := validR_ok l hl hp [] [] .none
    cases hv : validE l with
    | false =>
      rw [hv] at cv
      refine aw_reg fun K hK => ?_; simp (maxSteps := 1000000) (disch := omega) [-List.getD_eq_getElem?_getD]
      refine acall_is (cf) ?_; simp (maxSteps := 1000000) (disch := omega) [-List.getD_eq_getElem?_getD]
      refine acall_is (cv) ?_; simp (maxSteps := 1000000) (disch := omega) [-List.getD_eq_getElem?_getD]
      refine hK _ ?_; clear hK K
      refine aw_if rfl (fun h => ?_) (fun h => absurd h (by simp))
      refine aw_reg fun K hK => ?_; simp (maxSteps := 1000000) (disch := omega) [-List.getD_eq_getElem?_getD]; refine hK _ ?_; clear hK K
      refine aw_ret ?_; simp (maxSteps := 1000000) (disch := omega) [-List.getD_eq_getElem?_getD]
    | true =>
      rw [hv] at cv
      cases hg : fewT ws 10 60 with
      | false =>
        rw [hg] at cg
        refine aw_reg fun K hK => ?_; simp (maxSteps := 1000000) (disch := omega) [-List.getD_eq_getElem?_getD]
        refine acall_is (cf) ?_; simp (maxSteps := 1000000) (disch := omega) [-List.getD_eq_getElem?_getD]
        refine acall_is (cv) ?_; simp (maxSteps := 1000000) (disch := omega) [-List.getD_eq_getElem?_getD]
        refine acall_is (cg) ?_; simp (maxSteps := 1000000) (disch := omega) [-List.getD_eq_getElem?_getD]
        refine hK _ ?_; clear hK K
        refine aw_if rfl (fun h => ?_) (fun h => absurd h (by simp))
        refine aw_reg fun K hK => ?_; simp (maxSteps := 1000000) (disch := omega) [-List.getD_eq_getElem?_getD]; refine hK _ ?_; clear hK K
        refine aw_ret ?_; simp (maxSteps := 1000000) (disch := omega) [-List.getD_eq_getElem?_getD]
      | true =>
        rw [hg] at cg
        obtain ⟨hn, hw⟩ := fewT_facts hg
        by_cases h1 : kk < 0
        · have b1 : decide (kk < 0) = true := decide_eq_true h1
          refine aw_reg fun K hK => ?_; simp (maxSteps := 1000000) (disch := omega) [-List.getD_eq_getElem?_getD]
          refine acall_is (cf) ?_; simp (maxSteps := 1000000) (disch := omega) [-List.getD_eq_getElem?_getD]
          refine acall_is (cv) ?_; simp (maxSteps := 1000000) (disch := omega) [-List.getD_eq_getElem?_getD]
          refine acall_is (cg) ?_; simp (maxSteps := 1000000) (disch := omega) [-List.getD_eq_getElem?_getD, b1, h1]
          refine hK _ ?_; clear hK K
          refine aw_if rfl (fun h => ?_) (fun h => absurd h (by simp))
          refine aw_reg fun K hK => ?_; simp (maxSteps := 1000000) (disch := omega) [-List.getD_eq_getElem?_getD]; refine hK _ ?_; clear hK K
          refine aw_ret ?_; simp (maxSteps := 1000000) (disch := omega) [-List.getD_eq_getElem?_getD]
        · have b1 : decide (kk < 0) = false := decide_eq_false h1
          by_cases h2 : 3 < kk
          · have b2 : decide (3 < kk) = true := decide_eq_true h2
            refine aw_reg fun K hK => ?_; simp (maxSteps := 1000000) (disch := omega) [-List.getD_eq_getElem?_getD]
            refine acall_is (cf) ?_; simp (maxSteps := 1000000) (disch := omega) [-List.getD_eq_getElem?_getD]
            refine acall_is (cv) ?_; simp (maxSteps := 1000000) (disch := omega) [-List.getD_eq_getElem?_getD]
            refine acall_is (cg) ?_; simp (maxSteps := 1000000) (disch := omega) [-List.getD_eq_getElem?_getD, b1, h1, b2, h2]
            refine hK _ ?_; clear hK K
            refine aw_if rfl (fun h => ?_) (fun h => absurd h (by simp))
            refine aw_reg fun K hK => ?_; simp (maxSteps := 1000000) (disch := omega) [-List.getD_eq_getElem?_getD]; refine hK _ ?_; clear hK K
            refine aw_ret ?_; simp (maxSteps := 1000000) (disch := omega) [-List.getD_eq_getElem?_getD]
          · have b2 : decide (3 < kk) = false := decide_eq_false h2
            have hcl : (corL l kk ws).length = ws.length := by simp [corL]
            have c1 := own_ok l hl [] [] .none
            have c2 := correctP_ok l ws kk hkk hl hp hn hw [] [] .none .none
            have c3 := correctP_ok l (corL l kk ws) kk hkk hl hp (by rw [hcl]; exact hn) (fun w hw' => by
              obtain ⟨u, hu, rfl⟩ := List.mem_map.1 hw'
              exact corr_len hp kk (hw u hu)) [] [] .none .none
            rw [hcl, corL_twice hv, cntL_twice hv] at c3
            have c4 := sameT_ok ws.length (corL l kk ws) hcl.symm (by rw [hcl]; exact hn) [] [] .none .none
            have hall := cntK_all l kk ws
            have hout : ∀ i, i < ws.length → (corL l kk ws).getD i [] = corr l kk (ws.getD i []) := fun i hi => by
              simp [corL, hi]
            refine aw_reg fun K hK => ?_; simp (maxSteps := 1000000) (disch := omega) [-List.getD_eq_getElem?_getD]
            refine acall_is (cf) ?_; simp (maxSteps := 1000000) (disch := omega) [-List.getD_eq_getElem?_getD]
            refine acall_is (cv) ?_; simp (maxSteps := 1000000) (disch := omega) [-List.getD_eq_getElem?_getD]
            refine acall_is (cg) ?_; simp (maxSteps := 1000000) (disch := omega) [-List.getD_eq_getElem?_getD, b1, h1, b2, h2]
            refine hK _ ?_; clear hK K
            refine aw_if rfl (fun h => absurd h (by simp)) (fun h => ?_)
            refine aw_skip ?_; simp (maxSteps := 1000000) (disch := omega) [-List.getD_eq_getElem?_getD]
            refine hK1 _ ?_; clear hK1
            refine aw_reg fun K hK => ?_; simp (maxSteps := 1000000) (disch := omega) [-List.getD_eq_getElem?_getD]
            refine acall_is (c1) ?_; simp (maxSteps := 1000000) (disch := omega) [-List.getD_eq_getElem?_getD]
            refine hK _ ?_; clear hK K
            refine aw_reg fun K hK => ?_; simp (maxSteps := 1000000) (disch := omega) [-List.getD_eq_getElem?_getD]
            refine acall_is (c2) ?_; simp (maxSteps := 1000000) (disch := omega) [-List.getD_eq_getElem?_getD]
            refine hK _ ?_; clear hK K
            refine aw_reg fun K hK => ?_; simp (maxSteps := 1000000) (disch := omega) [-List.getD_eq_getElem?_getD]
            refine acall_is (c3) ?_; simp (maxSteps := 1000000) (disch := omega) [-List.getD_eq_getElem?_getD]
            refine hK _ ?_; clear hK K
            refine aw_then fun K1 hK1 => ?_
            refine aw_reg fun K hK => ?_; simp (maxSteps := 1000000) (disch := omega) [-List.getD_eq_getElem?_getD]
            refine acall_is (c4) ?_; simp (maxSteps := 1000000) (disch := omega) [-List.getD_eq_getElem?_getD]
            refine hK _ ?_; clear hK K
            refine aw_if rfl (fun h => absurd h (by simp)) (fun h => ?_)
            refine aw_skip ?_; simp (maxSteps := 1000000) (disch := omega) [-List.getD_eq_getElem?_getD]
            refine hK1 _ ?_; clear hK1
            refine aw_reg fun K hK => ?_; simp (maxSteps := 1000000) (disch := omega) [-List.getD_eq_getElem?_getD]; refine hK _ ?_; clear hK K
            refine aw_then fun K1 hK1 => ?_
            refine aw_reg fun K hK => ?_; simp (maxSteps := 1000000) (disch := omega) [-List.getD_eq_getElem?_getD]; refine hK _ ?_; clear hK K
            refine aw_block ?_
            refine aw_loop (X := Nat) (fun i => ⟨[(1, .sl ws.length (strs ws) .none), (2, .int .i64 kk), (7, .sl l.length (entAV l) .none), (8, .sl ws.length (strs (corL l kk ws)) .none), (9, .int .i64 (cntL l kk ws : Nat)), (12, .int .i64 (cntK l kk ws i : Nat)), (13, .int .i64 (i : Nat))], [], []⟩)
              (fun i => i ≤ ws.length) (fun i => ws.length - i) 0 ?_ ?_ ?_
            · exact Nat.zero_le _
            · refine weak_to [] [] ?_ ?_ ?_ ?_ HO ?_
              all_goals simp [cntK]
            · rintro i hi
              refine aw_then fun K2 hK2 => ?_
              refine aw_reg fun K hK => ?_; simp (maxSteps := 1000000) (disch := omega) [-List.getD_eq_getElem?_getD]; refine hK _ ?_; clear hK K
              refine aw_if rfl (fun hk => ?_) (fun hk => ?_)
              · simp [-List.getD_eq_getElem?_getD] at hk
                have hgw := getD_strs (xs := ws) (k := i) hk
                have hgo := getD_strs (xs := corL l kk ws) (k := i) (by rw [hcl]; exact hk)
                rw [hout i hk] at hgo
                have hcnt := cntK_succ l kk ws hk
                have hwl := hw _ (memD ws i [] hk)
                have hcle : cntK l kk ws i ≤ i := by unfold cntK; exact Nat.le_trans List.countP_le_length (by rw [List.length_take]; omega)
                generalize ws.getD i [] = w at *
                have d1 := count_ok l w hl hp [] [] .none
                have d2 := best_ok l w kk hkk hl hp hwl [] [] .none
                refine aw_skip ?_; simp (maxSteps := 1000000) (disch := omega) [-List.getD_eq_getElem?_getD]
                refine hK2 _ ?_; clear hK2
                refine aw_then fun K3 hK3 => ?_
                refine aw_block ?_
                by_cases hc : 0 < countE l w
                · obtain ⟨e1, e2⟩ := corr_in (k := kk) hc
                  rw [e1] at hgo
                  rw [e2] at hcnt
                  rw [best_in hv (by omega) (by omega) hc] at d2
                  have bc : decide (0 < countE l w) = true := decide_eq_true hc
                  refine aw_reg fun K hK => ?_; simp (maxSteps := 1000000) (disch := omega) [-List.getD_eq_getElem?_getD, hgw, strs_len]
                  refine acall_is (d1) ?_; simp (maxSteps := 1000000) (disch := omega) [-List.getD_eq_getElem?_getD, bc, hc]
                  refine hK _ ?_; clear hK K
                  refine aw_then fun K4 hK4 => ?_
                  refine aw_draw [] [] [] drawMixed (by kernel_rfl) (by kernel_rfl) fun K hK => ?_; simp (maxSteps := 1000000) (disch := omega) [-List.getD_eq_getElem?_getD, hgw, hgo, strs_len, hcl]
                  refine hK _ ?_; clear hK K
                  refine aw_if rfl (fun h => absurd h (by simp)) (fun h => ?_)
                  refine aw_skip ?_; simp (maxSteps := 1000000) (disch := omega) [-List.getD_eq_getElem?_getD]
                  refine hK4 _ ?_; clear hK4
                  refine aw_reg fun K hK => ?_; simp (maxSteps := 1000000) (disch := omega) [-List.getD_eq_getElem?_getD, hgw, strs_len]
                  refine acall_is (d2) ?_; simp (maxSteps := 1000000) (disch := omega) [-List.getD_eq_getElem?_getD]
                  refine hK _ ?_; clear hK K
                  refine aw_reg fun K hK => ?_; simp (maxSteps := 1000000) (disch := omega) [-List.getD_eq_getElem?_getD, hgw, hgo, strs_len, hcl]; refine hK _ ?_; clear hK K
                  refine aw_if rfl (fun h => absurd h (by simp)) (fun h => ?_)
                  refine aw_skip ?_; simp (maxSteps := 1000000) (disch := omega) [-List.getD_eq_getElem?_getD]
                  refine hK3 _ ?_; clear hK3
                  refine aw_reg0 fun K hK => ?_; simp (maxSteps := 1000000) (disch := omega) [-List.getD_eq_getElem?_getD]
                  refine hK _ ?_; clear hK K
                  refine ⟨i + 1, by show i + 1 ≤ _; omega, by show ws.length - (i + 1) < ws.length - i; omega, ?_⟩
                  rw [hcnt]
                  refine weak_to [] [] ?_ ?_ ?_ ?_ HO ?_
                  all_goals simp
                · have bc : decide (0 < countE l w) = false := decide_eq_false hc
                  cases hb : (bestE l w kk).2 with
                  | false =>
                    obtain ⟨e1, e2⟩ := corr_none hb
                    rw [e1] at hgo
                    rw [e2] at hcnt
                    rw [hb] at d2
                    refine aw_reg fun K hK => ?_; simp (maxSteps := 1000000) (disch := omega) [-List.getD_eq_getElem?_getD, hgw, strs_len]
                    refine acall_is (d1) ?_; simp (maxSteps := 1000000) (disch := omega) [-List.getD_eq_getElem?_getD, bc, hc]
                    refine hK _ ?_; clear hK K
                    refine aw_then fun K4 hK4 => ?_
                    refine aw_draw [] [] [] drawMixed (by kernel_rfl) (by kernel_rfl) fun K hK => ?_; simp (maxSteps := 1000000) (disch := omega) [-List.getD_eq_getElem?_getD, hgw, hgo, strs_len, hcl]
                    refine hK _ ?_; clear hK K
                    refine aw_if rfl (fun h => absurd h (by simp)) (fun h => ?_)
                    refine aw_skip ?_; simp (maxSteps := 1000000) (disch := omega) [-List.getD_eq_getElem?_getD]
                    refine hK4 _ ?_; clear hK4
                    refine aw_reg fun K hK => ?_; simp (maxSteps := 1000000) (disch := omega) [-List.getD_eq_getElem?_getD, hgw, strs_len]
                    refine acall_is (d2) ?_; simp (maxSteps := 1000000) (disch := omega) [-List.getD_eq_getElem?_getD]
                    refine hK _ ?_; clear hK K
                    refine aw_reg fun K hK => ?_; simp (maxSteps := 1000000) (disch := omega) [-List.getD_eq_getElem?_getD, hgw, hgo, strs_len, hcl]; refine hK _ ?_; clear hK K
                    refine aw_if rfl (fun h => absurd h (by simp)) (fun h => ?_)
                    refine aw_skip ?_; simp (maxSteps := 1000000) (disch := omega) [-List.getD_eq_getElem?_getD]
                    refine hK3 _ ?_; clear hK3
                    refine aw_reg0 fun K hK => ?_; simp (maxSteps := 1000000) (disch := omega) [-List.getD_eq_getElem?_getD]
                    refine hK _ ?_; clear hK K
                    refine ⟨i + 1, by show i + 1 ≤ _; omega, by show ws.length - (i + 1) < ws.length - i; omega, ?_⟩
                    rw [hcnt]
                    refine weak_to [] [] ?_ ?_ ?_ ?_ HO ?_
                    all_goals simp
                  | true =>
                    obtain ⟨e1, e2⟩ := corr_best hc hb
                    obtain ⟨e, he, e3, e4⟩ := best_mem hb
                    have hcp := count_pos hv he
                    have hne : (bestE l w kk).1 ≠ w := fun e5 => hc (by rw [← e5, ← e3]; exact hcp)
                    rw [e1] at hgo
                    rw [e2] at hcnt
                    rw [hb] at d2
                    rw [e3] at hcp e4
                    have hbl : ((bestE l w kk).1).length ≤ 1000 := by rw [← e3]; exact hp _ he
                    generalize (bestE l w kk).1 = bw at *
                    have d3 := count_ok l bw hl hp [] [] .none
                    have d4 := distR_ok2 w bw hwl hbl [] []
                    have bq : (countE l bw == 0) = false := by rw [beq_eq_false_iff_ne]; omega
                    have bq' : ¬ countE l bw = 0 := by omega
                    generalize countE l bw = cb at *
                    have bd : decide (kk < distE w bw) = false := decide_eq_false (by omega)
                    have bd' : ¬ kk < distE w bw := by omega
                    generalize distE w bw = dw at *
                    have bn : (bw != w) = true := bne_iff_ne.2 hne
                    have bn' : (bw == w) = false := beq_eq_false_iff_ne.2 hne
                    refine aw_reg fun K hK => ?_; simp (maxSteps := 1000000) (disch := omega) [-List.getD_eq_getElem?_getD, hgw, strs_len]
                    refine acall_is (d1) ?_; simp (maxSteps := 1000000) (disch := omega) [-List.getD_eq_getElem?_getD, bc, hc]
                    refine hK _ ?_; clear hK K
                    refine aw_then fun K4 hK4 => ?_
                    refine aw_draw [] [] [] drawMixed (by kernel_rfl) (by kernel_rfl) fun K hK => ?_; simp (maxSteps := 1000000) (disch := omega) [-List.getD_eq_getElem?_getD, hgw, hgo, strs_len, hcl, bn, bn']
                    refine hK _ ?_; clear hK K
                    refine aw_if rfl (fun h => ?_) (fun h => absurd h (by simp))
                    refine aw_reg fun K hK => ?_; simp (maxSteps := 1000000) (disch := omega) [-List.getD_eq_getElem?_getD]; refine hK _ ?_; clear hK K
                    refine aw_draw [] [] [] drawMixed (by kernel_rfl) (by kernel_rfl) fun K hK => ?_; simp (maxSteps := 1000000) (disch := omega) [-List.getD_eq_getElem?_getD, hgw, hgo, strs_len, hcl]
                    refine dcall_is (d3) rfl ?_; simp (maxSteps := 1000000) (disch := omega) [-List.getD_eq_getElem?_getD, hgw, hgo, strs_len, hcl, bq, bq']
                    refine dcall_is (d4) rfl ?_; simp (maxSteps := 1000000) (disch := omega) [-List.getD_eq_getElem?_getD, hgw, hgo, strs_len, hcl, bd, bd']
                    refine hK _ ?_; clear hK K
                    refine aw_if rfl (fun h => absurd h (by simp)) (fun h => ?_)
                    refine aw_skip ?_; simp (maxSteps := 1000000) (disch := omega) [-List.getD_eq_getElem?_getD]
                    refine hK4 _ ?_; clear hK4
                    refine aw_reg fun K hK => ?_; simp (maxSteps := 1000000) (disch := omega) [-List.getD_eq_getElem?_getD, hgw, strs_len]
                    refine acall_is (d2) ?_; simp (maxSteps := 1000000) (disch := omega) [-List.getD_eq_getElem?_getD]
                    refine hK _ ?_; clear hK K
                    refine aw_reg fun K hK => ?_; simp (maxSteps := 1000000) (disch := omega) [-List.getD_eq_getElem?_getD, hgw, hgo, strs_len, hcl]; refine hK _ ?_; clear hK K
                    refine aw_if rfl (fun h => absurd h (by simp)) (fun h => ?_)
                    refine aw_skip ?_; simp (maxSteps := 1000000) (disch := omega) [-List.getD_eq_getElem?_getD]
                    refine hK3 _ ?_; clear hK3
                    refine aw_reg0 fun K hK => ?_; simp (maxSteps := 1000000) (disch := omega) [-List.getD_eq_getElem?_getD]
                    refine hK _ ?_; clear hK K
                    refine ⟨i + 1, by show i + 1 ≤ _; omega, by show ws.length - (i + 1) < ws.length - i; omega, ?_⟩
                    rw [hcnt]
                    refine weak_to [] [] ?_ ?_ ?_ ?_ HO ?_
                    all_goals simp
              · simp [-List.getD_eq_getElem?_getD] at hk
                have e : i = ws.length := by omega
                subst e
                rw [hall]
                refine aw_exit ?_; simp (maxSteps := 1000000) (disch := omega) [-List.getD_eq_getElem?_getD]
                refine hK1 _ ?_; clear hK1
                refine aw_reg fun K hK => ?_; simp (maxSteps := 1000000) (disch := omega) [-List.getD_eq_getElem?_getD]; refine hK _ ?_; clear hK K
                refine aw_ret ?_; simp (maxSteps := 1000000) (disch := omega) [-List.getD_eq_getElem?_getD]
end Go.Proofs.Ytbijefgmleagnaa
