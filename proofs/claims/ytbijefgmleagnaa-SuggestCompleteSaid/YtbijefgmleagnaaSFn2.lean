/- Dictionaries, copies of lists (layer 43).
   Conditions: lengths below 1000, as each theorem says. -/
import Derived.Test.YtbijefgmleagnaaSFn1
namespace Go.Proofs.Ytbijefgmleagnaa
open Go Go.Am Sug
set_option linter.unusedVariables false

theorem few_ok (l : List Ent) (hl : l.length ≤ maxLen) (hp : ∀ p ∈ l, p.1.length ≤ maxLen) (H : List Blk) (T : Toks) (tg : Tag) :
    ACall Try.prog 9 [.sl l.length (entAV l) tg] H T (Is (.bool (fewE l)) H T) := by
  refine ACall.untag1 ?_
  have hml : maxLen ≤ 9223372036854775807 := by decide
  have hl' := Nat.le_trans hl hml
  generalize hq : fewE l = q
  refine acall_enter 4 [] Try.ntmps9 Try.func9 rfl (fun _ _ => Try.call9 _ _) (by simp) (fun HO => ?_)
  refine aw_reg fun K hK => ?_; simp (maxSteps := 1000000) (disch := omega) [-List.getD_eq_getElem?_getD]; refine hK _ ?_; clear hK K
  refine aw_then fun K1 hK1 => ?_
  refine aw_reg fun K hK => ?_; simp (maxSteps := 1000000) (disch := omega) [-List.getD_eq_getElem?_getD]; refine hK _ ?_; clear hK K
  refine aw_block ?_
  refine aw_loop (X := Nat) (fun k => ⟨[(0, .sl l.length (entAV l) .none), (3, .int .i64 (k : Nat))], H, T⟩) (fun k => k ≤ l.length ∧ ∀ j, j < k → (l.getD j ([], 0)).1.length ≤ 120) (fun k => l.length - k) 0 ?_ ?_ ?_
  · exact ⟨Nat.zero_le _, fun j hj => absurd hj (Nat.not_lt_zero _)⟩
  · refine weak_to [] [] ?_ ?_ ?_ ?_ HO ?_
    all_goals simp
  · rintro k ⟨h1, h2⟩
    refine aw_then fun K2 hK2 => ?_
    refine aw_reg fun K hK => ?_; simp (maxSteps := 1000000) (disch := omega) [-List.getD_eq_getElem?_getD]; refine hK _ ?_; clear hK K
    refine aw_if rfl (fun hk => ?_) (fun hk => ?_)
    · simp [-List.getD_eq_getElem?_getD] at hk
      have hat := (entAV_at l k hk).1
      have hpk := Nat.le_trans (hp _ (memD l k ([], 0) hk)) hml
      refine aw_skip ?_; simp (maxSteps := 1000000) (disch := omega) [-List.getD_eq_getElem?_getD]
      refine hK2 _ ?_; clear hK2
      refine aw_then fun K3 hK3 => ?_
      refine aw_block ?_
      by_cases hc : (l.getD k ([], 0)).1.length ≤ 120
      · have b : decide ((120 : Int) < (l.getD k ([], 0)).1.length) = false := by simp [-List.getD_eq_getElem?_getD]; omega
        refine aw_reg fun K hK => ?_; simp (maxSteps := 1000000) (disch := omega) [-List.getD_eq_getElem?_getD, hat, entAV_len, b, hc, hk]; refine hK _ ?_; clear hK K
        refine aw_if rfl (fun h => absurd h (by simp)) (fun h => ?_)
        refine aw_skip ?_; simp (maxSteps := 1000000) (disch := omega) [-List.getD_eq_getElem?_getD]
        refine hK3 _ ?_; clear hK3
        refine aw_reg0 fun K hK => ?_; simp (maxSteps := 1000000) (disch := omega) [-List.getD_eq_getElem?_getD]
        refine hK _ ?_; clear hK K
        refine ⟨k + 1, ⟨by show k + 1 ≤ _; omega, fun j hj => ?_⟩, by show l.length - (k + 1) < l.length - k; omega, ?_⟩
        · rcases Nat.lt_or_ge j k with h3 | h3
          · exact h2 j h3
          · have : j = k := by omega
            subst this; omega
        · refine weak_to [] [] ?_ ?_ ?_ ?_ HO ?_
          all_goals simp
      · have b : decide ((120 : Int) < (l.getD k ([], 0)).1.length) = true := by simp [-List.getD_eq_getElem?_getD]; omega
        refine aw_reg fun K hK => ?_; simp (maxSteps := 1000000) (disch := omega) [-List.getD_eq_getElem?_getD, hat, entAV_len, b, hc, hk]; refine hK _ ?_; clear hK K
        refine aw_if rfl (fun h => ?_) (fun h => absurd h (by simp))
        refine aw_reg fun K hK => ?_; simp (maxSteps := 1000000) (disch := omega) [-List.getD_eq_getElem?_getD]; refine hK _ ?_; clear hK K
        refine aw_ret ?_; simp (maxSteps := 1000000) (disch := omega) [-List.getD_eq_getElem?_getD]
        have : ¬ (l.length ≤ 40 ∧ ∀ e ∈ l, e.1.length ≤ 120) := fun h => hc (h.2 _ (memD l k ([], 0) hk))
        rw [← hq, fewE, decide_eq_false this]
        exact ⟨rfl, rfl, rfl⟩
    · simp [-List.getD_eq_getElem?_getD] at hk
      have hall : ∀ e ∈ l, e.1.length ≤ 120 := fun e he => by
        obtain ⟨j, hj, e⟩ := memD_inv ([], 0) he
        rw [← e]; exact h2 j (by omega)
      refine aw_exit ?_; simp (maxSteps := 1000000) (disch := omega) [-List.getD_eq_getElem?_getD]
      refine hK1 _ ?_; clear hK1
      refine aw_reg fun K hK => ?_; simp (maxSteps := 1000000) (disch := omega) [-List.getD_eq_getElem?_getD]; refine hK _ ?_; clear hK K
      refine aw_ret ?_; simp (maxSteps := 1000000) (disch := omega) [-List.getD_eq_getElem?_getD]
      refine ⟨?_, rfl, rfl⟩
      rw [← hq]
      simp only [fewE]
      congr 1
      rw [decide_eq_decide]
      exact ⟨fun h => ⟨by omega, hall⟩, fun h => by omega⟩

set_option maxRecDepth 100000 in
set_option maxHeartbeats 4000000 in
theorem validP_ok (l : List Ent) (hl : l.length ≤ 1000) (hp : ∀ p ∈ l, p.1.length ≤ 1000) (H : List Blk) (T : Toks) (tg : Tag) :
    ACall Try.prog 13 [.sl l.length (entAV l) tg] H T (Is (.bool (validE l)) H T) := by
  refine ACall.untag1 ?_
  refine ACall.drop' ?_ (by simp)
  generalize hq : validE l = q
  refine acall_enter 9 [] Try.ntmps13 Try.func13 rfl (fun _ _ => Try.call13 _ _) (by simp) (fun HO => ?_)
  refine aw_reg fun K hK => ?_; simp (maxSteps := 1000000) (disch := omega) [-List.getD_eq_getElem?_getD]; refine hK _ ?_; clear hK K
  refine aw_then fun K1 hK1 => ?_
  refine aw_reg fun K hK => ?_; simp (maxSteps := 1000000) (disch := omega) [-List.getD_eq_getElem?_getD]; refine hK _ ?_; clear hK K
  refine aw_block ?_
  refine aw_loop (X := Nat) (fun k => ⟨[(0, .sl l.length (entAV l) .none), (5, .sl l.length (entAV l) .none), (6, .int .i64 (l.length : Nat)), (7, .int .i64 (k : Nat))], H, T⟩) (fun k => k ≤ l.length ∧ ∀ j, j < k → (okE (l.getD j ([], 0)) && upE l j) = true) (fun k => l.length - k) 0 ?_ ?_ ?_
  · exact ⟨Nat.zero_le _, fun j hj => absurd hj (Nat.not_lt_zero _)⟩
  · refine weak_to [] [] ?_ ?_ ?_ ?_ HO ?_
    all_goals simp
  · rintro k ⟨h1, h2⟩
    refine aw_reg fun K hK => ?_; simp (maxSteps := 1000000) (disch := omega) [-List.getD_eq_getElem?_getD]; refine hK _ ?_; clear hK K
    refine aw_then fun K2 hK2 => ?_
    refine aw_if rfl (fun hk => ?_) (fun hk => ?_)
    · simp [-List.getD_eq_getElem?_getD] at hk
      have hcut := entAV_cut l k hk
      refine aw_skip ?_; simp (maxSteps := 1000000) (disch := omega) [-List.getD_eq_getElem?_getD]
      refine hK2 _ ?_; clear hK2
      refine aw_then fun K3 hK3 => ?_
      refine aw_block ?_
      refine aw_reg fun K hK => ?_; simp (maxSteps := 1000000) (disch := omega) [-List.getD_eq_getElem?_getD, hcut, entAV_len]; refine hK _ ?_; clear hK K
      have hwl := hp _ (memD l k ([], 0) hk)
      refine aw_draw [] [] [] drawMixed (by kernel_rfl) (by kernel_rfl) fun K hK => ?_
      have key : ∀ e b, b = (okE (l.getD k ([], 0)) && upE l k) → envLe H.length T.length e [(0, .sl l.length (entAV l) .none), (5, .sl l.length (entAV l) .none), (6, .int .i64 (l.length : Nat)), (7, .int .i64 (k : Nat)), (40, .bool (!b))] → K ⟨e, H ++ [.cells [.str (l.getD k ([], 0)).1, .int .i64 (l.getD k ([], 0)).2]], T⟩ := by
        intro e b hb he
        refine hK _ (aw_weak ⟨[(0, .sl l.length (entAV l) .none), (5, .sl l.length (entAV l) .none), (6, .int .i64 (l.length : Nat)), (7, .int .i64 (k : Nat)), (40, .bool (!b))], H, T⟩ (weak_to [.cells [.str (l.getD k ([], 0)).1, .int .i64 (l.getD k ([], 0)).2]] [] (by simp) (by simp) (by simp) (by simp) HO he) ?_)
        cases b with
        | false =>
          refine aw_if rfl (fun h => ?_) (fun h => absurd h (by simp))
          refine aw_reg fun K hK => ?_; simp (maxSteps := 1000000) (disch := omega) [-List.getD_eq_getElem?_getD]; refine hK _ ?_; clear hK K
          refine aw_ret ?_; simp (maxSteps := 1000000) (disch := omega) [-List.getD_eq_getElem?_getD]
          rw [← hq, validE_bad hk hb.symm]
        | true =>
          refine aw_if rfl (fun h => absurd h (by simp)) (fun h => ?_)
          refine aw_skip ?_; simp (maxSteps := 1000000) (disch := omega) [-List.getD_eq_getElem?_getD]
          refine hK3 _ ?_; clear hK3
          refine aw_reg0 fun K hK => ?_; simp (maxSteps := 1000000) (disch := omega) [-List.getD_eq_getElem?_getD]
          refine hK _ ?_; clear hK K
          refine ⟨k + 1, ⟨by show k + 1 ≤ _; omega, fun j hj => ?_⟩, by show l.length - (k + 1) < l.length - k; omega, ?_⟩
          · rcases Nat.lt_or_ge j k with h3 | h3
            · exact h2 j h3
            · have : j = k := by omega
              subst this; exact hb.symm
          · refine weak_to [] [] ?_ ?_ ?_ ?_ HO ?_
            all_goals simp
      clear hK
      have c := wordP_ok (l.getD k ([], 0)).1 hwl (H ++ [.cells [.str (l.getD k ([], 0)).1, .int .i64 (l.getD k ([], 0)).2]]) T
      cases hw : okW (l.getD k ([], 0)).1 with
      | false =>
        rw [hw] at c
        simp (maxSteps := 1000000) (disch := omega) [-List.getD_eq_getElem?_getD]
        refine dcall_is (c) rfl ?_; simp (maxSteps := 1000000) (disch := omega) [-List.getD_eq_getElem?_getD]
        refine key _ false ?_ (by simp)
        simp only [okE, hw, Bool.false_and]
      | true =>
        rw [hw] at c
        by_cases h3 : (l.getD k ([], 0)).2 < 1
        · have b3 : decide ((l.getD k ([], 0)).2 < 1) = true := decide_eq_true h3
          simp (maxSteps := 1000000) (disch := omega) [-List.getD_eq_getElem?_getD]
          refine dcall_is (c) rfl ?_; simp (maxSteps := 1000000) (disch := omega) [-List.getD_eq_getElem?_getD, b3, h3]
          refine key _ false ?_ (by simp)
          have : okC (l.getD k ([], 0)).2 = false := decide_eq_false (by omega)
          simp only [okE, this, Bool.and_false, Bool.false_and]
        · have b3 : decide ((l.getD k ([], 0)).2 < 1) = false := decide_eq_false h3
          by_cases h4 : 2000 < (l.getD k ([], 0)).2
          · have b4 : decide (2000 < (l.getD k ([], 0)).2) = true := decide_eq_true h4
            simp (maxSteps := 1000000) (disch := omega) [-List.getD_eq_getElem?_getD]
            refine dcall_is (c) rfl ?_; simp (maxSteps := 1000000) (disch := omega) [-List.getD_eq_getElem?_getD, b3, h3, b4, h4]
            refine key _ false ?_ (by simp)
            have : okC (l.getD k ([], 0)).2 = false := decide_eq_false (by omega)
            simp only [okE, this, Bool.and_false, Bool.false_and]
          · have b4 : decide (2000 < (l.getD k ([], 0)).2) = false := decide_eq_false h4
            have hoc : okC (l.getD k ([], 0)).2 = true := decide_eq_true (by omega)
            rcases Nat.eq_zero_or_pos k with h5 | h5
            · subst h5
              simp (maxSteps := 1000000) (disch := omega) [-List.getD_eq_getElem?_getD]
              refine dcall_is (c) rfl ?_; simp (maxSteps := 1000000) (disch := omega) [-List.getD_eq_getElem?_getD, b3, h3, b4, h4]
              refine key _ true ?_ (by simp)
              simp only [okE, hw, hoc, upE]
              rfl
            · obtain ⟨j, rfl⟩ : ∃ j, k = j + 1 := ⟨k - 1, by omega⟩
              have hat := (entAV_at l j (by omega)).1
              have hup : upE l (j + 1) = slt (l.getD j ([], 0)).1 (l.getD (j + 1) ([], 0)).1 := by simp [upE, -List.getD_eq_getElem?_getD]
              have b5 : decide ((0 : Int) < ((j + 1 : Nat) : Int)) = true := decide_eq_true (by omega)
              have b6 : (0 : Int) < (j : Int) + 1 := by omega
              simp (maxSteps := 1000000) (disch := omega) [-List.getD_eq_getElem?_getD]
              refine dcall_is (c) rfl ?_; simp (maxSteps := 1000000) (disch := omega) [-List.getD_eq_getElem?_getD, b3, h3, b4, h4, b5, b6, hat, entAV_len]
              refine key _ (slt (l.getD j ([], 0)).1 (l.getD (j + 1) ([], 0)).1) ?_ (by simp)
              simp only [okE, hw, hoc, hup, Bool.true_and]
    · simp [-List.getD_eq_getElem?_getD] at hk
      have hn := validE_good hl (fun j hj => h2 j (by omega))
      rw [hq] at hn
      subst hn
      refine aw_exit ?_; simp (maxSteps := 1000000) (disch := omega) [-List.getD_eq_getElem?_getD]
      refine hK1 _ ?_; clear hK1
      refine aw_reg fun K hK => ?_; simp (maxSteps := 1000000) (disch := omega) [-List.getD_eq_getElem?_getD]; refine hK _ ?_; clear hK K
      refine aw_ret ?_; simp (maxSteps := 1000000) (disch := omega) [-List.getD_eq_getElem?_getD]
      omega

set_option maxRecDepth 100000 in
set_option maxHeartbeats 4000000 in
theorem validR_ok (l : List Ent) (hl : l.length ≤ 1000) (hp : ∀ p ∈ l, p.1.length ≤ 1000) (H : List Blk) (T : Toks) (tg : Tag) :
    ACall Try.prog 14 [.sl l.length (entAV l) tg] H T (Is (.bool (validE l)) H T) := by
  refine ACall.untag1 ?_
  generalize hq : validE l = q
  refine acall_enter 4 [] Try.ntmps14 Try.func14 rfl (fun _ _ => Try.call14 _ _) (by simp) (fun HO => ?_)
  refine aw_reg fun K hK => ?_; simp (maxSteps := 1000000) (disch := omega) [-List.getD_eq_getElem?_getD]; refine hK _ ?_; clear hK K
  refine aw_then fun K1 hK1 => ?_
  refine aw_reg fun K hK => ?_; simp (maxSteps := 1000000) (disch := omega) [-List.getD_eq_getElem?_getD]; refine hK _ ?_; clear hK K
  refine aw_block ?_
  refine aw_loop (X := Nat) (fun k => ⟨[(0, .sl l.length (entAV l) .none), (3, .int .i64 (k : Nat))], H, T⟩) (fun k => k ≤ l.length ∧ ∀ j, j < k → (okE (l.getD j ([], 0)) && upE l j) = true) (fun k => l.length - k) 0 ?_ ?_ ?_
  · exact ⟨Nat.zero_le _, fun j hj => absurd hj (Nat.not_lt_zero _)⟩
  · refine weak_to [] [] ?_ ?_ ?_ ?_ HO ?_
    all_goals simp
  · rintro k ⟨h1, h2⟩
    refine aw_then fun K2 hK2 => ?_
    refine aw_reg fun K hK => ?_; simp (maxSteps := 1000000) (disch := omega) [-List.getD_eq_getElem?_getD]; refine hK _ ?_; clear hK K
    refine aw_if rfl (fun hk => ?_) (fun hk => ?_)
    · simp [-List.getD_eq_getElem?_getD] at hk
      have hat1 := (entAV_at l k hk).1
      have hat2 := (entAV_at l k hk).2
      refine aw_skip ?_; simp (maxSteps := 1000000) (disch := omega) [-List.getD_eq_getElem?_getD]
      refine hK2 _ ?_; clear hK2
      refine aw_then fun K3 hK3 => ?_
      refine aw_block ?_
      have hwl := hp _ (memD l k ([], 0) hk)
      refine aw_draw [] [] [] drawMixed (by kernel_rfl) (by kernel_rfl) fun K hK => ?_
      have key : ∀ e b, b = (okE (l.getD k ([], 0)) && upE l k) → envLe H.length T.length e [(0, .sl l.length (entAV l) .none), (3, .int .i64 (k : Nat)), (50, .bool (!b))] → K ⟨e, H, T⟩ := by
        intro e b hb he
        refine hK _ (aw_weak ⟨[(0, .sl l.length (entAV l) .none), (3, .int .i64 (k : Nat)), (50, .bool (!b))], H, T⟩ (weak_to [] [] (by simp) (by simp) (by simp) (by simp) HO he) ?_)
        cases b with
        | false =>
          refine aw_if rfl (fun h => ?_) (fun h => absurd h (by simp))
          refine aw_reg fun K hK => ?_; simp (maxSteps := 1000000) (disch := omega) [-List.getD_eq_getElem?_getD]; refine hK _ ?_; clear hK K
          refine aw_ret ?_; simp (maxSteps := 1000000) (disch := omega) [-List.getD_eq_getElem?_getD]
          rw [← hq, validE_bad hk hb.symm]
          exact ⟨rfl, rfl, rfl⟩
        | true =>
          refine aw_if rfl (fun h => absurd h (by simp)) (fun h => ?_)
          refine aw_skip ?_; simp (maxSteps := 1000000) (disch := omega) [-List.getD_eq_getElem?_getD]
          refine hK3 _ ?_; clear hK3
          refine aw_reg0 fun K hK => ?_; simp (maxSteps := 1000000) (disch := omega) [-List.getD_eq_getElem?_getD]
          refine hK _ ?_; clear hK K
          refine ⟨k + 1, ⟨by show k + 1 ≤ _; omega, fun j hj => ?_⟩, by show l.length - (k + 1) < l.length - k; omega, ?_⟩
          · rcases Nat.lt_or_ge j k with h3 | h3
            · exact h2 j h3
            · have : j = k := by omega
              subst this; exact hb.symm
          · refine weak_to [] [] ?_ ?_ ?_ ?_ HO ?_
            all_goals simp
      clear hK
      have c := wordR_ok (l.getD k ([], 0)).1 hwl H T
      cases hw : okW (l.getD k ([], 0)).1 with
      | false =>
        rw [hw] at c
        simp (maxSteps := 1000000) (disch := omega) [-List.getD_eq_getElem?_getD, hat1, hat2, entAV_len]
        refine dcall_is (c) rfl ?_; simp (maxSteps := 1000000) (disch := omega) [-List.getD_eq_getElem?_getD]
        refine key _ false ?_ (by simp)
        simp only [okE, hw, Bool.false_and]
      | true =>
        rw [hw] at c
        by_cases h3 : (l.getD k ([], 0)).2 < 1
        · have b3 : decide ((l.getD k ([], 0)).2 < 1) = true := decide_eq_true h3
          simp (maxSteps := 1000000) (disch := omega) [-List.getD_eq_getElem?_getD, hat1, hat2, entAV_len]
          refine dcall_is (c) rfl ?_; simp (maxSteps := 1000000) (disch := omega) [-List.getD_eq_getElem?_getD, b3, h3, hat1, hat2, entAV_len]
          refine key _ false ?_ (by simp)
          have : okC (l.getD k ([], 0)).2 = false := decide_eq_false (by omega)
          simp only [okE, this, Bool.and_false, Bool.false_and]
        · have b3 : decide ((l.getD k ([], 0)).2 < 1) = false := decide_eq_false h3
          by_cases h4 : 2000 < (l.getD k ([], 0)).2
          · have b4 : decide (2000 < (l.getD k ([], 0)).2) = true := decide_eq_true h4
            simp (maxSteps := 1000000) (disch := omega) [-List.getD_eq_getElem?_getD, hat1, hat2, entAV_len]
            refine dcall_is (c) rfl ?_; simp (maxSteps := 1000000) (disch := omega) [-List.getD_eq_getElem?_getD, b3, h3, b4, h4, hat1, hat2, entAV_len]
            refine key _ false ?_ (by simp)
            have : okC (l.getD k ([], 0)).2 = false := decide_eq_false (by omega)
            simp only [okE, this, Bool.and_false, Bool.false_and]
          · have b4 : decide (2000 < (l.getD k ([], 0)).2) = false := decide_eq_false h4
            have hoc : okC (l.getD k ([], 0)).2 = true := decide_eq_true (by omega)
            rcases Nat.eq_zero_or_pos k with h5 | h5
            · subst h5
              simp (maxSteps := 1000000) (disch := omega) [-List.getD_eq_getElem?_getD, hat1, hat2, entAV_len]
              refine dcall_is (c) rfl ?_; simp (maxSteps := 1000000) (disch := omega) [-List.getD_eq_getElem?_getD, b3, h3, b4, h4, hat1, hat2, entAV_len]
              refine key _ true ?_ (by simp)
              simp only [okE, hw, hoc, upE]
              rfl
            · obtain ⟨j, rfl⟩ : ∃ j, k = j + 1 := ⟨k - 1, by omega⟩
              have hat := (entAV_at l j (by omega)).1
              have hup : upE l (j + 1) = slt (l.getD j ([], 0)).1 (l.getD (j + 1) ([], 0)).1 := by simp [upE, -List.getD_eq_getElem?_getD]
              have b5 : decide ((0 : Int) < ((j + 1 : Nat) : Int)) = true := decide_eq_true (by omega)
              have b6 : (0 : Int) < (j : Int) + 1 := by omega
              simp (maxSteps := 1000000) (disch := omega) [-List.getD_eq_getElem?_getD, hat1, hat2, entAV_len]
              refine dcall_is (c) rfl ?_; simp (maxSteps := 1000000) (disch := omega) [-List.getD_eq_getElem?_getD, b3, h3, b4, h4, b5, b6, hat, hat1, hat2, entAV_len]
              refine key _ (slt (l.getD j ([], 0)).1 (l.getD (j + 1) ([], 0)).1) ?_ (by simp)
              simp only [okE, hw, hoc, hup, Bool.true_and]
    · simp [-List.getD_eq_getElem?_getD] at hk
      have hn := validE_good hl (fun j hj => h2 j (by omega))
      rw [hq] at hn
      subst hn
      refine aw_exit ?_; simp (maxSteps := 1000000) (disch := omega) [-List.getD_eq_getElem?_getD]
      refine hK1 _ ?_; clear hK1
      refine aw_reg fun K hK => ?_; simp (maxSteps := 1000000) (disch := omega) [-List.getD_eq_getElem?_getD]; refine hK _ ?_; clear hK K
      refine aw_ret ?_; simp (maxSteps := 1000000) (disch := omega) [-List.getD_eq_getElem?_getD]
      refine ⟨?_, rfl, rfl⟩
      simp
      omega

theorem own_ok (l : List Ent) (hl : l.length ≤ 1000) (H : List Blk) (T : Toks) (tg : Tag) : ACall Try.prog 10 [.sl l.length (entAV l) tg] H T (Is (.sl l.length (entAV l) .none) H T) := by
  refine ACall.untag1 ?_
  refine ACall.drop' ?_ (by simp)
  refine acall_enter 5 [] Try.ntmps10 Try.func10 rfl (fun _ _ => Try.call10 _ _) (by simp) (fun HO => ?_)
  refine aw_reg fun K hK => ?_; simp (maxSteps := 1000000) (disch := omega) [-List.getD_eq_getElem?_getD]; refine hK _ ?_; clear hK K
  refine aw_reg fun K hK => ?_; simp (maxSteps := 1000000) (disch := omega) [-List.getD_eq_getElem?_getD]; refine hK _ ?_; clear hK K
  refine aw_then fun K1 hK1 => ?_
  refine aw_reg fun K hK => ?_; simp (maxSteps := 1000000) (disch := omega) [-List.getD_eq_getElem?_getD]; refine hK _ ?_; clear hK K
  refine aw_block ?_
  refine aw_own 3 0 2 [] (by omega) (by simp) ?_
  refine aw_loop (X := Nat) (fun k => ⟨[(0, .sl l.length (entAV l) .none), (3, .sl k (entAV (l.take k)) (.own T.length)), (4, .int .i64 (k : Nat))], H, T ++ [(k * 2, 2)]⟩) (fun k => k ≤ l.length) (fun k => l.length - k) 0 ?_ ?_ ?_
  · exact Nat.zero_le _
  · refine weak_to [] [] ?_ ?_ ?_ ?_ (HO.toks (by simp)) ?_
    all_goals simp [entAV_nil]
  · intro k hk
    refine aw_then fun K2 hK2 => ?_
    refine aw_reg fun K hK => ?_; simp (maxSteps := 1000000) (disch := omega) [-List.getD_eq_getElem?_getD]; refine hK _ ?_; clear hK K
    refine aw_if rfl (fun hk2 => ?_) (fun hk2 => ?_)
    · simp [-List.getD_eq_getElem?_getD] at hk2
      have hcut := entAV_cut l k hk2
      have htl : (entAV (l.take k)).length = k * 2 := by rw [entAV_len, List.length_take]; omega
      refine aw_skip ?_; simp (maxSteps := 1000000) (disch := omega) [-List.getD_eq_getElem?_getD]
      refine hK2 _ ?_; clear hK2
      refine aw_then fun K3 hK3 => ?_
      refine aw_block ?_
      refine aw_reg0 fun K hK => ?_; simp (maxSteps := 1000000) (disch := omega) [-List.getD_eq_getElem?_getD, hcut, entAV_len, htl, entAV_take l k hk2]
      refine hK _ ?_; clear hK K
      refine hK3 _ ?_; clear hK3
      refine aw_reg0 fun K hK => ?_; simp (maxSteps := 1000000) (disch := omega) [-List.getD_eq_getElem?_getD]
      refine hK _ ?_; clear hK K
      refine ⟨k + 1, by show k + 1 ≤ _; omega, by show l.length - (k + 1) < l.length - k; omega, ?_⟩
      refine weak_to [] [] ?_ ?_ ?_ ?_ (HO.toks (by simp)) ?_
      all_goals simp
    · simp at hk2
      have : k = l.length := by omega
      subst this
      refine aw_exit ?_; simp (maxSteps := 1000000) (disch := omega) [-List.getD_eq_getElem?_getD]
      refine hK1 _ ?_; clear hK1
      refine aw_reg fun K hK => ?_; simp (maxSteps := 1000000) (disch := omega) [-List.getD_eq_getElem?_getD]; refine hK _ ?_; clear hK K
      refine aw_ret ?_; simp (maxSteps := 1000000) (disch := omega) [-List.getD_eq_getElem?_getD]

theorem theirs_ok (l : List Ent) (hl : l.length ≤ 1000) (H : List Blk) (T : Toks) (tg : Tag) : ACall Try.prog 27 [.sl l.length (entAV l) tg] H T (Is (.sl l.length (entAV l) .none) H T) := by
  refine ACall.untag1 ?_
  refine ACall.drop' ?_ (by simp)
  refine acall_enter 5 [] Try.ntmps27 Try.func27 rfl (fun _ _ => Try.call27 _ _) (by simp) (fun HO => ?_)
  refine aw_reg fun K hK => ?_; simp (maxSteps := 1000000) (disch := omega) [-List.getD_eq_getElem?_getD]; refine hK _ ?_; clear hK K
  refine aw_reg fun K hK => ?_; simp (maxSteps := 1000000) (disch := omega) [-List.getD_eq_getElem?_getD]; refine hK _ ?_; clear hK K
  refine aw_then fun K1 hK1 => ?_
  refine aw_reg fun K hK => ?_; simp (maxSteps := 1000000) (disch := omega) [-List.getD_eq_getElem?_getD]; refine hK _ ?_; clear hK K
  refine aw_block ?_
  refine aw_own 3 0 2 [] (by omega) (by simp) ?_
  refine aw_loop (X := Nat) (fun k => ⟨[(0, .sl l.length (entAV l) .none), (3, .sl k (entAV (l.take k)) (.own T.length)), (4, .int .i64 (k : Nat))], H, T ++ [(k * 2, 2)]⟩) (fun k => k ≤ l.length) (fun k => l.length - k) 0 ?_ ?_ ?_
  · exact Nat.zero_le _
  · refine weak_to [] [] ?_ ?_ ?_ ?_ (HO.toks (by simp)) ?_
    all_goals simp [entAV_nil]
  · intro k hk
    refine aw_then fun K2 hK2 => ?_
    refine aw_reg fun K hK => ?_; simp (maxSteps := 1000000) (disch := omega) [-List.getD_eq_getElem?_getD]; refine hK _ ?_; clear hK K
    refine aw_if rfl (fun hk2 => ?_) (fun hk2 => ?_)
    · simp [-List.getD_eq_getElem?_getD] at hk2
      have hcut := entAV_cut l k hk2
      have htl : (entAV (l.take k)).length = k * 2 := by rw [entAV_len, List.length_take]; omega
      refine aw_skip ?_; simp (maxSteps := 1000000) (disch := omega) [-List.getD_eq_getElem?_getD]
      refine hK2 _ ?_; clear hK2
      refine aw_then fun K3 hK3 => ?_
      refine aw_block ?_
      refine aw_reg0 fun K hK => ?_; simp (maxSteps := 1000000) (disch := omega) [-List.getD_eq_getElem?_getD, hcut, entAV_len, htl, entAV_take l k hk2]
      refine hK _ ?_; clear hK K
      refine hK3 _ ?_; clear hK3
      refine aw_reg0 fun K hK => ?_; simp (maxSteps := 1000000) (disch := omega) [-List.getD_eq_getElem?_getD]
      refine hK _ ?_; clear hK K
      refine ⟨k + 1, by show k + 1 ≤ _; omega, by show l.length - (k + 1) < l.length - k; omega, ?_⟩
      refine weak_to [] [] ?_ ?_ ?_ ?_ (HO.toks (by simp)) ?_
      all_goals simp
    · simp at hk2
      have : k = l.length := by omega
      subst this
      refine aw_exit ?_; simp (maxSteps := 1000000) (disch := omega) [-List.getD_eq_getElem?_getD]
      refine hK1 _ ?_; clear hK1
      refine aw_reg fun K hK => ?_; simp (maxSteps := 1000000) (disch := omega) [-List.getD_eq_getElem?_getD]; refine hK _ ?_; clear hK K
      refine aw_ret ?_; simp (maxSteps := 1000000) (disch := omega) [-List.getD_eq_getElem?_getD]

theorem near_ok (l : List Fnd) (hl : l.length ≤ 1000) (H : List Blk) (T : Toks) (tg : Tag) : ACall Try.prog 18 [.sl l.length (fndAV l) tg] H T (Is (.sl l.length (fndAV l) .none) H T) := by
  refine ACall.untag1 ?_
  refine ACall.drop' ?_ (by simp)
  refine acall_enter 5 [] Try.ntmps18 Try.func18 rfl (fun _ _ => Try.call18 _ _) (by simp) (fun HO => ?_)
  refine aw_reg fun K hK => ?_; simp (maxSteps := 1000000) (disch := omega) [-List.getD_eq_getElem?_getD]; refine hK _ ?_; clear hK K
  refine aw_reg fun K hK => ?_; simp (maxSteps := 1000000) (disch := omega) [-List.getD_eq_getElem?_getD]; refine hK _ ?_; clear hK K
  refine aw_then fun K1 hK1 => ?_
  refine aw_reg fun K hK => ?_; simp (maxSteps := 1000000) (disch := omega) [-List.getD_eq_getElem?_getD]; refine hK _ ?_; clear hK K
  refine aw_block ?_
  refine aw_own 3 0 3 [] (by omega) (by simp) ?_
  refine aw_loop (X := Nat) (fun k => ⟨[(0, .sl l.length (fndAV l) .none), (3, .sl k (fndAV (l.take k)) (.own T.length)), (4, .int .i64 (k : Nat))], H, T ++ [(k * 3, 3)]⟩) (fun k => k ≤ l.length) (fun k => l.length - k) 0 ?_ ?_ ?_
  · exact Nat.zero_le _
  · refine weak_to [] [] ?_ ?_ ?_ ?_ (HO.toks (by simp)) ?_
    all_goals simp [fndAV_nil]
  · intro k hk
    refine aw_then fun K2 hK2 => ?_
    refine aw_reg fun K hK => ?_; simp (maxSteps := 1000000) (disch := omega) [-List.getD_eq_getElem?_getD]; refine hK _ ?_; clear hK K
    refine aw_if rfl (fun hk2 => ?_) (fun hk2 => ?_)
    · simp [-List.getD_eq_getElem?_getD] at hk2
      have hcut := fndAV_cut l k hk2
      have htl : (fndAV (l.take k)).length = k * 3 := by rw [fndAV_len, List.length_take]; omega
      refine aw_skip ?_; simp (maxSteps := 1000000) (disch := omega) [-List.getD_eq_getElem?_getD]
      refine hK2 _ ?_; clear hK2
      refine aw_then fun K3 hK3 => ?_
      refine aw_block ?_
      refine aw_reg0 fun K hK => ?_; simp (maxSteps := 1000000) (disch := omega) [-List.getD_eq_getElem?_getD, hcut, fndAV_len, htl, fndAV_take l k hk2]
      refine hK _ ?_; clear hK K
      refine hK3 _ ?_; clear hK3
      refine aw_reg0 fun K hK => ?_; simp (maxSteps := 1000000) (disch := omega) [-List.getD_eq_getElem?_getD]
      refine hK _ ?_; clear hK K
      refine ⟨k + 1, by show k + 1 ≤ _; omega, by show l.length - (k + 1) < l.length - k; omega, ?_⟩
      refine weak_to [] [] ?_ ?_ ?_ ?_ (HO.toks (by simp)) ?_
      all_goals simp
    · simp at hk2
      have : k = l.length := by omega
      subst this
      refine aw_exit ?_; simp (maxSteps := 1000000) (disch := omega) [-List.getD_eq_getElem?_getD]
      refine hK1 _ ?_; clear hK1
      refine aw_reg fun K hK => ?_; simp (maxSteps := 1000000) (disch := omega) [-List.getD_eq_getElem?_getD]; refine hK _ ?_; clear hK K
      refine aw_ret ?_; simp (maxSteps := 1000000) (disch := omega) [-List.getD_eq_getElem?_getD]
end Go.Proofs.Ytbijefgmleagnaa
