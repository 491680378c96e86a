/- Correcting: the reference's; few texts, equal texts (layer 43).
   Conditions: lengths below 1000, as the theorem says. -/
import Derived.Test.YtbijefgmleagnaaSFn10
namespace Sug
def corL (l : List Ent) (kk : Int) (ws : List Str) : List Str := ws.map (corr l kk)
def cntL (l : List Ent) (kk : Int) (ws : List Str) : Nat := ws.countP (chg l kk)
theorem corK_all (l : List Ent) (kk : Int) (ws : List Str) : corK l kk ws ws.length = corL l kk ws := by simp [corK, corL]
theorem cntK_all (l : List Ent) (kk : Int) (ws : List Str) : cntK l kk ws ws.length = cntL l kk ws := by simp [cntK, cntL]
def fewT (ws : List Str) (n long : Int) : Bool := decide ((ws.length : Int) ≤ n ∧ ∀ w ∈ ws, (w.length : Int) ≤ long)
end Sug
namespace Go.Proofs.Ytbijefgmleagnaa
open Go Go.Am Sug Edit
set_option linter.unusedVariables false

theorem correct0_ok (l : List Ent) (kk : Int) (H : List Blk) (T : Toks) (tl tw : Tag) :
    ACall Try.prog 23 [.sl l.length (entAV l) tl, .sl 0 [] tw, .int .i64 kk] H T (Is (.tup [.sl 0 [] .none, .int .i64 0]) H T) := by
  refine ACall.untag1 (ACall.untag2 ?_)
  refine ACall.dropT ?_ (by simp)
  have c0 := clone0_ok H T .none
  refine acall_enter 19 [] Try.ntmps23 Try.func23 rfl (fun _ _ => Try.call23 _ _) (by simp) (fun HO => ?_)
  refine aw_reg fun K hK => ?_; simp (maxSteps := 1000000) (disch := omega) [-List.getD_eq_getElem?_getD]; refine hK _ ?_; clear hK K
  refine aw_reg fun K hK => ?_; simp (maxSteps := 1000000) (disch := omega) [-List.getD_eq_getElem?_getD]
  refine acall_is (c0) ?_; simp (maxSteps := 1000000) (disch := omega) [-List.getD_eq_getElem?_getD]
  refine hK _ ?_; clear hK K
  refine aw_then fun K1 hK1 => ?_
  refine aw_reg fun K hK => ?_; simp (maxSteps := 1000000) (disch := omega) [-List.getD_eq_getElem?_getD]; refine hK _ ?_; clear hK K
  refine aw_block ?_
  refine aw_loop (X := Unit) (fun _ => ⟨[(8, .sl 0 [] .none), (9, .int .i64 0), (17, .int .i64 0), (18, .int .i64 0)], H, T⟩) (fun _ => True) (fun _ => 0) () trivial ?_ ?_
  · refine weak_to [] [] ?_ ?_ ?_ ?_ HO ?_
    all_goals simp
  · rintro _ _
    refine aw_reg fun K hK => ?_; simp (maxSteps := 1000000) (disch := omega) [-List.getD_eq_getElem?_getD]; refine hK _ ?_; clear hK K
    refine aw_then fun K2 hK2 => ?_
    refine aw_if rfl (fun h => absurd h (by simp)) (fun h => ?_)
    refine aw_exit ?_; simp (maxSteps := 1000000) (disch := omega) [-List.getD_eq_getElem?_getD]
    refine hK1 _ ?_; clear hK1
    refine aw_reg fun K hK => ?_; simp (maxSteps := 1000000) (disch := omega) [-List.getD_eq_getElem?_getD]; refine hK _ ?_; clear hK K
    refine aw_ret ?_; simp (maxSteps := 1000000) (disch := omega) [-List.getD_eq_getElem?_getD]

theorem correctP_ok (l : List Ent) (ws : List Str) (kk : Int) (hkk : -9223372036854775808 ≤ kk ∧ kk ≤ 9223372036854775807) (hl : l.length ≤ 1000) (hp : ∀ p ∈ l, p.1.length ≤ 1000) (hn : ws.length ≤ 1000) (hw : ∀ w ∈ ws, w.length ≤ 1000) (H : List Blk) (T : Toks) (tl tw : Tag) :
    ACall Try.prog 23 [.sl l.length (entAV l) tl, .sl ws.length (strs ws) tw, .int .i64 kk] H T (Is (.tup [.sl ws.length (strs (corL l kk ws)) .none, .int .i64 (cntL l kk ws : Nat)]) H T) := by
  by_cases h0 : ws = []
  · subst h0
    exact correct0_ok l kk H T tl tw
  · have := correct_ok l ws kk hkk hl hp hn hw h0 H T tl tw
    rwa [corK_all, cntK_all] at this

set_option maxRecDepth 100000 in
set_option maxHeartbeats 4000000 in
theorem correctR_ok (l : List Ent) (ws : List Str) (kk : Int) (hkk : -9223372036854775808 ≤ kk ∧ kk ≤ 9223372036854775807) (hl : l.length ≤ 1000) (hp : ∀ p ∈ l, p.1.length ≤ 1000) (hn : ws.length ≤ 1000) (hw : ∀ w ∈ ws, w.length ≤ 1000) (H : List Blk) (T : Toks) (tl tw : Tag) :
    ACall Try.prog 24 [.sl l.length (entAV l) tl, .sl ws.length (strs ws) tw, .int .i64 kk] H T (Is (.tup [.sl ws.length (strs (corL l kk ws)) .none, .int .i64 (cntL l kk ws : Nat)]) H T) := by
  refine ACall.untag1 (ACall.untag2 ?_)
  refine ACall.dropT ?_ (by simp)
  refine acall_enter 14 [] Try.ntmps24 Try.func24 rfl (fun _ _ => Try.call24 _ _) (by simp) (fun HO => ?_)
  refine aw_reg fun K hK => ?_; simp (maxSteps := 1000000) (disch := omega) [-List.getD_eq_getElem?_getD]; refine hK _ ?_; clear hK K
  refine aw_reg fun K hK => ?_; simp (maxSteps := 1000000) (disch := omega) [-List.getD_eq_getElem?_getD]; refine hK _ ?_; clear hK K
  refine aw_reg fun K hK => ?_; simp (maxSteps := 1000000) (disch := omega) [-List.getD_eq_getElem?_getD]; refine hK _ ?_; clear hK K
  refine aw_then fun K1 hK1 => ?_
  refine aw_reg fun K hK => ?_; simp (maxSteps := 1000000) (disch := omega) [-List.getD_eq_getElem?_getD]; refine hK _ ?_; clear hK K
  refine aw_block ?_
  refine aw_own 8 0 1 [] (by omega) (by simp) ?_
  refine aw_loop (X := Nat) (fun k => ⟨[(0, .sl l.length (entAV l) .none), (1, .sl ws.length (strs ws) .none), (2, .int .i64 kk), (8, .sl k (strs (corL l kk (ws.take k))) (.own T.length)), (9, .int .i64 (cntK l kk ws k : Nat)), (10, .int .i64 (k : Nat))], H, T ++ [(k, 1)]⟩)
    (fun k => k ≤ ws.length) (fun k => ws.length - k) 0 ?_ ?_ ?_
  · exact Nat.zero_le _
  · refine weak_to [] [] ?_ ?_ ?_ ?_ (HO.toks (by simp)) ?_
    all_goals simp [corL, cntK]
  · rintro k h1
    refine aw_then fun K2 hK2 => ?_
    refine aw_reg fun K hK => ?_; simp (maxSteps := 1000000) (disch := omega) [-List.getD_eq_getElem?_getD]; refine hK _ ?_; clear hK K
    refine aw_if rfl (fun hk => ?_) (fun hk => ?_)
    · simp [-List.getD_eq_getElem?_getD] at hk
      have hgt := getD_strs (xs := ws) (k := k) hk
      have hg : ws.getD k [] = ws[k] := by rw [List.getD_eq_getElem?_getD, List.getElem?_eq_getElem hk]; rfl
      have hsn : ∀ b, corr l kk (ws.getD k []) = b → strs (corL l kk (ws.take k)) ++ [.str b] = strs (corL l kk (ws.take (k + 1))) := fun b hb => by
        rw [← hb, hg, corL, corL, List.take_succ_eq_append_getElem hk, List.map_append]
        simp [strs]
      have hlen : (strs (corL l kk (ws.take k))).length = k := by simp [strs, corL]; omega
      have hcnt := cntK_succ l kk ws hk
      have hwl := hw _ (memD ws k [] hk)
      have hcle : cntK l kk ws k ≤ k := by unfold cntK; exact Nat.le_trans List.countP_le_length (by rw [List.length_take]; omega)
      have hnn := countE_nonneg l (ws.getD k [])
      generalize hww : ws.getD k [] = w at *
      have c1 := fun H T => countR_ok l w hl hp H T .none
      have c2 := fun H T => bestR_ok l w kk hkk hl hp hwl H T .none
      refine aw_skip ?_; simp (maxSteps := 1000000) (disch := omega) [-List.getD_eq_getElem?_getD]
      refine hK2 _ ?_; clear hK2
      refine aw_then fun K3 hK3 => ?_
      refine aw_block ?_
      cases hb : (bestE l w kk).2 with
      | false =>
        have e1 : corr l kk w = w := by
          unfold corr
          split
          · rfl
          · rw [if_neg (by rw [hb]; simp)]
        have e2 : chg l kk w = false := by rw [chg, hb, Bool.and_false]
        have hs1 := hsn w e1
        rw [e2] at hcnt
        rw [hb] at c2
        refine aw_reg fun K hK => ?_; simp (maxSteps := 1000000) (disch := omega) [-List.getD_eq_getElem?_getD, hgt, strs_len]
        refine acall_is (c2 _ _) ?_; simp (maxSteps := 1000000) (disch := omega) [-List.getD_eq_getElem?_getD]
        refine hK _ ?_; clear hK K
        refine aw_reg fun K hK => ?_; simp (maxSteps := 1000000) (disch := omega) [-List.getD_eq_getElem?_getD]; refine hK _ ?_; clear hK K
        refine aw_if rfl (fun h => absurd h (by simp)) (fun h => ?_)
        refine aw_reg0 fun K hK => ?_; simp (maxSteps := 1000000) (disch := omega) [-List.getD_eq_getElem?_getD, hgt, strs_len, hs1, hlen]
        refine hK _ ?_; clear hK K
        refine hK3 _ ?_; clear hK3
        refine aw_reg0 fun K hK => ?_; simp (maxSteps := 1000000) (disch := omega) [-List.getD_eq_getElem?_getD]
        refine hK _ ?_; clear hK K
        refine ⟨k + 1, by show k + 1 ≤ _; omega, by show ws.length - (k + 1) < ws.length - k; omega, ?_⟩
        rw [hcnt]
        refine weak_to [] [] ?_ ?_ ?_ ?_ (HO.toks (by simp)) ?_
        all_goals simp
      | true =>
        rw [hb] at c2
        by_cases hc : countE l w = 0
        · have b1 : (countE l w == 0) = true := by simpa using hc
          have e1 : corr l kk w = (bestE l w kk).1 := by rw [corr, if_neg (by omega), if_pos hb]
          have e2 : chg l kk w = true := by rw [chg, hb, Bool.and_true, decide_eq_true (by omega)]
          have hs1 := hsn _ e1
          rw [e2] at hcnt
          generalize (bestE l w kk).1 = bw at *
          refine aw_reg fun K hK => ?_; simp (maxSteps := 1000000) (disch := omega) [-List.getD_eq_getElem?_getD, hgt, strs_len]
          refine acall_is (c2 _ _) ?_; simp (maxSteps := 1000000) (disch := omega) [-List.getD_eq_getElem?_getD]
          refine hK _ ?_; clear hK K
          refine aw_reg fun K hK => ?_; simp (maxSteps := 1000000) (disch := omega) [-List.getD_eq_getElem?_getD, hgt, strs_len]
          refine acall_is (c1 _ _) ?_; simp (maxSteps := 1000000) (disch := omega) [-List.getD_eq_getElem?_getD, b1, hc]
          refine hK _ ?_; clear hK K
          refine aw_if rfl (fun h => ?_) (fun h => absurd h (by simp))
          refine aw_reg fun K hK => ?_; simp (maxSteps := 1000000) (disch := omega) [-List.getD_eq_getElem?_getD, hgt, strs_len, hs1, hlen]; refine hK _ ?_; clear hK K
          refine aw_reg0 fun K hK => ?_; simp (maxSteps := 1000000) (disch := omega) [-List.getD_eq_getElem?_getD]
          refine hK _ ?_; clear hK K
          refine hK3 _ ?_; clear hK3
          refine aw_reg0 fun K hK => ?_; simp (maxSteps := 1000000) (disch := omega) [-List.getD_eq_getElem?_getD]
          refine hK _ ?_; clear hK K
          refine ⟨k + 1, by show k + 1 ≤ _; omega, by show ws.length - (k + 1) < ws.length - k; omega, ?_⟩
          rw [hcnt]
          refine weak_to [] [] ?_ ?_ ?_ ?_ (HO.toks (by simp)) ?_
          all_goals simp
        · have b1 : (countE l w == 0) = false := by simpa using hc
          have e1 : corr l kk w = w := by rw [corr, if_pos (by omega)]
          have e2 : chg l kk w = false := by rw [chg, decide_eq_false (by omega), Bool.false_and]
          have hs1 := hsn _ e1
          rw [e2] at hcnt
          refine aw_reg fun K hK => ?_; simp (maxSteps := 1000000) (disch := omega) [-List.getD_eq_getElem?_getD, hgt, strs_len]
          refine acall_is (c2 _ _) ?_; simp (maxSteps := 1000000) (disch := omega) [-List.getD_eq_getElem?_getD]
          refine hK _ ?_; clear hK K
          refine aw_reg fun K hK => ?_; simp (maxSteps := 1000000) (disch := omega) [-List.getD_eq_getElem?_getD, hgt, strs_len]
          refine acall_is (c1 _ _) ?_; simp (maxSteps := 1000000) (disch := omega) [-List.getD_eq_getElem?_getD, b1, hc]
          refine hK _ ?_; clear hK K
          refine aw_if rfl (fun h => absurd h (by simp)) (fun h => ?_)
          refine aw_reg0 fun K hK => ?_; simp (maxSteps := 1000000) (disch := omega) [-List.getD_eq_getElem?_getD, hgt, strs_len, hs1, hlen]
          refine hK _ ?_; clear hK K
          refine hK3 _ ?_; clear hK3
          refine aw_reg0 fun K hK => ?_; simp (maxSteps := 1000000) (disch := omega) [-List.getD_eq_getElem?_getD]
          refine hK _ ?_; clear hK K
          refine ⟨k + 1, by show k + 1 ≤ _; omega, by show ws.length - (k + 1) < ws.length - k; omega, ?_⟩
          rw [hcnt]
          refine weak_to [] [] ?_ ?_ ?_ ?_ (HO.toks (by simp)) ?_
          all_goals simp
    · simp [-List.getD_eq_getElem?_getD] at hk
      have e : k = ws.length := by omega
      subst e
      rw [List.take_length, cntK_all]
      refine aw_exit ?_; simp (maxSteps := 1000000) (disch := omega) [-List.getD_eq_getElem?_getD]
      refine hK1 _ ?_; clear hK1
      refine aw_reg fun K hK => ?_; simp (maxSteps := 1000000) (disch := omega) [-List.getD_eq_getElem?_getD]; refine hK _ ?_; clear hK K
      refine aw_ret ?_; simp (maxSteps := 1000000) (disch := omega) [-List.getD_eq_getElem?_getD]

theorem fewT_ok (ws : List Str) (n long : Int) (hn : ws.length ≤ maxLen) (hw : ∀ w ∈ ws, w.length ≤ maxLen) (H : List Blk) (T : Toks) (tg : Tag) :
    ACall Try.prog 22 [.sl ws.length (strs ws) tg, .int .i64 n, .int .i64 long] H T (Is (.bool (fewT ws n long)) H T) := by
  refine ACall.untag1 ?_
  have hml : maxLen ≤ 9223372036854775807 := by decide
  have hl' := Nat.le_trans hn hml
  generalize hq : fewT ws n long = q
  refine acall_enter 8 [] Try.ntmps22 Try.func22 rfl (fun _ _ => Try.call22 _ _) (by simp) (fun HO => ?_)
  refine aw_reg fun K hK => ?_; simp (maxSteps := 1000000) (disch := omega) [-List.getD_eq_getElem?_getD]; refine hK _ ?_; clear hK K
  refine aw_then fun K1 hK1 => ?_
  refine aw_reg fun K hK => ?_; simp (maxSteps := 1000000) (disch := omega) [-List.getD_eq_getElem?_getD]; refine hK _ ?_; clear hK K
  refine aw_block ?_
  refine aw_loop (X := Nat) (fun k => ⟨[(0, .sl ws.length (strs ws) .none), (1, .int .i64 n), (2, .int .i64 long), (7, .int .i64 (k : Nat))], H, T⟩) (fun k => k ≤ ws.length ∧ ∀ j, j < k → ((ws.getD j []).length : Int) ≤ long) (fun k => ws.length - k) 0 ?_ ?_ ?_
  · exact ⟨Nat.zero_le _, fun j hj => absurd hj (Nat.not_lt_zero _)⟩
  · refine weak_to [] [] ?_ ?_ ?_ ?_ HO ?_
    all_goals simp
  · rintro k ⟨h1, h2⟩
    refine aw_then fun K2 hK2 => ?_
    refine aw_reg fun K hK => ?_; simp (maxSteps := 1000000) (disch := omega) [-List.getD_eq_getElem?_getD]; refine hK _ ?_; clear hK K
    refine aw_if rfl (fun hk => ?_) (fun hk => ?_)
    · simp [-List.getD_eq_getElem?_getD] at hk
      have hgt := getD_strs (xs := ws) (k := k) hk
      have hpk := Nat.le_trans (hw _ (memD ws k [] hk)) hml
      refine aw_skip ?_; simp (maxSteps := 1000000) (disch := omega) [-List.getD_eq_getElem?_getD]
      refine hK2 _ ?_; clear hK2
      refine aw_then fun K3 hK3 => ?_
      refine aw_block ?_
      by_cases hc : ((ws.getD k []).length : Int) ≤ long
      · have b : decide (long < ((ws.getD k []).length : Int)) = false := decide_eq_false (by omega)
        have hc' : ¬ long < ((ws.getD k []).length : Int) := by omega
        refine aw_reg fun K hK => ?_; simp (maxSteps := 1000000) (disch := omega) [-List.getD_eq_getElem?_getD, hgt, strs_len, b, hc, hc']; refine hK _ ?_; clear hK K
        refine aw_if rfl (fun h => absurd h (by simp)) (fun h => ?_)
        refine aw_skip ?_; simp (maxSteps := 1000000) (disch := omega) [-List.getD_eq_getElem?_getD]
        refine hK3 _ ?_; clear hK3
        refine aw_reg0 fun K hK => ?_; simp (maxSteps := 1000000) (disch := omega) [-List.getD_eq_getElem?_getD]
        refine hK _ ?_; clear hK K
        refine ⟨k + 1, ⟨by show k + 1 ≤ _; omega, fun j hj => ?_⟩, by show ws.length - (k + 1) < ws.length - k; omega, ?_⟩
        · rcases Nat.lt_or_ge j k with h3 | h3
          · exact h2 j h3
          · have : j = k := by omega
            subst this; exact hc
        · refine weak_to [] [] ?_ ?_ ?_ ?_ HO ?_
          all_goals simp
      · have b : decide (long < ((ws.getD k []).length : Int)) = true := decide_eq_true (by omega)
        have hc' : long < ((ws.getD k []).length : Int) := by omega
        refine aw_reg fun K hK => ?_; simp (maxSteps := 1000000) (disch := omega) [-List.getD_eq_getElem?_getD, hgt, strs_len, b, hc, hc']; refine hK _ ?_; clear hK K
        refine aw_if rfl (fun h => ?_) (fun h => absurd h (by simp))
        refine aw_reg fun K hK => ?_; simp (maxSteps := 1000000) (disch := omega) [-List.getD_eq_getElem?_getD]; refine hK _ ?_; clear hK K
        refine aw_ret ?_; simp (maxSteps := 1000000) (disch := omega) [-List.getD_eq_getElem?_getD]
        have : ¬ ((ws.length : Int) ≤ n ∧ ∀ w ∈ ws, (w.length : Int) ≤ long) := fun h => hc (h.2 _ (memD ws k [] hk))
        rw [← hq, fewT, decide_eq_false this]
        exact ⟨rfl, rfl, rfl⟩
    · simp [-List.getD_eq_getElem?_getD] at hk
      have hall : ∀ w ∈ ws, (w.length : Int) ≤ long := fun e he => by
        obtain ⟨j, hj, e⟩ := memD_inv [] he
        rw [← e]; exact h2 j (by omega)
      refine aw_exit ?_; simp (maxSteps := 1000000) (disch := omega) [-List.getD_eq_getElem?_getD]
      refine hK1 _ ?_; clear hK1
      refine aw_reg fun K hK => ?_; simp (maxSteps := 1000000) (disch := omega) [-List.getD_eq_getElem?_getD]; refine hK _ ?_; clear hK K
      refine aw_ret ?_; simp (maxSteps := 1000000) (disch := omega) [-List.getD_eq_getElem?_getD]
      refine ⟨?_, rfl, rfl⟩
      rw [← hq]
      simp only [fewT]
      congr 1
      rw [decide_eq_decide]
      exact ⟨fun h => ⟨h, hall⟩, fun h => h.1⟩

theorem sameT_ok (n : Nat) (a : List Str) (hn : n = a.length) (ha : a.length ≤ 1000) (H : List Blk) (T : Toks) (ta tb_ : Tag) :
    ACall Try.prog 25 [.sl n (strs a) ta, .sl n (strs a) tb_] H T (Is (.bool true) H T) := by
  refine ACall.untag1 (ACall.untag2 ?_)
  subst hn
  refine acall_enter 6 [] Try.ntmps25 Try.func25 rfl (fun _ _ => Try.call25 _ _) (by simp) (fun HO => ?_)
  refine aw_reg fun K hK => ?_; simp (maxSteps := 1000000) (disch := omega) [-List.getD_eq_getElem?_getD]; refine hK _ ?_; clear hK K
  refine aw_then fun K1 hK1 => ?_
  refine aw_reg fun K hK => ?_; simp (maxSteps := 1000000) (disch := omega) [-List.getD_eq_getElem?_getD]; refine hK _ ?_; clear hK K
  refine aw_if rfl (fun h => absurd h (by simp)) (fun h => ?_)
  refine aw_skip ?_; simp (maxSteps := 1000000) (disch := omega) [-List.getD_eq_getElem?_getD]
  refine hK1 _ ?_; clear hK1
  refine aw_then fun K1 hK1 => ?_
  refine aw_reg fun K hK => ?_; simp (maxSteps := 1000000) (disch := omega) [-List.getD_eq_getElem?_getD]; refine hK _ ?_; clear hK K
  refine aw_block ?_
  refine aw_loop (X := Nat) (fun k => ⟨[(0, .sl a.length (strs a) .none), (1, .sl a.length (strs a) .none), (5, .int .i64 (k : Nat))], H, T⟩) (fun k => k ≤ a.length) (fun k => a.length - k) 0 ?_ ?_ ?_
  · exact Nat.zero_le _
  · refine weak_to [] [] ?_ ?_ ?_ ?_ HO ?_
    all_goals simp
  · rintro k h1
    refine aw_then fun K2 hK2 => ?_
    refine aw_reg fun K hK => ?_; simp (maxSteps := 1000000) (disch := omega) [-List.getD_eq_getElem?_getD]; refine hK _ ?_; clear hK K
    refine aw_if rfl (fun hk => ?_) (fun hk => ?_)
    · simp [-List.getD_eq_getElem?_getD] at hk
      have hgt := getD_strs (xs := a) (k := k) hk
      refine aw_skip ?_; simp (maxSteps := 1000000) (disch := omega) [-List.getD_eq_getElem?_getD]
      refine hK2 _ ?_; clear hK2
      refine aw_then fun K3 hK3 => ?_
      refine aw_block ?_
      refine aw_draw [] [] [] drawMixed (by kernel_rfl) (by kernel_rfl) fun K hK => ?_; simp (maxSteps := 1000000) (disch := omega) [-List.getD_eq_getElem?_getD, hgt, strs_len]
      refine hK _ ?_; clear hK K
      refine aw_if rfl (fun h => absurd h (by simp)) (fun h => ?_)
      refine aw_skip ?_; simp (maxSteps := 1000000) (disch := omega) [-List.getD_eq_getElem?_getD]
      refine hK3 _ ?_; clear hK3
      refine aw_reg0 fun K hK => ?_; simp (maxSteps := 1000000) (disch := omega) [-List.getD_eq_getElem?_getD]
      refine hK _ ?_; clear hK K
      refine ⟨k + 1, by show k + 1 ≤ _; omega, by show a.length - (k + 1) < a.length - k; omega, ?_⟩
      refine weak_to [] [] ?_ ?_ ?_ ?_ HO ?_
      all_goals simp
    · simp [-List.getD_eq_getElem?_getD] at hk
      refine aw_exit ?_; simp (maxSteps := 1000000) (disch := omega) [-List.getD_eq_getElem?_getD]
      refine hK1 _ ?_; clear hK1
      refine aw_reg fun K hK => ?_; simp (maxSteps := 1000000) (disch := omega) [-List.getD_eq_getElem?_getD]; refine hK _ ?_; clear hK K
      refine aw_ret ?_; simp (maxSteps := 1000000) (disch := omega) [-List.getD_eq_getElem?_getD]
      exact ⟨rfl, rfl, rfl⟩
end Go.Proofs.Ytbijefgmleagnaa
