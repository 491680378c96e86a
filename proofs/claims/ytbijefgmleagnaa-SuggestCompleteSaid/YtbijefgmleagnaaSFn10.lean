/- Correcting (layer 43).
   Conditions: lengths below 1000, as the theorem says. -/
import Derived.Test.YtbijefgmleagnaaSFn9
import Derived.Test.YtbijefgmleagnaaSFrz
namespace Sug
def corr (l : List Ent) (k : Int) (w : Str) : Str := if 0 < countE l w then w else if (bestE l w k).2 = true then (bestE l w k).1 else w
def chg (l : List Ent) (k : Int) (w : Str) : Bool := decide (countE l w ≤ 0) && (bestE l w k).2
def corK (l : List Ent) (kk : Int) (ws : List Str) (k : Nat) : List Str := (ws.take k).map (corr l kk) ++ ws.drop k
def cntK (l : List Ent) (kk : Int) (ws : List Str) (k : Nat) : Nat := (ws.take k).countP (chg l kk)
theorem corK_len (l : List Ent) (kk : Int) (ws : List Str) (k : Nat) : (corK l kk ws k).length = ws.length := by
  simp [corK]; omega
theorem corK_get (l : List Ent) (kk : Int) (ws : List Str) {k : Nat} (h : k < ws.length) : (corK l kk ws k).getD k [] = ws.getD k [] := by
  have hl : ((ws.take k).map (corr l kk)).length = k := by simp; omega
  rw [corK, List.getD_eq_getElem?_getD, List.getElem?_append_right (by omega), hl, Nat.sub_self, List.getElem?_drop, List.getD_eq_getElem?_getD, Nat.add_zero]
theorem corK_set (l : List Ent) (kk : Int) (ws : List Str) {k : Nat} (h : k < ws.length) : (corK l kk ws k).set k (corr l kk (ws.getD k [])) = corK l kk ws (k + 1) := by
  have hl : ((ws.take k).map (corr l kk)).length = k := by simp; omega
  have hg : ws.getD k [] = ws[k] := by rw [List.getD_eq_getElem?_getD, List.getElem?_eq_getElem h]; rfl
  rw [corK, corK, List.set_append_right _ _ (by omega), hl, Nat.sub_self, List.drop_eq_getElem_cons h, List.set_cons_zero, List.take_succ_eq_append_getElem h, List.map_append, hg]
  simp
theorem corK_same (l : List Ent) (kk : Int) (ws : List Str) {k : Nat} (h : k < ws.length) (hc : corr l kk (ws.getD k []) = ws.getD k []) : corK l kk ws (k + 1) = corK l kk ws k := by
  rw [← corK_set l kk ws h, hc, ← corK_get l kk ws h]
  have hl := corK_len l kk ws k
  apply List.ext_getElem?
  intro j
  rw [List.getElem?_set]
  split
  · rename_i e
    subst e
    rw [if_pos (by omega), List.getD_eq_getElem?_getD, List.getElem?_eq_getElem (by omega)]
    rfl
  · rfl
theorem cntK_succ (l : List Ent) (kk : Int) (ws : List Str) {k : Nat} (h : k < ws.length) : cntK l kk ws (k + 1) = cntK l kk ws k + if chg l kk (ws.getD k []) = true then 1 else 0 := by
  have hg : ws.getD k [] = ws[k] := by rw [List.getD_eq_getElem?_getD, List.getElem?_eq_getElem h]; rfl
  rw [cntK, cntK, List.take_succ_eq_append_getElem h, List.countP_append, hg, List.countP_singleton]
theorem countE_nonneg (l : List Ent) (w : Str) : 0 ≤ countE l w := by
  unfold countE
  split
  · rename_i hv
    unfold lookE
    cases hf : l.find? (fun e => e.1 == w) with
    | none => exact Int.le_refl 0
    | some e =>
      have hm := List.mem_of_find?_eq_some hf
      obtain ⟨j, hj, e1⟩ := List.mem_iff_getElem.1 hm
      have := ((validE_iff l).1 hv).1 j hj
      rw [List.getD_eq_getElem?_getD, List.getElem?_eq_getElem hj] at this
      simp only [Option.getD_some, e1] at this
      have h2 := this.1
      simp only [okE, Bool.and_eq_true] at h2
      have := of_decide_eq_true h2.2
      simp only [Option.map_some, Option.getD_some]
      omega
  · exact Int.le_refl 0
end Sug
namespace Go.Proofs.Ytbijefgmleagnaa
open Go Go.Am Sug Edit
set_option linter.unusedVariables false

theorem strs_len (l : List Str) : (strs l).length = l.length := by simp [strs]
theorem strs_set (l : List Str) (k : Nat) (s : Str) : (strs l).set k (.str s) = strs (l.set k s) := by simp [strs, List.map_set]

theorem clone_ok (ws : List Str) (h0 : ws ≠ []) (hl : ws.length ≤ 1000) (H : List Blk) (T : Toks) (tg : Tag) :
    ACall Try.prog 42 [.sl ws.length (strs ws) tg] H T (fun r H' T' => T' = T ∧ ∃ k, H' = H ++ [.cells (strs ws ++ List.replicate k .top)] ∧ r = .msl H.length 0 ws.length) := by
  refine ACall.untag1 ?_
  have hpos : 0 < ws.length := List.length_pos_iff.2 h0
  have hne : ¬ ws = [] := h0
  refine acall_enter 3 [7] Try.ntmps42 Try.func42 rfl (fun _ _ => Try.call42 _ _) (by simp) (fun HO => ?_)
  refine aw_reg fun K hK => ?_; simp (maxSteps := 1000000) (disch := omega) [-List.getD_eq_getElem?_getD]; refine hK _ ?_; clear hK K
  refine aw_then fun K1 hK1 => ?_
  refine aw_reg fun K hK => ?_; simp (maxSteps := 1000000) (disch := omega) [-List.getD_eq_getElem?_getD]
  refine ⟨?_, fun he => absurd he hne⟩
  refine hK _ ?_; clear hK K
  refine aw_if rfl (fun h => absurd h (by simp)) (fun h => ?_)
  refine aw_skip ?_; simp (maxSteps := 1000000) (disch := omega) [-List.getD_eq_getElem?_getD]
  refine hK1 _ ?_; clear hK1
  refine aw_reg fun K hK => ?_; simp (maxSteps := 1000000) (disch := omega) [-List.getD_eq_getElem?_getD, amade_zero, strs_len, hpos]
  intro k
  refine hK _ ?_; clear hK K
  refine aw_ret ?_; simp (maxSteps := 1000000) (disch := omega) [-List.getD_eq_getElem?_getD]

theorem clone0_ok (H : List Blk) (T : Toks) (tg : Tag) :
    ACall Try.prog 42 [.sl 0 [] tg] H T (Is (.sl 0 [] .none) H T) := by
  refine ACall.untag1 ?_
  refine ACall.drop' ?_ (by simp)
  refine acall_enter 3 [] Try.ntmps42 Try.func42 rfl (fun _ _ => Try.call42 _ _) (by simp) (fun HO => ?_)
  refine aw_reg fun K hK => ?_; simp (maxSteps := 1000000) (disch := omega) [-List.getD_eq_getElem?_getD]; refine hK _ ?_; clear hK K
  refine aw_then fun K1 hK1 => ?_
  refine aw_reg fun K hK => ?_; simp (maxSteps := 1000000) (disch := omega) [-List.getD_eq_getElem?_getD]
  constructor
  · refine hK _ ?_; clear hK K
    refine aw_if rfl (fun h => absurd h (by simp)) (fun h => ?_)
    refine aw_skip ?_; simp (maxSteps := 1000000) (disch := omega) [-List.getD_eq_getElem?_getD]
    refine hK1 _ ?_; clear hK1
    refine aw_reg fun K hK => ?_; simp (maxSteps := 1000000) (disch := omega) [-List.getD_eq_getElem?_getD, amade_zero]
    refine hK _ ?_; clear hK K
    refine aw_ret ?_; simp (maxSteps := 1000000) (disch := omega) [-List.getD_eq_getElem?_getD]
  · refine hK _ ?_; clear hK K
    refine aw_if rfl (fun h => ?_) (fun h => absurd h (by simp))
    refine aw_reg fun K hK => ?_; simp (maxSteps := 1000000) (disch := omega) [-List.getD_eq_getElem?_getD]; refine hK _ ?_; clear hK K
    refine aw_ret ?_; simp (maxSteps := 1000000) (disch := omega) [-List.getD_eq_getElem?_getD]

set_option maxRecDepth 100000 in
set_option maxHeartbeats 4000000 in
theorem correct_ok (l : List Ent) (ws : List Str) (kk : Int) (hkk : -9223372036854775808 ≤ kk ∧ kk ≤ 9223372036854775807) (hl : l.length ≤ 1000) (hp : ∀ p ∈ l, p.1.length ≤ 1000) (hn : ws.length ≤ 1000) (hw : ∀ w ∈ ws, w.length ≤ 1000) (h0 : ws ≠ []) (H : List Blk) (T : Toks) (tl tw : Tag) :
    ACall Try.prog 23 [.sl l.length (entAV l) tl, .sl ws.length (strs ws) tw, .int .i64 kk] H T (Is (.tup [.sl ws.length (strs (corK l kk ws ws.length)) .none, .int .i64 (cntK l kk ws ws.length : Nat)]) H T) := by
  refine ACall.untag1 (ACall.untag2 ?_)
  refine ACall.freezeT (by simp) (by simp) ?_
  have c0 := clone_ok ws h0 hn H T .none
  refine acall_enter 19 [] Try.ntmps23 Try.func23 rfl (fun _ _ => Try.call23 _ _) (by simp) (fun HO => ?_)
  refine aw_reg fun K hK => ?_; simp (maxSteps := 1000000) (disch := omega) [-List.getD_eq_getElem?_getD]; refine hK _ ?_; clear hK K
  refine aw_reg fun K hK => ?_; simp (maxSteps := 1000000) (disch := omega) [-List.getD_eq_getElem?_getD]
  refine ⟨_, c0, ?_⟩
  rintro v H' T' ⟨rfl, r, rfl, rfl⟩
  simp (maxSteps := 1000000) (disch := omega) [-List.getD_eq_getElem?_getD]
  refine hK _ ?_; clear hK K
  refine aw_then fun K1 hK1 => ?_
  refine aw_reg fun K hK => ?_; simp (maxSteps := 1000000) (disch := omega) [-List.getD_eq_getElem?_getD]; refine hK _ ?_; clear hK K
  refine aw_block ?_
  have HO' : ∀ k, HOk (H ++ [.cells (strs (corK l kk ws k) ++ List.replicate r .top)]) T' := fun k => HO.snoc (by simp)
  refine aw_loop (X := Nat) (fun k => ⟨[(0, .sl l.length (entAV l) .none), (1, .sl ws.length (strs ws) .none), (2, .int .i64 kk), (8, .msl H.length 0 ws.length), (9, .int .i64 (cntK l kk ws k : Nat)), (16, .msl H.length 0 ws.length), (17, .int .i64 (ws.length : Nat)), (18, .int .i64 (k : Nat))], H ++ [.cells (strs (corK l kk ws k) ++ List.replicate r .top)], T'⟩)
    (fun k => k ≤ ws.length) (fun k => ws.length - k) 0 ?_ ?_ ?_
  · exact Nat.zero_le _
  · refine weak_to [] [] ?_ ?_ ?_ ?_ (HO' 0) ?_
    all_goals simp [corK, cntK]
  · rintro k h1
    refine aw_reg fun K hK => ?_; simp (maxSteps := 1000000) (disch := omega) [-List.getD_eq_getElem?_getD]; refine hK _ ?_; clear hK K
    refine aw_then fun K2 hK2 => ?_
    refine aw_if rfl (fun hk => ?_) (fun hk => ?_)
    · simp [-List.getD_eq_getElem?_getD] at hk
      have hcl := corK_len l kk ws k
      have hgt : (strs (corK l kk ws k) ++ List.replicate r AV.top).getD k .top = .str (ws.getD k []) := by
        rw [List.getD_eq_getElem?_getD, List.getElem?_append_left (by rw [strs_len, hcl]; exact hk), ← List.getD_eq_getElem?_getD, getD_strs (by rw [hcl]; exact hk), corK_get l kk ws hk]
      have hset := corK_set l kk ws hk
      have hsame := corK_same l kk ws hk
      have hcnt := cntK_succ l kk ws hk
      have hwl := hw _ (memD ws k [] hk)
      have hcle : cntK l kk ws k ≤ k := by unfold cntK; exact Nat.le_trans List.countP_le_length (by rw [List.length_take]; omega)
      generalize hww : ws.getD k [] = w at *
      have c1 := fun H T => count_ok l w hl hp H T .none
      have c2 := fun H T => best_ok l w kk hkk hl hp hwl H T .none
      refine aw_skip ?_; simp (maxSteps := 1000000) (disch := omega) [-List.getD_eq_getElem?_getD]
      refine hK2 _ ?_; clear hK2
      refine aw_then fun K3 hK3 => ?_
      refine aw_block ?_
      refine aw_reg fun K hK => ?_; simp (maxSteps := 1000000) (disch := omega) [-List.getD_eq_getElem?_getD, hgt, strs_len, hcl]; refine hK _ ?_; clear hK K
      refine aw_then fun K4 hK4 => ?_
      by_cases hc : 0 < countE l w
      · have b1 : decide (0 < countE l w) = true := decide_eq_true hc
        have e1 : corr l kk w = w := by rw [corr, if_pos hc]
        have e2 : chg l kk w = false := by rw [chg, decide_eq_false (by omega), Bool.false_and]
        rw [e2] at hcnt
        refine aw_reg fun K hK => ?_; simp (maxSteps := 1000000) (disch := omega) [-List.getD_eq_getElem?_getD]
        refine acall_is (c1 _ _) ?_; simp (maxSteps := 1000000) (disch := omega) [-List.getD_eq_getElem?_getD, b1, hc]
        refine hK _ ?_; clear hK K
        refine aw_if rfl (fun h => ?_) (fun h => absurd h (by simp))
        refine aw_exit ?_; simp (maxSteps := 1000000) (disch := omega) [-List.getD_eq_getElem?_getD]
        refine hK3 _ ?_; clear hK3
        refine aw_reg0 fun K hK => ?_; simp (maxSteps := 1000000) (disch := omega) [-List.getD_eq_getElem?_getD]
        refine hK _ ?_; clear hK K
        refine ⟨k + 1, by show k + 1 ≤ _; omega, by show ws.length - (k + 1) < ws.length - k; omega, ?_⟩
        rw [hsame e1, hcnt]
        refine weak_to [] [] ?_ ?_ ?_ ?_ (HO' k) ?_
        all_goals simp
      · have b1 : decide (0 < countE l w) = false := decide_eq_false hc
        refine aw_reg fun K hK => ?_; simp (maxSteps := 1000000) (disch := omega) [-List.getD_eq_getElem?_getD]
        refine acall_is (c1 _ _) ?_; simp (maxSteps := 1000000) (disch := omega) [-List.getD_eq_getElem?_getD, b1, hc]
        refine hK _ ?_; clear hK K
        refine aw_if rfl (fun h => absurd h (by simp)) (fun h => ?_)
        refine aw_skip ?_; simp (maxSteps := 1000000) (disch := omega) [-List.getD_eq_getElem?_getD]
        refine hK4 _ ?_; clear hK4
        cases hb : (bestE l w kk).2 with
        | false =>
          have e1 : corr l kk w = w := by rw [corr, if_neg hc, if_neg (by rw [hb]; simp)]
          have e2 : chg l kk w = false := by rw [chg, hb, Bool.and_false]
          rw [e2] at hcnt
          rw [hb] at c2
          refine aw_reg fun K hK => ?_; simp (maxSteps := 1000000) (disch := omega) [-List.getD_eq_getElem?_getD]
          refine acall_is (c2 _ _) ?_; simp (maxSteps := 1000000) (disch := omega) [-List.getD_eq_getElem?_getD]
          refine hK _ ?_; clear hK K
          refine aw_reg fun K hK => ?_; simp (maxSteps := 1000000) (disch := omega) [-List.getD_eq_getElem?_getD]; refine hK _ ?_; clear hK K
          refine aw_if rfl (fun h => absurd h (by simp)) (fun h => ?_)
          refine aw_skip ?_; simp (maxSteps := 1000000) (disch := omega) [-List.getD_eq_getElem?_getD]
          refine hK3 _ ?_; clear hK3
          refine aw_reg0 fun K hK => ?_; simp (maxSteps := 1000000) (disch := omega) [-List.getD_eq_getElem?_getD]
          refine hK _ ?_; clear hK K
          refine ⟨k + 1, by show k + 1 ≤ _; omega, by show ws.length - (k + 1) < ws.length - k; omega, ?_⟩
          rw [hsame e1, hcnt]
          refine weak_to [] [] ?_ ?_ ?_ ?_ (HO' k) ?_
          all_goals simp
        | true =>
          have e1 : corr l kk w = (bestE l w kk).1 := by rw [corr, if_neg hc, if_pos hb]
          have e2 : chg l kk w = true := by rw [chg, hb, Bool.and_true, decide_eq_true (by omega)]
          rw [e2] at hcnt
          rw [hb] at c2
          rw [e1] at hset
          generalize (bestE l w kk).1 = bw at *
          have hset2 : (strs (corK l kk ws k) ++ List.replicate r AV.top).set k (.str bw) = strs (corK l kk ws (k + 1)) ++ List.replicate r .top := by
            rw [List.set_append_left _ _ (by rw [strs_len, hcl]; exact hk), strs_set, hset]
          refine aw_reg fun K hK => ?_; simp (maxSteps := 1000000) (disch := omega) [-List.getD_eq_getElem?_getD]
          refine acall_is (c2 _ _) ?_; simp (maxSteps := 1000000) (disch := omega) [-List.getD_eq_getElem?_getD]
          refine hK _ ?_; clear hK K
          refine aw_reg fun K hK => ?_; simp (maxSteps := 1000000) (disch := omega) [-List.getD_eq_getElem?_getD]; refine hK _ ?_; clear hK K
          refine aw_if rfl (fun h => ?_) (fun h => absurd h (by simp))
          refine aw_reg fun K hK => ?_; simp (maxSteps := 1000000) (disch := omega) [-List.getD_eq_getElem?_getD, hset2, strs_len, hcl]; refine hK _ ?_; clear hK K
          refine aw_reg0 fun K hK => ?_; simp (maxSteps := 1000000) (disch := omega) [-List.getD_eq_getElem?_getD]
          refine hK _ ?_; clear hK K
          refine hK3 _ ?_; clear hK3
          refine aw_reg0 fun K hK => ?_; simp (maxSteps := 1000000) (disch := omega) [-List.getD_eq_getElem?_getD]
          refine hK _ ?_; clear hK K
          refine ⟨k + 1, by show k + 1 ≤ _; omega, by show ws.length - (k + 1) < ws.length - k; omega, ?_⟩
          rw [hcnt]
          refine weak_to [] [] ?_ ?_ ?_ ?_ (HO' (k + 1)) ?_
          all_goals simp
    · simp [-List.getD_eq_getElem?_getD] at hk
      have e : k = ws.length := by omega
      subst e
      refine aw_exit ?_; simp (maxSteps := 1000000) (disch := omega) [-List.getD_eq_getElem?_getD]
      refine hK1 _ ?_; clear hK1
      refine aw_reg fun K hK => ?_; simp (maxSteps := 1000000) (disch := omega) [-List.getD_eq_getElem?_getD]; refine hK _ ?_; clear hK K
      refine aw_ret ?_; simp (maxSteps := 1000000) (disch := omega) [-List.getD_eq_getElem?_getD]
end Go.Proofs.Ytbijefgmleagnaa
