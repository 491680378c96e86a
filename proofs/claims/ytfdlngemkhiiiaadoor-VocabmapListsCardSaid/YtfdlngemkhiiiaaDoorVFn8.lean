/- The reference's inverse; the mappings of a term; the reference's text (layer 26).
   Conditions: lengths below 2^20, as each theorem says. -/
import Derived.Test.YtfdlngemkhiiiaaDoorVLn
import Derived.Test.YtfdlngemkhiiiaaDoorVOf
namespace Voc
/-- The mappings of a term among the first ones. -/
def trT (v : Bool) (l : List Mp) (id : Int) (i : Nat) : List Mp := if v = true then (l.take i).filter fun x => x.1 == id else []
theorem trT_zero (v : Bool) (l : List Mp) (id : Int) : trT v l id 0 = [] := by unfold trT; split <;> simp
theorem trT_off (l : List Mp) (id : Int) (i : Nat) : trT false l id i = [] := rfl
theorem trT_yes {l : List Mp} {id : Int} {i : Nat} (h : i < l.length) (he : (l.getD i d0).1 = id) : trT true l id (i + 1) = trT true l id i ++ [l.getD i d0] := by
  unfold trT
  rw [if_pos rfl, if_pos rfl, take_succD d0 h, List.filter_append]
  congr 1
  simp [he, -List.getD_eq_getElem?_getD]
theorem trT_no {l : List Mp} {id : Int} {i : Nat} (h : i < l.length) (he : (l.getD i d0).1 ≠ id) : trT true l id (i + 1) = trT true l id i := by
  unfold trT
  rw [if_pos rfl, if_pos rfl, take_succD d0 h, List.filter_append]
  simp [he, -List.getD_eq_getElem?_getD]
theorem trT_le (v : Bool) (l : List Mp) (id : Int) (i : Nat) : (trT v l id i).length ≤ l.length := by
  unfold trT
  split
  · exact Nat.le_trans (List.length_filter_le _ _) (by rw [List.length_take]; omega)
  · simp
end Voc
namespace Go.Proofs.YtfdlngemkhiiiaaDoor
open Go Go.Am Go.Shelf Voc
set_option linter.unusedVariables false

theorem few_ok (l : List Mp) (H : List Blk) (T : Toks) (tg : Tag) : ACall Tryd.prog 5 [.sl l.length (mpAV l) tg] H T (Is (.bool (decide (l.length ≤ 12) || decide (499 ≤ l.length) && decide (l.length ≤ 502))) H T) := by
  refine ACall.untag1 ?_
  by_cases h1 : l.length ≤ 12
  · have b1 : decide ((l.length : Int) ≤ 12) = true := decide_eq_true (by omega)
    rw [decide_eq_true h1]
    refine acall_enter 3 [] Tryd.ntmps5 Tryd.func5 rfl (fun _ _ => Tryd.call5 _ _) (by simp) (fun HO => ?_)
    refine aw_reg fun K hK => ?_; simp (maxSteps := 1000000) (disch := omega) [-List.getD_eq_getElem?_getD]; refine hK _ ?_; clear hK K
    refine aw_reg fun K hK => ?_; simp (maxSteps := 1000000) (disch := omega) [-List.getD_eq_getElem?_getD, b1, h1]; refine hK _ ?_; clear hK K
    refine aw_ret ?_; simp (maxSteps := 1000000) (disch := omega) [-List.getD_eq_getElem?_getD]
    exact ⟨rfl, rfl, rfl⟩
  · have b1 : decide ((l.length : Int) ≤ 12) = false := decide_eq_false (by omega)
    rw [decide_eq_false h1]
    by_cases h2 : 499 ≤ l.length
    · have b2 : decide ((499 : Int) ≤ l.length) = true := decide_eq_true (by omega)
      rw [decide_eq_true h2]
      have b3 : decide ((l.length : Int) ≤ 502) = decide (l.length ≤ 502) := by rw [decide_eq_decide]; omega
      generalize hq : decide (l.length ≤ 502) = q at *
      refine acall_enter 3 [] Tryd.ntmps5 Tryd.func5 rfl (fun _ _ => Tryd.call5 _ _) (by simp) (fun HO => ?_)
      refine aw_reg fun K hK => ?_; simp (maxSteps := 1000000) (disch := omega) [-List.getD_eq_getElem?_getD]; refine hK _ ?_; clear hK K
      refine aw_reg fun K hK => ?_; simp (maxSteps := 1000000) (disch := omega) [-List.getD_eq_getElem?_getD, b1, h1, b2, h2, b3, hq]; refine hK _ ?_; clear hK K
      refine aw_ret ?_; simp (maxSteps := 1000000) (disch := omega) [-List.getD_eq_getElem?_getD]
      exact ⟨rfl, rfl, rfl⟩
    · have b2 : decide ((499 : Int) ≤ l.length) = false := decide_eq_false (by omega)
      rw [decide_eq_false h2]
      refine acall_enter 3 [] Tryd.ntmps5 Tryd.func5 rfl (fun _ _ => Tryd.call5 _ _) (by simp) (fun HO => ?_)
      refine aw_reg fun K hK => ?_; simp (maxSteps := 1000000) (disch := omega) [-List.getD_eq_getElem?_getD]; refine hK _ ?_; clear hK K
      refine aw_reg fun K hK => ?_; simp (maxSteps := 1000000) (disch := omega) [-List.getD_eq_getElem?_getD, b1, h1, b2, h2]; refine hK _ ?_; clear hK K
      refine aw_ret ?_; simp (maxSteps := 1000000) (disch := omega) [-List.getD_eq_getElem?_getD]
      exact ⟨rfl, rfl, rfl⟩

set_option maxRecDepth 100000 in
set_option maxHeartbeats 4000000 in
theorem turned_ok (x : Mp) (H : List Blk) (T : Toks) : ACall Tryd.prog 27 [.agg (mc x)] H T (Is (.agg (mc (invM x))) H T) := by
  refine ACall.drop' ?_ (by simp [mc])
  obtain ⟨x1, x2, x3⟩ := x
  by_cases h2 : x3 = 2
  · subst h2
    simp only [mc]
    refine acall_enter 4 [] Tryd.ntmps27 Tryd.func27 rfl (fun _ _ => Tryd.call27 _ _) (by simp) (fun HO => ?_)
    refine aw_reg fun K hK => ?_; simp (maxSteps := 1000000) (disch := omega) [-List.getD_eq_getElem?_getD]; refine hK _ ?_; clear hK K
    refine aw_reg fun K hK => ?_; simp (maxSteps := 1000000) (disch := omega) [-List.getD_eq_getElem?_getD]; refine hK _ ?_; clear hK K
    refine aw_then fun K1 hK1 => ?_
    refine aw_reg fun K hK => ?_; simp (maxSteps := 1000000) (disch := omega) [-List.getD_eq_getElem?_getD]; refine hK _ ?_; clear hK K
    refine aw_if rfl (fun h => ?_) (fun h => absurd h (by simp))
    refine aw_reg0 fun K hK => ?_; simp (maxSteps := 1000000) (disch := omega) [-List.getD_eq_getElem?_getD]; refine hK _ ?_; clear hK K
    refine hK1 _ ?_; clear hK1
    refine aw_then fun K1 hK1 => ?_
    refine aw_reg fun K hK => ?_; simp (maxSteps := 1000000) (disch := omega) [-List.getD_eq_getElem?_getD]; refine hK _ ?_; clear hK K
    refine aw_if rfl (fun h => absurd h (by simp)) (fun h => ?_)
    refine aw_skip ?_; simp (maxSteps := 1000000) (disch := omega) [-List.getD_eq_getElem?_getD]
    refine hK1 _ ?_; clear hK1
    refine aw_reg fun K hK => ?_; simp (maxSteps := 1000000) (disch := omega) [-List.getD_eq_getElem?_getD]; refine hK _ ?_; clear hK K
    refine aw_ret ?_; simp (maxSteps := 1000000) (disch := omega) [-List.getD_eq_getElem?_getD]
    simp [mc, invM, opp]
  · have b2 : (x3 == 2) = false := beq_eq_false_iff_ne.2 h2
    by_cases h3 : x3 = 3
    · subst h3
      simp only [mc]
      refine acall_enter 4 [] Tryd.ntmps27 Tryd.func27 rfl (fun _ _ => Tryd.call27 _ _) (by simp) (fun HO => ?_)
      refine aw_reg fun K hK => ?_; simp (maxSteps := 1000000) (disch := omega) [-List.getD_eq_getElem?_getD]; refine hK _ ?_; clear hK K
      refine aw_reg fun K hK => ?_; simp (maxSteps := 1000000) (disch := omega) [-List.getD_eq_getElem?_getD]; refine hK _ ?_; clear hK K
      refine aw_then fun K1 hK1 => ?_
      refine aw_reg fun K hK => ?_; simp (maxSteps := 1000000) (disch := omega) [-List.getD_eq_getElem?_getD]; refine hK _ ?_; clear hK K
      refine aw_if rfl (fun h => absurd h (by simp)) (fun h => ?_)
      refine aw_skip ?_; simp (maxSteps := 1000000) (disch := omega) [-List.getD_eq_getElem?_getD]
      refine hK1 _ ?_; clear hK1
      refine aw_then fun K1 hK1 => ?_
      refine aw_reg fun K hK => ?_; simp (maxSteps := 1000000) (disch := omega) [-List.getD_eq_getElem?_getD]; refine hK _ ?_; clear hK K
      refine aw_if rfl (fun h => ?_) (fun h => absurd h (by simp))
      refine aw_reg0 fun K hK => ?_; simp (maxSteps := 1000000) (disch := omega) [-List.getD_eq_getElem?_getD]; refine hK _ ?_; clear hK K
      refine hK1 _ ?_; clear hK1
      refine aw_reg fun K hK => ?_; simp (maxSteps := 1000000) (disch := omega) [-List.getD_eq_getElem?_getD]; refine hK _ ?_; clear hK K
      refine aw_ret ?_; simp (maxSteps := 1000000) (disch := omega) [-List.getD_eq_getElem?_getD]
      simp [mc, invM, opp]
    · have b3 : (x3 == 3) = false := beq_eq_false_iff_ne.2 h3
      simp only [mc]
      refine acall_enter 4 [] Tryd.ntmps27 Tryd.func27 rfl (fun _ _ => Tryd.call27 _ _) (by simp) (fun HO => ?_)
      refine aw_reg fun K hK => ?_; simp (maxSteps := 1000000) (disch := omega) [-List.getD_eq_getElem?_getD]; refine hK _ ?_; clear hK K
      refine aw_reg fun K hK => ?_; simp (maxSteps := 1000000) (disch := omega) [-List.getD_eq_getElem?_getD]; refine hK _ ?_; clear hK K
      refine aw_then fun K1 hK1 => ?_
      refine aw_reg fun K hK => ?_; simp (maxSteps := 1000000) (disch := omega) [-List.getD_eq_getElem?_getD, b2, h2]; refine hK _ ?_; clear hK K
      refine aw_if rfl (fun h => absurd h (by simp)) (fun h => ?_)
      refine aw_skip ?_; simp (maxSteps := 1000000) (disch := omega) [-List.getD_eq_getElem?_getD]
      refine hK1 _ ?_; clear hK1
      refine aw_then fun K1 hK1 => ?_
      refine aw_reg fun K hK => ?_; simp (maxSteps := 1000000) (disch := omega) [-List.getD_eq_getElem?_getD, b3, h3]; refine hK _ ?_; clear hK K
      refine aw_if rfl (fun h => absurd h (by simp)) (fun h => ?_)
      refine aw_skip ?_; simp (maxSteps := 1000000) (disch := omega) [-List.getD_eq_getElem?_getD]
      refine hK1 _ ?_; clear hK1
      refine aw_reg fun K hK => ?_; simp (maxSteps := 1000000) (disch := omega) [-List.getD_eq_getElem?_getD]; refine hK _ ?_; clear hK K
      refine aw_ret ?_; simp (maxSteps := 1000000) (disch := omega) [-List.getD_eq_getElem?_getD]
      simp [mc, invM, opp, h2, h3]

set_option maxRecDepth 100000 in
set_option maxHeartbeats 4000000 in
theorem inverseR_ok (l : List Mp) (hl : l.length ≤ 1000000) (H : List Blk) (T : Toks) (tg : Tag) :
    ACall Tryd.prog 9 [.sl l.length (mpAV l) tg] H T (Is (.tup [.sl (invF l).1.length (mpAV (invF l).1) .none, .int .i64 (invF l).2]) H T) := by
  refine ACall.untag1 ?_
  have c0 := validR_ok l (by omega) H T .none
  refine ACall.dropT ?_ (by simp)
  cases hv : validM l with
  | false =>
    rw [hv] at c0
    have hF : invF l = ([], 1) := if_neg (by rw [hv]; simp)
    refine acall_enter 6 [] Tryd.ntmps9 Tryd.func9 rfl (fun _ _ => Tryd.call9 _ _) (by simp) (fun HO => ?_)
    refine aw_reg fun K hK => ?_; simp (maxSteps := 1000000) (disch := omega) [-List.getD_eq_getElem?_getD]; refine hK _ ?_; clear hK K
    refine aw_then fun K1 hK1 => ?_
    refine aw_reg fun K hK => ?_; simp (maxSteps := 1000000) (disch := omega) [-List.getD_eq_getElem?_getD]
    refine acall_is (c0) ?_; simp (maxSteps := 1000000) (disch := omega) [-List.getD_eq_getElem?_getD]
    refine hK _ ?_; clear hK K
    refine aw_if rfl (fun h => ?_) (fun h => absurd h (by simp))
    refine aw_reg fun K hK => ?_; simp (maxSteps := 1000000) (disch := omega) [-List.getD_eq_getElem?_getD]; refine hK _ ?_; clear hK K
    refine aw_ret ?_; simp (maxSteps := 1000000) (disch := omega) [-List.getD_eq_getElem?_getD]
    simp [hF, mpAV_nil]
  | true =>
    rw [hv] at c0
    have hF : invF l = (invL l, 0) := if_pos hv
    rw [hF]
    have c1 := ofR_ok (l.map invM) (by rw [List.length_map]; exact hl) H (T ++ [(l.length * 3, 3)]) (.own T.length)
    rw [ofF_inv hv, List.length_map] at c1
    have hll := invL_len l
    have hm0 : (l.map invM).length = l.length := List.length_map _
    have hm1 : ∀ i, i < l.length → (l.map invM).getD i d0 = invM (l.getD i d0) := fun i h => map_at h
    generalize l.map invM = m at *
    refine acall_enter 6 [] Tryd.ntmps9 Tryd.func9 rfl (fun _ _ => Tryd.call9 _ _) (by simp) (fun HO => ?_)
    refine aw_reg fun K hK => ?_; simp (maxSteps := 1000000) (disch := omega) [-List.getD_eq_getElem?_getD]; refine hK _ ?_; clear hK K
    refine aw_then fun K1 hK1 => ?_
    refine aw_reg fun K hK => ?_; simp (maxSteps := 1000000) (disch := omega) [-List.getD_eq_getElem?_getD]
    refine acall_is (c0) ?_; simp (maxSteps := 1000000) (disch := omega) [-List.getD_eq_getElem?_getD]
    refine hK _ ?_; clear hK K
    refine aw_if rfl (fun h => absurd h (by simp)) (fun h => ?_)
    refine aw_skip ?_; simp (maxSteps := 1000000) (disch := omega) [-List.getD_eq_getElem?_getD]
    refine hK1 _ ?_; clear hK1
    refine aw_reg fun K hK => ?_; simp (maxSteps := 1000000) (disch := omega) [-List.getD_eq_getElem?_getD]; refine hK _ ?_; clear hK K
    refine aw_then fun K1 hK1 => ?_
    refine aw_reg fun K hK => ?_; simp (maxSteps := 1000000) (disch := omega) [-List.getD_eq_getElem?_getD]; refine hK _ ?_; clear hK K
    refine aw_own 4 0 3 [] (by omega) (by simp) ?_
    refine aw_block ?_
    refine aw_loop (X := Nat) (fun i => ⟨[(0, .sl l.length (mpAV l) .none), (4, .sl i (mpAV (m.take i)) (.own T.length)), (5, .int .i64 (i : Nat))], H, T ++ [(i * 3, 3)]⟩) (fun i => i ≤ l.length) (fun i => l.length - i) 0 ?_ ?_ ?_
    · exact Nat.zero_le _
    · refine weak_to [] [] ?_ ?_ ?_ ?_ (HO.toks (by simp)) ?_
      all_goals simp [mpAV_nil]
    · rintro i h1
      refine aw_then fun K2 hK2 => ?_
      refine aw_reg fun K hK => ?_; simp (maxSteps := 1000000) (disch := omega) [-List.getD_eq_getElem?_getD]; refine hK _ ?_; clear hK K
      refine aw_if rfl (fun hk => ?_) (fun hk => ?_)
      · simp [-List.getD_eq_getElem?_getD] at hk
        have hcut := mpAV_cut l i hk
        have hsn := takeD m i d0 (by omega)
        rw [hm1 i hk] at hsn
        have hml : (mpAV (m.take i)).length = i * 3 := by rw [mpAV_len, List.length_take]; omega
        have c := fun H T => turned_ok (l.getD i d0) H T
        have hmp := mpAV_snoc (m.take i) (l.getD i d0).2.1 (l.getD i d0).1 (opp (l.getD i d0).2.2)
        have e2 : ((l.getD i d0).2.1, (l.getD i d0).1, opp (l.getD i d0).2.2) = invM (l.getD i d0) := rfl
        rw [e2, ← hsn] at hmp
        refine aw_skip ?_; simp (maxSteps := 1000000) (disch := omega) [-List.getD_eq_getElem?_getD]
        refine hK2 _ ?_; clear hK2
        refine aw_then fun K3 hK3 => ?_
        refine aw_block ?_
        generalize l.getD i d0 = x at *
        obtain ⟨x1, x2, x3⟩ := x
        simp only [mc, invM] at c hmp hcut
        refine aw_reg0 fun K hK => ?_; simp (maxSteps := 1000000) (disch := omega) [-List.getD_eq_getElem?_getD, hcut, mpAV_len]
        refine acall_is (c _ _) ?_; simp (maxSteps := 1000000) (disch := omega) [-List.getD_eq_getElem?_getD, hml, hmp]
        refine hK _ ?_; clear hK K
        refine hK3 _ ?_; clear hK3
        refine aw_reg0 fun K hK => ?_; simp (maxSteps := 1000000) (disch := omega) [-List.getD_eq_getElem?_getD]
        refine hK _ ?_; clear hK K
        refine ⟨i + 1, by show i + 1 ≤ _; omega, by show l.length - (i + 1) < l.length - i; omega, ?_⟩
        refine weak_to [] [] ?_ ?_ ?_ ?_ (HO.toks (by simp)) ?_
        all_goals simp [Nat.add_mul]
      · simp [-List.getD_eq_getElem?_getD] at hk
        have e : i = l.length := by omega
        subst e
        have hmt : m.take l.length = m := by rw [← hm0, List.take_length]
        rw [hmt]
        refine aw_exit ?_; simp (maxSteps := 1000000) (disch := omega) [-List.getD_eq_getElem?_getD]
        refine hK1 _ ?_; clear hK1
        refine aw_reg fun K hK => ?_; simp (maxSteps := 1000000) (disch := omega) [-List.getD_eq_getElem?_getD]
        refine acall_is (c1) ?_; simp (maxSteps := 1000000) (disch := omega) [-List.getD_eq_getElem?_getD]
        refine hK _ ?_; clear hK K
        refine aw_ret ?_; simp (maxSteps := 1000000) (disch := omega) [-List.getD_eq_getElem?_getD]

set_option maxRecDepth 100000 in
set_option maxHeartbeats 4000000 in
theorem translate_ok (l : List Mp) (id : Int) (hl : l.length ≤ 1000000) (H : List Blk) (T : Toks) (tg : Tag) :
    ACall Tryd.prog 15 [.sl l.length (mpAV l) tg, .int .i64 id] H T (Is (.sl (trT (validM l) l id l.length).length (mpAV (trT (validM l) l id l.length)) .none) H T) := by
  refine ACall.untag1 ?_
  refine ACall.drop' ?_ (by simp)
  have c0 := fun H T => validP_ok l (by omega) H T .none
  generalize hv : validM l = v at *
  have hle := trT_le v l id
  refine acall_enter 11 [] Tryd.ntmps15 Tryd.func15 rfl (fun _ _ => Tryd.call15 _ _) (by simp) (fun HO => ?_)
  refine aw_reg fun K hK => ?_; simp (maxSteps := 1000000) (disch := omega) [-List.getD_eq_getElem?_getD]; refine hK _ ?_; clear hK K
  refine aw_reg fun K hK => ?_; simp (maxSteps := 1000000) (disch := omega) [-List.getD_eq_getElem?_getD]; refine hK _ ?_; clear hK K
  refine aw_then fun K1 hK1 => ?_
  refine aw_reg fun K hK => ?_; simp (maxSteps := 1000000) (disch := omega) [-List.getD_eq_getElem?_getD]; refine hK _ ?_; clear hK K
  refine aw_own 5 0 3 [] (by omega) (by simp) ?_
  refine aw_block ?_
  refine aw_loop (X := Nat) (fun i => ⟨[(0, .sl l.length (mpAV l) .none), (1, .int .i64 id), (5, .sl (trT v l id i).length (mpAV (trT v l id i)) (.own T.length)), (8, .sl l.length (mpAV l) .none), (9, .int .i64 (l.length : Nat)), (10, .int .i64 (i : Nat))], H, T ++ [((trT v l id i).length * 3, 3)]⟩) (fun i => i ≤ l.length) (fun i => l.length - i) 0 ?_ ?_ ?_
  · exact Nat.zero_le _
  · refine weak_to [] [] ?_ ?_ ?_ ?_ (HO.toks (by simp)) ?_
    all_goals simp [mpAV_nil, trT_zero]
  · rintro i h1
    refine aw_reg fun K hK => ?_; simp (maxSteps := 1000000) (disch := omega) [-List.getD_eq_getElem?_getD]; refine hK _ ?_; clear hK K
    refine aw_then fun K2 hK2 => ?_
    refine aw_if rfl (fun hk => ?_) (fun hk => ?_)
    · simp [-List.getD_eq_getElem?_getD] at hk
      have hcut := mpAV_cut l i hk
      have hml := mpAV_len (trT v l id i)
      have hmp := mpAV_snoc (trT v l id i) (l.getD i d0).1 (l.getD i d0).2.1 (l.getD i d0).2.2
      have e2 : ((l.getD i d0).1, (l.getD i d0).2.1, (l.getD i d0).2.2) = l.getD i d0 := rfl
      have hb := hle i
      rw [e2] at hmp
      refine aw_skip ?_; simp (maxSteps := 1000000) (disch := omega) [-List.getD_eq_getElem?_getD]
      refine hK2 _ ?_; clear hK2
      refine aw_then fun K3 hK3 => ?_
      refine aw_block ?_
      refine aw_reg fun K hK => ?_; simp (maxSteps := 1000000) (disch := omega) [-List.getD_eq_getElem?_getD, hcut, mpAV_len]; refine hK _ ?_; clear hK K
      have fin : ∀ e (o : List Mp) (G : List Blk), o = trT v l id (i + 1) → envLe H.length (T.length + 1) e [(0, .sl l.length (mpAV l) .none), (1, .int .i64 id), (5, .sl o.length (mpAV o) (.own T.length)), (8, .sl l.length (mpAV l) .none), (9, .int .i64 (l.length : Nat)), (10, .int .i64 (i : Nat))] → K3 ⟨e, H ++ G, T ++ [(o.length * 3, 3)]⟩ := by
        intro e o G ho he
        subst ho
        refine hK3 _ (aw_weak ⟨[(0, .sl l.length (mpAV l) .none), (1, .int .i64 id), (5, .sl (trT v l id (i + 1)).length (mpAV (trT v l id (i + 1))) (.own T.length)), (8, .sl l.length (mpAV l) .none), (9, .int .i64 (l.length : Nat)), (10, .int .i64 (i : Nat))], H, T ++ [((trT v l id (i + 1)).length * 3, 3)]⟩ (weak_to G [] (by simp) (by simp) (by simp) (by simp) (HO.toks (by simp)) (by simpa using he)) ?_)
        refine aw_reg0 fun K hK => ?_; simp (maxSteps := 1000000) (disch := omega) [-List.getD_eq_getElem?_getD]
        refine hK _ ?_; clear hK K
        refine ⟨i + 1, by show i + 1 ≤ _; omega, by show l.length - (i + 1) < l.length - i; omega, ?_⟩
        refine weak_to [] [] ?_ ?_ ?_ ?_ (HO.toks (by simp)) ?_
        all_goals simp
      clear hK3
      have hy := fun h => trT_yes (id := id) hk h
      have hn := fun h => trT_no (id := id) hk h
      cases v with
      | false =>
        refine aw_reg fun K hK => ?_; simp (maxSteps := 1000000) (disch := omega) [-List.getD_eq_getElem?_getD]
        refine acall_is (c0 _ _) ?_; simp (maxSteps := 1000000) (disch := omega) [-List.getD_eq_getElem?_getD]
        refine hK _ ?_; clear hK K
        refine aw_if rfl (fun h => absurd h (by simp)) (fun h => ?_)
        refine aw_skip ?_; simp (maxSteps := 1000000) (disch := omega) [-List.getD_eq_getElem?_getD]
        refine fin _ [] [.cells [.int .i64 (l.getD i d0).1, .int .i64 (l.getD i d0).2.1, .int .i64 (l.getD i d0).2.2]] rfl ?_
        simp [trT_off]
      | true =>
        generalize trT true l id (i + 1) = o' at *
        generalize trT true l id i = o at *
        generalize l.getD i d0 = x at *
        obtain ⟨x1, x2, x3⟩ := x
        simp only at hy hn hmp hcut
        by_cases he : x1 = id
        · subst he
          refine aw_reg fun K hK => ?_; simp (maxSteps := 1000000) (disch := omega) [-List.getD_eq_getElem?_getD]
          refine acall_is (c0 _ _) ?_; simp (maxSteps := 1000000) (disch := omega) [-List.getD_eq_getElem?_getD]
          refine hK _ ?_; clear hK K
          refine aw_if rfl (fun h => ?_) (fun h => absurd h (by simp))
          refine aw_reg0 fun K hK => ?_; simp (maxSteps := 1000000) (disch := omega) [-List.getD_eq_getElem?_getD, hml, hmp]; refine hK _ ?_; clear hK K
          have ho := hy rfl
          have hl2 : o.length + 1 = (o ++ [(x1, x2, x3)]).length := by simp
          rw [hl2]
          refine fin _ (o ++ [(x1, x2, x3)]) [.cells [.int .i64 x1, .int .i64 x2, .int .i64 x3]] ho.symm ?_
          simp
        · have bn : (x1 == id) = false := beq_eq_false_iff_ne.2 he
          refine aw_reg fun K hK => ?_; simp (maxSteps := 1000000) (disch := omega) [-List.getD_eq_getElem?_getD, bn, he]
          refine acall_is (c0 _ _) ?_; simp (maxSteps := 1000000) (disch := omega) [-List.getD_eq_getElem?_getD, bn, he]
          refine hK _ ?_; clear hK K
          refine aw_if rfl (fun h => absurd h (by simp)) (fun h => ?_)
          refine aw_skip ?_; simp (maxSteps := 1000000) (disch := omega) [-List.getD_eq_getElem?_getD]
          refine fin _ o [.cells [.int .i64 x1, .int .i64 x2, .int .i64 x3]] (hn he).symm ?_
          simp
    · simp [-List.getD_eq_getElem?_getD] at hk
      have e : i = l.length := by omega
      subst e
      refine aw_exit ?_; simp (maxSteps := 1000000) (disch := omega) [-List.getD_eq_getElem?_getD]
      refine hK1 _ ?_; clear hK1
      refine aw_reg fun K hK => ?_; simp (maxSteps := 1000000) (disch := omega) [-List.getD_eq_getElem?_getD]; refine hK _ ?_; clear hK K
      refine aw_ret ?_; simp (maxSteps := 1000000) (disch := omega) [-List.getD_eq_getElem?_getD]

set_option maxRecDepth 100000 in
set_option maxHeartbeats 4000000 in
theorem translateR_ok (l : List Mp) (id : Int) (hl : l.length ≤ 1000000) (H : List Blk) (T : Toks) (tg : Tag) :
    ACall Tryd.prog 16 [.sl l.length (mpAV l) tg, .int .i64 id] H T (Is (.sl (trT (validM l) l id l.length).length (mpAV (trT (validM l) l id l.length)) .none) H T) := by
  refine ACall.untag1 ?_
  refine ACall.drop' ?_ (by simp)
  have c0 := fun H T => validR_ok l (by omega) H T .none
  generalize hv : validM l = v at *
  have hle := trT_le v l id
  refine acall_enter 7 [] Tryd.ntmps16 Tryd.func16 rfl (fun _ _ => Tryd.call16 _ _) (by simp) (fun HO => ?_)
  refine aw_reg fun K hK => ?_; simp (maxSteps := 1000000) (disch := omega) [-List.getD_eq_getElem?_getD]; refine hK _ ?_; clear hK K
  refine aw_reg fun K hK => ?_; simp (maxSteps := 1000000) (disch := omega) [-List.getD_eq_getElem?_getD]; refine hK _ ?_; clear hK K
  refine aw_then fun K1 hK1 => ?_
  refine aw_reg fun K hK => ?_; simp (maxSteps := 1000000) (disch := omega) [-List.getD_eq_getElem?_getD]; refine hK _ ?_; clear hK K
  refine aw_own 5 0 3 [] (by omega) (by simp) ?_
  refine aw_block ?_
  refine aw_loop (X := Nat) (fun i => ⟨[(0, .sl l.length (mpAV l) .none), (1, .int .i64 id), (5, .sl (trT v l id i).length (mpAV (trT v l id i)) (.own T.length)), (6, .int .i64 (i : Nat))], H, T ++ [((trT v l id i).length * 3, 3)]⟩) (fun i => i ≤ l.length) (fun i => l.length - i) 0 ?_ ?_ ?_
  · exact Nat.zero_le _
  · refine weak_to [] [] ?_ ?_ ?_ ?_ (HO.toks (by simp)) ?_
    all_goals simp [mpAV_nil, trT_zero]
  · rintro i h1
    refine aw_then fun K2 hK2 => ?_
    cases v with
    | false =>
      by_cases hk : i < l.length
      · have bk : decide ((i : Int) < l.length) = true := decide_eq_true (by omega)
        refine aw_reg fun K hK => ?_; simp (maxSteps := 1000000) (disch := omega) [-List.getD_eq_getElem?_getD, bk, hk]
        refine acall_is (c0 _ _) ?_; simp (maxSteps := 1000000) (disch := omega) [-List.getD_eq_getElem?_getD]
        refine hK _ ?_; clear hK K
        refine aw_if rfl (fun h => absurd h (by simp)) (fun h => ?_)
        refine aw_exit ?_; simp (maxSteps := 1000000) (disch := omega) [-List.getD_eq_getElem?_getD]
        refine hK1 _ ?_; clear hK1
        refine aw_reg fun K hK => ?_; simp (maxSteps := 1000000) (disch := omega) [-List.getD_eq_getElem?_getD]; refine hK _ ?_; clear hK K
        refine aw_ret ?_; simp (maxSteps := 1000000) (disch := omega) [-List.getD_eq_getElem?_getD]
        simp [trT_off]
      · have bk : decide ((i : Int) < l.length) = false := decide_eq_false (by omega)
        refine aw_reg fun K hK => ?_; simp (maxSteps := 1000000) (disch := omega) [-List.getD_eq_getElem?_getD, bk, hk]
        refine hK _ ?_; clear hK K
        refine aw_if rfl (fun h => absurd h (by simp)) (fun h => ?_)
        refine aw_exit ?_; simp (maxSteps := 1000000) (disch := omega) [-List.getD_eq_getElem?_getD]
        refine hK1 _ ?_; clear hK1
        refine aw_reg fun K hK => ?_; simp (maxSteps := 1000000) (disch := omega) [-List.getD_eq_getElem?_getD]; refine hK _ ?_; clear hK K
        refine aw_ret ?_; simp (maxSteps := 1000000) (disch := omega) [-List.getD_eq_getElem?_getD]
        simp [trT_off]
    | true =>
      by_cases hk : i < l.length
      · have bk : decide ((i : Int) < l.length) = true := decide_eq_true (by omega)
        have hcut := mpAV_cut l i hk
        have hat := mpAV_at l i hk
        have hml := mpAV_len (trT true l id i)
        have hmp := mpAV_snoc (trT true l id i) (l.getD i d0).1 (l.getD i d0).2.1 (l.getD i d0).2.2
        have e2 : ((l.getD i d0).1, (l.getD i d0).2.1, (l.getD i d0).2.2) = l.getD i d0 := rfl
        have hb := hle i
        rw [e2] at hmp
        refine aw_reg fun K hK => ?_; simp (maxSteps := 1000000) (disch := omega) [-List.getD_eq_getElem?_getD, bk, hk]
        refine acall_is (c0 _ _) ?_; simp (maxSteps := 1000000) (disch := omega) [-List.getD_eq_getElem?_getD]
        refine hK _ ?_; clear hK K
        refine aw_if rfl (fun h => ?_) (fun h => absurd h (by simp))
        refine aw_skip ?_; simp (maxSteps := 1000000) (disch := omega) [-List.getD_eq_getElem?_getD]
        refine hK2 _ ?_; clear hK2
        refine aw_then fun K3 hK3 => ?_
        refine aw_block ?_
        have fin : ∀ e (o : List Mp), o = trT true l id (i + 1) → envLe H.length (T.length + 1) e [(0, .sl l.length (mpAV l) .none), (1, .int .i64 id), (5, .sl o.length (mpAV o) (.own T.length)), (6, .int .i64 (i : Nat))] → K3 ⟨e, H, T ++ [(o.length * 3, 3)]⟩ := by
          intro e o ho he
          subst ho
          refine hK3 _ (aw_weak ⟨[(0, .sl l.length (mpAV l) .none), (1, .int .i64 id), (5, .sl (trT true l id (i + 1)).length (mpAV (trT true l id (i + 1))) (.own T.length)), (6, .int .i64 (i : Nat))], H, T ++ [((trT true l id (i + 1)).length * 3, 3)]⟩ (weak_to [] [] (by simp) (by simp) (by simp) (by simp) (HO.toks (by simp)) (by simpa using he)) ?_)
          refine aw_reg0 fun K hK => ?_; simp (maxSteps := 1000000) (disch := omega) [-List.getD_eq_getElem?_getD]
          refine hK _ ?_; clear hK K
          refine ⟨i + 1, by show i + 1 ≤ _; omega, by show l.length - (i + 1) < l.length - i; omega, ?_⟩
          refine weak_to [] [] ?_ ?_ ?_ ?_ (HO.toks (by simp)) ?_
          all_goals simp
        clear hK3
        have hy := fun h => trT_yes (id := id) hk h
        have hn := fun h => trT_no (id := id) hk h
        generalize trT true l id (i + 1) = o' at *
        generalize trT true l id i = o at *
        generalize l.getD i d0 = x at *
        obtain ⟨x1, x2, x3⟩ := x
        simp only at hy hn hmp hcut hat
        by_cases he : x1 = id
        · subst he
          refine aw_reg fun K hK => ?_; simp (maxSteps := 1000000) (disch := omega) [-List.getD_eq_getElem?_getD, hat.1, hk, mpAV_len]; refine hK _ ?_; clear hK K
          refine aw_if rfl (fun h => ?_) (fun h => absurd h (by simp))
          refine aw_reg0 fun K hK => ?_; simp (maxSteps := 1000000) (disch := omega) [-List.getD_eq_getElem?_getD, hcut, hk, mpAV_len, hmp]; refine hK _ ?_; clear hK K
          have ho := hy rfl
          have hl2 : o.length + 1 = (o ++ [(x1, x2, x3)]).length := by simp
          rw [hl2]
          refine fin _ (o ++ [(x1, x2, x3)]) ho.symm ?_
          simp
        · have bn : (x1 == id) = false := beq_eq_false_iff_ne.2 he
          refine aw_reg fun K hK => ?_; simp (maxSteps := 1000000) (disch := omega) [-List.getD_eq_getElem?_getD, hat.1, hk, mpAV_len, bn, he]; refine hK _ ?_; clear hK K
          refine aw_if rfl (fun h => absurd h (by simp)) (fun h => ?_)
          refine aw_skip ?_; simp (maxSteps := 1000000) (disch := omega) [-List.getD_eq_getElem?_getD]
          refine fin _ o (hn he).symm ?_
          simp
      · have bk : decide ((i : Int) < l.length) = false := decide_eq_false (by omega)
        have e : i = l.length := by omega
        subst e
        refine aw_reg fun K hK => ?_; simp (maxSteps := 1000000) (disch := omega) [-List.getD_eq_getElem?_getD, bk, hk]
        refine hK _ ?_; clear hK K
        refine aw_if rfl (fun h => absurd h (by simp)) (fun h => ?_)
        refine aw_exit ?_; simp (maxSteps := 1000000) (disch := omega) [-List.getD_eq_getElem?_getD]
        refine hK1 _ ?_; clear hK1
        refine aw_reg fun K hK => ?_; simp (maxSteps := 1000000) (disch := omega) [-List.getD_eq_getElem?_getD]; refine hK _ ?_; clear hK K
        refine aw_ret ?_; simp (maxSteps := 1000000) (disch := omega) [-List.getD_eq_getElem?_getD]

set_option maxRecDepth 100000 in
set_option maxHeartbeats 4000000 in
theorem printR_ok (l : List Mp) (hl : l.length ≤ 1000000) (H : List Blk) (T : Toks) (tg : Tag) :
    ACall Tryd.prog 11 [.sl l.length (mpAV l) tg] H T (Is (.tup [.str (printF l).1, .int .i64 (printF l).2]) H T) := by
  refine ACall.untag1 ?_
  have c0 := validR_ok l (by omega) H T .none
  cases hv : validM l with
  | false =>
    rw [hv] at c0
    have hF : printF l = ([], 1) := if_neg (by rw [hv]; simp)
    rw [hF]
    refine acall_enter 6 [] Tryd.ntmps11 Tryd.func11 rfl (fun _ _ => Tryd.call11 _ _) (by simp) (fun HO => ?_)
    refine aw_reg fun K hK => ?_; simp (maxSteps := 1000000) (disch := omega) [-List.getD_eq_getElem?_getD]; refine hK _ ?_; clear hK K
    refine aw_then fun K1 hK1 => ?_
    refine aw_reg fun K hK => ?_; simp (maxSteps := 1000000) (disch := omega) [-List.getD_eq_getElem?_getD]
    refine acall_is (c0) ?_; simp (maxSteps := 1000000) (disch := omega) [-List.getD_eq_getElem?_getD]
    refine hK _ ?_; clear hK K
    refine aw_if rfl (fun h => ?_) (fun h => absurd h (by simp))
    refine aw_reg fun K hK => ?_; simp (maxSteps := 1000000) (disch := omega) [-List.getD_eq_getElem?_getD]; refine hK _ ?_; clear hK K
    refine aw_ret ?_; simp (maxSteps := 1000000) (disch := omega) [-List.getD_eq_getElem?_getD]
    exact ⟨rfl, rfl, rfl⟩
  | true =>
    rw [hv] at c0
    have hF : printF l = (printM l, 0) := if_pos hv
    rw [hF]
    have hmem : ∀ i, i < l.length → goodM (l.getD i d0) = true := fun i hi => validM_mem hv (memD l i d0 hi)
    have hpl : ∀ i, (printM (l.take i)).length ≤ 50000000 := fun i => by
      have h1 := printM_len (l := l.take i) fun x hx => validM_mem hv (List.mem_of_mem_take hx)
      rw [List.length_take] at h1
      omega
    refine acall_enter 6 [] Tryd.ntmps11 Tryd.func11 rfl (fun _ _ => Tryd.call11 _ _) (by simp) (fun HO => ?_)
    refine aw_reg fun K hK => ?_; simp (maxSteps := 1000000) (disch := omega) [-List.getD_eq_getElem?_getD]; refine hK _ ?_; clear hK K
    refine aw_then fun K1 hK1 => ?_
    refine aw_reg fun K hK => ?_; simp (maxSteps := 1000000) (disch := omega) [-List.getD_eq_getElem?_getD]
    refine acall_is (c0) ?_; simp (maxSteps := 1000000) (disch := omega) [-List.getD_eq_getElem?_getD]
    refine hK _ ?_; clear hK K
    refine aw_if rfl (fun h => absurd h (by simp)) (fun h => ?_)
    refine aw_skip ?_; simp (maxSteps := 1000000) (disch := omega) [-List.getD_eq_getElem?_getD]
    refine hK1 _ ?_; clear hK1
    refine aw_reg fun K hK => ?_; simp (maxSteps := 1000000) (disch := omega) [-List.getD_eq_getElem?_getD]; refine hK _ ?_; clear hK K
    refine aw_then fun K1 hK1 => ?_
    refine aw_reg fun K hK => ?_; simp (maxSteps := 1000000) (disch := omega) [-List.getD_eq_getElem?_getD]; refine hK _ ?_; clear hK K
    refine aw_block ?_
    refine aw_loop (X := Nat) (fun i => ⟨[(0, .sl l.length (mpAV l) .none), (4, .str (printM (l.take i))), (5, .int .i64 (i : Nat))], H, T⟩) (fun i => i ≤ l.length) (fun i => l.length - i) 0 ?_ ?_ ?_
    · exact Nat.zero_le _
    · refine weak_to [] [] ?_ ?_ ?_ ?_ HO ?_
      all_goals simp [printM]
    · rintro i h1
      refine aw_then fun K2 hK2 => ?_
      refine aw_reg fun K hK => ?_; simp (maxSteps := 1000000) (disch := omega) [-List.getD_eq_getElem?_getD]; refine hK _ ?_; clear hK K
      refine aw_if rfl (fun hk => ?_) (fun hk => ?_)
      · simp [-List.getD_eq_getElem?_getD] at hk
        have hcut := mpAV_cut l i hk
        have hnext := printM_take hk
        have hln := lineM_len (hmem i hk)
        have c := fun H T => lineR_ok (l.getD i d0) (hmem i hk) H T
        simp only [mcD] at c
        have h1l := hpl i
        generalize lineM (l.getD i d0) = s at *
        generalize printM (l.take i) = o at *
        refine aw_skip ?_; simp (maxSteps := 1000000) (disch := omega) [-List.getD_eq_getElem?_getD]
        refine hK2 _ ?_; clear hK2
        refine aw_then fun K3 hK3 => ?_
        refine aw_block ?_
        refine aw_reg0 fun K hK => ?_; simp (maxSteps := 1000000) (disch := omega) [-List.getD_eq_getElem?_getD, hcut, mpAV_len]
        refine acall_is (c _ _) ?_; simp (maxSteps := 1000000) (disch := omega) [-List.getD_eq_getElem?_getD]
        refine hK _ ?_; clear hK K
        refine hK3 _ ?_; clear hK3
        refine aw_reg0 fun K hK => ?_; simp (maxSteps := 1000000) (disch := omega) [-List.getD_eq_getElem?_getD]
        refine hK _ ?_; clear hK K
        refine ⟨i + 1, by show i + 1 ≤ _; omega, by show l.length - (i + 1) < l.length - i; omega, ?_⟩
        refine weak_to [] [] ?_ ?_ ?_ ?_ HO ?_
        all_goals simp [hnext]
      · simp [-List.getD_eq_getElem?_getD] at hk
        have e : i = l.length := by omega
        subst e
        rw [List.take_length]
        refine aw_exit ?_; simp (maxSteps := 1000000) (disch := omega) [-List.getD_eq_getElem?_getD]
        refine hK1 _ ?_; clear hK1
        refine aw_reg fun K hK => ?_; simp (maxSteps := 1000000) (disch := omega) [-List.getD_eq_getElem?_getD]; refine hK _ ?_; clear hK K
        refine aw_ret ?_; simp (maxSteps := 1000000) (disch := omega) [-List.getD_eq_getElem?_getD]
        exact ⟨rfl, rfl, rfl⟩
end Go.Proofs.YtfdlngemkhiiiaaDoor
