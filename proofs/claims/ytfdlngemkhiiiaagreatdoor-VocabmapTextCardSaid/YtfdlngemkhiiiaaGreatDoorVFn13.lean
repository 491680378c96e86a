/- The reference's Parse (layer 26).
   Conditions: lengths below 2^20. -/
import Derived.Test.YtfdlngemkhiiiaaGreatDoorVFn12
namespace Voc
open Go.Lib Lst
theorem splitL_drop {ls : List (List UInt8)} {r : List UInt8} {i : Nat} (h : i < ls.length) : (ls ++ [r]).drop i = ls.getD i [] :: (ls ++ [r]).drop (i + 1) ∧ (ls ++ [r]).drop (i + 1) ≠ [] := by
  have hl : i < (ls ++ [r]).length := by simp; omega
  refine ⟨?_, fun e => ?_⟩
  · rw [List.drop_eq_getElem_cons hl, List.getElem_append_left h, List.getD_eq_getElem?_getD, List.getElem?_eq_getElem h]
    rfl
  · have := congrArg List.length e
    simp at this
    omega
theorem splitL_end (ls : List (List UInt8)) (r : List UInt8) : (ls ++ [r]).drop ls.length = [r] := by simp
end Voc
namespace Go.Proofs.YtfdlngemkhiiiaaGreatDoor
open Go Go.Am Go.Shelf Voc Lst
set_option linter.unusedVariables false

set_option maxRecDepth 100000 in
set_option maxHeartbeats 4000000 in
theorem parseR_ok (s : List UInt8) (hs : s.length ≤ 1000000) (H : List Blk) (T : Toks) :
    ACall Tryz.prog 7 [.str s] H T (Is (.tup [.sl (parseF s).1.length (mpAV (parseF s).1) .none, .int .i64 (parseF s).2.1, .int .i64 (parseF s).2.2]) H T) := by
  refine ACall.dropT ?_ (by simp)
  generalize hF : parseF s = F
  unfold parseF at hF
  have c0 := fun T => linesR_ok s hs H T
  rw [← linesF_split] at hF
  have hll : ∀ i, i < (linesF s).1.length → ((linesF s).1.getD i []).length ≤ 1000000 := fun i hi => by
    have : (linesF s).1.getD i [] ∈ splitL 10 s := by
      rw [← linesF_split, List.getD_eq_getElem?_getD, List.getElem?_eq_getElem hi]
      exact List.mem_append_left _ (List.getElem_mem hi)
    have := splitL_len this
    omega
  have hlen : (linesF s).1.length ≤ s.length := by
    have key : ∀ i, i ≤ s.length → (linesF (s.take i)).1.length ≤ i := by
      intro i hi
      induction i with
      | zero => simp [linesF]
      | succ i ih =>
        have := ih (by omega)
        rw [takeD s i 0 (by omega), linesF_snoc]
        unfold lstep
        split <;> simp <;> omega
    have := key s.length (Nat.le_refl _)
    rwa [List.take_length] at this
  have hat : ∀ i, i < (linesF s).1.length → (strs (linesF s).1).getD i .top = .str ((linesF s).1.getD i []) := fun i hi => by
    rw [List.getD_eq_getElem?_getD, strs, List.getElem?_map, List.getElem?_eq_getElem hi, List.getD_eq_getElem?_getD, List.getElem?_eq_getElem hi]
    rfl
  have hsl : (strs (linesF s).1).length = (linesF s).1.length := by simp [strs]
  have hb : ∀ n t, BelowAll n t (strs (linesF s).1) := fun n t => by simp
  generalize (linesF s).2 = rest at *
  generalize hls : (linesF s).1 = ls at *
  generalize strs ls = A at *
  refine acall_enter 10 [] Tryz.ntmps7 Tryz.func7 rfl (fun _ _ => Tryz.call7 _ _) (by simp) (fun HO => ?_)
  refine aw_reg fun K hK => ?_; simp (maxSteps := 1000000) (disch := omega) [-List.getD_eq_getElem?_getD]; refine hK _ ?_; clear hK K
  refine aw_own 2 0 3 [] (by omega) (by simp) ?_
  refine aw_reg fun K hK => ?_; simp (maxSteps := 1000000) (disch := omega) [-List.getD_eq_getElem?_getD]
  refine acall_is (c0 _) ?_; simp (maxSteps := 1000000) (disch := omega) [-List.getD_eq_getElem?_getD]
  refine hK _ ?_; clear hK K
  refine aw_then fun K1 hK1 => ?_
  refine aw_reg fun K hK => ?_; simp (maxSteps := 1000000) (disch := omega) [-List.getD_eq_getElem?_getD]; refine hK _ ?_; clear hK K
  refine aw_block ?_
  refine aw_loop (X := List Mp × Nat) (fun x => ⟨[(0, .str s), (2, .sl x.1.length (mpAV x.1) (.own T.length)), (3, .int .i64 0), (4, .int .i64 0), (5, .sl ls.length A .none), (6, .str rest), (7, .int .i64 (x.2 : Nat))], H, T ++ [(x.1.length * 3, 3)]⟩) (fun x => x.2 ≤ ls.length ∧ validM x.1 = true ∧ parseG ((ls ++ [rest]).drop x.2) x.1 (x.2 : Nat) = F) (fun x => ls.length - x.2) ([], 0) ?_ ?_ ?_
  · exact ⟨Nat.zero_le _, rfl, hF⟩
  · refine weak_to [] [] ?_ ?_ ?_ ?_ (HO.toks (by simp)) ?_
    all_goals simp [mpAV_nil, hb]
  · rintro ⟨l, k⟩ ⟨h1, h2, h3⟩
    simp only at h1 h2 h3
    clear hF
    have hl500 : l.length ≤ 500 := (validM_iff l).1 h2 |>.2
    have hml := mpAV_len l
    refine aw_then fun K2 hK2 => ?_
    by_cases hk : k < ls.length
    · have bk : decide ((k : Int) < ls.length) = true := decide_eq_true (by omega)
      obtain ⟨d1, d2⟩ := splitL_drop (r := rest) hk
      rw [d1, parseG_cons d2] at h3
      have ha := hat k hk
      have hkA : k < A.length := by omega
      obtain ⟨x, hx, c1⟩ := readR_ok (ls.getD k []) (hll k hk)
      have c1 := c1 H (T ++ [(l.length * 3, 3)])
      clear hat hll d1 d2
      generalize ls.getD k [] = t at *
      simp only [mc] at c1
      refine aw_reg fun K hK => ?_; simp (maxSteps := 1000000) (disch := omega) [-List.getD_eq_getElem?_getD, bk, hk]; refine hK _ ?_; clear hK K
      refine aw_if rfl (fun h => ?_) (fun h => absurd h (by simp))
      refine aw_skip ?_; simp (maxSteps := 1000000) (disch := omega) [-List.getD_eq_getElem?_getD]
      refine hK2 _ ?_; clear hK2
      refine aw_then fun K3 hK3 => ?_
      refine aw_block ?_
      cases hr : rdF t with
      | none =>
        rw [hr] at h3 c1
        simp only [Option.isSome_none] at c1
        subst h3
        refine aw_reg fun K hK => ?_; simp (maxSteps := 1000000) (disch := omega) [-List.getD_eq_getElem?_getD, ha, hkA, hsl]
        refine acall_is (c1) ?_; simp (maxSteps := 1000000) (disch := omega) [-List.getD_eq_getElem?_getD]
        refine hK _ ?_; clear hK K
        refine aw_then fun K4 hK4 => ?_
        refine aw_draw [5, 8] [0, 0, 0, 0, 0, 0, 0, 0, 1, 2, 2, 2] [[], []] drawMixed (by kernel_rfl) (by kernel_rfl) fun K hK => ?_; simp (maxSteps := 1000000) (disch := omega) [-List.getD_eq_getElem?_getD]
        refine hK _ ?_; clear hK K
        refine aw_if rfl (fun h => ?_) (fun h => absurd h (by simp))
        refine aw_reg fun K hK => ?_; simp (maxSteps := 1000000) (disch := omega) [-List.getD_eq_getElem?_getD]; refine hK _ ?_; clear hK K
        refine aw_ret ?_; simp (maxSteps := 1000000) (disch := omega) [-List.getD_eq_getElem?_getD]
        simp [mpAV_nil]
      | some y =>
        have e := hx y hr
        subst e
        rw [hr] at h3 c1
        simp only [Option.isSome_some] at c1 h3
        have hle : (l ++ [x]).length = l.length + 1 := by simp
        have cv := fun H T tg => validR_ok (l ++ [x]) (by rw [hle]; omega) H T tg
        rw [hle] at cv
        have hmp := mpAV_snoc l x.1 x.2.1 x.2.2
        have e2 : (x.1, x.2.1, x.2.2) = x := rfl
        rw [e2] at hmp
        cases hv : validM (l ++ [x]) with
        | false =>
          rw [hv] at cv
          rw [if_neg (by rw [hv]; simp)] at h3
          subst h3
          refine aw_reg fun K hK => ?_; simp (maxSteps := 1000000) (disch := omega) [-List.getD_eq_getElem?_getD, ha, hkA, hsl]
          refine acall_is (c1) ?_; simp (maxSteps := 1000000) (disch := omega) [-List.getD_eq_getElem?_getD]
          refine hK _ ?_; clear hK K
          refine aw_then fun K4 hK4 => ?_
          refine aw_draw [5, 8] [0, 0, 0, 0, 0, 0, 0, 0, 1, 2, 2, 2] [[], []] drawMixed (by kernel_rfl) (by kernel_rfl) fun K hK => ?_; simp (maxSteps := 1000000) (disch := omega) [-List.getD_eq_getElem?_getD, hmp, hml, amade_zero]
          refine dcall_is (cv _ _ _) rfl ?_; simp (maxSteps := 1000000) (disch := omega) [-List.getD_eq_getElem?_getD, hmp, hml]
          refine hK _ ?_; clear hK K
          refine aw_if rfl (fun h => ?_) (fun h => absurd h (by simp))
          refine aw_reg fun K hK => ?_; simp (maxSteps := 1000000) (disch := omega) [-List.getD_eq_getElem?_getD]; refine hK _ ?_; clear hK K
          refine aw_ret ?_; simp (maxSteps := 1000000) (disch := omega) [-List.getD_eq_getElem?_getD]
          simp [mpAV_nil]
        | true =>
          rw [hv] at cv
          rw [if_pos hv] at h3
          refine aw_reg fun K hK => ?_; simp (maxSteps := 1000000) (disch := omega) [-List.getD_eq_getElem?_getD, ha, hkA, hsl]
          refine acall_is (c1) ?_; simp (maxSteps := 1000000) (disch := omega) [-List.getD_eq_getElem?_getD]
          refine hK _ ?_; clear hK K
          refine aw_then fun K4 hK4 => ?_
          refine aw_draw [5, 8] [0, 0, 0, 0, 0, 0, 0, 0, 1, 2, 2, 2] [[], []] drawMixed (by kernel_rfl) (by kernel_rfl) fun K hK => ?_; simp (maxSteps := 1000000) (disch := omega) [-List.getD_eq_getElem?_getD, hmp, hml, amade_zero]
          refine dcall_is (cv _ _ _) rfl ?_; simp (maxSteps := 1000000) (disch := omega) [-List.getD_eq_getElem?_getD, hmp, hml]
          refine hK _ ?_; clear hK K
          refine aw_if rfl (fun h => absurd h (by simp)) (fun h => ?_)
          refine aw_skip ?_; simp (maxSteps := 1000000) (disch := omega) [-List.getD_eq_getElem?_getD]
          refine hK4 _ ?_; clear hK4
          refine aw_reg0 fun K hK => ?_; simp (maxSteps := 1000000) (disch := omega) [-List.getD_eq_getElem?_getD, hmp, hml]
          refine hK _ ?_; clear hK K
          refine hK3 _ ?_; clear hK3
          refine aw_reg0 fun K hK => ?_; simp (maxSteps := 1000000) (disch := omega) [-List.getD_eq_getElem?_getD]
          refine hK _ ?_; clear hK K
          refine ⟨(l ++ [x], k + 1), ⟨by show k + 1 ≤ _; omega, hv, by simpa using h3⟩, by show ls.length - (k + 1) < ls.length - k; omega, ?_⟩
          refine weak_to [.cells [.int .i64 x.1, .int .i64 x.2.1, .int .i64 x.2.2]] [((l.length + 1) * 3, 3)] ?_ ?_ ?_ ?_ (HO.toks (by simp)) ?_
          all_goals simp [hb]
    · have bk : decide ((k : Int) < ls.length) = false := decide_eq_false (by omega)
      have e : k = ls.length := by omega
      subst e
      rw [splitL_end, parseG_last] at h3
      refine aw_reg fun K hK => ?_; simp (maxSteps := 1000000) (disch := omega) [-List.getD_eq_getElem?_getD, bk, hk]; refine hK _ ?_; clear hK K
      refine aw_if rfl (fun h => absurd h (by simp)) (fun h => ?_)
      refine aw_exit ?_; simp (maxSteps := 1000000) (disch := omega) [-List.getD_eq_getElem?_getD]
      refine hK1 _ ?_; clear hK1
      refine aw_then fun K5 hK5 => ?_
      by_cases h0 : rest = []
      · subst h0
        rw [if_pos rfl] at h3
        subst h3
        refine aw_reg fun K hK => ?_; simp (maxSteps := 1000000) (disch := omega) [-List.getD_eq_getElem?_getD]; refine hK _ ?_; clear hK K
        refine aw_if rfl (fun h => absurd h (by simp)) (fun h => ?_)
        refine aw_skip ?_; simp (maxSteps := 1000000) (disch := omega) [-List.getD_eq_getElem?_getD]
        refine hK5 _ ?_; clear hK5
        refine aw_reg fun K hK => ?_; simp (maxSteps := 1000000) (disch := omega) [-List.getD_eq_getElem?_getD]; refine hK _ ?_; clear hK K
        refine aw_ret ?_; simp (maxSteps := 1000000) (disch := omega) [-List.getD_eq_getElem?_getD]
      · rw [if_neg h0] at h3
        subst h3
        have b0 : (rest != []) = true := bne_iff_ne.2 h0
        refine aw_reg fun K hK => ?_; simp (maxSteps := 1000000) (disch := omega) [-List.getD_eq_getElem?_getD, b0, h0]; refine hK _ ?_; clear hK K
        refine aw_if rfl (fun h => ?_) (fun h => absurd h (by simp [h0]))
        refine aw_reg fun K hK => ?_; simp (maxSteps := 1000000) (disch := omega) [-List.getD_eq_getElem?_getD]; refine hK _ ?_; clear hK K
        refine aw_ret ?_; simp (maxSteps := 1000000) (disch := omega) [-List.getD_eq_getElem?_getD]
        simp [mpAV_nil]
end Go.Proofs.YtfdlngemkhiiiaaGreatDoor
