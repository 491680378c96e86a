/- The program's read and Parse (layer 26).
   Conditions: lengths below 2^20; the library's variables hold values of their types. -/
import Derived.Test.YtfdlngemkhiiiaaGreatDoorVFn9
namespace Go.Proofs.YtfdlngemkhiiiaaGreatDoor
open Go Go.Am Go.Shelf Voc Lst
set_option linter.unusedVariables false

set_option maxRecDepth 100000 in
set_option maxHeartbeats 4000000 in
theorem read_ok (s : List UInt8) (hs : s.length ≤ 1000000) : ∃ x : Mp, (∀ y, rdF s = some y → x = y) ∧ ∀ H T, Lb H →
    ACall Tryz.prog 13 [.str s] H T (Is (.tup [.agg (mc x), .bool (rdF s).isSome]) H T) := by
  by_cases h3 : (splitL 32 s).length = 3
  · match h : splitL 32 s, h3 with
    | [w0, w1, w2], _ =>
      obtain ⟨k1, k2⟩ := rd_key h
      refine ⟨_, k1, fun H T hb => ?_⟩
      rw [k2]
      have hw : w0.length ≤ 1000000 ∧ w2.length ≤ 1000000 := by
        have h1 : w0.length ≤ s.length := splitL_len (c := 32) (by rw [h]; simp)
        have h2 : w2.length ≤ s.length := splitL_len (c := 32) (by rw [h]; simp)
        omega
      refine ACall.dropT ?_ (by simp [mc])
      have c0 := split_ok 32 s (by omega) (H ++ [.cells [.int .i64 0, .int .i64 0, .int .i64 0]]) T (hb.app _).most
      rw [h] at c0
      simp only [strs, List.map_cons, List.map_nil, List.length_cons, List.length_nil] at c0
      have n0 := fun G T => number_ok w0 hw.1 (H ++ G) T (hb.app G).syn (hb.app G).rng (hb.app G).pow
      have n2 := fun G T => number_ok w2 hw.2 (H ++ G) T (hb.app G).syn (hb.app G).rng (hb.app G).pow
      have ni := fun G T tg => index_ok [[61], [60], [62]] w1 (by simp) (H ++ G) T tg
      simp only [strs, List.map_cons, List.map_nil, List.length_cons, List.length_nil] at ni
      have hi := idxS_le [[61], [60], [62]] w1
      simp only [List.length_cons, List.length_nil] at hi
      clear k1 k2 h
      generalize numF w0 = x1 at *
      generalize numF w2 = x2 at *
      generalize idxS [[61], [60], [62]] w1 = q at *
      have g0 := fun G T => good_ok (x1, x2, 1 + q) (H ++ G) T
      have l0 := fun hg G T => line_ok (x1, x2, 1 + q) hg (H ++ G) T (hb.app G).pow
      cases hg : goodM (x1, x2, 1 + q) with
      | false =>
        rw [hg] at g0
        simp only [mc] at g0
        refine acall_enter 6 [] Tryz.ntmps13 Tryz.func13 rfl (fun _ _ => Tryz.call13 _ _) (by simp) (fun HO => ?_)
        refine aw_reg fun K hK => ?_; simp (maxSteps := 1000000) (disch := omega) [-List.getD_eq_getElem?_getD]; refine hK _ ?_; clear hK K
        refine aw_reg fun K hK => ?_; simp (maxSteps := 1000000) (disch := omega) [-List.getD_eq_getElem?_getD]
        refine acall_is (c0) ?_; simp (maxSteps := 1000000) (disch := omega) [-List.getD_eq_getElem?_getD]
        refine hK _ ?_; clear hK K
        refine aw_then fun K1 hK1 => ?_
        refine aw_reg fun K hK => ?_; simp (maxSteps := 1000000) (disch := omega) [-List.getD_eq_getElem?_getD]; refine hK _ ?_; clear hK K
        refine aw_if rfl (fun h => absurd h (by simp)) (fun h => ?_)
        refine aw_skip ?_; simp (maxSteps := 1000000) (disch := omega) [-List.getD_eq_getElem?_getD]
        refine hK1 _ ?_; clear hK1
        refine aw_draw [15, 16] [0, 0, 0, 0, 0, 0, 0, 0, 0, 0, 0, 0, 0, 0, 0, 0, 1] [[0, 1, 2, 3, 4, 5, 6, 7, 8, 9, 10, 11, 12, 13, 14], []] drawMixed (by kernel_rfl) (by kernel_rfl) fun K hK => ?_; simp (maxSteps := 1000000) (disch := omega) [-List.getD_eq_getElem?_getD, n0, n2, ni]
        refine dcall_is (n0 _ _) rfl ?_; simp (maxSteps := 1000000) (disch := omega) [-List.getD_eq_getElem?_getD, n0, n2, ni]
        refine dcall_is (n2 _ _) rfl ?_; simp (maxSteps := 1000000) (disch := omega) [-List.getD_eq_getElem?_getD, n0, n2, ni]
        refine dcall_is (ni _ _ _) rfl ?_; simp (maxSteps := 1000000) (disch := omega) [-List.getD_eq_getElem?_getD, n0, n2, ni]
        refine hK _ ?_; clear hK K
        refine aw_draw [9] [0, 0, 0, 0, 0, 0, 0, 0, 0, 0, 1] [[6, 7, 8]] drawMixed (by kernel_rfl) (by kernel_rfl) fun K hK => ?_; simp (maxSteps := 1000000) (disch := omega) [-List.getD_eq_getElem?_getD]
        refine dcall_is (g0 _ _) rfl ?_; simp (maxSteps := 1000000) (disch := omega) [-List.getD_eq_getElem?_getD]
        refine hK _ ?_; clear hK K
        refine aw_ret ?_; simp (maxSteps := 1000000) (disch := omega) [-List.getD_eq_getElem?_getD]
        simp [mc]
      | true =>
        rw [hg] at g0
        have l1 := l0 hg
        generalize lineM (x1, x2, 1 + q) = t at *
        simp only [mc] at g0 l1
        rw [Bool.true_and]
        refine acall_enter 6 [] Tryz.ntmps13 Tryz.func13 rfl (fun _ _ => Tryz.call13 _ _) (by simp) (fun HO => ?_)
        refine aw_reg fun K hK => ?_; simp (maxSteps := 1000000) (disch := omega) [-List.getD_eq_getElem?_getD]; refine hK _ ?_; clear hK K
        refine aw_reg fun K hK => ?_; simp (maxSteps := 1000000) (disch := omega) [-List.getD_eq_getElem?_getD]
        refine acall_is (c0) ?_; simp (maxSteps := 1000000) (disch := omega) [-List.getD_eq_getElem?_getD]
        refine hK _ ?_; clear hK K
        refine aw_then fun K1 hK1 => ?_
        refine aw_reg fun K hK => ?_; simp (maxSteps := 1000000) (disch := omega) [-List.getD_eq_getElem?_getD]; refine hK _ ?_; clear hK K
        refine aw_if rfl (fun h => absurd h (by simp)) (fun h => ?_)
        refine aw_skip ?_; simp (maxSteps := 1000000) (disch := omega) [-List.getD_eq_getElem?_getD]
        refine hK1 _ ?_; clear hK1
        refine aw_draw [15, 16] [0, 0, 0, 0, 0, 0, 0, 0, 0, 0, 0, 0, 0, 0, 0, 0, 1] [[0, 1, 2, 3, 4, 5, 6, 7, 8, 9, 10, 11, 12, 13, 14], []] drawMixed (by kernel_rfl) (by kernel_rfl) fun K hK => ?_; simp (maxSteps := 1000000) (disch := omega) [-List.getD_eq_getElem?_getD, n0, n2, ni]
        refine dcall_is (n0 _ _) rfl ?_; simp (maxSteps := 1000000) (disch := omega) [-List.getD_eq_getElem?_getD, n0, n2, ni]
        refine dcall_is (n2 _ _) rfl ?_; simp (maxSteps := 1000000) (disch := omega) [-List.getD_eq_getElem?_getD, n0, n2, ni]
        refine dcall_is (ni _ _ _) rfl ?_; simp (maxSteps := 1000000) (disch := omega) [-List.getD_eq_getElem?_getD, n0, n2, ni]
        refine hK _ ?_; clear hK K
        refine aw_draw [9] [0, 0, 0, 0, 0, 0, 0, 0, 0, 0, 1] [[6, 7, 8]] drawMixed (by kernel_rfl) (by kernel_rfl) fun K hK => ?_; simp (maxSteps := 1000000) (disch := omega) [-List.getD_eq_getElem?_getD, l1]
        refine dcall_is (g0 _ _) rfl ?_; simp (maxSteps := 1000000) (disch := omega) [-List.getD_eq_getElem?_getD, l1]
        refine dcall_is (l1 _ _) rfl ?_; simp (maxSteps := 1000000) (disch := omega) [-List.getD_eq_getElem?_getD, l1]
        refine hK _ ?_; clear hK K
        refine aw_ret ?_; simp (maxSteps := 1000000) (disch := omega) [-List.getD_eq_getElem?_getD]
        simp [mc]
  · have hr := rd_no h3
    refine ⟨(0, 0, 0), fun y hy => (by rw [hr] at hy; cases hy), fun H T hb => ?_⟩
    rw [hr]
    refine ACall.dropT ?_ (by simp [mc])
    have c0 := split_ok 32 s (by omega) (H ++ [.cells [.int .i64 0, .int .i64 0, .int .i64 0]]) T (hb.app _).most
    have hlen : (strs (splitL 32 s)).length = (splitL 32 s).length := by simp [strs]
    generalize strs (splitL 32 s) = W at *
    generalize (splitL 32 s).length = n at *
    have b3 : ((n : Int) != 3) = true := bne_iff_ne.2 (by omega)
    have b4 : ((n : Int) == 3) = false := beq_eq_false_iff_ne.2 (by omega)
    refine acall_enter 6 [] Tryz.ntmps13 Tryz.func13 rfl (fun _ _ => Tryz.call13 _ _) (by simp) (fun HO => ?_)
    refine aw_reg fun K hK => ?_; simp (maxSteps := 1000000) (disch := omega) [-List.getD_eq_getElem?_getD]; refine hK _ ?_; clear hK K
    refine aw_reg fun K hK => ?_; simp (maxSteps := 1000000) (disch := omega) [-List.getD_eq_getElem?_getD]
    refine acall_is (c0) ?_; simp (maxSteps := 1000000) (disch := omega) [-List.getD_eq_getElem?_getD]
    refine hK _ ?_; clear hK K
    refine aw_then fun K1 hK1 => ?_
    refine aw_reg fun K hK => ?_; simp (maxSteps := 1000000) (disch := omega) [-List.getD_eq_getElem?_getD, b3, b4]; refine hK _ ?_; clear hK K
    refine aw_if rfl (fun h => ?_) (fun h => absurd h (by simp))
    refine aw_reg fun K hK => ?_; simp (maxSteps := 1000000) (disch := omega) [-List.getD_eq_getElem?_getD]; refine hK _ ?_; clear hK K
    refine aw_ret ?_; simp (maxSteps := 1000000) (disch := omega) [-List.getD_eq_getElem?_getD]
    simp [mc]

set_option maxRecDepth 100000 in
set_option maxHeartbeats 4000000 in
theorem parse_ok (s : List UInt8) (hs : s.length ≤ 1000000) (H : List Blk) (T : Toks) (hb : Lb H) :
    ACall Tryz.prog 6 [.str s] H T (Is (.tup [.sl (parseF s).1.length (mpAV (parseF s).1) .none, .int .i64 (parseF s).2.1, .int .i64 (parseF s).2.2]) H T) := by
  refine ACall.dropT ?_ (by simp)
  generalize hF : parseF s = F
  unfold parseF at hF
  refine acall_enter 10 [] Tryz.ntmps6 Tryz.func6 rfl (fun _ _ => Tryz.call6 _ _) (by simp) (fun HO => ?_)
  refine aw_reg fun K hK => ?_; simp (maxSteps := 1000000) (disch := omega) [-List.getD_eq_getElem?_getD]; refine hK _ ?_; clear hK K
  refine aw_own 2 0 3 [] (by omega) (by simp) ?_
  refine aw_then fun K1 hK1 => ?_
  refine aw_block ?_
  refine aw_loop (X := List UInt8 × List Mp × Nat) (fun x => ⟨[(0, .str x.1), (2, .sl x.2.1.length (mpAV x.2.1) (.own T.length)), (3, .int .i64 (x.2.2 : Nat)), (4, .int .i64 0)], H, T ++ [(x.2.1.length * 3, 3)]⟩) (fun x => x.2.2 + x.1.length ≤ s.length ∧ validM x.2.1 = true ∧ parseG (splitL 10 x.1) x.2.1 (x.2.2 : Nat) = F) (fun x => x.1.length) (s, [], 0) ?_ ?_ ?_
  · exact ⟨by simp, rfl, hF⟩
  · refine weak_to [] [] ?_ ?_ ?_ ?_ (HO.toks (by simp)) ?_
    all_goals simp [mpAV_nil]
  · rintro ⟨s', l, k⟩ ⟨h1, h2, h3⟩
    simp only at h1 h2 h3
    clear hF
    have hl500 : l.length ≤ 500 := (validM_iff l).1 h2 |>.2
    have hml := mpAV_len l
    refine aw_then fun K2 hK2 => ?_
    by_cases h0 : s' = []
    · subst h0
      rw [show splitL 10 [] = [[]] from rfl, parseG_last, if_pos rfl] at h3
      subst h3
      refine aw_reg fun K hK => ?_; simp (maxSteps := 1000000) (disch := omega) [-List.getD_eq_getElem?_getD]; refine hK _ ?_; clear hK K
      refine aw_if rfl (fun h => absurd h (by simp)) (fun h => ?_)
      refine aw_exit ?_; simp (maxSteps := 1000000) (disch := omega) [-List.getD_eq_getElem?_getD]
      refine hK1 _ ?_; clear hK1
      refine aw_reg fun K hK => ?_; simp (maxSteps := 1000000) (disch := omega) [-List.getD_eq_getElem?_getD]; refine hK _ ?_; clear hK K
      refine aw_ret ?_; simp (maxSteps := 1000000) (disch := omega) [-List.getD_eq_getElem?_getD]
    · have c0 := cut_ok 10 s' (by omega) H (T ++ [(l.length * 3, 3)]) hb.most
      have b0 : (s' != []) = true := bne_iff_ne.2 h0
      refine aw_reg fun K hK => ?_; simp (maxSteps := 1000000) (disch := omega) [-List.getD_eq_getElem?_getD, b0, h0]; refine hK _ ?_; clear hK K
      refine aw_if rfl (fun h => ?_) (fun h => absurd h (by simp [h0]))
      refine aw_skip ?_; simp (maxSteps := 1000000) (disch := omega) [-List.getD_eq_getElem?_getD]
      refine hK2 _ ?_; clear hK2
      refine aw_then fun K3 hK3 => ?_
      refine aw_block ?_
      cases hc : cutL 10 s' with
      | none =>
        obtain ⟨x, _, c1⟩ := read_ok s' (by omega)
        have c1 := c1 H (T ++ [(l.length * 3, 3)]) hb
        rw [parseG_no hc, if_neg h0] at h3
        subst h3
        unfold cutT at c0
        rw [hc] at c0
        simp only [mc] at c0 c1
        refine aw_reg fun K hK => ?_; simp (maxSteps := 1000000) (disch := omega) [-List.getD_eq_getElem?_getD]
        refine acall_is (c0) ?_; simp (maxSteps := 1000000) (disch := omega) [-List.getD_eq_getElem?_getD]
        refine hK _ ?_; clear hK K
        refine aw_reg fun K hK => ?_; simp (maxSteps := 1000000) (disch := omega) [-List.getD_eq_getElem?_getD]
        refine acall_is (c1) ?_; simp (maxSteps := 1000000) (disch := omega) [-List.getD_eq_getElem?_getD]
        refine hK _ ?_; clear hK K
        refine aw_then fun K4 hK4 => ?_
        refine aw_draw [8, 11] [0, 0, 0, 0, 0, 0, 0, 0, 0, 0, 0, 1, 2, 2, 2] [[], []] drawMixed (by kernel_rfl) (by kernel_rfl) fun K hK => ?_; simp (maxSteps := 1000000) (disch := omega) [-List.getD_eq_getElem?_getD]
        refine hK _ ?_; clear hK K
        refine aw_if rfl (fun h => ?_) (fun h => absurd h (by simp))
        refine aw_reg fun K hK => ?_; simp (maxSteps := 1000000) (disch := omega) [-List.getD_eq_getElem?_getD]; refine hK _ ?_; clear hK K
        refine aw_ret ?_; simp (maxSteps := 1000000) (disch := omega) [-List.getD_eq_getElem?_getD]
        simp [mpAV_nil]
      | some p =>
        obtain ⟨t, r⟩ := p
        have hsp := (index_some hc).2
        simp only at hsp
        have hlr : s'.length = t.length + (r.length + 1) := by
          have := congrArg List.length hsp
          rw [List.length_append, List.length_cons] at this
          exact this
        obtain ⟨x, hx, c1⟩ := read_ok t (by omega)
        have c1 := c1 H (T ++ [(l.length * 3, 3)]) hb
        rw [parseG_step hc] at h3
        unfold cutT at c0
        rw [hc] at c0
        simp only [mc] at c0 c1
        cases hr : rdF t with
        | none =>
          rw [hr] at h3 c1
          subst h3
          simp only [Option.isSome_none] at c1
          refine aw_reg fun K hK => ?_; simp (maxSteps := 1000000) (disch := omega) [-List.getD_eq_getElem?_getD]
          refine acall_is (c0) ?_; simp (maxSteps := 1000000) (disch := omega) [-List.getD_eq_getElem?_getD]
          refine hK _ ?_; clear hK K
          refine aw_reg fun K hK => ?_; simp (maxSteps := 1000000) (disch := omega) [-List.getD_eq_getElem?_getD]
          refine acall_is (c1) ?_; simp (maxSteps := 1000000) (disch := omega) [-List.getD_eq_getElem?_getD]
          refine hK _ ?_; clear hK K
          refine aw_then fun K4 hK4 => ?_
          refine aw_draw [8, 11] [0, 0, 0, 0, 0, 0, 0, 0, 0, 0, 0, 1, 2, 2, 2] [[], []] drawMixed (by kernel_rfl) (by kernel_rfl) fun K hK => ?_; simp (maxSteps := 1000000) (disch := omega) [-List.getD_eq_getElem?_getD]
          refine hK _ ?_; clear hK K
          refine aw_if rfl (fun h => ?_) (fun h => absurd h (by simp))
          refine aw_reg fun K hK => ?_; simp (maxSteps := 1000000) (disch := omega) [-List.getD_eq_getElem?_getD]; refine hK _ ?_; clear hK K
          refine aw_ret ?_; simp (maxSteps := 1000000) (disch := omega) [-List.getD_eq_getElem?_getD]
          simp [mpAV_nil]
        | some y =>
          have e := hx y hr
          subst e
          rw [hr] at h3 c1
          simp only [Option.isSome_some] at c1 h3
          have cc := fun G T => cloneT_ok l (by omega) (H ++ G) T
          have hle : (l ++ [x]).length = l.length + 1 := by simp
          have cv := fun H T tg => validP_ok (l ++ [x]) (by rw [hle]; omega) H T tg
          rw [hle] at cv
          have hmp := mpAV_snoc l x.1 x.2.1 x.2.2
          have e2 : (x.1, x.2.1, x.2.2) = x := rfl
          rw [e2] at hmp
          cases hv : validM (l ++ [x]) with
          | false =>
            rw [hv] at cv
            rw [if_neg (by rw [hv]; simp)] at h3
            subst h3
            refine aw_reg fun K hK => ?_; simp (maxSteps := 1000000) (disch := omega) [-List.getD_eq_getElem?_getD]
            refine acall_is (c0) ?_; simp (maxSteps := 1000000) (disch := omega) [-List.getD_eq_getElem?_getD]
            refine hK _ ?_; clear hK K
            refine aw_reg fun K hK => ?_; simp (maxSteps := 1000000) (disch := omega) [-List.getD_eq_getElem?_getD]
            refine acall_is (c1) ?_; simp (maxSteps := 1000000) (disch := omega) [-List.getD_eq_getElem?_getD]
            refine hK _ ?_; clear hK K
            refine aw_then fun K4 hK4 => ?_
            refine aw_draw [8, 11] [0, 0, 0, 0, 0, 0, 0, 0, 0, 0, 0, 1, 2, 2, 2] [[], []] drawMixed (by kernel_rfl) (by kernel_rfl) fun K hK => ?_; simp (maxSteps := 1000000) (disch := omega) [-List.getD_eq_getElem?_getD, hmp, hml]
            refine dcall_eff (cc _ _ _) rfl ?_; simp (maxSteps := 1000000) (disch := omega) [-List.getD_eq_getElem?_getD, hmp, hml]
            refine dcall_is (cv _ _ _) rfl ?_; simp (maxSteps := 1000000) (disch := omega) [-List.getD_eq_getElem?_getD, hmp, hml]
            refine hK _ ?_; clear hK K
            refine aw_if rfl (fun h => ?_) (fun h => absurd h (by simp))
            refine aw_reg fun K hK => ?_; simp (maxSteps := 1000000) (disch := omega) [-List.getD_eq_getElem?_getD]; refine hK _ ?_; clear hK K
            refine aw_ret ?_; simp (maxSteps := 1000000) (disch := omega) [-List.getD_eq_getElem?_getD]
            simp [mpAV_nil]
          | true =>
            rw [hv] at cv
            rw [if_pos hv] at h3
            refine aw_reg fun K hK => ?_; simp (maxSteps := 1000000) (disch := omega) [-List.getD_eq_getElem?_getD]
            refine acall_is (c0) ?_; simp (maxSteps := 1000000) (disch := omega) [-List.getD_eq_getElem?_getD]
            refine hK _ ?_; clear hK K
            refine aw_reg fun K hK => ?_; simp (maxSteps := 1000000) (disch := omega) [-List.getD_eq_getElem?_getD]
            refine acall_is (c1) ?_; simp (maxSteps := 1000000) (disch := omega) [-List.getD_eq_getElem?_getD]
            refine hK _ ?_; clear hK K
            refine aw_then fun K4 hK4 => ?_
            refine aw_draw [8, 11] [0, 0, 0, 0, 0, 0, 0, 0, 0, 0, 0, 1, 2, 2, 2] [[], []] drawMixed (by kernel_rfl) (by kernel_rfl) fun K hK => ?_; simp (maxSteps := 1000000) (disch := omega) [-List.getD_eq_getElem?_getD, hmp, hml]
            refine dcall_eff (cc _ _ _) rfl ?_; simp (maxSteps := 1000000) (disch := omega) [-List.getD_eq_getElem?_getD, hmp, hml]
            refine dcall_is (cv _ _ _) rfl ?_; simp (maxSteps := 1000000) (disch := omega) [-List.getD_eq_getElem?_getD, hmp, hml]
            refine hK _ ?_; clear hK K
            refine aw_if rfl (fun h => absurd h (by simp)) (fun h => ?_)
            refine aw_skip ?_; simp (maxSteps := 1000000) (disch := omega) [-List.getD_eq_getElem?_getD]
            refine hK4 _ ?_; clear hK4
            refine aw_reg fun K hK => ?_; simp (maxSteps := 1000000) (disch := omega) [-List.getD_eq_getElem?_getD, hmp, hml]; refine hK _ ?_; clear hK K
            refine aw_reg0 fun K hK => ?_; simp (maxSteps := 1000000) (disch := omega) [-List.getD_eq_getElem?_getD]
            refine hK _ ?_; clear hK K
            refine hK3 _ ?_; clear hK3
            refine aw_reg0 fun K hK => ?_; simp (maxSteps := 1000000) (disch := omega) [-List.getD_eq_getElem?_getD]
            refine hK _ ?_; clear hK K
            refine ⟨(r, l ++ [x], k + 1), ⟨by show k + 1 + r.length ≤ _; omega, hv, by simpa using h3⟩, by show r.length < s'.length; omega, ?_⟩
            refine weak_to [.cells [.int .i64 x.1, .int .i64 x.2.1, .int .i64 x.2.2]] [((l.length + 1) * 3, 3)] ?_ ?_ ?_ ?_ (HO.toks (by simp)) ?_
            all_goals simp
end Go.Proofs.YtfdlngemkhiiiaaGreatDoor
