/- The composition: the reference's (layer 26).
   Conditions: lengths below 2^20. -/
import Derived.Test.YtfdlngemkhiiiaaVRef0
namespace Go.Proofs.Ytfdlngemkhiiiaa
open Go Go.Am Voc
set_option linter.unusedVariables false

set_option maxRecDepth 100000 in
set_option maxHeartbeats 8000000 in
theorem waysR_ok (l m : List Mp) (hl : l.length ≤ 1000000) (hm : m.length ≤ 1000000) (H : List Blk) (T : Toks) (tl tm : Tag) :
    ACall Try.prog 8 [.sl l.length (mpAV l) tl, .sl m.length (mpAV m) tm] H T (Is (.tup [.sl (compF l m).1.length (mpAV (compF l m).1) .none, .int .i64 (compF l m).2]) H T) := by
  refine ACall.untag1 (ACall.untag2 ?_)
  refine ACall.dropT ?_ (by simp)
  have c0 := validR_ok l (by omega) H T .none
  have c1 := validR_ok m (by omega) H T .none
  refine acall_enter 14 [100109,100113] Try.ntmps8 Try.func8 rfl (fun _ _ => Try.call8 _ _) (by simp) (fun HO => ?_)
  refine aw_reg fun K hK => ?_; simp (maxSteps := 1000000) (disch := omega) [-List.getD_eq_getElem?_getD]; refine hK _ ?_; clear hK K
  refine aw_then fun K1 hK1 => ?_
  rcases (Classical.em (validM l = true ∧ validM m = true)) with ⟨hvl, hvm⟩ | hno
  rotate_left
  · have hF : compF l m = ([], 1) := if_neg hno
    cases hvl : validM l with
    | false =>
      rw [hvl] at c0
      refine aw_reg fun K hK => ?_; simp (maxSteps := 1000000) (disch := omega) [-List.getD_eq_getElem?_getD]
      refine acall_is (c0) ?_; simp (maxSteps := 1000000) (disch := omega) [-List.getD_eq_getElem?_getD]
      refine hK _ ?_; clear hK K
      refine aw_if rfl (fun h => ?_) (fun h => absurd h (by simp))
      refine aw_reg fun K hK => ?_; simp (maxSteps := 1000000) (disch := omega) [-List.getD_eq_getElem?_getD]; refine hK _ ?_; clear hK K
      refine aw_ret ?_; simp (maxSteps := 1000000) (disch := omega) [-List.getD_eq_getElem?_getD]
      simp [hF, mpAV_nil]
    | true =>
      have hvm : validM m = false := by
        cases h : validM m with
        | false => rfl
        | true => exact absurd ⟨hvl, h⟩ hno
      rw [hvl] at c0
      rw [hvm] at c1
      refine aw_reg fun K hK => ?_; simp (maxSteps := 1000000) (disch := omega) [-List.getD_eq_getElem?_getD]
      refine acall_is (c0) ?_; simp (maxSteps := 1000000) (disch := omega) [-List.getD_eq_getElem?_getD]
      refine acall_is (c1) ?_; simp (maxSteps := 1000000) (disch := omega) [-List.getD_eq_getElem?_getD]
      refine hK _ ?_; clear hK K
      refine aw_if rfl (fun h => ?_) (fun h => absurd h (by simp))
      refine aw_reg fun K hK => ?_; simp (maxSteps := 1000000) (disch := omega) [-List.getD_eq_getElem?_getD]; refine hK _ ?_; clear hK K
      refine aw_ret ?_; simp (maxSteps := 1000000) (disch := omega) [-List.getD_eq_getElem?_getD]
      simp [hF, mpAV_nil]
  rw [hvl] at c0
  rw [hvm] at c1
  have kl := valid_kOk hvl
  have km := valid_kOk hvm
  have l5 := ((validM_iff l).1 hvl).2
  have m5 := ((validM_iff m).1 hvm).2
  have hF : compF l m = if (comp l m).length ≤ 500 then (comp l m, 0) else ([], 3) := if_pos ⟨hvl, hvm⟩
  have hO := of_refO (fun x hx => validM_mem hvl hx) (fun x hx => validM_mem hvm hx)
  rw [← hF] at hO
  refine aw_reg fun K hK => ?_; simp (maxSteps := 1000000) (disch := omega) [-List.getD_eq_getElem?_getD]
  refine acall_is (c0) ?_; simp (maxSteps := 1000000) (disch := omega) [-List.getD_eq_getElem?_getD]
  refine acall_is (c1) ?_; simp (maxSteps := 1000000) (disch := omega) [-List.getD_eq_getElem?_getD]
  refine hK _ ?_; clear hK K
  refine aw_if rfl (fun h => absurd h (by simp)) (fun h => ?_)
  refine aw_skip ?_; simp (maxSteps := 1000000) (disch := omega) [-List.getD_eq_getElem?_getD]
  refine hK1 _ ?_; clear hK1
  refine aw_reg fun K hK => ?_; simp (maxSteps := 1000000) (disch := omega) [-List.getD_eq_getElem?_getD]; refine hK _ ?_; clear hK K
  refine aw_reg fun K hK => ?_; simp (maxSteps := 1000000) (disch := omega) [-List.getD_eq_getElem?_getD]; refine hK _ ?_; clear hK K
  refine aw_then fun K1 hK1 => ?_
  refine aw_reg fun K hK => ?_; simp (maxSteps := 1000000) (disch := omega) [-List.getD_eq_getElem?_getD]; refine hK _ ?_; clear hK K
  refine aw_block ?_
  refine aw_loop (X := Nat × List Blk × AV × AV) (fun x => ⟨[(0, .sl l.length (mpAV l) .none), (1, .sl m.length (mpAV m) .none), (6, x.2.2.1), (7, x.2.2.2), (8, .int .i64 (x.1 : Nat))], x.2.1, T⟩)
    (fun x => x.1 ≤ l.length ∧ (refT l m x.1 0).length ≤ x.1 * m.length ∧ Two H T 3 (refT l m x.1 0).length (mpAV (endsL (refT l m x.1 0))) 4 (refT l m x.1 0).length (kindsAV (refT l m x.1 0)) x.2.1 x.2.2.1 x.2.2.2) (fun x => l.length - x.1) (0, H, .sl 0 [] .full, .sl 0 [] .full) ?_ ?_ ?_
  · refine ⟨Nat.zero_le _, ?_, ?_⟩
    · show (refT l m 0 0).length ≤ _
      rw [refT_zero]; simp
    · show Two H T 3 (refT l m 0 0).length (mpAV (endsL (refT l m 0 0))) 4 (refT l m 0 0).length (kindsAV (refT l m 0 0)) H _ _
      rw [refT_zero]
      exact ⟨⟨[], by simp⟩, HO, ⟨rfl, .inl ⟨rfl, rfl⟩⟩, ⟨rfl, .inl ⟨rfl, rfl⟩⟩, fun i h => by cases h⟩
  · refine weak_to [] [] ?_ ?_ ?_ ?_ HO ?_
    all_goals simp
  · rintro ⟨i, H1, ev, kv⟩ ⟨h1, h2, h3⟩
    simp only at h1 h2 h3
    refine aw_then fun K2 hK2 => ?_
    refine aw_reg fun K hK => ?_; simp (maxSteps := 1000000) (disch := omega) [-List.getD_eq_getElem?_getD]; refine hK _ ?_; clear hK K
    refine aw_if rfl (fun hk => ?_) (fun hk => ?_)
    · simp [-List.getD_eq_getElem?_getD] at hk
      have hat := mpAV_at l i hk
      have hx0 := kl _ (memD l i d0 hk)
      refine aw_skip ?_; simp (maxSteps := 1000000) (disch := omega) [-List.getD_eq_getElem?_getD]
      refine hK2 _ ?_; clear hK2
      refine aw_then fun K3 hK3 => ?_
      refine aw_block ?_
      refine aw_reg fun K hK => ?_; simp (maxSteps := 1000000) (disch := omega) [-List.getD_eq_getElem?_getD]; refine hK _ ?_; clear hK K
      refine aw_block ?_
      refine aw_loop (X := Nat × List Blk × AV × AV) (fun x => ⟨[(0, .sl l.length (mpAV l) .none), (1, .sl m.length (mpAV m) .none), (6, x.2.2.1), (7, x.2.2.2), (8, .int .i64 (i : Nat)), (9, .int .i64 (x.1 : Nat))], x.2.1, T⟩)
        (fun x => x.1 ≤ m.length ∧ (refT l m i x.1).length ≤ i * m.length + x.1 ∧ Two H T 3 (refT l m i x.1).length (mpAV (endsL (refT l m i x.1))) 4 (refT l m i x.1).length (kindsAV (refT l m i x.1)) x.2.1 x.2.2.1 x.2.2.2) (fun x => m.length - x.1) (0, H1, ev, kv) ?_ ?_ ?_
      · exact ⟨Nat.zero_le _, h2, h3⟩
      · have hb1 := h3.below1
        have hb2 := h3.below2
        refine weak_to [] [] ?_ ?_ ?_ ?_ h3.ok ?_
        all_goals simp [h3.len, hb1, hb2]
      · clear h2 h3
        rintro ⟨k, H1, ev, kv⟩ ⟨h2, h3, h4⟩
        simp only at h2 h3 h4
        have hb1 := h4.below1
        have hb2 := h4.below2
        have hbl := h4.len
        refine aw_then fun K4 hK4 => ?_
        refine aw_reg fun K hK => ?_; simp (maxSteps := 1000000) (disch := omega) [-List.getD_eq_getElem?_getD]; refine hK _ ?_; clear hK K
        refine aw_if rfl (fun hkm => ?_) (fun hkm => ?_)
        · simp [-List.getD_eq_getElem?_getD] at hkm
          have hat2 := mpAV_at m k hkm
          have hy0 := km _ (memD m k d0 hkm)
          have hq := joinK_lt hx0 hy0
          have cj := fun H T => joined_ok (l.getD i d0).2.2 (m.getD k d0).2.2 H T
          have hw5 : (refT l m i k).length ≤ 251000 := Nat.le_trans h3 (by
            have := Nat.mul_le_mul (Nat.le_trans h1 l5) m5
            omega)
          have hks := refT_ks (k := k) kl km (.inl hk)
          have hskip := fun h => refT_skip (l := l) (m := m) (i := i) (k := k) hkm h
          have hadd := fun h1 h2 => refT_add (l := l) (m := m) (i := i) (k := k) hkm h1 h2
          refine aw_skip ?_; simp (maxSteps := 1000000) (disch := omega) [-List.getD_eq_getElem?_getD]
          refine hK4 _ ?_; clear hK4
          refine aw_then fun K5 hK5 => ?_
          have more : ∀ e H2 e2 k2, (refT l m i (k + 1)).length ≤ i * m.length + (k + 1) → Two H T 3 (refT l m i (k + 1)).length (mpAV (endsL (refT l m i (k + 1)))) 4 (refT l m i (k + 1)).length (kindsAV (refT l m i (k + 1))) H2 e2 k2 →
              envLe H2.length T.length e [(0, .sl l.length (mpAV l) .none), (1, .sl m.length (mpAV m) .none), (6, e2), (7, k2), (8, .int .i64 (i : Nat)), (9, .int .i64 (k : Nat))] → K5 ⟨e, H2, T⟩ := by
            intro e H2 e2 k2 g1 g2 he
            have gb1 := g2.below1
            have gb2 := g2.below2
            have gl := g2.len
            refine hK5 _ (aw_weak ⟨[(0, .sl l.length (mpAV l) .none), (1, .sl m.length (mpAV m) .none), (6, e2), (7, k2), (8, .int .i64 (i : Nat)), (9, .int .i64 (k : Nat))], H2, T⟩ (weak_to [] [] (by simp) (by simp) (by simpa using gl) (by simp) g2.ok he) ?_)
            refine aw_reg0 fun K hK => ?_; simp (maxSteps := 1000000) (disch := omega) [-List.getD_eq_getElem?_getD]
            refine hK _ ?_; clear hK K
            refine ⟨(k + 1, H2, e2, k2), ⟨by show k + 1 ≤ _; omega, g1, g2⟩, by show m.length - (k + 1) < m.length - k; omega, ?_⟩
            refine weak_to [] [] ?_ ?_ ?_ ?_ g2.ok ?_
            all_goals simp [gl, gb1, gb2]
          clear hK5
          refine aw_block ?_
          generalize refT l m i (k + 1) = w' at *
          generalize refT l m i k = w at *
          generalize l.getD i d0 = x at *
          generalize m.getD k d0 = y at *
          obtain ⟨x1, x2, x3⟩ := x
          obtain ⟨y1, y2, y3⟩ := y
          simp only at *
          refine aw_draw [] [] [] drawMixed (by kernel_rfl) (by kernel_rfl) fun K hK => ?_; simp (maxSteps := 1000000) (disch := omega) [-List.getD_eq_getElem?_getD, hat.1, hat.2.1, hat.2.2, hat2.1, hat2.2.1, hat2.2.2, hk, hkm, mpAV_len]
          refine dcall_is (cj _ _) rfl ?_; simp (maxSteps := 1000000) (disch := omega) [-List.getD_eq_getElem?_getD]
          refine hK _ ?_; clear hK K
          generalize joinK x3 y3 = q at *
          refine aw_then fun K6 hK6 => ?_
          by_cases hto : x2 = y1
          rotate_left
          · have hw' := hskip (.inl fun e => hto e.symm)
            have b1 : (x2 != y1) = true := bne_iff_ne.2 hto
            have b2 : (x2 == y1) = false := beq_eq_false_iff_ne.2 hto
            refine aw_draw [] [] [] drawMixed (by kernel_rfl) (by kernel_rfl) fun K hK => ?_; simp (maxSteps := 1000000) (disch := omega) [-List.getD_eq_getElem?_getD, hat.1, hat.2.1, hat.2.2, hat2.1, hat2.2.1, hat2.2.2, hk, hkm, mpAV_len, b1, b2]
            refine hK _ ?_; clear hK K
            refine aw_if rfl (fun h => ?_) (fun h => absurd h (by simp))
            refine aw_exit ?_; simp (maxSteps := 1000000) (disch := omega) [-List.getD_eq_getElem?_getD]
            refine more _ H1 ev kv (by rw [hw']; omega) (by rw [hw']; exact h4) ?_
            simp [hb1, hb2]
          subst hto
          have b1 : (x2 != x2) = false := bne_self_eq_false x2
          by_cases hq0 : q = 0
          · subst hq0
            have hw' := hskip (.inr rfl)
            refine aw_draw [] [] [] drawMixed (by kernel_rfl) (by kernel_rfl) fun K hK => ?_; simp (maxSteps := 1000000) (disch := omega) [-List.getD_eq_getElem?_getD, hat.1, hat.2.1, hat.2.2, hat2.1, hat2.2.1, hat2.2.2, hk, hkm, mpAV_len, b1]
            refine hK _ ?_; clear hK K
            refine aw_if rfl (fun h => ?_) (fun h => absurd h (by simp))
            refine aw_exit ?_; simp (maxSteps := 1000000) (disch := omega) [-List.getD_eq_getElem?_getD]
            refine more _ H1 ev kv (by rw [hw']; omega) (by rw [hw']; exact h4) ?_
            simp [hb1, hb2]
          have b3 : (q == 0) = false := beq_eq_false_iff_ne.2 hq0
          have hw' := hadd rfl (by omega)
          refine aw_draw [] [] [] drawMixed (by kernel_rfl) (by kernel_rfl) fun K hK => ?_; simp (maxSteps := 1000000) (disch := omega) [-List.getD_eq_getElem?_getD, hat.1, hat.2.1, hat.2.2, hat2.1, hat2.2.1, hat2.2.2, hk, hkm, mpAV_len, b1, b3, hq0]
          refine hK _ ?_; clear hK K
          refine aw_if rfl (fun h => absurd h (by simp)) (fun h => ?_)
          refine aw_skip ?_; simp (maxSteps := 1000000) (disch := omega) [-List.getD_eq_getElem?_getD]
          refine hK6 _ ?_; clear hK6
          refine aw_reg fun K hK => ?_; simp (maxSteps := 1000000) (disch := omega) [-List.getD_eq_getElem?_getD]; refine hK _ ?_; clear hK K
          refine aw_then fun K6 hK6 => ?_
          refine aw_block ?_
          refine aw_loop (X := Nat) (fun n => ⟨[(0, .sl l.length (mpAV l) .none), (1, .sl m.length (mpAV m) .none), (6, ev), (7, kv), (8, .int .i64 (i : Nat)), (9, .int .i64 (k : Nat)), (10, .int .i64 q), (11, .int .i64 (n : Nat))], H1, T⟩)
            (fun n => n ≤ w.length ∧ ∀ j, j < n → (w.map (·.1))[j]? ≠ some (x1, y2)) (fun n => w.length - n) 0 ?_ ?_ ?_
          · exact ⟨Nat.zero_le _, fun j hj => absurd hj (Nat.not_lt_zero _)⟩
          · refine weak_to [] [] ?_ ?_ ?_ ?_ h4.ok ?_
            all_goals simp [hbl, hb1, hb2]
          · rintro n ⟨n1, n2⟩
            have go : (n < w.length → (w.map (·.1))[n]? = some (x1, y2)) → ∀ e, envLe H1.length T.length e [(0, .sl l.length (mpAV l) .none), (1, .sl m.length (mpAV m) .none), (6, ev), (7, kv), (8, .int .i64 (i : Nat)), (9, .int .i64 (k : Nat)), (10, .int .i64 q), (11, .int .i64 (n : Nat))] → K6 ⟨e, H1, T⟩ := by
              intro n3 e he
              refine hK6 _ (aw_weak ⟨[(0, .sl l.length (mpAV l) .none), (1, .sl m.length (mpAV m) .none), (6, ev), (7, kv), (8, .int .i64 (i : Nat)), (9, .int .i64 (k : Nat)), (10, .int .i64 q), (11, .int .i64 (n : Nat))], H1, T⟩ (weak_to [] [] (by simp) (by simp) (by simpa using hbl) (by simp) h4.ok he) ?_)
              refine aw_then fun K7 hK7 => ?_
              have fin19 : ∀ e H2 e2 k2 (w1 : Wy) c0 c1 c2 c3, Two H T 3 w1.length (mpAV (endsL w1)) 4 w1.length (kindsAV w1) H2 e2 k2 → (∀ x ∈ w1, x.2.length = 4) → w1[n]? = some ((x1, y2), [c0, c1, c2, c3]) → w' = w1.set n ((x1, y2), [c0, c1, c2, c3].set q.toNat true) → w1.length ≤ i * m.length + (k + 1) →
                  envLe H2.length T.length e [(0, .sl l.length (mpAV l) .none), (1, .sl m.length (mpAV m) .none), (6, e2), (7, k2), (8, .int .i64 (i : Nat)), (9, .int .i64 (k : Nat)), (10, .int .i64 q), (11, .int .i64 (n : Nat))] → K7 ⟨e, H2, T⟩ := by
                intro e H2 e2 k2 w1 c0 c1 c2 c3 t1 t2 t3 t4 t5 he
                refine hK7 _ (aw_weak ⟨[(0, .sl l.length (mpAV l) .none), (1, .sl m.length (mpAV m) .none), (6, e2), (7, k2), (8, .int .i64 (i : Nat)), (9, .int .i64 (k : Nat)), (10, .int .i64 q), (11, .int .i64 (n : Nat))], H2, T⟩ (weak_to [] [] (by simp) (by simp) (by simpa using t1.len) (by simp) t1.ok he) ?_)
                have gn := (List.getElem?_eq_some_iff.1 t3).1
                have ub1 := t1.below1
                obtain ⟨b, cap, r, rfl, hb, hbb, hbr⟩ : ∃ b cap r, k2 = .csl b w1.length cap ∧ H.length ≤ b ∧ H2[b]? = some (.cells (kindsAV w1 ++ List.replicate r .top)) ∧ w1.length * 4 + r = cap * 4 := by
                  rcases t1.snd.2 with ⟨e, _⟩ | h
                  · omega
                  · exact h
                have hBl : (kindsAV w1 ++ List.replicate r AV.top).length = cap * 4 := by rw [List.length_append, List.length_replicate, kindsAV_len t2]; exact hbr
                have hset := kindsAV_set (List.replicate r AV.top) q.toNat t2 t3 (by omega)
                rw [← t4] at hset
                have hE : endsL w' = endsL w1 := by rw [t4]; exact endsL_set t3
                have hL : w'.length = w1.length := by rw [t4, List.length_set]
                have hks' : ∀ x ∈ w', x.2.length = 4 := by
                  intro x hx
                  rw [t4] at hx
                  rcases List.mem_or_eq_of_mem_set hx with hx | rfl
                  · exact t2 x hx
                  · simp
                have hTw : Two H T 3 w'.length (mpAV (endsL w')) 4 w'.length (kindsAV w') (H2.set b (.cells (kindsAV w' ++ List.replicate r .top))) e2 (.csl b w'.length cap) := by
                  rw [hE, hL]
                  exact (t1.symm.write (by rw [kindsAV_len hks', hL]) rfl hbr (below_kinds _ _ _)).symm
                have hTb := hTw.below1
                generalize hBB : kindsAV w1 ++ List.replicate r AV.top = B at hbb hset hBl
                generalize hBC : kindsAV w' ++ List.replicate r AV.top = B2 at hset hTw hTb
                have hq3 : q = 1 ∨ q = 2 ∨ q = 3 := by omega
                rw [hL] at hTw
                rcases hq3 with rfl | rfl | rfl
                · have hset : B.set (n * 4 + 1) (.bool true) = B2 := hset
                  refine aw_reg0 fun K hK => ?_; simp (maxSteps := 1000000) (disch := omega) [-List.getD_eq_getElem?_getD, gn, hbb, hBl, hset]
                  refine hK _ ?_; clear hK K
                  have hbl2 : b < H2.length := (List.getElem?_eq_some_iff.1 hbb).1
                  refine more _ _ _ _ (by omega) (by rw [hL] at *; exact hTw) ?_
                  simpa [hbl2] using hTb
                · have hset : B.set (n * 4 + 2) (.bool true) = B2 := hset
                  refine aw_reg0 fun K hK => ?_; simp (maxSteps := 1000000) (disch := omega) [-List.getD_eq_getElem?_getD, gn, hbb, hBl, hset]
                  refine hK _ ?_; clear hK K
                  have hbl2 : b < H2.length := (List.getElem?_eq_some_iff.1 hbb).1
                  refine more _ _ _ _ (by omega) (by rw [hL] at *; exact hTw) ?_
                  simpa [hbl2] using hTb
                · have hset : B.set (n * 4 + 3) (.bool true) = B2 := hset
                  refine aw_reg0 fun K hK => ?_; simp (maxSteps := 1000000) (disch := omega) [-List.getD_eq_getElem?_getD, gn, hbb, hBl, hset]
                  refine hK _ ?_; clear hK K
                  have hbl2 : b < H2.length := (List.getElem?_eq_some_iff.1 hbb).1
                  refine more _ _ _ _ (by omega) (by rw [hL] at *; exact hTw) ?_
                  simpa [hbl2] using hTb
              clear hK7
              by_cases g : n < w.length
              · obtain ⟨⟨e1, ks⟩, hx⟩ : ∃ x, w[n]? = some x := ⟨_, List.getElem?_eq_getElem g⟩
                have hx1 := n3 g
                rw [List.getElem?_map, hx] at hx1
                simp only [Option.map_some, Option.some.injEq] at hx1
                subst hx1
                obtain ⟨c0, c1, c2, c3, rfl⟩ := four (hks _ (List.mem_of_getElem? hx))
                have ne1 : ((n : Int) == w.length) = false := beq_eq_false_iff_ne.2 (by omega)
                have ne2 : ¬ (n : Int) = w.length := by omega
                have ne3 : ¬ n = w.length := by omega
                rw [wadd_at n2 hx] at hw'
                obtain ⟨a, cap, r, rfl, ha, hba, hra⟩ : ∃ a cap r, ev = .csl a w.length cap ∧ H.length ≤ a ∧ H1[a]? = some (.cells (mpAV (endsL w) ++ List.replicate r .top)) ∧ w.length * 3 + r = cap * 3 := by
                  rcases h4.fst.2 with ⟨e, _⟩ | h
                  · omega
                  · exact h
                refine aw_reg fun K hK => ?_; simp (maxSteps := 1000000) (disch := omega) [-List.getD_eq_getElem?_getD, ne1, ne2, ne3]; refine hK _ ?_; clear hK K
                refine aw_if rfl (fun h => absurd h (by simp)) (fun h => ?_)
                refine aw_skip ?_; simp (maxSteps := 1000000) (disch := omega) [-List.getD_eq_getElem?_getD]
                refine fin19 _ H1 _ kv w c0 c1 c2 c3 h4 hks hx hw' (by omega) ?_
                simp [hb1, hb2]
              · have hnw : n = w.length := by omega
                subst hnw
                rw [wadd_new fun j hj => n2 j hj] at hw'
                have ne1 : ((w.length : Int) == w.length) = true := beq_self_eq_true _
                have hzs : ∀ x ∈ w ++ [((x1, y2), zs4)], x.2.length = 4 := by
                  intro x hx
                  rcases List.mem_append.1 hx with hx | hx
                  · exact hks x hx
                  · simp at hx; rw [hx]; rfl
                have hwx : (w ++ [((x1, y2), zs4)])[w.length]? = some ((x1, y2), [false, false, false, false]) := by simp [zs4]
                have hEs : endsL (w ++ [((x1, y2), zs4)]) = endsL w ++ [(x1, y2, 0)] := by simp [endsL]
                have fin18 : ∀ e H2 e2 k2, Two H T 3 (w.length + 1) (mpAV (endsL w ++ [(x1, y2, 0)])) 4 (w.length + 1) (kindsAV (w ++ [((x1, y2), zs4)])) H2 e2 k2 → envLe H2.length T.length e [(0, .sl l.length (mpAV l) .none), (1, .sl m.length (mpAV m) .none), (6, e2), (7, k2), (8, .int .i64 (i : Nat)), (9, .int .i64 (k : Nat)), (10, .int .i64 q), (11, .int .i64 (w.length : Nat))] → K7 ⟨e, H2, T⟩ := by
                  intro e H2 e2 k2 t1 he
                  have hlen : (w ++ [((x1, y2), zs4)]).length = w.length + 1 := by simp
                  refine fin19 e H2 e2 k2 (w ++ [((x1, y2), zs4)]) false false false false (by rw [hEs, hlen]; exact t1) hzs hwx hw' (by rw [hlen]; omega) he
                clear fin19
                rcases h4.fst.2 with ⟨e0, rfl⟩ | ⟨a, cap, r, rfl, ha, hba, hra⟩
                · obtain rfl : w = [] := List.length_eq_zero_iff.1 e0
                  refine aw_reg fun K hK => ?_; simp (maxSteps := 1000000) (disch := omega) [-List.getD_eq_getElem?_getD]; refine hK _ ?_; clear hK K
                  refine aw_if rfl (fun h => ?_) (fun h => absurd h (by simp))
                  refine aw_drawT 13 [] [] [] drawMixed (by kernel_rfl) (by kernel_rfl) (by kernel_rfl) fun K hK => ?_
                  have fin17 : ∀ e H2 e2, Two H T 3 (([] : Wy).length + 1) (mpAV (endsL [] ++ [(x1, y2, 0)])) 4 ([] : Wy).length (kindsAV []) H2 e2 kv → envLe H2.length T.length e [(0, .sl l.length (mpAV l) .none), (1, .sl m.length (mpAV m) .none), (6, e2), (7, kv), (8, .int .i64 (i : Nat)), (9, .int .i64 (k : Nat)), (10, .int .i64 q), (11, .int .i64 (([] : Wy).length : Nat))] → K ⟨e, H2, T⟩ := by
                    intro e H2 e2 t1 he
                    refine hK _ (aw_weak ⟨[(0, .sl l.length (mpAV l) .none), (1, .sl m.length (mpAV m) .none), (6, e2), (7, kv), (8, .int .i64 (i : Nat)), (9, .int .i64 (k : Nat)), (10, .int .i64 q), (11, .int .i64 (([] : Wy).length : Nat))], H2, T⟩ (weak_to [] [] (by simp) (by simp) (by simpa using t1.len) (by simp) t1.ok he) ?_)
                    clear hK K
                    have tb := t1.below1
                    have tl := t1.len
                    rcases t1.snd.2 with ⟨e0, rfl⟩ | ⟨a2, cap2, r2, rfl, ha2, hba2, hra2⟩
                    · have hv0 : kindsAV [] = [] := List.length_eq_zero_iff.1 (by rw [t1.snd.1, e0])
                      have hg := fun nc hn => (t1.symm.fresh 1 [.bool false, .bool false, .bool false, .bool false] nc rfl hn (by simp)).symm
                      rw [← kindsAV_snoc, hv0] at fin18
                      rw [e0] at fin18 hg
                      refine aw_reg0 fun K hK => ?_; simp (maxSteps := 1000000) (disch := omega) [-List.getD_eq_getElem?_getD]
                      intro nc hn
                      refine hK _ ?_; clear hK K
                      refine fin18 _ _ _ _ (hg nc hn) ?_
                      have hgb := (hg nc hn).below1
                      simp at hgb
                      simp [e0, hgb]
                    · have hp := fun hle => (t1.symm.put (xs := [.bool false, .bool false, .bool false, .bool false]) hra2 rfl hle (below_kinds _ _ _) (by simp)).symm
                      have hgr := fun nc hn => (t1.symm.grow (r := r2) (nc := nc) (xs := [.bool false, .bool false, .bool false, .bool false]) rfl hn (below_kinds _ _ _) (by simp)).symm
                      rw [kindsAV_snoc] at hp hgr
                      refine aw_reg0 fun K hK => ?_; simp (maxSteps := 1000000) (disch := omega) [-List.getD_eq_getElem?_getD]
                      refine ⟨40, _, [.bool false, .bool false, .bool false, .bool false], 1, by kernel_rfl, hba2, by simp [kindsAV_len hks] <;> omega, by simp, by simp <;> omega, by omega, by kernel_rfl, by simp, fun hle => ?_, fun nc hlt hnc => ?_⟩
                      · have hg := hp hle
                        simp only [cells40]
                        generalize hX : H2.set a2 _ = H3 at hg ⊢
                        have hgb := hg.below1
                        have hgb2 := below_csl.1 hg.below2
                        simp (maxSteps := 1000000) (disch := omega) [-List.getD_eq_getElem?_getD]
                        refine hK _ ?_; clear hK K
                        refine fin18 _ _ _ _ hg ?_
                        simp [hgb, hgb2]
                      · have hg := hgr nc hnc
                        simp only [cells40]
                        generalize hX : H2 ++ [Blk.cells _] = H3 at hg ⊢
                        generalize hY : H2.length = j3 at hg ⊢
                        have hgb := hg.below1
                        have hgb2 := below_csl.1 hg.below2
                        simp (maxSteps := 1000000) (disch := omega) [-List.getD_eq_getElem?_getD]
                        refine hK _ ?_; clear hK K
                        refine fin18 _ _ _ _ hg ?_
                        simp [hgb, hgb2]
                  have hg := fun nc hn => h4.fresh 1 [.int .i64 x1, .int .i64 y2, .int .i64 0] nc rfl hn (by simp)
                  simp (maxSteps := 1000000) (disch := omega) [-List.getD_eq_getElem?_getD, hat.1, hat.2.1, hat.2.2, hat2.1, hat2.2.1, hat2.2.2, hk, hkm, mpAV_len]
                  intro nc hn
                  refine fin17 _ _ _ (hg nc hn) ?_
                  have hgb := (hg nc hn).below2
                  simp at hgb
                  simp [hgb]
                · have hp := fun hle => h4.put (xs := [.int .i64 x1, .int .i64 y2, .int .i64 0]) hra rfl hle (below_mp _ _ _) (by simp)
                  have hgr := fun nc hn => h4.grow (r := r) (nc := nc) (xs := [.int .i64 x1, .int .i64 y2, .int .i64 0]) rfl hn (below_mp _ _ _) (by simp)
                  rw [mpAV_snoc] at hp hgr
                  refine aw_reg fun K hK => ?_; simp (maxSteps := 1000000) (disch := omega) [-List.getD_eq_getElem?_getD, ne1]; refine hK _ ?_; clear hK K
                  refine aw_if rfl (fun h => ?_) (fun h => absurd h (by simp))
                  refine aw_drawT 13 [] [] [] drawMixed (by kernel_rfl) (by kernel_rfl) (by kernel_rfl) fun K hK => ?_
                  have fin17 : ∀ e H2 e2, Two H T 3 (w.length + 1) (mpAV (endsL w ++ [(x1, y2, 0)])) 4 w.length (kindsAV w) H2 e2 kv → envLe H2.length T.length e [(0, .sl l.length (mpAV l) .none), (1, .sl m.length (mpAV m) .none), (6, e2), (7, kv), (8, .int .i64 (i : Nat)), (9, .int .i64 (k : Nat)), (10, .int .i64 q), (11, .int .i64 (w.length : Nat))] → K ⟨e, H2, T⟩ := by
                    intro e H2 e2 t1 he
                    refine hK _ (aw_weak ⟨[(0, .sl l.length (mpAV l) .none), (1, .sl m.length (mpAV m) .none), (6, e2), (7, kv), (8, .int .i64 (i : Nat)), (9, .int .i64 (k : Nat)), (10, .int .i64 q), (11, .int .i64 (w.length : Nat))], H2, T⟩ (weak_to [] [] (by simp) (by simp) (by simpa using t1.len) (by simp) t1.ok he) ?_)
                    clear hK K
                    have tb := t1.below1
                    have tl := t1.len
                    rcases t1.snd.2 with ⟨e0, rfl⟩ | ⟨a2, cap2, r2, rfl, ha2, hba2, hra2⟩
                    · have hv0 : kindsAV w = [] := List.length_eq_zero_iff.1 (by rw [t1.snd.1, e0])
                      have hg := fun nc hn => (t1.symm.fresh 1 [.bool false, .bool false, .bool false, .bool false] nc rfl hn (by simp)).symm
                      rw [← kindsAV_snoc, hv0] at fin18
                      rw [e0] at fin18 hg
                      refine aw_reg0 fun K hK => ?_; simp (maxSteps := 1000000) (disch := omega) [-List.getD_eq_getElem?_getD]
                      intro nc hn
                      refine hK _ ?_; clear hK K
                      refine fin18 _ _ _ _ (hg nc hn) ?_
                      have hgb := (hg nc hn).below1
                      simp at hgb
                      simp [e0, hgb]
                    · have hp := fun hle => (t1.symm.put (xs := [.bool false, .bool false, .bool false, .bool false]) hra2 rfl hle (below_kinds _ _ _) (by simp)).symm
                      have hgr := fun nc hn => (t1.symm.grow (r := r2) (nc := nc) (xs := [.bool false, .bool false, .bool false, .bool false]) rfl hn (below_kinds _ _ _) (by simp)).symm
                      rw [kindsAV_snoc] at hp hgr
                      refine aw_reg0 fun K hK => ?_; simp (maxSteps := 1000000) (disch := omega) [-List.getD_eq_getElem?_getD]
                      refine ⟨40, _, [.bool false, .bool false, .bool false, .bool false], 1, by kernel_rfl, hba2, by simp [kindsAV_len hks] <;> omega, by simp, by simp <;> omega, by omega, by kernel_rfl, by simp, fun hle => ?_, fun nc hlt hnc => ?_⟩
                      · have hg := hp hle
                        simp only [cells40]
                        generalize hX : H2.set a2 _ = H3 at hg ⊢
                        have hgb := hg.below1
                        have hgb2 := below_csl.1 hg.below2
                        simp (maxSteps := 1000000) (disch := omega) [-List.getD_eq_getElem?_getD]
                        refine hK _ ?_; clear hK K
                        refine fin18 _ _ _ _ hg ?_
                        simp [hgb, hgb2]
                      · have hg := hgr nc hnc
                        simp only [cells40]
                        generalize hX : H2 ++ [Blk.cells _] = H3 at hg ⊢
                        generalize hY : H2.length = j3 at hg ⊢
                        have hgb := hg.below1
                        have hgb2 := below_csl.1 hg.below2
                        simp (maxSteps := 1000000) (disch := omega) [-List.getD_eq_getElem?_getD]
                        refine hK _ ?_; clear hK K
                        refine fin18 _ _ _ _ hg ?_
                        simp [hgb, hgb2]
                  simp (maxSteps := 1000000) (disch := omega) [-List.getD_eq_getElem?_getD, hat.1, hat.2.1, hat.2.2, hat2.1, hat2.2.1, hat2.2.2, hk, hkm, mpAV_len]
                  refine ⟨32, _, [.int .i64 x1, .int .i64 y2, .int .i64 0], 1, by kernel_rfl, hba, by simp [mpAV_len, endsL_len]; omega, by simp, by simp; omega, by omega, by kernel_rfl, by simp, fun hle => ?_, fun nc hlt hnc => ?_⟩
                  · have hg := hp hle
                    simp only [cells32]
                    generalize hX : H1.set a _ = H3 at hg ⊢
                    have hgb := below_csl.1 hg.below1
                    have hgb2 := hg.below2
                    simp (maxSteps := 1000000) (disch := omega) [-List.getD_eq_getElem?_getD]
                    refine fin17 _ _ _ hg ?_
                    simp [hgb, hgb2]
                  · have hg := hgr nc hnc
                    simp only [cells32]
                    generalize hX : H1 ++ [Blk.cells _] = H3 at hg ⊢
                    generalize hY : H1.length = j3 at hg ⊢
                    have hgb := below_csl.1 hg.below1
                    have hgb2 := hg.below2
                    simp (maxSteps := 1000000) (disch := omega) [-List.getD_eq_getElem?_getD]
                    refine fin17 _ _ _ hg ?_
                    simp [hgb, hgb2]
            clear hK6
            refine aw_then fun K7 hK7 => ?_
            by_cases g : n < w.length
            · obtain ⟨a, cap, r, rfl, ha, hba, hra⟩ : ∃ a cap r, ev = .csl a w.length cap ∧ H.length ≤ a ∧ H1[a]? = some (.cells (mpAV (endsL w) ++ List.replicate r .top)) ∧ w.length * 3 + r = cap * 3 := by
                rcases h4.fst.2 with ⟨e, _⟩ | h
                · omega
                · exact h
              have gn : n < (endsL w).length := by rw [endsL_len]; exact g
              have hat3 := mpAV_at (endsL w) n gn
              have hkey := key_at (e := (x1, y2)) g
              have bg : decide ((n : Int) < w.length) = true := decide_eq_true (by omega)
              simp only at hkey
              have hlE : n * 3 + 1 < (mpAV (endsL w)).length := by rw [mpAV_len, endsL_len]; omega
              have hB1 : (mpAV (endsL w) ++ List.replicate r AV.top).getD (n * 3) .top = _ := (by rw [List.getD_eq_getElem?_getD, List.getElem?_append_left (by omega), ← List.getD_eq_getElem?_getD] : (mpAV (endsL w) ++ List.replicate r AV.top).getD (n * 3) .top = (mpAV (endsL w)).getD (n * 3) .top).trans hat3.1
              have hB2 : (mpAV (endsL w) ++ List.replicate r AV.top).getD (n * 3 + 1) .top = _ := (by rw [List.getD_eq_getElem?_getD, List.getElem?_append_left (by omega), ← List.getD_eq_getElem?_getD] : (mpAV (endsL w) ++ List.replicate r AV.top).getD (n * 3 + 1) .top = (mpAV (endsL w)).getD (n * 3 + 1) .top).trans hat3.2.1
              have hBl : (mpAV (endsL w) ++ List.replicate r AV.top).length = cap * 3 := by rw [List.length_append, List.length_replicate, mpAV_len, endsL_len]; exact hra
              generalize hBB : mpAV (endsL w) ++ List.replicate r AV.top = B at hba hB1 hB2 hBl
              generalize (endsL w).getD n d0 = u at *
              obtain ⟨u1, u2, u3⟩ := u
              simp only at hat3 hkey
              refine aw_draw [] [] [] drawMixed (by kernel_rfl) (by kernel_rfl) fun K hK => ?_
              by_cases hu1 : u1 = x1
              · subst hu1
                have bu1 : (u1 != u1) = false := bne_self_eq_false u1
                by_cases hu2 : u2 = y2
                · subst hu2
                  have bu2 : (u2 != u2) = false := bne_self_eq_false u2
                  simp (maxSteps := 1000000) (disch := omega) [-List.getD_eq_getElem?_getD, bg, g, hba, hB1, hB2, hBl, hat.1, hat.2.1, hat.2.2, hat2.1, hat2.2.1, hat2.2.2, hk, hkm, mpAV_len]
                  refine hK _ ?_; clear hK K
                  refine aw_if rfl (fun h => absurd h (by simp)) (fun h => ?_)
                  refine aw_exit ?_; simp (maxSteps := 1000000) (disch := omega) [-List.getD_eq_getElem?_getD]
                  refine go (fun _ => hkey.2 ⟨rfl, rfl⟩) _ ?_
                  simp [hb1, hb2]
                · have bu2 : (u2 != y2) = true := bne_iff_ne.2 hu2
                  have bu3 : (u2 == y2) = false := beq_eq_false_iff_ne.2 hu2
                  simp (maxSteps := 1000000) (disch := omega) [-List.getD_eq_getElem?_getD, bg, g, hba, hB1, hB2, hBl, hat.1, hat.2.1, hat.2.2, hat2.1, hat2.2.1, hat2.2.2, hk, hkm, mpAV_len, bu2, bu3, hu2]
                  refine hK _ ?_; clear hK K
                  refine aw_if rfl (fun h => ?_) (fun h => absurd h (by simp))
                  refine aw_skip ?_; simp (maxSteps := 1000000) (disch := omega) [-List.getD_eq_getElem?_getD]
                  refine hK7 _ ?_; clear hK7
                  refine aw_block ?_
                  refine aw_reg0 fun K hK => ?_; simp (maxSteps := 1000000) (disch := omega) [-List.getD_eq_getElem?_getD]
                  refine hK _ ?_; clear hK K
                  refine ⟨n + 1, ⟨by show n + 1 ≤ _; omega, fun j hj => ?_⟩, by show w.length - (n + 1) < w.length - n; omega, ?_⟩
                  · rcases Nat.lt_or_ge j n with h5 | h5
                    · exact n2 j h5
                    · have : j = n := by omega
                      subst this
                      exact fun hh => hu2 (hkey.1 hh).2
                  · refine weak_to [] [] ?_ ?_ ?_ ?_ h4.ok ?_
                    all_goals simp [hbl, hb1, hb2]
              · have bu1 : (u1 != x1) = true := bne_iff_ne.2 hu1
                have bu3 : (u1 == x1) = false := beq_eq_false_iff_ne.2 hu1
                simp (maxSteps := 1000000) (disch := omega) [-List.getD_eq_getElem?_getD, bg, g, hba, hB1, hB2, hBl, hat.1, hat.2.1, hat.2.2, hat2.1, hat2.2.1, hat2.2.2, hk, hkm, mpAV_len, bu1, bu3, hu1]
                refine hK _ ?_; clear hK K
                refine aw_if rfl (fun h => ?_) (fun h => absurd h (by simp))
                refine aw_skip ?_; simp (maxSteps := 1000000) (disch := omega) [-List.getD_eq_getElem?_getD]
                refine hK7 _ ?_; clear hK7
                refine aw_block ?_
                refine aw_reg0 fun K hK => ?_; simp (maxSteps := 1000000) (disch := omega) [-List.getD_eq_getElem?_getD]
                refine hK _ ?_; clear hK K
                refine ⟨n + 1, ⟨by show n + 1 ≤ _; omega, fun j hj => ?_⟩, by show w.length - (n + 1) < w.length - n; omega, ?_⟩
                · rcases Nat.lt_or_ge j n with h5 | h5
                  · exact n2 j h5
                  · have : j = n := by omega
                    subst this
                    exact fun hh => hu1 (hkey.1 hh).1
                · refine weak_to [] [] ?_ ?_ ?_ ?_ h4.ok ?_
                  all_goals simp [hbl, hb1, hb2]
            · have bg : decide ((n : Int) < w.length) = false := decide_eq_false (by omega)
              rcases h4.fst.2 with ⟨e0, rfl⟩ | ⟨a, cap, r, rfl, ha, hba, hra⟩
              · have n0 : n = 0 := by omega
                subst n0
                refine aw_draw [] [] [] drawMixed (by kernel_rfl) (by kernel_rfl) fun K hK => ?_; simp (maxSteps := 1000000) (disch := omega) [-List.getD_eq_getElem?_getD, bg, g]
                refine hK _ ?_; clear hK K
                refine aw_if rfl (fun h => absurd h (by simp)) (fun h => ?_)
                refine aw_exit ?_; simp (maxSteps := 1000000) (disch := omega) [-List.getD_eq_getElem?_getD]
                refine go (fun h => absurd h g) _ ?_
                simp [hb1, hb2]
              · refine aw_draw [] [] [] drawMixed (by kernel_rfl) (by kernel_rfl) fun K hK => ?_; simp (maxSteps := 1000000) (disch := omega) [-List.getD_eq_getElem?_getD, bg, g]
                refine hK _ ?_; clear hK K
                refine aw_if rfl (fun h => absurd h (by simp)) (fun h => ?_)
                refine aw_exit ?_; simp (maxSteps := 1000000) (disch := omega) [-List.getD_eq_getElem?_getD]
                refine go (fun h => absurd h g) _ ?_
                simp [hb1, hb2]
        · simp [-List.getD_eq_getElem?_getD] at hkm
          have e : k = m.length := by omega
          subst e
          have hrow := refT_row (m := m) hk
          rw [hrow] at h3 h4
          refine aw_exit ?_; simp (maxSteps := 1000000) (disch := omega) [-List.getD_eq_getElem?_getD]
          refine hK3 _ ?_; clear hK3
          refine aw_reg0 fun K hK => ?_; simp (maxSteps := 1000000) (disch := omega) [-List.getD_eq_getElem?_getD]
          refine hK _ ?_; clear hK K
          refine ⟨(i + 1, H1, ev, kv), ⟨by show i + 1 ≤ _; omega, by show _ ≤ (i + 1) * m.length; rw [Nat.add_mul, Nat.one_mul]; exact h3, h4⟩, by show l.length - (i + 1) < l.length - i; omega, ?_⟩
          refine weak_to [] [] ?_ ?_ ?_ ?_ h4.ok ?_
          all_goals simp [hbl, hb1, hb2]
    · simp [-List.getD_eq_getElem?_getD] at hk
      have e : i = l.length := by omega
      subst e
      rw [refT_all] at h2 h3
      have hks : ∀ x ∈ refW l m, x.2.length = 4 := fun x hx => ((refW_ok kl km).ks x.1 x.2 hx).1
      have hw5 : (refW l m).length ≤ 250000 := Nat.le_trans h2 (Nat.le_trans (Nat.mul_le_mul l5 m5) (by omega))
      have hO2 : refO l m = (refW l m).filterMap pickR := rfl
      generalize refW l m = w at *
      rw [hO2] at hO
      have hb1 := h3.below1
      have hb2 := h3.below2
      have hbl := h3.len
      refine aw_exit ?_; simp (maxSteps := 1000000) (disch := omega) [-List.getD_eq_getElem?_getD]
      refine hK1 _ (aw_weak ⟨[(6, ev), (7, kv)], H1, T⟩ (weak_to [] [] (by simp) (by simp) (by simpa using hbl) (by simp) h3.ok (by simp [hb1, hb2])) ?_)
      refine aw_reg fun K hK => ?_; simp (maxSteps := 1000000) (disch := omega) [-List.getD_eq_getElem?_getD]; refine hK _ ?_; clear hK K
      refine aw_then fun K1 hK1 => ?_
      have fin : ∀ e (H2 : List Blk) (T2 : Toks) (tg : Tag), HOk H2 T2 → (∃ G, H2 = H ++ G) → (∃ G, T2 = T ++ G) → eget e 12 = .sl (w.filterMap pickR).length (mpAV (w.filterMap pickR)) tg → K1 ⟨e, H2, T2⟩ := by
        rintro e H2 T2 tg hok ⟨G, rfl⟩ ⟨GT, rfl⟩ he
        refine hK1 _ (aw_weak ⟨[(12, .sl (w.filterMap pickR).length (mpAV (w.filterMap pickR)) .none)], H, T⟩ (weak_to G GT rfl rfl (by simp) (by simp) HO ?_) ?_)
        · simp [he]
        have cs := ofR_ok (w.filterMap pickR) (Nat.le_trans (List.length_filterMap_le _ _) (by omega)) H T .none
        rw [hO] at cs
        refine aw_reg fun K hK => ?_; simp (maxSteps := 1000000) (disch := omega) [-List.getD_eq_getElem?_getD]
        refine acall_is (cs) ?_; simp (maxSteps := 1000000) (disch := omega) [-List.getD_eq_getElem?_getD]
        refine hK _ ?_; clear hK K
        refine aw_ret ?_; simp (maxSteps := 1000000) (disch := omega) [-List.getD_eq_getElem?_getD]
      clear hK1
      by_cases hw0 : w = []
      · subst hw0
        refine aw_reg fun K hK => ?_; simp (maxSteps := 1000000) (disch := omega) [-List.getD_eq_getElem?_getD]; refine hK _ ?_; clear hK K
        refine aw_block ?_
        refine aw_loop (X := Unit) (fun _ => ⟨[(6, ev), (12, .sl 0 [] .none), (13, .int .i64 0)], H1, T⟩) (fun _ => True) (fun _ => 0) () trivial ?_ ?_
        · refine weak_to [] [] ?_ ?_ ?_ ?_ h3.ok ?_
          all_goals simp [hbl, hb1]
        · rintro _ _
          refine aw_then fun K2 hK2 => ?_
          rcases h3.fst.2 with ⟨_, rfl⟩ | ⟨a, cap, r, rfl, ha, hba, hra⟩
          · refine aw_reg fun K hK => ?_; simp (maxSteps := 1000000) (disch := omega) [-List.getD_eq_getElem?_getD]; refine hK _ ?_; clear hK K
            refine aw_if rfl (fun h => absurd h (by simp)) (fun h => ?_)
            refine aw_exit ?_; simp (maxSteps := 1000000) (disch := omega) [-List.getD_eq_getElem?_getD]
            refine fin _ H1 T .none h3.ok h3.ext ⟨[], by simp⟩ ?_
            simp [mpAV_nil]
          · refine aw_reg fun K hK => ?_; simp (maxSteps := 1000000) (disch := omega) [-List.getD_eq_getElem?_getD]; refine hK _ ?_; clear hK K
            refine aw_if rfl (fun h => absurd h (by simp)) (fun h => ?_)
            refine aw_exit ?_; simp (maxSteps := 1000000) (disch := omega) [-List.getD_eq_getElem?_getD]
            refine fin _ H1 T .none h3.ok h3.ext ⟨[], by simp⟩ ?_
            simp [mpAV_nil]
      · have hpos : 0 < w.length := List.length_pos_iff.2 hw0
        obtain ⟨a, cap, r, rfl, ha, hba, hra⟩ : ∃ a cap r, ev = .csl a w.length cap ∧ H.length ≤ a ∧ H1[a]? = some (.cells (mpAV (endsL w) ++ List.replicate r .top)) ∧ w.length * 3 + r = cap * 3 := by
          rcases h3.fst.2 with ⟨e, _⟩ | h
          · omega
          · exact h
        obtain ⟨b, cap2, r2, rfl, hb, hbb, hbr⟩ : ∃ b cap r, kv = .csl b w.length cap ∧ H.length ≤ b ∧ H1[b]? = some (.cells (kindsAV w ++ List.replicate r .top)) ∧ w.length * 4 + r = cap * 4 := by
          rcases h3.snd.2 with ⟨e, _⟩ | h
          · omega
          · exact h
        have hab : a ≠ b := fun e => h3.apart a rfl (by rw [e]; rfl)
        have hBl : (kindsAV w ++ List.replicate r2 AV.top).length = cap2 * 4 := by rw [List.length_append, List.length_replicate, kindsAV_len hks]; exact hbr
        have hBat := fun (j : Nat) (e : Pr) (c0 c1 c2 c3 : Bool) (hj : w[j]? = some (e, [c0, c1, c2, c3])) => kindsAV_at (List.replicate r2 AV.top) hks hj
        have hsame := set_same hba
        obtain ⟨HF, HFa, HFb, HFs, HFe, hokF, HFl, HF0⟩ : ∃ HF : List AV → List Blk, (∀ X, (HF X)[a]? = some (.cells X)) ∧ (∀ X, (HF X)[b]? = some (.cells (kindsAV w ++ List.replicate r2 AV.top))) ∧ (∀ X Y, (HF X).set a (.cells Y) = HF Y) ∧ (∀ X, ∃ G, HF X = H ++ G) ∧
            (∀ (D : List Mp) (T2 : Toks), HOk (HF (mpAV D ++ List.replicate r .top)) (T ++ T2)) ∧ (∀ X, a < (HF X).length ∧ b < (HF X).length ∧ H.length ≤ (HF X).length) ∧ HF (mpAV (endsL w) ++ List.replicate r .top) = H1 := by
          have ha1 := (List.getElem?_eq_some_iff.1 hba).1
          have hb1 := (List.getElem?_eq_some_iff.1 hbb).1
          obtain ⟨G, hG⟩ := h3.ext
          refine ⟨fun X => H1.set a (.cells X), fun X => List.getElem?_set_self ha1, fun X => by rw [List.getElem?_set_ne hab]; exact hbb, fun X Y => List.set_set .., fun X => ⟨G.set (a - H.length) (.cells X), by show H1.set a (.cells X) = _; rw [hG, List.set_append_right _ _ ha]⟩, fun D T2 => (h3.ok.set ?_).toks (by simp), fun X => by rw [List.length_set]; exact ⟨ha1, hb1, hbl⟩, hsame⟩
          intro v hv
          rcases List.mem_append.1 hv with hv | hv
          · exact below_mp _ _ _ v hv
          · rw [(List.mem_replicate.1 hv).2]; exact Below.top
        have HFa2 : ∀ X (h : a < (HF X).length), (HF X)[a]'h = .cells X := fun X h => by
          have := HFa X
          rw [List.getElem?_eq_getElem h] at this
          exact Option.some.inj this
        have HFb2 : ∀ X (h : b < (HF X).length), (HF X)[b]'h = .cells (kindsAV w ++ List.replicate r2 AV.top) := fun X h => by
          have := HFb X
          rw [List.getElem?_eq_getElem h] at this
          exact Option.some.inj this
        generalize hBB : kindsAV w ++ List.replicate r2 AV.top = B at HFb HFb2 hBl hBat
        have hE := endsL_len w
        refine aw_reg fun K hK => ?_; simp (maxSteps := 1000000) (disch := omega) [-List.getD_eq_getElem?_getD]; refine hK _ ?_; clear hK K
        refine aw_own 12 0 3 [] (by omega) (by simp) ?_
        refine aw_block ?_
        refine aw_loop (X := Nat × List Mp) (fun x => ⟨[(6, .csl a w.length cap), (7, .csl b w.length cap2), (12, .sl ((w.take x.1).filterMap pickR).length (mpAV ((w.take x.1).filterMap pickR)) (.own T.length)), (13, .int .i64 (x.1 : Nat))], HF (mpAV x.2 ++ List.replicate r .top), T ++ [(((w.take x.1).filterMap pickR).length * 3, 3)]⟩)
          (fun x => x.1 ≤ w.length ∧ x.2.length = w.length ∧ ∀ j, x.1 ≤ j → x.2.getD j d0 = (endsL w).getD j d0) (fun x => w.length - x.1) (0, endsL w) ?_ ?_ ?_
        · exact ⟨Nat.zero_le _, hE, fun _ _ => rfl⟩
        · have h0 := hokF (endsL w) [(0, 3)]
          rw [HF0] at h0
          simp only [HF0]
          refine weak_to [] [] ?_ ?_ ?_ ?_ (by simpa using h0) ?_
          all_goals simp [mpAV_nil, hbl, below_csl.1 hb1, below_csl.1 hb2]
        · rintro ⟨i, D⟩ ⟨d0', d1, d2⟩
          simp only at d0' d1 d2
          refine aw_then fun K2 hK2 => ?_
          have hFl := HFl (mpAV D ++ List.replicate r .top)
          have hol : ((w.take i).filterMap pickR).length ≤ 250000 := Nat.le_trans (List.length_filterMap_le _ _) (by rw [List.length_take]; omega)
          by_cases hg : i < w.length
          rotate_left
          · have bg : decide ((i : Int) < w.length) = false := decide_eq_false (by omega)
            have e : i = w.length := by omega
            subst e
            refine aw_reg fun K hK => ?_; simp (maxSteps := 1000000) (disch := omega) [-List.getD_eq_getElem?_getD, bg, hg]; refine hK _ ?_; clear hK K
            refine aw_if rfl (fun h => absurd h (by simp)) (fun h => ?_)
            refine aw_exit ?_; simp (maxSteps := 1000000) (disch := omega) [-List.getD_eq_getElem?_getD]
            refine fin _ _ _ (.own T.length) (hokF D _) (HFe _) ⟨_, rfl⟩ ?_
            simp
          have bg : decide ((i : Int) < w.length) = true := decide_eq_true (by omega)
          obtain ⟨⟨⟨f, t⟩, ks⟩, hx⟩ : ∃ x, w[i]? = some x := ⟨_, List.getElem?_eq_getElem hg⟩
          obtain ⟨c0, c1, c2, c3, rfl⟩ := four (hks _ (List.mem_of_getElem? hx))
          obtain ⟨hb0, hb1', hb2', hb3'⟩ := hBat i _ c0 c1 c2 c3 hx
          have hB1 : B.getD (i * 4 + 1) .top = .bool c1 := by rw [List.getD_eq_getElem?_getD, hb1']; rfl
          have hB2 : B.getD (i * 4 + 2) .top = .bool c2 := by rw [List.getD_eq_getElem?_getD, hb2']; rfl
          have hB3 : B.getD (i * 4 + 3) .top = .bool c3 := by rw [List.getD_eq_getElem?_getD, hb3']; rfl
          have hft := filterMap_take hx pickR
          have hne := d2 i (Nat.le_refl _)
          rw [endsL_getD hx] at hne
          have hset := fun k => mpAV_kind D i k (List.replicate r AV.top) (by omega)
          simp only [hne] at hset
          have hXl : (mpAV D ++ List.replicate r AV.top).length = cap * 3 := by rw [List.length_append, List.length_replicate, mpAV_len, d1]; exact hra
          have hYl : ∀ k, (mpAV (D.set i (f, t, k)) ++ List.replicate r AV.top).length = cap * 3 := fun k => by rw [List.length_append, List.length_replicate, mpAV_len, List.length_set, d1]; exact hra
          have hcut : ∀ k, ((mpAV (D.set i (f, t, k)) ++ List.replicate r AV.top).drop (i * 3)).take 3 = [.int .i64 f, .int .i64 t, .int .i64 k] := fun k => by
            rw [mpAV_cutR _ _ _ (by rw [List.length_set]; omega)]
            have : (D.set i (f, t, k)).getD i d0 = (f, t, k) := by rw [List.getD_eq_getElem?_getD, List.getElem?_set_self (by omega)]; rfl
            rw [this]
          clear hb0 hb1' hb2' hb3' hBat
          refine aw_reg fun K hK => ?_; simp (maxSteps := 1000000) (disch := omega) [-List.getD_eq_getElem?_getD, bg, hg]; refine hK _ ?_; clear hK K
          refine aw_if rfl (fun h => ?_) (fun h => absurd h (by simp))
          refine aw_skip ?_; simp (maxSteps := 1000000) (disch := omega) [-List.getD_eq_getElem?_getD]
          refine hK2 _ ?_; clear hK2
          refine aw_then fun K3 hK3 => ?_
          have next : ∀ e D', D'.length = w.length → (∀ j, i + 1 ≤ j → D'.getD j d0 = (endsL w).getD j d0) → HOk (HF (mpAV D' ++ List.replicate r .top)) (T ++ [(((w.take (i + 1)).filterMap pickR).length * 3, 3)]) →
              envLe (HF (mpAV D' ++ List.replicate r .top)).length (T.length + 1) e [(6, .csl a w.length cap), (7, .csl b w.length cap2), (12, .sl ((w.take (i + 1)).filterMap pickR).length (mpAV ((w.take (i + 1)).filterMap pickR)) (.own T.length)), (13, .int .i64 (i : Nat))] → K3 ⟨e, HF (mpAV D' ++ List.replicate r .top), T ++ [(((w.take (i + 1)).filterMap pickR).length * 3, 3)]⟩ := by
            intro e D' g1 g2 g3 he
            have gF := HFl (mpAV D' ++ List.replicate r .top)
            refine hK3 _ (aw_weak ⟨[(6, .csl a w.length cap), (7, .csl b w.length cap2), (12, .sl ((w.take (i + 1)).filterMap pickR).length (mpAV ((w.take (i + 1)).filterMap pickR)) (.own T.length)), (13, .int .i64 (i : Nat))], HF (mpAV D' ++ List.replicate r .top), T ++ [(((w.take (i + 1)).filterMap pickR).length * 3, 3)]⟩ (weak_to [] [] (by simp) (by simp) (by simpa using gF.2.2) (by simp) g3 (by simpa using he)) ?_)
            refine aw_reg0 fun K hK => ?_; simp (maxSteps := 1000000) (disch := omega) [-List.getD_eq_getElem?_getD]
            refine hK _ ?_; clear hK K
            refine ⟨(i + 1, D'), ⟨by show i + 1 ≤ _; omega, g1, g2⟩, by show w.length - (i + 1) < w.length - i; omega, ?_⟩
            refine weak_to [] [] ?_ ?_ ?_ ?_ g3 ?_
            all_goals simp [gF]
          clear hK3
          refine aw_block ?_
          refine aw_then fun K4 hK4 => ?_
          have fin3 : ∀ e k, pickR ((f, t), [c0, c1, c2, c3]) = some (f, t, k) → envLe (HF (mpAV (D.set i (f, t, k)) ++ List.replicate r .top)).length (T.length + 1) e [(6, .csl a w.length cap), (7, .csl b w.length cap2), (12, .sl ((w.take i).filterMap pickR).length (mpAV ((w.take i).filterMap pickR)) (.own T.length)), (13, .int .i64 (i : Nat))] → K4 ⟨e, HF (mpAV (D.set i (f, t, k)) ++ List.replicate r .top), T ++ [(((w.take i).filterMap pickR).length * 3, 3)]⟩ := by
            intro e k hp he
            rw [hp] at hft
            have hft : (w.take (i + 1)).filterMap pickR = (w.take i).filterMap pickR ++ [(f, t, k)] := hft
            have gF := HFl (mpAV (D.set i (f, t, k)) ++ List.replicate r .top)
            refine hK4 _ (aw_weak ⟨[(6, .csl a w.length cap), (7, .csl b w.length cap2), (12, .sl ((w.take i).filterMap pickR).length (mpAV ((w.take i).filterMap pickR)) (.own T.length)), (13, .int .i64 (i : Nat))], HF (mpAV (D.set i (f, t, k)) ++ List.replicate r .top), T ++ [(((w.take i).filterMap pickR).length * 3, 3)]⟩ (weak_to [] [] (by simp) (by simp) (by simpa using gF.2.2) (by simp) (hokF _ _) (by simpa using he)) ?_)
            have hn := next
            rw [hft] at hn
            refine aw_reg0 fun K hK => ?_; simp (maxSteps := 1000000) (disch := omega) [-List.getD_eq_getElem?_getD, hg, HFa, HFa2, hYl, hcut, mpAV_len, mpAV_snoc]
            refine hK _ ?_; clear hK K
            have hn2 := fun e => hn e (D.set i (f, t, k)) (by rw [List.length_set]; exact d1) (fun j hj => by rw [List.getD_eq_getElem?_getD, List.getElem?_set_ne (by omega), ← List.getD_eq_getElem?_getD]; exact d2 j (by omega)) (hokF _ _)
            simp only [List.length_append, List.length_singleton] at hn2
            refine hn2 _ ?_
            simp [HFl]
          clear hK4
          cases c1
          rotate_left
          · refine aw_block ?_
            refine aw_reg fun K hK => ?_; simp (maxSteps := 1000000) (disch := omega) [-List.getD_eq_getElem?_getD, hg, HFb, HFb2, hB1, hB2, hB3, hBl]; refine hK _ ?_; clear hK K
            refine aw_if rfl (fun h => ?_) (fun h => absurd h (by simp))
            refine aw_reg0 fun K hK => ?_; simp (maxSteps := 1000000) (disch := omega) [-List.getD_eq_getElem?_getD, hg, HFa, HFa2, HFs, hset, hXl]; refine hK _ ?_; clear hK K
            refine fin3 _ 1 (by rfl) ?_
            simp [HFl]
          cases c2
          · cases c3
            · refine aw_block ?_
              refine aw_reg fun K hK => ?_; simp (maxSteps := 1000000) (disch := omega) [-List.getD_eq_getElem?_getD, hg, HFb, HFb2, hB1, hB2, hB3, hBl]; refine hK _ ?_; clear hK K
              refine aw_if rfl (fun h => absurd h (by simp)) (fun h => ?_)
              refine aw_reg fun K hK => ?_; simp (maxSteps := 1000000) (disch := omega) [-List.getD_eq_getElem?_getD, hg, HFb, HFb2, hB1, hB2, hB3, hBl]; refine hK _ ?_; clear hK K
              refine aw_if rfl (fun h => absurd h (by simp)) (fun h => ?_)
              refine aw_reg fun K hK => ?_; simp (maxSteps := 1000000) (disch := omega) [-List.getD_eq_getElem?_getD, hg, HFb, HFb2, hB1, hB2, hB3, hBl]; refine hK _ ?_; clear hK K
              refine aw_if rfl (fun h => absurd h (by simp)) (fun h => ?_)
              refine aw_reg0 fun K hK => ?_; simp (maxSteps := 1000000) (disch := omega) [-List.getD_eq_getElem?_getD, hg, HFa, HFa2, HFs, hset, hXl]; refine hK _ ?_; clear hK K
              refine fin3 _ 3 (by rfl) ?_
              simp [HFl]
            · refine aw_block ?_
              refine aw_reg fun K hK => ?_; simp (maxSteps := 1000000) (disch := omega) [-List.getD_eq_getElem?_getD, hg, HFb, HFb2, hB1, hB2, hB3, hBl]; refine hK _ ?_; clear hK K
              refine aw_if rfl (fun h => absurd h (by simp)) (fun h => ?_)
              refine aw_reg fun K hK => ?_; simp (maxSteps := 1000000) (disch := omega) [-List.getD_eq_getElem?_getD, hg, HFb, HFb2, hB1, hB2, hB3, hBl]; refine hK _ ?_; clear hK K
              refine aw_if rfl (fun h => absurd h (by simp)) (fun h => ?_)
              refine aw_reg fun K hK => ?_; simp (maxSteps := 1000000) (disch := omega) [-List.getD_eq_getElem?_getD, hg, HFb, HFb2, hB1, hB2, hB3, hBl]; refine hK _ ?_; clear hK K
              refine aw_if rfl (fun h => absurd h (by simp)) (fun h => ?_)
              refine aw_reg0 fun K hK => ?_; simp (maxSteps := 1000000) (disch := omega) [-List.getD_eq_getElem?_getD, hg, HFa, HFa2, HFs, hset, hXl]; refine hK _ ?_; clear hK K
              refine fin3 _ 3 (by rfl) ?_
              simp [HFl]
          · cases c3
            · refine aw_block ?_
              refine aw_reg fun K hK => ?_; simp (maxSteps := 1000000) (disch := omega) [-List.getD_eq_getElem?_getD, hg, HFb, HFb2, hB1, hB2, hB3, hBl]; refine hK _ ?_; clear hK K
              refine aw_if rfl (fun h => absurd h (by simp)) (fun h => ?_)
              refine aw_reg fun K hK => ?_; simp (maxSteps := 1000000) (disch := omega) [-List.getD_eq_getElem?_getD, hg, HFb, HFb2, hB1, hB2, hB3, hBl]; refine hK _ ?_; clear hK K
              refine aw_if rfl (fun h => absurd h (by simp)) (fun h => ?_)
              refine aw_reg fun K hK => ?_; simp (maxSteps := 1000000) (disch := omega) [-List.getD_eq_getElem?_getD, hg, HFb, HFb2, hB1, hB2, hB3, hBl]; refine hK _ ?_; clear hK K
              refine aw_if rfl (fun h => ?_) (fun h => absurd h (by simp))
              refine aw_reg0 fun K hK => ?_; simp (maxSteps := 1000000) (disch := omega) [-List.getD_eq_getElem?_getD, hg, HFa, HFa2, HFs, hset, hXl]; refine hK _ ?_; clear hK K
              refine fin3 _ 2 (by rfl) ?_
              simp [HFl]
            · refine aw_block ?_
              refine aw_reg fun K hK => ?_; simp (maxSteps := 1000000) (disch := omega) [-List.getD_eq_getElem?_getD, hg, HFb, HFb2, hB1, hB2, hB3, hBl]; refine hK _ ?_; clear hK K
              refine aw_if rfl (fun h => absurd h (by simp)) (fun h => ?_)
              refine aw_reg fun K hK => ?_; simp (maxSteps := 1000000) (disch := omega) [-List.getD_eq_getElem?_getD, hg, HFb, HFb2, hB1, hB2, hB3, hBl]; refine hK _ ?_; clear hK K
              refine aw_if rfl (fun h => ?_) (fun h => absurd h (by simp))
              refine aw_exit ?_; simp (maxSteps := 1000000) (disch := omega) [-List.getD_eq_getElem?_getD]
              have hp : pickR ((f, t), [c0, false, true, true]) = none := by rfl
              rw [hp] at hft
              have hft : (w.take (i + 1)).filterMap pickR = (w.take i).filterMap pickR := by rw [hft]; simp
              have hn := next
              rw [hft] at hn
              refine hn _ _ d1 (fun j hj => d2 j (by omega)) (hokF D _) ?_
              simp [HFl]
end Go.Proofs.Ytfdlngemkhiiiaa
