/- The reference's Equal (layer 52).
   Conditions: small parts. -/
import Derived.Test.YtnmlpohhommagaaGreatDoorCWk1
namespace Cn
theorem getD_ext {a b : List (List UInt8)} (hl : a.length = b.length) (h : ∀ j, j < a.length → a.getD j [] = b.getD j []) : a = b := by
  apply List.ext_getElem hl
  intro i h1 h2
  have := h i h1
  rw [List.getD_eq_getElem?_getD, List.getD_eq_getElem?_getD, List.getElem?_eq_getElem h1, List.getElem?_eq_getElem h2] at this
  exact this
end Cn
namespace Go.Proofs.YtnmlpohhommagaaGreatDoor
open Go Go.Am Cn Lst
set_option linter.unusedVariables false
set_option maxRecDepth 100000

set_option maxRecDepth 100000 in
set_option maxHeartbeats 8000000 in
theorem equalR_ok (a b : Cl) (t1 t2 : Tag) (ha : Sm a) (hb : Sm b) (H : List Blk) (T : Toks) :
    ACall Tryz.prog 14 [.agg (clAV a t1), .agg (clAV b t2)] H T (Is (.bool (decide (a = b))) H T) := by
  refine callCl1 t1 (callCl2 t2 ?_)
  refine ACall.drop' ?_ (by simp)
  have hac := ha.cut
  have hbc := hb.cut
  have e1 := fun i h => strs_at (l := a.cut) (i := i) h
  have e2 := fun i h => strs_at (l := b.cut) (i := i) h
  have l1 := strs_len a.cut
  have l2 := strs_len b.cut
  have hsa : ∀ n t, BelowAll n t (strs a.cut) := fun n t => by simp
  have hsb : ∀ n t, BelowAll n t (strs b.cut) := fun n t => by simp
  generalize hF : decide (a = b) = F
  clear ha hb
  obtain ⟨s1, s2, s3, s4, s5, s6, s7⟩ := a
  obtain ⟨r1, r2, r3, r4, r5, r6, r7⟩ := b
  simp only [clAV, Cl.mk.injEq] at *
  generalize hS : strs s5 = S at *
  generalize hR : strs r5 = R at *
  refine acall_enter 6 [] Tryz.ntmps14 Tryz.func14 rfl (fun _ _ => Tryz.call14 _ _) (by simp) (fun HO => ?_)
  have HO1 : HOk (H ++ [.cells [.int .i64 s1, .str s2, .int .i64 s3, .str s4, .sl s5.length S .none, .int .i64 s6, .str s7], .cells [.int .i64 r1, .str r2, .int .i64 r3, .str r4, .sl r5.length R .none, .int .i64 r6, .str r7]]) T := by
    rw [show H ++ [.cells [.int .i64 s1, .str s2, .int .i64 s3, .str s4, .sl s5.length S .none, .int .i64 s6, .str s7], .cells [.int .i64 r1, .str r2, .int .i64 r3, .str r4, .sl r5.length R .none, .int .i64 r6, .str r7]] = (H ++ [.cells [.int .i64 s1, .str s2, .int .i64 s3, .str s4, .sl s5.length S .none, .int .i64 s6, .str s7]]) ++ [.cells [.int .i64 r1, .str r2, .int .i64 r3, .str r4, .sl r5.length R .none, .int .i64 r6, .str r7]] by simp]
    exact HOk.snoc (HO.snoc (by simp [hsa])) (by simp [hsb])
  refine aw_reg fun K hK => ?_; simp (maxSteps := 1000000) (disch := omega) [-List.getD_eq_getElem?_getD]; refine hK _ ?_; clear hK K
  refine aw_then fun K1 hK1 => ?_
  by_cases hl : s5.length = r5.length
  rotate_left
  · have b1 : ((s5.length : Int) == (r5.length : Nat)) = false := beq_eq_false_iff_ne.2 (by omega)
    have b2 : ((s5.length : Int) != (r5.length : Nat)) = true := bne_iff_ne.2 (by omega)
    obtain rfl : F = false := by
      rw [← hF, decide_eq_false_iff_not]
      rintro ⟨_, _, _, _, h, _⟩
      exact hl (by rw [h])
    refine aw_reg fun K hK => ?_; simp (maxSteps := 1000000) (disch := omega) [-List.getD_eq_getElem?_getD, b2]; refine hK _ ?_; clear hK K
    refine aw_if rfl (fun h => ?_) (fun h => absurd h (by simp))
    refine aw_reg fun K hK => ?_; simp (maxSteps := 1000000) (disch := omega) [-List.getD_eq_getElem?_getD]; refine hK _ ?_; clear hK K
    refine aw_ret ?_; simp (maxSteps := 1000000) (disch := omega) [-List.getD_eq_getElem?_getD]
  · have b1 : ((s5.length : Int) == (r5.length : Nat)) = true := by rw [hl]; simp
    have b2 : ((s5.length : Int) != (r5.length : Nat)) = false := by rw [hl]; simp
    refine aw_reg fun K hK => ?_; simp (maxSteps := 1000000) (disch := omega) [-List.getD_eq_getElem?_getD, hl]; refine hK _ ?_; clear hK K
    refine aw_if rfl (fun h => absurd h (by simp)) (fun h => ?_)
    refine aw_skip ?_; simp (maxSteps := 1000000) (disch := omega) [-List.getD_eq_getElem?_getD]
    refine hK1 _ ?_; clear hK1
    refine aw_then fun K1 hK1 => ?_
    refine aw_reg fun K hK => ?_; simp (maxSteps := 1000000) (disch := omega) [-List.getD_eq_getElem?_getD]; refine hK _ ?_; clear hK K
    refine aw_block ?_
    refine aw_loop (X := Nat) (fun i => ⟨[(2, .ptr H.length 0), (3, .ptr (H.length + 1) 0), (5, .int .i64 (i : Nat))], H ++ [.cells [.int .i64 s1, .str s2, .int .i64 s3, .str s4, .sl s5.length S .none, .int .i64 s6, .str s7], .cells [.int .i64 r1, .str r2, .int .i64 r3, .str r4, .sl r5.length R .none, .int .i64 r6, .str r7]], T⟩) (fun i => i ≤ s5.length ∧ ∀ j, j < i → s5.getD j [] = r5.getD j []) (fun i => s5.length - i) 0 ?_ ?_ ?_
    · exact ⟨Nat.zero_le _, fun j hj => absurd hj (Nat.not_lt_zero _)⟩
    · refine weak_to [] [] ?_ ?_ ?_ ?_ HO1 ?_
      all_goals simp [hl]
    · rintro i ⟨h1, h2⟩
      refine aw_then fun K2 hK2 => ?_
      by_cases hk : i < s5.length
      · have bk : decide ((i : Int) < (s5.length : Nat)) = true := decide_eq_true (by omega)
        have a1 := e1 i hk
        have a2 := e2 i (by omega)
        have i1 : i < S.length := by omega
        have i2 : i < R.length := by omega
        have i3 : i < r5.length := by omega
        have hne : s5.getD i [] ≠ r5.getD i [] → F = false := fun hne => by
          rw [← hF, decide_eq_false_iff_not]
          rintro ⟨_, _, _, _, h, _⟩
          exact hne (by rw [h])
        have h2' : s5.getD i [] = r5.getD i [] → ∀ j, j < i + 1 → s5.getD j [] = r5.getD j [] := fun he j hj => by
          by_cases e : j = i
          · subst e; exact he
          · exact h2 j (by omega)
        refine aw_reg fun K hK => ?_; simp (maxSteps := 1000000) (disch := omega) [-List.getD_eq_getElem?_getD, hk]; refine hK _ ?_; clear hK K
        refine aw_if rfl (fun h => ?_) (fun h => absurd h (by simp))
        refine aw_skip ?_; simp (maxSteps := 1000000) (disch := omega) [-List.getD_eq_getElem?_getD]
        refine hK2 _ ?_; clear hK2
        refine aw_then fun K3 hK3 => ?_
        refine aw_block ?_
        generalize s5.getD i [] = x at *
        generalize r5.getD i [] = y at *
        by_cases he : x = y
        · subst he
          have h2' := h2' rfl
          refine aw_draw [] [] [] drawMixed (by kernel_rfl) (by kernel_rfl) fun K hK => ?_; simp (maxSteps := 1000000) (disch := omega) [-List.getD_eq_getElem?_getD, a1, a2, i3, l1, l2]
          refine hK _ ?_; clear hK K
          refine aw_if rfl (fun h => absurd h (by simp)) (fun h => ?_)
          refine aw_skip ?_; simp (maxSteps := 1000000) (disch := omega) [-List.getD_eq_getElem?_getD]
          refine hK3 _ ?_; clear hK3
          refine aw_reg0 fun K hK => ?_; simp (maxSteps := 1000000) (disch := omega) [-List.getD_eq_getElem?_getD]
          refine hK _ ?_; clear hK K
          refine ⟨i + 1, ⟨by show i + 1 ≤ _; omega, h2'⟩, by show s5.length - (i + 1) < s5.length - i; omega, ?_⟩
          refine weak_to [] [] ?_ ?_ ?_ ?_ HO1 ?_
          all_goals simp
        · have be : (x == y) = false := beq_eq_false_iff_ne.2 he
          have be2 : (x != y) = true := bne_iff_ne.2 he
          obtain rfl := hne he
          refine aw_draw [] [] [] drawMixed (by kernel_rfl) (by kernel_rfl) fun K hK => ?_; simp (maxSteps := 1000000) (disch := omega) [-List.getD_eq_getElem?_getD, a1, a2, i3, l1, l2, be]
          refine hK _ ?_; clear hK K
          refine aw_if rfl (fun h => ?_) (fun h => absurd h (by simp))
          refine aw_reg fun K hK => ?_; simp (maxSteps := 1000000) (disch := omega) [-List.getD_eq_getElem?_getD]; refine hK _ ?_; clear hK K
          refine aw_ret ?_; simp (maxSteps := 1000000) (disch := omega) [-List.getD_eq_getElem?_getD]
      · have bk : decide ((i : Int) < (s5.length : Nat)) = false := decide_eq_false (by omega)
        have e : i = s5.length := by omega
        subst e
        have e5 : s5 = r5 := getD_ext hl h2
        clear e1 e2
        refine aw_reg fun K hK => ?_; simp (maxSteps := 1000000) (disch := omega) [-List.getD_eq_getElem?_getD]; refine hK _ ?_; clear hK K
        refine aw_if rfl (fun h => absurd h (by simp)) (fun h => ?_)
        refine aw_exit ?_; simp (maxSteps := 1000000) (disch := omega) [-List.getD_eq_getElem?_getD]
        refine hK1 _ ?_; clear hK1
        by_cases g1 : s1 = r1
        · subst g1
          by_cases g2 : s2 = r2
          · subst g2
            by_cases g3 : s3 = r3
            · subst g3
              by_cases g4 : s4 = r4
              · subst g4
                by_cases g5 : s6 = r6
                · subst g5
                  by_cases g6 : s7 = r7
                  · subst g6
                    obtain rfl : F = true := by rw [← hF]; simp [e5]
                    refine aw_reg fun K hK => ?_; simp (maxSteps := 1000000) (disch := omega) [-List.getD_eq_getElem?_getD]; refine hK _ ?_; clear hK K
                    refine aw_ret ?_; simp (maxSteps := 1000000) (disch := omega) [-List.getD_eq_getElem?_getD]
                  · have b6 : (s7 == r7) = false := beq_eq_false_iff_ne.2 g6
                    have b6n : (s7 != r7) = true := bne_iff_ne.2 g6
                    obtain rfl : F = false := by rw [← hF]; simp [e5, g6]
                    refine aw_reg fun K hK => ?_; simp (maxSteps := 1000000) (disch := omega) [-List.getD_eq_getElem?_getD, b6]; refine hK _ ?_; clear hK K
                    refine aw_ret ?_; simp (maxSteps := 1000000) (disch := omega) [-List.getD_eq_getElem?_getD]
                · have b5 : (s6 == r6) = false := beq_eq_false_iff_ne.2 g5
                  have b5n : (s6 != r6) = true := bne_iff_ne.2 g5
                  obtain rfl : F = false := by rw [← hF]; simp [e5, g5]
                  refine aw_reg fun K hK => ?_; simp (maxSteps := 1000000) (disch := omega) [-List.getD_eq_getElem?_getD, b5]; refine hK _ ?_; clear hK K
                  refine aw_ret ?_; simp (maxSteps := 1000000) (disch := omega) [-List.getD_eq_getElem?_getD]
              · have b4 : (s4 == r4) = false := beq_eq_false_iff_ne.2 g4
                have b4n : (s4 != r4) = true := bne_iff_ne.2 g4
                obtain rfl : F = false := by rw [← hF]; simp [e5, g4]
                refine aw_reg fun K hK => ?_; simp (maxSteps := 1000000) (disch := omega) [-List.getD_eq_getElem?_getD, b4]; refine hK _ ?_; clear hK K
                refine aw_ret ?_; simp (maxSteps := 1000000) (disch := omega) [-List.getD_eq_getElem?_getD]
            · have b3 : (s3 == r3) = false := beq_eq_false_iff_ne.2 g3
              have b3n : (s3 != r3) = true := bne_iff_ne.2 g3
              obtain rfl : F = false := by rw [← hF]; simp [e5, g3]
              refine aw_reg fun K hK => ?_; simp (maxSteps := 1000000) (disch := omega) [-List.getD_eq_getElem?_getD, b3]; refine hK _ ?_; clear hK K
              refine aw_ret ?_; simp (maxSteps := 1000000) (disch := omega) [-List.getD_eq_getElem?_getD]
          · have b2 : (s2 == r2) = false := beq_eq_false_iff_ne.2 g2
            have b2n : (s2 != r2) = true := bne_iff_ne.2 g2
            obtain rfl : F = false := by rw [← hF]; simp [e5, g2]
            refine aw_reg fun K hK => ?_; simp (maxSteps := 1000000) (disch := omega) [-List.getD_eq_getElem?_getD, b2]; refine hK _ ?_; clear hK K
            refine aw_ret ?_; simp (maxSteps := 1000000) (disch := omega) [-List.getD_eq_getElem?_getD]
        · have b1 : (s1 == r1) = false := beq_eq_false_iff_ne.2 g1
          have b1n : (s1 != r1) = true := bne_iff_ne.2 g1
          obtain rfl : F = false := by rw [← hF]; simp [e5, g1]
          refine aw_reg fun K hK => ?_; simp (maxSteps := 1000000) (disch := omega) [-List.getD_eq_getElem?_getD, b1]; refine hK _ ?_; clear hK K
          refine aw_ret ?_; simp (maxSteps := 1000000) (disch := omega) [-List.getD_eq_getElem?_getD]
end Go.Proofs.YtnmlpohhommagaaGreatDoor
