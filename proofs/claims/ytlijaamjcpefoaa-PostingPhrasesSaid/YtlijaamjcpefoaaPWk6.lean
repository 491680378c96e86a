/- PostingUnion: the walk.
   Conditions: none. -/
import Derived.Test.YtlijaamjcpefoaaPPl6
import Derived.Test.YtlijaamjcpefoaaPWk4
namespace Go.Proofs.Ytlijaamjcpefoaa
open Go Go.Am Post
set_option linter.unusedVariables false

def three (a b c : PL) : List AV := [.sl a.length (psAV a) .none, .sl b.length (psAV b) .none, .sl c.length (psAV c) .none]
theorem three_at (a b c : PL) (k : Nat) (h : k < 3) : (three a b c).getD k .top = .sl ([a, b, c].getD k []).length (psAV ([a, b, c].getD k [])) .none := by
  match k, h with
  | 0, _ => rfl
  | 1, _ => rfl
  | 2, _ => rfl

set_option maxRecDepth 100000 in
set_option maxHeartbeats 4000000 in
theorem punion_ok (a b c : PL) (d z : Int) (ha : Sz a) (hb : Sz b) (hc : Sz c) : ACall Try.prog 7 [.agg (three a b c), .int .i64 d, .int .i64 z] [] [] (fun r _ _ => r = .bool true) := by
  have hml : 400 ≤ maxLen := by decide
  have h3 := three_at a b c
  have h3l : (three a b c).length = 3 := rfl
  have hsz : ∀ k, k < 3 → Sz ([a, b, c].getD k []) := fun k hk => by
    match k, hk with
    | 0, _ => exact ha
    | 1, _ => exact hb
    | 2, _ => exact hc
  have hbl : BelowAll 1 0 (three a b c) := by
    intro v hv
    simp [three] at hv
    rcases hv with rfl | rfl | rfl <;> simp
  have HO2 : HOk [Blk.cells (three a b c)] [] := HOk.snoc (H := []) (fun i us hi => by simp at hi) hbl
  generalize hB : three a b c = B at *
  clear hB hbl
  refine acall_enter 12 [] Try.ntmps7 Try.func7 rfl (fun _ _ => Try.call7 _ _) (by simp) (fun HO => ?_)
  refine aw_reg fun K hK => ?_; simp (maxSteps := 1000000) (disch := omega) [-List.getD_eq_getElem?_getD, h3l]; refine hK _ ?_; clear hK K
  refine aw_then fun K1 hK1 => ?_
  refine aw_reg fun K hK => ?_; simp (maxSteps := 1000000) (disch := omega) [-List.getD_eq_getElem?_getD]
  refine acall_is (awake_ok _ _) ?_; simp (maxSteps := 1000000) (disch := omega) [-List.getD_eq_getElem?_getD]
  refine hK _ ?_; clear hK K
  refine aw_if rfl (fun h => absurd h (by simp)) (fun h => ?_)
  refine aw_skip ?_; simp (maxSteps := 1000000) (disch := omega) [-List.getD_eq_getElem?_getD]
  refine hK1 _ ?_; clear hK1
  refine aw_then fun K1 hK1 => ?_
  refine aw_reg fun K hK => ?_; simp (maxSteps := 1000000) (disch := omega) [-List.getD_eq_getElem?_getD]; refine hK _ ?_; clear hK K
  refine aw_block ?_
  refine aw_loop (X := Nat) (fun k => ⟨[(1, .int .i64 d), (2, .int .i64 z), (3, .ptr 0 0), (7, .int .i64 (k : Nat))], [.cells B], []⟩) (fun k => k ≤ 3 ∧ ∀ j, j < k → Fw ([a, b, c].getD j []) ∧ VL ([a, b, c].getD j [])) (fun k => 3 - k) 0 ?_ ?_ ?_
  · exact ⟨Nat.zero_le _, fun j hj => absurd hj (Nat.not_lt_zero _)⟩
  · refine weak_to [] [] ?_ ?_ ?_ ?_ HO2 ?_
    all_goals simp
  · rintro k ⟨g1, g2⟩
    refine aw_then fun K2 hK2 => ?_
    refine aw_reg fun K hK => ?_; simp (maxSteps := 1000000) (disch := omega) [-List.getD_eq_getElem?_getD]; refine hK _ ?_; clear hK K
    refine aw_if rfl (fun hk => ?_) (fun hk => ?_)
    · have hk3 : k < 3 := by
        have : (k : Int) < 3 := by simpa using hk
        omega
      have hat := h3 k hk3
      have hz := hsz k hk3
      have c1 := few_ok ([a, b, c].getD k []) hz.1 hz.2 [.cells B] [] .none
      have hnx : Fw ([a, b, c].getD k []) → VL ([a, b, c].getD k []) → ∀ j, j < k + 1 → Fw ([a, b, c].getD j []) ∧ VL ([a, b, c].getD j []) := fun q1 q2 j hj => by
        rcases Nat.lt_or_ge j k with h4 | h4
        · exact g2 j h4
        · have : j = k := by omega
          subst this; exact ⟨q1, q2⟩
      generalize [a, b, c].getD k [] = x at hat hz c1 hnx
      refine aw_skip ?_; simp (maxSteps := 1000000) (disch := omega) [-List.getD_eq_getElem?_getD]
      refine hK2 _ ?_; clear hK2
      refine aw_then fun K3 hK3 => ?_
      refine aw_block ?_
      by_cases hf : x.length ≤ 30 ∧ ∀ p ∈ x, p.2.length ≤ 30
      · rw [decide_eq_true hf] at c1
        have c2 := validR_ok x (by omega) (fun p hp => Nat.le_trans (hf.2 p hp) (by decide)) [.cells B] [] .none
        cases hv : validL x with
        | false =>
          rw [hv] at c2
          refine aw_reg fun K hK => ?_; simp (maxSteps := 1000000) (disch := omega) [-List.getD_eq_getElem?_getD, hat, h3l]
          refine acall_is (c1) ?_; simp (maxSteps := 1000000) (disch := omega) [-List.getD_eq_getElem?_getD, hat, h3l]
          refine acall_is (c2) ?_; simp (maxSteps := 1000000) (disch := omega) [-List.getD_eq_getElem?_getD]
          refine hK _ ?_; clear hK K
          refine aw_if rfl (fun h => ?_) (fun h => absurd h (by simp))
          refine aw_reg fun K hK => ?_; simp (maxSteps := 1000000) (disch := omega) [-List.getD_eq_getElem?_getD]; refine hK _ ?_; clear hK K
          refine aw_ret ?_; simp (maxSteps := 1000000) (disch := omega) [-List.getD_eq_getElem?_getD]
        | true =>
          rw [hv] at c2
          refine aw_reg fun K hK => ?_; simp (maxSteps := 1000000) (disch := omega) [-List.getD_eq_getElem?_getD, hat, h3l]
          refine acall_is (c1) ?_; simp (maxSteps := 1000000) (disch := omega) [-List.getD_eq_getElem?_getD, hat, h3l]
          refine acall_is (c2) ?_; simp (maxSteps := 1000000) (disch := omega) [-List.getD_eq_getElem?_getD]
          refine hK _ ?_; clear hK K
          refine aw_if rfl (fun h => absurd h (by simp)) (fun h => ?_)
          refine aw_skip ?_; simp (maxSteps := 1000000) (disch := omega) [-List.getD_eq_getElem?_getD]
          refine hK3 _ ?_; clear hK3
          refine aw_reg0 fun K hK => ?_; simp (maxSteps := 1000000) (disch := omega) [-List.getD_eq_getElem?_getD]
          refine hK _ ?_; clear hK K
          refine ⟨k + 1, ⟨by show k + 1 ≤ 3; omega, hnx hf hv⟩, by show 3 - (k + 1) < 3 - k; omega, ?_⟩
          refine weak_to [] [] ?_ ?_ ?_ ?_ HO2 ?_
          all_goals simp
      · rw [decide_eq_false hf] at c1
        refine aw_reg fun K hK => ?_; simp (maxSteps := 1000000) (disch := omega) [-List.getD_eq_getElem?_getD, hat, h3l]
        refine acall_is (c1) ?_; simp (maxSteps := 1000000) (disch := omega) [-List.getD_eq_getElem?_getD]
        refine hK _ ?_; clear hK K
        refine aw_if rfl (fun h => ?_) (fun h => absurd h (by simp))
        refine aw_reg fun K hK => ?_; simp (maxSteps := 1000000) (disch := omega) [-List.getD_eq_getElem?_getD]; refine hK _ ?_; clear hK K
        refine aw_ret ?_; simp (maxSteps := 1000000) (disch := omega) [-List.getD_eq_getElem?_getD]
    · have hk3 : k = 3 := by simp at hk; omega
      subst hk3
      obtain ⟨fa, va⟩ := g2 0 (by omega)
      obtain ⟨fb, vb⟩ := g2 1 (by omega)
      obtain ⟨fc, vc⟩ := g2 2 (by omega)
      have fa : Fw a := fa
      have fb : Fw b := fb
      have fc : Fw c := fc
      have va : VL a := va
      have vb : VL b := vb
      have vc : VL c := vc
      have b0 : B.getD 0 .top = .sl a.length (psAV a) .none := h3 0 (by omega)
      have b1 : B.getD 1 .top = .sl b.length (psAV b) .none := h3 1 (by omega)
      have b2 : B.getD 2 .top = .sl c.length (psAV c) .none := h3 2 (by omega)
      refine aw_exit ?_; simp (maxSteps := 1000000) (disch := omega) [-List.getD_eq_getElem?_getD]
      refine hK1 _ ?_; clear hK1
      have o1 := ownP_ok a (by have := fa.1; omega) [.cells B] [] .none
      have o2 := ownP_ok b (by have := fb.1; omega) [.cells B] [] .none
      have o3 := ownP_ok c (by have := fc.1; omega) [.cells B] [] .none
      have pa : ∀ p ∈ a, p.2.length ≤ 30 := fa.2
      have pb : ∀ p ∈ b, p.2.length ≤ 30 := fb.2
      have pc : ∀ p ∈ c, p.2.length ≤ 30 := fc.2
      obtain ⟨u1, u2⟩ := unionL_sz fa.1 fb.1 fa.2 fb.2
      obtain ⟨w1, w2⟩ := unionL_sz fb.1 fc.1 fb.2 fc.2
      have la := fa.1
      have lb := fb.1
      have lc := fc.1
      have up := fun (x y : PL) (hx : x.length ≤ 100) (hy : y.length ≤ 100) (px : ∀ p ∈ x, p.2.length ≤ 100) (py : ∀ p ∈ y, p.2.length ≤ 100) => union_ok x y (by omega) (by omega) (fun p hp => by have := px p hp; omega) (fun p hp => by have := py p hp; omega) [.cells B] [] .none .none
      have c1 := up a b (by omega) (by omega) (fun p hp => by have := pa p hp; omega) (fun p hp => by have := pb p hp; omega)
      have c2 := up b a (by omega) (by omega) (fun p hp => by have := pb p hp; omega) (fun p hp => by have := pa p hp; omega)
      have c3 := up a a (by omega) (by omega) (fun p hp => by have := pa p hp; omega) (fun p hp => by have := pa p hp; omega)
      have c4 := up (unionL a b) c (by omega) (by omega) (fun p hp => by have := u2 p hp; omega) (fun p hp => by have := pc p hp; omega)
      have c5 := up b c (by omega) (by omega) (fun p hp => by have := pb p hp; omega) (fun p hp => by have := pc p hp; omega)
      have c6 := up a (unionL b c) (by omega) (by omega) (fun p hp => by have := pa p hp; omega) (fun p hp => by have := w2 p hp; omega)
      rw [ul2 va vb] at c2
      rw [ul3 va] at c3
      rw [ul4 va vb vc] at c6
      have u3 : (unionL (unionL a b) c).length ≤ 120 ∧ ∀ p ∈ unionL (unionL a b) c, p.2.length ≤ 120 := unionL_sz (m := 60) (k := 60) u1 (by omega) u2 (fun p hp => by have := pc p hp; omega)
      have v1 := valid_ok (unionL a b) (by omega) (fun p hp => Nat.le_trans (u2 p hp) (by decide)) [.cells B] [] .none
      rw [show validL (unionL a b) = true from un_V va vb] at v1
      have t1 := theirs_ok (unionL a b) (by omega) [.cells B] [] .none
      have t2 := theirs_ok (unionL (unionL a b) c) (by have := u3.1; omega) [.cells B] [] .none
      have s1 := sameX_ok (unionL a b) (by omega) (fun p hp => by have := u2 p hp; omega) [.cells B] [] .none .none
      have s2 := sameX_ok a (by omega) (fun p hp => by have := pa p hp; omega) [.cells B] [] .none .none
      have s3 := sameX_ok (unionL (unionL a b) c) (by have := u3.1; omega) (fun p hp => by have := u3.2 p hp; omega) [.cells B] [] .none .none
      have m := un_mem va vb d z
      have a1 := atR_ok (unionL a b) d (by omega) [.cells B] [] .none
      have a2 := atR_ok a d (by omega) [.cells B] [] .none
      have a3 := atR_ok b d (by omega) [.cells B] [] .none
      have h1 := has_ok (posOf (unionL a b) d) z (Nat.le_trans (posOf_len u2 d) (by decide)) [.cells B] [] .none
      have h2 := has_ok (posOf a d) z (Nat.le_trans (posOf_len pa d) (by decide)) [.cells B] [] .none
      have h3 := has_ok (posOf b d) z (Nat.le_trans (posOf_len pb d) (by decide)) [.cells B] [] .none
      have m2 : decide (z ∈ posOf (unionL a b) d) = (decide (z ∈ posOf a d) || decide (z ∈ posOf b d)) := by
        by_cases q1 : z ∈ posOf a d <;> by_cases q2 : z ∈ posOf b d <;> simp [m, q1, q2]
      rw [m2] at h1
      generalize unionL (unionL a b) c = uc at *
      generalize unionL b c = bc at *
      generalize unionL a b = u at *
      refine aw_draw [] [] [] drawMixed (by kernel_rfl) (by kernel_rfl) fun K hK => ?_; simp (maxSteps := 1000000) (disch := omega) [-List.getD_eq_getElem?_getD, b0, b1, b2, h3l]
      refine dcall_is (o1) rfl ?_; simp (maxSteps := 1000000) (disch := omega) [-List.getD_eq_getElem?_getD, b0, b1, b2, h3l]
      refine dcall_is (o2) rfl ?_; simp (maxSteps := 1000000) (disch := omega) [-List.getD_eq_getElem?_getD, b0, b1, b2, h3l]
      refine dcall_is (o3) rfl ?_; simp (maxSteps := 1000000) (disch := omega) [-List.getD_eq_getElem?_getD, b0, b1, b2, h3l]
      refine hK _ ?_; clear hK K
      refine aw_reg fun K hK => ?_; simp (maxSteps := 1000000) (disch := omega) [-List.getD_eq_getElem?_getD]
      refine acall_is (c1) ?_; simp (maxSteps := 1000000) (disch := omega) [-List.getD_eq_getElem?_getD]
      refine hK _ ?_; clear hK K
      refine aw_then fun K1 hK1 => ?_
      refine aw_draw [] [] [] drawMixed (by kernel_rfl) (by kernel_rfl) fun K hK => ?_; simp (maxSteps := 1000000) (disch := omega) [-List.getD_eq_getElem?_getD, b0, b1, b2, h3l]
      refine dcall_is (v1) rfl ?_; simp (maxSteps := 1000000) (disch := omega) [-List.getD_eq_getElem?_getD]
      refine dcall_is (c2) rfl ?_; simp (maxSteps := 1000000) (disch := omega) [-List.getD_eq_getElem?_getD]
      refine dcall_is (t1) rfl ?_; simp (maxSteps := 1000000) (disch := omega) [-List.getD_eq_getElem?_getD]
      refine dcall_is (s1) rfl ?_; simp (maxSteps := 1000000) (disch := omega) [-List.getD_eq_getElem?_getD]
      refine dcall_is (c3) rfl ?_; simp (maxSteps := 1000000) (disch := omega) [-List.getD_eq_getElem?_getD, b0, b1, b2, h3l]
      refine dcall_is (s2) rfl ?_; simp (maxSteps := 1000000) (disch := omega) [-List.getD_eq_getElem?_getD, b0, b1, b2, h3l]
      refine dcall_is (c4) rfl ?_; simp (maxSteps := 1000000) (disch := omega) [-List.getD_eq_getElem?_getD]
      refine dcall_is (c5) rfl ?_; simp (maxSteps := 1000000) (disch := omega) [-List.getD_eq_getElem?_getD]
      refine dcall_is (c6) rfl ?_; simp (maxSteps := 1000000) (disch := omega) [-List.getD_eq_getElem?_getD]
      refine dcall_is (t2) rfl ?_; simp (maxSteps := 1000000) (disch := omega) [-List.getD_eq_getElem?_getD]
      refine dcall_is (s3) rfl ?_; simp (maxSteps := 1000000) (disch := omega) [-List.getD_eq_getElem?_getD]
      refine hK _ ?_; clear hK K
      refine aw_if rfl (fun h => absurd h (by simp)) (fun h => ?_)
      refine aw_skip ?_; simp (maxSteps := 1000000) (disch := omega) [-List.getD_eq_getElem?_getD]
      refine hK1 _ ?_; clear hK1
      generalize posOf u d = pu at *
      generalize posOf a d = qa at *
      generalize posOf b d = qb at *
      cases q1 : decide (z ∈ qa) with
      | true =>
        rw [q1] at h1 h2
        refine aw_draw [] [] [] drawMixed (by kernel_rfl) (by kernel_rfl) fun K hK => ?_; simp (maxSteps := 1000000) (disch := omega) [-List.getD_eq_getElem?_getD, b0, b1, b2, h3l]
        refine dcall_is (t1) rfl ?_; simp (maxSteps := 1000000) (disch := omega) [-List.getD_eq_getElem?_getD]
        refine dcall_is (a1) rfl ?_; simp (maxSteps := 1000000) (disch := omega) [-List.getD_eq_getElem?_getD]
        refine dcall_is (h1) rfl ?_; simp (maxSteps := 1000000) (disch := omega) [-List.getD_eq_getElem?_getD, b0, b1, b2, h3l]
        refine dcall_is (a2) rfl ?_; simp (maxSteps := 1000000) (disch := omega) [-List.getD_eq_getElem?_getD]
        refine dcall_is (h2) rfl ?_; simp (maxSteps := 1000000) (disch := omega) [-List.getD_eq_getElem?_getD]
        refine hK _ ?_; clear hK K
        refine aw_ret ?_; simp (maxSteps := 1000000) (disch := omega) [-List.getD_eq_getElem?_getD]
      | false =>
        rw [q1] at h1 h2
        rw [Bool.false_or] at h1
        cases q2 : decide (z ∈ qb) with
        | true =>
          rw [q2] at h1 h3
          refine aw_draw [] [] [] drawMixed (by kernel_rfl) (by kernel_rfl) fun K hK => ?_; simp (maxSteps := 1000000) (disch := omega) [-List.getD_eq_getElem?_getD, b0, b1, b2, h3l]
          refine dcall_is (t1) rfl ?_; simp (maxSteps := 1000000) (disch := omega) [-List.getD_eq_getElem?_getD]
          refine dcall_is (a1) rfl ?_; simp (maxSteps := 1000000) (disch := omega) [-List.getD_eq_getElem?_getD]
          refine dcall_is (h1) rfl ?_; simp (maxSteps := 1000000) (disch := omega) [-List.getD_eq_getElem?_getD, b0, b1, b2, h3l]
          refine dcall_is (a2) rfl ?_; simp (maxSteps := 1000000) (disch := omega) [-List.getD_eq_getElem?_getD]
          refine dcall_is (h2) rfl ?_; simp (maxSteps := 1000000) (disch := omega) [-List.getD_eq_getElem?_getD, b0, b1, b2, h3l]
          refine dcall_is (a3) rfl ?_; simp (maxSteps := 1000000) (disch := omega) [-List.getD_eq_getElem?_getD]
          refine dcall_is (h3) rfl ?_; simp (maxSteps := 1000000) (disch := omega) [-List.getD_eq_getElem?_getD]
          refine hK _ ?_; clear hK K
          refine aw_ret ?_; simp (maxSteps := 1000000) (disch := omega) [-List.getD_eq_getElem?_getD]
        | false =>
          rw [q2] at h1 h3
          refine aw_draw [] [] [] drawMixed (by kernel_rfl) (by kernel_rfl) fun K hK => ?_; simp (maxSteps := 1000000) (disch := omega) [-List.getD_eq_getElem?_getD, b0, b1, b2, h3l]
          refine dcall_is (t1) rfl ?_; simp (maxSteps := 1000000) (disch := omega) [-List.getD_eq_getElem?_getD]
          refine dcall_is (a1) rfl ?_; simp (maxSteps := 1000000) (disch := omega) [-List.getD_eq_getElem?_getD]
          refine dcall_is (h1) rfl ?_; simp (maxSteps := 1000000) (disch := omega) [-List.getD_eq_getElem?_getD, b0, b1, b2, h3l]
          refine dcall_is (a2) rfl ?_; simp (maxSteps := 1000000) (disch := omega) [-List.getD_eq_getElem?_getD]
          refine dcall_is (h2) rfl ?_; simp (maxSteps := 1000000) (disch := omega) [-List.getD_eq_getElem?_getD, b0, b1, b2, h3l]
          refine dcall_is (a3) rfl ?_; simp (maxSteps := 1000000) (disch := omega) [-List.getD_eq_getElem?_getD]
          refine dcall_is (h3) rfl ?_; simp (maxSteps := 1000000) (disch := omega) [-List.getD_eq_getElem?_getD]
          refine hK _ ?_; clear hK K
          refine aw_ret ?_; simp (maxSteps := 1000000) (disch := omega) [-List.getD_eq_getElem?_getD]
end Go.Proofs.Ytlijaamjcpefoaa
