/- PostingPhrases: the walk.
   Conditions: none. -/
import Derived.Test.YtlijaamjcpefoaaPWk6
namespace Go.Proofs.Ytlijaamjcpefoaa
open Go Go.Am Post
set_option linter.unusedVariables false

set_option maxRecDepth 100000 in
set_option maxHeartbeats 4000000 in
theorem pphrases_ok (a b c : PL) (n : Int) (ha : Sz a) (hb : Sz b) (hc : Sz c) : ACall Try.prog 8 [.agg (three a b c), .int .i64 n] [] [] (fun r _ _ => r = .bool true) := by
  have hml : 400 ≤ maxLen := by decide
  have h3 := three_at a b c
  have h3l : (three a b c).length = 3 := rfl
  have hsz : ∀ k, k < 3 → Sz ([a, b, c].getD k []) := fun k hk => by
    match k, hk with
    | 0, _ => exact ha
    | 1, _ => exact hb
    | 2, _ => exact hc
  have hbl : BelowAll 1 0 (three a b c) := by
    intro v hv
    simp [three] at hv
    rcases hv with rfl | rfl | rfl <;> simp
  have HO2 : HOk [Blk.cells (three a b c)] [] := HOk.snoc (H := []) (fun i us hi => by simp at hi) hbl
  generalize hB : three a b c = B at *
  clear hB hbl
  refine acall_enter 14 [] Try.ntmps8 Try.func8 rfl (fun _ _ => Try.call8 _ _) (by simp) (fun HO => ?_)
  refine aw_reg fun K hK => ?_; simp (maxSteps := 1000000) (disch := omega) [-List.getD_eq_getElem?_getD, h3l]; refine hK _ ?_; clear hK K
  refine aw_then fun K1 hK1 => ?_
  refine aw_reg fun K hK => ?_; simp (maxSteps := 1000000) (disch := omega) [-List.getD_eq_getElem?_getD]
  refine acall_is (awake_ok _ _) ?_; simp (maxSteps := 1000000) (disch := omega) [-List.getD_eq_getElem?_getD]
  refine hK _ ?_; clear hK K
  refine aw_if rfl (fun h => absurd h (by simp)) (fun h => ?_)
  refine aw_skip ?_; simp (maxSteps := 1000000) (disch := omega) [-List.getD_eq_getElem?_getD]
  refine hK1 _ ?_; clear hK1
  refine aw_then fun K1 hK1 => ?_
  refine aw_reg fun K hK => ?_; simp (maxSteps := 1000000) (disch := omega) [-List.getD_eq_getElem?_getD]; refine hK _ ?_; clear hK K
  refine aw_block ?_
  refine aw_loop (X := Nat) (fun k => ⟨[(1, .int .i64 n), (2, .ptr 0 0), (5, .int .i64 (k : Nat))], [.cells B], []⟩) (fun k => k ≤ 3 ∧ ∀ j, j < k → Fw ([a, b, c].getD j []) ∧ VL ([a, b, c].getD j [])) (fun k => 3 - k) 0 ?_ ?_ ?_
  · exact ⟨Nat.zero_le _, fun j hj => absurd hj (Nat.not_lt_zero _)⟩
  · refine weak_to [] [] ?_ ?_ ?_ ?_ HO2 ?_
    all_goals simp
  · rintro k ⟨g1, g2⟩
    refine aw_then fun K2 hK2 => ?_
    refine aw_reg fun K hK => ?_; simp (maxSteps := 1000000) (disch := omega) [-List.getD_eq_getElem?_getD]; refine hK _ ?_; clear hK K
    refine aw_if rfl (fun hk => ?_) (fun hk => ?_)
    · have hk3 : k < 3 := by
        have : (k : Int) < 3 := by simpa using hk
        omega
      have hat := h3 k hk3
      have hz := hsz k hk3
      have c1 := few_ok ([a, b, c].getD k []) hz.1 hz.2 [.cells B] [] .none
      have hnx : Fw ([a, b, c].getD k []) → VL ([a, b, c].getD k []) → ∀ j, j < k + 1 → Fw ([a, b, c].getD j []) ∧ VL ([a, b, c].getD j []) := fun q1 q2 j hj => by
        rcases Nat.lt_or_ge j k with h4 | h4
        · exact g2 j h4
        · have : j = k := by omega
          subst this; exact ⟨q1, q2⟩
      generalize [a, b, c].getD k [] = x at hat hz c1 hnx
      refine aw_skip ?_; simp (maxSteps := 1000000) (disch := omega) [-List.getD_eq_getElem?_getD]
      refine hK2 _ ?_; clear hK2
      refine aw_then fun K3 hK3 => ?_
      refine aw_block ?_
      by_cases hf : x.length ≤ 30 ∧ ∀ p ∈ x, p.2.length ≤ 30
      · rw [decide_eq_true hf] at c1
        have c2 := validR_ok x (by omega) (fun p hp => Nat.le_trans (hf.2 p hp) (by decide)) [.cells B] [] .none
        cases hv : validL x with
        | false =>
          rw [hv] at c2
          refine aw_reg fun K hK => ?_; simp (maxSteps := 1000000) (disch := omega) [-List.getD_eq_getElem?_getD, hat, h3l]
          refine acall_is (c1) ?_; simp (maxSteps := 1000000) (disch := omega) [-List.getD_eq_getElem?_getD, hat, h3l]
          refine acall_is (c2) ?_; simp (maxSteps := 1000000) (disch := omega) [-List.getD_eq_getElem?_getD]
          refine hK _ ?_; clear hK K
          refine aw_if rfl (fun h => ?_) (fun h => absurd h (by simp))
          refine aw_reg fun K hK => ?_; simp (maxSteps := 1000000) (disch := omega) [-List.getD_eq_getElem?_getD]; refine hK _ ?_; clear hK K
          refine aw_ret ?_; simp (maxSteps := 1000000) (disch := omega) [-List.getD_eq_getElem?_getD]
        | true =>
          rw [hv] at c2
          refine aw_reg fun K hK => ?_; simp (maxSteps := 1000000) (disch := omega) [-List.getD_eq_getElem?_getD, hat, h3l]
          refine acall_is (c1) ?_; simp (maxSteps := 1000000) (disch := omega) [-List.getD_eq_getElem?_getD, hat, h3l]
          refine acall_is (c2) ?_; simp (maxSteps := 1000000) (disch := omega) [-List.getD_eq_getElem?_getD]
          refine hK _ ?_; clear hK K
          refine aw_if rfl (fun h => absurd h (by simp)) (fun h => ?_)
          refine aw_skip ?_; simp (maxSteps := 1000000) (disch := omega) [-List.getD_eq_getElem?_getD]
          refine hK3 _ ?_; clear hK3
          refine aw_reg0 fun K hK => ?_; simp (maxSteps := 1000000) (disch := omega) [-List.getD_eq_getElem?_getD]
          refine hK _ ?_; clear hK K
          refine ⟨k + 1, ⟨by show k + 1 ≤ 3; omega, hnx hf hv⟩, by show 3 - (k + 1) < 3 - k; omega, ?_⟩
          refine weak_to [] [] ?_ ?_ ?_ ?_ HO2 ?_
          all_goals simp
      · rw [decide_eq_false hf] at c1
        refine aw_reg fun K hK => ?_; simp (maxSteps := 1000000) (disch := omega) [-List.getD_eq_getElem?_getD, hat, h3l]
        refine acall_is (c1) ?_; simp (maxSteps := 1000000) (disch := omega) [-List.getD_eq_getElem?_getD]
        refine hK _ ?_; clear hK K
        refine aw_if rfl (fun h => ?_) (fun h => absurd h (by simp))
        refine aw_reg fun K hK => ?_; simp (maxSteps := 1000000) (disch := omega) [-List.getD_eq_getElem?_getD]; refine hK _ ?_; clear hK K
        refine aw_ret ?_; simp (maxSteps := 1000000) (disch := omega) [-List.getD_eq_getElem?_getD]
    · have hk3 : k = 3 := by simp at hk; omega
      subst hk3
      obtain ⟨fa, va⟩ := g2 0 (by omega)
      obtain ⟨fb, vb⟩ := g2 1 (by omega)
      obtain ⟨fc, vc⟩ := g2 2 (by omega)
      have fa : Fw a := fa
      have fb : Fw b := fb
      have fc : Fw c := fc
      have va : VL a := va
      have vb : VL b := vb
      have vc : VL c := vc
      have b0 : B.getD 0 .top = .sl a.length (psAV a) .none := h3 0 (by omega)
      have b1 : B.getD 1 .top = .sl b.length (psAV b) .none := h3 1 (by omega)
      have b2 : B.getD 2 .top = .sl c.length (psAV c) .none := h3 2 (by omega)
      refine aw_exit ?_; simp (maxSteps := 1000000) (disch := omega) [-List.getD_eq_getElem?_getD]
      refine hK1 _ ?_; clear hK1
      have o1 := ownP_ok a (by have := fa.1; omega) [.cells B] [] .none
      have o2 := ownP_ok b (by have := fb.1; omega) [.cells B] [] .none
      have o3 := ownP_ok c (by have := fc.1; omega) [.cells B] [] .none
      have pa : ∀ p ∈ a, p.2.length ≤ 30 := fa.2
      have pb : ∀ p ∈ b, p.2.length ≤ 30 := fb.2
      have pc : ∀ p ∈ c, p.2.length ≤ 30 := fc.2
      have la := fa.1
      have lb := fb.1
      have lc := fc.1
      have fw : ∀ {x : PL}, Fw x → x.length ≤ 400 ∧ ∀ p ∈ x, p.2.length ≤ 400 := fun {x} h => ⟨Nat.le_trans h.1 (by decide), fun p hp => Nat.le_trans (h.2 p hp) (by decide)⟩
      have ph2 : ∀ x y : PL, Fw x → Fw y → ACall Try.prog 15 [.sl 2 [.sl x.length (psAV x) .none, .sl y.length (psAV y) .none] .full] [.cells B] [] (Is (.sl (phraseL [x, y]).length (psAV (phraseL [x, y])) .none) [.cells B] []) := fun x y hx hy =>
        phrase_ok [x, y] (by simp) (by intro z hz; simp at hz; rcases hz with rfl | rfl; exact (fw hx).1; exact (fw hy).1) (by intro z hz; simp at hz; rcases hz with rfl | rfl; exact (fw hx).2; exact (fw hy).2) [.cells B] [] .full
      have ph3' : ACall Try.prog 15 [.sl 3 [.sl a.length (psAV a) .none, .sl b.length (psAV b) .none, .sl c.length (psAV c) .none] .full] [.cells B] [] (Is (.sl (phraseL [a, b, c]).length (psAV (phraseL [a, b, c])) .none) [.cells B] []) :=
        phrase_ok [a, b, c] (by simp) (by intro z hz; simp at hz; rcases hz with rfl | rfl | rfl; exact (fw fa).1; exact (fw fb).1; exact (fw fc).1) (by intro z hz; simp at hz; rcases hz with rfl | rfl | rfl; exact (fw fa).2; exact (fw fb).2; exact (fw fc).2) [.cells B] [] .full
      have ph1' : ACall Try.prog 15 [.sl 1 [.sl a.length (psAV a) .none] .full] [.cells B] [] (Is (.sl a.length (psAV a) .none) [.cells B] []) := by
        have := phrase_ok [a] (by simp) (by intro z hz; simp at hz; rw [hz]; exact (fw fa).1) (by intro z hz; simp at hz; rw [hz]; exact (fw fa).2) [.cells B] [] .full
        rw [ph1 va] at this
        exact this
      have f2 : ∀ {x : PL} (r : List PL), Fw x → VL x → (∀ y ∈ r, VL y) → r.length < 100 → Fw (phraseL (x :: r)) := fun {x} r hx hv hr hl => by
        rw [phr_eq hl hv hr]
        exact ⟨Nat.le_trans (flt_len x) hx.1, flt_pos hx.2⟩
      have fbc := f2 [c] fb vb (by simpa using vc) (by simp)
      have fab := f2 [b] fa va (by simpa using vb) (by simp)
      have fabc := f2 [b, c] fa va (by intro y hy; simp at hy; rcases hy with rfl | rfl; exact vb; exact vc) (by simp)
      have q1 := ph2 a b fa fb
      have q2 := ph2 b c fb fc
      have q3 := ph2 a (phraseL [b, c]) fa fbc
      rw [ph3 va vb vc] at q3
      have tA := theirs_ok (phraseL [a, b, c]) (by have := fabc.1; omega) [.cells B] [] .none
      have sF : ∀ x : PL, Fw x → ACall Try.prog 14 [.sl x.length (psAV x) .none, .sl x.length (psAV x) .none] [.cells B] [] (Is (.bool true) [.cells B] []) := fun x hx => sameX_ok x (by have := hx.1; omega) (fun p hp => by have := hx.2 p hp; omega) [.cells B] [] .none .none
      have s1 := sF a fa
      have s2 := sF _ fabc
      have hk1 : 1 ≤ max 1 n := Int.le_max_left _ _
      generalize hkk : max 1 n = k at *
      have hkm : min k 1000000 ≤ 1000000 := Int.min_le_right _ _
      have hkl : 1 ≤ min k 1000000 := Int.le_min.2 ⟨hk1, by decide⟩
      have nr := fun (x y : PL) (m : Int) (hx : Fw x) (hy : Fw y) => near_ok x y m (fw hx).1 (fw hy).1 (fw hx).2 (fw hy).2 [.cells B] [] .none .none
      have n1 := nr a b k fa fb
      have n2 := nr b a k fb fa
      have n3 := nr a b (min k 1000000 + 1) fa fb
      have n4 := nr a b (min k 1000000) fa fb
      have nf : ∀ (x y : PL) (m : Int), Fw x → Fw (nearL x y m) := fun x y m hx => nearL_fw hx
      have dp := fun (x : PL) (hx : Fw x) => docsP_ok x (by have := hx.1; omega) (fun p hp => Nat.le_trans (hx.2 p hp) (by decide)) [.cells B] [] .none
      have d1 := dp (nearL a b k) (nf a b k fa)
      have d2 := dp (nearL b a k) (nf b a k fb)
      rw [near_sym va vb hk1] at d2
      have hdl : (docsL (nearL a b k)).length ≤ maxLen := by
        have := (nf a b k fa).1
        unfold docsL
        split
        · simp [docs]; exact Nat.le_trans this (by decide)
        · exact Nat.zero_le _
      have ii := ints_ok (docsL (nearL a b k)) (docsL (nearL a b k)) hdl hdl [.cells B] [] .none .none
      rw [beq_self_eq_true] at ii
      have un := fun (x y : PL) (hx : Fw x) (hy : Fw y) => union_ok x y (fw hx).1 (fw hy).1 (fw hx).2 (fw hy).2 [.cells B] [] .none .none
      have u1 := un (nearL a b k) (phraseL [a, b]) (nf _ _ _ fa) fab
      rw [ph_near va vb hk1] at u1
      have u2 := un (nearL a b (min k 1000000 + 1)) (nearL a b (min k 1000000)) (nf _ _ _ fa) (nf _ _ _ fa)
      rw [near_more va vb hkl (by omega)] at u2
      have t1 := theirs_ok (nearL a b k) (by have := (nf a b k fa).1; omega) [.cells B] [] .none
      have t2 := theirs_ok (nearL a b (min k 1000000 + 1)) (by have := (nf a b (min k 1000000 + 1) fa).1; omega) [.cells B] [] .none
      have s3 := sF _ (nf a b k fa)
      have s4 := sF _ (nf a b (min k 1000000 + 1) fa)
      generalize docsL (nearL a b k) = dn at *
      generalize docsL (nearL b a k) = dn' at *
      generalize nearL a b k = near at *
      generalize nearL b a k = near' at *
      generalize nearL a b (min k 1000000 + 1) = wide at *
      generalize nearL a b (min k 1000000) = narrow at *
      generalize phraseL [b, c] = bc at *
      generalize phraseL [a, b, c] = all at *
      generalize phraseL [a, b] = two at *
      refine aw_draw [] [] [] drawMixed (by kernel_rfl) (by kernel_rfl) fun K hK => ?_; simp (maxSteps := 1000000) (disch := omega) [-List.getD_eq_getElem?_getD, b0, b1, b2, h3l]
      refine dcall_is (o1) rfl ?_; simp (maxSteps := 1000000) (disch := omega) [-List.getD_eq_getElem?_getD, b0, b1, b2, h3l]
      refine dcall_is (o2) rfl ?_; simp (maxSteps := 1000000) (disch := omega) [-List.getD_eq_getElem?_getD, b0, b1, b2, h3l]
      refine dcall_is (o3) rfl ?_; simp (maxSteps := 1000000) (disch := omega) [-List.getD_eq_getElem?_getD, b0, b1, b2, h3l]
      refine hK _ ?_; clear hK K
      refine aw_reg fun K hK => ?_; simp (maxSteps := 1000000) (disch := omega) [-List.getD_eq_getElem?_getD]
      refine acall_is (ph3') ?_; simp (maxSteps := 1000000) (disch := omega) [-List.getD_eq_getElem?_getD]
      refine hK _ ?_; clear hK K
      refine aw_reg fun K hK => ?_; simp (maxSteps := 1000000) (disch := omega) [-List.getD_eq_getElem?_getD]
      refine acall_is (q1) ?_; simp (maxSteps := 1000000) (disch := omega) [-List.getD_eq_getElem?_getD]
      refine hK _ ?_; clear hK K
      refine aw_then fun K1 hK1 => ?_
      refine aw_draw [] [] [] drawMixed (by kernel_rfl) (by kernel_rfl) fun K hK => ?_; simp (maxSteps := 1000000) (disch := omega) [-List.getD_eq_getElem?_getD, b0, b1, b2, h3l]
      refine dcall_is (ph1') rfl ?_; simp (maxSteps := 1000000) (disch := omega) [-List.getD_eq_getElem?_getD, b0, b1, b2, h3l]
      refine dcall_is (s1) rfl ?_; simp (maxSteps := 1000000) (disch := omega) [-List.getD_eq_getElem?_getD, b0, b1, b2, h3l]
      refine dcall_is (q2) rfl ?_; simp (maxSteps := 1000000) (disch := omega) [-List.getD_eq_getElem?_getD]
      refine dcall_is (q3) rfl ?_; simp (maxSteps := 1000000) (disch := omega) [-List.getD_eq_getElem?_getD]
      refine dcall_is (tA) rfl ?_; simp (maxSteps := 1000000) (disch := omega) [-List.getD_eq_getElem?_getD]
      refine dcall_is (s2) rfl ?_; simp (maxSteps := 1000000) (disch := omega) [-List.getD_eq_getElem?_getD]
      refine hK _ ?_; clear hK K
      refine aw_if rfl (fun h => absurd h (by simp)) (fun h => ?_)
      refine aw_skip ?_; simp (maxSteps := 1000000) (disch := omega) [-List.getD_eq_getElem?_getD]
      refine hK1 _ ?_; clear hK1
      refine aw_reg fun K hK => ?_; simp (maxSteps := 1000000) (disch := omega) [-List.getD_eq_getElem?_getD, hkk]; refine hK _ ?_; clear hK K
      refine aw_reg fun K hK => ?_; simp (maxSteps := 1000000) (disch := omega) [-List.getD_eq_getElem?_getD]
      refine acall_is (n1) ?_; simp (maxSteps := 1000000) (disch := omega) [-List.getD_eq_getElem?_getD]
      refine hK _ ?_; clear hK K
      refine aw_then fun K1 hK1 => ?_
      refine aw_reg fun K hK => ?_; simp (maxSteps := 1000000) (disch := omega) [-List.getD_eq_getElem?_getD]
      refine acall_is (d1) ?_; simp (maxSteps := 1000000) (disch := omega) [-List.getD_eq_getElem?_getD]
      refine acall_is (n2) ?_; simp (maxSteps := 1000000) (disch := omega) [-List.getD_eq_getElem?_getD]
      refine acall_is (d2) ?_; simp (maxSteps := 1000000) (disch := omega) [-List.getD_eq_getElem?_getD]
      refine acall_is (ii) ?_; simp (maxSteps := 1000000) (disch := omega) [-List.getD_eq_getElem?_getD]
      refine acall_is (u1) ?_; simp (maxSteps := 1000000) (disch := omega) [-List.getD_eq_getElem?_getD]
      refine acall_is (t1) ?_; simp (maxSteps := 1000000) (disch := omega) [-List.getD_eq_getElem?_getD]
      refine acall_is (s3) ?_; simp (maxSteps := 1000000) (disch := omega) [-List.getD_eq_getElem?_getD]
      refine hK _ ?_; clear hK K
      refine aw_if rfl (fun h => absurd h (by simp)) (fun h => ?_)
      refine aw_skip ?_; simp (maxSteps := 1000000) (disch := omega) [-List.getD_eq_getElem?_getD]
      refine hK1 _ ?_; clear hK1
      refine aw_reg fun K hK => ?_; simp (maxSteps := 1000000) (disch := omega) [-List.getD_eq_getElem?_getD]
      refine acall_is (n3) ?_; simp (maxSteps := 1000000) (disch := omega) [-List.getD_eq_getElem?_getD]
      refine hK _ ?_; clear hK K
      refine aw_reg fun K hK => ?_; simp (maxSteps := 1000000) (disch := omega) [-List.getD_eq_getElem?_getD]
      refine acall_is (n4) ?_; simp (maxSteps := 1000000) (disch := omega) [-List.getD_eq_getElem?_getD]
      refine acall_is (u2) ?_; simp (maxSteps := 1000000) (disch := omega) [-List.getD_eq_getElem?_getD]
      refine acall_is (t2) ?_; simp (maxSteps := 1000000) (disch := omega) [-List.getD_eq_getElem?_getD]
      refine acall_is (s4) ?_; simp (maxSteps := 1000000) (disch := omega) [-List.getD_eq_getElem?_getD]
      refine hK _ ?_; clear hK K
      refine aw_ret ?_; simp (maxSteps := 1000000) (disch := omega) [-List.getD_eq_getElem?_getD]
end Go.Proofs.Ytlijaamjcpefoaa
