/- The composition: the program's (layer 26).
   Conditions: none of valid lists; lengths below 2^40. -/
import Derived.Test.YtfdlngemkhiiiaaGreatDoorVMap
import Derived.Test.YtfdlngemkhiiiaaGreatDoorVPl3
namespace Voc
theorem validM_mem {l : List Mp} (hv : validM l = true) {x : Mp} (hx : x ∈ l) : goodM x = true := by
  obtain ⟨j, hj, e⟩ := List.mem_iff_getElem.1 hx
  have := (((validM_iff l).1 hv).1 j hj).1
  rw [List.getD_eq_getElem?_getD, List.getElem?_eq_getElem hj] at this
  rw [← e]; exact this
theorem valid_kOk {l : List Mp} (hv : validM l = true) : kOk l := fun x hx => by
  have := of_decide_eq_true (validM_mem hv hx)
  omega
theorem SP_succ {l m : List Mp} {i : Nat} (hi : i < l.length) (e : Pr) (n : Nat) :
    SP (l.take (i + 1)) m e n ↔ SP (l.take i) m e n ∨ ∃ y ∈ m, y.1 = (l.getD i d0).2.1 ∧ e = ((l.getD i d0).1, y.2.1) ∧ n = (joinK (l.getD i d0).2.2 y.2.2).toNat := by
  have e1 : l.take (i + 1) = l.take i ++ [l.getD i d0] := by
    rw [List.take_succ_eq_append_getElem hi, List.getD_eq_getElem?_getD, List.getElem?_eq_getElem hi]
    rfl
  unfold SP
  rw [e1]
  simp only [List.mem_append, List.mem_singleton]
  constructor
  · rintro ⟨x, hx | rfl, y, hy, h⟩
    · exact .inl ⟨x, hx, y, hy, h⟩
    · exact .inr ⟨y, hy, h⟩
  · rintro (⟨x, hx, y, hy, h⟩ | ⟨y, hy, h⟩)
    · exact ⟨x, .inl hx, y, hy, h⟩
    · exact ⟨_, .inr rfl, y, hy, h⟩
/-- The ways of the first mappings, and those of one more with the first of the others. -/
def SQ (l m : List Mp) (i k : Nat) (e : Pr) (n : Nat) : Prop :=
  SP (l.take i) m e n ∨ ∃ y ∈ m.take k, y.1 = (l.getD i d0).2.1 ∧ e = ((l.getD i d0).1, y.2.1) ∧ n = (joinK (l.getD i d0).2.2 y.2.2).toNat
theorem SQ_succ {l m : List Mp} {i k : Nat} (hk : k < m.length) (he : (m.getD k d0).1 = (l.getD i d0).2.1) (e : Pr) (n : Nat) :
    (SQ l m i k e n ∨ (e = ((l.getD i d0).1, (m.getD k d0).2.1) ∧ n = (joinK (l.getD i d0).2.2 (m.getD k d0).2.2).toNat)) ↔ SQ l m i (k + 1) e n := by
  have e1 : m.take (k + 1) = m.take k ++ [m.getD k d0] := by
    rw [List.take_succ_eq_append_getElem hk, List.getD_eq_getElem?_getD, List.getElem?_eq_getElem hk]
    rfl
  unfold SQ
  rw [e1]
  simp only [List.mem_append, List.mem_singleton, or_assoc]
  constructor
  · rintro (h | ⟨y, hy, h⟩ | h)
    · exact .inl h
    · exact .inr ⟨y, .inl hy, h⟩
    · exact .inr ⟨_, .inr rfl, he, h⟩
  · rintro (h | ⟨y, hy | rfl, h⟩)
    · exact .inl h
    · exact .inr (.inl ⟨y, hy, h⟩)
    · exact .inr (.inr h.2)
theorem SQ_zero {l m : List Mp} {i k : Nat} (h : ∀ j, j < k → j < m.length → (m.getD j d0).1 ≠ (l.getD i d0).2.1) (e : Pr) (n : Nat) : SP (l.take i) m e n ↔ SQ l m i k e n := by
  unfold SQ
  constructor
  · exact .inl
  · rintro (h2 | ⟨y, hy, h3, _⟩)
    · exact h2
    · obtain ⟨j, hj, e1⟩ := List.mem_iff_getElem.1 hy
      rw [List.length_take] at hj
      rw [List.getElem_take] at e1
      refine absurd h3 ?_
      have := h j (by omega) (by omega)
      rw [List.getD_eq_getElem?_getD, List.getElem?_eq_getElem (by omega), Option.getD_some] at this
      rw [← e1]; exact this
theorem SQ_end {l m : List Mp} {i k : Nat} (hi : i < l.length) (hk : k ≤ m.length) (h : ∀ j, k ≤ j → j < m.length → (m.getD j d0).1 ≠ (l.getD i d0).2.1) (e : Pr) (n : Nat) : SQ l m i k e n ↔ SP (l.take (i + 1)) m e n := by
  rw [SP_succ hi]
  unfold SQ
  constructor
  · rintro (h2 | ⟨y, hy, h3⟩)
    · exact .inl h2
    · exact .inr ⟨y, List.mem_of_mem_take hy, h3⟩
  · rintro (h2 | ⟨y, hy, h3⟩)
    · exact .inl h2
    · obtain ⟨j, hj, e1⟩ := List.mem_iff_getElem.1 hy
      rcases Nat.lt_or_ge j k with hjk | hjk
      · refine .inr ⟨y, ?_, h3⟩
        rw [← e1]
        exact List.mem_iff_getElem.2 ⟨j, by rw [List.length_take]; omega, by rw [List.getElem_take]⟩
      · refine absurd h3.1 ?_
        have := h j hjk hj
        rw [List.getD_eq_getElem?_getD, List.getElem?_eq_getElem hj, Option.getD_some] at this
        rw [← e1]; exact this
theorem four {ks : List Bool} (h : ks.length = 4) : ∃ a b c d, ks = [a, b, c, d] := by
  match ks, h with
  | [a, b, c, d], _ => exact ⟨a, b, c, d, rfl⟩
end Voc
namespace Go.Proofs.YtfdlngemkhiiiaaGreatDoor
open Go Go.Am Voc
set_option linter.unusedVariables false

set_option maxRecDepth 100000 in
set_option maxHeartbeats 8000000 in
theorem ways_ok (l m : List Mp) (hl : l.length ≤ 1099511627776) (hm : m.length ≤ 1099511627776) (H : List Blk) (T : Toks) (tl tm : Tag) :
    ACall Tryz.prog 10 [.sl l.length (mpAV l) tl, .sl m.length (mpAV m) tm] H T (Is (.tup [.sl (compF l m).1.length (mpAV (compF l m).1) .none, .int .i64 (compF l m).2]) H T) := by
  refine ACall.untag1 (ACall.untag2 ?_)
  refine ACall.dropT ?_ (by simp)
  have c0 := validP_ok l hl H T .none
  have c1 := validP_ok m hm H T .none
  refine acall_enter 83 [] Tryz.ntmps10 Tryz.func10 rfl (fun _ _ => Tryz.call10 _ _) (by simp) (fun HO => ?_)
  refine aw_reg fun K hK => ?_; simp (maxSteps := 1000000) (disch := omega) [-List.getD_eq_getElem?_getD]; refine hK _ ?_; clear hK K
  refine aw_then fun K1 hK1 => ?_
  have hno : validM l = true ∧ validM m = true ∨ ¬ (validM l = true ∧ validM m = true) := Classical.em _
  rcases hno with ⟨hvl, hvm⟩ | hno
  rotate_left
  · have hF : compF l m = ([], 1) := if_neg hno
    cases hvl : validM l with
    | false =>
      rw [hvl] at c0
      refine aw_reg fun K hK => ?_; simp (maxSteps := 1000000) (disch := omega) [-List.getD_eq_getElem?_getD]
      refine acall_is (c0) ?_; simp (maxSteps := 1000000) (disch := omega) [-List.getD_eq_getElem?_getD]
      refine hK _ ?_; clear hK K
      refine aw_if rfl (fun h => ?_) (fun h => absurd h (by simp))
      refine aw_reg fun K hK => ?_; simp (maxSteps := 1000000) (disch := omega) [-List.getD_eq_getElem?_getD]; refine hK _ ?_; clear hK K
      refine aw_ret ?_; simp (maxSteps := 1000000) (disch := omega) [-List.getD_eq_getElem?_getD]
      simp [hF, mpAV_nil]
    | true =>
      have hvm : validM m = false := by
        cases h : validM m with
        | false => rfl
        | true => exact absurd ⟨hvl, h⟩ hno
      rw [hvl] at c0
      rw [hvm] at c1
      refine aw_reg fun K hK => ?_; simp (maxSteps := 1000000) (disch := omega) [-List.getD_eq_getElem?_getD]
      refine acall_is (c0) ?_; simp (maxSteps := 1000000) (disch := omega) [-List.getD_eq_getElem?_getD]
      refine acall_is (c1) ?_; simp (maxSteps := 1000000) (disch := omega) [-List.getD_eq_getElem?_getD]
      refine hK _ ?_; clear hK K
      refine aw_if rfl (fun h => ?_) (fun h => absurd h (by simp))
      refine aw_reg fun K hK => ?_; simp (maxSteps := 1000000) (disch := omega) [-List.getD_eq_getElem?_getD]; refine hK _ ?_; clear hK K
      refine aw_ret ?_; simp (maxSteps := 1000000) (disch := omega) [-List.getD_eq_getElem?_getD]
      simp [hF, mpAV_nil]
  rw [hvl] at c0
  rw [hvm] at c1
  have kl := valid_kOk hvl
  have km := valid_kOk hvm
  have l5 := ((validM_iff l).1 hvl).2
  have m5 := ((validM_iff m).1 hvm).2
  refine aw_reg fun K hK => ?_; simp (maxSteps := 1000000) (disch := omega) [-List.getD_eq_getElem?_getD]
  refine acall_is (c0) ?_; simp (maxSteps := 1000000) (disch := omega) [-List.getD_eq_getElem?_getD]
  refine acall_is (c1) ?_; simp (maxSteps := 1000000) (disch := omega) [-List.getD_eq_getElem?_getD]
  refine hK _ ?_; clear hK K
  refine aw_if rfl (fun h => absurd h (by simp)) (fun h => ?_)
  refine aw_skip ?_; simp (maxSteps := 1000000) (disch := omega) [-List.getD_eq_getElem?_getD]
  refine hK1 _ ?_; clear hK1
  refine aw_reg fun K hK => ?_; simp (maxSteps := 1000000) (disch := omega) [-List.getD_eq_getElem?_getD]; refine hK _ ?_; clear hK K
  refine aw_then fun K1 hK1 => ?_
  refine aw_reg fun K hK => ?_; simp (maxSteps := 1000000) (disch := omega) [-List.getD_eq_getElem?_getD]; refine hK _ ?_; clear hK K
  refine aw_block ?_
  refine aw_loop (X := Nat × Wy) (fun x => ⟨[(0, .sl l.length (mpAV l) .none), (1, .sl m.length (mpAV m) .none), (6, .mref H.length), (26, .sl l.length (mpAV l) .none), (27, .int .i64 (l.length : Nat)), (28, .int .i64 (x.1 : Nat))], H ++ [.map (encW x.2)], T⟩)
    (fun x => x.1 ≤ l.length ∧ WOk x.2 (SP (l.take x.1) m) ∧ x.2.length ≤ x.1 * m.length ∧ keysFit Tryz.prog 59 (encW x.2) = true) (fun x => l.length - x.1) (0, []) ?_ ?_ ?_
  · exact ⟨Nat.zero_le _, WOk.nil.congr fun e n => by simp [SP], by simp, rfl⟩
  · refine weak_to [] [] ?_ ?_ ?_ ?_ (HO.snocMap (below_encW _ _ _)) ?_
    all_goals simp [encW]
  · rintro ⟨i, w⟩ ⟨h1, h2, h3, h4⟩
    simp only at h1 h2 h3 h4
    refine aw_reg fun K hK => ?_; simp (maxSteps := 1000000) (disch := omega) [-List.getD_eq_getElem?_getD]; refine hK _ ?_; clear hK K
    refine aw_then fun K2 hK2 => ?_
    refine aw_if rfl (fun hk => ?_) (fun hk => ?_)
    · simp [-List.getD_eq_getElem?_getD] at hk
      have hcut := mpAV_cut l i hk
      refine aw_skip ?_; simp (maxSteps := 1000000) (disch := omega) [-List.getD_eq_getElem?_getD]
      refine hK2 _ ?_; clear hK2
      refine aw_then fun K3 hK3 => ?_
      refine aw_block ?_
      refine aw_reg fun K hK => ?_; simp (maxSteps := 1000000) (disch := omega) [-List.getD_eq_getElem?_getD, hcut, mpAV_len]; refine hK _ ?_; clear hK K
      have c2 := fun H T => bsearch_ok m (l.getD i d0).2.1 hm H T .none
      refine aw_reg fun K hK => ?_; simp (maxSteps := 1000000) (disch := omega) [-List.getD_eq_getElem?_getD]
      refine ⟨_, c2 _ _, ?_⟩
      rintro v H' T' ⟨rfl, rfl, k0, b0, rfl, hk0, hlow⟩
      simp (maxSteps := 1000000) (disch := omega) [-List.getD_eq_getElem?_getD]
      refine hK _ ?_; clear hK K
      generalize hx : l.getD i d0 = x at *
      obtain ⟨x1, x2, x3⟩ := x
      have gx := of_decide_eq_true (validM_mem hvl (memD l i d0 hk))
      rw [hx] at gx
      simp only at gx hcut hlow
      have hlow := hlow hvm
      have hx1 : (l.getD i d0).1 = x1 := by rw [hx]
      have hx2 : (l.getD i d0).2.1 = x2 := by rw [hx]
      have hx3 : (l.getD i d0).2.2 = x3 := by rw [hx]
      have out : ∀ k w' e, k0 ≤ k → k ≤ m.length → (k < m.length → (m.getD k d0).1 ≠ x2) → WOk w' (SQ l m i k) → w'.length ≤ i * m.length + k → keysFit Tryz.prog 59 (encW w') = true →
          envLe (H.length + 2) T'.length e [(0, .sl l.length (mpAV l) .none), (1, .sl m.length (mpAV m) .none), (6, .mref H.length), (26, .sl l.length (mpAV l) .none), (27, .int .i64 (l.length : Nat)), (28, .int .i64 (i : Nat))] →
          K3 ⟨e, H ++ [.map (encW w'), .cells [.int .i64 x1, .int .i64 x2, .int .i64 x3]], T'⟩ := by
        intro k w' e g1 g2 g3 g4 g5 g6 he
        have hok : HOk (H ++ [.map (encW w'), .cells [.int .i64 x1, .int .i64 x2, .int .i64 x3]]) T' := by
          have := HOk.snoc (vs := [.int .i64 x1, .int .i64 x2, .int .i64 x3]) (HO.snocMap (es := encW w') (below_encW _ _ _)) (by simp)
          simpa using this
        refine hK3 _ (aw_weak ⟨[(0, .sl l.length (mpAV l) .none), (1, .sl m.length (mpAV m) .none), (6, .mref H.length), (26, .sl l.length (mpAV l) .none), (27, .int .i64 (l.length : Nat)), (28, .int .i64 (i : Nat))], H ++ [.map (encW w'), .cells [.int .i64 x1, .int .i64 x2, .int .i64 x3]], T'⟩ (weak_to [] [] (by simp) (by simp) (by simp) (by simp) hok (by simpa using he)) ?_)
        refine aw_reg0 fun K hK => ?_; simp (maxSteps := 1000000) (disch := omega) [-List.getD_eq_getElem?_getD]
        refine hK _ ?_; clear hK K
        refine ⟨(i + 1, w'), ⟨by show i + 1 ≤ _; omega, g4.congr fun e n => ?_, ?_, g6⟩, by show l.length - (i + 1) < l.length - i; omega, ?_⟩
        · refine SQ_end hk g2 (fun j hj hj2 => ?_) e n
          rw [hx2]
          have hkl : k < m.length := Nat.lt_of_le_of_lt hj hj2
          have e1 := hlow.2 k g1 hkl
          have e2 := validM_le hvm hj hj2
          have e3 := g3 hkl
          omega
        · show w'.length ≤ (i + 1) * m.length
          rw [Nat.add_mul, Nat.one_mul]; omega
        · refine weak_to [.cells [.int .i64 x1, .int .i64 x2, .int .i64 x3]] [] ?_ ?_ ?_ ?_ (HO.snocMap (below_encW _ _ _)) ?_
          all_goals simp
      clear hK3
      refine aw_block ?_
      refine aw_loop (X := Nat × Wy) (fun y => ⟨[(0, .sl l.length (mpAV l) .none), (1, .sl m.length (mpAV m) .none), (6, .mref H.length), (8, .ptr (H.length + 1) 0), (9, .int .i64 (y.1 : Nat)), (26, .sl l.length (mpAV l) .none), (27, .int .i64 (l.length : Nat)), (28, .int .i64 (i : Nat))],
          H ++ [.map (encW y.2), .cells [.int .i64 x1, .int .i64 x2, .int .i64 x3]], T'⟩)
        (fun y => k0 ≤ y.1 ∧ y.1 ≤ m.length ∧ WOk y.2 (SQ l m i y.1) ∧ y.2.length ≤ i * m.length + y.1 ∧ keysFit Tryz.prog 59 (encW y.2) = true) (fun y => m.length - y.1) (k0, w) ?_ ?_ ?_
      · refine ⟨Nat.le_refl _, hk0, h2.congr fun e n => SQ_zero (fun j hj hj2 => ?_) e n, ?_, h4⟩
        · rw [hx2]; have := hlow.1 j hj; omega
        · show w.length ≤ i * m.length + k0; omega
      · have hok : HOk (H ++ [.map (encW w), .cells [.int .i64 x1, .int .i64 x2, .int .i64 x3]]) T' := by
          have := HOk.snoc (vs := [.int .i64 x1, .int .i64 x2, .int .i64 x3]) (HO.snocMap (es := encW w) (below_encW _ _ _)) (by simp)
          simpa using this
        refine weak_to [] [] ?_ ?_ ?_ ?_ hok ?_
        all_goals simp
      · clear h2 h3 h4
        rintro ⟨k, w⟩ ⟨g1, g2, g3, g4, g5⟩
        simp only at g1 g2 g3 g4 g5
        have hok : HOk (H ++ [.map (encW w), .cells [.int .i64 x1, .int .i64 x2, .int .i64 x3]]) T' := by
          have := HOk.snoc (vs := [.int .i64 x1, .int .i64 x2, .int .i64 x3]) (HO.snocMap (es := encW w) (below_encW _ _ _)) (by simp)
          simpa using this
        refine aw_then fun K4 hK4 => ?_
        by_cases hkl : k < m.length
        rotate_left
        · have bk : decide ((k : Int) < m.length) = false := decide_eq_false (by omega)
          have nk : ¬ (k : Int) < m.length := by omega
          refine aw_draw [] [] [] drawMixed (by kernel_rfl) (by kernel_rfl) fun K hK => ?_; simp (maxSteps := 1000000) (disch := omega) [-List.getD_eq_getElem?_getD, bk, hkl]
          refine hK _ ?_; clear hK K
          refine aw_if rfl (fun h => absurd h (by simp)) (fun h => ?_)
          refine aw_exit ?_; simp (maxSteps := 1000000) (disch := omega) [-List.getD_eq_getElem?_getD]
          refine out k w _ g1 g2 (fun h => absurd h hkl) g3 g4 g5 ?_
          simp
        have bk : decide ((k : Int) < m.length) = true := decide_eq_true (by omega)
        have hck := mpAV_cut m k hkl
        have hak := mpAV_at m k hkl
        by_cases hto : (m.getD k d0).1 = x2
        rotate_left
        · have bt : ((m.getD k d0).1 == x2) = false := beq_eq_false_iff_ne.2 hto
          refine aw_draw [] [] [] drawMixed (by kernel_rfl) (by kernel_rfl) fun K hK => ?_; simp (maxSteps := 1000000) (disch := omega) [-List.getD_eq_getElem?_getD, bk, hkl, hck, hak.1, bt, hto, mpAV_len]
          refine hK _ ?_; clear hK K
          refine aw_if rfl (fun h => absurd h (by simp)) (fun h => ?_)
          refine aw_exit ?_; simp (maxSteps := 1000000) (disch := omega) [-List.getD_eq_getElem?_getD]
          refine out k w _ g1 g2 (fun _ => hto) g3 g4 g5 ?_
          simp
        · have bt : ((m.getD k d0).1 == x2) = true := beq_iff_eq.2 hto
          refine aw_draw [] [] [] drawMixed (by kernel_rfl) (by kernel_rfl) fun K hK => ?_; simp (maxSteps := 1000000) (disch := omega) [-List.getD_eq_getElem?_getD, bk, hkl, hck, hak.1, bt, hto, mpAV_len]
          refine hK _ ?_; clear hK K
          refine aw_if rfl (fun h => ?_) (fun h => absurd h (by simp))
          refine aw_skip ?_; simp (maxSteps := 1000000) (disch := omega) [-List.getD_eq_getElem?_getD]
          refine hK4 _ ?_; clear hK4
          refine aw_then fun K5 hK5 => ?_
          refine aw_block ?_
          generalize hy : m.getD k d0 = y at *
          obtain ⟨y1, y2, y3⟩ := y
          have gy := of_decide_eq_true (validM_mem hvm (memD m k d0 hkl))
          rw [hy] at gy
          simp only at gy hck hak hto bt
          obtain ⟨c0, c1, c2, c3, hw⟩ := four (g3.get (x1, y2)).1
          have hget := encW_get w (x1, y2)
          rw [hw] at hget
          have hlook : lookV (encW w) (.agg [.int .i64 x1, .int .i64 y2]) (.agg [.bool false, .bool false, .bool false, .bool false]) false = .agg [.bool c0, .bool c1, .bool c2, .bool c3] := hget
          have hfit : fitsB Tryz.prog 59 (.agg [.int .i64 x1, .int .i64 y2]) = true := fits39 x1 y2 (by omega) (by omega)
          have hput := encW_put w (x1, y2)
          rw [hw] at hput
          have cb := fun H T => both_ok x3 y3 H T
          have hq := joinK_lt (a := x3) (b := y3) (by omega) (by omega)
          refine aw_draw [8, 9] [0,0,0,0,0,0,0,0,0,1] [[0,1,2,3,4,5,6,7], []] drawMixed (by kernel_rfl) (by kernel_rfl) fun K hK => ?_; simp (maxSteps := 1000000) (disch := omega) [-List.getD_eq_getElem?_getD, hck, hkl, hak.2.1, mpAV_len]
          refine hK _ ?_; clear hK K
          refine aw_reg fun K hK => ?_; simp (maxSteps := 1000000) (disch := omega) [-List.getD_eq_getElem?_getD, mapT54, zeroV54, hfit, g5, hlook]; refine hK _ ?_; clear hK K
          have hn4 : (joinK x3 y3).toNat < 4 := by omega
          have g3' : WOk (wadd w (x1, y2) (joinK x3 y3).toNat) (SQ l m i (k + 1)) := by
            refine (g3.add (x1, y2) hn4).congr fun e n => ?_
            rw [← SQ_succ hkl (by rw [hy, hx2]; exact hto) e n, hx1, hx3, hy]
          have g4' : (wadd w (x1, y2) (joinK x3 y3).toNat).length ≤ i * m.length + (k + 1) := by
            have := wadd_len w (x1, y2) (joinK x3 y3).toNat; omega
          have hp : ∀ n, mput (encW w) (.agg [.int .i64 x1, .int .i64 y2]) (ksAV ([c0, c1, c2, c3].set n true)) = encW (wadd w (x1, y2) n) := fun n => hput n
          have g5' : keysFit Tryz.prog 59 (encW (wadd w (x1, y2) (joinK x3 y3).toNat)) = true := by
            rw [← hput]; exact keysFit_put g5 hfit
          have hq4 : joinK x3 y3 = 0 ∨ joinK x3 y3 = 1 ∨ joinK x3 y3 = 2 ∨ joinK x3 y3 = 3 := by omega
          generalize joinK x3 y3 = q at *
          rcases hq4 with rfl | rfl | rfl | rfl
          · have hpq : mput (encW w) (.agg [.int .i64 x1, .int .i64 y2]) (.agg [.bool true, .bool c1, .bool c2, .bool c3]) = encW (wadd w (x1, y2) 0) := hp 0
            refine aw_draw [9] [0,0,0,0,0,0,0,0,0,0] [[]] drawMixed (by kernel_rfl) (by kernel_rfl) fun K hK => ?_; simp (maxSteps := 1000000) (disch := omega) [-List.getD_eq_getElem?_getD, hck, hkl, hak.2.2, mpAV_len]
            refine dcall_is (cb _ _) rfl ?_; simp (maxSteps := 1000000) (disch := omega) [-List.getD_eq_getElem?_getD]
            refine hK _ ?_; clear hK K
            refine aw_reg0 fun K hK => ?_; simp (maxSteps := 1000000) (disch := omega) [-List.getD_eq_getElem?_getD, mapT54, hfit, g5, hpq]; refine hK _ ?_; clear hK K
            refine hK5 _ ?_; clear hK5
            refine aw_reg0 fun K hK => ?_; simp (maxSteps := 1000000) (disch := omega) [-List.getD_eq_getElem?_getD]
            refine hK _ ?_; clear hK K
            refine ⟨(k + 1, wadd w (x1, y2) 0), ⟨by show k0 ≤ k + 1; omega, by show k + 1 ≤ _; omega, g3', by show _ ≤ i * m.length + (k + 1); exact g4', g5'⟩, by show m.length - (k + 1) < m.length - k; omega, ?_⟩
            have hok2 : HOk (H ++ [.map (encW (wadd w (x1, y2) 0)), .cells [.int .i64 x1, .int .i64 x2, .int .i64 x3]]) T' := by
              have := HOk.snoc (vs := [.int .i64 x1, .int .i64 x2, .int .i64 x3]) (HO.snocMap (es := encW (wadd w (x1, y2) 0)) (below_encW _ _ _)) (by simp)
              simpa using this
            refine weak_to [.cells [.int .i64 x1, .int .i64 y2], .cells [.bool true, .bool c1, .bool c2, .bool c3]] [] ?_ ?_ ?_ ?_ hok2 ?_
            all_goals simp
          · have hpq : mput (encW w) (.agg [.int .i64 x1, .int .i64 y2]) (.agg [.bool c0, .bool true, .bool c2, .bool c3]) = encW (wadd w (x1, y2) 1) := hp 1
            refine aw_draw [9] [0,0,0,0,0,0,0,0,0,0] [[]] drawMixed (by kernel_rfl) (by kernel_rfl) fun K hK => ?_; simp (maxSteps := 1000000) (disch := omega) [-List.getD_eq_getElem?_getD, hck, hkl, hak.2.2, mpAV_len]
            refine dcall_is (cb _ _) rfl ?_; simp (maxSteps := 1000000) (disch := omega) [-List.getD_eq_getElem?_getD]
            refine hK _ ?_; clear hK K
            refine aw_reg0 fun K hK => ?_; simp (maxSteps := 1000000) (disch := omega) [-List.getD_eq_getElem?_getD, mapT54, hfit, g5, hpq]; refine hK _ ?_; clear hK K
            refine hK5 _ ?_; clear hK5
            refine aw_reg0 fun K hK => ?_; simp (maxSteps := 1000000) (disch := omega) [-List.getD_eq_getElem?_getD]
            refine hK _ ?_; clear hK K
            refine ⟨(k + 1, wadd w (x1, y2) 1), ⟨by show k0 ≤ k + 1; omega, by show k + 1 ≤ _; omega, g3', by show _ ≤ i * m.length + (k + 1); exact g4', g5'⟩, by show m.length - (k + 1) < m.length - k; omega, ?_⟩
            have hok2 : HOk (H ++ [.map (encW (wadd w (x1, y2) 1)), .cells [.int .i64 x1, .int .i64 x2, .int .i64 x3]]) T' := by
              have := HOk.snoc (vs := [.int .i64 x1, .int .i64 x2, .int .i64 x3]) (HO.snocMap (es := encW (wadd w (x1, y2) 1)) (below_encW _ _ _)) (by simp)
              simpa using this
            refine weak_to [.cells [.int .i64 x1, .int .i64 y2], .cells [.bool c0, .bool true, .bool c2, .bool c3]] [] ?_ ?_ ?_ ?_ hok2 ?_
            all_goals simp
          · have hpq : mput (encW w) (.agg [.int .i64 x1, .int .i64 y2]) (.agg [.bool c0, .bool c1, .bool true, .bool c3]) = encW (wadd w (x1, y2) 2) := hp 2
            refine aw_draw [9] [0,0,0,0,0,0,0,0,0,0] [[]] drawMixed (by kernel_rfl) (by kernel_rfl) fun K hK => ?_; simp (maxSteps := 1000000) (disch := omega) [-List.getD_eq_getElem?_getD, hck, hkl, hak.2.2, mpAV_len]
            refine dcall_is (cb _ _) rfl ?_; simp (maxSteps := 1000000) (disch := omega) [-List.getD_eq_getElem?_getD]
            refine hK _ ?_; clear hK K
            refine aw_reg0 fun K hK => ?_; simp (maxSteps := 1000000) (disch := omega) [-List.getD_eq_getElem?_getD, mapT54, hfit, g5, hpq]; refine hK _ ?_; clear hK K
            refine hK5 _ ?_; clear hK5
            refine aw_reg0 fun K hK => ?_; simp (maxSteps := 1000000) (disch := omega) [-List.getD_eq_getElem?_getD]
            refine hK _ ?_; clear hK K
            refine ⟨(k + 1, wadd w (x1, y2) 2), ⟨by show k0 ≤ k + 1; omega, by show k + 1 ≤ _; omega, g3', by show _ ≤ i * m.length + (k + 1); exact g4', g5'⟩, by show m.length - (k + 1) < m.length - k; omega, ?_⟩
            have hok2 : HOk (H ++ [.map (encW (wadd w (x1, y2) 2)), .cells [.int .i64 x1, .int .i64 x2, .int .i64 x3]]) T' := by
              have := HOk.snoc (vs := [.int .i64 x1, .int .i64 x2, .int .i64 x3]) (HO.snocMap (es := encW (wadd w (x1, y2) 2)) (below_encW _ _ _)) (by simp)
              simpa using this
            refine weak_to [.cells [.int .i64 x1, .int .i64 y2], .cells [.bool c0, .bool c1, .bool true, .bool c3]] [] ?_ ?_ ?_ ?_ hok2 ?_
            all_goals simp
          · have hpq : mput (encW w) (.agg [.int .i64 x1, .int .i64 y2]) (.agg [.bool c0, .bool c1, .bool c2, .bool true]) = encW (wadd w (x1, y2) 3) := hp 3
            refine aw_draw [9] [0,0,0,0,0,0,0,0,0,0] [[]] drawMixed (by kernel_rfl) (by kernel_rfl) fun K hK => ?_; simp (maxSteps := 1000000) (disch := omega) [-List.getD_eq_getElem?_getD, hck, hkl, hak.2.2, mpAV_len]
            refine dcall_is (cb _ _) rfl ?_; simp (maxSteps := 1000000) (disch := omega) [-List.getD_eq_getElem?_getD]
            refine hK _ ?_; clear hK K
            refine aw_reg0 fun K hK => ?_; simp (maxSteps := 1000000) (disch := omega) [-List.getD_eq_getElem?_getD, mapT54, hfit, g5, hpq]; refine hK _ ?_; clear hK K
            refine hK5 _ ?_; clear hK5
            refine aw_reg0 fun K hK => ?_; simp (maxSteps := 1000000) (disch := omega) [-List.getD_eq_getElem?_getD]
            refine hK _ ?_; clear hK K
            refine ⟨(k + 1, wadd w (x1, y2) 3), ⟨by show k0 ≤ k + 1; omega, by show k + 1 ≤ _; omega, g3', by show _ ≤ i * m.length + (k + 1); exact g4', g5'⟩, by show m.length - (k + 1) < m.length - k; omega, ?_⟩
            have hok2 : HOk (H ++ [.map (encW (wadd w (x1, y2) 3)), .cells [.int .i64 x1, .int .i64 x2, .int .i64 x3]]) T' := by
              have := HOk.snoc (vs := [.int .i64 x1, .int .i64 x2, .int .i64 x3]) (HO.snocMap (es := encW (wadd w (x1, y2) 3)) (below_encW _ _ _)) (by simp)
              simpa using this
            refine weak_to [.cells [.int .i64 x1, .int .i64 y2], .cells [.bool c0, .bool c1, .bool c2, .bool true]] [] ?_ ?_ ?_ ?_ hok2 ?_
            all_goals simp
    · simp [-List.getD_eq_getElem?_getD] at hk
      have e : i = l.length := by omega
      subst e
      rw [List.take_length] at h2
      have hww : w.length ≤ 250000 := Nat.le_trans h3 (Nat.le_trans (Nat.mul_le_mul l5 m5) (by omega))
      refine aw_exit ?_; simp (maxSteps := 1000000) (disch := omega) [-List.getD_eq_getElem?_getD]
      refine hK1 _ (aw_weak ⟨[(6, .mref H.length)], H ++ [.map (encW w)], T⟩ (weak_to [] [] (by simp) (by simp) (by simp) (by simp) (HO.snocMap (below_encW _ _ _)) (by simp)) ?_)
      refine aw_reg fun K hK => ?_; simp (maxSteps := 1000000) (disch := omega) [-List.getD_eq_getElem?_getD]; refine hK _ ?_; clear hK K
      refine aw_then fun K1 hK1 => ?_
      refine aw_reg fun K hK => ?_; simp (maxSteps := 1000000) (disch := omega) [-List.getD_eq_getElem?_getD, mapT54]; refine hK _ ?_; clear hK K
      refine aw_own 13 0 3 [] (by omega) (by simp) ?_
      refine aw_block ?_
      refine aw_loop (X := List Nat) (fun x => ⟨[(6, .mref H.length), (13, .sl (pk w x).length (mpAV (pk w x)) (.own T.length)), (80, .ptr (H.length + 1) 0)], H ++ [.map (encW w), .mit H.length (encW w).length x], T ++ [((pk w x).length * 3, 3)]⟩)
        (fun x => x.Nodup ∧ ∀ j ∈ x, j < w.length) (fun x => w.length - x.length) [] ?_ ?_ ?_
      · exact ⟨by simp, fun j hj => by simp at hj⟩
      · have hok3 : HOk (H ++ [.map (encW w), .mit H.length (encW w).length []]) (T ++ [(0, 3)]) := by
          have := (HOk.snocMit (m := H.length) (n := (encW w).length) (seen := []) (HO.snocMap (es := encW w) (below_encW _ _ _))).toks (T' := T ++ [(0, 3)]) (by simp)
          simpa using this
        refine weak_to [] [] ?_ ?_ ?_ ?_ hok3 ?_
        all_goals simp [pk, mpAV_nil]
      · rintro seen ⟨q1, q2⟩
        refine aw_reg fun K hK => ?_; simp (maxSteps := 1000000) (disch := omega) [-List.getD_eq_getElem?_getD]
        unfold NextC
        refine ⟨rfl, fun hall => ?_, fun j kk v hj hns => ?_⟩
        · simp (maxSteps := 1000000) (disch := omega) [-List.getD_eq_getElem?_getD]
          refine hK _ ?_; clear hK K
          refine aw_then fun K2 hK2 => ?_
          refine aw_if rfl (fun h => absurd h (by simp)) (fun h => ?_)
          refine aw_exit ?_; simp (maxSteps := 1000000) (disch := omega) [-List.getD_eq_getElem?_getD]
          have hall : ∀ j, j < w.length → j ∈ seen := fun j hj => hall j (by rw [encW_len]; exact hj)
          have p1 := mem_pk h2 hall
          have p2 := pk_nd h2 q1
          have p3 := comp_of kl km p2 p1
          have p4 := comp_len kl km p2 p1
          have p5 : (pk w seen).length ≤ 250000 := Nat.le_trans pk_len (Nat.le_trans (nodup_le _ _ q1 q2) hww)
          have hF : compF l m = if (comp l m).length ≤ 500 then (comp l m, 0) else ([], 3) := if_pos ⟨hvl, hvm⟩
          generalize pk w seen = out at *
          refine hK1 _ (aw_weak ⟨[(13, .sl out.length (mpAV out) .none)], H, T⟩ (weak_to [.map (encW w), .mit H.length (encW w).length seen] [(out.length * 3, 3)] (by simp) (by simp) (by simp) (by simp) HO (by simp)) ?_)
          by_cases h5 : (comp l m).length ≤ 500
          · rw [if_pos h5] at hF
            rw [← p4] at h5
            have b5 : decide ((500 : Int) < out.length) = false := decide_eq_false (by omega)
            have n5 : ¬ (500 : Int) < out.length := by omega
            have cs := sorted_ok out (by omega) H T .none
            rw [p3] at cs
            refine aw_then fun K3 hK3 => ?_
            refine aw_reg fun K hK => ?_; simp (maxSteps := 1000000) (disch := omega) [-List.getD_eq_getElem?_getD, b5, n5]; refine hK _ ?_; clear hK K
            refine aw_if rfl (fun h => absurd h (by simp)) (fun h => ?_)
            refine aw_skip ?_; simp (maxSteps := 1000000) (disch := omega) [-List.getD_eq_getElem?_getD]
            refine hK3 _ ?_; clear hK3
            refine aw_reg fun K hK => ?_; simp (maxSteps := 1000000) (disch := omega) [-List.getD_eq_getElem?_getD]
            refine acall_is (cs) ?_; simp (maxSteps := 1000000) (disch := omega) [-List.getD_eq_getElem?_getD]
            refine hK _ ?_; clear hK K
            refine aw_ret ?_; simp (maxSteps := 1000000) (disch := omega) [-List.getD_eq_getElem?_getD]
            simp [hF, p4]
          · rw [if_neg h5] at hF
            rw [← p4] at h5
            have b5 : decide ((500 : Int) < out.length) = true := decide_eq_true (by omega)
            have n5 : (500 : Int) < out.length := by omega
            refine aw_then fun K3 hK3 => ?_
            refine aw_reg fun K hK => ?_; simp (maxSteps := 1000000) (disch := omega) [-List.getD_eq_getElem?_getD, b5, n5]; refine hK _ ?_; clear hK K
            refine aw_if rfl (fun h => ?_) (fun h => absurd h (by simp))
            refine aw_reg fun K hK => ?_; simp (maxSteps := 1000000) (disch := omega) [-List.getD_eq_getElem?_getD]; refine hK _ ?_; clear hK K
            refine aw_ret ?_; simp (maxSteps := 1000000) (disch := omega) [-List.getD_eq_getElem?_getD]
            simp [hF, mpAV_nil]
        · obtain ⟨hjw, ⟨f, t⟩, ks, hwj, rfl, rfl⟩ : ∃ (hjw : j < w.length) (e : Pr) (ks : List Bool), w[j]? = some (e, ks) ∧ kk = keyE e ∧ v = ksAV ks := by
            rw [encW, List.getElem?_map, Option.map_eq_some_iff] at hj
            obtain ⟨⟨e, ks⟩, h1, h2⟩ := hj
            rw [Prod.mk.injEq] at h2
            exact ⟨(List.getElem?_eq_some_iff.1 h1).1, e, ks, h1, h2.1.symm, h2.2.symm⟩
          obtain ⟨c0, c1, c2, c3, rfl⟩ := four (h2.ks _ _ (List.mem_of_getElem? hwj)).1
          have hsn := pk_snoc (seen := seen) hwj
          have hle : seen.length < w.length := by
            have := nodup_le w.length (seen ++ [j]) (by rw [List.nodup_append]; exact ⟨q1, by simp, fun a ha b hb => by simp at hb; rw [hb]; exact fun e => hns (by rw [← e]; exact ha)⟩) (fun a ha => by
              rcases List.mem_append.1 ha with ha | ha
              · exact q2 a ha
              · simp at ha; rw [ha]; exact hjw)
            simp at this; omega
          have q1' : (seen ++ [j]).Nodup := by
            rw [List.nodup_append]; exact ⟨q1, by simp, fun a ha b hb => by simp at hb; rw [hb]; exact fun e => hns (by rw [← e]; exact ha)⟩
          have q2' : ∀ a ∈ seen ++ [j], a < w.length := fun a ha => by
            rcases List.mem_append.1 ha with ha | ha
            · exact q2 a ha
            · simp at ha; rw [ha]; exact hjw
          have p5 : (pk w seen).length ≤ 250000 := Nat.le_trans pk_len (Nat.le_trans (nodup_le _ _ q1 q2) hww)
          simp (maxSteps := 1000000) (disch := omega) [-List.getD_eq_getElem?_getD, keyE, ksAV]
          refine hK _ ?_; clear hK K
          refine aw_then fun K2 hK2 => ?_
          refine aw_if rfl (fun h => ?_) (fun h => absurd h (by simp))
          refine aw_skip ?_; simp (maxSteps := 1000000) (disch := omega) [-List.getD_eq_getElem?_getD]
          refine hK2 _ ?_; clear hK2
          refine aw_block ?_
          refine aw_reg fun K hK => ?_; simp (maxSteps := 1000000) (disch := omega) [-List.getD_eq_getElem?_getD, hj, encW_len, List.getLast?_append, keyE, ksAV]; refine hK _ ?_; clear hK K
          refine aw_reg fun K hK => ?_; simp (maxSteps := 1000000) (disch := omega) [-List.getD_eq_getElem?_getD]; refine hK _ ?_; clear hK K
          refine aw_then fun K3 hK3 => ?_
          have hokB : ∀ kd : Int, HOk (H ++ [.map (encW w), .mit H.length w.length (seen ++ [j]), .cells [.int .i64 f, .int .i64 t], .cells [.bool c0, .bool c1, .bool c2, .bool c3], .cells [.int .i64 f, .int .i64 t, .int .i64 kd]]) (T ++ [((pk w seen).length * 3, 3)]) := by
            intro kd
            have h0 := (HOk.snocMit (m := H.length) (n := w.length) (seen := seen ++ [j]) (HO.snocMap (es := encW w) (below_encW _ _ _))).toks (T' := T ++ [((pk w seen).length * 3, 3)]) (by simp)
            have h1 := h0.snoc (vs := [.int .i64 f, .int .i64 t]) (by simp)
            have h2 := h1.snoc (vs := [.bool c0, .bool c1, .bool c2, .bool c3]) (by simp)
            have h3 := h2.snoc (vs := [.int .i64 f, .int .i64 t, .int .i64 kd]) (by simp)
            simpa using h3
          have hokE : ∀ o : List Mp, HOk (H ++ [.map (encW w), .mit H.length (encW w).length (seen ++ [j])]) (T ++ [(o.length * 3, 3)]) := by
            intro o
            have h0 := (HOk.snocMit (m := H.length) (n := (encW w).length) (seen := seen ++ [j]) (HO.snocMap (es := encW w) (below_encW _ _ _))).toks (T' := T ++ [(o.length * 3, 3)]) (by simp)
            simpa using h0
          have fin : ∀ (e : Env) (kd : Int), pickW ((f, t), [c0, c1, c2, c3]) = some (f, t, kd) → envLe (H.length + 5) (T.length + 1) e [(6, .mref H.length), (13, .sl (pk w seen).length (mpAV (pk w seen)) (.own T.length)), (80, .ptr (H.length + 1) 0), (16, .ptr (H.length + 4) 0)] → K3 ⟨e, H ++ [.map (encW w), .mit H.length w.length (seen ++ [j]), .cells [.int .i64 f, .int .i64 t], .cells [.bool c0, .bool c1, .bool c2, .bool c3], .cells [.int .i64 f, .int .i64 t, .int .i64 kd]], T ++ [((pk w seen).length * 3, 3)]⟩ := by
            intro e kd hp he
            refine hK3 _ (aw_weak ⟨[(6, .mref H.length), (13, .sl (pk w seen).length (mpAV (pk w seen)) (.own T.length)), (80, .ptr (H.length + 1) 0), (16, .ptr (H.length + 4) 0)], H ++ [.map (encW w), .mit H.length w.length (seen ++ [j]), .cells [.int .i64 f, .int .i64 t], .cells [.bool c0, .bool c1, .bool c2, .bool c3], .cells [.int .i64 f, .int .i64 t, .int .i64 kd]], T ++ [((pk w seen).length * 3, 3)]⟩ (weak_to [] [] (by simp) (by simp) (by simp) (by simp) (hokB kd) (by simpa using he)) ?_)
            rw [hp] at hsn
            refine aw_reg0 fun K hK => ?_; simp (maxSteps := 1000000) (disch := omega) [-List.getD_eq_getElem?_getD, mpAV_len, mpAV_snoc]
            refine hK _ ?_; clear hK K
            refine ⟨seen ++ [j], ⟨q1', q2'⟩, by rw [List.length_append, List.length_singleton]; omega, ?_⟩
            rw [hsn]
            refine weak_to [.cells [.int .i64 f, .int .i64 t], .cells [.bool c0, .bool c1, .bool c2, .bool c3], .cells [.int .i64 f, .int .i64 t, .int .i64 kd]] [] ?_ ?_ ?_ ?_ (hokE _) ?_
            all_goals simp [encW_len, mpAV_snoc, Nat.add_mul]
          have hm : w.length - (seen ++ [j]).length < w.length - seen.length := by rw [List.length_append, List.length_singleton]; omega
          clear hK3
          cases c1
          rotate_left
          · refine aw_block ?_
            refine aw_reg fun K hK => ?_; simp (maxSteps := 1000000) (disch := omega) [-List.getD_eq_getElem?_getD]; refine hK _ ?_; clear hK K
            refine aw_if rfl (fun h => ?_) (fun h => absurd h (by simp))
            refine aw_reg0 fun K hK => ?_; simp (maxSteps := 1000000) (disch := omega) [-List.getD_eq_getElem?_getD]; refine hK _ ?_; clear hK K
            refine fin _ 1 (by rfl) ?_
            simp
          cases c2
          · cases c3
            · refine aw_block ?_
              refine aw_reg fun K hK => ?_; simp (maxSteps := 1000000) (disch := omega) [-List.getD_eq_getElem?_getD]; refine hK _ ?_; clear hK K
              refine aw_if rfl (fun h => absurd h (by simp)) (fun h => ?_)
              refine aw_reg fun K hK => ?_; simp (maxSteps := 1000000) (disch := omega) [-List.getD_eq_getElem?_getD]; refine hK _ ?_; clear hK K
              refine aw_if rfl (fun h => absurd h (by simp)) (fun h => ?_)
              refine aw_reg fun K hK => ?_; simp (maxSteps := 1000000) (disch := omega) [-List.getD_eq_getElem?_getD]; refine hK _ ?_; clear hK K
              refine aw_if rfl (fun h => absurd h (by simp)) (fun h => ?_)
              refine aw_exit ?_; simp (maxSteps := 1000000) (disch := omega) [-List.getD_eq_getElem?_getD]
              have hp : pickW ((f, t), [c0, false, false, false]) = none := by rfl
              rw [hp] at hsn
              have hsn : pk w (seen ++ [j]) = pk w seen := by rw [hsn]; simp
              refine ⟨seen ++ [j], ⟨q1', q2'⟩, hm, ?_⟩
              rw [hsn]
              refine weak_to [.cells [.int .i64 f, .int .i64 t], .cells [.bool c0, .bool false, .bool false, .bool false], .cells [.int .i64 f, .int .i64 t, .int .i64 0]] [] ?_ ?_ ?_ ?_ (hokE _) ?_
              all_goals simp [encW_len]
            · refine aw_block ?_
              refine aw_reg fun K hK => ?_; simp (maxSteps := 1000000) (disch := omega) [-List.getD_eq_getElem?_getD]; refine hK _ ?_; clear hK K
              refine aw_if rfl (fun h => absurd h (by simp)) (fun h => ?_)
              refine aw_reg fun K hK => ?_; simp (maxSteps := 1000000) (disch := omega) [-List.getD_eq_getElem?_getD]; refine hK _ ?_; clear hK K
              refine aw_if rfl (fun h => absurd h (by simp)) (fun h => ?_)
              refine aw_reg fun K hK => ?_; simp (maxSteps := 1000000) (disch := omega) [-List.getD_eq_getElem?_getD]; refine hK _ ?_; clear hK K
              refine aw_if rfl (fun h => ?_) (fun h => absurd h (by simp))
              refine aw_reg0 fun K hK => ?_; simp (maxSteps := 1000000) (disch := omega) [-List.getD_eq_getElem?_getD]; refine hK _ ?_; clear hK K
              refine fin _ 3 (by rfl) ?_
              simp
          · cases c3
            · refine aw_block ?_
              refine aw_reg fun K hK => ?_; simp (maxSteps := 1000000) (disch := omega) [-List.getD_eq_getElem?_getD]; refine hK _ ?_; clear hK K
              refine aw_if rfl (fun h => absurd h (by simp)) (fun h => ?_)
              refine aw_reg fun K hK => ?_; simp (maxSteps := 1000000) (disch := omega) [-List.getD_eq_getElem?_getD]; refine hK _ ?_; clear hK K
              refine aw_if rfl (fun h => ?_) (fun h => absurd h (by simp))
              refine aw_reg0 fun K hK => ?_; simp (maxSteps := 1000000) (disch := omega) [-List.getD_eq_getElem?_getD]; refine hK _ ?_; clear hK K
              refine fin _ 2 (by rfl) ?_
              simp
            · refine aw_block ?_
              refine aw_reg fun K hK => ?_; simp (maxSteps := 1000000) (disch := omega) [-List.getD_eq_getElem?_getD]; refine hK _ ?_; clear hK K
              refine aw_if rfl (fun h => absurd h (by simp)) (fun h => ?_)
              refine aw_reg fun K hK => ?_; simp (maxSteps := 1000000) (disch := omega) [-List.getD_eq_getElem?_getD]; refine hK _ ?_; clear hK K
              refine aw_if rfl (fun h => absurd h (by simp)) (fun h => ?_)
              refine aw_reg fun K hK => ?_; simp (maxSteps := 1000000) (disch := omega) [-List.getD_eq_getElem?_getD]; refine hK _ ?_; clear hK K
              refine aw_if rfl (fun h => absurd h (by simp)) (fun h => ?_)
              refine aw_exit ?_; simp (maxSteps := 1000000) (disch := omega) [-List.getD_eq_getElem?_getD]
              have hp : pickW ((f, t), [c0, false, true, true]) = none := by rfl
              rw [hp] at hsn
              have hsn : pk w (seen ++ [j]) = pk w seen := by rw [hsn]; simp
              refine ⟨seen ++ [j], ⟨q1', q2'⟩, hm, ?_⟩
              rw [hsn]
              refine weak_to [.cells [.int .i64 f, .int .i64 t], .cells [.bool c0, .bool false, .bool true, .bool true], .cells [.int .i64 f, .int .i64 t, .int .i64 0]] [] ?_ ?_ ?_ ?_ (hokE _) ?_
              all_goals simp [encW_len]
end Go.Proofs.YtfdlngemkhiiiaaGreatDoor
