/- The reference's numbers, order, Compare (layer 52): the walks.
   Conditions: small parts. -/
import Derived.Test.YtnmlpohhommagaaGreatDoorCB
import Derived.Test.YtnmlpohhommagaaGreatDoorCE
namespace Cn
open Go.Lib Lst
theorem compL_end {a b : List (List UInt8)} {i : Nat} (h1 : i ≤ a.length) (h2 : i ≤ b.length) (h : i = a.length ∨ i = b.length) : compL (a.drop i) (b.drop i) = cmpI a.length b.length := by
  have e1 := List.length_drop (i := i) (l := a)
  have e2 := List.length_drop (i := i) (l := b)
  generalize a.drop i = x at *
  generalize b.drop i = y at *
  unfold cmpI
  match x, y with
  | [], [] =>
    simp only [List.length_nil] at e1 e2
    rw [if_neg (by omega), if_neg (by omega)]; rfl
  | [], _ :: _ =>
    simp only [List.length_nil, List.length_cons] at e1 e2
    rw [if_pos (by omega)]; rfl
  | _ :: _, [] =>
    simp only [List.length_nil, List.length_cons] at e1 e2
    rw [if_neg (by omega), if_pos (by omega)]; rfl
  | _ :: _, _ :: _ =>
    simp only [List.length_cons] at e1 e2
    omega
end Cn
namespace Go.Proofs.YtnmlpohhommagaaGreatDoor
open Go Go.Am Cn Lst
set_option linter.unusedVariables false

set_option maxRecDepth 100000 in
theorem numbersR_ok (x y : Int) (H : List Blk) (T : Toks) : ACall Tryz.prog 38 [.int .i64 x, .int .i64 y] H T (Is (.int .i64 (cmpI x y)) H T) := by
  unfold cmpI
  refine acall_enter 13 [] Tryz.ntmps38 Tryz.func38 rfl (fun _ _ => Tryz.call38 _ _) (by simp) (fun HO => ?_)
  refine aw_reg fun K hK => ?_; simp (maxSteps := 1000000) (disch := omega) [-List.getD_eq_getElem?_getD]; refine hK _ ?_; clear hK K
  refine aw_then fun K1 hK1 => ?_
  refine aw_block ?_
  by_cases h1 : x < y
  · have b1 : decide (x < y) = true := decide_eq_true h1
    rw [if_pos h1]
    refine aw_reg fun K hK => ?_; simp (maxSteps := 1000000) (disch := omega) [-List.getD_eq_getElem?_getD, h1]; refine hK _ ?_; clear hK K
    refine aw_if rfl (fun h => ?_) (fun h => absurd h (by simp [h1]))
    refine aw_reg fun K hK => ?_; simp (maxSteps := 1000000) (disch := omega) [-List.getD_eq_getElem?_getD]; refine hK _ ?_; clear hK K
    refine aw_ret ?_; simp (maxSteps := 1000000) (disch := omega) [-List.getD_eq_getElem?_getD]
    exact ⟨rfl, rfl, rfl⟩
  · have b1 : decide (x < y) = false := decide_eq_false h1
    rw [if_neg h1]
    refine aw_reg fun K hK => ?_; simp (maxSteps := 1000000) (disch := omega) [-List.getD_eq_getElem?_getD, h1]; refine hK _ ?_; clear hK K
    refine aw_if rfl (fun h => absurd h (by simp [h1])) (fun h => ?_)
    by_cases h2 : y < x
    · have b2 : decide (x > y) = true := decide_eq_true h2
      have b3 : decide (y < x) = true := decide_eq_true h2
      rw [if_pos h2]
      refine aw_reg fun K hK => ?_; simp (maxSteps := 1000000) (disch := omega) [-List.getD_eq_getElem?_getD, h2]; refine hK _ ?_; clear hK K
      refine aw_if rfl (fun h => ?_) (fun h => absurd h (by simp [h2]))
      refine aw_reg fun K hK => ?_; simp (maxSteps := 1000000) (disch := omega) [-List.getD_eq_getElem?_getD]; refine hK _ ?_; clear hK K
      refine aw_ret ?_; simp (maxSteps := 1000000) (disch := omega) [-List.getD_eq_getElem?_getD]
      exact ⟨rfl, rfl, rfl⟩
    · have b2 : decide (x > y) = false := decide_eq_false h2
      have b3 : decide (y < x) = false := decide_eq_false h2
      rw [if_neg h2]
      refine aw_reg fun K hK => ?_; simp (maxSteps := 1000000) (disch := omega) [-List.getD_eq_getElem?_getD, h2]; refine hK _ ?_; clear hK K
      refine aw_if rfl (fun h => absurd h (by simp [h2])) (fun h => ?_)
      refine aw_skip ?_; simp (maxSteps := 1000000) (disch := omega) [-List.getD_eq_getElem?_getD]
      refine hK1 _ ?_; clear hK1
      refine aw_reg fun K hK => ?_; simp (maxSteps := 1000000) (disch := omega) [-List.getD_eq_getElem?_getD]; refine hK _ ?_; clear hK K
      refine aw_ret ?_; simp (maxSteps := 1000000) (disch := omega) [-List.getD_eq_getElem?_getD]
      exact ⟨rfl, rfl, rfl⟩

set_option maxRecDepth 100000 in
theorem orderR_ok (x y : List UInt8) (H : List Blk) (T : Toks) : ACall Tryz.prog 39 [.str x, .str y] H T (Is (.int .i64 (Lib.compareBytes x y)) H T) := by
  have hv := compareBytes_vals x y
  have hz := compareBytes_zero x y
  have hl := less_cmp x y
  generalize hq : Lib.compareBytes x y = q at *
  refine acall_enter 13 [] Tryz.ntmps39 Tryz.func39 rfl (fun _ _ => Tryz.call39 _ _) (by simp) (fun HO => ?_)
  refine aw_reg fun K hK => ?_; simp (maxSteps := 1000000) (disch := omega) [-List.getD_eq_getElem?_getD]; refine hK _ ?_; clear hK K
  refine aw_then fun K1 hK1 => ?_
  refine aw_block ?_
  by_cases h1 : q = -1
  · subst h1
    have hl2 : Op.bytesLess x y = true := by rw [hl]; rfl
    refine aw_reg fun K hK => ?_; simp (maxSteps := 1000000) (disch := omega) [-List.getD_eq_getElem?_getD, hl2]; refine hK _ ?_; clear hK K
    refine aw_if rfl (fun h => ?_) (fun h => absurd h (by simp))
    refine aw_reg fun K hK => ?_; simp (maxSteps := 1000000) (disch := omega) [-List.getD_eq_getElem?_getD]; refine hK _ ?_; clear hK K
    refine aw_ret ?_; simp (maxSteps := 1000000) (disch := omega) [-List.getD_eq_getElem?_getD]
    exact ⟨rfl, rfl, rfl⟩
  · have hl2 : Op.bytesLess x y = false := by rw [hl]; exact decide_eq_false h1
    refine aw_reg fun K hK => ?_; simp (maxSteps := 1000000) (disch := omega) [-List.getD_eq_getElem?_getD, hl2]; refine hK _ ?_; clear hK K
    refine aw_if rfl (fun h => absurd h (by simp)) (fun h => ?_)
    by_cases h2 : q = 0
    · have e := hz.1 h2
      subst e
      subst h2
      refine aw_reg fun K hK => ?_; simp (maxSteps := 1000000) (disch := omega) [-List.getD_eq_getElem?_getD, hl2]; refine hK _ ?_; clear hK K
      refine aw_if rfl (fun h => absurd h (by simp)) (fun h => ?_)
      refine aw_skip ?_; simp (maxSteps := 1000000) (disch := omega) [-List.getD_eq_getElem?_getD]
      refine hK1 _ ?_; clear hK1
      refine aw_reg fun K hK => ?_; simp (maxSteps := 1000000) (disch := omega) [-List.getD_eq_getElem?_getD]; refine hK _ ?_; clear hK K
      refine aw_ret ?_; simp (maxSteps := 1000000) (disch := omega) [-List.getD_eq_getElem?_getD]
      exact ⟨rfl, rfl, rfl⟩
    · have e : ¬ x = y := fun e => h2 (hz.2 e)
      have e2 : (x == y) = false := beq_eq_false_iff_ne.2 e
      obtain rfl : q = 1 := by omega
      refine aw_reg fun K hK => ?_; simp (maxSteps := 1000000) (disch := omega) [-List.getD_eq_getElem?_getD, hl2, e2]; refine hK _ ?_; clear hK K
      refine aw_if rfl (fun h => ?_) (fun h => absurd h (by simp [e]))
      refine aw_reg fun K hK => ?_; simp (maxSteps := 1000000) (disch := omega) [-List.getD_eq_getElem?_getD]; refine hK _ ?_; clear hK K
      refine aw_ret ?_; simp (maxSteps := 1000000) (disch := omega) [-List.getD_eq_getElem?_getD]
      exact ⟨rfl, rfl, rfl⟩

set_option maxRecDepth 100000 in
set_option maxHeartbeats 8000000 in
theorem compareR_ok (a b : Cl) (t1 t2 : Tag) (ha : Sm a) (hb : Sm b) (H : List Blk) (T : Toks) :
    ACall Tryz.prog 15 [.agg (clAV a t1), .agg (clAV b t2)] H T (Is (.int .i64 (compV a b)) H T) := by
  refine callCl1 t1 (callCl2 t2 ?_)
  refine ACall.drop' ?_ (by simp)
  unfold compV
  have c1 := fun G => validR_ok a .none ha (H ++ G) T
  have c2 := fun G => validR_ok b .none hb (H ++ G) T
  have hsa : ∀ n t, BelowAll n t (strs a.cut) := fun n t => by simp
  have hsb : ∀ n t, BelowAll n t (strs b.cut) := fun n t => by simp
  have hac := ha.cut
  have hbc := hb.cut
  clear ha hb
  generalize validF a = va at *
  generalize validF b = vb at *
  cases va with
  | false =>
    generalize compF a b = F at *
    obtain ⟨s1, s2, s3, s4, s5, s6, s7⟩ := a
    obtain ⟨r1, r2, r3, r4, r5, r6, r7⟩ := b
    simp only [clAV] at *
    refine acall_enter 5 [] Tryz.ntmps15 Tryz.func15 rfl (fun _ _ => Tryz.call15 _ _) (by simp) (fun HO => ?_)
    refine aw_reg fun K hK => ?_; simp (maxSteps := 1000000) (disch := omega) [-List.getD_eq_getElem?_getD]; refine hK _ ?_; clear hK K
    refine aw_then fun K1 hK1 => ?_
    refine aw_reg fun K hK => ?_; simp (maxSteps := 1000000) (disch := omega) [-List.getD_eq_getElem?_getD]
    refine acall_is (c1 _) ?_; simp (maxSteps := 1000000) (disch := omega) [-List.getD_eq_getElem?_getD]
    refine hK _ ?_; clear hK K
    refine aw_if rfl (fun h => ?_) (fun h => absurd h (by simp))
    refine aw_reg fun K hK => ?_; simp (maxSteps := 1000000) (disch := omega) [-List.getD_eq_getElem?_getD]; refine hK _ ?_; clear hK K
    refine aw_ret ?_; simp (maxSteps := 1000000) (disch := omega) [-List.getD_eq_getElem?_getD]
  | true =>
    cases vb with
    | false =>
      generalize compF a b = F at *
      obtain ⟨s1, s2, s3, s4, s5, s6, s7⟩ := a
      obtain ⟨r1, r2, r3, r4, r5, r6, r7⟩ := b
      simp only [clAV] at *
      refine acall_enter 5 [] Tryz.ntmps15 Tryz.func15 rfl (fun _ _ => Tryz.call15 _ _) (by simp) (fun HO => ?_)
      refine aw_reg fun K hK => ?_; simp (maxSteps := 1000000) (disch := omega) [-List.getD_eq_getElem?_getD]; refine hK _ ?_; clear hK K
      refine aw_then fun K1 hK1 => ?_
      refine aw_reg fun K hK => ?_; simp (maxSteps := 1000000) (disch := omega) [-List.getD_eq_getElem?_getD]
      refine acall_is (c1 _) ?_; simp (maxSteps := 1000000) (disch := omega) [-List.getD_eq_getElem?_getD]
      refine acall_is (c2 _) ?_; simp (maxSteps := 1000000) (disch := omega) [-List.getD_eq_getElem?_getD]
      refine hK _ ?_; clear hK K
      refine aw_if rfl (fun h => ?_) (fun h => absurd h (by simp))
      refine aw_reg fun K hK => ?_; simp (maxSteps := 1000000) (disch := omega) [-List.getD_eq_getElem?_getD]; refine hK _ ?_; clear hK K
      refine aw_ret ?_; simp (maxSteps := 1000000) (disch := omega) [-List.getD_eq_getElem?_getD]
    | true =>
      rw [if_pos ⟨rfl, rfl⟩]
      generalize hF : compF a b = F
      unfold compF at hF
      have g1 := fun G => numbersR_ok a.sch b.sch (H ++ G) T
      have g2 := fun G => orderR_ok a.cls b.cls (H ++ G) T
      have g3 := fun G => numbersR_ok a.num b.num (H ++ G) T
      have g4 := fun G => orderR_ok a.dec b.dec (H ++ G) T
      have g5 := fun G => numbersR_ok a.cut.length b.cut.length (H ++ G) T
      have g6 := fun G => numbersR_ok a.yr b.yr (H ++ G) T
      have g7 := fun G => orderR_ok a.rest b.rest (H ++ G) T
      have gx := fun x y G => orderR_ok x y (H ++ G) T
      generalize cmpI a.sch b.sch = q1 at *
      generalize Lib.compareBytes a.cls b.cls = q2 at *
      generalize cmpI a.num b.num = q3 at *
      generalize Lib.compareBytes a.dec b.dec = q4 at *
      generalize hq5 : compL a.cut b.cut = q5 at *
      generalize cmpI a.yr b.yr = q6 at *
      generalize Lib.compareBytes a.rest b.rest = q7 at *
      have e1 := fun i h => strs_at (l := a.cut) (i := i) h
      have e2 := fun i h => strs_at (l := b.cut) (i := i) h
      have l1 := strs_len a.cut
      have l2 := strs_len b.cut
      obtain ⟨s1, s2, s3, s4, s5, s6, s7⟩ := a
      obtain ⟨r1, r2, r3, r4, r5, r6, r7⟩ := b
      simp only [clAV] at *
      generalize strs s5 = S at *
      generalize strs r5 = R at *
      refine acall_enter 13 [] Tryz.ntmps15 Tryz.func15 rfl (fun _ _ => Tryz.call15 _ _) (by simp) (fun HO => ?_)
      have HO1 : HOk (H ++ [.cells [.int .i64 s1, .str s2, .int .i64 s3, .str s4, .sl s5.length S .none, .int .i64 s6, .str s7], .cells [.int .i64 r1, .str r2, .int .i64 r3, .str r4, .sl r5.length R .none, .int .i64 r6, .str r7]]) T := by
        rw [show H ++ [.cells [.int .i64 s1, .str s2, .int .i64 s3, .str s4, .sl s5.length S .none, .int .i64 s6, .str s7], .cells [.int .i64 r1, .str r2, .int .i64 r3, .str r4, .sl r5.length R .none, .int .i64 r6, .str r7]] = (H ++ [.cells [.int .i64 s1, .str s2, .int .i64 s3, .str s4, .sl s5.length S .none, .int .i64 s6, .str s7]]) ++ [.cells [.int .i64 r1, .str r2, .int .i64 r3, .str r4, .sl r5.length R .none, .int .i64 r6, .str r7]] by simp]
        exact HOk.snoc (HO.snoc (by simp [hsa])) (by simp [hsb])
      refine aw_reg fun K hK => ?_; simp (maxSteps := 1000000) (disch := omega) [-List.getD_eq_getElem?_getD]; refine hK _ ?_; clear hK K
      refine aw_then fun K1 hK1 => ?_
      refine aw_reg fun K hK => ?_; simp (maxSteps := 1000000) (disch := omega) [-List.getD_eq_getElem?_getD]
      refine acall_is (c1 _) ?_; simp (maxSteps := 1000000) (disch := omega) [-List.getD_eq_getElem?_getD]
      refine acall_is (c2 _) ?_; simp (maxSteps := 1000000) (disch := omega) [-List.getD_eq_getElem?_getD]
      refine hK _ ?_; clear hK K
      refine aw_if rfl (fun h => absurd h (by simp)) (fun h => ?_)
      refine aw_skip ?_; simp (maxSteps := 1000000) (disch := omega) [-List.getD_eq_getElem?_getD]
      refine hK1 _ ?_; clear hK1
      refine aw_then fun K1 hK1 => ?_
      refine aw_reg fun K hK => ?_; simp (maxSteps := 1000000) (disch := omega) [-List.getD_eq_getElem?_getD]
      refine acall_is (g1 _) ?_; simp (maxSteps := 1000000) (disch := omega) [-List.getD_eq_getElem?_getD]
      refine hK _ ?_; clear hK K
      by_cases z1 : q1 = 0
      rotate_left
      · have b1 : (q1 != 0) = true := bne_iff_ne.2 z1
        have b2 : (q1 == 0) = false := beq_eq_false_iff_ne.2 z1
        obtain rfl : F = q1 := by rw [← hF]; simp [orI, z1]
        refine aw_reg fun K hK => ?_; simp (maxSteps := 1000000) (disch := omega) [-List.getD_eq_getElem?_getD, b1]; refine hK _ ?_; clear hK K
        refine aw_if rfl (fun h => ?_) (fun h => absurd h (by simp [z1]))
        refine aw_reg fun K hK => ?_; simp (maxSteps := 1000000) (disch := omega) [-List.getD_eq_getElem?_getD]; refine hK _ ?_; clear hK K
        refine aw_ret ?_; simp (maxSteps := 1000000) (disch := omega) [-List.getD_eq_getElem?_getD]
      subst z1
      refine aw_reg fun K hK => ?_; simp (maxSteps := 1000000) (disch := omega) [-List.getD_eq_getElem?_getD]; refine hK _ ?_; clear hK K
      refine aw_if rfl (fun h => absurd h (by simp)) (fun h => ?_)
      refine aw_skip ?_; simp (maxSteps := 1000000) (disch := omega) [-List.getD_eq_getElem?_getD]
      refine hK1 _ ?_; clear hK1
      refine aw_then fun K1 hK1 => ?_
      refine aw_reg fun K hK => ?_; simp (maxSteps := 1000000) (disch := omega) [-List.getD_eq_getElem?_getD]
      refine acall_is (g2 _) ?_; simp (maxSteps := 1000000) (disch := omega) [-List.getD_eq_getElem?_getD]
      refine hK _ ?_; clear hK K
      by_cases z2 : q2 = 0
      rotate_left
      · have b1 : (q2 != 0) = true := bne_iff_ne.2 z2
        have b2 : (q2 == 0) = false := beq_eq_false_iff_ne.2 z2
        obtain rfl : F = q2 := by rw [← hF]; simp [orI, z2]
        refine aw_reg fun K hK => ?_; simp (maxSteps := 1000000) (disch := omega) [-List.getD_eq_getElem?_getD, b1]; refine hK _ ?_; clear hK K
        refine aw_if rfl (fun h => ?_) (fun h => absurd h (by simp [z2]))
        refine aw_reg fun K hK => ?_; simp (maxSteps := 1000000) (disch := omega) [-List.getD_eq_getElem?_getD]; refine hK _ ?_; clear hK K
        refine aw_ret ?_; simp (maxSteps := 1000000) (disch := omega) [-List.getD_eq_getElem?_getD]
      subst z2
      refine aw_reg fun K hK => ?_; simp (maxSteps := 1000000) (disch := omega) [-List.getD_eq_getElem?_getD]; refine hK _ ?_; clear hK K
      refine aw_if rfl (fun h => absurd h (by simp)) (fun h => ?_)
      refine aw_skip ?_; simp (maxSteps := 1000000) (disch := omega) [-List.getD_eq_getElem?_getD]
      refine hK1 _ ?_; clear hK1
      refine aw_then fun K1 hK1 => ?_
      refine aw_reg fun K hK => ?_; simp (maxSteps := 1000000) (disch := omega) [-List.getD_eq_getElem?_getD]
      refine acall_is (g3 _) ?_; simp (maxSteps := 1000000) (disch := omega) [-List.getD_eq_getElem?_getD]
      refine hK _ ?_; clear hK K
      by_cases z3 : q3 = 0
      rotate_left
      · have b1 : (q3 != 0) = true := bne_iff_ne.2 z3
        have b2 : (q3 == 0) = false := beq_eq_false_iff_ne.2 z3
        obtain rfl : F = q3 := by rw [← hF]; simp [orI, z3]
        refine aw_reg fun K hK => ?_; simp (maxSteps := 1000000) (disch := omega) [-List.getD_eq_getElem?_getD, b1]; refine hK _ ?_; clear hK K
        refine aw_if rfl (fun h => ?_) (fun h => absurd h (by simp [z3]))
        refine aw_reg fun K hK => ?_; simp (maxSteps := 1000000) (disch := omega) [-List.getD_eq_getElem?_getD]; refine hK _ ?_; clear hK K
        refine aw_ret ?_; simp (maxSteps := 1000000) (disch := omega) [-List.getD_eq_getElem?_getD]
      subst z3
      refine aw_reg fun K hK => ?_; simp (maxSteps := 1000000) (disch := omega) [-List.getD_eq_getElem?_getD]; refine hK _ ?_; clear hK K
      refine aw_if rfl (fun h => absurd h (by simp)) (fun h => ?_)
      refine aw_skip ?_; simp (maxSteps := 1000000) (disch := omega) [-List.getD_eq_getElem?_getD]
      refine hK1 _ ?_; clear hK1
      refine aw_then fun K1 hK1 => ?_
      refine aw_reg fun K hK => ?_; simp (maxSteps := 1000000) (disch := omega) [-List.getD_eq_getElem?_getD]
      refine acall_is (g4 _) ?_; simp (maxSteps := 1000000) (disch := omega) [-List.getD_eq_getElem?_getD]
      refine hK _ ?_; clear hK K
      by_cases z4 : q4 = 0
      rotate_left
      · have b1 : (q4 != 0) = true := bne_iff_ne.2 z4
        have b2 : (q4 == 0) = false := beq_eq_false_iff_ne.2 z4
        obtain rfl : F = q4 := by rw [← hF]; simp [orI, z4]
        refine aw_reg fun K hK => ?_; simp (maxSteps := 1000000) (disch := omega) [-List.getD_eq_getElem?_getD, b1]; refine hK _ ?_; clear hK K
        refine aw_if rfl (fun h => ?_) (fun h => absurd h (by simp [z4]))
        refine aw_reg fun K hK => ?_; simp (maxSteps := 1000000) (disch := omega) [-List.getD_eq_getElem?_getD]; refine hK _ ?_; clear hK K
        refine aw_ret ?_; simp (maxSteps := 1000000) (disch := omega) [-List.getD_eq_getElem?_getD]
      subst z4
      refine aw_reg fun K hK => ?_; simp (maxSteps := 1000000) (disch := omega) [-List.getD_eq_getElem?_getD]; refine hK _ ?_; clear hK K
      refine aw_if rfl (fun h => absurd h (by simp)) (fun h => ?_)
      refine aw_skip ?_; simp (maxSteps := 1000000) (disch := omega) [-List.getD_eq_getElem?_getD]
      refine hK1 _ ?_; clear hK1
      refine aw_then fun K1 hK1 => ?_
      refine aw_reg fun K hK => ?_; simp (maxSteps := 1000000) (disch := omega) [-List.getD_eq_getElem?_getD]; refine hK _ ?_; clear hK K
      refine aw_block ?_
      refine aw_loop (X := Nat) (fun i => ⟨[(2, .ptr H.length 0), (3, .ptr (H.length + 1) 0), (9, .int .i64 (i : Nat))], H ++ [.cells [.int .i64 s1, .str s2, .int .i64 s3, .str s4, .sl s5.length S .none, .int .i64 s6, .str s7], .cells [.int .i64 r1, .str r2, .int .i64 r3, .str r4, .sl r5.length R .none, .int .i64 r6, .str r7]], T⟩) (fun i => i ≤ s5.length ∧ i ≤ r5.length ∧ compL (s5.drop i) (r5.drop i) = q5) (fun i => s5.length - i) 0 ?_ ?_ ?_
      · exact ⟨Nat.zero_le _, Nat.zero_le _, hq5⟩
      · refine weak_to [] [] ?_ ?_ ?_ ?_ HO1 ?_
        all_goals simp
      · rintro i ⟨h1, h2, h3⟩
        refine aw_then fun K2 hK2 => ?_
        by_cases hk : i < s5.length
        rotate_left
        · have e : i = s5.length := by omega
          have bk : decide ((i : Int) < (s5.length : Nat)) = false := decide_eq_false (by omega)
          clear e1 e2
          refine aw_reg fun K hK => ?_; simp (maxSteps := 1000000) (disch := omega) [-List.getD_eq_getElem?_getD, hk]; refine hK _ ?_; clear hK K
          refine aw_if rfl (fun h => absurd h (by simp)) (fun h => ?_)
          rw [compL_end h1 h2 (.inl e)] at h3
          rw [h3] at g5
          refine aw_exit ?_; simp (maxSteps := 1000000) (disch := omega) [-List.getD_eq_getElem?_getD]
          refine hK1 _ ?_; clear hK1
          refine aw_then fun K1 hK1 => ?_
          refine aw_reg fun K hK => ?_; simp (maxSteps := 1000000) (disch := omega) [-List.getD_eq_getElem?_getD]
          refine acall_is (g5 _) ?_; simp (maxSteps := 1000000) (disch := omega) [-List.getD_eq_getElem?_getD]
          refine hK _ ?_; clear hK K
          by_cases z5 : q5 = 0
          rotate_left
          · have b1 : (q5 != 0) = true := bne_iff_ne.2 z5
            have b2 : (q5 == 0) = false := beq_eq_false_iff_ne.2 z5
            obtain rfl : F = q5 := by rw [← hF]; simp [orI, z5]
            refine aw_reg fun K hK => ?_; simp (maxSteps := 1000000) (disch := omega) [-List.getD_eq_getElem?_getD, b1]; refine hK _ ?_; clear hK K
            refine aw_if rfl (fun h => ?_) (fun h => absurd h (by simp [z5]))
            refine aw_reg fun K hK => ?_; simp (maxSteps := 1000000) (disch := omega) [-List.getD_eq_getElem?_getD]; refine hK _ ?_; clear hK K
            refine aw_ret ?_; simp (maxSteps := 1000000) (disch := omega) [-List.getD_eq_getElem?_getD]
          subst z5
          refine aw_reg fun K hK => ?_; simp (maxSteps := 1000000) (disch := omega) [-List.getD_eq_getElem?_getD]; refine hK _ ?_; clear hK K
          refine aw_if rfl (fun h => absurd h (by simp)) (fun h => ?_)
          refine aw_skip ?_; simp (maxSteps := 1000000) (disch := omega) [-List.getD_eq_getElem?_getD]
          refine hK1 _ ?_; clear hK1
          refine aw_then fun K1 hK1 => ?_
          refine aw_reg fun K hK => ?_; simp (maxSteps := 1000000) (disch := omega) [-List.getD_eq_getElem?_getD]
          refine acall_is (g6 _) ?_; simp (maxSteps := 1000000) (disch := omega) [-List.getD_eq_getElem?_getD]
          refine hK _ ?_; clear hK K
          by_cases z6 : q6 = 0
          rotate_left
          · have b1 : (q6 != 0) = true := bne_iff_ne.2 z6
            have b2 : (q6 == 0) = false := beq_eq_false_iff_ne.2 z6
            obtain rfl : F = q6 := by rw [← hF]; simp [orI, z6]
            refine aw_reg fun K hK => ?_; simp (maxSteps := 1000000) (disch := omega) [-List.getD_eq_getElem?_getD, b1]; refine hK _ ?_; clear hK K
            refine aw_if rfl (fun h => ?_) (fun h => absurd h (by simp [z6]))
            refine aw_reg fun K hK => ?_; simp (maxSteps := 1000000) (disch := omega) [-List.getD_eq_getElem?_getD]; refine hK _ ?_; clear hK K
            refine aw_ret ?_; simp (maxSteps := 1000000) (disch := omega) [-List.getD_eq_getElem?_getD]
          subst z6
          refine aw_reg fun K hK => ?_; simp (maxSteps := 1000000) (disch := omega) [-List.getD_eq_getElem?_getD]; refine hK _ ?_; clear hK K
          refine aw_if rfl (fun h => absurd h (by simp)) (fun h => ?_)
          refine aw_skip ?_; simp (maxSteps := 1000000) (disch := omega) [-List.getD_eq_getElem?_getD]
          refine hK1 _ ?_; clear hK1
          refine aw_reg fun K hK => ?_; simp (maxSteps := 1000000) (disch := omega) [-List.getD_eq_getElem?_getD]
          refine acall_is (g7 _) ?_; simp (maxSteps := 1000000) (disch := omega) [-List.getD_eq_getElem?_getD]
          refine hK _ ?_; clear hK K
          obtain rfl : F = q7 := by rw [← hF]; simp [orI]; exact fun h => h.symm
          refine aw_ret ?_; simp (maxSteps := 1000000) (disch := omega) [-List.getD_eq_getElem?_getD]
        by_cases hm : i < r5.length
        rotate_left
        · have e : i = r5.length := by omega
          have bk : decide ((i : Int) < (s5.length : Nat)) = true := decide_eq_true (by omega)
          have bm : decide ((i : Int) < (r5.length : Nat)) = false := decide_eq_false (by omega)
          clear e1 e2
          refine aw_reg fun K hK => ?_; simp (maxSteps := 1000000) (disch := omega) [-List.getD_eq_getElem?_getD, hk, hm]; refine hK _ ?_; clear hK K
          refine aw_if rfl (fun h => absurd h (by simp)) (fun h => ?_)
          rw [compL_end h1 h2 (.inr e)] at h3
          rw [h3] at g5
          refine aw_exit ?_; simp (maxSteps := 1000000) (disch := omega) [-List.getD_eq_getElem?_getD]
          refine hK1 _ ?_; clear hK1
          refine aw_then fun K1 hK1 => ?_
          refine aw_reg fun K hK => ?_; simp (maxSteps := 1000000) (disch := omega) [-List.getD_eq_getElem?_getD]
          refine acall_is (g5 _) ?_; simp (maxSteps := 1000000) (disch := omega) [-List.getD_eq_getElem?_getD]
          refine hK _ ?_; clear hK K
          by_cases z5 : q5 = 0
          rotate_left
          · have b1 : (q5 != 0) = true := bne_iff_ne.2 z5
            have b2 : (q5 == 0) = false := beq_eq_false_iff_ne.2 z5
            obtain rfl : F = q5 := by rw [← hF]; simp [orI, z5]
            refine aw_reg fun K hK => ?_; simp (maxSteps := 1000000) (disch := omega) [-List.getD_eq_getElem?_getD, b1]; refine hK _ ?_; clear hK K
            refine aw_if rfl (fun h => ?_) (fun h => absurd h (by simp [z5]))
            refine aw_reg fun K hK => ?_; simp (maxSteps := 1000000) (disch := omega) [-List.getD_eq_getElem?_getD]; refine hK _ ?_; clear hK K
            refine aw_ret ?_; simp (maxSteps := 1000000) (disch := omega) [-List.getD_eq_getElem?_getD]
          subst z5
          refine aw_reg fun K hK => ?_; simp (maxSteps := 1000000) (disch := omega) [-List.getD_eq_getElem?_getD]; refine hK _ ?_; clear hK K
          refine aw_if rfl (fun h => absurd h (by simp)) (fun h => ?_)
          refine aw_skip ?_; simp (maxSteps := 1000000) (disch := omega) [-List.getD_eq_getElem?_getD]
          refine hK1 _ ?_; clear hK1
          refine aw_then fun K1 hK1 => ?_
          refine aw_reg fun K hK => ?_; simp (maxSteps := 1000000) (disch := omega) [-List.getD_eq_getElem?_getD]
          refine acall_is (g6 _) ?_; simp (maxSteps := 1000000) (disch := omega) [-List.getD_eq_getElem?_getD]
          refine hK _ ?_; clear hK K
          by_cases z6 : q6 = 0
          rotate_left
          · have b1 : (q6 != 0) = true := bne_iff_ne.2 z6
            have b2 : (q6 == 0) = false := beq_eq_false_iff_ne.2 z6
            obtain rfl : F = q6 := by rw [← hF]; simp [orI, z6]
            refine aw_reg fun K hK => ?_; simp (maxSteps := 1000000) (disch := omega) [-List.getD_eq_getElem?_getD, b1]; refine hK _ ?_; clear hK K
            refine aw_if rfl (fun h => ?_) (fun h => absurd h (by simp [z6]))
            refine aw_reg fun K hK => ?_; simp (maxSteps := 1000000) (disch := omega) [-List.getD_eq_getElem?_getD]; refine hK _ ?_; clear hK K
            refine aw_ret ?_; simp (maxSteps := 1000000) (disch := omega) [-List.getD_eq_getElem?_getD]
          subst z6
          refine aw_reg fun K hK => ?_; simp (maxSteps := 1000000) (disch := omega) [-List.getD_eq_getElem?_getD]; refine hK _ ?_; clear hK K
          refine aw_if rfl (fun h => absurd h (by simp)) (fun h => ?_)
          refine aw_skip ?_; simp (maxSteps := 1000000) (disch := omega) [-List.getD_eq_getElem?_getD]
          refine hK1 _ ?_; clear hK1
          refine aw_reg fun K hK => ?_; simp (maxSteps := 1000000) (disch := omega) [-List.getD_eq_getElem?_getD]
          refine acall_is (g7 _) ?_; simp (maxSteps := 1000000) (disch := omega) [-List.getD_eq_getElem?_getD]
          refine hK _ ?_; clear hK K
          obtain rfl : F = q7 := by rw [← hF]; simp [orI]; exact fun h => h.symm
          refine aw_ret ?_; simp (maxSteps := 1000000) (disch := omega) [-List.getD_eq_getElem?_getD]
        have bk : decide ((i : Int) < (s5.length : Nat)) = true := decide_eq_true (by omega)
        have bm : decide ((i : Int) < (r5.length : Nat)) = true := decide_eq_true (by omega)
        have a1 := e1 i hk
        have a2 := e2 i hm
        have i1 : i < S.length := by omega
        have i2 : i < R.length := by omega
        have gx := gx (s5.getD i []) (r5.getD i [])
        rw [compL_drop hk hm] at h3
        refine aw_reg fun K hK => ?_; simp (maxSteps := 1000000) (disch := omega) [-List.getD_eq_getElem?_getD, hk, hm]; refine hK _ ?_; clear hK K
        refine aw_if rfl (fun h => ?_) (fun h => absurd h (by simp [hk, hm]))
        refine aw_skip ?_; simp (maxSteps := 1000000) (disch := omega) [-List.getD_eq_getElem?_getD]
        refine hK2 _ ?_; clear hK2
        refine aw_then fun K3 hK3 => ?_
        refine aw_block ?_
        generalize s5.getD i [] = x at *
        generalize r5.getD i [] = y at *
        generalize Lib.compareBytes x y = q at *
        refine aw_draw [] [] [] drawMixed (by kernel_rfl) (by kernel_rfl) fun K hK => ?_; simp (maxSteps := 1000000) (disch := omega) [-List.getD_eq_getElem?_getD, a1, a2, l1, l2, hk, hm]
        refine dcall_is (gx _) rfl ?_; simp (maxSteps := 1000000) (disch := omega) [-List.getD_eq_getElem?_getD]
        refine hK _ ?_; clear hK K
        by_cases hz : q = 0
        · subst hz
          rw [if_pos rfl] at h3
          refine aw_reg fun K hK => ?_; simp (maxSteps := 1000000) (disch := omega) [-List.getD_eq_getElem?_getD]; refine hK _ ?_; clear hK K
          refine aw_if rfl (fun h => absurd h (by simp)) (fun h => ?_)
          refine aw_skip ?_; simp (maxSteps := 1000000) (disch := omega) [-List.getD_eq_getElem?_getD]
          refine hK3 _ ?_; clear hK3
          refine aw_reg0 fun K hK => ?_; simp (maxSteps := 1000000) (disch := omega) [-List.getD_eq_getElem?_getD]
          refine hK _ ?_; clear hK K
          refine ⟨i + 1, ⟨by show i + 1 ≤ _; omega, by show i + 1 ≤ _; omega, h3⟩, by show s5.length - (i + 1) < s5.length - i; omega, ?_⟩
          refine weak_to [] [] ?_ ?_ ?_ ?_ HO1 ?_
          all_goals simp
        · rw [if_neg hz] at h3
          subst h3
          have b1 : (q != 0) = true := bne_iff_ne.2 hz
          have b2 : (q == 0) = false := beq_eq_false_iff_ne.2 hz
          obtain rfl : F = q := by rw [← hF]; simp [orI, hz]
          refine aw_reg fun K hK => ?_; simp (maxSteps := 1000000) (disch := omega) [-List.getD_eq_getElem?_getD, b1]; refine hK _ ?_; clear hK K
          refine aw_if rfl (fun h => ?_) (fun h => absurd h (by simp [hz]))
          refine aw_reg fun K hK => ?_; simp (maxSteps := 1000000) (disch := omega) [-List.getD_eq_getElem?_getD]; refine hK _ ?_; clear hK K
          refine aw_ret ?_; simp (maxSteps := 1000000) (disch := omega) [-List.getD_eq_getElem?_getD]
end Go.Proofs.YtnmlpohhommagaaGreatDoor
