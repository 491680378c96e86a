/- The reference's numbers, order, Compare (layer 52): the walks. The reference's two, IsClass, Within, Key, Ends (layer 52): the walks. The reference's Key (layer 52): the walk. Ends (layer 52): the program's walk and the reference's; bytes.Equal.
   Conditions: small parts, as each theorem says. -/
import Derived.Test.YtnmlpohhommagaaGreatDoorCB
import Derived.Test.YtnmlpohhommagaaGreatDoorCE
import Derived.Test.YtnmlpohhommagaaGreatDoorLByt

/- The reference's numbers, order, Compare (layer 52): the walks. -/
namespace Cn
open Go.Lib Lst
theorem compL_end {a b : List (List UInt8)} {i : Nat} (h1 : i ≤ a.length) (h2 : i ≤ b.length) (h : i = a.length ∨ i = b.length) : compL (a.drop i) (b.drop i) = cmpI a.length b.length := by
  have e1 := List.length_drop (i := i) (l := a)
  have e2 := List.length_drop (i := i) (l := b)
  generalize a.drop i = x at *
  generalize b.drop i = y at *
  unfold cmpI
  match x, y with
  | [], [] =>
    simp only [List.length_nil] at e1 e2
    rw [if_neg (by omega), if_neg (by omega)]; rfl
  | [], _ :: _ =>
    simp only [List.length_nil, List.length_cons] at e1 e2
    rw [if_pos (by omega)]; rfl
  | _ :: _, [] =>
    simp only [List.length_nil, List.length_cons] at e1 e2
    rw [if_neg (by omega), if_pos (by omega)]; rfl
  | _ :: _, _ :: _ =>
    simp only [List.length_cons] at e1 e2
    omega
end Cn
namespace Go.Proofs.YtnmlpohhommagaaGreatDoor
open Go Go.Am Cn Lst
set_option linter.unusedVariables false

set_option maxRecDepth 100000 in
theorem numbersR_ok (x y : Int) (H : List Blk) (T : Toks) : ACall Tryz.prog 38 [.int .i64 x, .int .i64 y] H T (Is (.int .i64 (cmpI x y)) H T) := by
  unfold cmpI
  refine acall_enter 13 [] Tryz.ntmps38 Tryz.func38 rfl (fun _ _ => Tryz.call38 _ _) (by simp) (fun HO => ?_)
  refine aw_reg fun K hK => ?_; simp (maxSteps := 1000000) (disch := omega) [-List.getD_eq_getElem?_getD]; refine hK _ ?_; clear hK K
  refine aw_then fun K1 hK1 => ?_
  refine aw_block ?_
  by_cases h1 : x < y
  · have b1 : decide (x < y) = true := decide_eq_true h1
    rw [if_pos h1]
    refine aw_reg fun K hK => ?_; simp (maxSteps := 1000000) (disch := omega) [-List.getD_eq_getElem?_getD, h1]; refine hK _ ?_; clear hK K
    refine aw_if rfl (fun h => ?_) (fun h => absurd h (by simp [h1]))
    refine aw_reg fun K hK => ?_; simp (maxSteps := 1000000) (disch := omega) [-List.getD_eq_getElem?_getD]; refine hK _ ?_; clear hK K
    refine aw_ret ?_; simp (maxSteps := 1000000) (disch := omega) [-List.getD_eq_getElem?_getD]
    exact ⟨rfl, rfl, rfl⟩
  · have b1 : decide (x < y) = false := decide_eq_false h1
    rw [if_neg h1]
    refine aw_reg fun K hK => ?_; simp (maxSteps := 1000000) (disch := omega) [-List.getD_eq_getElem?_getD, h1]; refine hK _ ?_; clear hK K
    refine aw_if rfl (fun h => absurd h (by simp [h1])) (fun h => ?_)
    by_cases h2 : y < x
    · have b2 : decide (x > y) = true := decide_eq_true h2
      have b3 : decide (y < x) = true := decide_eq_true h2
      rw [if_pos h2]
      refine aw_reg fun K hK => ?_; simp (maxSteps := 1000000) (disch := omega) [-List.getD_eq_getElem?_getD, h2]; refine hK _ ?_; clear hK K
      refine aw_if rfl (fun h => ?_) (fun h => absurd h (by simp [h2]))
      refine aw_reg fun K hK => ?_; simp (maxSteps := 1000000) (disch := omega) [-List.getD_eq_getElem?_getD]; refine hK _ ?_; clear hK K
      refine aw_ret ?_; simp (maxSteps := 1000000) (disch := omega) [-List.getD_eq_getElem?_getD]
      exact ⟨rfl, rfl, rfl⟩
    · have b2 : decide (x > y) = false := decide_eq_false h2
      have b3 : decide (y < x) = false := decide_eq_false h2
      rw [if_neg h2]
      refine aw_reg fun K hK => ?_; simp (maxSteps := 1000000) (disch := omega) [-List.getD_eq_getElem?_getD, h2]; refine hK _ ?_; clear hK K
      refine aw_if rfl (fun h => absurd h (by simp [h2])) (fun h => ?_)
      refine aw_skip ?_; simp (maxSteps := 1000000) (disch := omega) [-List.getD_eq_getElem?_getD]
      refine hK1 _ ?_; clear hK1
      refine aw_reg fun K hK => ?_; simp (maxSteps := 1000000) (disch := omega) [-List.getD_eq_getElem?_getD]; refine hK _ ?_; clear hK K
      refine aw_ret ?_; simp (maxSteps := 1000000) (disch := omega) [-List.getD_eq_getElem?_getD]
      exact ⟨rfl, rfl, rfl⟩

set_option maxRecDepth 100000 in
theorem orderR_ok (x y : List UInt8) (H : List Blk) (T : Toks) : ACall Tryz.prog 39 [.str x, .str y] H T (Is (.int .i64 (Lib.compareBytes x y)) H T) := by
  have hv := compareBytes_vals x y
  have hz := compareBytes_zero x y
  have hl := less_cmp x y
  generalize hq : Lib.compareBytes x y = q at *
  refine acall_enter 13 [] Tryz.ntmps39 Tryz.func39 rfl (fun _ _ => Tryz.call39 _ _) (by simp) (fun HO => ?_)
  refine aw_reg fun K hK => ?_; simp (maxSteps := 1000000) (disch := omega) [-List.getD_eq_getElem?_getD]; refine hK _ ?_; clear hK K
  refine aw_then fun K1 hK1 => ?_
  refine aw_block ?_
  by_cases h1 : q = -1
  · subst h1
    have hl2 : Op.bytesLess x y = true := by rw [hl]; rfl
    refine aw_reg fun K hK => ?_; simp (maxSteps := 1000000) (disch := omega) [-List.getD_eq_getElem?_getD, hl2]; refine hK _ ?_; clear hK K
    refine aw_if rfl (fun h => ?_) (fun h => absurd h (by simp))
    refine aw_reg fun K hK => ?_; simp (maxSteps := 1000000) (disch := omega) [-List.getD_eq_getElem?_getD]; refine hK _ ?_; clear hK K
    refine aw_ret ?_; simp (maxSteps := 1000000) (disch := omega) [-List.getD_eq_getElem?_getD]
    exact ⟨rfl, rfl, rfl⟩
  · have hl2 : Op.bytesLess x y = false := by rw [hl]; exact decide_eq_false h1
    refine aw_reg fun K hK => ?_; simp (maxSteps := 1000000) (disch := omega) [-List.getD_eq_getElem?_getD, hl2]; refine hK _ ?_; clear hK K
    refine aw_if rfl (fun h => absurd h (by simp)) (fun h => ?_)
    by_cases h2 : q = 0
    · have e := hz.1 h2
      subst e
      subst h2
      refine aw_reg fun K hK => ?_; simp (maxSteps := 1000000) (disch := omega) [-List.getD_eq_getElem?_getD, hl2]; refine hK _ ?_; clear hK K
      refine aw_if rfl (fun h => absurd h (by simp)) (fun h => ?_)
      refine aw_skip ?_; simp (maxSteps := 1000000) (disch := omega) [-List.getD_eq_getElem?_getD]
      refine hK1 _ ?_; clear hK1
      refine aw_reg fun K hK => ?_; simp (maxSteps := 1000000) (disch := omega) [-List.getD_eq_getElem?_getD]; refine hK _ ?_; clear hK K
      refine aw_ret ?_; simp (maxSteps := 1000000) (disch := omega) [-List.getD_eq_getElem?_getD]
      exact ⟨rfl, rfl, rfl⟩
    · have e : ¬ x = y := fun e => h2 (hz.2 e)
      have e2 : (x == y) = false := beq_eq_false_iff_ne.2 e
      obtain rfl : q = 1 := by omega
      refine aw_reg fun K hK => ?_; simp (maxSteps := 1000000) (disch := omega) [-List.getD_eq_getElem?_getD, hl2, e2]; refine hK _ ?_; clear hK K
      refine aw_if rfl (fun h => ?_) (fun h => absurd h (by simp [e]))
      refine aw_reg fun K hK => ?_; simp (maxSteps := 1000000) (disch := omega) [-List.getD_eq_getElem?_getD]; refine hK _ ?_; clear hK K
      refine aw_ret ?_; simp (maxSteps := 1000000) (disch := omega) [-List.getD_eq_getElem?_getD]
      exact ⟨rfl, rfl, rfl⟩

set_option maxRecDepth 100000 in
set_option maxHeartbeats 8000000 in
theorem compareR_ok (a b : Cl) (t1 t2 : Tag) (ha : Sm a) (hb : Sm b) (H : List Blk) (T : Toks) :
    ACall Tryz.prog 15 [.agg (clAV a t1), .agg (clAV b t2)] H T (Is (.int .i64 (compV a b)) H T) := by
  refine callCl1 t1 (callCl2 t2 ?_)
  refine ACall.drop' ?_ (by simp)
  unfold compV
  have c1 := fun G => validR_ok a .none ha (H ++ G) T
  have c2 := fun G => validR_ok b .none hb (H ++ G) T
  have hsa : ∀ n t, BelowAll n t (strs a.cut) := fun n t => by simp
  have hsb : ∀ n t, BelowAll n t (strs b.cut) := fun n t => by simp
  have hac := ha.cut
  have hbc := hb.cut
  clear ha hb
  generalize validF a = va at *
  generalize validF b = vb at *
  cases va with
  | false =>
    generalize compF a b = F at *
    obtain ⟨s1, s2, s3, s4, s5, s6, s7⟩ := a
    obtain ⟨r1, r2, r3, r4, r5, r6, r7⟩ := b
    simp only [clAV] at *
    refine acall_enter 5 [] Tryz.ntmps15 Tryz.func15 rfl (fun _ _ => Tryz.call15 _ _) (by simp) (fun HO => ?_)
    refine aw_reg fun K hK => ?_; simp (maxSteps := 1000000) (disch := omega) [-List.getD_eq_getElem?_getD]; refine hK _ ?_; clear hK K
    refine aw_then fun K1 hK1 => ?_
    refine aw_reg fun K hK => ?_; simp (maxSteps := 1000000) (disch := omega) [-List.getD_eq_getElem?_getD]
    refine acall_is (c1 _) ?_; simp (maxSteps := 1000000) (disch := omega) [-List.getD_eq_getElem?_getD]
    refine hK _ ?_; clear hK K
    refine aw_if rfl (fun h => ?_) (fun h => absurd h (by simp))
    refine aw_reg fun K hK => ?_; simp (maxSteps := 1000000) (disch := omega) [-List.getD_eq_getElem?_getD]; refine hK _ ?_; clear hK K
    refine aw_ret ?_; simp (maxSteps := 1000000) (disch := omega) [-List.getD_eq_getElem?_getD]
  | true =>
    cases vb with
    | false =>
      generalize compF a b = F at *
      obtain ⟨s1, s2, s3, s4, s5, s6, s7⟩ := a
      obtain ⟨r1, r2, r3, r4, r5, r6, r7⟩ := b
      simp only [clAV] at *
      refine acall_enter 5 [] Tryz.ntmps15 Tryz.func15 rfl (fun _ _ => Tryz.call15 _ _) (by simp) (fun HO => ?_)
      refine aw_reg fun K hK => ?_; simp (maxSteps := 1000000) (disch := omega) [-List.getD_eq_getElem?_getD]; refine hK _ ?_; clear hK K
      refine aw_then fun K1 hK1 => ?_
      refine aw_reg fun K hK => ?_; simp (maxSteps := 1000000) (disch := omega) [-List.getD_eq_getElem?_getD]
      refine acall_is (c1 _) ?_; simp (maxSteps := 1000000) (disch := omega) [-List.getD_eq_getElem?_getD]
      refine acall_is (c2 _) ?_; simp (maxSteps := 1000000) (disch := omega) [-List.getD_eq_getElem?_getD]
      refine hK _ ?_; clear hK K
      refine aw_if rfl (fun h => ?_) (fun h => absurd h (by simp))
      refine aw_reg fun K hK => ?_; simp (maxSteps := 1000000) (disch := omega) [-List.getD_eq_getElem?_getD]; refine hK _ ?_; clear hK K
      refine aw_ret ?_; simp (maxSteps := 1000000) (disch := omega) [-List.getD_eq_getElem?_getD]
    | true =>
      rw [if_pos ⟨rfl, rfl⟩]
      generalize hF : compF a b = F
      unfold compF at hF
      have g1 := fun G => numbersR_ok a.sch b.sch (H ++ G) T
      have g2 := fun G => orderR_ok a.cls b.cls (H ++ G) T
      have g3 := fun G => numbersR_ok a.num b.num (H ++ G) T
      have g4 := fun G => orderR_ok a.dec b.dec (H ++ G) T
      have g5 := fun G => numbersR_ok a.cut.length b.cut.length (H ++ G) T
      have g6 := fun G => numbersR_ok a.yr b.yr (H ++ G) T
      have g7 := fun G => orderR_ok a.rest b.rest (H ++ G) T
      have gx := fun x y G => orderR_ok x y (H ++ G) T
      generalize cmpI a.sch b.sch = q1 at *
      generalize Lib.compareBytes a.cls b.cls = q2 at *
      generalize cmpI a.num b.num = q3 at *
      generalize Lib.compareBytes a.dec b.dec = q4 at *
      generalize hq5 : compL a.cut b.cut = q5 at *
      generalize cmpI a.yr b.yr = q6 at *
      generalize Lib.compareBytes a.rest b.rest = q7 at *
      have e1 := fun i h => strs_at (l := a.cut) (i := i) h
      have e2 := fun i h => strs_at (l := b.cut) (i := i) h
      have l1 := strs_len a.cut
      have l2 := strs_len b.cut
      obtain ⟨s1, s2, s3, s4, s5, s6, s7⟩ := a
      obtain ⟨r1, r2, r3, r4, r5, r6, r7⟩ := b
      simp only [clAV] at *
      generalize strs s5 = S at *
      generalize strs r5 = R at *
      refine acall_enter 13 [] Tryz.ntmps15 Tryz.func15 rfl (fun _ _ => Tryz.call15 _ _) (by simp) (fun HO => ?_)
      have HO1 : HOk (H ++ [.cells [.int .i64 s1, .str s2, .int .i64 s3, .str s4, .sl s5.length S .none, .int .i64 s6, .str s7], .cells [.int .i64 r1, .str r2, .int .i64 r3, .str r4, .sl r5.length R .none, .int .i64 r6, .str r7]]) T := by
        rw [show H ++ [.cells [.int .i64 s1, .str s2, .int .i64 s3, .str s4, .sl s5.length S .none, .int .i64 s6, .str s7], .cells [.int .i64 r1, .str r2, .int .i64 r3, .str r4, .sl r5.length R .none, .int .i64 r6, .str r7]] = (H ++ [.cells [.int .i64 s1, .str s2, .int .i64 s3, .str s4, .sl s5.length S .none, .int .i64 s6, .str s7]]) ++ [.cells [.int .i64 r1, .str r2, .int .i64 r3, .str r4, .sl r5.length R .none, .int .i64 r6, .str r7]] by simp]
        exact HOk.snoc (HO.snoc (by simp [hsa])) (by simp [hsb])
      refine aw_reg fun K hK => ?_; simp (maxSteps := 1000000) (disch := omega) [-List.getD_eq_getElem?_getD]; refine hK _ ?_; clear hK K
      refine aw_then fun K1 hK1 => ?_
      refine aw_reg fun K hK => ?_; simp (maxSteps := 1000000) (disch := omega) [-List.getD_eq_getElem?_getD]
      refine acall_is (c1 _) ?_; simp (maxSteps := 1000000) (disch := omega) [-List.getD_eq_getElem?_getD]
      refine acall_is (c2 _) ?_; simp (maxSteps := 1000000) (disch := omega) [-List.getD_eq_getElem?_getD]
      refine hK _ ?_; clear hK K
      refine aw_if rfl (fun h => absurd h (by simp)) (fun h => ?_)
      refine aw_skip ?_; simp (maxSteps := 1000000) (disch := omega) [-List.getD_eq_getElem?_getD]
      refine hK1 _ ?_; clear hK1
      refine aw_then fun K1 hK1 => ?_
      refine aw_reg fun K hK => ?_; simp (maxSteps := 1000000) (disch := omega) [-List.getD_eq_getElem?_getD]
      refine acall_is (g1 _) ?_; simp (maxSteps := 1000000) (disch := omega) [-List.getD_eq_getElem?_getD]
      refine hK _ ?_; clear hK K
      by_cases z1 : q1 = 0
      rotate_left
      · have b1 : (q1 != 0) = true := bne_iff_ne.2 z1
        have b2 : (q1 == 0) = false := beq_eq_false_iff_ne.2 z1
        obtain rfl : F = q1 := by rw [← hF]; simp [orI, z1]
        refine aw_reg fun K hK => ?_; simp (maxSteps := 1000000) (disch := omega) [-List.getD_eq_getElem?_getD, b1]; refine hK _ ?_; clear hK K
        refine aw_if rfl (fun h => ?_) (fun h => absurd h (by simp [z1]))
        refine aw_reg fun K hK => ?_; simp (maxSteps := 1000000) (disch := omega) [-List.getD_eq_getElem?_getD]; refine hK _ ?_; clear hK K
        refine aw_ret ?_; simp (maxSteps := 1000000) (disch := omega) [-List.getD_eq_getElem?_getD]
      subst z1
      refine aw_reg fun K hK => ?_; simp (maxSteps := 1000000) (disch := omega) [-List.getD_eq_getElem?_getD]; refine hK _ ?_; clear hK K
      refine aw_if rfl (fun h => absurd h (by simp)) (fun h => ?_)
      refine aw_skip ?_; simp (maxSteps := 1000000) (disch := omega) [-List.getD_eq_getElem?_getD]
      refine hK1 _ ?_; clear hK1
      refine aw_then fun K1 hK1 => ?_
      refine aw_reg fun K hK => ?_; simp (maxSteps := 1000000) (disch := omega) [-List.getD_eq_getElem?_getD]
      refine acall_is (g2 _) ?_; simp (maxSteps := 1000000) (disch := omega) [-List.getD_eq_getElem?_getD]
      refine hK _ ?_; clear hK K
      by_cases z2 : q2 = 0
      rotate_left
      · have b1 : (q2 != 0) = true := bne_iff_ne.2 z2
        have b2 : (q2 == 0) = false := beq_eq_false_iff_ne.2 z2
        obtain rfl : F = q2 := by rw [← hF]; simp [orI, z2]
        refine aw_reg fun K hK => ?_; simp (maxSteps := 1000000) (disch := omega) [-List.getD_eq_getElem?_getD, b1]; refine hK _ ?_; clear hK K
        refine aw_if rfl (fun h => ?_) (fun h => absurd h (by simp [z2]))
        refine aw_reg fun K hK => ?_; simp (maxSteps := 1000000) (disch := omega) [-List.getD_eq_getElem?_getD]; refine hK _ ?_; clear hK K
        refine aw_ret ?_; simp (maxSteps := 1000000) (disch := omega) [-List.getD_eq_getElem?_getD]
      subst z2
      refine aw_reg fun K hK => ?_; simp (maxSteps := 1000000) (disch := omega) [-List.getD_eq_getElem?_getD]; refine hK _ ?_; clear hK K
      refine aw_if rfl (fun h => absurd h (by simp)) (fun h => ?_)
      refine aw_skip ?_; simp (maxSteps := 1000000) (disch := omega) [-List.getD_eq_getElem?_getD]
      refine hK1 _ ?_; clear hK1
      refine aw_then fun K1 hK1 => ?_
      refine aw_reg fun K hK => ?_; simp (maxSteps := 1000000) (disch := omega) [-List.getD_eq_getElem?_getD]
      refine acall_is (g3 _) ?_; simp (maxSteps := 1000000) (disch := omega) [-List.getD_eq_getElem?_getD]
      refine hK _ ?_; clear hK K
      by_cases z3 : q3 = 0
      rotate_left
      · have b1 : (q3 != 0) = true := bne_iff_ne.2 z3
        have b2 : (q3 == 0) = false := beq_eq_false_iff_ne.2 z3
        obtain rfl : F = q3 := by rw [← hF]; simp [orI, z3]
        refine aw_reg fun K hK => ?_; simp (maxSteps := 1000000) (disch := omega) [-List.getD_eq_getElem?_getD, b1]; refine hK _ ?_; clear hK K
        refine aw_if rfl (fun h => ?_) (fun h => absurd h (by simp [z3]))
        refine aw_reg fun K hK => ?_; simp (maxSteps := 1000000) (disch := omega) [-List.getD_eq_getElem?_getD]; refine hK _ ?_; clear hK K
        refine aw_ret ?_; simp (maxSteps := 1000000) (disch := omega) [-List.getD_eq_getElem?_getD]
      subst z3
      refine aw_reg fun K hK => ?_; simp (maxSteps := 1000000) (disch := omega) [-List.getD_eq_getElem?_getD]; refine hK _ ?_; clear hK K
      refine aw_if rfl (fun h => absurd h (by simp)) (fun h => ?_)
      refine aw_skip ?_; simp (maxSteps := 1000000) (disch := omega) [-List.getD_eq_getElem?_getD]
      refine hK1 _ ?_; clear hK1
      refine aw_then fun K1 hK1 => ?_
      refine aw_reg fun K hK => ?_; simp (maxSteps := 1000000) (disch := omega) [-List.getD_eq_getElem?_getD]
      refine acall_is (g4 _) ?_; simp (maxSteps := 1000000) (disch := omega) [-List.getD_eq_getElem?_getD]
      refine hK _ ?_; clear hK K
      by_cases z4 : q4 = 0
      rotate_left
      · have b1 : (q4 != 0) = true := bne_iff_ne.2 z4
        have b2 : (q4 == 0) = false := beq_eq_false_iff_ne.2 z4
        obtain rfl : F = q4 := by rw [← hF]; simp [orI, z4]
        refine aw_reg fun K hK => ?_; simp (maxSteps := 1000000) (disch := omega) [-List.getD_eq_getElem?_getD, b1]; refine hK _ ?_; clear hK K
        refine aw_if rfl (fun h => ?_) (fun h => absurd h (by simp [z4]))
        refine aw_reg fun K hK => ?_; simp (maxSteps := 1000000) (disch := omega) [-List.getD_eq_getElem?_getD]; refine hK _ ?_; clear hK K
        refine aw_ret ?_; simp (maxSteps := 1000000) (disch := omega) [-List.getD_eq_getElem?_getD]
      subst z4
      refine aw_reg fun K hK => ?_; simp (maxSteps := 1000000) (disch := omega) [-List.getD_eq_getElem?_getD]; refine hK _ ?_; clear hK K
      refine aw_if rfl (fun h => absurd h (by simp)) (fun h => ?_)
      refine aw_skip ?_; simp (maxSteps := 1000000) (disch := omega) [-List.getD_eq_getElem?_getD]
      refine hK1 _ ?_; clear hK1
      refine aw_then fun K1 hK1 => ?_
      refine aw_reg fun K hK => ?_; simp (maxSteps := 1000000) (disch := omega) [-List.getD_eq_getElem?_getD]; refine hK _ ?_; clear hK K
      refine aw_block ?_
      refine aw_loop (X := Nat) (fun i => ⟨[(2, .ptr H.length 0), (3, .ptr (H.length + 1) 0), (9, .int .i64 (i : Nat))], H ++ [.cells [.int .i64 s1, .str s2, .int .i64 s3, .str s4, .sl s5.length S .none, .int .i64 s6, .str s7], .cells [.int .i64 r1, .str r2, .int .i64 r3, .str r4, .sl r5.length R .none, .int .i64 r6, .str r7]], T⟩) (fun i => i ≤ s5.length ∧ i ≤ r5.length ∧ compL (s5.drop i) (r5.drop i) = q5) (fun i => s5.length - i) 0 ?_ ?_ ?_
      · exact ⟨Nat.zero_le _, Nat.zero_le _, hq5⟩
      · refine weak_to [] [] ?_ ?_ ?_ ?_ HO1 ?_
        all_goals simp
      · rintro i ⟨h1, h2, h3⟩
        refine aw_then fun K2 hK2 => ?_
        by_cases hk : i < s5.length
        rotate_left
        · have e : i = s5.length := by omega
          have bk : decide ((i : Int) < (s5.length : Nat)) = false := decide_eq_false (by omega)
          clear e1 e2
          refine aw_reg fun K hK => ?_; simp (maxSteps := 1000000) (disch := omega) [-List.getD_eq_getElem?_getD, hk]; refine hK _ ?_; clear hK K
          refine aw_if rfl (fun h => absurd h (by simp)) (fun h => ?_)
          rw [compL_end h1 h2 (.inl e)] at h3
          rw [h3] at g5
          refine aw_exit ?_; simp (maxSteps := 1000000) (disch := omega) [-List.getD_eq_getElem?_getD]
          refine hK1 _ ?_; clear hK1
          refine aw_then fun K1 hK1 => ?_
          refine aw_reg fun K hK => ?_; simp (maxSteps := 1000000) (disch := omega) [-List.getD_eq_getElem?_getD]
          refine acall_is (g5 _) ?_; simp (maxSteps := 1000000) (disch := omega) [-List.getD_eq_getElem?_getD]
          refine hK _ ?_; clear hK K
          by_cases z5 : q5 = 0
          rotate_left
          · have b1 : (q5 != 0) = true := bne_iff_ne.2 z5
            have b2 : (q5 == 0) = false := beq_eq_false_iff_ne.2 z5
            obtain rfl : F = q5 := by rw [← hF]; simp [orI, z5]
            refine aw_reg fun K hK => ?_; simp (maxSteps := 1000000) (disch := omega) [-List.getD_eq_getElem?_getD, b1]; refine hK _ ?_; clear hK K
            refine aw_if rfl (fun h => ?_) (fun h => absurd h (by simp [z5]))
            refine aw_reg fun K hK => ?_; simp (maxSteps := 1000000) (disch := omega) [-List.getD_eq_getElem?_getD]; refine hK _ ?_; clear hK K
            refine aw_ret ?_; simp (maxSteps := 1000000) (disch := omega) [-List.getD_eq_getElem?_getD]
          subst z5
          refine aw_reg fun K hK => ?_; simp (maxSteps := 1000000) (disch := omega) [-List.getD_eq_getElem?_getD]; refine hK _ ?_; clear hK K
          refine aw_if rfl (fun h => absurd h (by simp)) (fun h => ?_)
          refine aw_skip ?_; simp (maxSteps := 1000000) (disch := omega) [-List.getD_eq_getElem?_getD]
          refine hK1 _ ?_; clear hK1
          refine aw_then fun K1 hK1 => ?_
          refine aw_reg fun K hK => ?_; simp (maxSteps := 1000000) (disch := omega) [-List.getD_eq_getElem?_getD]
          refine acall_is (g6 _) ?_; simp (maxSteps := 1000000) (disch := omega) [-List.getD_eq_getElem?_getD]
          refine hK _ ?_; clear hK K
          by_cases z6 : q6 = 0
          rotate_left
          · have b1 : (q6 != 0) = true := bne_iff_ne.2 z6
            have b2 : (q6 == 0) = false := beq_eq_false_iff_ne.2 z6
            obtain rfl : F = q6 := by rw [← hF]; simp [orI, z6]
            refine aw_reg fun K hK => ?_; simp (maxSteps := 1000000) (disch := omega) [-List.getD_eq_getElem?_getD, b1]; refine hK _ ?_; clear hK K
            refine aw_if rfl (fun h => ?_) (fun h => absurd h (by simp [z6]))
            refine aw_reg fun K hK => ?_; simp (maxSteps := 1000000) (disch := omega) [-List.getD_eq_getElem?_getD]; refine hK _ ?_; clear hK K
            refine aw_ret ?_; simp (maxSteps := 1000000) (disch := omega) [-List.getD_eq_getElem?_getD]
          subst z6
          refine aw_reg fun K hK => ?_; simp (maxSteps := 1000000) (disch := omega) [-List.getD_eq_getElem?_getD]; refine hK _ ?_; clear hK K
          refine aw_if rfl (fun h => absurd h (by simp)) (fun h => ?_)
          refine aw_skip ?_; simp (maxSteps := 1000000) (disch := omega) [-List.getD_eq_getElem?_getD]
          refine hK1 _ ?_; clear hK1
          refine aw_reg fun K hK => ?_; simp (maxSteps := 1000000) (disch := omega) [-List.getD_eq_getElem?_getD]
          refine acall_is (g7 _) ?_; simp (maxSteps := 1000000) (disch := omega) [-List.getD_eq_getElem?_getD]
          refine hK _ ?_; clear hK K
          obtain rfl : F = q7 := by rw [← hF]; simp [orI]; exact fun h => h.symm
          refine aw_ret ?_; simp (maxSteps := 1000000) (disch := omega) [-List.getD_eq_getElem?_getD]
        by_cases hm : i < r5.length
        rotate_left
        · have e : i = r5.length := by omega
          have bk : decide ((i : Int) < (s5.length : Nat)) = true := decide_eq_true (by omega)
          have bm : decide ((i : Int) < (r5.length : Nat)) = false := decide_eq_false (by omega)
          clear e1 e2
          refine aw_reg fun K hK => ?_; simp (maxSteps := 1000000) (disch := omega) [-List.getD_eq_getElem?_getD, hk, hm]; refine hK _ ?_; clear hK K
          refine aw_if rfl (fun h => absurd h (by simp)) (fun h => ?_)
          rw [compL_end h1 h2 (.inr e)] at h3
          rw [h3] at g5
          refine aw_exit ?_; simp (maxSteps := 1000000) (disch := omega) [-List.getD_eq_getElem?_getD]
          refine hK1 _ ?_; clear hK1
          refine aw_then fun K1 hK1 => ?_
          refine aw_reg fun K hK => ?_; simp (maxSteps := 1000000) (disch := omega) [-List.getD_eq_getElem?_getD]
          refine acall_is (g5 _) ?_; simp (maxSteps := 1000000) (disch := omega) [-List.getD_eq_getElem?_getD]
          refine hK _ ?_; clear hK K
          by_cases z5 : q5 = 0
          rotate_left
          · have b1 : (q5 != 0) = true := bne_iff_ne.2 z5
            have b2 : (q5 == 0) = false := beq_eq_false_iff_ne.2 z5
            obtain rfl : F = q5 := by rw [← hF]; simp [orI, z5]
            refine aw_reg fun K hK => ?_; simp (maxSteps := 1000000) (disch := omega) [-List.getD_eq_getElem?_getD, b1]; refine hK _ ?_; clear hK K
            refine aw_if rfl (fun h => ?_) (fun h => absurd h (by simp [z5]))
            refine aw_reg fun K hK => ?_; simp (maxSteps := 1000000) (disch := omega) [-List.getD_eq_getElem?_getD]; refine hK _ ?_; clear hK K
            refine aw_ret ?_; simp (maxSteps := 1000000) (disch := omega) [-List.getD_eq_getElem?_getD]
          subst z5
          refine aw_reg fun K hK => ?_; simp (maxSteps := 1000000) (disch := omega) [-List.getD_eq_getElem?_getD]; refine hK _ ?_; clear hK K
          refine aw_if rfl (fun h => absurd h (by simp)) (fun h => ?_)
          refine aw_skip ?_; simp (maxSteps := 1000000) (disch := omega) [-List.getD_eq_getElem?_getD]
          refine hK1 _ ?_; clear hK1
          refine aw_then fun K1 hK1 => ?_
          refine aw_reg fun K hK => ?_; simp (maxSteps := 1000000) (disch := omega) [-List.getD_eq_getElem?_getD]
          refine acall_is (g6 _) ?_; simp (maxSteps := 1000000) (disch := omega) [-List.getD_eq_getElem?_getD]
          refine hK _ ?_; clear hK K
          by_cases z6 : q6 = 0
          rotate_left
          · have b1 : (q6 != 0) = true := bne_iff_ne.2 z6
            have b2 : (q6 == 0) = false := beq_eq_false_iff_ne.2 z6
            obtain rfl : F = q6 := by rw [← hF]; simp [orI, z6]
            refine aw_reg fun K hK => ?_; simp (maxSteps := 1000000) (disch := omega) [-List.getD_eq_getElem?_getD, b1]; refine hK _ ?_; clear hK K
            refine aw_if rfl (fun h => ?_) (fun h => absurd h (by simp [z6]))
            refine aw_reg fun K hK => ?_; simp (maxSteps := 1000000) (disch := omega) [-List.getD_eq_getElem?_getD]; refine hK _ ?_; clear hK K
            refine aw_ret ?_; simp (maxSteps := 1000000) (disch := omega) [-List.getD_eq_getElem?_getD]
          subst z6
          refine aw_reg fun K hK => ?_; simp (maxSteps := 1000000) (disch := omega) [-List.getD_eq_getElem?_getD]; refine hK _ ?_; clear hK K
          refine aw_if rfl (fun h => absurd h (by simp)) (fun h => ?_)
          refine aw_skip ?_; simp (maxSteps := 1000000) (disch := omega) [-List.getD_eq_getElem?_getD]
          refine hK1 _ ?_; clear hK1
          refine aw_reg fun K hK => ?_; simp (maxSteps := 1000000) (disch := omega) [-List.getD_eq_getElem?_getD]
          refine acall_is (g7 _) ?_; simp (maxSteps := 1000000) (disch := omega) [-List.getD_eq_getElem?_getD]
          refine hK _ ?_; clear hK K
          obtain rfl : F = q7 := by rw [← hF]; simp [orI]; exact fun h => h.symm
          refine aw_ret ?_; simp (maxSteps := 1000000) (disch := omega) [-List.getD_eq_getElem?_getD]
        have bk : decide ((i : Int) < (s5.length : Nat)) = true := decide_eq_true (by omega)
        have bm : decide ((i : Int) < (r5.length : Nat)) = true := decide_eq_true (by omega)
        have a1 := e1 i hk
        have a2 := e2 i hm
        have i1 : i < S.length := by omega
        have i2 : i < R.length := by omega
        have gx := gx (s5.getD i []) (r5.getD i [])
        rw [compL_drop hk hm] at h3
        refine aw_reg fun K hK => ?_; simp (maxSteps := 1000000) (disch := omega) [-List.getD_eq_getElem?_getD, hk, hm]; refine hK _ ?_; clear hK K
        refine aw_if rfl (fun h => ?_) (fun h => absurd h (by simp [hk, hm]))
        refine aw_skip ?_; simp (maxSteps := 1000000) (disch := omega) [-List.getD_eq_getElem?_getD]
        refine hK2 _ ?_; clear hK2
        refine aw_then fun K3 hK3 => ?_
        refine aw_block ?_
        generalize s5.getD i [] = x at *
        generalize r5.getD i [] = y at *
        generalize Lib.compareBytes x y = q at *
        refine aw_draw [] [] [] drawMixed (by kernel_rfl) (by kernel_rfl) fun K hK => ?_; simp (maxSteps := 1000000) (disch := omega) [-List.getD_eq_getElem?_getD, a1, a2, l1, l2, hk, hm]
        refine dcall_is (gx _) rfl ?_; simp (maxSteps := 1000000) (disch := omega) [-List.getD_eq_getElem?_getD]
        refine hK _ ?_; clear hK K
        by_cases hz : q = 0
        · subst hz
          rw [if_pos rfl] at h3
          refine aw_reg fun K hK => ?_; simp (maxSteps := 1000000) (disch := omega) [-List.getD_eq_getElem?_getD]; refine hK _ ?_; clear hK K
          refine aw_if rfl (fun h => absurd h (by simp)) (fun h => ?_)
          refine aw_skip ?_; simp (maxSteps := 1000000) (disch := omega) [-List.getD_eq_getElem?_getD]
          refine hK3 _ ?_; clear hK3
          refine aw_reg0 fun K hK => ?_; simp (maxSteps := 1000000) (disch := omega) [-List.getD_eq_getElem?_getD]
          refine hK _ ?_; clear hK K
          refine ⟨i + 1, ⟨by show i + 1 ≤ _; omega, by show i + 1 ≤ _; omega, h3⟩, by show s5.length - (i + 1) < s5.length - i; omega, ?_⟩
          refine weak_to [] [] ?_ ?_ ?_ ?_ HO1 ?_
          all_goals simp
        · rw [if_neg hz] at h3
          subst h3
          have b1 : (q != 0) = true := bne_iff_ne.2 hz
          have b2 : (q == 0) = false := beq_eq_false_iff_ne.2 hz
          obtain rfl : F = q := by rw [← hF]; simp [orI, hz]
          refine aw_reg fun K hK => ?_; simp (maxSteps := 1000000) (disch := omega) [-List.getD_eq_getElem?_getD, b1]; refine hK _ ?_; clear hK K
          refine aw_if rfl (fun h => ?_) (fun h => absurd h (by simp [hz]))
          refine aw_reg fun K hK => ?_; simp (maxSteps := 1000000) (disch := omega) [-List.getD_eq_getElem?_getD]; refine hK _ ?_; clear hK K
          refine aw_ret ?_; simp (maxSteps := 1000000) (disch := omega) [-List.getD_eq_getElem?_getD]
end Go.Proofs.YtnmlpohhommagaaGreatDoor

/- The reference's two, IsClass, Within, Key, Ends (layer 52): the walks. -/
namespace Cn
open Go.Lib Lst
/-- A number as two bytes. -/
def twoF (u : Nat) : List UInt8 := [UInt8.ofNat (u / 256), UInt8.ofNat (u % 256)]
theorem keyF_two {c : Cl} (hv : validF c = true) : keyF c = UInt8.ofNat c.sch.toNat :: c.cls ++ [1] ++ twoF c.num.toNat ++ c.dec ++ [1] ++ keyC c.cut ++ [2] ++ twoF c.yr.toNat ++ c.rest := by
  unfold keyF begF twoF
  rw [if_pos hv]
  simp
theorem begF_two (c : Cl) : begF c = UInt8.ofNat c.sch.toNat :: c.cls ++ [1] ++ twoF c.num.toNat ++ c.dec := by
  unfold begF twoF
  simp
theorem pre_take (p s : List UInt8) : p.isPrefixOf s = (decide (p.length ≤ s.length) && decide (s.take p.length = p)) := by
  rw [Bool.eq_iff_iff, Bool.and_eq_true, decide_eq_true_eq, decide_eq_true_eq, List.isPrefixOf_iff_prefix]
  constructor
  · intro h
    exact ⟨h.length_le, (List.prefix_iff_eq_take.1 h).symm⟩
  · intro h
    exact List.prefix_iff_eq_take.2 h.2.symm
end Cn
namespace Go.Proofs.YtnmlpohhommagaaGreatDoor
open Go Go.Am Cn Lst
set_option linter.unusedVariables false

set_option maxRecDepth 100000 in
theorem twoR_ok (u : Nat) (hu : u ≤ 65535) (H : List Blk) (T : Toks) : ACall Tryz.prog 62 [.int .i64 (u : Nat)] H T (Is (.sl 2 (encB (twoF u)) .full) H T) := by
  have hw : IntKind.u8.wrap ((u : Int) / 256) = ((u / 256 : Nat) : Int) := by
    rw [wrapU8 (by omega) (by omega)]; omega
  have hw2 : IntKind.u8.wrap ((u : Int) % 256) = ((u % 256 : Nat) : Int) := by
    rw [wrapU8 (by omega) (by omega)]; omega
  have hd : (u : Int).tdiv 256 = ((u / 256 : Nat) : Int) := by rw [Int.tdiv_eq_ediv_of_nonneg (by omega)]; omega
  have hm : (u : Int).tmod 256 = ((u % 256 : Nat) : Int) := by rw [Int.tmod_eq_emod_of_nonneg (by omega)]; omega
  have hk : encB (twoF u) = [AV.int .u8 ((u / 256 : Nat) : Int), AV.int .u8 ((u % 256 : Nat) : Int)] := by
    unfold twoF encB
    simp only [List.map_cons, List.map_nil]
    rw [UInt8.toNat_ofNat', UInt8.toNat_ofNat', Nat.mod_eq_of_lt (by omega), Nat.mod_eq_of_lt (by omega)]
  rw [hk]
  refine acall_enter 3 [] Tryz.ntmps62 Tryz.func62 rfl (fun _ _ => Tryz.call62 _ _) (by simp) (fun HO => ?_)
  refine aw_reg fun K hK => ?_; simp (maxSteps := 1000000) (disch := omega) [-List.getD_eq_getElem?_getD]; refine hK _ ?_; clear hK K
  refine aw_reg fun K hK => ?_; simp (maxSteps := 1000000) (disch := omega) [-List.getD_eq_getElem?_getD, hd, hm, hw, hw2]; refine hK _ ?_; clear hK K
  refine aw_ret ?_; simp (maxSteps := 1000000) (disch := omega) [-List.getD_eq_getElem?_getD]
  exact ⟨rfl, rfl, rfl⟩

set_option maxRecDepth 100000 in
set_option maxHeartbeats 4000000 in
theorem classR_ok (c : Cl) (tg : Tag) (hc : Sm c) (H : List Blk) (T : Toks) :
    ACall Tryz.prog 61 [.agg (clAV c tg)] H T (Is (.bool (classF c)) H T) := by
  refine callCl1 tg ?_
  refine ACall.drop' ?_ (by simp)
  have cv := validR_ok c .none hc (H ++ [.cells (clAV c .none)]) T
  have hbS : ∀ n t, BelowAll n t (strs c.cut) := fun n t => by simp
  have hcu := hc.cut
  clear hc
  generalize hF : classF c = F
  unfold classF at hF
  generalize validF c = v at *
  obtain ⟨sch, cls, num, dec, cut, yr, rest⟩ := c
  simp only [clAV] at *
  generalize strs cut = S at *
  generalize cut.length = n at *
  have hn0 : ((n : Int) = 0) = (n = 0) := by simp
  cases g1 : v with
  | false =>
    rw [g1] at cv
    obtain rfl : F = false := by rw [← hF]; simp [g1]
    refine acall_enter 3 [] Tryz.ntmps61 Tryz.func61 rfl (fun _ _ => Tryz.call61 _ _) (by simp) (fun HO => ?_)
    refine aw_reg fun K hK => ?_; simp (maxSteps := 1000000) (disch := omega) [-List.getD_eq_getElem?_getD]; refine hK _ ?_; clear hK K
    refine aw_reg fun K hK => ?_; simp (maxSteps := 1000000) (disch := omega) [-List.getD_eq_getElem?_getD]
    refine acall_is (cv) ?_; simp (maxSteps := 1000000) (disch := omega) [-List.getD_eq_getElem?_getD]
    refine hK _ ?_; clear hK K
    refine aw_ret ?_; simp (maxSteps := 1000000) (disch := omega) [-List.getD_eq_getElem?_getD]
  | true =>
    rw [g1] at cv
    by_cases g2 : n = 0
    · subst g2
      by_cases g3 : yr = 0
      · subst g3
        by_cases g4 : rest = []
        · subst g4
          obtain rfl : F = true := by rw [← hF]; simp [g1]
          refine acall_enter 3 [] Tryz.ntmps61 Tryz.func61 rfl (fun _ _ => Tryz.call61 _ _) (by simp) (fun HO => ?_)
          refine aw_reg fun K hK => ?_; simp (maxSteps := 1000000) (disch := omega) [-List.getD_eq_getElem?_getD]; refine hK _ ?_; clear hK K
          refine aw_reg fun K hK => ?_; simp (maxSteps := 1000000) (disch := omega) [-List.getD_eq_getElem?_getD]
          refine acall_is (cv) ?_; simp (maxSteps := 1000000) (disch := omega) [-List.getD_eq_getElem?_getD]
          refine hK _ ?_; clear hK K
          refine aw_ret ?_; simp (maxSteps := 1000000) (disch := omega) [-List.getD_eq_getElem?_getD]
        · have b4 : (rest == []) = false := beq_eq_false_iff_ne.2 g4
          have b4n : (rest != []) = true := bne_iff_ne.2 g4
          obtain rfl : F = false := by rw [← hF]; simp [g1, g4]
          refine acall_enter 3 [] Tryz.ntmps61 Tryz.func61 rfl (fun _ _ => Tryz.call61 _ _) (by simp) (fun HO => ?_)
          refine aw_reg fun K hK => ?_; simp (maxSteps := 1000000) (disch := omega) [-List.getD_eq_getElem?_getD]; refine hK _ ?_; clear hK K
          refine aw_reg fun K hK => ?_; simp (maxSteps := 1000000) (disch := omega) [-List.getD_eq_getElem?_getD]
          refine acall_is (cv) ?_; simp (maxSteps := 1000000) (disch := omega) [-List.getD_eq_getElem?_getD, b4]
          refine hK _ ?_; clear hK K
          refine aw_ret ?_; simp (maxSteps := 1000000) (disch := omega) [-List.getD_eq_getElem?_getD]
      · have b3 : (yr == 0) = false := beq_eq_false_iff_ne.2 g3
        have b3n : (yr != 0) = true := bne_iff_ne.2 g3
        obtain rfl : F = false := by rw [← hF]; simp [g1, g3]
        refine acall_enter 3 [] Tryz.ntmps61 Tryz.func61 rfl (fun _ _ => Tryz.call61 _ _) (by simp) (fun HO => ?_)
        refine aw_reg fun K hK => ?_; simp (maxSteps := 1000000) (disch := omega) [-List.getD_eq_getElem?_getD]; refine hK _ ?_; clear hK K
        refine aw_reg fun K hK => ?_; simp (maxSteps := 1000000) (disch := omega) [-List.getD_eq_getElem?_getD]
        refine acall_is (cv) ?_; simp (maxSteps := 1000000) (disch := omega) [-List.getD_eq_getElem?_getD, b3]
        refine hK _ ?_; clear hK K
        refine aw_ret ?_; simp (maxSteps := 1000000) (disch := omega) [-List.getD_eq_getElem?_getD]
    · have b2 : ((n : Int) == 0) = false := beq_eq_false_iff_ne.2 (by omega)
      have b2n : ((n : Int) != 0) = true := bne_iff_ne.2 (by omega)
      obtain rfl : F = false := by rw [← hF]; simp [g1, g2]
      refine acall_enter 3 [] Tryz.ntmps61 Tryz.func61 rfl (fun _ _ => Tryz.call61 _ _) (by simp) (fun HO => ?_)
      refine aw_reg fun K hK => ?_; simp (maxSteps := 1000000) (disch := omega) [-List.getD_eq_getElem?_getD]; refine hK _ ?_; clear hK K
      refine aw_reg fun K hK => ?_; simp (maxSteps := 1000000) (disch := omega) [-List.getD_eq_getElem?_getD]
      refine acall_is (cv) ?_; simp (maxSteps := 1000000) (disch := omega) [-List.getD_eq_getElem?_getD, b2]
      refine hK _ ?_; clear hK K
      refine aw_ret ?_; simp (maxSteps := 1000000) (disch := omega) [-List.getD_eq_getElem?_getD]


set_option maxRecDepth 100000 in
set_option maxHeartbeats 4000000 in
theorem withinR_ok (a b : Cl) (t1 t2 : Tag) (ha : Sm a) (hb : Sm b) (H : List Blk) (T : Toks) :
    ACall Tryz.prog 27 [.agg (clAV a t1), .agg (clAV b t2)] H T (Is (.bool (withinF a b)) H T) := by
  refine callCl1 t1 (callCl2 t2 ?_)
  refine ACall.drop' ?_ (by simp)
  have c1 := validR_ok a .none ha (H ++ [.cells (clAV a .none), .cells (clAV b .none)]) T
  have c2 := classR_ok b .none hb (H ++ [.cells (clAV a .none), .cells (clAV b .none)]) T
  have hsa : ∀ n t, BelowAll n t (strs a.cut) := fun n t => by simp
  have hsb : ∀ n t, BelowAll n t (strs b.cut) := fun n t => by simp
  have hpre := pre_take b.dec a.dec
  have hda := ha.dec
  have hdb := hb.dec
  clear ha hb
  generalize hF : withinF a b = F
  unfold withinF at hF
  generalize validF a = v at *
  generalize classF b = w at *
  obtain ⟨s1, s2, s3, s4, s5, s6, s7⟩ := a
  obtain ⟨r1, r2, r3, r4, r5, r6, r7⟩ := b
  simp only [clAV] at *
  generalize r4.isPrefixOf s4 = pf at *
  generalize strs s5 = S at *
  generalize strs r5 = R at *
  cases g1 : v with
  | false =>
    rw [g1] at c1
    obtain rfl : F = false := by rw [← hF]; simp [g1]
    refine acall_enter 6 [] Tryz.ntmps27 Tryz.func27 rfl (fun _ _ => Tryz.call27 _ _) (by simp) (fun HO => ?_)
    refine aw_reg fun K hK => ?_; simp (maxSteps := 1000000) (disch := omega) [-List.getD_eq_getElem?_getD]; refine hK _ ?_; clear hK K
    refine aw_then fun K1 hK1 => ?_
    refine aw_reg fun K hK => ?_; simp (maxSteps := 1000000) (disch := omega) [-List.getD_eq_getElem?_getD]
    refine acall_is (c1) ?_; simp (maxSteps := 1000000) (disch := omega) [-List.getD_eq_getElem?_getD]
    refine hK _ ?_; clear hK K
    refine aw_if rfl (fun h => ?_) (fun h => absurd h (by simp []))
    refine aw_reg fun K hK => ?_; simp (maxSteps := 1000000) (disch := omega) [-List.getD_eq_getElem?_getD]; refine hK _ ?_; clear hK K
    refine aw_ret ?_; simp (maxSteps := 1000000) (disch := omega) [-List.getD_eq_getElem?_getD]
  | true =>
    rw [g1] at c1
    cases g2 : w with
    | false =>
      rw [g2] at c2
      obtain rfl : F = false := by rw [← hF]; simp [g1, g2]
      refine acall_enter 6 [] Tryz.ntmps27 Tryz.func27 rfl (fun _ _ => Tryz.call27 _ _) (by simp) (fun HO => ?_)
      refine aw_reg fun K hK => ?_; simp (maxSteps := 1000000) (disch := omega) [-List.getD_eq_getElem?_getD]; refine hK _ ?_; clear hK K
      refine aw_then fun K1 hK1 => ?_
      refine aw_reg fun K hK => ?_; simp (maxSteps := 1000000) (disch := omega) [-List.getD_eq_getElem?_getD]
      refine acall_is (c1) ?_; simp (maxSteps := 1000000) (disch := omega) [-List.getD_eq_getElem?_getD]
      refine acall_is (c2) ?_; simp (maxSteps := 1000000) (disch := omega) [-List.getD_eq_getElem?_getD]
      refine hK _ ?_; clear hK K
      refine aw_if rfl (fun h => ?_) (fun h => absurd h (by simp []))
      refine aw_reg fun K hK => ?_; simp (maxSteps := 1000000) (disch := omega) [-List.getD_eq_getElem?_getD]; refine hK _ ?_; clear hK K
      refine aw_ret ?_; simp (maxSteps := 1000000) (disch := omega) [-List.getD_eq_getElem?_getD]
    | true =>
      rw [g2] at c2
      rw [g1, g2] at hF
      simp only [Bool.true_and] at hF
      by_cases g3 : s1 = r1
      rotate_left
      · have b3 : (s1 == r1) = false := beq_eq_false_iff_ne.2 g3
        have b3n : (s1 != r1) = true := bne_iff_ne.2 g3
        obtain rfl : F = false := by rw [← hF]; simp [g3]
        refine acall_enter 6 [] Tryz.ntmps27 Tryz.func27 rfl (fun _ _ => Tryz.call27 _ _) (by simp) (fun HO => ?_)
        refine aw_reg fun K hK => ?_; simp (maxSteps := 1000000) (disch := omega) [-List.getD_eq_getElem?_getD]; refine hK _ ?_; clear hK K
        refine aw_then fun K1 hK1 => ?_
        refine aw_reg fun K hK => ?_; simp (maxSteps := 1000000) (disch := omega) [-List.getD_eq_getElem?_getD]
        refine acall_is (c1) ?_; simp (maxSteps := 1000000) (disch := omega) [-List.getD_eq_getElem?_getD]
        refine acall_is (c2) ?_; simp (maxSteps := 1000000) (disch := omega) [-List.getD_eq_getElem?_getD, b3n]
        refine hK _ ?_; clear hK K
        refine aw_if rfl (fun h => ?_) (fun h => absurd h (by simp [g3]))
        refine aw_reg fun K hK => ?_; simp (maxSteps := 1000000) (disch := omega) [-List.getD_eq_getElem?_getD]; refine hK _ ?_; clear hK K
        refine aw_ret ?_; simp (maxSteps := 1000000) (disch := omega) [-List.getD_eq_getElem?_getD]
      subst g3
      by_cases g4 : s2 = r2
      rotate_left
      · have b4 : (s2 == r2) = false := beq_eq_false_iff_ne.2 g4
        have b4n : (s2 != r2) = true := bne_iff_ne.2 g4
        obtain rfl : F = false := by rw [← hF]; simp [g4]
        refine acall_enter 6 [] Tryz.ntmps27 Tryz.func27 rfl (fun _ _ => Tryz.call27 _ _) (by simp) (fun HO => ?_)
        refine aw_reg fun K hK => ?_; simp (maxSteps := 1000000) (disch := omega) [-List.getD_eq_getElem?_getD]; refine hK _ ?_; clear hK K
        refine aw_then fun K1 hK1 => ?_
        refine aw_reg fun K hK => ?_; simp (maxSteps := 1000000) (disch := omega) [-List.getD_eq_getElem?_getD]
        refine acall_is (c1) ?_; simp (maxSteps := 1000000) (disch := omega) [-List.getD_eq_getElem?_getD]
        refine acall_is (c2) ?_; simp (maxSteps := 1000000) (disch := omega) [-List.getD_eq_getElem?_getD, b4]
        refine hK _ ?_; clear hK K
        refine aw_if rfl (fun h => ?_) (fun h => absurd h (by simp [g4]))
        refine aw_reg fun K hK => ?_; simp (maxSteps := 1000000) (disch := omega) [-List.getD_eq_getElem?_getD]; refine hK _ ?_; clear hK K
        refine aw_ret ?_; simp (maxSteps := 1000000) (disch := omega) [-List.getD_eq_getElem?_getD]
      subst g4
      by_cases g5 : s3 = r3
      rotate_left
      · have b5 : (s3 == r3) = false := beq_eq_false_iff_ne.2 g5
        have b5n : (s3 != r3) = true := bne_iff_ne.2 g5
        obtain rfl : F = false := by rw [← hF]; simp [g5]
        refine acall_enter 6 [] Tryz.ntmps27 Tryz.func27 rfl (fun _ _ => Tryz.call27 _ _) (by simp) (fun HO => ?_)
        refine aw_reg fun K hK => ?_; simp (maxSteps := 1000000) (disch := omega) [-List.getD_eq_getElem?_getD]; refine hK _ ?_; clear hK K
        refine aw_then fun K1 hK1 => ?_
        refine aw_reg fun K hK => ?_; simp (maxSteps := 1000000) (disch := omega) [-List.getD_eq_getElem?_getD]
        refine acall_is (c1) ?_; simp (maxSteps := 1000000) (disch := omega) [-List.getD_eq_getElem?_getD]
        refine acall_is (c2) ?_; simp (maxSteps := 1000000) (disch := omega) [-List.getD_eq_getElem?_getD, b5n]
        refine hK _ ?_; clear hK K
        refine aw_if rfl (fun h => ?_) (fun h => absurd h (by simp [g5]))
        refine aw_reg fun K hK => ?_; simp (maxSteps := 1000000) (disch := omega) [-List.getD_eq_getElem?_getD]; refine hK _ ?_; clear hK K
        refine aw_ret ?_; simp (maxSteps := 1000000) (disch := omega) [-List.getD_eq_getElem?_getD]
      subst g5
      simp only [decide_true, Bool.true_and] at hF
      by_cases g6 : r4.length ≤ s4.length
      · have n6 : decide ((s4.length : Int) ≥ (r4.length : Nat)) = true := decide_eq_true (by omega)
        have n7 : decide ((r4.length : Int) ≤ (s4.length : Nat)) = true := decide_eq_true (by omega)
        by_cases g7 : s4.take r4.length = r4
        · obtain rfl : F = true := by rw [← hF, hpre]; simp [g6, g7]
          have n8 : (s4.take r4.length == r4) = true := beq_iff_eq.2 g7
          refine acall_enter 6 [] Tryz.ntmps27 Tryz.func27 rfl (fun _ _ => Tryz.call27 _ _) (by simp) (fun HO => ?_)
          refine aw_reg fun K hK => ?_; simp (maxSteps := 1000000) (disch := omega) [-List.getD_eq_getElem?_getD]; refine hK _ ?_; clear hK K
          refine aw_then fun K1 hK1 => ?_
          refine aw_reg fun K hK => ?_; simp (maxSteps := 1000000) (disch := omega) [-List.getD_eq_getElem?_getD]
          refine acall_is (c1) ?_; simp (maxSteps := 1000000) (disch := omega) [-List.getD_eq_getElem?_getD]
          refine acall_is (c2) ?_; simp (maxSteps := 1000000) (disch := omega) [-List.getD_eq_getElem?_getD]
          refine hK _ ?_; clear hK K
          refine aw_if rfl (fun h => absurd h (by simp)) (fun h => ?_)
          refine aw_skip ?_; simp (maxSteps := 1000000) (disch := omega) [-List.getD_eq_getElem?_getD]
          refine hK1 _ ?_; clear hK1
          refine aw_reg fun K hK => ?_; simp (maxSteps := 1000000) (disch := omega) [-List.getD_eq_getElem?_getD]; refine hK _ ?_; clear hK K
          refine aw_draw [] [] [] drawMixed (by kernel_rfl) (by kernel_rfl) fun K hK => ?_; simp (maxSteps := 1000000) (disch := omega) [-List.getD_eq_getElem?_getD, g6, g7]
          refine hK _ ?_; clear hK K
          refine aw_ret ?_; simp (maxSteps := 1000000) (disch := omega) [-List.getD_eq_getElem?_getD]
        · obtain rfl : F = false := by rw [← hF, hpre]; simp [g6, g7]
          have n8 : (s4.take r4.length == r4) = false := beq_eq_false_iff_ne.2 g7
          refine acall_enter 6 [] Tryz.ntmps27 Tryz.func27 rfl (fun _ _ => Tryz.call27 _ _) (by simp) (fun HO => ?_)
          refine aw_reg fun K hK => ?_; simp (maxSteps := 1000000) (disch := omega) [-List.getD_eq_getElem?_getD]; refine hK _ ?_; clear hK K
          refine aw_then fun K1 hK1 => ?_
          refine aw_reg fun K hK => ?_; simp (maxSteps := 1000000) (disch := omega) [-List.getD_eq_getElem?_getD]
          refine acall_is (c1) ?_; simp (maxSteps := 1000000) (disch := omega) [-List.getD_eq_getElem?_getD]
          refine acall_is (c2) ?_; simp (maxSteps := 1000000) (disch := omega) [-List.getD_eq_getElem?_getD]
          refine hK _ ?_; clear hK K
          refine aw_if rfl (fun h => absurd h (by simp)) (fun h => ?_)
          refine aw_skip ?_; simp (maxSteps := 1000000) (disch := omega) [-List.getD_eq_getElem?_getD]
          refine hK1 _ ?_; clear hK1
          refine aw_reg fun K hK => ?_; simp (maxSteps := 1000000) (disch := omega) [-List.getD_eq_getElem?_getD]; refine hK _ ?_; clear hK K
          refine aw_draw [] [] [] drawMixed (by kernel_rfl) (by kernel_rfl) fun K hK => ?_; simp (maxSteps := 1000000) (disch := omega) [-List.getD_eq_getElem?_getD, g6, n8]
          refine hK _ ?_; clear hK K
          refine aw_ret ?_; simp (maxSteps := 1000000) (disch := omega) [-List.getD_eq_getElem?_getD]
      · obtain rfl : F = false := by rw [← hF, hpre]; simp [g6]
        have n6 : decide ((s4.length : Int) ≥ (r4.length : Nat)) = false := decide_eq_false (by omega)
        have n7 : decide ((r4.length : Int) ≤ (s4.length : Nat)) = false := decide_eq_false (by omega)
        refine acall_enter 6 [] Tryz.ntmps27 Tryz.func27 rfl (fun _ _ => Tryz.call27 _ _) (by simp) (fun HO => ?_)
        refine aw_reg fun K hK => ?_; simp (maxSteps := 1000000) (disch := omega) [-List.getD_eq_getElem?_getD]; refine hK _ ?_; clear hK K
        refine aw_then fun K1 hK1 => ?_
        refine aw_reg fun K hK => ?_; simp (maxSteps := 1000000) (disch := omega) [-List.getD_eq_getElem?_getD]
        refine acall_is (c1) ?_; simp (maxSteps := 1000000) (disch := omega) [-List.getD_eq_getElem?_getD]
        refine acall_is (c2) ?_; simp (maxSteps := 1000000) (disch := omega) [-List.getD_eq_getElem?_getD]
        refine hK _ ?_; clear hK K
        refine aw_if rfl (fun h => absurd h (by simp)) (fun h => ?_)
        refine aw_skip ?_; simp (maxSteps := 1000000) (disch := omega) [-List.getD_eq_getElem?_getD]
        refine hK1 _ ?_; clear hK1
        refine aw_reg fun K hK => ?_; simp (maxSteps := 1000000) (disch := omega) [-List.getD_eq_getElem?_getD]; refine hK _ ?_; clear hK K
        refine aw_draw [] [] [] drawMixed (by kernel_rfl) (by kernel_rfl) fun K hK => ?_; simp (maxSteps := 1000000) (disch := omega) [-List.getD_eq_getElem?_getD, g6]
        refine hK _ ?_; clear hK K
        refine aw_ret ?_; simp (maxSteps := 1000000) (disch := omega) [-List.getD_eq_getElem?_getD]
end Go.Proofs.YtnmlpohhommagaaGreatDoor

/- The reference's Key (layer 52): the walk. -/
namespace Go.Proofs.YtnmlpohhommagaaGreatDoor
open Go Go.Am Cn Lst
set_option linter.unusedVariables false

set_option maxRecDepth 100000 in
set_option maxHeartbeats 8000000 in
theorem keyR_ok (c : Cl) (tg : Tag) (hc : Sm c) (H : List Blk) (T : Toks) :
    ACall Tryz.prog 29 [.agg (clAV c tg)] H T (Is (.sl (keyF c).length (encB (keyF c)) .none) H T) := by
  refine callCl1 tg ?_
  refine ACall.drop' ?_ (by simp)
  have cv := validR_ok c .none hc (H ++ [.cells (clAV c .none)]) T
  have hbS : ∀ n t, BelowAll n t (strs c.cut) := fun n t => by simp
  cases hv : validF c with
  | false =>
    rw [hv] at cv
    unfold keyF
    rw [if_neg (by rw [hv]; simp)]
    obtain ⟨sch, cls, num, dec, cut, yr, rest⟩ := c
    simp only [clAV] at *
    generalize strs cut = S at *
    refine acall_enter 6 [] Tryz.ntmps29 Tryz.func29 rfl (fun _ _ => Tryz.call29 _ _) (by simp) (fun HO => ?_)
    refine aw_reg fun K hK => ?_; simp (maxSteps := 1000000) (disch := omega) [-List.getD_eq_getElem?_getD]; refine hK _ ?_; clear hK K
    refine aw_then fun K1 hK1 => ?_
    refine aw_reg fun K hK => ?_; simp (maxSteps := 1000000) (disch := omega) [-List.getD_eq_getElem?_getD]
    refine acall_is (cv) ?_; simp (maxSteps := 1000000) (disch := omega) [-List.getD_eq_getElem?_getD]
    refine hK _ ?_; clear hK K
    refine aw_if rfl (fun h => ?_) (fun h => absurd h (by simp))
    refine aw_reg fun K hK => ?_; simp (maxSteps := 1000000) (disch := omega) [-List.getD_eq_getElem?_getD]; refine hK _ ?_; clear hK K
    refine aw_ret ?_; simp (maxSteps := 1000000) (disch := omega) [-List.getD_eq_getElem?_getD]
  | true =>
    rw [hv] at cv
    have hK := keyF_two hv
    have hyv := valid_yr hv
    have hnv := valid_num hv
    have hrl := hc.rest
    have hdl := hc.dec
    have hsl := hc.cls
    have hkc := hc.cut
    have hkl := keyC_len hc.each
    have hcx := fun i (h : i < c.cut.length) => hc.each _ (memL h)
    have hks := fun i (h : i < c.cut.length) => keyC_take h
    have hlen := strs_len c.cut
    have hat := fun i h => strs_at (l := c.cut) (i := i) h
    have hk0 : keyC (c.cut.take 0) = [] := rfl
    have hkt : c.cut.take c.cut.length = c.cut := List.take_length
    have hsc : c.sch = 1 ∨ c.sch = 2 := by rcases valid_sch hv with h | h <;> simp [h.1]
    have tw1 := fun T => twoR_ok c.num.toNat (by omega) (H ++ [.cells (clAV c .none)]) T
    have tw2 := fun T => twoR_ok c.yr.toNat (by omega) (H ++ [.cells (clAV c .none)]) T
    have hW1 : (twoF c.num.toNat).length = 2 := rfl
    have hW2 : (twoF c.yr.toNat).length = 2 := rfl
    clear hc hv
    generalize keyF c = KF at *
    generalize twoF c.num.toNat = W1 at *
    generalize twoF c.yr.toNat = W2 at *
    obtain ⟨sch, cls, num, dec, cut, yr, rest⟩ := c
    simp only [clAV] at *
    generalize strs cut = S at *
    obtain ⟨u, rfl⟩ : ∃ u : Nat, num = (u : Int) := ⟨num.toNat, by omega⟩
    obtain ⟨y, rfl⟩ : ∃ u : Nat, yr = (u : Int) := ⟨yr.toNat, by omega⟩
    obtain ⟨k, rfl⟩ : ∃ k : Nat, sch = (k : Int) := ⟨sch.toNat, by omega⟩
    rw [Int.toNat_natCast] at *
    have h4 : (k : Int) % 256 = (k : Int) := by omega
    have e0 : ∀ x : List UInt8, AV.int .u8 (k : Int) :: encB x = encB (UInt8.ofNat k :: x) := fun x => by
      simp only [encB, List.map_cons, List.cons.injEq, and_true, AV.int.injEq, true_and]
      rw [UInt8.toNat_ofNat']; omega
    have e1 : ∀ x : List UInt8, encB x ++ [AV.int .u8 1] = encB (x ++ [1]) := fun x => by simp [encB]
    have e2 : ∀ x : List UInt8, encB x ++ [AV.int .u8 2] = encB (x ++ [2]) := fun x => by simp [encB]
    have e3 : ∀ x : List UInt8, encB x ++ [AV.int .u8 3] = encB (x ++ [3]) := fun x => by simp [encB]
    have ea : ∀ x y : List UInt8, encB x ++ encB y = encB (x ++ y) := fun x y => by simp [encB]
    have el : ∀ x : List UInt8, (encB x).length = x.length := fun x => by simp [encB]
    refine acall_enter 5 [] Tryz.ntmps29 Tryz.func29 rfl (fun _ _ => Tryz.call29 _ _) (by simp) (fun HO => ?_)
    have HO1 : ∀ n : Nat, HOk (H ++ [.cells [.int .i64 (k : Nat), .str cls, .int .i64 (u : Nat), .str dec, .sl cut.length S .none, .int .i64 (y : Nat), .str rest]]) (T ++ [(n, 1)]) := fun n => HOk.snoc (HO.toks (by simp)) (by simp [hbS])
    refine aw_reg fun K hK => ?_; simp (maxSteps := 1000000) (disch := omega) [-List.getD_eq_getElem?_getD]; refine hK _ ?_; clear hK K
    refine aw_then fun K1 hK1 => ?_
    refine aw_reg fun K hK => ?_; simp (maxSteps := 1000000) (disch := omega) [-List.getD_eq_getElem?_getD]
    refine acall_is (cv) ?_; simp (maxSteps := 1000000) (disch := omega) [-List.getD_eq_getElem?_getD]
    refine hK _ ?_; clear hK K
    refine aw_if rfl (fun h => absurd h (by simp)) (fun h => ?_)
    refine aw_skip ?_; simp (maxSteps := 1000000) (disch := omega) [-List.getD_eq_getElem?_getD]
    refine hK1 _ ?_; clear hK1
    refine aw_reg fun K hK => ?_; simp (maxSteps := 1000000) (disch := omega) [-List.getD_eq_getElem?_getD, e0]
    refine hK _ ?_; clear hK K
    rw [show 1 + cls.length = (UInt8.ofNat k :: cls).length by simp; omega]
    generalize hX : UInt8.ofNat k :: cls = X at *
    have hXl : X.length ≤ 1001 := by rw [← hX]; simp; omega
    refine aw_draw [2, 6] [0, 0, 0, 0, 0, 1, 1, 2] [[], []] drawMixed (by kernel_rfl) (by kernel_rfl) fun K hK => ?_; simp (maxSteps := 1000000) (disch := omega) [-List.getD_eq_getElem?_getD, e1, el]
    refine dcall_is (tw1 _) rfl ?_; simp (maxSteps := 1000000) (disch := omega) [-List.getD_eq_getElem?_getD, ea, el, hW1]
    refine hK _ ?_; clear hK K
    rw [show X.length + 1 + 2 = (X ++ 1 :: W1).length by simp [hW1]]
    generalize hY : X ++ 1 :: W1 = Y at *
    have hYl : Y.length ≤ 1004 := by rw [← hY]; simp [hW1]; omega
    refine aw_reg fun K hK => ?_; simp (maxSteps := 1000000) (disch := omega) [-List.getD_eq_getElem?_getD, e1, ea, el]
    refine hK _ ?_; clear hK K
    rw [show Y.length + dec.length + 1 = (Y ++ (dec ++ [1])).length by simp; omega]
    generalize hZ : Y ++ (dec ++ [1]) = Z at *
    have hZl : Z.length ≤ 2005 := by rw [← hZ]; simp; omega
    obtain ⟨Kf, hKf⟩ : ∃ f : Nat → List UInt8, ∀ i, f i = Z ++ keyC (cut.take i) := ⟨_, fun _ => rfl⟩
    have hk0' : Kf 0 = Z := by rw [hKf, hk0, List.append_nil]
    have hks' : ∀ i, i < cut.length → Kf (i + 1) = Kf i ++ (3 :: (cut.getD i [] ++ [1])) := fun i h => by rw [hKf, hKf, hks i h, List.append_assoc]
    have hkn : Kf cut.length = Z ++ keyC cut := by rw [hKf, hkt]
    have hkl' : ∀ i, i ≤ cut.length → (Kf i).length ≤ 2000000 := fun i h => by
      have := hkl i h
      rw [hKf, List.length_append]; omega
    clear hks hkl hk0 hkt hKf
    refine aw_then fun K2 hK2 => ?_
    refine aw_reg fun K hK => ?_; simp (maxSteps := 1000000) (disch := omega) [-List.getD_eq_getElem?_getD]; refine hK _ ?_; clear hK K
    refine aw_block ?_
    refine aw_loop (X := Nat) (fun i => ⟨[(1, .ptr H.length 0), (3, .sl (Kf i).length (encB (Kf i)) (.own T.length)), (4, .int .i64 (i : Nat))], H ++ [.cells [.int .i64 (k : Nat), .str cls, .int .i64 (u : Nat), .str dec, .sl cut.length S .none, .int .i64 (y : Nat), .str rest]], T ++ [((Kf i).length, 1)]⟩) (fun i => i ≤ cut.length) (fun i => cut.length - i) 0 ?_ ?_ ?_
    · exact Nat.zero_le _
    · rw [hk0']
      refine weak_to [] [] ?_ ?_ ?_ ?_ (HO1 _) ?_
      all_goals simp [hbS]
    · rintro i h1
      refine aw_then fun K3 hK3 => ?_
      refine aw_reg fun K hK => ?_; simp (maxSteps := 1000000) (disch := omega) [-List.getD_eq_getElem?_getD]; refine hK _ ?_; clear hK K
      refine aw_if rfl (fun hk => ?_) (fun hk => ?_)
      · simp [-List.getD_eq_getElem?_getD] at hk
        have ha := hat i hk
        have hiS : i < S.length := by omega
        have hxl := hcx i hk
        have hs := hks' i hk
        have hYl := hkl' i h1
        clear hks' hkl' hkn hk0'
        refine aw_skip ?_; simp (maxSteps := 1000000) (disch := omega) [-List.getD_eq_getElem?_getD]
        refine hK3 _ ?_; clear hK3
        refine aw_then fun K4 hK4 => ?_
        refine aw_block ?_
        generalize cut.getD i [] = x at *
        have fin : ∀ e n Z, Z = Kf (i + 1) → n = Z.length → envLe (H.length + 1) (T.length + 1) e [(1, .ptr H.length 0), (3, .sl n (encB Z) (.own T.length)), (4, .int .i64 (i : Nat))] → K4 ⟨e, H ++ [.cells [.int .i64 (k : Nat), .str cls, .int .i64 (u : Nat), .str dec, .sl cut.length S .none, .int .i64 (y : Nat), .str rest]], T ++ [(n, 1)]⟩ := by
          intro e n Z hZ hn he
          subst hn
          subst hZ
          refine hK4 _ (aw_weak ⟨[(1, .ptr H.length 0), (3, .sl (Kf (i + 1)).length (encB (Kf (i + 1))) (.own T.length)), (4, .int .i64 (i : Nat))], H ++ [.cells [.int .i64 (k : Nat), .str cls, .int .i64 (u : Nat), .str dec, .sl cut.length S .none, .int .i64 (y : Nat), .str rest]], T ++ [((Kf (i + 1)).length, 1)]⟩ (weak_to [] [] (by simp) (by simp) (by simp) (by simp) (HO1 _) (by simpa using he)) ?_)
          refine aw_reg0 fun K hK => ?_; simp (maxSteps := 1000000) (disch := omega) [-List.getD_eq_getElem?_getD]
          refine hK _ ?_; clear hK K
          refine ⟨i + 1, by show i + 1 ≤ _; omega, by show cut.length - (i + 1) < cut.length - i; omega, ?_⟩
          refine weak_to [] [] ?_ ?_ ?_ ?_ (HO1 _) ?_
          all_goals simp [hbS]
        rw [hs] at fin
        clear hK4 hs
        generalize Kf i = Q at *
        refine aw_draw0 [2, 8, 10] [0, 0, 0, 0, 0, 0, 0, 0, 1, 0, 2, 3] [[], [], []] drawMixed (by kernel_rfl) (by kernel_rfl) fun K hK => ?_; simp (maxSteps := 1000000) (disch := omega) [-List.getD_eq_getElem?_getD, ha, hlen, e3, e1, ea, el]
        refine hK _ ?_; clear hK K
        refine fin _ _ (Q ++ [3] ++ x ++ [1]) (by simp) (by simp; omega) ?_
        simp [hbS]
      · simp [-List.getD_eq_getElem?_getD] at hk
        have e : i = cut.length := by omega
        subst e
        have hYl := hkl' cut.length (Nat.le_refl _)
        clear hks' hkl' hk0'
        generalize Kf cut.length = Q at *
        refine aw_exit ?_; simp (maxSteps := 1000000) (disch := omega) [-List.getD_eq_getElem?_getD]
        refine hK2 _ ?_; clear hK2
        refine aw_draw [2, 6, 9] [0, 0, 0, 0, 0, 1, 1, 0, 0, 2, 3] [[], [], []] drawMixed (by kernel_rfl) (by kernel_rfl) fun K hK => ?_; simp (maxSteps := 1000000) (disch := omega) [-List.getD_eq_getElem?_getD, e2, el]
        refine dcall_is (tw2 _) rfl ?_; simp (maxSteps := 1000000) (disch := omega) [-List.getD_eq_getElem?_getD, ea, el, hW2]
        refine hK _ ?_; clear hK K
        refine aw_ret ?_; simp (maxSteps := 1000000) (disch := omega) [-List.getD_eq_getElem?_getD]
        trace_state
        subst hkn
        subst hZ
        subst hY
        subst hX
        subst hK
        refine ⟨by simp; omega, by simp⟩
end Go.Proofs.YtnmlpohhommagaaGreatDoor

/- Ends (layer 52): the program's walk and the reference's; bytes.Equal. -/
namespace Go.Proofs.YtnmlpohhommagaaGreatDoor
open Go Go.Am Cn Lst
set_option linter.unusedVariables false

set_option maxRecDepth 100000 in
theorem bytesEq_ok (x y : List UInt8) (t1 t2 : Tag) (H : List Blk) (T : Toks) :
    ACall Tryz.prog 28 [.sl x.length (encB x) t1, .sl y.length (encB y) t2] H T (Is (.bool (x == y)) H T) := by
  refine ACall.untag1 (ACall.untag2 ?_)
  show ACall _ _ [.sl x.length (encB x) .none, .sl y.length (encB y) .none] _ _ _
  refine acall_enter 5 [] Tryz.ntmps28 Tryz.func28 rfl (fun _ _ => Tryz.call28 _ _) (by simp) (fun HO => ?_)
  refine aw_reg fun K hK => ?_; simp (maxSteps := 1000000) (disch := omega) [-List.getD_eq_getElem?_getD]; refine hK _ ?_; clear hK K
  refine aw_reg fun K hK => ?_; simp (maxSteps := 1000000) (disch := omega) [-List.getD_eq_getElem?_getD]; refine hK _ ?_; clear hK K
  refine aw_ret ?_; simp (maxSteps := 1000000) (disch := omega) [-List.getD_eq_getElem?_getD]
  exact ⟨rfl, rfl, rfl⟩

set_option maxRecDepth 100000 in
set_option maxHeartbeats 4000000 in
theorem endsP_ok (c : Cl) (tg : Tag) (hc : Sm c) (H : List Blk) (T : Toks) :
    ACall Tryz.prog 25 [.agg (clAV c tg)] H T (Is (.tup [.sl (endsF c).1.length (encB (endsF c).1) .none, .sl (endsF c).2.1.length (encB (endsF c).2.1) .none, .int .i64 (endsF c).2.2]) H T) := by
  refine callCl1 tg ?_
  refine ACall.dropT ?_ (by simp)
  have cv := classP_ok c .none hc (H ++ [.cells (clAV c .none)]) T
  have hbS : ∀ n t, BelowAll n t (strs c.cut) := fun n t => by simp
  unfold endsF
  cases hv : classF c with
  | false =>
    rw [hv] at cv
    rw [if_neg (by simp)]
    obtain ⟨sch, cls, num, dec, cut, yr, rest⟩ := c
    simp only [clAV] at *
    generalize strs cut = S at *
    refine acall_enter 5 [] Tryz.ntmps25 Tryz.func25 rfl (fun _ _ => Tryz.call25 _ _) (by simp) (fun HO => ?_)
    refine aw_reg fun K hK => ?_; simp (maxSteps := 1000000) (disch := omega) [-List.getD_eq_getElem?_getD]; refine hK _ ?_; clear hK K
    refine aw_then fun K1 hK1 => ?_
    refine aw_reg fun K hK => ?_; simp (maxSteps := 1000000) (disch := omega) [-List.getD_eq_getElem?_getD]
    refine acall_is (cv) ?_; simp (maxSteps := 1000000) (disch := omega) [-List.getD_eq_getElem?_getD]
    refine hK _ ?_; clear hK K
    refine aw_if rfl (fun h => ?_) (fun h => absurd h (by simp))
    refine aw_reg fun K hK => ?_; simp (maxSteps := 1000000) (disch := omega) [-List.getD_eq_getElem?_getD]; refine hK _ ?_; clear hK K
    refine aw_ret ?_; simp (maxSteps := 1000000) (disch := omega) [-List.getD_eq_getElem?_getD]
  | true =>
    rw [hv] at cv
    rw [if_pos rfl]
    have ck := fun T => keyP_ok c .none hc (H ++ [.cells (clAV c .none)]) T
    have cb := fun T => beginP_ok c .none (class_parts hv).1 (H ++ [.cells (clAV c .none)]) T
    have hBl := begF_len c hc
    generalize keyF c = K at *
    generalize begF c = B at *
    obtain ⟨sch, cls, num, dec, cut, yr, rest⟩ := c
    simp only [clAV] at *
    generalize strs cut = S at *
    have e1 : ∀ x : List UInt8, encB x ++ [AV.int .u8 58] = encB (x ++ [58]) := fun x => by simp [encB]
    have el : ∀ x : List UInt8, (encB x).length = x.length := fun x => by simp [encB]
    refine acall_enter 5 [] Tryz.ntmps25 Tryz.func25 rfl (fun _ _ => Tryz.call25 _ _) (by simp) (fun HO => ?_)
    refine aw_reg fun K hK => ?_; simp (maxSteps := 1000000) (disch := omega) [-List.getD_eq_getElem?_getD]; refine hK _ ?_; clear hK K
    refine aw_then fun K1 hK1 => ?_
    refine aw_reg fun K hK => ?_; simp (maxSteps := 1000000) (disch := omega) [-List.getD_eq_getElem?_getD]
    refine acall_is (cv) ?_; simp (maxSteps := 1000000) (disch := omega) [-List.getD_eq_getElem?_getD]
    refine hK _ ?_; clear hK K
    refine aw_if rfl (fun h => absurd h (by simp)) (fun h => ?_)
    refine aw_skip ?_; simp (maxSteps := 1000000) (disch := omega) [-List.getD_eq_getElem?_getD]
    refine hK1 _ ?_; clear hK1
    refine aw_draw [3, 5] [0, 0, 0, 0, 0, 1, 2, 2, 2] [[], []] drawMixed (by kernel_rfl) (by kernel_rfl) fun K hK => ?_; simp (maxSteps := 1000000) (disch := omega) [-List.getD_eq_getElem?_getD]
    refine dcall_is (ck _) rfl ?_; simp (maxSteps := 1000000) (disch := omega) [-List.getD_eq_getElem?_getD]
    refine dcall_eff (cb _) rfl ?_; simp (maxSteps := 1000000) (disch := omega) [-List.getD_eq_getElem?_getD, e1, el]
    refine hK _ ?_; clear hK K
    refine aw_ret ?_; simp (maxSteps := 1000000) (disch := omega) [-List.getD_eq_getElem?_getD]

set_option maxRecDepth 100000 in
set_option maxHeartbeats 8000000 in
theorem endsR_ok (c : Cl) (tg : Tag) (hc : Sm c) (H : List Blk) (T : Toks) :
    ACall Tryz.prog 26 [.agg (clAV c tg)] H T (Is (.tup [.sl (endsF c).1.length (encB (endsF c).1) .none, .sl (endsF c).2.1.length (encB (endsF c).2.1) .none, .int .i64 (endsF c).2.2]) H T) := by
  refine callCl1 tg ?_
  refine ACall.dropT ?_ (by simp)
  have cv := classR_ok c .none hc (H ++ [.cells (clAV c .none)]) T
  have hbS : ∀ n t, BelowAll n t (strs c.cut) := fun n t => by simp
  unfold endsF
  cases hv : classF c with
  | false =>
    rw [hv] at cv
    rw [if_neg (by simp)]
    obtain ⟨sch, cls, num, dec, cut, yr, rest⟩ := c
    simp only [clAV] at *
    generalize strs cut = S at *
    refine acall_enter 6 [] Tryz.ntmps26 Tryz.func26 rfl (fun _ _ => Tryz.call26 _ _) (by simp) (fun HO => ?_)
    refine aw_reg fun K hK => ?_; simp (maxSteps := 1000000) (disch := omega) [-List.getD_eq_getElem?_getD]; refine hK _ ?_; clear hK K
    refine aw_then fun K1 hK1 => ?_
    refine aw_reg fun K hK => ?_; simp (maxSteps := 1000000) (disch := omega) [-List.getD_eq_getElem?_getD]
    refine acall_is (cv) ?_; simp (maxSteps := 1000000) (disch := omega) [-List.getD_eq_getElem?_getD]
    refine hK _ ?_; clear hK K
    refine aw_if rfl (fun h => ?_) (fun h => absurd h (by simp))
    refine aw_reg fun K hK => ?_; simp (maxSteps := 1000000) (disch := omega) [-List.getD_eq_getElem?_getD]; refine hK _ ?_; clear hK K
    refine aw_ret ?_; simp (maxSteps := 1000000) (disch := omega) [-List.getD_eq_getElem?_getD]
  | true =>
    rw [hv] at cv
    rw [if_pos rfl]
    have hvv := (class_parts hv).1
    have ck := fun T => keyR_ok c .none hc (H ++ [.cells (clAV c .none)]) T
    have hB := begF_two c
    have hnv := valid_num hvv
    have hdl := hc.dec
    have hsl := hc.cls
    have hsc : c.sch = 1 ∨ c.sch = 2 := by rcases valid_sch hvv with h | h <;> simp [h.1]
    have tw1 := fun T => twoR_ok c.num.toNat (by omega) (H ++ [.cells (clAV c .none)]) T
    have hW1 : (twoF c.num.toNat).length = 2 := rfl
    clear hc hv hvv
    generalize keyF c = K at *
    generalize begF c = B at *
    generalize twoF c.num.toNat = W1 at *
    obtain ⟨sch, cls, num, dec, cut, yr, rest⟩ := c
    simp only [clAV] at *
    generalize strs cut = S at *
    obtain ⟨u, rfl⟩ : ∃ u : Nat, num = (u : Int) := ⟨num.toNat, by omega⟩
    obtain ⟨k, rfl⟩ : ∃ k : Nat, sch = (k : Int) := ⟨sch.toNat, by omega⟩
    rw [Int.toNat_natCast] at *
    have h4 : (k : Int) % 256 = (k : Int) := by omega
    have e0 : ∀ x : List UInt8, AV.int .u8 (k : Int) :: encB x = encB (UInt8.ofNat k :: x) := fun x => by
      simp only [encB, List.map_cons, List.cons.injEq, and_true, AV.int.injEq, true_and]
      rw [UInt8.toNat_ofNat']; omega
    have e1 : ∀ x : List UInt8, encB x ++ [AV.int .u8 1] = encB (x ++ [1]) := fun x => by simp [encB]
    have e2 : ∀ x : List UInt8, encB x ++ [AV.int .u8 58] = encB (x ++ [58]) := fun x => by simp [encB]
    have ea : ∀ x y : List UInt8, encB x ++ encB y = encB (x ++ y) := fun x y => by simp [encB]
    have el : ∀ x : List UInt8, (encB x).length = x.length := fun x => by simp [encB]
    refine acall_enter 6 [] Tryz.ntmps26 Tryz.func26 rfl (fun _ _ => Tryz.call26 _ _) (by simp) (fun HO => ?_)
    refine aw_reg fun K hK => ?_; simp (maxSteps := 1000000) (disch := omega) [-List.getD_eq_getElem?_getD]; refine hK _ ?_; clear hK K
    refine aw_then fun K1 hK1 => ?_
    refine aw_reg fun K hK => ?_; simp (maxSteps := 1000000) (disch := omega) [-List.getD_eq_getElem?_getD]
    refine acall_is (cv) ?_; simp (maxSteps := 1000000) (disch := omega) [-List.getD_eq_getElem?_getD]
    refine hK _ ?_; clear hK K
    refine aw_if rfl (fun h => absurd h (by simp)) (fun h => ?_)
    refine aw_skip ?_; simp (maxSteps := 1000000) (disch := omega) [-List.getD_eq_getElem?_getD]
    refine hK1 _ ?_; clear hK1
    refine aw_reg fun K hK => ?_; simp (maxSteps := 1000000) (disch := omega) [-List.getD_eq_getElem?_getD, e0]
    refine hK _ ?_; clear hK K
    rw [show 1 + cls.length = (UInt8.ofNat k :: cls).length by simp; omega]
    generalize hX : UInt8.ofNat k :: cls = X at *
    have hXl : X.length ≤ 1001 := by rw [← hX]; simp; omega
    refine aw_draw [2, 6, 9] [0, 0, 0, 0, 0, 1, 1, 0, 0, 2, 3] [[], [], []] drawMixed (by kernel_rfl) (by kernel_rfl) fun K hK => ?_; simp (maxSteps := 1000000) (disch := omega) [-List.getD_eq_getElem?_getD, e1, el]
    refine dcall_is (tw1 _) rfl ?_; simp (maxSteps := 1000000) (disch := omega) [-List.getD_eq_getElem?_getD, ea, el, hW1]
    refine hK _ ?_; clear hK K
    rw [show X.length + 1 + 2 + dec.length = (X ++ 1 :: (W1 ++ dec)).length by simp [hW1]; omega]
    generalize hY : X ++ 1 :: (W1 ++ dec) = Y at *
    have hYl : Y.length ≤ 2004 := by rw [← hY]; simp [hW1]; omega
    refine aw_reg fun K hK => ?_; simp (maxSteps := 1000000) (disch := omega) [-List.getD_eq_getElem?_getD]
    refine acall_is (ck _) ?_; simp (maxSteps := 1000000) (disch := omega) [-List.getD_eq_getElem?_getD, e2, el]
    refine hK _ ?_; clear hK K
    refine aw_ret ?_; simp (maxSteps := 1000000) (disch := omega) [-List.getD_eq_getElem?_getD]
    subst hY
    subst hX
    subst hB
    simp [hW1]
end Go.Proofs.YtnmlpohhommagaaGreatDoor
