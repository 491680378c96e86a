/- The reference's two, IsClass, Within, Key, Ends (layer 52): the walks.
   Conditions: small parts. -/
import Derived.Test.YtnmlpohhommagaaGreatDoorCRef1
namespace Cn
open Go.Lib Lst
/-- A number as two bytes. -/
def twoF (u : Nat) : List UInt8 := [UInt8.ofNat (u / 256), UInt8.ofNat (u % 256)]
theorem keyF_two {c : Cl} (hv : validF c = true) : keyF c = UInt8.ofNat c.sch.toNat :: c.cls ++ [1] ++ twoF c.num.toNat ++ c.dec ++ [1] ++ keyC c.cut ++ [2] ++ twoF c.yr.toNat ++ c.rest := by
  unfold keyF begF twoF
  rw [if_pos hv]
  simp
theorem begF_two (c : Cl) : begF c = UInt8.ofNat c.sch.toNat :: c.cls ++ [1] ++ twoF c.num.toNat ++ c.dec := by
  unfold begF twoF
  simp
theorem pre_take (p s : List UInt8) : p.isPrefixOf s = (decide (p.length ≤ s.length) && decide (s.take p.length = p)) := by
  rw [Bool.eq_iff_iff, Bool.and_eq_true, decide_eq_true_eq, decide_eq_true_eq, List.isPrefixOf_iff_prefix]
  constructor
  · intro h
    exact ⟨h.length_le, (List.prefix_iff_eq_take.1 h).symm⟩
  · intro h
    exact List.prefix_iff_eq_take.2 h.2.symm
end Cn
namespace Go.Proofs.YtnmlpohhommagaaGreatDoor
open Go Go.Am Cn Lst
set_option linter.unusedVariables false

set_option maxRecDepth 100000 in
theorem twoR_ok (u : Nat) (hu : u ≤ 65535) (H : List Blk) (T : Toks) : ACall Tryz.prog 62 [.int .i64 (u : Nat)] H T (Is (.sl 2 (encB (twoF u)) .full) H T) := by
  have hw : IntKind.u8.wrap ((u : Int) / 256) = ((u / 256 : Nat) : Int) := by
    rw [wrapU8 (by omega) (by omega)]; omega
  have hw2 : IntKind.u8.wrap ((u : Int) % 256) = ((u % 256 : Nat) : Int) := by
    rw [wrapU8 (by omega) (by omega)]; omega
  have hd : (u : Int).tdiv 256 = ((u / 256 : Nat) : Int) := by rw [Int.tdiv_eq_ediv_of_nonneg (by omega)]; omega
  have hm : (u : Int).tmod 256 = ((u % 256 : Nat) : Int) := by rw [Int.tmod_eq_emod_of_nonneg (by omega)]; omega
  have hk : encB (twoF u) = [AV.int .u8 ((u / 256 : Nat) : Int), AV.int .u8 ((u % 256 : Nat) : Int)] := by
    unfold twoF encB
    simp only [List.map_cons, List.map_nil]
    rw [UInt8.toNat_ofNat', UInt8.toNat_ofNat', Nat.mod_eq_of_lt (by omega), Nat.mod_eq_of_lt (by omega)]
  rw [hk]
  refine acall_enter 3 [] Tryz.ntmps62 Tryz.func62 rfl (fun _ _ => Tryz.call62 _ _) (by simp) (fun HO => ?_)
  refine aw_reg fun K hK => ?_; simp (maxSteps := 1000000) (disch := omega) [-List.getD_eq_getElem?_getD]; refine hK _ ?_; clear hK K
  refine aw_reg fun K hK => ?_; simp (maxSteps := 1000000) (disch := omega) [-List.getD_eq_getElem?_getD, hd, hm, hw, hw2]; refine hK _ ?_; clear hK K
  refine aw_ret ?_; simp (maxSteps := 1000000) (disch := omega) [-List.getD_eq_getElem?_getD]
  exact ⟨rfl, rfl, rfl⟩

set_option maxRecDepth 100000 in
set_option maxHeartbeats 4000000 in
theorem classR_ok (c : Cl) (tg : Tag) (hc : Sm c) (H : List Blk) (T : Toks) :
    ACall Tryz.prog 61 [.agg (clAV c tg)] H T (Is (.bool (classF c)) H T) := by
  refine callCl1 tg ?_
  refine ACall.drop' ?_ (by simp)
  have cv := validR_ok c .none hc (H ++ [.cells (clAV c .none)]) T
  have hbS : ∀ n t, BelowAll n t (strs c.cut) := fun n t => by simp
  have hcu := hc.cut
  clear hc
  generalize hF : classF c = F
  unfold classF at hF
  generalize validF c = v at *
  obtain ⟨sch, cls, num, dec, cut, yr, rest⟩ := c
  simp only [clAV] at *
  generalize strs cut = S at *
  generalize cut.length = n at *
  have hn0 : ((n : Int) = 0) = (n = 0) := by simp
  cases g1 : v with
  | false =>
    rw [g1] at cv
    obtain rfl : F = false := by rw [← hF]; simp [g1]
    refine acall_enter 3 [] Tryz.ntmps61 Tryz.func61 rfl (fun _ _ => Tryz.call61 _ _) (by simp) (fun HO => ?_)
    refine aw_reg fun K hK => ?_; simp (maxSteps := 1000000) (disch := omega) [-List.getD_eq_getElem?_getD]; refine hK _ ?_; clear hK K
    refine aw_reg fun K hK => ?_; simp (maxSteps := 1000000) (disch := omega) [-List.getD_eq_getElem?_getD]
    refine acall_is (cv) ?_; simp (maxSteps := 1000000) (disch := omega) [-List.getD_eq_getElem?_getD]
    refine hK _ ?_; clear hK K
    refine aw_ret ?_; simp (maxSteps := 1000000) (disch := omega) [-List.getD_eq_getElem?_getD]
  | true =>
    rw [g1] at cv
    by_cases g2 : n = 0
    · subst g2
      by_cases g3 : yr = 0
      · subst g3
        by_cases g4 : rest = []
        · subst g4
          obtain rfl : F = true := by rw [← hF]; simp [g1]
          refine acall_enter 3 [] Tryz.ntmps61 Tryz.func61 rfl (fun _ _ => Tryz.call61 _ _) (by simp) (fun HO => ?_)
          refine aw_reg fun K hK => ?_; simp (maxSteps := 1000000) (disch := omega) [-List.getD_eq_getElem?_getD]; refine hK _ ?_; clear hK K
          refine aw_reg fun K hK => ?_; simp (maxSteps := 1000000) (disch := omega) [-List.getD_eq_getElem?_getD]
          refine acall_is (cv) ?_; simp (maxSteps := 1000000) (disch := omega) [-List.getD_eq_getElem?_getD]
          refine hK _ ?_; clear hK K
          refine aw_ret ?_; simp (maxSteps := 1000000) (disch := omega) [-List.getD_eq_getElem?_getD]
        · have b4 : (rest == []) = false := beq_eq_false_iff_ne.2 g4
          have b4n : (rest != []) = true := bne_iff_ne.2 g4
          obtain rfl : F = false := by rw [← hF]; simp [g1, g4]
          refine acall_enter 3 [] Tryz.ntmps61 Tryz.func61 rfl (fun _ _ => Tryz.call61 _ _) (by simp) (fun HO => ?_)
          refine aw_reg fun K hK => ?_; simp (maxSteps := 1000000) (disch := omega) [-List.getD_eq_getElem?_getD]; refine hK _ ?_; clear hK K
          refine aw_reg fun K hK => ?_; simp (maxSteps := 1000000) (disch := omega) [-List.getD_eq_getElem?_getD]
          refine acall_is (cv) ?_; simp (maxSteps := 1000000) (disch := omega) [-List.getD_eq_getElem?_getD, b4]
          refine hK _ ?_; clear hK K
          refine aw_ret ?_; simp (maxSteps := 1000000) (disch := omega) [-List.getD_eq_getElem?_getD]
      · have b3 : (yr == 0) = false := beq_eq_false_iff_ne.2 g3
        have b3n : (yr != 0) = true := bne_iff_ne.2 g3
        obtain rfl : F = false := by rw [← hF]; simp [g1, g3]
        refine acall_enter 3 [] Tryz.ntmps61 Tryz.func61 rfl (fun _ _ => Tryz.call61 _ _) (by simp) (fun HO => ?_)
        refine aw_reg fun K hK => ?_; simp (maxSteps := 1000000) (disch := omega) [-List.getD_eq_getElem?_getD]; refine hK _ ?_; clear hK K
        refine aw_reg fun K hK => ?_; simp (maxSteps := 1000000) (disch := omega) [-List.getD_eq_getElem?_getD]
        refine acall_is (cv) ?_; simp (maxSteps := 1000000) (disch := omega) [-List.getD_eq_getElem?_getD, b3]
        refine hK _ ?_; clear hK K
        refine aw_ret ?_; simp (maxSteps := 1000000) (disch := omega) [-List.getD_eq_getElem?_getD]
    · have b2 : ((n : Int) == 0) = false := beq_eq_false_iff_ne.2 (by omega)
      have b2n : ((n : Int) != 0) = true := bne_iff_ne.2 (by omega)
      obtain rfl : F = false := by rw [← hF]; simp [g1, g2]
      refine acall_enter 3 [] Tryz.ntmps61 Tryz.func61 rfl (fun _ _ => Tryz.call61 _ _) (by simp) (fun HO => ?_)
      refine aw_reg fun K hK => ?_; simp (maxSteps := 1000000) (disch := omega) [-List.getD_eq_getElem?_getD]; refine hK _ ?_; clear hK K
      refine aw_reg fun K hK => ?_; simp (maxSteps := 1000000) (disch := omega) [-List.getD_eq_getElem?_getD]
      refine acall_is (cv) ?_; simp (maxSteps := 1000000) (disch := omega) [-List.getD_eq_getElem?_getD, b2]
      refine hK _ ?_; clear hK K
      refine aw_ret ?_; simp (maxSteps := 1000000) (disch := omega) [-List.getD_eq_getElem?_getD]


set_option maxRecDepth 100000 in
set_option maxHeartbeats 4000000 in
theorem withinR_ok (a b : Cl) (t1 t2 : Tag) (ha : Sm a) (hb : Sm b) (H : List Blk) (T : Toks) :
    ACall Tryz.prog 27 [.agg (clAV a t1), .agg (clAV b t2)] H T (Is (.bool (withinF a b)) H T) := by
  refine callCl1 t1 (callCl2 t2 ?_)
  refine ACall.drop' ?_ (by simp)
  have c1 := validR_ok a .none ha (H ++ [.cells (clAV a .none), .cells (clAV b .none)]) T
  have c2 := classR_ok b .none hb (H ++ [.cells (clAV a .none), .cells (clAV b .none)]) T
  have hsa : ∀ n t, BelowAll n t (strs a.cut) := fun n t => by simp
  have hsb : ∀ n t, BelowAll n t (strs b.cut) := fun n t => by simp
  have hpre := pre_take b.dec a.dec
  have hda := ha.dec
  have hdb := hb.dec
  clear ha hb
  generalize hF : withinF a b = F
  unfold withinF at hF
  generalize validF a = v at *
  generalize classF b = w at *
  obtain ⟨s1, s2, s3, s4, s5, s6, s7⟩ := a
  obtain ⟨r1, r2, r3, r4, r5, r6, r7⟩ := b
  simp only [clAV] at *
  generalize r4.isPrefixOf s4 = pf at *
  generalize strs s5 = S at *
  generalize strs r5 = R at *
  cases g1 : v with
  | false =>
    rw [g1] at c1
    obtain rfl : F = false := by rw [← hF]; simp [g1]
    refine acall_enter 6 [] Tryz.ntmps27 Tryz.func27 rfl (fun _ _ => Tryz.call27 _ _) (by simp) (fun HO => ?_)
    refine aw_reg fun K hK => ?_; simp (maxSteps := 1000000) (disch := omega) [-List.getD_eq_getElem?_getD]; refine hK _ ?_; clear hK K
    refine aw_then fun K1 hK1 => ?_
    refine aw_reg fun K hK => ?_; simp (maxSteps := 1000000) (disch := omega) [-List.getD_eq_getElem?_getD]
    refine acall_is (c1) ?_; simp (maxSteps := 1000000) (disch := omega) [-List.getD_eq_getElem?_getD]
    refine hK _ ?_; clear hK K
    refine aw_if rfl (fun h => ?_) (fun h => absurd h (by simp []))
    refine aw_reg fun K hK => ?_; simp (maxSteps := 1000000) (disch := omega) [-List.getD_eq_getElem?_getD]; refine hK _ ?_; clear hK K
    refine aw_ret ?_; simp (maxSteps := 1000000) (disch := omega) [-List.getD_eq_getElem?_getD]
  | true =>
    rw [g1] at c1
    cases g2 : w with
    | false =>
      rw [g2] at c2
      obtain rfl : F = false := by rw [← hF]; simp [g1, g2]
      refine acall_enter 6 [] Tryz.ntmps27 Tryz.func27 rfl (fun _ _ => Tryz.call27 _ _) (by simp) (fun HO => ?_)
      refine aw_reg fun K hK => ?_; simp (maxSteps := 1000000) (disch := omega) [-List.getD_eq_getElem?_getD]; refine hK _ ?_; clear hK K
      refine aw_then fun K1 hK1 => ?_
      refine aw_reg fun K hK => ?_; simp (maxSteps := 1000000) (disch := omega) [-List.getD_eq_getElem?_getD]
      refine acall_is (c1) ?_; simp (maxSteps := 1000000) (disch := omega) [-List.getD_eq_getElem?_getD]
      refine acall_is (c2) ?_; simp (maxSteps := 1000000) (disch := omega) [-List.getD_eq_getElem?_getD]
      refine hK _ ?_; clear hK K
      refine aw_if rfl (fun h => ?_) (fun h => absurd h (by simp []))
      refine aw_reg fun K hK => ?_; simp (maxSteps := 1000000) (disch := omega) [-List.getD_eq_getElem?_getD]; refine hK _ ?_; clear hK K
      refine aw_ret ?_; simp (maxSteps := 1000000) (disch := omega) [-List.getD_eq_getElem?_getD]
    | true =>
      rw [g2] at c2
      rw [g1, g2] at hF
      simp only [Bool.true_and] at hF
      by_cases g3 : s1 = r1
      rotate_left
      · have b3 : (s1 == r1) = false := beq_eq_false_iff_ne.2 g3
        have b3n : (s1 != r1) = true := bne_iff_ne.2 g3
        obtain rfl : F = false := by rw [← hF]; simp [g3]
        refine acall_enter 6 [] Tryz.ntmps27 Tryz.func27 rfl (fun _ _ => Tryz.call27 _ _) (by simp) (fun HO => ?_)
        refine aw_reg fun K hK => ?_; simp (maxSteps := 1000000) (disch := omega) [-List.getD_eq_getElem?_getD]; refine hK _ ?_; clear hK K
        refine aw_then fun K1 hK1 => ?_
        refine aw_reg fun K hK => ?_; simp (maxSteps := 1000000) (disch := omega) [-List.getD_eq_getElem?_getD]
        refine acall_is (c1) ?_; simp (maxSteps := 1000000) (disch := omega) [-List.getD_eq_getElem?_getD]
        refine acall_is (c2) ?_; simp (maxSteps := 1000000) (disch := omega) [-List.getD_eq_getElem?_getD, b3n]
        refine hK _ ?_; clear hK K
        refine aw_if rfl (fun h => ?_) (fun h => absurd h (by simp [g3]))
        refine aw_reg fun K hK => ?_; simp (maxSteps := 1000000) (disch := omega) [-List.getD_eq_getElem?_getD]; refine hK _ ?_; clear hK K
        refine aw_ret ?_; simp (maxSteps := 1000000) (disch := omega) [-List.getD_eq_getElem?_getD]
      subst g3
      by_cases g4 : s2 = r2
      rotate_left
      · have b4 : (s2 == r2) = false := beq_eq_false_iff_ne.2 g4
        have b4n : (s2 != r2) = true := bne_iff_ne.2 g4
        obtain rfl : F = false := by rw [← hF]; simp [g4]
        refine acall_enter 6 [] Tryz.ntmps27 Tryz.func27 rfl (fun _ _ => Tryz.call27 _ _) (by simp) (fun HO => ?_)
        refine aw_reg fun K hK => ?_; simp (maxSteps := 1000000) (disch := omega) [-List.getD_eq_getElem?_getD]; refine hK _ ?_; clear hK K
        refine aw_then fun K1 hK1 => ?_
        refine aw_reg fun K hK => ?_; simp (maxSteps := 1000000) (disch := omega) [-List.getD_eq_getElem?_getD]
        refine acall_is (c1) ?_; simp (maxSteps := 1000000) (disch := omega) [-List.getD_eq_getElem?_getD]
        refine acall_is (c2) ?_; simp (maxSteps := 1000000) (disch := omega) [-List.getD_eq_getElem?_getD, b4]
        refine hK _ ?_; clear hK K
        refine aw_if rfl (fun h => ?_) (fun h => absurd h (by simp [g4]))
        refine aw_reg fun K hK => ?_; simp (maxSteps := 1000000) (disch := omega) [-List.getD_eq_getElem?_getD]; refine hK _ ?_; clear hK K
        refine aw_ret ?_; simp (maxSteps := 1000000) (disch := omega) [-List.getD_eq_getElem?_getD]
      subst g4
      by_cases g5 : s3 = r3
      rotate_left
      · have b5 : (s3 == r3) = false := beq_eq_false_iff_ne.2 g5
        have b5n : (s3 != r3) = true := bne_iff_ne.2 g5
        obtain rfl : F = false := by rw [← hF]; simp [g5]
        refine acall_enter 6 [] Tryz.ntmps27 Tryz.func27 rfl (fun _ _ => Tryz.call27 _ _) (by simp) (fun HO => ?_)
        refine aw_reg fun K hK => ?_; simp (maxSteps := 1000000) (disch := omega) [-List.getD_eq_getElem?_getD]; refine hK _ ?_; clear hK K
        refine aw_then fun K1 hK1 => ?_
        refine aw_reg fun K hK => ?_; simp (maxSteps := 1000000) (disch := omega) [-List.getD_eq_getElem?_getD]
        refine acall_is (c1) ?_; simp (maxSteps := 1000000) (disch := omega) [-List.getD_eq_getElem?_getD]
        refine acall_is (c2) ?_; simp (maxSteps := 1000000) (disch := omega) [-List.getD_eq_getElem?_getD, b5n]
        refine hK _ ?_; clear hK K
        refine aw_if rfl (fun h => ?_) (fun h => absurd h (by simp [g5]))
        refine aw_reg fun K hK => ?_; simp (maxSteps := 1000000) (disch := omega) [-List.getD_eq_getElem?_getD]; refine hK _ ?_; clear hK K
        refine aw_ret ?_; simp (maxSteps := 1000000) (disch := omega) [-List.getD_eq_getElem?_getD]
      subst g5
      simp only [decide_true, Bool.true_and] at hF
      by_cases g6 : r4.length ≤ s4.length
      · have n6 : decide ((s4.length : Int) ≥ (r4.length : Nat)) = true := decide_eq_true (by omega)
        have n7 : decide ((r4.length : Int) ≤ (s4.length : Nat)) = true := decide_eq_true (by omega)
        by_cases g7 : s4.take r4.length = r4
        · obtain rfl : F = true := by rw [← hF, hpre]; simp [g6, g7]
          have n8 : (s4.take r4.length == r4) = true := beq_iff_eq.2 g7
          refine acall_enter 6 [] Tryz.ntmps27 Tryz.func27 rfl (fun _ _ => Tryz.call27 _ _) (by simp) (fun HO => ?_)
          refine aw_reg fun K hK => ?_; simp (maxSteps := 1000000) (disch := omega) [-List.getD_eq_getElem?_getD]; refine hK _ ?_; clear hK K
          refine aw_then fun K1 hK1 => ?_
          refine aw_reg fun K hK => ?_; simp (maxSteps := 1000000) (disch := omega) [-List.getD_eq_getElem?_getD]
          refine acall_is (c1) ?_; simp (maxSteps := 1000000) (disch := omega) [-List.getD_eq_getElem?_getD]
          refine acall_is (c2) ?_; simp (maxSteps := 1000000) (disch := omega) [-List.getD_eq_getElem?_getD]
          refine hK _ ?_; clear hK K
          refine aw_if rfl (fun h => absurd h (by simp)) (fun h => ?_)
          refine aw_skip ?_; simp (maxSteps := 1000000) (disch := omega) [-List.getD_eq_getElem?_getD]
          refine hK1 _ ?_; clear hK1
          refine aw_reg fun K hK => ?_; simp (maxSteps := 1000000) (disch := omega) [-List.getD_eq_getElem?_getD]; refine hK _ ?_; clear hK K
          refine aw_draw [] [] [] drawMixed (by kernel_rfl) (by kernel_rfl) fun K hK => ?_; simp (maxSteps := 1000000) (disch := omega) [-List.getD_eq_getElem?_getD, g6, g7]
          refine hK _ ?_; clear hK K
          refine aw_ret ?_; simp (maxSteps := 1000000) (disch := omega) [-List.getD_eq_getElem?_getD]
        · obtain rfl : F = false := by rw [← hF, hpre]; simp [g6, g7]
          have n8 : (s4.take r4.length == r4) = false := beq_eq_false_iff_ne.2 g7
          refine acall_enter 6 [] Tryz.ntmps27 Tryz.func27 rfl (fun _ _ => Tryz.call27 _ _) (by simp) (fun HO => ?_)
          refine aw_reg fun K hK => ?_; simp (maxSteps := 1000000) (disch := omega) [-List.getD_eq_getElem?_getD]; refine hK _ ?_; clear hK K
          refine aw_then fun K1 hK1 => ?_
          refine aw_reg fun K hK => ?_; simp (maxSteps := 1000000) (disch := omega) [-List.getD_eq_getElem?_getD]
          refine acall_is (c1) ?_; simp (maxSteps := 1000000) (disch := omega) [-List.getD_eq_getElem?_getD]
          refine acall_is (c2) ?_; simp (maxSteps := 1000000) (disch := omega) [-List.getD_eq_getElem?_getD]
          refine hK _ ?_; clear hK K
          refine aw_if rfl (fun h => absurd h (by simp)) (fun h => ?_)
          refine aw_skip ?_; simp (maxSteps := 1000000) (disch := omega) [-List.getD_eq_getElem?_getD]
          refine hK1 _ ?_; clear hK1
          refine aw_reg fun K hK => ?_; simp (maxSteps := 1000000) (disch := omega) [-List.getD_eq_getElem?_getD]; refine hK _ ?_; clear hK K
          refine aw_draw [] [] [] drawMixed (by kernel_rfl) (by kernel_rfl) fun K hK => ?_; simp (maxSteps := 1000000) (disch := omega) [-List.getD_eq_getElem?_getD, g6, n8]
          refine hK _ ?_; clear hK K
          refine aw_ret ?_; simp (maxSteps := 1000000) (disch := omega) [-List.getD_eq_getElem?_getD]
      · obtain rfl : F = false := by rw [← hF, hpre]; simp [g6]
        have n6 : decide ((s4.length : Int) ≥ (r4.length : Nat)) = false := decide_eq_false (by omega)
        have n7 : decide ((r4.length : Int) ≤ (s4.length : Nat)) = false := decide_eq_false (by omega)
        refine acall_enter 6 [] Tryz.ntmps27 Tryz.func27 rfl (fun _ _ => Tryz.call27 _ _) (by simp) (fun HO => ?_)
        refine aw_reg fun K hK => ?_; simp (maxSteps := 1000000) (disch := omega) [-List.getD_eq_getElem?_getD]; refine hK _ ?_; clear hK K
        refine aw_then fun K1 hK1 => ?_
        refine aw_reg fun K hK => ?_; simp (maxSteps := 1000000) (disch := omega) [-List.getD_eq_getElem?_getD]
        refine acall_is (c1) ?_; simp (maxSteps := 1000000) (disch := omega) [-List.getD_eq_getElem?_getD]
        refine acall_is (c2) ?_; simp (maxSteps := 1000000) (disch := omega) [-List.getD_eq_getElem?_getD]
        refine hK _ ?_; clear hK K
        refine aw_if rfl (fun h => absurd h (by simp)) (fun h => ?_)
        refine aw_skip ?_; simp (maxSteps := 1000000) (disch := omega) [-List.getD_eq_getElem?_getD]
        refine hK1 _ ?_; clear hK1
        refine aw_reg fun K hK => ?_; simp (maxSteps := 1000000) (disch := omega) [-List.getD_eq_getElem?_getD]; refine hK _ ?_; clear hK K
        refine aw_draw [] [] [] drawMixed (by kernel_rfl) (by kernel_rfl) fun K hK => ?_; simp (maxSteps := 1000000) (disch := omega) [-List.getD_eq_getElem?_getD, g6]
        refine hK _ ?_; clear hK K
        refine aw_ret ?_; simp (maxSteps := 1000000) (disch := omega) [-List.getD_eq_getElem?_getD]
end Go.Proofs.YtnmlpohhommagaaGreatDoor
