/- The reference's Valid (layer 52).
   Conditions: small parts. -/
import Derived.Test.YtnmlpohhommagaaGreatDoorCFn5
namespace Go.Proofs.YtnmlpohhommagaaGreatDoor
open Go Go.Am Cn Lst
set_option linter.unusedVariables false
set_option maxRecDepth 100000

set_option maxRecDepth 100000 in
set_option maxHeartbeats 8000000 in
theorem validR_ok (c : Cl) (tg : Tag) (hc : Sm c) (H : List Blk) (T : Toks) :
    ACall Tryz.prog 12 [.agg (clAV c tg)] H T (Is (.bool (validF c)) H T) := by
  refine callCl1 tg ?_
  refine ACall.drop' ?_ (by simp)
  have hc1 := hc.cls
  have hc2 := hc.cut
  have hc3 := hc.each
  have hc4 := hc.dec
  have hc5 := hc.rest
  have cd := fracR_ok c.dec 8 (by omega) (by omega) (H ++ [.cells (clAV c .none)]) T
  rw [show ((8 : Nat) : Int) = 8 from rfl] at cd
  have cr := restR_ok c.rest (by omega) (H ++ [.cells (clAV c .none)]) T
  have hcap := fun x : UInt8 => capR_ok x (H ++ [.cells (clAV c .none)]) T
  have hcu := fun (x : List UInt8) (hx : x.length ≤ 1000000) => cutR_ok x hx (H ++ [.cells (clAV c .none)]) T
  generalize hF : validF c = F
  have hlen := strs_len c.cut
  have hat := fun i h => strs_at (l := c.cut) (i := i) h
  have hn := fun i h hp => allL_not (p := cutF) (l := c.cut) (i := i) h hp
  have hy := fun i h h1 hp => allL_take (p := cutF) (l := c.cut) (i := i) h h1 hp
  have hsm := fun i h => hc3 _ (memL (l := c.cut) (i := i) h)
  have hb : ∀ n t, BelowAll n t (strs c.cut) := fun n t => by simp
  clear hc hc3
  unfold validF at hF
  generalize hs : schF c = sv at *
  unfold schF at hs
  obtain ⟨sch, cls, num, dec, cut, yr, rest⟩ := c
  simp only [clAV] at *
  generalize strs cut = S at *
  generalize fracF dec 8 = dv at *
  generalize restF rest = rv at *
  refine acall_enter 44 [] Tryz.ntmps12 Tryz.func12 rfl (fun _ _ => Tryz.call12 _ _) (by simp) (fun HO => ?_)
  have HO1 : HOk (H ++ [.cells [.int .i64 sch, .str cls, .int .i64 num, .str dec, .sl cut.length S .none, .int .i64 yr, .str rest]]) T := HO.snoc (by simp [hb])
  refine aw_reg fun K hK => ?_; simp (maxSteps := 1000000) (disch := omega) [-List.getD_eq_getElem?_getD]; refine hK _ ?_; clear hK K
  refine aw_reg fun K hK => ?_; simp (maxSteps := 1000000) (disch := omega) [-List.getD_eq_getElem?_getD]; refine hK _ ?_; clear hK K
  refine aw_then fun K1 hK1 => ?_
  have fin : ∀ e (m : Nat), m ≤ 3 → sv = decide (cut.length ≤ m) → envLe (H.length + 1) T.length e [(1, .ptr H.length 0), (3, .int .i64 (m : Nat))] → K1 ⟨e, H ++ [.cells [.int .i64 sch, .str cls, .int .i64 num, .str dec, .sl cut.length S .none, .int .i64 yr, .str rest]], T⟩ := by
    intro e m hm hsv he
    refine hK1 _ (aw_weak ⟨[(1, .ptr H.length 0), (3, .int .i64 (m : Nat))], H ++ [.cells [.int .i64 sch, .str cls, .int .i64 num, .str dec, .sl cut.length S .none, .int .i64 yr, .str rest]], T⟩ (weak_to [] [] (by simp) (by simp) (by simp) (by simp) HO1 (by simpa using he)) ?_)
    rw [hsv] at hF
    clear hs hK1 hcap
    refine aw_then fun K2 hK2 => ?_
    refine aw_reg fun K hK => ?_; simp (maxSteps := 1000000) (disch := omega) [-List.getD_eq_getElem?_getD]; refine hK _ ?_; clear hK K
    refine aw_block ?_
    refine aw_loop (X := Nat) (fun i => ⟨[(1, .ptr H.length 0), (3, .int .i64 (m : Nat)), (5, .int .i64 (i : Nat))], H ++ [.cells [.int .i64 sch, .str cls, .int .i64 num, .str dec, .sl cut.length S .none, .int .i64 yr, .str rest]], T⟩) (fun i => i ≤ cut.length ∧ (cut.take i).all cutF = true) (fun i => cut.length - i) 0 ?_ ?_ ?_
    · exact ⟨Nat.zero_le _, rfl⟩
    · refine weak_to [] [] ?_ ?_ ?_ ?_ HO1 ?_
      all_goals simp
    · rintro i ⟨h1, h2⟩
      refine aw_then fun K3 hK3 => ?_
      refine aw_reg fun K hK => ?_; simp (maxSteps := 1000000) (disch := omega) [-List.getD_eq_getElem?_getD]; refine hK _ ?_; clear hK K
      refine aw_if rfl (fun hk => ?_) (fun hk => ?_)
      · simp [-List.getD_eq_getElem?_getD] at hk
        have ha := hat i hk
        have hn := hn i hk
        have hy := hy i hk h2
        have hiS : i < S.length := by omega
        have hxl := hsm i hk
        refine aw_skip ?_; simp (maxSteps := 1000000) (disch := omega) [-List.getD_eq_getElem?_getD]
        refine hK3 _ ?_; clear hK3
        refine aw_then fun K4 hK4 => ?_
        refine aw_block ?_
        generalize cut.getD i [] = x at *
        have c1 := hcu x (by omega)
        cases hx : cutF x with
        | false =>
          rw [hx] at c1
          have hn := hn hx
          obtain rfl : F = false := by rw [← hF, hn]; simp
          refine aw_reg fun K hK => ?_; simp (maxSteps := 1000000) (disch := omega) [-List.getD_eq_getElem?_getD, ha, hlen]
          refine acall_is (c1) ?_; simp (maxSteps := 1000000) (disch := omega) [-List.getD_eq_getElem?_getD]
          refine hK _ ?_; clear hK K
          refine aw_if rfl (fun h => ?_) (fun h => absurd h (by simp))
          refine aw_reg fun K hK => ?_; simp (maxSteps := 1000000) (disch := omega) [-List.getD_eq_getElem?_getD]; refine hK _ ?_; clear hK K
          refine aw_ret ?_; simp (maxSteps := 1000000) (disch := omega) [-List.getD_eq_getElem?_getD]
        | true =>
          rw [hx] at c1
          have hy := hy hx
          refine aw_reg fun K hK => ?_; simp (maxSteps := 1000000) (disch := omega) [-List.getD_eq_getElem?_getD, ha, hlen]
          refine acall_is (c1) ?_; simp (maxSteps := 1000000) (disch := omega) [-List.getD_eq_getElem?_getD]
          refine hK _ ?_; clear hK K
          refine aw_if rfl (fun h => absurd h (by simp)) (fun h => ?_)
          refine aw_skip ?_; simp (maxSteps := 1000000) (disch := omega) [-List.getD_eq_getElem?_getD]
          refine hK4 _ ?_; clear hK4
          refine aw_reg0 fun K hK => ?_; simp (maxSteps := 1000000) (disch := omega) [-List.getD_eq_getElem?_getD]
          refine hK _ ?_; clear hK K
          refine ⟨i + 1, ⟨by show i + 1 ≤ _; omega, hy⟩, by show cut.length - (i + 1) < cut.length - i; omega, ?_⟩
          refine weak_to [] [] ?_ ?_ ?_ ?_ HO1 ?_
          all_goals simp
      · simp [-List.getD_eq_getElem?_getD] at hk
        have e : i = cut.length := by omega
        subst e
        rw [List.take_length] at h2
        rw [h2, Bool.true_and] at hF
        clear hat hn hy hsm hcu
        refine aw_exit ?_; simp (maxSteps := 1000000) (disch := omega) [-List.getD_eq_getElem?_getD]
        refine hK2 _ ?_; clear hK2
        by_cases g1 : cut.length ≤ m
        · have b1 : decide (((cut.length : Nat) : Int) ≤ ((m : Nat) : Int)) = true := decide_eq_true (by omega)
          have b1' : decide (((m : Nat) : Int) < ((cut.length : Nat) : Int)) = false := decide_eq_false (by omega)
          have b1c : decide (((m : Nat) : Int) ≥ ((cut.length : Nat) : Int)) = true := decide_eq_true (by omega)
          have b1d : decide (((cut.length : Nat) : Int) > ((m : Nat) : Int)) = false := decide_eq_false (by omega)
          have n1 : ¬ m < cut.length := by omega
          cases g2 : dv with
          | false =>
            rw [g2] at cd
            obtain rfl : F = false := by rw [← hF]; simp [yrF, g1, g2]
            refine aw_reg fun K hK => ?_; simp (maxSteps := 1000000) (disch := omega) [-List.getD_eq_getElem?_getD, g1]
            refine acall_is (cd) ?_; simp (maxSteps := 1000000) (disch := omega) [-List.getD_eq_getElem?_getD]
            refine hK _ ?_; clear hK K
            refine aw_ret ?_; simp (maxSteps := 1000000) (disch := omega) [-List.getD_eq_getElem?_getD]
          | true =>
            rw [g2] at cd
            by_cases g3 : yr = 0
            · subst g3
              cases g9 : rv with
              | false =>
                rw [g9] at cr
                obtain rfl : F = false := by rw [← hF]; simp [yrF, g1, g2, g9]
                refine aw_reg fun K hK => ?_; simp (maxSteps := 1000000) (disch := omega) [-List.getD_eq_getElem?_getD, g1]
                refine acall_is (cd) ?_; simp (maxSteps := 1000000) (disch := omega) [-List.getD_eq_getElem?_getD]
                refine acall_is (cr) ?_; simp (maxSteps := 1000000) (disch := omega) [-List.getD_eq_getElem?_getD]
                refine hK _ ?_; clear hK K
                refine aw_ret ?_; simp (maxSteps := 1000000) (disch := omega) [-List.getD_eq_getElem?_getD]
              | true =>
                rw [g9] at cr
                obtain rfl : F = true := by rw [← hF]; simp [yrF, g1, g2, g9]
                refine aw_reg fun K hK => ?_; simp (maxSteps := 1000000) (disch := omega) [-List.getD_eq_getElem?_getD, g1]
                refine acall_is (cd) ?_; simp (maxSteps := 1000000) (disch := omega) [-List.getD_eq_getElem?_getD]
                refine acall_is (cr) ?_; simp (maxSteps := 1000000) (disch := omega) [-List.getD_eq_getElem?_getD]
                refine hK _ ?_; clear hK K
                refine aw_ret ?_; simp (maxSteps := 1000000) (disch := omega) [-List.getD_eq_getElem?_getD]
            · have b3 : (yr == 0) = false := beq_eq_false_iff_ne.2 g3
              have b3n : (yr != 0) = true := bne_iff_ne.2 g3
              by_cases g4 : 1000 ≤ yr
              · have b4 : decide ((1000 : Int) ≤ (yr : Int)) = true := decide_eq_true (by omega)
                have b4' : decide ((yr : Int) < (1000 : Int)) = false := decide_eq_false (by omega)
                have b4c : decide ((yr : Int) ≥ (1000 : Int)) = true := decide_eq_true (by omega)
                have b4d : decide ((1000 : Int) > (yr : Int)) = false := decide_eq_false (by omega)
                have n4 : ¬ yr < 1000 := by omega
                by_cases g5 : yr ≤ 2999
                · have b5 : decide ((yr : Int) ≤ (2999 : Int)) = true := decide_eq_true (by omega)
                  have b5' : decide ((2999 : Int) < (yr : Int)) = false := decide_eq_false (by omega)
                  have b5c : decide ((2999 : Int) ≥ (yr : Int)) = true := decide_eq_true (by omega)
                  have b5d : decide ((yr : Int) > (2999 : Int)) = false := decide_eq_false (by omega)
                  have n5 : ¬ 2999 < yr := by omega
                  cases g9 : rv with
                  | false =>
                    rw [g9] at cr
                    obtain rfl : F = false := by rw [← hF]; simp [yrF, g1, g2, g3, g4, g5, g9]
                    refine aw_reg fun K hK => ?_; simp (maxSteps := 1000000) (disch := omega) [-List.getD_eq_getElem?_getD, g1]
                    refine acall_is (cd) ?_; simp (maxSteps := 1000000) (disch := omega) [-List.getD_eq_getElem?_getD, b3, g4, g5]
                    refine acall_is (cr) ?_; simp (maxSteps := 1000000) (disch := omega) [-List.getD_eq_getElem?_getD]
                    refine hK _ ?_; clear hK K
                    refine aw_ret ?_; simp (maxSteps := 1000000) (disch := omega) [-List.getD_eq_getElem?_getD]
                  | true =>
                    rw [g9] at cr
                    obtain rfl : F = true := by rw [← hF]; simp [yrF, g1, g2, g3, g4, g5, g9]
                    refine aw_reg fun K hK => ?_; simp (maxSteps := 1000000) (disch := omega) [-List.getD_eq_getElem?_getD, g1]
                    refine acall_is (cd) ?_; simp (maxSteps := 1000000) (disch := omega) [-List.getD_eq_getElem?_getD, b3, g4, g5]
                    refine acall_is (cr) ?_; simp (maxSteps := 1000000) (disch := omega) [-List.getD_eq_getElem?_getD]
                    refine hK _ ?_; clear hK K
                    refine aw_ret ?_; simp (maxSteps := 1000000) (disch := omega) [-List.getD_eq_getElem?_getD]
                · have b5 : decide ((yr : Int) ≤ (2999 : Int)) = false := decide_eq_false (by omega)
                  have b5' : decide ((2999 : Int) < (yr : Int)) = true := decide_eq_true (by omega)
                  have b5c : decide ((2999 : Int) ≥ (yr : Int)) = false := decide_eq_false (by omega)
                  have b5d : decide ((yr : Int) > (2999 : Int)) = true := decide_eq_true (by omega)
                  have n5 : 2999 < yr := by omega
                  obtain rfl : F = false := by rw [← hF]; simp [yrF, g1, g2, g3, g4, g5]
                  refine aw_reg fun K hK => ?_; simp (maxSteps := 1000000) (disch := omega) [-List.getD_eq_getElem?_getD, g1]
                  refine acall_is (cd) ?_; simp (maxSteps := 1000000) (disch := omega) [-List.getD_eq_getElem?_getD, b3, g4, g5]
                  refine hK _ ?_; clear hK K
                  refine aw_ret ?_; simp (maxSteps := 1000000) (disch := omega) [-List.getD_eq_getElem?_getD]
              · have b4 : decide ((1000 : Int) ≤ (yr : Int)) = false := decide_eq_false (by omega)
                have b4' : decide ((yr : Int) < (1000 : Int)) = true := decide_eq_true (by omega)
                have b4c : decide ((yr : Int) ≥ (1000 : Int)) = false := decide_eq_false (by omega)
                have b4d : decide ((1000 : Int) > (yr : Int)) = true := decide_eq_true (by omega)
                have n4 : yr < 1000 := by omega
                obtain rfl : F = false := by rw [← hF]; simp [yrF, g1, g2, g3, g4]
                refine aw_reg fun K hK => ?_; simp (maxSteps := 1000000) (disch := omega) [-List.getD_eq_getElem?_getD, g1]
                refine acall_is (cd) ?_; simp (maxSteps := 1000000) (disch := omega) [-List.getD_eq_getElem?_getD, b3, g4]
                refine hK _ ?_; clear hK K
                refine aw_ret ?_; simp (maxSteps := 1000000) (disch := omega) [-List.getD_eq_getElem?_getD]
        · have b1 : decide (((cut.length : Nat) : Int) ≤ ((m : Nat) : Int)) = false := decide_eq_false (by omega)
          have b1' : decide (((m : Nat) : Int) < ((cut.length : Nat) : Int)) = true := decide_eq_true (by omega)
          have b1c : decide (((m : Nat) : Int) ≥ ((cut.length : Nat) : Int)) = false := decide_eq_false (by omega)
          have b1d : decide (((cut.length : Nat) : Int) > ((m : Nat) : Int)) = true := decide_eq_true (by omega)
          have n1 : m < cut.length := by omega
          obtain rfl : F = false := by rw [← hF]; simp [yrF, g1]
          refine aw_reg fun K hK => ?_; simp (maxSteps := 1000000) (disch := omega) [-List.getD_eq_getElem?_getD, g1]; refine hK _ ?_; clear hK K
          refine aw_ret ?_; simp (maxSteps := 1000000) (disch := omega) [-List.getD_eq_getElem?_getD]
  clear hat hn hy hsm hcu cd cr
  refine aw_reg fun K hK => ?_; simp (maxSteps := 1000000) (disch := omega) [-List.getD_eq_getElem?_getD]; refine hK _ ?_; clear hK K
  refine aw_block ?_
  by_cases hs1 : sch = 1
  · subst hs1
    rw [if_pos rfl] at hs
    refine aw_reg fun K hK => ?_; simp (maxSteps := 1000000) (disch := omega) [-List.getD_eq_getElem?_getD]; refine hK _ ?_; clear hK K
    refine aw_if rfl (fun h => ?_) (fun h => absurd h (by simp))
    refine aw_then fun K2 hK2 => ?_
    refine aw_reg fun K hK => ?_; simp (maxSteps := 1000000) (disch := omega) [-List.getD_eq_getElem?_getD]; refine hK _ ?_; clear hK K
    refine aw_block ?_
    have hn := fun i h hp => all_not (p := isC) (s := cls) (i := i) h hp
    have hy := fun i h h1 hp => all_take (p := isC) (s := cls) (i := i) h h1 hp
    refine aw_loop (X := Nat) (fun i => ⟨[(1, .ptr H.length 0), (3, .int .i64 3), (4, .int .i64 (i : Nat))], H ++ [.cells [.int .i64 1, .str cls, .int .i64 num, .str dec, .sl cut.length S .none, .int .i64 yr, .str rest]], T⟩) (fun i => i ≤ cls.length ∧ (cls.take i).all isC = true) (fun i => cls.length - i) 0 ?_ ?_ ?_
    · exact ⟨Nat.zero_le _, rfl⟩
    · refine weak_to [] [] ?_ ?_ ?_ ?_ HO1 ?_
      all_goals simp
    · rintro i ⟨h1, h2⟩
      refine aw_then fun K3 hK3 => ?_
      refine aw_reg fun K hK => ?_; simp (maxSteps := 1000000) (disch := omega) [-List.getD_eq_getElem?_getD]; refine hK _ ?_; clear hK K
      refine aw_if rfl (fun hk => ?_) (fun hk => ?_)
      · simp [-List.getD_eq_getElem?_getD] at hk
        have hn := hn i hk
        have hy := hy i hk h2
        have c1 := hcap (cls.getD i 0)
        refine aw_skip ?_; simp (maxSteps := 1000000) (disch := omega) [-List.getD_eq_getElem?_getD]
        refine hK3 _ ?_; clear hK3
        refine aw_then fun K4 hK4 => ?_
        refine aw_block ?_
        generalize hgc : cls.getD i 0 = ch at *
        cases hx : isC ch with
        | false =>
          rw [hx] at c1
          have hn := hn hx
          obtain rfl : F = false := by rw [← hF, ← hs, hn]; simp
          refine aw_reg fun K hK => ?_; simp (maxSteps := 1000000) (disch := omega) [-List.getD_eq_getElem?_getD, hk, hgc]
          refine acall_is (c1) ?_; simp (maxSteps := 1000000) (disch := omega) [-List.getD_eq_getElem?_getD]
          refine hK _ ?_; clear hK K
          refine aw_if rfl (fun h => ?_) (fun h => absurd h (by simp))
          refine aw_reg fun K hK => ?_; simp (maxSteps := 1000000) (disch := omega) [-List.getD_eq_getElem?_getD]; refine hK _ ?_; clear hK K
          refine aw_ret ?_; simp (maxSteps := 1000000) (disch := omega) [-List.getD_eq_getElem?_getD]
        | true =>
          rw [hx] at c1
          have hy := hy hx
          refine aw_reg fun K hK => ?_; simp (maxSteps := 1000000) (disch := omega) [-List.getD_eq_getElem?_getD, hk, hgc]
          refine acall_is (c1) ?_; simp (maxSteps := 1000000) (disch := omega) [-List.getD_eq_getElem?_getD]
          refine hK _ ?_; clear hK K
          refine aw_if rfl (fun h => absurd h (by simp)) (fun h => ?_)
          refine aw_skip ?_; simp (maxSteps := 1000000) (disch := omega) [-List.getD_eq_getElem?_getD]
          refine hK4 _ ?_; clear hK4
          refine aw_reg0 fun K hK => ?_; simp (maxSteps := 1000000) (disch := omega) [-List.getD_eq_getElem?_getD]
          refine hK _ ?_; clear hK K
          refine ⟨i + 1, ⟨by show i + 1 ≤ _; omega, hy⟩, by show cls.length - (i + 1) < cls.length - i; omega, ?_⟩
          refine weak_to [] [] ?_ ?_ ?_ ?_ HO1 ?_
          all_goals simp
      · simp [-List.getD_eq_getElem?_getD] at hk
        have e : i = cls.length := by omega
        subst e
        rw [List.take_length] at h2
        rw [h2] at hs
        clear hn hy hcap
        refine aw_exit ?_; simp (maxSteps := 1000000) (disch := omega) [-List.getD_eq_getElem?_getD]
        refine hK2 _ ?_; clear hK2
        by_cases g1 : 1 ≤ cls.length
        · have b1 : decide ((1 : Int) ≤ ((cls.length : Nat) : Int)) = true := decide_eq_true (by omega)
          have b1' : decide (((cls.length : Nat) : Int) < (1 : Int)) = false := decide_eq_false (by omega)
          have b1c : decide (((cls.length : Nat) : Int) ≥ (1 : Int)) = true := decide_eq_true (by omega)
          have b1d : decide ((1 : Int) > ((cls.length : Nat) : Int)) = false := decide_eq_false (by omega)
          have n1 : ¬ cls.length < 1 := by omega
          by_cases g2 : cls.length ≤ 3
          · have b2 : decide (((cls.length : Nat) : Int) ≤ (3 : Int)) = true := decide_eq_true (by omega)
            have b2' : decide ((3 : Int) < ((cls.length : Nat) : Int)) = false := decide_eq_false (by omega)
            have b2c : decide ((3 : Int) ≥ ((cls.length : Nat) : Int)) = true := decide_eq_true (by omega)
            have b2d : decide (((cls.length : Nat) : Int) > (3 : Int)) = false := decide_eq_false (by omega)
            have n2 : ¬ 3 < cls.length := by omega
            by_cases g3 : 1 ≤ num
            · have b3 : decide ((1 : Int) ≤ (num : Int)) = true := decide_eq_true (by omega)
              have b3' : decide ((num : Int) < (1 : Int)) = false := decide_eq_false (by omega)
              have b3c : decide ((num : Int) ≥ (1 : Int)) = true := decide_eq_true (by omega)
              have b3d : decide ((1 : Int) > (num : Int)) = false := decide_eq_false (by omega)
              have n3 : ¬ num < 1 := by omega
              by_cases g4 : num ≤ 9999
              · have b4 : decide ((num : Int) ≤ (9999 : Int)) = true := decide_eq_true (by omega)
                have b4' : decide ((9999 : Int) < (num : Int)) = false := decide_eq_false (by omega)
                have b4c : decide ((9999 : Int) ≥ (num : Int)) = true := decide_eq_true (by omega)
                have b4d : decide ((num : Int) > (9999 : Int)) = false := decide_eq_false (by omega)
                have n4 : ¬ 9999 < num := by omega
                have hsv : sv = decide (cut.length ≤ 3) := by rw [← hs]; simp [g1, g2, g3, g4]
                refine aw_reg fun K hK => ?_; simp (maxSteps := 1000000) (disch := omega) [-List.getD_eq_getElem?_getD, b1', b2', n3, n4]; refine hK _ ?_; clear hK K
                refine aw_if rfl (fun h => absurd h (by simp)) (fun h => ?_)
                refine aw_skip ?_; simp (maxSteps := 1000000) (disch := omega) [-List.getD_eq_getElem?_getD]
                refine fin _ 3 (Nat.le_refl _) hsv ?_
                simp
              · have b4 : decide ((num : Int) ≤ (9999 : Int)) = false := decide_eq_false (by omega)
                have b4' : decide ((9999 : Int) < (num : Int)) = true := decide_eq_true (by omega)
                have b4c : decide ((9999 : Int) ≥ (num : Int)) = false := decide_eq_false (by omega)
                have b4d : decide ((num : Int) > (9999 : Int)) = true := decide_eq_true (by omega)
                have n4 : 9999 < num := by omega
                obtain rfl : F = false := by rw [← hF, ← hs]; simp [g1, g2, g3, g4]
                refine aw_reg fun K hK => ?_; simp (maxSteps := 1000000) (disch := omega) [-List.getD_eq_getElem?_getD, b1', b2', n3, n4]; refine hK _ ?_; clear hK K
                refine aw_if rfl (fun h => ?_) (fun h => absurd h (by simp))
                refine aw_reg fun K hK => ?_; simp (maxSteps := 1000000) (disch := omega) [-List.getD_eq_getElem?_getD]; refine hK _ ?_; clear hK K
                refine aw_ret ?_; simp (maxSteps := 1000000) (disch := omega) [-List.getD_eq_getElem?_getD]
            · have b3 : decide ((1 : Int) ≤ (num : Int)) = false := decide_eq_false (by omega)
              have b3' : decide ((num : Int) < (1 : Int)) = true := decide_eq_true (by omega)
              have b3c : decide ((num : Int) ≥ (1 : Int)) = false := decide_eq_false (by omega)
              have b3d : decide ((1 : Int) > (num : Int)) = true := decide_eq_true (by omega)
              have n3 : num < 1 := by omega
              obtain rfl : F = false := by rw [← hF, ← hs]; simp [g1, g2, g3]
              refine aw_reg fun K hK => ?_; simp (maxSteps := 1000000) (disch := omega) [-List.getD_eq_getElem?_getD, b1', b2', n3]; refine hK _ ?_; clear hK K
              refine aw_if rfl (fun h => ?_) (fun h => absurd h (by simp))
              refine aw_reg fun K hK => ?_; simp (maxSteps := 1000000) (disch := omega) [-List.getD_eq_getElem?_getD]; refine hK _ ?_; clear hK K
              refine aw_ret ?_; simp (maxSteps := 1000000) (disch := omega) [-List.getD_eq_getElem?_getD]
          · have b2 : decide (((cls.length : Nat) : Int) ≤ (3 : Int)) = false := decide_eq_false (by omega)
            have b2' : decide ((3 : Int) < ((cls.length : Nat) : Int)) = true := decide_eq_true (by omega)
            have b2c : decide ((3 : Int) ≥ ((cls.length : Nat) : Int)) = false := decide_eq_false (by omega)
            have b2d : decide (((cls.length : Nat) : Int) > (3 : Int)) = true := decide_eq_true (by omega)
            have n2 : 3 < cls.length := by omega
            obtain rfl : F = false := by rw [← hF, ← hs]; simp [g1, g2]
            refine aw_reg fun K hK => ?_; simp (maxSteps := 1000000) (disch := omega) [-List.getD_eq_getElem?_getD, b1', b2']; refine hK _ ?_; clear hK K
            refine aw_if rfl (fun h => ?_) (fun h => absurd h (by simp))
            refine aw_reg fun K hK => ?_; simp (maxSteps := 1000000) (disch := omega) [-List.getD_eq_getElem?_getD]; refine hK _ ?_; clear hK K
            refine aw_ret ?_; simp (maxSteps := 1000000) (disch := omega) [-List.getD_eq_getElem?_getD]
        · have b1 : decide ((1 : Int) ≤ ((cls.length : Nat) : Int)) = false := decide_eq_false (by omega)
          have b1' : decide (((cls.length : Nat) : Int) < (1 : Int)) = true := decide_eq_true (by omega)
          have b1c : decide (((cls.length : Nat) : Int) ≥ (1 : Int)) = false := decide_eq_false (by omega)
          have b1d : decide ((1 : Int) > ((cls.length : Nat) : Int)) = true := decide_eq_true (by omega)
          have n1 : cls.length < 1 := by omega
          obtain rfl : F = false := by rw [← hF, ← hs]; simp [g1]
          refine aw_reg fun K hK => ?_; simp (maxSteps := 1000000) (disch := omega) [-List.getD_eq_getElem?_getD, b1']; refine hK _ ?_; clear hK K
          refine aw_if rfl (fun h => ?_) (fun h => absurd h (by simp))
          refine aw_reg fun K hK => ?_; simp (maxSteps := 1000000) (disch := omega) [-List.getD_eq_getElem?_getD]; refine hK _ ?_; clear hK K
          refine aw_ret ?_; simp (maxSteps := 1000000) (disch := omega) [-List.getD_eq_getElem?_getD]
  · rw [if_neg hs1] at hs
    have b1 : (sch == 1) = false := beq_eq_false_iff_ne.2 hs1
    refine aw_reg fun K hK => ?_; simp (maxSteps := 1000000) (disch := omega) [-List.getD_eq_getElem?_getD, b1]; refine hK _ ?_; clear hK K
    refine aw_if rfl (fun h => absurd h (by simp)) (fun h => ?_)
    by_cases hs2 : sch = 2
    · subst hs2
      rw [if_pos rfl] at hs
      refine aw_reg fun K hK => ?_; simp (maxSteps := 1000000) (disch := omega) [-List.getD_eq_getElem?_getD]; refine hK _ ?_; clear hK K
      refine aw_if rfl (fun h => ?_) (fun h => absurd h (by simp))
      refine aw_then fun K2 hK2 => ?_
      by_cases g1 : cls = []
      · subst g1
        by_cases g2 : 0 ≤ num
        · have b2 : decide ((0 : Int) ≤ (num : Int)) = true := decide_eq_true (by omega)
          have b2' : decide ((num : Int) < (0 : Int)) = false := decide_eq_false (by omega)
          have b2c : decide ((num : Int) ≥ (0 : Int)) = true := decide_eq_true (by omega)
          have b2d : decide ((0 : Int) > (num : Int)) = false := decide_eq_false (by omega)
          have n2 : ¬ num < 0 := by omega
          by_cases g3 : num ≤ 999
          · have b3 : decide ((num : Int) ≤ (999 : Int)) = true := decide_eq_true (by omega)
            have b3' : decide ((999 : Int) < (num : Int)) = false := decide_eq_false (by omega)
            have b3c : decide ((999 : Int) ≥ (num : Int)) = true := decide_eq_true (by omega)
            have b3d : decide ((num : Int) > (999 : Int)) = false := decide_eq_false (by omega)
            have n3 : ¬ 999 < num := by omega
            have hsv : sv = decide (cut.length ≤ 1) := by rw [← hs]; simp [g2, g3]
            refine aw_reg fun K hK => ?_; simp (maxSteps := 1000000) (disch := omega) [-List.getD_eq_getElem?_getD, n2, n3]; refine hK _ ?_; clear hK K
            refine aw_if rfl (fun h => absurd h (by simp)) (fun h => ?_)
            refine aw_skip ?_; simp (maxSteps := 1000000) (disch := omega) [-List.getD_eq_getElem?_getD]
            refine hK2 _ ?_; clear hK2
            refine aw_reg0 fun K hK => ?_; simp (maxSteps := 1000000) (disch := omega) [-List.getD_eq_getElem?_getD]
            refine hK _ ?_; clear hK K
            refine fin _ 1 (by omega) hsv ?_
            simp
          · have b3 : decide ((num : Int) ≤ (999 : Int)) = false := decide_eq_false (by omega)
            have b3' : decide ((999 : Int) < (num : Int)) = true := decide_eq_true (by omega)
            have b3c : decide ((999 : Int) ≥ (num : Int)) = false := decide_eq_false (by omega)
            have b3d : decide ((num : Int) > (999 : Int)) = true := decide_eq_true (by omega)
            have n3 : 999 < num := by omega
            obtain rfl : F = false := by rw [← hF, ← hs]; simp [g2, g3]
            refine aw_reg fun K hK => ?_; simp (maxSteps := 1000000) (disch := omega) [-List.getD_eq_getElem?_getD, n2, n3]; refine hK _ ?_; clear hK K
            refine aw_if rfl (fun h => ?_) (fun h => absurd h (by simp))
            refine aw_reg fun K hK => ?_; simp (maxSteps := 1000000) (disch := omega) [-List.getD_eq_getElem?_getD]; refine hK _ ?_; clear hK K
            refine aw_ret ?_; simp (maxSteps := 1000000) (disch := omega) [-List.getD_eq_getElem?_getD]
        · have b2 : decide ((0 : Int) ≤ (num : Int)) = false := decide_eq_false (by omega)
          have b2' : decide ((num : Int) < (0 : Int)) = true := decide_eq_true (by omega)
          have b2c : decide ((num : Int) ≥ (0 : Int)) = false := decide_eq_false (by omega)
          have b2d : decide ((0 : Int) > (num : Int)) = true := decide_eq_true (by omega)
          have n2 : num < 0 := by omega
          obtain rfl : F = false := by rw [← hF, ← hs]; simp [g2]
          refine aw_reg fun K hK => ?_; simp (maxSteps := 1000000) (disch := omega) [-List.getD_eq_getElem?_getD, n2]; refine hK _ ?_; clear hK K
          refine aw_if rfl (fun h => ?_) (fun h => absurd h (by simp))
          refine aw_reg fun K hK => ?_; simp (maxSteps := 1000000) (disch := omega) [-List.getD_eq_getElem?_getD]; refine hK _ ?_; clear hK K
          refine aw_ret ?_; simp (maxSteps := 1000000) (disch := omega) [-List.getD_eq_getElem?_getD]
      · have b1 : (cls == []) = false := beq_eq_false_iff_ne.2 g1
        have b1n : (cls != []) = true := bne_iff_ne.2 g1
        obtain rfl : F = false := by rw [← hF, ← hs]; simp [g1]
        refine aw_reg fun K hK => ?_; simp (maxSteps := 1000000) (disch := omega) [-List.getD_eq_getElem?_getD, b1]; refine hK _ ?_; clear hK K
        refine aw_if rfl (fun h => ?_) (fun h => absurd h (by simp))
        refine aw_reg fun K hK => ?_; simp (maxSteps := 1000000) (disch := omega) [-List.getD_eq_getElem?_getD]; refine hK _ ?_; clear hK K
        refine aw_ret ?_; simp (maxSteps := 1000000) (disch := omega) [-List.getD_eq_getElem?_getD]
    · have b2 : (sch == 2) = false := beq_eq_false_iff_ne.2 hs2
      rw [if_neg hs2] at hs
      obtain rfl : F = false := by rw [← hF, ← hs]; simp
      refine aw_reg fun K hK => ?_; simp (maxSteps := 1000000) (disch := omega) [-List.getD_eq_getElem?_getD, b2]; refine hK _ ?_; clear hK K
      refine aw_if rfl (fun h => absurd h (by simp)) (fun h => ?_)
      refine aw_reg fun K hK => ?_; simp (maxSteps := 1000000) (disch := omega) [-List.getD_eq_getElem?_getD]; refine hK _ ?_; clear hK K
      refine aw_ret ?_; simp (maxSteps := 1000000) (disch := omega) [-List.getD_eq_getElem?_getD]
end Go.Proofs.YtnmlpohhommagaaGreatDoor
