/- FromKey (layer 52): the program's walk at bytes that are no key.
   Conditions: at most 900 bytes. -/
import Derived.Test.YtnmlpohhommagaaGreatDoorCG
namespace Go.Proofs.YtnmlpohhommagaaGreatDoor
open Go Go.Am Cn Lst
set_option linter.unusedVariables false

set_option maxRecDepth 100000 in
set_option maxHeartbeats 8000000 in
theorem fromP_no (b : List UInt8) (hb : b.length ≤ 900) (hno : ∀ c, validF c = true → keyF c ≠ b) (tg : Tag) (H : List Blk) (T : Toks) :
    ACall Tryz.prog 30 [.sl b.length (encB b) tg] H T (Is (.tup [.agg (clAV zeroC .none), .int .i64 5]) H T) := by
  refine ACall.untag1 ?_
  refine ACall.dropTA ?_ (by simp [clAV, zeroC])
  show ACall _ _ [.sl b.length (encB b) .none] _ _ _
  match b, hb, hno with
  | [], hb, hno =>
    refine acall_enter 6 [] Tryz.ntmps30 Tryz.func30 rfl (fun _ _ => Tryz.call30 _ _) (by simp) (fun HO => ?_)
    refine aw_reg fun K hK => ?_; simp (maxSteps := 1000000) (disch := omega) [-List.getD_eq_getElem?_getD]; refine hK _ ?_; clear hK K
    refine aw_then fun K1 hK1 => ?_
    refine aw_reg fun K hK => ?_; simp (maxSteps := 1000000) (disch := omega) [-List.getD_eq_getElem?_getD]; refine hK _ ?_; clear hK K
    refine aw_if rfl (fun h => ?_) (fun h => absurd h (by simp))
    refine aw_reg fun K hK => ?_; simp (maxSteps := 1000000) (disch := omega) [-List.getD_eq_getElem?_getD]
    refine hK _ ?_; clear hK K
    refine aw_ret ?_; simp (maxSteps := 1000000) (disch := omega) [-List.getD_eq_getElem?_getD]
    simp [zeroC, clAV, untagA, untag]
  | k :: R1, hb, hno =>
    have hl0 : (k :: R1).length = R1.length + 1 := rfl
    have e0 : encB (k :: R1) = .int .u8 (k.toNat : Nat) :: encB R1 := rfl
    rw [hl0] at hb
    have u1 := fun x G T => upToF x R1 (by omega) true G H T
    have hl1 := cutT_len2 1 R1
    generalize Lst.cutT 1 R1 = p1 at *
    obtain ⟨cls, R2, ok1⟩ := p1
    simp only at u1 hl1
    have t1 := fun x G T => twoG x R2 (by omega) (true && ok1) G H T
    have hl2 := twoV_len R2 (true && ok1)
    generalize twoV R2 (true && ok1) = p2 at *
    obtain ⟨n, R3, ok2⟩ := p2
    simp only at t1 hl2
    have u2 := fun x G T => upToF x R3 (by omega) ok2 G H T
    have hl3 := cutT_len2 1 R3
    generalize Lst.cutT 1 R3 = p3 at *
    obtain ⟨dec, R4, f3⟩ := p3
    simp only at u2 hl3
    simp only [Bool.true_and] at u1 t1
    have hsn : ∀ (l : List (List UInt8)) x, strs l ++ [AV.str x] = strs (l ++ [x]) := strs_snoc
    have htk : ∀ l : List (List UInt8), (strs l).length = l.length := strs_len
    have ht1 : ∀ x : List UInt8, (encB x).take x.length = encB x := fun x => List.take_of_length_le (by simp [encB])
    have el : ∀ x : List UInt8, (encB x).length = x.length := fun x => by simp [encB]
    have hwk : IntKind.i64.wrap (k.toNat : Int) = (k.toNat : Nat) := by
      have := k.toNat_lt
      rw [wrap64 (by omega) (by omega)]
    rw [e0, hl0]
    refine acall_enter 6 [] Tryz.ntmps30 Tryz.func30 rfl (fun _ _ => Tryz.call30 _ _) (by simp) (fun HO => ?_)
    refine aw_reg fun K hK => ?_; simp (maxSteps := 1000000) (disch := omega) [-List.getD_eq_getElem?_getD]; refine hK _ ?_; clear hK K
    refine aw_then fun K1 hK1 => ?_
    refine aw_reg fun K hK => ?_; simp (maxSteps := 1000000) (disch := omega) [-List.getD_eq_getElem?_getD]
    refine hK _ ?_; clear hK K
    refine aw_if rfl (fun h => absurd h (by simp; omega)) (fun h => ?_)
    refine aw_skip ?_; simp (maxSteps := 1000000) (disch := omega) [-List.getD_eq_getElem?_getD]
    refine hK1 _ ?_; clear hK1
    refine aw_reg fun K hK => ?_; simp (maxSteps := 1000000) (disch := omega) [-List.getD_eq_getElem?_getD, ht1, el]
    refine hK _ ?_; clear hK K
    refine aw_drawP (.both 5 7 (.leaf [5, 7, 8] [0, 0, 0, 0, 0, 0, 1, 1, 2] [[0, 1, 2, 3], [0, 1, 2, 3, 6], []]) (.swp 6 7 (.leaf [5, 6, 8] [0, 0, 0, 0, 0, 0, 1, 2, 2] [[0, 1, 2, 3, 4], [0, 1, 2, 3], []]))) drawMixed (by kernel_rfl) fun K hK => ?_
    have fin : ∀ e, envLe (H.length + 3) T.length e [(0, .sl (R1.length + 1) (.int .u8 (k.toNat : Nat) :: encB R1) .none), (2, .ptr H.length 0), (3, .int .i64 0), (4, .ptr (H.length + 1) 0), (5, .ptr (H.length + 2) 0)] → K ⟨e, H ++ [.cells [.int .i64 0, .str [], .int .i64 0, .str [], .sl 0 [] .full, .int .i64 0, .str []], .cells [.sl (R2).length (encB (R2)) .none, .bool ok1], .cells [.int .i64 (k.toNat : Nat), .str cls, .int .i64 0, .str [], .sl 0 [] .full, .int .i64 0, .str []]], T⟩ := by
      intro e he
      refine hK _ (aw_weak ⟨[(0, .sl (R1.length + 1) (.int .u8 (k.toNat : Nat) :: encB R1) .none), (2, .ptr H.length 0), (3, .int .i64 0), (4, .ptr (H.length + 1) 0), (5, .ptr (H.length + 2) 0)], H ++ [.cells [.int .i64 0, .str [], .int .i64 0, .str [], .sl 0 [] .full, .int .i64 0, .str []], .cells [.sl (R2).length (encB (R2)) .none, .bool ok1], .cells [.int .i64 (k.toNat : Nat), .str cls, .int .i64 0, .str [], .sl 0 [] .full, .int .i64 0, .str []]], T⟩ (weak_to [] [] (by simp) (by simp) (by simp) (by simp) (by rw [box3]; exact HOk.snoc (HOk.snoc (HO.snoc (by simp)) (by simp)) (by simp)) (by simpa using he)) ?_)
      clear hK he u1
      refine aw_ownC 1 4 (H ++ [.cells [.int .i64 0, .str [], .int .i64 0, .str [], .sl 0 [] .full, .int .i64 0, .str []], .cells [.sl (R2).length (encB (R2)) .none, .bool ok1]]) [.int .i64 (k.toNat : Nat), .str cls, .int .i64 0, .str [], .sl 0 [] .full, .int .i64 0, .str []] 0 [] (by omega) rfl (by simp) ?_
      simp only [List.set_cons_succ, List.set_cons_zero]
      have HO2 : ∀ (l : List (List UInt8)) (b : List UInt8) ok, HOk (H ++ [.cells [.int .i64 0, .str [], .int .i64 0, .str [], .sl 0 [] .full, .int .i64 0, .str []], .cells [.sl (b).length (encB (b)) .none, .bool ok], .cells [.int .i64 (k.toNat : Nat), .str cls, .int .i64 n, .str dec, .sl l.length (strs l) (.own T.length), .int .i64 0, .str []]]) (T ++ [(l.length, 1)]) := fun l b ok => by
        rw [box3]
        exact HOk.snoc (HOk.snoc (HOk.snoc (HO.toks (by simp)) (by simp)) (by simp)) (by simp)
      refine aw_reg fun K hK => ?_; simp (maxSteps := 1000000) (disch := omega) [-List.getD_eq_getElem?_getD]
      refine acall_is (t1 _ _ _) ?_; simp (maxSteps := 1000000) (disch := omega) [-List.getD_eq_getElem?_getD]
      refine hK _ ?_; clear hK K
      refine aw_reg fun K hK => ?_; simp (maxSteps := 1000000) (disch := omega) [-List.getD_eq_getElem?_getD]
      refine acall_is (u2 _ _ _) ?_; simp (maxSteps := 1000000) (disch := omega) [-List.getD_eq_getElem?_getD]
      refine hK _ ?_; clear hK K
      clear t1 u2
      refine aw_then fun K1 hK1 => ?_
      refine aw_block ?_
      refine aw_loop (X := List UInt8 × Bool × List (List UInt8)) (fun s => ⟨[(0, .sl (R1.length + 1) (.int .u8 (k.toNat : Nat) :: encB R1) .none), (2, .ptr H.length 0), (3, .int .i64 0), (4, .ptr (H.length + 1) 0), (5, .ptr (H.length + 2) 0)], H ++ [.cells [.int .i64 0, .str [], .int .i64 0, .str [], .sl 0 [] .full, .int .i64 0, .str []], .cells [.sl (s.1).length (encB (s.1)) .none, .bool s.2.1], .cells [.int .i64 (k.toNat : Nat), .str cls, .int .i64 n, .str dec, .sl s.2.2.length (strs s.2.2) (.own T.length), .int .i64 0, .str []]], T ++ [(s.2.2.length, 1)]⟩) (fun s => s.1.length + s.2.2.length ≤ 900 ∧ ∀ x ∈ s.2.2, x.length ≤ 900) (fun s => s.1.length) (R4, (ok2 && f3), []) ?_ ?_ ?_
      · exact ⟨by simp; omega, by simp⟩
      · refine weak_to [] [] ?_ ?_ ?_ ?_ (HO2 [] _ _) ?_
        all_goals simp
      · rintro ⟨bs, ok, l⟩ ⟨i1, i2⟩
        simp only at i1 i2 ⊢
        refine aw_then fun K2 hK2 => ?_
        match bs, i1 with
        | [], i1 =>
          refine aw_reg fun K hK => ?_; simp (maxSteps := 1000000) (disch := omega) [-List.getD_eq_getElem?_getD]; refine hK _ ?_; clear hK K
          refine aw_if rfl (fun h => absurd h (by simp)) (fun h => ?_)
          refine aw_exit ?_; simp (maxSteps := 1000000) (disch := omega) [-List.getD_eq_getElem?_getD]
          refine hK1 _ ?_; clear hK1
          refine aw_then fun K1 hK1 => ?_
          refine aw_reg fun K hK => ?_; simp (maxSteps := 1000000) (disch := omega) [-List.getD_eq_getElem?_getD]; refine hK _ ?_; clear hK K
          refine aw_if rfl (fun h => ?_) (fun h => absurd h (by simp))
          refine aw_reg fun K hK => ?_; simp (maxSteps := 1000000) (disch := omega) [-List.getD_eq_getElem?_getD]
          refine hK _ ?_; clear hK K
          refine aw_ret ?_; simp (maxSteps := 1000000) (disch := omega) [-List.getD_eq_getElem?_getD]
          simp [zeroC, clAV, untagA, untag]
        | y :: Z, i1 =>
          rw [show encB (y :: Z) = .int .u8 (y.toNat : Nat) :: encB Z from rfl, show (y :: Z).length = Z.length + 1 from rfl] at *
          by_cases hy : y.toNat = 3
          · have n1 : (((y.toNat : Nat) : Int) == 3) = true := beq_iff_eq.2 (by omega)
            have u3 := fun x G T => upToF x Z (by omega) ok G H T
            have hl4 := cutT_len2 1 Z
            generalize Lst.cutT 1 Z = p4 at *
            obtain ⟨x, Z2, f4⟩ := p4
            simp only at u3 hl4
            rw [hy]
            refine aw_reg fun K hK => ?_; simp (maxSteps := 1000000) (disch := omega) [-List.getD_eq_getElem?_getD]; refine hK _ ?_; clear hK K
            refine aw_if rfl (fun h => ?_) (fun h => absurd h (by simp))
            refine aw_skip ?_; simp (maxSteps := 1000000) (disch := omega) [-List.getD_eq_getElem?_getD]
            refine hK2 _ ?_; clear hK2
            refine aw_block ?_
            refine aw_reg fun K hK => ?_; simp (maxSteps := 1000000) (disch := omega) [-List.getD_eq_getElem?_getD, ht1, el]
            refine hK _ ?_; clear hK K
            refine aw_draw0 [3, 5, 7] [0, 0, 0, 0, 1, 1, 2, 2] [[0, 1], [], []] drawMixed (by kernel_rfl) (by kernel_rfl) fun K hK => ?_; simp (maxSteps := 1000000) (disch := omega) [-List.getD_eq_getElem?_getD]
            refine dcall_eff ((u3 _ _ _)) rfl ?_; simp (maxSteps := 1000000) (disch := omega) [-List.getD_eq_getElem?_getD, hsn, htk]
            refine hK _ ?_; clear hK K
            refine ⟨(Z2, (ok && f4), l ++ [x]), ⟨by simp; omega, fun z hz => ?_⟩, by show Z2.length < Z.length + 1; omega, ?_⟩
            · rcases List.mem_append.1 hz with hz | hz
              · exact i2 z hz
              · rw [List.mem_singleton] at hz
                subst hz
                omega
            · refine weak_to [] [] ?_ ?_ ?_ ?_ (HO2 (l ++ [x]) _ _) ?_
              all_goals simp
          · have n1 : (((y.toNat : Nat) : Int) == 3) = false := beq_eq_false_iff_ne.2 (by omega)
            refine aw_reg fun K hK => ?_; simp (maxSteps := 1000000) (disch := omega) [-List.getD_eq_getElem?_getD, n1]; refine hK _ ?_; clear hK K
            refine aw_if rfl (fun h => absurd h (by simp)) (fun h => ?_)
            refine aw_exit ?_; simp (maxSteps := 1000000) (disch := omega) [-List.getD_eq_getElem?_getD]
            refine hK1 _ ?_; clear hK1
            refine aw_then fun K1 hK1 => ?_
            by_cases hy2 : y.toNat = 2
            rotate_left
            · have m1 : (((y.toNat : Nat) : Int) == 2) = false := beq_eq_false_iff_ne.2 (by omega)
              have m2 : (((y.toNat : Nat) : Int) != 2) = true := bne_iff_ne.2 (by omega)
              refine aw_reg fun K hK => ?_; simp (maxSteps := 1000000) (disch := omega) [-List.getD_eq_getElem?_getD, m2]; refine hK _ ?_; clear hK K
              refine aw_if rfl (fun h => ?_) (fun h => absurd h (by simp))
              refine aw_reg fun K hK => ?_; simp (maxSteps := 1000000) (disch := omega) [-List.getD_eq_getElem?_getD]
              refine hK _ ?_; clear hK K
              refine aw_ret ?_; simp (maxSteps := 1000000) (disch := omega) [-List.getD_eq_getElem?_getD]
              simp [zeroC, clAV, untagA, untag]
            · have m2 : (((y.toNat : Nat) : Int) != 2) = false := by rw [hy2]; rfl
              rw [hy2]
              have t2 := fun x G T => twoG x Z (by omega) ok G H T
              have hl5 := twoV_len Z ok
              generalize twoV Z ok = p5 at *
              obtain ⟨yr, rest, ok5⟩ := p5
              simp only at t2 hl5
              have hsm : Sm ⟨(k.toNat : Nat), cls, n, dec, l, yr, rest⟩ := ⟨by show cls.length ≤ 1000; omega, by show dec.length ≤ 1000; omega, by show l.length ≤ 1000; omega, fun x hx => by have := i2 x hx; omega, by show rest.length ≤ 1000; omega⟩
              have hno := hno ⟨(k.toNat : Nat), cls, n, dec, l, yr, rest⟩
              have cv := fun G T tg => validP_ok ⟨(k.toNat : Nat), cls, n, dec, l, yr, rest⟩ tg hsm (H ++ G) T
              have ck := fun G T tg => keyP_ok ⟨(k.toNat : Nat), cls, n, dec, l, yr, rest⟩ tg hsm (H ++ G) T
              have ce := fun G T => bytesEq_ok (keyF ⟨(k.toNat : Nat), cls, n, dec, l, yr, rest⟩) (k :: R1) .none .none (H ++ G) T
              generalize keyF ⟨(k.toNat : Nat), cls, n, dec, l, yr, rest⟩ = KF at *
              generalize validF ⟨(k.toNat : Nat), cls, n, dec, l, yr, rest⟩ = v at *
              simp only [clAV] at cv ck
              rw [e0, hl0] at ce
              refine aw_reg fun K hK => ?_; simp (maxSteps := 1000000) (disch := omega) [-List.getD_eq_getElem?_getD]; refine hK _ ?_; clear hK K
              refine aw_if rfl (fun h => absurd h (by simp)) (fun h => ?_)
              refine aw_skip ?_; simp (maxSteps := 1000000) (disch := omega) [-List.getD_eq_getElem?_getD]
              refine hK1 _ ?_; clear hK1
              refine aw_reg fun K hK => ?_; simp (maxSteps := 1000000) (disch := omega) [-List.getD_eq_getElem?_getD, ht1, el]
              refine hK _ ?_; clear hK K
              refine aw_reg fun K hK => ?_; simp (maxSteps := 1000000) (disch := omega) [-List.getD_eq_getElem?_getD]
              refine acall_is (t2 _ _ _) ?_; simp (maxSteps := 1000000) (disch := omega) [-List.getD_eq_getElem?_getD]
              refine hK _ ?_; clear hK K
              refine aw_reg fun K hK => ?_; simp (maxSteps := 1000000) (disch := omega) [-List.getD_eq_getElem?_getD]
              refine hK _ ?_; clear hK K
              refine aw_then fun K1 hK1 => ?_
              cases ok5 with
              | false =>
                refine aw_reg fun K hK => ?_; simp (maxSteps := 1000000) (disch := omega) [-List.getD_eq_getElem?_getD]
                refine hK _ ?_; clear hK K
                refine aw_if rfl (fun h => ?_) (fun h => absurd h (by simp))
                refine aw_reg fun K hK => ?_; simp (maxSteps := 1000000) (disch := omega) [-List.getD_eq_getElem?_getD]
                refine hK _ ?_; clear hK K
                refine aw_ret ?_; simp (maxSteps := 1000000) (disch := omega) [-List.getD_eq_getElem?_getD]
                simp [zeroC, clAV, untagA, untag]
              | true =>
                cases v with
                | false =>
                  refine aw_reg fun K hK => ?_; simp (maxSteps := 1000000) (disch := omega) [-List.getD_eq_getElem?_getD]
                  refine acall_is (cv _ _ _) ?_; simp (maxSteps := 1000000) (disch := omega) [-List.getD_eq_getElem?_getD]
                  refine hK _ ?_; clear hK K
                  refine aw_if rfl (fun h => ?_) (fun h => absurd h (by simp))
                  refine aw_reg fun K hK => ?_; simp (maxSteps := 1000000) (disch := omega) [-List.getD_eq_getElem?_getD]
                  refine hK _ ?_; clear hK K
                  refine aw_ret ?_; simp (maxSteps := 1000000) (disch := omega) [-List.getD_eq_getElem?_getD]
                  simp [zeroC, clAV, untagA, untag]
                | true =>
                  have hne : (KF == k :: R1) = false := beq_eq_false_iff_ne.2 (hno rfl)
                  rw [hne] at ce
                  refine aw_reg fun K hK => ?_; simp (maxSteps := 1000000) (disch := omega) [-List.getD_eq_getElem?_getD]
                  refine acall_is (cv _ _ _) ?_; simp (maxSteps := 1000000) (disch := omega) [-List.getD_eq_getElem?_getD]
                  refine acall_is (ck _ _ _) ?_; simp (maxSteps := 1000000) (disch := omega) [-List.getD_eq_getElem?_getD]
                  refine acall_is (ce _ _) ?_; simp (maxSteps := 1000000) (disch := omega) [-List.getD_eq_getElem?_getD]
                  refine hK _ ?_; clear hK K
                  refine aw_if rfl (fun h => ?_) (fun h => absurd h (by simp))
                  refine aw_reg fun K hK => ?_; simp (maxSteps := 1000000) (disch := omega) [-List.getD_eq_getElem?_getD]
                  refine hK _ ?_; clear hK K
                  refine aw_ret ?_; simp (maxSteps := 1000000) (disch := omega) [-List.getD_eq_getElem?_getD]
                  simp [zeroC, clAV, untagA, untag]
    refine ⟨?_, ?_⟩
    · simp (maxSteps := 1000000) (disch := omega) [-List.getD_eq_getElem?_getD, Plan.ob, addE, hwk]
      refine dcall_eff ((u1 _ _ _)) rfl ?_; simp (maxSteps := 1000000) (disch := omega) [-List.getD_eq_getElem?_getD, hwk]
      refine fin _ ?_
      simp
    · simp (maxSteps := 1000000) (disch := omega) [-List.getD_eq_getElem?_getD, Plan.ob, addE, swapE, relO, sw, hwk]
      refine dcall_eff ((u1 _ _ _)) rfl ?_; simp (maxSteps := 1000000) (disch := omega) [-List.getD_eq_getElem?_getD, hwk]
      refine fin _ ?_
      simp
end Go.Proofs.YtnmlpohhommagaaGreatDoor
