/- The order of call numbers (layer 52): the walk of the law.
   Conditions: lengths of the arguments below 2^63, as arguments have; the library's variables hold values of their types. -/
import Derived.Test.YtnmlpohhommagaaGreatDoorCFn14
import Derived.Test.YtnmlpohhommagaaGreatDoorCB
import Derived.Test.YtnmlpohhommagaaGreatDoorAmDr3
namespace Go.Am
open Go
/-- What stands behind so many parts. -/
def tailOf : Nat → Code → Code
  | 0, c => c
  | n + 1, .seq _ y => tailOf n y
  | _ + 1, c => c
end Go.Am
namespace Go.Proofs.YtnmlpohhommagaaGreatDoor
open Go Go.Am Cn Lst
set_option linter.unusedVariables false
set_option maxRecDepth 100000

theorem app3 {H : List Blk} {x a b c : Blk} : H ++ [x, a, b, c] = (((H ++ [x]) ++ [a]) ++ [b]) ++ [c] := by simp
set_option maxRecDepth 100000 in
set_option maxHeartbeats 8000000 in
theorem order_tail (x y z : Int) (hcmb : (x = -1 ∧ y = -1 ∧ z = -1) ∨ (x = -1 ∧ y = 0 ∧ z = -1) ∨ (x = 0 ∧ y = -1 ∧ z = -1) ∨ (x = 0 ∧ y = 0 ∧ z = 0) ∨ (x = 0 ∧ y = 1 ∧ z = 1) ∨ (x = 1 ∧ y = 0 ∧ z = 1) ∨ (x = 1 ∧ y = 1 ∧ z = 1) ∨ (x = -1 ∧ y = 1) ∨ (x = 1 ∧ y = -1))
    (a1 a3 a6 b1 b3 b6 c1 c3 c6 : Int) (a2 a4 a7 b2 b4 b7 c2 c4 c7 : List UInt8) (a5 b5 c5 : List (List UInt8)) (A B C : List AV) (H G : List Blk) (i j k : Nat)
    (hi : G[i]? = some (.cells [.int .i64 a1, .str a2, .int .i64 a3, .str a4, .sl a5.length A .none, .int .i64 a6, .str a7])) (hj : G[j]? = some (.cells [.int .i64 b1, .str b2, .int .i64 b3, .str b4, .sl b5.length B .none, .int .i64 b6, .str b7])) (hk : G[k]? = some (.cells [.int .i64 c1, .str c2, .int .i64 c3, .str c4, .sl c5.length C .none, .int .i64 c6, .str c7])) (hx : G[H.length]? = some (.cells [.int .i64 a1, .str a2, .int .i64 a3, .str a4, .sl a5.length A .none, .int .i64 a6, .str a7, .int .i64 b1, .str b2, .int .i64 b3, .str b4, .sl b5.length B .none, .int .i64 b6, .str b7, .int .i64 c1, .str c2, .int .i64 c3, .str c4, .sl c5.length C .none, .int .i64 c6, .str c7])) (hO : HOk G []) (hX : ∃ X, G = H ++ X)
    (q1 : ACall Tryz.prog 13 [.agg [.int .i64 a1, .str a2, .int .i64 a3, .str a4, .sl a5.length A .none, .int .i64 a6, .str a7], .agg [.int .i64 b1, .str b2, .int .i64 b3, .str b4, .sl b5.length B .none, .int .i64 b6, .str b7]] G [] (Is (.int .i64 x) G [])) (q2 : ACall Tryz.prog 13 [.agg [.int .i64 b1, .str b2, .int .i64 b3, .str b4, .sl b5.length B .none, .int .i64 b6, .str b7], .agg [.int .i64 c1, .str c2, .int .i64 c3, .str c4, .sl c5.length C .none, .int .i64 c6, .str c7]] G [] (Is (.int .i64 y) G [])) (q3 : ACall Tryz.prog 13 [.agg [.int .i64 a1, .str a2, .int .i64 a3, .str a4, .sl a5.length A .none, .int .i64 a6, .str a7], .agg [.int .i64 c1, .str c2, .int .i64 c3, .str c4, .sl c5.length C .none, .int .i64 c6, .str c7]] G [] (Is (.int .i64 z) G []))
    (q4 : ACall Tryz.prog 13 [.agg [.int .i64 b1, .str b2, .int .i64 b3, .str b4, .sl b5.length B .none, .int .i64 b6, .str b7], .agg [.int .i64 a1, .str a2, .int .i64 a3, .str a4, .sl a5.length A .none, .int .i64 a6, .str a7]] G [] (Is (.int .i64 (-x)) G [])) (q5 : ACall Tryz.prog 14 [.agg [.int .i64 a1, .str a2, .int .i64 a3, .str a4, .sl a5.length A .none, .int .i64 a6, .str a7], .agg [.int .i64 b1, .str b2, .int .i64 b3, .str b4, .sl b5.length B .none, .int .i64 b6, .str b7]] G [] (Is (.bool (x == 0)) G [])) :
    AW ⟨Tryz.prog, 83, 13, H.length, 0, []⟩ (tailOf 4 (Tryz.f3.body.getD .skip)) (RetQ Tryz.prog Tryz.f3.results.toList (fun r H' _ => r = .bool true ∧ ∃ G, H' = H ++ G)) ⟨[(1, .ptr H.length 0), (4, .ptr i 0), (5, .ptr j 0), (6, .ptr k 0)], G, []⟩ := by
  conv => arg 2; whnf
  refine aw_draw [] [] [] drawMixed (by kernel_rfl) (by kernel_rfl) fun K hK => ?_; simp (maxSteps := 1000000) (disch := omega) [-List.getD_eq_getElem?_getD, hi, hj, hk, hx]
  refine dcall_is (q1) rfl ?_; simp (maxSteps := 1000000) (disch := omega) [-List.getD_eq_getElem?_getD, hi, hj, hk, hx]
  refine dcall_is (q2) rfl ?_; simp (maxSteps := 1000000) (disch := omega) [-List.getD_eq_getElem?_getD, hi, hj, hk, hx]
  refine dcall_is (q3) rfl ?_; simp (maxSteps := 1000000) (disch := omega) [-List.getD_eq_getElem?_getD, hi, hj, hk, hx]
  refine hK _ ?_; clear hK K
  rcases hcmb with ⟨rfl, rfl, rfl⟩ | ⟨rfl, rfl, rfl⟩ | ⟨rfl, rfl, rfl⟩ | ⟨rfl, rfl, rfl⟩ | ⟨rfl, rfl, rfl⟩ | ⟨rfl, rfl, rfl⟩ | ⟨rfl, rfl, rfl⟩ | ⟨rfl, rfl⟩ | ⟨rfl, rfl⟩
  all_goals (
    refine aw_reg fun K hK => ?_; simp (maxSteps := 1000000) (disch := omega) [-List.getD_eq_getElem?_getD, hi, hj, hk, hx]
    refine acall_is (q4) ?_; simp (maxSteps := 1000000) (disch := omega) [-List.getD_eq_getElem?_getD, hi, hj, hk, hx]
    refine acall_is (q5) ?_; simp (maxSteps := 1000000) (disch := omega) [-List.getD_eq_getElem?_getD, hi, hj, hk, hx]
    refine hK _ ?_; clear hK K
    refine aw_ret ?_; simp (maxSteps := 1000000) (disch := omega) [-List.getD_eq_getElem?_getD]
    exact hX)

set_option maxRecDepth 100000 in
set_option maxHeartbeats 8000000 in
/-- CallnoOrder. -/
theorem order_law (a b c : Cl) (ha : a.cut.length ≤ 9223372036854775807) (hb : b.cut.length ≤ 9223372036854775807) (hc : c.cut.length ≤ 9223372036854775807) (H : List Blk) (hL : Lb H) :
    ACall Tryz.prog 3 [.agg (clAV a .none ++ clAV b .none ++ clAV c .none)] H [] (fun r H' _ => r = .bool true ∧ ∃ G, H' = H ++ G) := by
  have c0 := fun G => awake_ok (H ++ G) [] (hL.app G)
  have f1 := fun G => few_ok a .none ha (H ++ G) []
  have f2 := fun G => few_ok b .none hb (H ++ G) []
  have f3 := fun G => few_ok c .none hc (H ++ G) []
  have v1 := fun h G => validR_ok a .none (fewF_sm h) (H ++ G) []
  have v2 := fun h G => validR_ok b .none (fewF_sm h) (H ++ G) []
  have v3 := fun h G => validR_ok c .none (fewF_sm h) (H ++ G) []
  have q1 := fun h1 h2 G => compareV_ok a b .none .none (valid_sm h1) (valid_sm h2) (H ++ G) []
  have q2 := fun h1 h2 G => compareV_ok b c .none .none (valid_sm h1) (valid_sm h2) (H ++ G) []
  have q3 := fun h1 h2 G => compareV_ok a c .none .none (valid_sm h1) (valid_sm h2) (H ++ G) []
  have q4 := fun h1 h2 G => compareV_ok b a .none .none (valid_sm h1) (valid_sm h2) (H ++ G) []
  have q5 := fun h1 h2 G => equalR_ok a b .none .none (valid_sm h1) (valid_sm h2) (H ++ G) []
  have htr := compF_tr a b c
  have han := compF_anti a b
  have hz := compF_zero a b
  have hx3 := compF_vals a b
  have hy3 := compF_vals b c
  have hz3 := compF_vals a c
  unfold compV at q1 q2 q3 q4
  have hsa : ∀ n t, BelowAll n t (strs a.cut) := fun n t => by simp
  have hsb : ∀ n t, BelowAll n t (strs b.cut) := fun n t => by simp
  have hsc : ∀ n t, BelowAll n t (strs c.cut) := fun n t => by simp
  generalize compF a b = x at *
  generalize compF b c = y at *
  generalize compF a c = z at *
  generalize compF b a = x' at *
  generalize fewF a = fa at *
  generalize fewF b = fb at *
  generalize fewF c = fc at *
  generalize validF a = va at *
  generalize validF b = vb at *
  generalize validF c = vc at *
  have hd : decide (a = b) = (x == 0) := by
    by_cases h : a = b
    · rw [decide_eq_true h, hz.2 h]; rfl
    · rw [decide_eq_false h]; exact (beq_eq_false_iff_ne.2 fun e => h (hz.1 e)).symm
  rw [hd] at q5
  clear hd hz
  obtain ⟨a1, a2, a3, a4, a5, a6, a7⟩ := a
  obtain ⟨b1, b2, b3, b4, b5, b6, b7⟩ := b
  obtain ⟨c1, c2, c3, c4, c5, c6, c7⟩ := c
  simp only [clAV] at *
  generalize strs a5 = A at *
  generalize strs b5 = B at *
  generalize strs c5 = C at *
  show ACall _ _ [.agg [.int .i64 a1, .str a2, .int .i64 a3, .str a4, .sl a5.length A .none, .int .i64 a6, .str a7, .int .i64 b1, .str b2, .int .i64 b3, .str b4, .sl b5.length B .none, .int .i64 b6, .str b7, .int .i64 c1, .str c2, .int .i64 c3, .str c4, .sl c5.length C .none, .int .i64 c6, .str c7]] _ _ _
  refine acall_enter 13 [] Tryz.ntmps3 Tryz.func3 rfl (fun _ _ => Tryz.call3 _ _) (by simp) (fun HO => ?_)
  have HO1 : HOk (H ++ [.cells [.int .i64 a1, .str a2, .int .i64 a3, .str a4, .sl a5.length A .none, .int .i64 a6, .str a7, .int .i64 b1, .str b2, .int .i64 b3, .str b4, .sl b5.length B .none, .int .i64 b6, .str b7, .int .i64 c1, .str c2, .int .i64 c3, .str c4, .sl c5.length C .none, .int .i64 c6, .str c7]]) [] := HO.snoc (by simp [hsa, hsb, hsc])
  refine aw_reg fun K hK => ?_; simp (maxSteps := 1000000) (disch := omega) [-List.getD_eq_getElem?_getD]; refine hK _ ?_; clear hK K
  refine aw_then fun K1 hK1 => ?_
  refine aw_reg fun K hK => ?_; simp (maxSteps := 1000000) (disch := omega) [-List.getD_eq_getElem?_getD]
  refine acall_is (c0 _) ?_; simp (maxSteps := 1000000) (disch := omega) [-List.getD_eq_getElem?_getD]
  refine hK _ ?_; clear hK K
  refine aw_if rfl (fun h => absurd h (by simp)) (fun h => ?_)
  refine aw_skip ?_; simp (maxSteps := 1000000) (disch := omega) [-List.getD_eq_getElem?_getD]
  refine hK1 _ ?_; clear hK1
  refine aw_then fun K1 hK1 => ?_
  refine aw_reg fun K hK => ?_; simp (maxSteps := 1000000) (disch := omega) [-List.getD_eq_getElem?_getD]; refine hK _ ?_; clear hK K
  refine aw_block ?_
  refine aw_loop (X := Nat) (fun i => ⟨[(1, .ptr H.length 0), (12, .int .i64 (i : Nat))], H ++ [.cells [.int .i64 a1, .str a2, .int .i64 a3, .str a4, .sl a5.length A .none, .int .i64 a6, .str a7, .int .i64 b1, .str b2, .int .i64 b3, .str b4, .sl b5.length B .none, .int .i64 b6, .str b7, .int .i64 c1, .str c2, .int .i64 c3, .str c4, .sl c5.length C .none, .int .i64 c6, .str c7]], []⟩) (fun i => i ≤ 3 ∧ (0 < i → va = true) ∧ (1 < i → vb = true) ∧ (2 < i → vc = true)) (fun i => 3 - i) 0 ?_ ?_ ?_
  · exact ⟨by omega, fun h => absurd h (by omega), fun h => absurd h (by omega), fun h => absurd h (by omega)⟩
  · refine weak_to [] [] ?_ ?_ ?_ ?_ HO1 ?_
    all_goals simp
  · rintro i ⟨h1, h2, h3, h4⟩
    have h5 : i = 0 ∨ i = 1 ∨ i = 2 ∨ i = 3 := by omega
    rcases h5 with rfl | rfl | rfl | rfl
    · refine aw_reg fun K hK => ?_; simp (maxSteps := 1000000) (disch := omega) [-List.getD_eq_getElem?_getD]; refine hK _ ?_; clear hK K
      refine aw_then fun K3 hK3 => ?_
      refine aw_if rfl (fun h => ?_) (fun h => absurd h (by simp))
      refine aw_skip ?_; simp (maxSteps := 1000000) (disch := omega) [-List.getD_eq_getElem?_getD]
      refine hK3 _ ?_; clear hK3
      refine aw_then fun K4 hK4 => ?_
      refine aw_block ?_
      refine aw_reg fun K hK => ?_; simp (maxSteps := 1000000) (disch := omega) [-List.getD_eq_getElem?_getD]; refine hK _ ?_; clear hK K
      cases fa with
      | false =>
        refine aw_reg fun K hK => ?_; simp (maxSteps := 1000000) (disch := omega) [-List.getD_eq_getElem?_getD]
        refine acall_is (f1 _) ?_; simp (maxSteps := 1000000) (disch := omega) [-List.getD_eq_getElem?_getD]
        refine hK _ ?_; clear hK K
        refine aw_if rfl (fun h => ?_) (fun h => absurd h (by simp))
        refine aw_reg fun K hK => ?_; simp (maxSteps := 1000000) (disch := omega) [-List.getD_eq_getElem?_getD]; refine hK _ ?_; clear hK K
        refine aw_ret ?_; simp (maxSteps := 1000000) (disch := omega) [-List.getD_eq_getElem?_getD]
      | true =>
        have v1 := v1 rfl
        cases va with
        | false =>
          refine aw_reg fun K hK => ?_; simp (maxSteps := 1000000) (disch := omega) [-List.getD_eq_getElem?_getD]
          refine acall_is (f1 _) ?_; simp (maxSteps := 1000000) (disch := omega) [-List.getD_eq_getElem?_getD]
          refine acall_is (v1 _) ?_; simp (maxSteps := 1000000) (disch := omega) [-List.getD_eq_getElem?_getD]
          refine hK _ ?_; clear hK K
          refine aw_if rfl (fun h => ?_) (fun h => absurd h (by simp))
          refine aw_reg fun K hK => ?_; simp (maxSteps := 1000000) (disch := omega) [-List.getD_eq_getElem?_getD]; refine hK _ ?_; clear hK K
          refine aw_ret ?_; simp (maxSteps := 1000000) (disch := omega) [-List.getD_eq_getElem?_getD]
        | true =>
          refine aw_reg fun K hK => ?_; simp (maxSteps := 1000000) (disch := omega) [-List.getD_eq_getElem?_getD]
          refine acall_is (f1 _) ?_; simp (maxSteps := 1000000) (disch := omega) [-List.getD_eq_getElem?_getD]
          refine acall_is (v1 _) ?_; simp (maxSteps := 1000000) (disch := omega) [-List.getD_eq_getElem?_getD]
          refine hK _ ?_; clear hK K
          refine aw_if rfl (fun h => absurd h (by simp)) (fun h => ?_)
          refine aw_skip ?_; simp (maxSteps := 1000000) (disch := omega) [-List.getD_eq_getElem?_getD]
          refine hK4 _ ?_; clear hK4
          refine aw_reg0 fun K hK => ?_; simp (maxSteps := 1000000) (disch := omega) [-List.getD_eq_getElem?_getD]
          refine hK _ ?_; clear hK K
          refine ⟨1, ⟨by omega, fun _ => rfl, fun h => absurd h (by omega), fun h => absurd h (by omega)⟩, by show 3 - 1 < 3 - 0; omega, ?_⟩
          refine weak_to [] [] ?_ ?_ ?_ ?_ HO1 ?_
          all_goals simp
    · refine aw_reg fun K hK => ?_; simp (maxSteps := 1000000) (disch := omega) [-List.getD_eq_getElem?_getD]; refine hK _ ?_; clear hK K
      refine aw_then fun K3 hK3 => ?_
      refine aw_if rfl (fun h => ?_) (fun h => absurd h (by simp))
      refine aw_skip ?_; simp (maxSteps := 1000000) (disch := omega) [-List.getD_eq_getElem?_getD]
      refine hK3 _ ?_; clear hK3
      refine aw_then fun K4 hK4 => ?_
      refine aw_block ?_
      refine aw_reg fun K hK => ?_; simp (maxSteps := 1000000) (disch := omega) [-List.getD_eq_getElem?_getD]; refine hK _ ?_; clear hK K
      cases fb with
      | false =>
        refine aw_reg fun K hK => ?_; simp (maxSteps := 1000000) (disch := omega) [-List.getD_eq_getElem?_getD]
        refine acall_is (f2 _) ?_; simp (maxSteps := 1000000) (disch := omega) [-List.getD_eq_getElem?_getD]
        refine hK _ ?_; clear hK K
        refine aw_if rfl (fun h => ?_) (fun h => absurd h (by simp))
        refine aw_reg fun K hK => ?_; simp (maxSteps := 1000000) (disch := omega) [-List.getD_eq_getElem?_getD]; refine hK _ ?_; clear hK K
        refine aw_ret ?_; simp (maxSteps := 1000000) (disch := omega) [-List.getD_eq_getElem?_getD]
      | true =>
        have v2 := v2 rfl
        cases vb with
        | false =>
          refine aw_reg fun K hK => ?_; simp (maxSteps := 1000000) (disch := omega) [-List.getD_eq_getElem?_getD]
          refine acall_is (f2 _) ?_; simp (maxSteps := 1000000) (disch := omega) [-List.getD_eq_getElem?_getD]
          refine acall_is (v2 _) ?_; simp (maxSteps := 1000000) (disch := omega) [-List.getD_eq_getElem?_getD]
          refine hK _ ?_; clear hK K
          refine aw_if rfl (fun h => ?_) (fun h => absurd h (by simp))
          refine aw_reg fun K hK => ?_; simp (maxSteps := 1000000) (disch := omega) [-List.getD_eq_getElem?_getD]; refine hK _ ?_; clear hK K
          refine aw_ret ?_; simp (maxSteps := 1000000) (disch := omega) [-List.getD_eq_getElem?_getD]
        | true =>
          refine aw_reg fun K hK => ?_; simp (maxSteps := 1000000) (disch := omega) [-List.getD_eq_getElem?_getD]
          refine acall_is (f2 _) ?_; simp (maxSteps := 1000000) (disch := omega) [-List.getD_eq_getElem?_getD]
          refine acall_is (v2 _) ?_; simp (maxSteps := 1000000) (disch := omega) [-List.getD_eq_getElem?_getD]
          refine hK _ ?_; clear hK K
          refine aw_if rfl (fun h => absurd h (by simp)) (fun h => ?_)
          refine aw_skip ?_; simp (maxSteps := 1000000) (disch := omega) [-List.getD_eq_getElem?_getD]
          refine hK4 _ ?_; clear hK4
          refine aw_reg0 fun K hK => ?_; simp (maxSteps := 1000000) (disch := omega) [-List.getD_eq_getElem?_getD]
          refine hK _ ?_; clear hK K
          refine ⟨2, ⟨by omega, fun _ => h2 (by omega), fun _ => rfl, fun h => absurd h (by omega)⟩, by show 3 - 2 < 3 - 1; omega, ?_⟩
          refine weak_to [] [] ?_ ?_ ?_ ?_ HO1 ?_
          all_goals simp
    · refine aw_reg fun K hK => ?_; simp (maxSteps := 1000000) (disch := omega) [-List.getD_eq_getElem?_getD]; refine hK _ ?_; clear hK K
      refine aw_then fun K3 hK3 => ?_
      refine aw_if rfl (fun h => ?_) (fun h => absurd h (by simp))
      refine aw_skip ?_; simp (maxSteps := 1000000) (disch := omega) [-List.getD_eq_getElem?_getD]
      refine hK3 _ ?_; clear hK3
      refine aw_then fun K4 hK4 => ?_
      refine aw_block ?_
      refine aw_reg fun K hK => ?_; simp (maxSteps := 1000000) (disch := omega) [-List.getD_eq_getElem?_getD]; refine hK _ ?_; clear hK K
      cases fc with
      | false =>
        refine aw_reg fun K hK => ?_; simp (maxSteps := 1000000) (disch := omega) [-List.getD_eq_getElem?_getD]
        refine acall_is (f3 _) ?_; simp (maxSteps := 1000000) (disch := omega) [-List.getD_eq_getElem?_getD]
        refine hK _ ?_; clear hK K
        refine aw_if rfl (fun h => ?_) (fun h => absurd h (by simp))
        refine aw_reg fun K hK => ?_; simp (maxSteps := 1000000) (disch := omega) [-List.getD_eq_getElem?_getD]; refine hK _ ?_; clear hK K
        refine aw_ret ?_; simp (maxSteps := 1000000) (disch := omega) [-List.getD_eq_getElem?_getD]
      | true =>
        have v3 := v3 rfl
        cases vc with
        | false =>
          refine aw_reg fun K hK => ?_; simp (maxSteps := 1000000) (disch := omega) [-List.getD_eq_getElem?_getD]
          refine acall_is (f3 _) ?_; simp (maxSteps := 1000000) (disch := omega) [-List.getD_eq_getElem?_getD]
          refine acall_is (v3 _) ?_; simp (maxSteps := 1000000) (disch := omega) [-List.getD_eq_getElem?_getD]
          refine hK _ ?_; clear hK K
          refine aw_if rfl (fun h => ?_) (fun h => absurd h (by simp))
          refine aw_reg fun K hK => ?_; simp (maxSteps := 1000000) (disch := omega) [-List.getD_eq_getElem?_getD]; refine hK _ ?_; clear hK K
          refine aw_ret ?_; simp (maxSteps := 1000000) (disch := omega) [-List.getD_eq_getElem?_getD]
        | true =>
          refine aw_reg fun K hK => ?_; simp (maxSteps := 1000000) (disch := omega) [-List.getD_eq_getElem?_getD]
          refine acall_is (f3 _) ?_; simp (maxSteps := 1000000) (disch := omega) [-List.getD_eq_getElem?_getD]
          refine acall_is (v3 _) ?_; simp (maxSteps := 1000000) (disch := omega) [-List.getD_eq_getElem?_getD]
          refine hK _ ?_; clear hK K
          refine aw_if rfl (fun h => absurd h (by simp)) (fun h => ?_)
          refine aw_skip ?_; simp (maxSteps := 1000000) (disch := omega) [-List.getD_eq_getElem?_getD]
          refine hK4 _ ?_; clear hK4
          refine aw_reg0 fun K hK => ?_; simp (maxSteps := 1000000) (disch := omega) [-List.getD_eq_getElem?_getD]
          refine hK _ ?_; clear hK K
          refine ⟨3, ⟨by omega, fun _ => h2 (by omega), fun _ => h3 (by omega), fun _ => rfl⟩, by show 3 - 3 < 3 - 2; omega, ?_⟩
          refine weak_to [] [] ?_ ?_ ?_ ?_ HO1 ?_
          all_goals simp
    · have e1 := h2 (by omega)
      have e2 := h3 (by omega)
      have e3 := h4 (by omega)
      subst e1
      subst e2
      subst e3
      replace q1 := q1 rfl rfl
      replace q2 := q2 rfl rfl
      replace q3 := q3 rfl rfl
      replace q4 := q4 rfl rfl
      replace q5 := q5 rfl rfl
      simp only [and_self, if_true] at q1 q2 q3 q4
      refine aw_reg fun K hK => ?_; simp (maxSteps := 1000000) (disch := omega) [-List.getD_eq_getElem?_getD]; refine hK _ ?_; clear hK K
      refine aw_then fun K3 hK3 => ?_
      refine aw_if rfl (fun h => absurd h (by simp)) (fun h => ?_)
      refine aw_exit ?_; simp (maxSteps := 1000000) (disch := omega) [-List.getD_eq_getElem?_getD]
      refine hK1 _ ?_; clear hK1
      refine aw_drawP (.both 6 7 (.both 7 8 (.leaf [6, 7, 8, 9, 10, 11] [0, 0, 0, 0, 0, 0, 0, 0, 0, 3, 4, 5] [[0, 1, 2, 3, 4, 5], [0, 1, 2, 3, 4, 5], [0, 1, 2, 3, 4, 5], [2, 3, 4, 5], [4, 5], []]) (.both 6 7 (.leaf [6, 7, 8, 9, 10, 11] [0, 0, 0, 0, 0, 0, 0, 0, 0, 3, 4, 5] [[0, 1, 2, 3, 4, 5], [0, 1, 2, 3, 4, 5], [0, 1, 2, 3, 4, 5], [2, 3, 4, 5], [4, 5], []]) (.leaf [6, 7, 8, 9, 10, 11] [0, 0, 0, 0, 0, 0, 0, 0, 0, 3, 4, 5] [[0, 1, 2, 3, 4, 5], [0, 1, 2, 3, 4, 5], [0, 1, 2, 3, 4, 5], [2, 3, 4, 5], [4, 5], []]))) (.both 7 8 (.leaf [6, 7, 8, 9, 10, 11] [0, 0, 0, 0, 0, 0, 0, 0, 0, 3, 4, 5] [[0, 1, 2, 3, 4, 5], [0, 1, 2, 3, 4, 5], [0, 1, 2, 3, 4, 5], [2, 3, 4, 5], [4, 5], []]) (.both 6 7 (.leaf [6, 7, 8, 9, 10, 11] [0, 0, 0, 0, 0, 0, 0, 0, 0, 3, 4, 5] [[0, 1, 2, 3, 4, 5], [0, 1, 2, 3, 4, 5], [0, 1, 2, 3, 4, 5], [2, 3, 4, 5], [4, 5], []]) (.leaf [6, 7, 8, 9, 10, 11] [0, 0, 0, 0, 0, 0, 0, 0, 0, 3, 4, 5] [[0, 1, 2, 3, 4, 5], [0, 1, 2, 3, 4, 5], [0, 1, 2, 3, 4, 5], [2, 3, 4, 5], [4, 5], []])))) drawMixed (by kernel_rfl) fun K hK => ?_
      have hcmb : (x = -1 ∧ y = -1 ∧ z = -1) ∨ (x = -1 ∧ y = 0 ∧ z = -1) ∨ (x = 0 ∧ y = -1 ∧ z = -1) ∨ (x = 0 ∧ y = 0 ∧ z = 0) ∨ (x = 0 ∧ y = 1 ∧ z = 1) ∨ (x = 1 ∧ y = 0 ∧ z = 1) ∨ (x = 1 ∧ y = 1 ∧ z = 1) ∨ (x = -1 ∧ y = 1) ∨ (x = 1 ∧ y = -1) := by
        obtain ⟨t1, t2, t3, t4⟩ := htr
        rcases hx3 with h | h | h <;> rcases hy3 with g | g | g
        · exact .inl ⟨h, g, by have := t3 (by rw [h]; decide) (by rw [g]; decide); omega⟩
        · exact .inr (.inl ⟨h, g, (t2 g).trans h⟩)
        · exact .inr (.inr (.inr (.inr (.inr (.inr (.inr (.inl ⟨h, g⟩)))))))
        · exact .inr (.inr (.inl ⟨h, g, (t1 h).trans g⟩))
        · exact .inr (.inr (.inr (.inl ⟨h, g, (t1 h).trans g⟩)))
        · exact .inr (.inr (.inr (.inr (.inl ⟨h, g, (t1 h).trans g⟩))))
        · exact .inr (.inr (.inr (.inr (.inr (.inr (.inr (.inr ⟨h, g⟩)))))))
        · exact .inr (.inr (.inr (.inr (.inr (.inl ⟨h, g, (t2 g).trans h⟩)))))
        · exact .inr (.inr (.inr (.inr (.inr (.inr (.inl ⟨h, g, by have := t4 (by rw [h]; decide) (by rw [g]; decide); omega⟩))))))
      subst han
      clear htr hx3 hy3
      have key : ∀ (e : Env) (G : List Blk) (i j k : Nat), G[i]? = some (.cells [.int .i64 a1, .str a2, .int .i64 a3, .str a4, .sl a5.length A .none, .int .i64 a6, .str a7]) → G[j]? = some (.cells [.int .i64 b1, .str b2, .int .i64 b3, .str b4, .sl b5.length B .none, .int .i64 b6, .str b7]) → G[k]? = some (.cells [.int .i64 c1, .str c2, .int .i64 c3, .str c4, .sl c5.length C .none, .int .i64 c6, .str c7]) → G[H.length]? = some (.cells [.int .i64 a1, .str a2, .int .i64 a3, .str a4, .sl a5.length A .none, .int .i64 a6, .str a7, .int .i64 b1, .str b2, .int .i64 b3, .str b4, .sl b5.length B .none, .int .i64 b6, .str b7, .int .i64 c1, .str c2, .int .i64 c3, .str c4, .sl c5.length C .none, .int .i64 c6, .str c7]) → HOk G [] → (∃ X, G = H ++ X) → envLe G.length 0 e [(1, .ptr H.length 0), (4, .ptr i 0), (5, .ptr j 0), (6, .ptr k 0)] → K ⟨e, G, []⟩ := by
        intro e G i j k hi hj hk hx hO hX he
        obtain ⟨X, hG⟩ := hX
        refine hK _ (aw_weak ⟨[(1, .ptr H.length 0), (4, .ptr i 0), (5, .ptr j 0), (6, .ptr k 0)], G, []⟩ (weak_to [] [] (by simp) (by simp) (by rw [hG]; simp) (by simp) hO he) ?_)
        clear hK K he
        replace q1 := q1 X
        replace q2 := q2 X
        replace q3 := q3 X
        replace q4 := q4 X
        replace q5 := q5 X
        rw [← hG] at q1 q2 q3 q4 q5
        exact order_tail x y z hcmb a1 a3 a6 b1 b3 b6 c1 c3 c6 a2 a4 a7 b2 b4 b7 c2 c4 c7 a5 b5 c5 A B C H G i j k hi hj hk hx hO ⟨X, hG⟩ q1 q2 q3 q4 q5
      clear hcmb q1 q2 q3 q4 q5 hK
      refine ⟨⟨?_, ?_, ?_⟩, ?_, ?_, ?_⟩
      all_goals (
        simp (maxSteps := 1000000) (disch := omega) [-List.getD_eq_getElem?_getD, Plan.ob, addE, swapE, relO, sw]
        first
          | (refine key _ _ (H.length + 1) (H.length + 2) (H.length + 3) ?_ ?_ ?_ ?_ (by rw [app3]; exact HOk.snoc (HOk.snoc (HOk.snoc HO1 (by simp [hsa, hsb, hsc])) (by simp [hsa, hsb, hsc])) (by simp [hsa, hsb, hsc])) ⟨_, rfl⟩ ?_ <;> (simp; done))
          | (refine key _ _ (H.length + 1) (H.length + 3) (H.length + 2) ?_ ?_ ?_ ?_ (by rw [app3]; exact HOk.snoc (HOk.snoc (HOk.snoc HO1 (by simp [hsa, hsb, hsc])) (by simp [hsa, hsb, hsc])) (by simp [hsa, hsb, hsc])) ⟨_, rfl⟩ ?_ <;> (simp; done))
          | (refine key _ _ (H.length + 2) (H.length + 1) (H.length + 3) ?_ ?_ ?_ ?_ (by rw [app3]; exact HOk.snoc (HOk.snoc (HOk.snoc HO1 (by simp [hsa, hsb, hsc])) (by simp [hsa, hsb, hsc])) (by simp [hsa, hsb, hsc])) ⟨_, rfl⟩ ?_ <;> (simp; done))
          | (refine key _ _ (H.length + 2) (H.length + 3) (H.length + 1) ?_ ?_ ?_ ?_ (by rw [app3]; exact HOk.snoc (HOk.snoc (HOk.snoc HO1 (by simp [hsa, hsb, hsc])) (by simp [hsa, hsb, hsc])) (by simp [hsa, hsb, hsc])) ⟨_, rfl⟩ ?_ <;> (simp; done))
          | (refine key _ _ (H.length + 3) (H.length + 1) (H.length + 2) ?_ ?_ ?_ ?_ (by rw [app3]; exact HOk.snoc (HOk.snoc (HOk.snoc HO1 (by simp [hsa, hsb, hsc])) (by simp [hsa, hsb, hsc])) (by simp [hsa, hsb, hsc])) ⟨_, rfl⟩ ?_ <;> (simp; done))
          | (refine key _ _ (H.length + 3) (H.length + 2) (H.length + 1) ?_ ?_ ?_ ?_ (by rw [app3]; exact HOk.snoc (HOk.snoc (HOk.snoc HO1 (by simp [hsa, hsb, hsc])) (by simp [hsa, hsb, hsc])) (by simp [hsa, hsb, hsc])) ⟨_, rfl⟩ ?_ <;> (simp; done)))
end Go.Proofs.YtnmlpohhommagaaGreatDoor
