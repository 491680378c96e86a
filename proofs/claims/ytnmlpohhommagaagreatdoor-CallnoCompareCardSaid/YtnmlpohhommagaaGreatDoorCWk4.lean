/- The order of call numbers and that of their keys (layer 52): the walk of the law.
   Conditions: lengths of the arguments below 2^63, as arguments have; the library's variables hold values of their types. -/
import Derived.Test.YtnmlpohhommagaaGreatDoorCFn14
import Derived.Test.YtnmlpohhommagaaGreatDoorCB
import Derived.Test.YtnmlpohhommagaaGreatDoorCRef1
import Derived.Test.YtnmlpohhommagaaGreatDoorLByt
import Derived.Test.YtnmlpohhommagaaGreatDoorAmDr2
namespace Go.Proofs.YtnmlpohhommagaaGreatDoor
open Go Go.Am Cn Lst
set_option linter.unusedVariables false
theorem app2 {H : List Blk} {x y a b : Blk} : H ++ [x, y, a, b] = (((H ++ [x]) ++ [y]) ++ [a]) ++ [b] := by simp

set_option maxRecDepth 100000 in
set_option maxHeartbeats 8000000 in
/-- CallnoCompare. -/
theorem compare_law (a b : Cl) (ha : a.cut.length ≤ 9223372036854775807) (hb : b.cut.length ≤ 9223372036854775807) (H : List Blk) (hL : Lb H) :
    ACall Tryz.prog 5 [.agg (clAV a .none), .agg (clAV b .none)] H [] (fun r H' _ => r = .bool true ∧ ∃ G, H' = H ++ G) := by
  have c0 := fun G => awake_ok (H ++ G) [] (hL.app G)
  have f1 := fun G => few_ok a .none ha (H ++ G) []
  have f2 := fun G => few_ok b .none hb (H ++ G) []
  have v1 := fun h G => validR_ok a .none (fewF_sm h) (H ++ G) []
  have v2 := fun h G => validR_ok b .none (fewF_sm h) (H ++ G) []
  have q1 := fun h1 h2 G => compareV_ok a b .none .none (fewF_sm h1) (fewF_sm h2) (H ++ G) []
  have q2 := fun h1 h2 G => compareR_ok a b .none .none (fewF_sm h1) (fewF_sm h2) (H ++ G) []
  have q3 := fun h1 h2 G => equalP_ok a b .none .none (fewF_sm h1) (fewF_sm h2) (H ++ G) []
  have q4 := fun h1 h2 G => equalR_ok a b .none .none (fewF_sm h1) (fewF_sm h2) (H ++ G) []
  have k1 := fun h G => keyP_ok a .none (fewF_sm h) (H ++ G) []
  have k2 := fun h G => keyP_ok b .none (fewF_sm h) (H ++ G) []
  have kc := fun G => compareB_ok (keyF a) (keyF b) .none .none (H ++ G) []
  have hko : validF a = true → validF b = true → Lib.compareBytes (keyF a) (keyF b) = compV a b := fun h1 h2 => by
    rw [key_order h1 h2]; unfold compV; rw [if_pos ⟨h1, h2⟩]
  have hz : decide (a = b) = (compF a b == 0) := by
    by_cases h : a = b
    · rw [decide_eq_true h, (compF_zero a b).2 h]; rfl
    · rw [decide_eq_false h]; exact (beq_eq_false_iff_ne.2 fun e => h ((compF_zero a b).1 e)).symm
  rw [hz] at q4
  have hsa : ∀ n t, BelowAll n t (strs a.cut) := fun n t => by simp
  have hsb : ∀ n t, BelowAll n t (strs b.cut) := fun n t => by simp
  generalize (compF a b == 0) = E at *
  generalize compV a b = x at *
  generalize fewF a = fa at *
  generalize fewF b = fb at *
  generalize validF a = va at *
  generalize validF b = vb at *
  generalize keyF a = ka at *
  generalize keyF b = kb at *
  clear hz
  obtain ⟨a1, a2, a3, a4, a5, a6, a7⟩ := a
  obtain ⟨b1, b2, b3, b4, b5, b6, b7⟩ := b
  simp only [clAV] at *
  generalize strs a5 = A at *
  generalize strs b5 = B at *
  refine acall_enter 8 [] Tryz.ntmps5 Tryz.func5 rfl (fun _ _ => Tryz.call5 _ _) (by simp) (fun HO => ?_)
  have HO1 : HOk (H ++ [.cells [.int .i64 a1, .str a2, .int .i64 a3, .str a4, .sl a5.length A .none, .int .i64 a6, .str a7]]) [] := HO.snoc (by simp [hsa])
  refine aw_reg fun K hK => ?_; simp (maxSteps := 1000000) (disch := omega) [-List.getD_eq_getElem?_getD]; refine hK _ ?_; clear hK K
  refine aw_then fun K1 hK1 => ?_
  refine aw_reg fun K hK => ?_; simp (maxSteps := 1000000) (disch := omega) [-List.getD_eq_getElem?_getD]
  refine acall_is (c0 _) ?_; simp (maxSteps := 1000000) (disch := omega) [-List.getD_eq_getElem?_getD]
  refine hK _ ?_; clear hK K
  refine aw_if rfl (fun h => absurd h (by simp)) (fun h => ?_)
  refine aw_skip ?_; simp (maxSteps := 1000000) (disch := omega) [-List.getD_eq_getElem?_getD]
  refine hK1 _ ?_; clear hK1
  refine aw_then fun K1 hK1 => ?_
  cases fa with
  | false =>
    refine aw_reg fun K hK => ?_; simp (maxSteps := 1000000) (disch := omega) [-List.getD_eq_getElem?_getD]
    refine acall_is (f1 _) ?_; simp (maxSteps := 1000000) (disch := omega) [-List.getD_eq_getElem?_getD]
    refine hK _ ?_; clear hK K
    refine aw_if rfl (fun h => ?_) (fun h => absurd h (by simp))
    refine aw_reg fun K hK => ?_; simp (maxSteps := 1000000) (disch := omega) [-List.getD_eq_getElem?_getD]; refine hK _ ?_; clear hK K
    refine aw_ret ?_; simp (maxSteps := 1000000) (disch := omega) [-List.getD_eq_getElem?_getD]
  | true =>
    cases fb with
    | false =>
      refine aw_reg fun K hK => ?_; simp (maxSteps := 1000000) (disch := omega) [-List.getD_eq_getElem?_getD]
      refine acall_is (f1 _) ?_; simp (maxSteps := 1000000) (disch := omega) [-List.getD_eq_getElem?_getD]
      refine acall_is (f2 _) ?_; simp (maxSteps := 1000000) (disch := omega) [-List.getD_eq_getElem?_getD]
      refine hK _ ?_; clear hK K
      refine aw_if rfl (fun h => ?_) (fun h => absurd h (by simp))
      refine aw_reg fun K hK => ?_; simp (maxSteps := 1000000) (disch := omega) [-List.getD_eq_getElem?_getD]; refine hK _ ?_; clear hK K
      refine aw_ret ?_; simp (maxSteps := 1000000) (disch := omega) [-List.getD_eq_getElem?_getD]
    | true =>
      replace v1 := v1 rfl
      replace v2 := v2 rfl
      replace q1 := q1 rfl rfl
      replace q2 := q2 rfl rfl
      replace q3 := q3 rfl rfl
      replace q4 := q4 rfl rfl
      replace k1 := k1 rfl
      replace k2 := k2 rfl
      refine aw_reg fun K hK => ?_; simp (maxSteps := 1000000) (disch := omega) [-List.getD_eq_getElem?_getD]
      refine acall_is (f1 _) ?_; simp (maxSteps := 1000000) (disch := omega) [-List.getD_eq_getElem?_getD]
      refine acall_is (f2 _) ?_; simp (maxSteps := 1000000) (disch := omega) [-List.getD_eq_getElem?_getD]
      refine hK _ ?_; clear hK K
      refine aw_if rfl (fun h => absurd h (by simp)) (fun h => ?_)
      refine aw_skip ?_; simp (maxSteps := 1000000) (disch := omega) [-List.getD_eq_getElem?_getD]
      refine hK1 _ ?_; clear hK1
      refine aw_draw2 2 3 [2, 3, 4, 5] [0, 0, 0, 1, 2, 3] [[0, 1], [0, 1], [1], []] [2, 3, 4, 5] [0, 0, 0, 1, 2, 3] [[0, 1], [0, 1], [1], []] drawMixed (by kernel_rfl) (by kernel_rfl) (by kernel_rfl) (by kernel_rfl) (by kernel_rfl) fun K hK => ?_
      have key : ∀ (e : Env) (G : List Blk) (i j : Nat), G[H.length]? = some (.cells [.int .i64 a1, .str a2, .int .i64 a3, .str a4, .sl a5.length A .none, .int .i64 a6, .str a7]) → G[H.length + 1]? = some (.cells [.int .i64 b1, .str b2, .int .i64 b3, .str b4, .sl b5.length B .none, .int .i64 b6, .str b7]) → G[i]? = some (.cells [.int .i64 a1, .str a2, .int .i64 a3, .str a4, .sl a5.length A .none, .int .i64 a6, .str a7]) → G[j]? = some (.cells [.int .i64 b1, .str b2, .int .i64 b3, .str b4, .sl b5.length B .none, .int .i64 b6, .str b7]) → HOk G [] → (∃ X, G = H ++ X) → envLe G.length 0 e [(2, .ptr H.length 0), (3, .ptr (H.length + 1) 0), (5, .ptr i 0), (6, .ptr j 0)] → K ⟨e, G, []⟩ := by
        intro e G i j ga gb hi hj hO hX he
        obtain ⟨X, hG⟩ := hX
        refine hK _ (aw_weak ⟨[(2, .ptr H.length 0), (3, .ptr (H.length + 1) 0), (5, .ptr i 0), (6, .ptr j 0)], G, []⟩ (weak_to [] [] (by simp) (by simp) (by rw [hG]; simp) (by simp) hO he) ?_)
        clear hK K he
        replace v1 := v1 X
        replace v2 := v2 X
        replace q1 := q1 X
        replace q2 := q2 X
        replace q3 := q3 X
        replace q4 := q4 X
        replace k1 := k1 X
        replace k2 := k2 X
        replace kc := kc X
        rw [← hG] at v1 v2 q1 q2 q3 q4 k1 k2 kc
        refine aw_reg fun K hK => ?_; simp (maxSteps := 1000000) (disch := omega) [-List.getD_eq_getElem?_getD, ga, gb, hi, hj]
        refine acall_is (q1) ?_; simp (maxSteps := 1000000) (disch := omega) [-List.getD_eq_getElem?_getD, ga, gb, hi, hj]
        refine hK _ ?_; clear hK K
        refine aw_then fun K1 hK1 => ?_
        refine aw_draw [] [] [] drawMixed (by kernel_rfl) (by kernel_rfl) fun K hK => ?_; simp (maxSteps := 1000000) (disch := omega) [-List.getD_eq_getElem?_getD, ga, gb, hi, hj]
        refine dcall_is (q2) rfl ?_; simp (maxSteps := 1000000) (disch := omega) [-List.getD_eq_getElem?_getD, ga, gb, hi, hj]
        refine dcall_is (q3) rfl ?_; simp (maxSteps := 1000000) (disch := omega) [-List.getD_eq_getElem?_getD, ga, gb, hi, hj]
        refine dcall_is (q4) rfl ?_; simp (maxSteps := 1000000) (disch := omega) [-List.getD_eq_getElem?_getD, ga, gb, hi, hj]
        refine hK _ ?_; clear hK K
        refine aw_if rfl (fun h => absurd h (by simp)) (fun h => ?_)
        refine aw_skip ?_; simp (maxSteps := 1000000) (disch := omega) [-List.getD_eq_getElem?_getD]
        refine hK1 _ ?_; clear hK1
        cases va with
        | false =>
          refine aw_draw [] [] [] drawMixed (by kernel_rfl) (by kernel_rfl) fun K hK => ?_; simp (maxSteps := 1000000) (disch := omega) [-List.getD_eq_getElem?_getD, ga, gb, hi, hj]
          refine dcall_is (v1) rfl ?_; simp (maxSteps := 1000000) (disch := omega) [-List.getD_eq_getElem?_getD, ga, gb, hi, hj]
          refine hK _ ?_; clear hK K
          refine aw_ret ?_; simp (maxSteps := 1000000) (disch := omega) [-List.getD_eq_getElem?_getD]
          exact ⟨X, hG⟩
        | true =>
          cases vb with
          | false =>
            refine aw_draw [] [] [] drawMixed (by kernel_rfl) (by kernel_rfl) fun K hK => ?_; simp (maxSteps := 1000000) (disch := omega) [-List.getD_eq_getElem?_getD, ga, gb, hi, hj]
            refine dcall_is (v1) rfl ?_; simp (maxSteps := 1000000) (disch := omega) [-List.getD_eq_getElem?_getD, ga, gb, hi, hj]
            refine dcall_is (v2) rfl ?_; simp (maxSteps := 1000000) (disch := omega) [-List.getD_eq_getElem?_getD, ga, gb, hi, hj]
            refine hK _ ?_; clear hK K
            refine aw_ret ?_; simp (maxSteps := 1000000) (disch := omega) [-List.getD_eq_getElem?_getD]
            exact ⟨X, hG⟩
          | true =>
            rw [hko rfl rfl] at kc
            refine aw_draw [] [] [] drawMixed (by kernel_rfl) (by kernel_rfl) fun K hK => ?_; simp (maxSteps := 1000000) (disch := omega) [-List.getD_eq_getElem?_getD, ga, gb, hi, hj]
            refine dcall_is (v1) rfl ?_; simp (maxSteps := 1000000) (disch := omega) [-List.getD_eq_getElem?_getD, ga, gb, hi, hj]
            refine dcall_is (v2) rfl ?_; simp (maxSteps := 1000000) (disch := omega) [-List.getD_eq_getElem?_getD, ga, gb, hi, hj]
            refine dcall_is (k1) rfl ?_; simp (maxSteps := 1000000) (disch := omega) [-List.getD_eq_getElem?_getD, ga, gb, hi, hj]
            refine dcall_is (k2) rfl ?_; simp (maxSteps := 1000000) (disch := omega) [-List.getD_eq_getElem?_getD, ga, gb, hi, hj]
            refine dcall_is (kc) rfl ?_; simp (maxSteps := 1000000) (disch := omega) [-List.getD_eq_getElem?_getD, ga, gb, hi, hj]
            refine hK _ ?_; clear hK K
            refine aw_ret ?_; simp (maxSteps := 1000000) (disch := omega) [-List.getD_eq_getElem?_getD]
            exact ⟨X, hG⟩
      have HO2 : HOk (H ++ [.cells [.int .i64 a1, .str a2, .int .i64 a3, .str a4, .sl a5.length A .none, .int .i64 a6, .str a7], .cells [.int .i64 b1, .str b2, .int .i64 b3, .str b4, .sl b5.length B .none, .int .i64 b6, .str b7]]) [] := by
        rw [show H ++ [.cells [.int .i64 a1, .str a2, .int .i64 a3, .str a4, .sl a5.length A .none, .int .i64 a6, .str a7], .cells [.int .i64 b1, .str b2, .int .i64 b3, .str b4, .sl b5.length B .none, .int .i64 b6, .str b7]] = (H ++ [.cells [.int .i64 a1, .str a2, .int .i64 a3, .str a4, .sl a5.length A .none, .int .i64 a6, .str a7]]) ++ [.cells [.int .i64 b1, .str b2, .int .i64 b3, .str b4, .sl b5.length B .none, .int .i64 b6, .str b7]] by simp]
        exact HOk.snoc HO1 (by simp [hsb])
      clear v1 v2 q1 q2 q3 q4 k1 k2 kc hK hko f1 f2 c0
      refine ⟨?_, ?_⟩
      all_goals (
        simp (maxSteps := 1000000) (disch := omega) [-List.getD_eq_getElem?_getD, addE, swapE, relO, sw]
        first
          | (refine key _ _ (H.length + 2) (H.length + 3) ?_ ?_ ?_ ?_ (by rw [app2]; exact HOk.snoc (HOk.snoc (by simpa using HO2) (by simp [hsa, hsb])) (by simp [hsa, hsb])) ⟨_, rfl⟩ ?_ <;> (simp; done))
          | (refine key _ _ (H.length + 3) (H.length + 2) ?_ ?_ ?_ ?_ (by rw [app2]; exact HOk.snoc (HOk.snoc (by simpa using HO2) (by simp [hsa, hsb])) (by simp [hsa, hsb])) ⟨_, rfl⟩ ?_ <;> (simp; done)))
end Go.Proofs.YtnmlpohhommagaaGreatDoor
