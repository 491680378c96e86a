/- Classes of call numbers (layer 52): the walk of the law.
   Conditions: lengths of the arguments below 2^63, as arguments have; the library's variables hold values of their types. -/
import Derived.Test.YtnmlpohhommagaaGreatDoorCFn14
import Derived.Test.YtnmlpohhommagaaGreatDoorCB
import Derived.Test.YtnmlpohhommagaaGreatDoorCRef4
import Derived.Test.YtnmlpohhommagaaGreatDoorAmDr2
namespace Go.Proofs.YtnmlpohhommagaaGreatDoor
open Go Go.Am Cn Lst
set_option linter.unusedVariables false
theorem app2w {H : List Blk} {x y a b : Blk} : H ++ [x, y, a, b] = (((H ++ [x]) ++ [y]) ++ [a]) ++ [b] := by simp

set_option maxRecDepth 100000 in
set_option maxHeartbeats 8000000 in
/-- CallnoWithin. -/
theorem within_law (a b : Cl) (ha : a.cut.length ≤ 9223372036854775807) (hb : b.cut.length ≤ 9223372036854775807) (H : List Blk) (hL : Lb H) :
    ACall Tryz.prog 8 [.agg (clAV a .none), .agg (clAV b .none)] H [] (fun r H' _ => r = .bool true ∧ ∃ G, H' = H ++ G) := by
  have c0 := fun G => awake_ok (H ++ G) [] (hL.app G)
  have f1 := fun G => few_ok a .none ha (H ++ G) []
  have f2 := fun G => few_ok b .none hb (H ++ G) []
  have v1 := fun h G => validR_ok a .none (fewF_sm h) (H ++ G) []
  have w1 := fun h1 h2 G => withinP_ok a b .none .none (fewF_sm h1) (fewF_sm h2) (H ++ G) []
  have w2 := fun h1 h2 G => withinR_ok a b .none .none (fewF_sm h1) (fewF_sm h2) (H ++ G) []
  have e1 := fun h G => endsP_ok b .none (fewF_sm h) (H ++ G) []
  have e2 := fun h G => endsR_ok b .none (fewF_sm h) (H ++ G) []
  have b1 := fun G => bytesEq_ok (endsF b).1 (endsF b).1 .none .none (H ++ G) []
  have b2 := fun G => bytesEq_ok (endsF b).2.1 (endsF b).2.1 .none .none (H ++ G) []
  have k1 := fun h G => keyP_ok a .none (fewF_sm h) (H ++ G) []
  have kc1 := fun G => compareB_ok (endsF b).1 (keyF a) .none .none (H ++ G) []
  have kc2 := fun G => compareB_ok (keyF a) (endsF b).2.1 .none .none (H ++ G) []
  have q1 := fun h1 h2 G => compareV_ok b a .none .none (fewF_sm h2) (fewF_sm h1) (H ++ G) []
  rw [beq_self_eq_true] at b1 b2
  have hno : (endsF b).2.2 ≠ 0 ∨ validF a = false → withinF a b = false := fun h => by
    unfold withinF
    rcases h with h | h
    · have : classF b = false := by
        cases hc : classF b with
        | false => rfl
        | true => exact absurd (by unfold endsF; rw [if_pos hc]) h
      rw [this]; simp
    · rw [h]; simp
  have hyes : (endsF b).2.2 = 0 → validF a = true → (decide (Lib.compareBytes (endsF b).1 (keyF a) ≤ 0) && decide (Lib.compareBytes (keyF a) (endsF b).2.1 < 0)) = withinF a b ∧ (withinF a b = true → compV b a ≤ 0) := fun h1 h2 => by
    have hc : classF b = true := by
      cases hc : classF b with
      | true => rfl
      | false => unfold endsF at h1; rw [if_neg (by rw [hc]; simp)] at h1; exact absurd h1 (by decide)
    refine ⟨?_, fun hw => ?_⟩
    · rw [← within_ends h2 hc]; unfold endsF; rw [if_pos hc]
    · have := within_le h2 hw
      unfold compV
      rw [if_pos ⟨(class_parts hc).1, h2⟩]
      exact this
  have hsa : ∀ n t, BelowAll n t (strs a.cut) := fun n t => by simp
  have hsb : ∀ n t, BelowAll n t (strs b.cut) := fun n t => by simp
  have hbe : ∀ n t x, BelowAll n t (encB x) := fun n t x => by simp
  generalize Lib.compareBytes (endsF b).1 (keyF a) = p at *
  generalize Lib.compareBytes (keyF a) (endsF b).2.1 = q at *
  generalize compV b a = x at *
  generalize withinF a b = W at *
  generalize endsF b = ed at *
  obtain ⟨lo, hi', er⟩ := ed
  generalize fewF a = fa at *
  generalize fewF b = fb at *
  generalize validF a = va at *
  generalize keyF a = ka at *
  obtain ⟨a1, a2, a3, a4, a5, a6, a7⟩ := a
  obtain ⟨b1', b2', b3', b4', b5', b6', b7'⟩ := b
  simp only [clAV] at *
  generalize strs a5 = A at *
  generalize strs b5' = B at *
  refine acall_enter 15 [] Tryz.ntmps8 Tryz.func8 rfl (fun _ _ => Tryz.call8 _ _) (by simp) (fun HO => ?_)
  have HO1 : HOk (H ++ [.cells [.int .i64 a1, .str a2, .int .i64 a3, .str a4, .sl a5.length A .none, .int .i64 a6, .str a7]]) [] := HO.snoc (by simp [hsa])
  refine aw_reg fun K hK => ?_; simp (maxSteps := 1000000) (disch := omega) [-List.getD_eq_getElem?_getD]; refine hK _ ?_; clear hK K
  refine aw_then fun K1 hK1 => ?_
  refine aw_reg fun K hK => ?_; simp (maxSteps := 1000000) (disch := omega) [-List.getD_eq_getElem?_getD]
  refine acall_is (c0 _) ?_; simp (maxSteps := 1000000) (disch := omega) [-List.getD_eq_getElem?_getD]
  refine hK _ ?_; clear hK K
  refine aw_if rfl (fun h => absurd h (by simp)) (fun h => ?_)
  refine aw_skip ?_; simp (maxSteps := 1000000) (disch := omega) [-List.getD_eq_getElem?_getD]
  refine hK1 _ ?_; clear hK1
  refine aw_then fun K1 hK1 => ?_
  cases fa with
  | false =>
    refine aw_reg fun K hK => ?_; simp (maxSteps := 1000000) (disch := omega) [-List.getD_eq_getElem?_getD]
    refine acall_is (f1 _) ?_; simp (maxSteps := 1000000) (disch := omega) [-List.getD_eq_getElem?_getD]
    refine hK _ ?_; clear hK K
    refine aw_if rfl (fun h => ?_) (fun h => absurd h (by simp))
    refine aw_reg fun K hK => ?_; simp (maxSteps := 1000000) (disch := omega) [-List.getD_eq_getElem?_getD]; refine hK _ ?_; clear hK K
    refine aw_ret ?_; simp (maxSteps := 1000000) (disch := omega) [-List.getD_eq_getElem?_getD]
  | true =>
    cases fb with
    | false =>
      refine aw_reg fun K hK => ?_; simp (maxSteps := 1000000) (disch := omega) [-List.getD_eq_getElem?_getD]
      refine acall_is (f1 _) ?_; simp (maxSteps := 1000000) (disch := omega) [-List.getD_eq_getElem?_getD]
      refine acall_is (f2 _) ?_; simp (maxSteps := 1000000) (disch := omega) [-List.getD_eq_getElem?_getD]
      refine hK _ ?_; clear hK K
      refine aw_if rfl (fun h => ?_) (fun h => absurd h (by simp))
      refine aw_reg fun K hK => ?_; simp (maxSteps := 1000000) (disch := omega) [-List.getD_eq_getElem?_getD]; refine hK _ ?_; clear hK K
      refine aw_ret ?_; simp (maxSteps := 1000000) (disch := omega) [-List.getD_eq_getElem?_getD]
    | true =>
      replace v1 := v1 rfl
      replace w1 := w1 rfl rfl
      replace w2 := w2 rfl rfl
      replace e1 := e1 rfl
      replace e2 := e2 rfl
      replace k1 := k1 rfl
      replace q1 := q1 rfl rfl
      refine aw_reg fun K hK => ?_; simp (maxSteps := 1000000) (disch := omega) [-List.getD_eq_getElem?_getD]
      refine acall_is (f1 _) ?_; simp (maxSteps := 1000000) (disch := omega) [-List.getD_eq_getElem?_getD]
      refine acall_is (f2 _) ?_; simp (maxSteps := 1000000) (disch := omega) [-List.getD_eq_getElem?_getD]
      refine hK _ ?_; clear hK K
      refine aw_if rfl (fun h => absurd h (by simp)) (fun h => ?_)
      refine aw_skip ?_; simp (maxSteps := 1000000) (disch := omega) [-List.getD_eq_getElem?_getD]
      refine hK1 _ ?_; clear hK1
      refine aw_draw2 2 3 [2, 3, 4, 5] [0, 0, 0, 1, 2, 3] [[0, 1], [0, 1], [1], []] [2, 3, 4, 5] [0, 0, 0, 1, 2, 3] [[0, 1], [0, 1], [1], []] drawMixed (by kernel_rfl) (by kernel_rfl) (by kernel_rfl) (by kernel_rfl) (by kernel_rfl) fun K hK => ?_
      have key : ∀ (e : Env) (G : List Blk) (i j : Nat), G[H.length]? = some (.cells [.int .i64 a1, .str a2, .int .i64 a3, .str a4, .sl a5.length A .none, .int .i64 a6, .str a7]) → G[H.length + 1]? = some (.cells [.int .i64 b1', .str b2', .int .i64 b3', .str b4', .sl b5'.length B .none, .int .i64 b6', .str b7']) → G[i]? = some (.cells [.int .i64 a1, .str a2, .int .i64 a3, .str a4, .sl a5.length A .none, .int .i64 a6, .str a7]) → G[j]? = some (.cells [.int .i64 b1', .str b2', .int .i64 b3', .str b4', .sl b5'.length B .none, .int .i64 b6', .str b7']) → HOk G [] → (∃ X, G = H ++ X) → envLe G.length 0 e [(2, .ptr H.length 0), (3, .ptr (H.length + 1) 0), (5, .ptr i 0), (6, .ptr j 0)] → K ⟨e, G, []⟩ := by
        intro e G i j ga gb hi hj hO hX he
        obtain ⟨X, hG⟩ := hX
        refine hK _ (aw_weak ⟨[(2, .ptr H.length 0), (3, .ptr (H.length + 1) 0), (5, .ptr i 0), (6, .ptr j 0)], G, []⟩ (weak_to [] [] (by simp) (by simp) (by rw [hG]; simp) (by simp) hO he) ?_)
        clear hK K he
        replace v1 := v1 X
        replace w1 := w1 X
        replace w2 := w2 X
        replace e1 := e1 X
        replace e2 := e2 X
        replace b1 := b1 X
        replace b2 := b2 X
        replace k1 := k1 X
        replace kc1 := kc1 X
        replace kc2 := kc2 X
        replace q1 := q1 X
        rw [← hG] at v1 w1 w2 e1 e2 b1 b2 k1 kc1 kc2 q1
        refine aw_reg fun K hK => ?_; simp (maxSteps := 1000000) (disch := omega) [-List.getD_eq_getElem?_getD, hi, hj]
        refine acall_is (w1) ?_; simp (maxSteps := 1000000) (disch := omega) [-List.getD_eq_getElem?_getD]
        refine hK _ ?_; clear hK K
        refine aw_reg fun K hK => ?_; simp (maxSteps := 1000000) (disch := omega) [-List.getD_eq_getElem?_getD, hj]
        refine acall_is (e1) ?_; simp (maxSteps := 1000000) (disch := omega) [-List.getD_eq_getElem?_getD]
        refine hK _ ?_; clear hK K
        refine aw_reg fun K hK => ?_; simp (maxSteps := 1000000) (disch := omega) [-List.getD_eq_getElem?_getD, gb]
        refine acall_is (e2) ?_; simp (maxSteps := 1000000) (disch := omega) [-List.getD_eq_getElem?_getD]
        refine hK _ ?_; clear hK K
        refine aw_then fun K1 hK1 => ?_
        refine aw_reg fun K hK => ?_; simp (maxSteps := 1000000) (disch := omega) [-List.getD_eq_getElem?_getD, ga, gb]
        refine acall_is (w2) ?_; simp (maxSteps := 1000000) (disch := omega) [-List.getD_eq_getElem?_getD]
        refine acall_is (b1) ?_; simp (maxSteps := 1000000) (disch := omega) [-List.getD_eq_getElem?_getD]
        refine acall_is (b2) ?_; simp (maxSteps := 1000000) (disch := omega) [-List.getD_eq_getElem?_getD]
        refine hK _ ?_; clear hK K
        refine aw_if rfl (fun h => absurd h (by simp)) (fun h => ?_)
        refine aw_skip ?_; simp (maxSteps := 1000000) (disch := omega) [-List.getD_eq_getElem?_getD]
        refine hK1 _ ?_; clear hK1
        refine aw_then fun K1 hK1 => ?_
        by_cases her : er = 0
        rotate_left
        · have n1 : (er == 0) = false := beq_eq_false_iff_ne.2 her
          have n2 : (er != 0) = true := bne_iff_ne.2 her
          obtain rfl := hno (.inl her)
          refine aw_reg fun K hK => ?_; simp (maxSteps := 1000000) (disch := omega) [-List.getD_eq_getElem?_getD, n2]
          refine hK _ ?_; clear hK K
          refine aw_if rfl (fun h => ?_) (fun h => absurd h (by simp [her]))
          refine aw_reg fun K hK => ?_; simp (maxSteps := 1000000) (disch := omega) [-List.getD_eq_getElem?_getD]; refine hK _ ?_; clear hK K
          refine aw_ret ?_; simp (maxSteps := 1000000) (disch := omega) [-List.getD_eq_getElem?_getD]
          exact ⟨X, hG⟩
        subst her
        cases va with
        | false =>
          obtain rfl := hno (.inr rfl)
          refine aw_reg fun K hK => ?_; simp (maxSteps := 1000000) (disch := omega) [-List.getD_eq_getElem?_getD, ga]
          refine acall_is (v1) ?_; simp (maxSteps := 1000000) (disch := omega) [-List.getD_eq_getElem?_getD]
          refine hK _ ?_; clear hK K
          refine aw_if rfl (fun h => ?_) (fun h => absurd h (by simp))
          refine aw_reg fun K hK => ?_; simp (maxSteps := 1000000) (disch := omega) [-List.getD_eq_getElem?_getD]; refine hK _ ?_; clear hK K
          refine aw_ret ?_; simp (maxSteps := 1000000) (disch := omega) [-List.getD_eq_getElem?_getD]
          exact ⟨X, hG⟩
        | true =>
          obtain ⟨g1, g2⟩ := hyes rfl rfl
          refine aw_reg fun K hK => ?_; simp (maxSteps := 1000000) (disch := omega) [-List.getD_eq_getElem?_getD, ga]
          refine acall_is (v1) ?_; simp (maxSteps := 1000000) (disch := omega) [-List.getD_eq_getElem?_getD]
          refine hK _ ?_; clear hK K
          refine aw_if rfl (fun h => absurd h (by simp)) (fun h => ?_)
          refine aw_skip ?_; simp (maxSteps := 1000000) (disch := omega) [-List.getD_eq_getElem?_getD]
          refine hK1 _ ?_; clear hK1
          refine aw_reg fun K hK => ?_; simp (maxSteps := 1000000) (disch := omega) [-List.getD_eq_getElem?_getD, hi]
          refine acall_is (k1) ?_; simp (maxSteps := 1000000) (disch := omega) [-List.getD_eq_getElem?_getD]
          refine hK _ ?_; clear hK K
          by_cases hp : p ≤ 0
          · have p1 : decide (p ≤ 0) = true := decide_eq_true hp
            by_cases hq : q < 0
            · have p2 : decide (q < 0) = true := decide_eq_true hq
              rw [p1, p2] at g1
              obtain rfl : W = true := g1.symm
              have hx := g2 rfl
              have p3 : decide (x ≤ 0) = true := decide_eq_true hx
              refine aw_reg fun K hK => ?_; simp (maxSteps := 1000000) (disch := omega) [-List.getD_eq_getElem?_getD]
              refine acall_is (kc1) ?_; simp (maxSteps := 1000000) (disch := omega) [-List.getD_eq_getElem?_getD, hp]
              refine acall_is (kc2) ?_; simp (maxSteps := 1000000) (disch := omega) [-List.getD_eq_getElem?_getD, hi, hj, hq]
              refine acall_is (q1) ?_; simp (maxSteps := 1000000) (disch := omega) [-List.getD_eq_getElem?_getD, hx]
              refine hK _ ?_; clear hK K
              refine aw_ret ?_; simp (maxSteps := 1000000) (disch := omega) [-List.getD_eq_getElem?_getD]
              exact ⟨X, hG⟩
            · have p2 : decide (q < 0) = false := decide_eq_false hq
              rw [p1, p2] at g1
              obtain rfl : W = false := g1.symm
              refine aw_reg fun K hK => ?_; simp (maxSteps := 1000000) (disch := omega) [-List.getD_eq_getElem?_getD]
              refine acall_is (kc1) ?_; simp (maxSteps := 1000000) (disch := omega) [-List.getD_eq_getElem?_getD, hp]
              refine acall_is (kc2) ?_; simp (maxSteps := 1000000) (disch := omega) [-List.getD_eq_getElem?_getD, hq]
              refine hK _ ?_; clear hK K
              refine aw_ret ?_; simp (maxSteps := 1000000) (disch := omega) [-List.getD_eq_getElem?_getD]
              exact ⟨X, hG⟩
          · have p1 : decide (p ≤ 0) = false := decide_eq_false hp
            rw [p1, Bool.false_and] at g1
            obtain rfl : W = false := g1.symm
            refine aw_reg fun K hK => ?_; simp (maxSteps := 1000000) (disch := omega) [-List.getD_eq_getElem?_getD]
            refine acall_is (kc1) ?_; simp (maxSteps := 1000000) (disch := omega) [-List.getD_eq_getElem?_getD, hp]
            refine hK _ ?_; clear hK K
            refine aw_ret ?_; simp (maxSteps := 1000000) (disch := omega) [-List.getD_eq_getElem?_getD]
            exact ⟨X, hG⟩
      have HO2 : HOk (H ++ [.cells [.int .i64 a1, .str a2, .int .i64 a3, .str a4, .sl a5.length A .none, .int .i64 a6, .str a7], .cells [.int .i64 b1', .str b2', .int .i64 b3', .str b4', .sl b5'.length B .none, .int .i64 b6', .str b7']]) [] := by
        rw [show H ++ [.cells [.int .i64 a1, .str a2, .int .i64 a3, .str a4, .sl a5.length A .none, .int .i64 a6, .str a7], .cells [.int .i64 b1', .str b2', .int .i64 b3', .str b4', .sl b5'.length B .none, .int .i64 b6', .str b7']] = (H ++ [.cells [.int .i64 a1, .str a2, .int .i64 a3, .str a4, .sl a5.length A .none, .int .i64 a6, .str a7]]) ++ [.cells [.int .i64 b1', .str b2', .int .i64 b3', .str b4', .sl b5'.length B .none, .int .i64 b6', .str b7']] by simp]
        exact HOk.snoc HO1 (by simp [hsb])
      clear v1 w1 w2 e1 e2 b1 b2 k1 kc1 kc2 q1 hK hno hyes f1 f2 c0
      refine ⟨?_, ?_⟩
      all_goals (
        simp (maxSteps := 1000000) (disch := omega) [-List.getD_eq_getElem?_getD, addE, swapE, relO, sw]
        first
          | (refine key _ _ (H.length + 2) (H.length + 3) ?_ ?_ ?_ ?_ (by rw [app2w]; exact HOk.snoc (HOk.snoc (by simpa using HO2) (by simp [hsa, hsb])) (by simp [hsa, hsb])) ⟨_, rfl⟩ ?_ <;> (simp; done))
          | (refine key _ _ (H.length + 3) (H.length + 2) ?_ ?_ ?_ ?_ (by rw [app2w]; exact HOk.snoc (HOk.snoc (by simpa using HO2) (by simp [hsa, hsb])) (by simp [hsa, hsb])) ⟨_, rfl⟩ ?_ <;> (simp; done)))
end Go.Proofs.YtnmlpohhommagaaGreatDoor
