/- Ends (layer 52): the program's walk and the reference's; bytes.Equal.
   Conditions: small parts. -/
import Derived.Test.YtnmlpohhommagaaGreatDoorCRef3
import Derived.Test.YtnmlpohhommagaaGreatDoorLByt
namespace Go.Proofs.YtnmlpohhommagaaGreatDoor
open Go Go.Am Cn Lst
set_option linter.unusedVariables false

set_option maxRecDepth 100000 in
theorem bytesEq_ok (x y : List UInt8) (t1 t2 : Tag) (H : List Blk) (T : Toks) :
    ACall Tryz.prog 28 [.sl x.length (encB x) t1, .sl y.length (encB y) t2] H T (Is (.bool (x == y)) H T) := by
  refine ACall.untag1 (ACall.untag2 ?_)
  show ACall _ _ [.sl x.length (encB x) .none, .sl y.length (encB y) .none] _ _ _
  refine acall_enter 5 [] Tryz.ntmps28 Tryz.func28 rfl (fun _ _ => Tryz.call28 _ _) (by simp) (fun HO => ?_)
  refine aw_reg fun K hK => ?_; simp (maxSteps := 1000000) (disch := omega) [-List.getD_eq_getElem?_getD]; refine hK _ ?_; clear hK K
  refine aw_reg fun K hK => ?_; simp (maxSteps := 1000000) (disch := omega) [-List.getD_eq_getElem?_getD]; refine hK _ ?_; clear hK K
  refine aw_ret ?_; simp (maxSteps := 1000000) (disch := omega) [-List.getD_eq_getElem?_getD]
  exact ⟨rfl, rfl, rfl⟩

set_option maxRecDepth 100000 in
set_option maxHeartbeats 4000000 in
theorem endsP_ok (c : Cl) (tg : Tag) (hc : Sm c) (H : List Blk) (T : Toks) :
    ACall Tryz.prog 25 [.agg (clAV c tg)] H T (Is (.tup [.sl (endsF c).1.length (encB (endsF c).1) .none, .sl (endsF c).2.1.length (encB (endsF c).2.1) .none, .int .i64 (endsF c).2.2]) H T) := by
  refine callCl1 tg ?_
  refine ACall.dropT ?_ (by simp)
  have cv := classP_ok c .none hc (H ++ [.cells (clAV c .none)]) T
  have hbS : ∀ n t, BelowAll n t (strs c.cut) := fun n t => by simp
  unfold endsF
  cases hv : classF c with
  | false =>
    rw [hv] at cv
    rw [if_neg (by simp)]
    obtain ⟨sch, cls, num, dec, cut, yr, rest⟩ := c
    simp only [clAV] at *
    generalize strs cut = S at *
    refine acall_enter 5 [] Tryz.ntmps25 Tryz.func25 rfl (fun _ _ => Tryz.call25 _ _) (by simp) (fun HO => ?_)
    refine aw_reg fun K hK => ?_; simp (maxSteps := 1000000) (disch := omega) [-List.getD_eq_getElem?_getD]; refine hK _ ?_; clear hK K
    refine aw_then fun K1 hK1 => ?_
    refine aw_reg fun K hK => ?_; simp (maxSteps := 1000000) (disch := omega) [-List.getD_eq_getElem?_getD]
    refine acall_is (cv) ?_; simp (maxSteps := 1000000) (disch := omega) [-List.getD_eq_getElem?_getD]
    refine hK _ ?_; clear hK K
    refine aw_if rfl (fun h => ?_) (fun h => absurd h (by simp))
    refine aw_reg fun K hK => ?_; simp (maxSteps := 1000000) (disch := omega) [-List.getD_eq_getElem?_getD]; refine hK _ ?_; clear hK K
    refine aw_ret ?_; simp (maxSteps := 1000000) (disch := omega) [-List.getD_eq_getElem?_getD]
  | true =>
    rw [hv] at cv
    rw [if_pos rfl]
    have ck := fun T => keyP_ok c .none hc (H ++ [.cells (clAV c .none)]) T
    have cb := fun T => beginP_ok c .none (class_parts hv).1 (H ++ [.cells (clAV c .none)]) T
    have hBl := begF_len c hc
    generalize keyF c = K at *
    generalize begF c = B at *
    obtain ⟨sch, cls, num, dec, cut, yr, rest⟩ := c
    simp only [clAV] at *
    generalize strs cut = S at *
    have e1 : ∀ x : List UInt8, encB x ++ [AV.int .u8 58] = encB (x ++ [58]) := fun x => by simp [encB]
    have el : ∀ x : List UInt8, (encB x).length = x.length := fun x => by simp [encB]
    refine acall_enter 5 [] Tryz.ntmps25 Tryz.func25 rfl (fun _ _ => Tryz.call25 _ _) (by simp) (fun HO => ?_)
    refine aw_reg fun K hK => ?_; simp (maxSteps := 1000000) (disch := omega) [-List.getD_eq_getElem?_getD]; refine hK _ ?_; clear hK K
    refine aw_then fun K1 hK1 => ?_
    refine aw_reg fun K hK => ?_; simp (maxSteps := 1000000) (disch := omega) [-List.getD_eq_getElem?_getD]
    refine acall_is (cv) ?_; simp (maxSteps := 1000000) (disch := omega) [-List.getD_eq_getElem?_getD]
    refine hK _ ?_; clear hK K
    refine aw_if rfl (fun h => absurd h (by simp)) (fun h => ?_)
    refine aw_skip ?_; simp (maxSteps := 1000000) (disch := omega) [-List.getD_eq_getElem?_getD]
    refine hK1 _ ?_; clear hK1
    refine aw_draw [3, 5] [0, 0, 0, 0, 0, 1, 2, 2, 2] [[], []] drawMixed (by kernel_rfl) (by kernel_rfl) fun K hK => ?_; simp (maxSteps := 1000000) (disch := omega) [-List.getD_eq_getElem?_getD]
    refine dcall_is (ck _) rfl ?_; simp (maxSteps := 1000000) (disch := omega) [-List.getD_eq_getElem?_getD]
    refine dcall_eff (cb _) rfl ?_; simp (maxSteps := 1000000) (disch := omega) [-List.getD_eq_getElem?_getD, e1, el]
    refine hK _ ?_; clear hK K
    refine aw_ret ?_; simp (maxSteps := 1000000) (disch := omega) [-List.getD_eq_getElem?_getD]

set_option maxRecDepth 100000 in
set_option maxHeartbeats 8000000 in
theorem endsR_ok (c : Cl) (tg : Tag) (hc : Sm c) (H : List Blk) (T : Toks) :
    ACall Tryz.prog 26 [.agg (clAV c tg)] H T (Is (.tup [.sl (endsF c).1.length (encB (endsF c).1) .none, .sl (endsF c).2.1.length (encB (endsF c).2.1) .none, .int .i64 (endsF c).2.2]) H T) := by
  refine callCl1 tg ?_
  refine ACall.dropT ?_ (by simp)
  have cv := classR_ok c .none hc (H ++ [.cells (clAV c .none)]) T
  have hbS : ∀ n t, BelowAll n t (strs c.cut) := fun n t => by simp
  unfold endsF
  cases hv : classF c with
  | false =>
    rw [hv] at cv
    rw [if_neg (by simp)]
    obtain ⟨sch, cls, num, dec, cut, yr, rest⟩ := c
    simp only [clAV] at *
    generalize strs cut = S at *
    refine acall_enter 6 [] Tryz.ntmps26 Tryz.func26 rfl (fun _ _ => Tryz.call26 _ _) (by simp) (fun HO => ?_)
    refine aw_reg fun K hK => ?_; simp (maxSteps := 1000000) (disch := omega) [-List.getD_eq_getElem?_getD]; refine hK _ ?_; clear hK K
    refine aw_then fun K1 hK1 => ?_
    refine aw_reg fun K hK => ?_; simp (maxSteps := 1000000) (disch := omega) [-List.getD_eq_getElem?_getD]
    refine acall_is (cv) ?_; simp (maxSteps := 1000000) (disch := omega) [-List.getD_eq_getElem?_getD]
    refine hK _ ?_; clear hK K
    refine aw_if rfl (fun h => ?_) (fun h => absurd h (by simp))
    refine aw_reg fun K hK => ?_; simp (maxSteps := 1000000) (disch := omega) [-List.getD_eq_getElem?_getD]; refine hK _ ?_; clear hK K
    refine aw_ret ?_; simp (maxSteps := 1000000) (disch := omega) [-List.getD_eq_getElem?_getD]
  | true =>
    rw [hv] at cv
    rw [if_pos rfl]
    have hvv := (class_parts hv).1
    have ck := fun T => keyR_ok c .none hc (H ++ [.cells (clAV c .none)]) T
    have hB := begF_two c
    have hnv := valid_num hvv
    have hdl := hc.dec
    have hsl := hc.cls
    have hsc : c.sch = 1 ∨ c.sch = 2 := by rcases valid_sch hvv with h | h <;> simp [h.1]
    have tw1 := fun T => twoR_ok c.num.toNat (by omega) (H ++ [.cells (clAV c .none)]) T
    have hW1 : (twoF c.num.toNat).length = 2 := rfl
    clear hc hv hvv
    generalize keyF c = K at *
    generalize begF c = B at *
    generalize twoF c.num.toNat = W1 at *
    obtain ⟨sch, cls, num, dec, cut, yr, rest⟩ := c
    simp only [clAV] at *
    generalize strs cut = S at *
    obtain ⟨u, rfl⟩ : ∃ u : Nat, num = (u : Int) := ⟨num.toNat, by omega⟩
    obtain ⟨k, rfl⟩ : ∃ k : Nat, sch = (k : Int) := ⟨sch.toNat, by omega⟩
    rw [Int.toNat_natCast] at *
    have h4 : (k : Int) % 256 = (k : Int) := by omega
    have e0 : ∀ x : List UInt8, AV.int .u8 (k : Int) :: encB x = encB (UInt8.ofNat k :: x) := fun x => by
      simp only [encB, List.map_cons, List.cons.injEq, and_true, AV.int.injEq, true_and]
      rw [UInt8.toNat_ofNat']; omega
    have e1 : ∀ x : List UInt8, encB x ++ [AV.int .u8 1] = encB (x ++ [1]) := fun x => by simp [encB]
    have e2 : ∀ x : List UInt8, encB x ++ [AV.int .u8 58] = encB (x ++ [58]) := fun x => by simp [encB]
    have ea : ∀ x y : List UInt8, encB x ++ encB y = encB (x ++ y) := fun x y => by simp [encB]
    have el : ∀ x : List UInt8, (encB x).length = x.length := fun x => by simp [encB]
    refine acall_enter 6 [] Tryz.ntmps26 Tryz.func26 rfl (fun _ _ => Tryz.call26 _ _) (by simp) (fun HO => ?_)
    refine aw_reg fun K hK => ?_; simp (maxSteps := 1000000) (disch := omega) [-List.getD_eq_getElem?_getD]; refine hK _ ?_; clear hK K
    refine aw_then fun K1 hK1 => ?_
    refine aw_reg fun K hK => ?_; simp (maxSteps := 1000000) (disch := omega) [-List.getD_eq_getElem?_getD]
    refine acall_is (cv) ?_; simp (maxSteps := 1000000) (disch := omega) [-List.getD_eq_getElem?_getD]
    refine hK _ ?_; clear hK K
    refine aw_if rfl (fun h => absurd h (by simp)) (fun h => ?_)
    refine aw_skip ?_; simp (maxSteps := 1000000) (disch := omega) [-List.getD_eq_getElem?_getD]
    refine hK1 _ ?_; clear hK1
    refine aw_reg fun K hK => ?_; simp (maxSteps := 1000000) (disch := omega) [-List.getD_eq_getElem?_getD, e0]
    refine hK _ ?_; clear hK K
    rw [show 1 + cls.length = (UInt8.ofNat k :: cls).length by simp; omega]
    generalize hX : UInt8.ofNat k :: cls = X at *
    have hXl : X.length ≤ 1001 := by rw [← hX]; simp; omega
    refine aw_draw [2, 6, 9] [0, 0, 0, 0, 0, 1, 1, 0, 0, 2, 3] [[], [], []] drawMixed (by kernel_rfl) (by kernel_rfl) fun K hK => ?_; simp (maxSteps := 1000000) (disch := omega) [-List.getD_eq_getElem?_getD, e1, el]
    refine dcall_is (tw1 _) rfl ?_; simp (maxSteps := 1000000) (disch := omega) [-List.getD_eq_getElem?_getD, ea, el, hW1]
    refine hK _ ?_; clear hK K
    rw [show X.length + 1 + 2 + dec.length = (X ++ 1 :: (W1 ++ dec)).length by simp [hW1]; omega]
    generalize hY : X ++ 1 :: (W1 ++ dec) = Y at *
    have hYl : Y.length ≤ 2004 := by rw [← hY]; simp [hW1]; omega
    refine aw_reg fun K hK => ?_; simp (maxSteps := 1000000) (disch := omega) [-List.getD_eq_getElem?_getD]
    refine acall_is (ck _) ?_; simp (maxSteps := 1000000) (disch := omega) [-List.getD_eq_getElem?_getD, e2, el]
    refine hK _ ?_; clear hK K
    refine aw_ret ?_; simp (maxSteps := 1000000) (disch := omega) [-List.getD_eq_getElem?_getD]
    subst hY
    subst hX
    subst hB
    simp [hW1]
end Go.Proofs.YtnmlpohhommagaaGreatDoor
