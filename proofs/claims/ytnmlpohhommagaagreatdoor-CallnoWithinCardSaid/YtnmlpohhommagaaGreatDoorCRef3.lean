/- The reference's Key (layer 52): the walk.
   Conditions: small parts. -/
import Derived.Test.YtnmlpohhommagaaGreatDoorCRef2
namespace Go.Proofs.YtnmlpohhommagaaGreatDoor
open Go Go.Am Cn Lst
set_option linter.unusedVariables false

set_option maxRecDepth 100000 in
set_option maxHeartbeats 8000000 in
theorem keyR_ok (c : Cl) (tg : Tag) (hc : Sm c) (H : List Blk) (T : Toks) :
    ACall Tryz.prog 29 [.agg (clAV c tg)] H T (Is (.sl (keyF c).length (encB (keyF c)) .none) H T) := by
  refine callCl1 tg ?_
  refine ACall.drop' ?_ (by simp)
  have cv := validR_ok c .none hc (H ++ [.cells (clAV c .none)]) T
  have hbS : ∀ n t, BelowAll n t (strs c.cut) := fun n t => by simp
  cases hv : validF c with
  | false =>
    rw [hv] at cv
    unfold keyF
    rw [if_neg (by rw [hv]; simp)]
    obtain ⟨sch, cls, num, dec, cut, yr, rest⟩ := c
    simp only [clAV] at *
    generalize strs cut = S at *
    refine acall_enter 6 [] Tryz.ntmps29 Tryz.func29 rfl (fun _ _ => Tryz.call29 _ _) (by simp) (fun HO => ?_)
    refine aw_reg fun K hK => ?_; simp (maxSteps := 1000000) (disch := omega) [-List.getD_eq_getElem?_getD]; refine hK _ ?_; clear hK K
    refine aw_then fun K1 hK1 => ?_
    refine aw_reg fun K hK => ?_; simp (maxSteps := 1000000) (disch := omega) [-List.getD_eq_getElem?_getD]
    refine acall_is (cv) ?_; simp (maxSteps := 1000000) (disch := omega) [-List.getD_eq_getElem?_getD]
    refine hK _ ?_; clear hK K
    refine aw_if rfl (fun h => ?_) (fun h => absurd h (by simp))
    refine aw_reg fun K hK => ?_; simp (maxSteps := 1000000) (disch := omega) [-List.getD_eq_getElem?_getD]; refine hK _ ?_; clear hK K
    refine aw_ret ?_; simp (maxSteps := 1000000) (disch := omega) [-List.getD_eq_getElem?_getD]
  | true =>
    rw [hv] at cv
    have hK := keyF_two hv
    have hyv := valid_yr hv
    have hnv := valid_num hv
    have hrl := hc.rest
    have hdl := hc.dec
    have hsl := hc.cls
    have hkc := hc.cut
    have hkl := keyC_len hc.each
    have hcx := fun i (h : i < c.cut.length) => hc.each _ (memL h)
    have hks := fun i (h : i < c.cut.length) => keyC_take h
    have hlen := strs_len c.cut
    have hat := fun i h => strs_at (l := c.cut) (i := i) h
    have hk0 : keyC (c.cut.take 0) = [] := rfl
    have hkt : c.cut.take c.cut.length = c.cut := List.take_length
    have hsc : c.sch = 1 ∨ c.sch = 2 := by rcases valid_sch hv with h | h <;> simp [h.1]
    have tw1 := fun T => twoR_ok c.num.toNat (by omega) (H ++ [.cells (clAV c .none)]) T
    have tw2 := fun T => twoR_ok c.yr.toNat (by omega) (H ++ [.cells (clAV c .none)]) T
    have hW1 : (twoF c.num.toNat).length = 2 := rfl
    have hW2 : (twoF c.yr.toNat).length = 2 := rfl
    clear hc hv
    generalize keyF c = KF at *
    generalize twoF c.num.toNat = W1 at *
    generalize twoF c.yr.toNat = W2 at *
    obtain ⟨sch, cls, num, dec, cut, yr, rest⟩ := c
    simp only [clAV] at *
    generalize strs cut = S at *
    obtain ⟨u, rfl⟩ : ∃ u : Nat, num = (u : Int) := ⟨num.toNat, by omega⟩
    obtain ⟨y, rfl⟩ : ∃ u : Nat, yr = (u : Int) := ⟨yr.toNat, by omega⟩
    obtain ⟨k, rfl⟩ : ∃ k : Nat, sch = (k : Int) := ⟨sch.toNat, by omega⟩
    rw [Int.toNat_natCast] at *
    have h4 : (k : Int) % 256 = (k : Int) := by omega
    have e0 : ∀ x : List UInt8, AV.int .u8 (k : Int) :: encB x = encB (UInt8.ofNat k :: x) := fun x => by
      simp only [encB, List.map_cons, List.cons.injEq, and_true, AV.int.injEq, true_and]
      rw [UInt8.toNat_ofNat']; omega
    have e1 : ∀ x : List UInt8, encB x ++ [AV.int .u8 1] = encB (x ++ [1]) := fun x => by simp [encB]
    have e2 : ∀ x : List UInt8, encB x ++ [AV.int .u8 2] = encB (x ++ [2]) := fun x => by simp [encB]
    have e3 : ∀ x : List UInt8, encB x ++ [AV.int .u8 3] = encB (x ++ [3]) := fun x => by simp [encB]
    have ea : ∀ x y : List UInt8, encB x ++ encB y = encB (x ++ y) := fun x y => by simp [encB]
    have el : ∀ x : List UInt8, (encB x).length = x.length := fun x => by simp [encB]
    refine acall_enter 5 [] Tryz.ntmps29 Tryz.func29 rfl (fun _ _ => Tryz.call29 _ _) (by simp) (fun HO => ?_)
    have HO1 : ∀ n : Nat, HOk (H ++ [.cells [.int .i64 (k : Nat), .str cls, .int .i64 (u : Nat), .str dec, .sl cut.length S .none, .int .i64 (y : Nat), .str rest]]) (T ++ [(n, 1)]) := fun n => HOk.snoc (HO.toks (by simp)) (by simp [hbS])
    refine aw_reg fun K hK => ?_; simp (maxSteps := 1000000) (disch := omega) [-List.getD_eq_getElem?_getD]; refine hK _ ?_; clear hK K
    refine aw_then fun K1 hK1 => ?_
    refine aw_reg fun K hK => ?_; simp (maxSteps := 1000000) (disch := omega) [-List.getD_eq_getElem?_getD]
    refine acall_is (cv) ?_; simp (maxSteps := 1000000) (disch := omega) [-List.getD_eq_getElem?_getD]
    refine hK _ ?_; clear hK K
    refine aw_if rfl (fun h => absurd h (by simp)) (fun h => ?_)
    refine aw_skip ?_; simp (maxSteps := 1000000) (disch := omega) [-List.getD_eq_getElem?_getD]
    refine hK1 _ ?_; clear hK1
    refine aw_reg fun K hK => ?_; simp (maxSteps := 1000000) (disch := omega) [-List.getD_eq_getElem?_getD, e0]
    refine hK _ ?_; clear hK K
    rw [show 1 + cls.length = (UInt8.ofNat k :: cls).length by simp; omega]
    generalize hX : UInt8.ofNat k :: cls = X at *
    have hXl : X.length ≤ 1001 := by rw [← hX]; simp; omega
    refine aw_draw [2, 6] [0, 0, 0, 0, 0, 1, 1, 2] [[], []] drawMixed (by kernel_rfl) (by kernel_rfl) fun K hK => ?_; simp (maxSteps := 1000000) (disch := omega) [-List.getD_eq_getElem?_getD, e1, el]
    refine dcall_is (tw1 _) rfl ?_; simp (maxSteps := 1000000) (disch := omega) [-List.getD_eq_getElem?_getD, ea, el, hW1]
    refine hK _ ?_; clear hK K
    rw [show X.length + 1 + 2 = (X ++ 1 :: W1).length by simp [hW1]]
    generalize hY : X ++ 1 :: W1 = Y at *
    have hYl : Y.length ≤ 1004 := by rw [← hY]; simp [hW1]; omega
    refine aw_reg fun K hK => ?_; simp (maxSteps := 1000000) (disch := omega) [-List.getD_eq_getElem?_getD, e1, ea, el]
    refine hK _ ?_; clear hK K
    rw [show Y.length + dec.length + 1 = (Y ++ (dec ++ [1])).length by simp; omega]
    generalize hZ : Y ++ (dec ++ [1]) = Z at *
    have hZl : Z.length ≤ 2005 := by rw [← hZ]; simp; omega
    obtain ⟨Kf, hKf⟩ : ∃ f : Nat → List UInt8, ∀ i, f i = Z ++ keyC (cut.take i) := ⟨_, fun _ => rfl⟩
    have hk0' : Kf 0 = Z := by rw [hKf, hk0, List.append_nil]
    have hks' : ∀ i, i < cut.length → Kf (i + 1) = Kf i ++ (3 :: (cut.getD i [] ++ [1])) := fun i h => by rw [hKf, hKf, hks i h, List.append_assoc]
    have hkn : Kf cut.length = Z ++ keyC cut := by rw [hKf, hkt]
    have hkl' : ∀ i, i ≤ cut.length → (Kf i).length ≤ 2000000 := fun i h => by
      have := hkl i h
      rw [hKf, List.length_append]; omega
    clear hks hkl hk0 hkt hKf
    refine aw_then fun K2 hK2 => ?_
    refine aw_reg fun K hK => ?_; simp (maxSteps := 1000000) (disch := omega) [-List.getD_eq_getElem?_getD]; refine hK _ ?_; clear hK K
    refine aw_block ?_
    refine aw_loop (X := Nat) (fun i => ⟨[(1, .ptr H.length 0), (3, .sl (Kf i).length (encB (Kf i)) (.own T.length)), (4, .int .i64 (i : Nat))], H ++ [.cells [.int .i64 (k : Nat), .str cls, .int .i64 (u : Nat), .str dec, .sl cut.length S .none, .int .i64 (y : Nat), .str rest]], T ++ [((Kf i).length, 1)]⟩) (fun i => i ≤ cut.length) (fun i => cut.length - i) 0 ?_ ?_ ?_
    · exact Nat.zero_le _
    · rw [hk0']
      refine weak_to [] [] ?_ ?_ ?_ ?_ (HO1 _) ?_
      all_goals simp [hbS]
    · rintro i h1
      refine aw_then fun K3 hK3 => ?_
      refine aw_reg fun K hK => ?_; simp (maxSteps := 1000000) (disch := omega) [-List.getD_eq_getElem?_getD]; refine hK _ ?_; clear hK K
      refine aw_if rfl (fun hk => ?_) (fun hk => ?_)
      · simp [-List.getD_eq_getElem?_getD] at hk
        have ha := hat i hk
        have hiS : i < S.length := by omega
        have hxl := hcx i hk
        have hs := hks' i hk
        have hYl := hkl' i h1
        clear hks' hkl' hkn hk0'
        refine aw_skip ?_; simp (maxSteps := 1000000) (disch := omega) [-List.getD_eq_getElem?_getD]
        refine hK3 _ ?_; clear hK3
        refine aw_then fun K4 hK4 => ?_
        refine aw_block ?_
        generalize cut.getD i [] = x at *
        have fin : ∀ e n Z, Z = Kf (i + 1) → n = Z.length → envLe (H.length + 1) (T.length + 1) e [(1, .ptr H.length 0), (3, .sl n (encB Z) (.own T.length)), (4, .int .i64 (i : Nat))] → K4 ⟨e, H ++ [.cells [.int .i64 (k : Nat), .str cls, .int .i64 (u : Nat), .str dec, .sl cut.length S .none, .int .i64 (y : Nat), .str rest]], T ++ [(n, 1)]⟩ := by
          intro e n Z hZ hn he
          subst hn
          subst hZ
          refine hK4 _ (aw_weak ⟨[(1, .ptr H.length 0), (3, .sl (Kf (i + 1)).length (encB (Kf (i + 1))) (.own T.length)), (4, .int .i64 (i : Nat))], H ++ [.cells [.int .i64 (k : Nat), .str cls, .int .i64 (u : Nat), .str dec, .sl cut.length S .none, .int .i64 (y : Nat), .str rest]], T ++ [((Kf (i + 1)).length, 1)]⟩ (weak_to [] [] (by simp) (by simp) (by simp) (by simp) (HO1 _) (by simpa using he)) ?_)
          refine aw_reg0 fun K hK => ?_; simp (maxSteps := 1000000) (disch := omega) [-List.getD_eq_getElem?_getD]
          refine hK _ ?_; clear hK K
          refine ⟨i + 1, by show i + 1 ≤ _; omega, by show cut.length - (i + 1) < cut.length - i; omega, ?_⟩
          refine weak_to [] [] ?_ ?_ ?_ ?_ (HO1 _) ?_
          all_goals simp [hbS]
        rw [hs] at fin
        clear hK4 hs
        generalize Kf i = Q at *
        refine aw_draw0 [2, 8, 10] [0, 0, 0, 0, 0, 0, 0, 0, 1, 0, 2, 3] [[], [], []] drawMixed (by kernel_rfl) (by kernel_rfl) fun K hK => ?_; simp (maxSteps := 1000000) (disch := omega) [-List.getD_eq_getElem?_getD, ha, hlen, e3, e1, ea, el]
        refine hK _ ?_; clear hK K
        refine fin _ _ (Q ++ [3] ++ x ++ [1]) (by simp) (by simp; omega) ?_
        simp [hbS]
      · simp [-List.getD_eq_getElem?_getD] at hk
        have e : i = cut.length := by omega
        subst e
        have hYl := hkl' cut.length (Nat.le_refl _)
        clear hks' hkl' hk0'
        generalize Kf cut.length = Q at *
        refine aw_exit ?_; simp (maxSteps := 1000000) (disch := omega) [-List.getD_eq_getElem?_getD]
        refine hK2 _ ?_; clear hK2
        refine aw_draw [2, 6, 9] [0, 0, 0, 0, 0, 1, 1, 0, 0, 2, 3] [[], [], []] drawMixed (by kernel_rfl) (by kernel_rfl) fun K hK => ?_; simp (maxSteps := 1000000) (disch := omega) [-List.getD_eq_getElem?_getD, e2, el]
        refine dcall_is (tw2 _) rfl ?_; simp (maxSteps := 1000000) (disch := omega) [-List.getD_eq_getElem?_getD, ea, el, hW2]
        refine hK _ ?_; clear hK K
        refine aw_ret ?_; simp (maxSteps := 1000000) (disch := omega) [-List.getD_eq_getElem?_getD]
        trace_state
        subst hkn
        subst hZ
        subst hY
        subst hX
        subst hK
        refine ⟨by simp; omega, by simp⟩
end Go.Proofs.YtnmlpohhommagaaGreatDoor
