/- FromKey (layer 52): the reference's walk.
   Conditions: at most 900 bytes. -/
import Derived.Test.YtnmlpohhommagaaGreatDoorCG
namespace Cn
open Go.Lib Lst
theorem untF_of {b a r : List UInt8} (h : Lst.cutT 1 b = (a, r, true)) : untF b = (a, r, true) := by
  unfold Lst.cutT at h
  unfold untF
  cases hc : cutL 1 b with
  | none => rw [hc] at h; simp at h
  | some x => rw [hc] at h; exact h
theorem untF_len (b : List UInt8) : (untF b).1.length ≤ b.length ∧ (untF b).2.1.length ≤ b.length := by
  unfold untF
  cases h : cutL 1 b with
  | none => simp
  | some x =>
    have h2 := congrArg List.length (index1_some h).2
    simp at h2
    simp only
    omega
end Cn
namespace Go.Proofs.YtnmlpohhommagaaGreatDoor
open Go Go.Am Cn Lst
set_option linter.unusedVariables false
theorem box2k {H : List Blk} {x y : Blk} : H ++ [x, y] = (H ++ [x]) ++ [y] := by simp

set_option maxRecDepth 100000 in
set_option maxHeartbeats 8000000 in
theorem fromR_yes (c : Cl) (hv : validF c = true) (tg : Tag) (H : List Blk) (T : Toks) :
    ACall Tryz.prog 31 [.sl (keyF c).length (encB (keyF c)) tg] H T (Is (.tup [.agg (clAV c .none), .int .i64 0]) H T) := by
  refine ACall.untag1 ?_
  refine ACall.dropTA ?_ (by simp [clAV])
  show ACall _ _ [.sl (keyF c).length (encB (keyF c)) .none] _ _ _
  have hsm := valid_sm hv
  have ck := fun G T tg => keyR_ok c tg hsm (H ++ G) T
  obtain ⟨R1, R3, hk, hc1, hc2, hl1, hl3⟩ := key_parts hv
  have hkl := key_len hv
  have hnv := valid_num hv
  have hyv := valid_yr hv
  have u1 := fun G T => until_ok R1 (by omega) .none (H ++ G) T
  have u2 := fun G T => until_ok R3 (by omega) .none (H ++ G) T
  rw [untF_of hc1] at u1
  rw [untF_of hc2] at u2
  have htl : ∀ i, i ≤ c.cut.length → (tlI c i).length ≤ 2000000 := fun i h => by
    have := keyC_len (l := c.cut.drop i) (fun x hx => hsm.each x (List.mem_of_mem_drop hx)) _ (Nat.le_refl _)
    rw [List.take_length, List.length_drop] at this
    have := hsm.cut
    have := hsm.rest
    unfold tlI
    simp only [List.length_append, List.length_cons]
    omega
  have hce := tlI_end c
  have hct := fun i h => tlI_cut hv (i := i) h
  have hk0 : ((UInt8.ofNat c.sch.toNat).toNat : Int) = c.sch := by
    rcases valid_sch hv with h | h <;> rw [h.1] <;> rfl
  have hn2 := two_back (n := c.num.toNat) (by omega)
  have hy2 := two_back (n := c.yr.toNat) (by omega)
  simp only at u1 u2
  have ee : ∀ (a b : UInt8) (r : List UInt8), encB (a :: b :: r) = .int .u8 (a.toNat : Nat) :: .int .u8 (b.toNat : Nat) :: encB r := fun _ _ _ => rfl
  have el2 : ∀ (a b : UInt8) (r : List UInt8), (a :: b :: r).length = r.length + 2 := fun _ _ _ => rfl
  have ee3 : ∀ (a b d : UInt8) (r : List UInt8), encB (a :: b :: d :: r) = .int .u8 (a.toNat : Nat) :: .int .u8 (b.toNat : Nat) :: .int .u8 (d.toNat : Nat) :: encB r := fun _ _ _ _ => rfl
  rw [ee, el2] at u1
  have hx1 := (UInt8.ofNat (c.num.toNat / 256)).toNat_lt
  have hx2 := (UInt8.ofNat (c.num.toNat % 256)).toNat_lt
  have hx3 := (UInt8.ofNat (c.yr.toNat / 256)).toNat_lt
  have hx4 := (UInt8.ofNat (c.yr.toNat % 256)).toNat_lt
  generalize (UInt8.ofNat (c.num.toNat / 256)).toNat = a1 at *
  generalize (UInt8.ofNat (c.num.toNat % 256)).toNat = a2 at *
  have hnum : (a1 : Int) * 256 + (a2 : Nat) = c.num := by omega
  have hE : encB (tlI c c.cut.length) = .int .u8 2 :: .int .u8 ((UInt8.ofNat (c.yr.toNat / 256)).toNat : Nat) :: .int .u8 ((UInt8.ofNat (c.yr.toNat % 256)).toNat : Nat) :: encB c.rest ∧ (tlI c c.cut.length).length = c.rest.length + 3 := by rw [hce]; exact ⟨rfl, rfl⟩
  generalize (UInt8.ofNat (c.yr.toNat / 256)).toNat = y1 at *
  generalize (UInt8.ofNat (c.yr.toNat % 256)).toNat = y2 at *
  have hyr : (y1 : Int) * 256 + (y2 : Nat) = c.yr := by omega
  have hcut := hsm.cut
  have hrest := hsm.rest
  clear hnv hyv hn2 hy2 hc1 hc2 hce
  generalize tlI c = E at *
  generalize UInt8.ofNat c.sch.toNat = k at *
  generalize keyF c = KF at *
  obtain ⟨sch, cls, num, dec, cut, yr, rest⟩ := c
  simp only [clAV] at *
  have hlen := strs_len cut
  have hsn : ∀ i, i < cut.length → strs (cut.take i) ++ [AV.str (cut.getD i [])] = strs (cut.take (i + 1)) := fun i h => by
    rw [List.take_add_one, List.getElem?_eq_getElem h, List.getD_eq_getElem?_getD, List.getElem?_eq_getElem h, ← strs_append]; rfl
  have htk : ∀ i, (strs (cut.take i)).length = (cut.take i).length := fun i => by simp [strs]
  have e0 : encB (k :: R1) = .int .u8 (k.toNat : Nat) :: encB R1 := rfl
  have ht1 : ∀ x : List UInt8, (encB x).take x.length = encB x := fun x => List.take_of_length_le (by simp [encB])
  have el : ∀ x : List UInt8, (encB x).length = x.length := fun x => by simp [encB]
  subst hk
  have hl0 : (k :: R1).length = R1.length + 1 := rfl
  have hwk : IntKind.i64.wrap (k.toNat : Int) = sch := by
    have := k.toNat_lt
    rw [wrap64 (by omega) (by omega)]; exact hk0
  have hbo : bytesOf (.int .u8 (k.toNat : Nat) :: encB R1) = some (k :: R1) := by
    rw [← e0]; exact bytesOf_encB _
  rw [e0, hl0] at *
  refine acall_enter 11 [] Tryz.ntmps31 Tryz.func31 rfl (fun _ _ => Tryz.call31 _ _) (by simp) (fun HO => ?_)
  refine aw_reg fun K hK => ?_; simp (maxSteps := 1000000) (disch := omega) [-List.getD_eq_getElem?_getD]; refine hK _ ?_; clear hK K
  refine aw_then fun K1 hK1 => ?_
  refine aw_reg fun K hK => ?_; simp (maxSteps := 1000000) (disch := omega) [-List.getD_eq_getElem?_getD]
  refine hK _ ?_; clear hK K
  refine aw_if rfl (fun h => absurd h (by simp; try omega)) (fun h => ?_)
  refine aw_skip ?_; simp (maxSteps := 1000000) (disch := omega) [-List.getD_eq_getElem?_getD]
  refine hK1 _ ?_; clear hK1
  refine aw_reg fun K hK => ?_; simp (maxSteps := 1000000) (disch := omega) [-List.getD_eq_getElem?_getD, hwk]
  refine hK _ ?_; clear hK K
  refine aw_ownC 1 4 (H ++ [.cells [.int .i64 0, .str [], .int .i64 0, .str [], .sl 0 [] .full, .int .i64 0, .str []]]) [.int .i64 sch, .str [], .int .i64 0, .str [], .sl 0 [] .full, .int .i64 0, .str []] 0 [] (by omega) rfl (by simp) ?_
  simp only [List.set_cons_succ, List.set_cons_zero]
  have HO2 : ∀ i, HOk (H ++ [.cells [.int .i64 0, .str [], .int .i64 0, .str [], .sl 0 [] .full, .int .i64 0, .str []], .cells [.int .i64 sch, .str cls, .int .i64 num, .str dec, .sl (cut.take i).length (strs (cut.take i)) (.own T.length), .int .i64 0, .str []]]) (T ++ [((cut.take i).length, 1)]) := fun i => by
    rw [box2k]
    exact HOk.snoc (HOk.snoc (HO.toks (by simp)) (by simp)) (by simp)
  refine aw_reg fun K hK => ?_; simp (maxSteps := 1000000) (disch := omega) [-List.getD_eq_getElem?_getD, ht1, el]
  refine acall_is (u1 _ _) ?_; simp (maxSteps := 1000000) (disch := omega) [-List.getD_eq_getElem?_getD]
  refine hK _ ?_; clear hK K
  refine aw_then fun K1 hK1 => ?_
  refine aw_reg fun K hK => ?_; simp (maxSteps := 1000000) (disch := omega) [-List.getD_eq_getElem?_getD]; refine hK _ ?_; clear hK K
  refine aw_if rfl (fun h => absurd h (by simp; omega)) (fun h => ?_)
  refine aw_skip ?_; simp (maxSteps := 1000000) (disch := omega) [-List.getD_eq_getElem?_getD]
  refine hK1 _ ?_; clear hK1
  refine aw_draw [12, 14] [0, 0, 0, 0, 0, 0, 0, 0, 0, 0, 0, 0, 0, 1, 1] [[1, 2, 3, 4, 5, 6, 7, 8, 9, 10], []] drawMixed (by kernel_rfl) (by kernel_rfl) fun K hK => ?_; simp (maxSteps := 1000000) (disch := omega) [-List.getD_eq_getElem?_getD, hnum, el]
  refine hK _ ?_; clear hK K
  refine aw_then fun K1 hK1 => ?_
  refine aw_reg fun K hK => ?_; simp (maxSteps := 1000000) (disch := omega) [-List.getD_eq_getElem?_getD, ht1, el]
  refine acall_is (u2 _ _) ?_; simp (maxSteps := 1000000) (disch := omega) [-List.getD_eq_getElem?_getD]
  refine hK _ ?_; clear hK K
  refine aw_reg fun K hK => ?_; simp (maxSteps := 1000000) (disch := omega) [-List.getD_eq_getElem?_getD]; refine hK _ ?_; clear hK K
  refine aw_if rfl (fun h => absurd h (by simp)) (fun h => ?_)
  refine aw_skip ?_; simp (maxSteps := 1000000) (disch := omega) [-List.getD_eq_getElem?_getD]
  refine hK1 _ ?_; clear hK1
  refine aw_then fun K1 hK1 => ?_
  refine aw_block ?_
  refine aw_loop (X := Nat) (fun i => ⟨[(0, .sl (R1.length + 1) (.int .u8 (k.toNat : Nat) :: encB R1) .none), (2, .ptr H.length 0), (3, .int .i64 0), (4, .ptr (H.length + 1) 0), (6, .sl (E i).length (encB (E i)) .none)], H ++ [.cells [.int .i64 0, .str [], .int .i64 0, .str [], .sl 0 [] .full, .int .i64 0, .str []], .cells [.int .i64 sch, .str cls, .int .i64 num, .str dec, .sl (cut.take i).length (strs (cut.take i)) (.own T.length), .int .i64 0, .str []]], T ++ [((cut.take i).length, 1)]⟩) (fun i => i ≤ cut.length) (fun i => cut.length - i) 0 ?_ ?_ ?_
  · exact Nat.zero_le _
  · refine weak_to [] [] ?_ ?_ ?_ ?_ (HO2 0) ?_
    all_goals simp
  · rintro i h1
    refine aw_then fun K2 hK2 => ?_
    by_cases hki : i < cut.length
    · obtain ⟨g1, g2⟩ := hct i hki
      have hsn := hsn i hki
      have hZl := htl i h1
      have hil : (cut.take i).length = i := by simp; omega
      have hil2 : (cut.take (i + 1)).length = i + 1 := by simp; omega
      rw [g1] at hZl
      rw [g1]
      clear hct htl g1
      generalize cut.getD i [] ++ 1 :: E (i + 1) = Z at *
      generalize cut.getD i [] = x at *
      rw [show encB (3 :: Z) = .int .u8 3 :: encB Z from rfl, show (3 :: Z).length = Z.length + 1 from rfl] at *
      have u3 := fun G T => until_ok Z (by omega) .none (H ++ G) T
      rw [untF_of g2] at u3
      refine aw_reg fun K hK => ?_; simp (maxSteps := 1000000) (disch := omega) [-List.getD_eq_getElem?_getD]; refine hK _ ?_; clear hK K
      refine aw_if rfl (fun h => ?_) (fun h => absurd h (by simp))
      refine aw_skip ?_; simp (maxSteps := 1000000) (disch := omega) [-List.getD_eq_getElem?_getD]
      refine hK2 _ ?_; clear hK2
      refine aw_block ?_
      refine aw_reg fun K hK => ?_; simp (maxSteps := 1000000) (disch := omega) [-List.getD_eq_getElem?_getD, ht1, el]
      refine acall_is (u3 _ _) ?_; simp (maxSteps := 1000000) (disch := omega) [-List.getD_eq_getElem?_getD]
      refine hK _ ?_; clear hK K
      refine aw_then fun K1 hK1 => ?_
      refine aw_reg fun K hK => ?_; simp (maxSteps := 1000000) (disch := omega) [-List.getD_eq_getElem?_getD]; refine hK _ ?_; clear hK K
      refine aw_if rfl (fun h => absurd h (by simp)) (fun h => ?_)
      refine aw_skip ?_; simp (maxSteps := 1000000) (disch := omega) [-List.getD_eq_getElem?_getD]
      refine hK1 _ ?_; clear hK1
      refine aw_reg fun K hK => ?_; simp (maxSteps := 1000000) (disch := omega) [-List.getD_eq_getElem?_getD, hsn, htk]
      refine hK _ ?_; clear hK K
      refine aw_reg0 fun K hK => ?_; simp (maxSteps := 1000000) (disch := omega) [-List.getD_eq_getElem?_getD]
      refine hK _ ?_; clear hK K
      refine ⟨i + 1, by show i + 1 ≤ _; omega, by show cut.length - (i + 1) < cut.length - i; omega, ?_⟩
      refine weak_to [] [] ?_ ?_ ?_ ?_ (HO2 (i + 1)) ?_
      all_goals simp [hil2]
    · have e : i = cut.length := by omega
      subst e
      rw [List.take_length, hE.1, hE.2]
      clear hct htl hE
      refine aw_reg fun K hK => ?_; simp (maxSteps := 1000000) (disch := omega) [-List.getD_eq_getElem?_getD]; refine hK _ ?_; clear hK K
      refine aw_if rfl (fun h => absurd h (by simp)) (fun h => ?_)
      refine aw_exit ?_; simp (maxSteps := 1000000) (disch := omega) [-List.getD_eq_getElem?_getD]
      refine hK1 _ ?_; clear hK1
      refine aw_then fun K1 hK1 => ?_
      refine aw_reg fun K hK => ?_; simp (maxSteps := 1000000) (disch := omega) [-List.getD_eq_getElem?_getD]; refine hK _ ?_; clear hK K
      refine aw_if rfl (fun h => absurd h (by simp; try omega)) (fun h => ?_)
      refine aw_skip ?_; simp (maxSteps := 1000000) (disch := omega) [-List.getD_eq_getElem?_getD]
      refine hK1 _ ?_; clear hK1
      refine aw_draw [14, 16] [0, 0, 0, 0, 0, 0, 0, 0, 0, 0, 0, 0, 0, 0, 0, 1, 1] [[10, 11, 12], []] drawMixed (by kernel_rfl) (by kernel_rfl) fun K hK => ?_; simp (maxSteps := 1000000) (disch := omega) [-List.getD_eq_getElem?_getD, hyr, ht1, el]
      refine hK _ ?_; clear hK K
      refine aw_then fun K1 hK1 => ?_
      refine aw_draw [] [] [] drawMixed (by kernel_rfl) (by kernel_rfl) fun K hK => ?_; simp (maxSteps := 1000000) (disch := omega) [-List.getD_eq_getElem?_getD]
      refine dcall_is (ck _ _ _) rfl ?_; simp (maxSteps := 1000000) (disch := omega) [-List.getD_eq_getElem?_getD, hbo]
      refine hK _ ?_; clear hK K
      refine aw_if rfl (fun h => absurd h (by simp)) (fun h => ?_)
      refine aw_skip ?_; simp (maxSteps := 1000000) (disch := omega) [-List.getD_eq_getElem?_getD]
      refine hK1 _ ?_; clear hK1
      refine aw_reg fun K hK => ?_; simp (maxSteps := 1000000) (disch := omega) [-List.getD_eq_getElem?_getD]
      refine hK _ ?_; clear hK K
      refine aw_ret ?_; simp (maxSteps := 1000000) (disch := omega) [-List.getD_eq_getElem?_getD]
      simp [untagA, untag]

set_option maxRecDepth 100000 in
set_option maxHeartbeats 8000000 in
theorem fromR_no (b : List UInt8) (hb : b.length ≤ 900) (hno : ∀ c, validF c = true → keyF c ≠ b) (tg : Tag) (H : List Blk) (T : Toks) :
    ACall Tryz.prog 31 [.sl b.length (encB b) tg] H T (Is (.tup [.agg (clAV zeroC .none), .int .i64 5]) H T) := by
  refine ACall.untag1 ?_
  refine ACall.dropTA ?_ (by simp [clAV, zeroC])
  show ACall _ _ [.sl b.length (encB b) .none] _ _ _
  match b, hb, hno with
  | [], hb, hno =>
    refine acall_enter 11 [] Tryz.ntmps31 Tryz.func31 rfl (fun _ _ => Tryz.call31 _ _) (by simp) (fun HO => ?_)
    refine aw_reg fun K hK => ?_; simp (maxSteps := 1000000) (disch := omega) [-List.getD_eq_getElem?_getD]; refine hK _ ?_; clear hK K
    refine aw_then fun K1 hK1 => ?_
    refine aw_reg fun K hK => ?_; simp (maxSteps := 1000000) (disch := omega) [-List.getD_eq_getElem?_getD]; refine hK _ ?_; clear hK K
    refine aw_if rfl (fun h => ?_) (fun h => absurd h (by simp))
    refine aw_reg fun K hK => ?_; simp (maxSteps := 1000000) (disch := omega) [-List.getD_eq_getElem?_getD]
    refine hK _ ?_; clear hK K
    refine aw_ret ?_; simp (maxSteps := 1000000) (disch := omega) [-List.getD_eq_getElem?_getD]
    simp [zeroC, clAV, untagA, untag]
  | k :: R1, hb, hno =>
    have hl0 : (k :: R1).length = R1.length + 1 := rfl
    have e0 : encB (k :: R1) = .int .u8 (k.toNat : Nat) :: encB R1 := rfl
    rw [hl0] at hb
    have hbo : bytesOf (.int .u8 (k.toNat : Nat) :: encB R1) = some (k :: R1) := by
      rw [← e0]; exact bytesOf_encB _
    have u1 := fun G T => until_ok R1 (by omega) .none (H ++ G) T
    have hl1 := untF_len R1
    generalize untF R1 = p1 at *
    obtain ⟨cls, R2, ok1⟩ := p1
    simp only at u1 hl1
    have hsn : ∀ (l : List (List UInt8)) x, strs l ++ [AV.str x] = strs (l ++ [x]) := strs_snoc
    have htk : ∀ l : List (List UInt8), (strs l).length = l.length := strs_len
    have ht1 : ∀ x : List UInt8, (encB x).take x.length = encB x := fun x => List.take_of_length_le (by simp [encB])
    have el : ∀ x : List UInt8, (encB x).length = x.length := fun x => by simp [encB]
    have hwk : IntKind.i64.wrap (k.toNat : Int) = (k.toNat : Nat) := by
      have := k.toNat_lt
      rw [wrap64 (by omega) (by omega)]
    rw [e0, hl0]
    refine acall_enter 11 [] Tryz.ntmps31 Tryz.func31 rfl (fun _ _ => Tryz.call31 _ _) (by simp) (fun HO => ?_)
    refine aw_reg fun K hK => ?_; simp (maxSteps := 1000000) (disch := omega) [-List.getD_eq_getElem?_getD]; refine hK _ ?_; clear hK K
    refine aw_then fun K1 hK1 => ?_
    refine aw_reg fun K hK => ?_; simp (maxSteps := 1000000) (disch := omega) [-List.getD_eq_getElem?_getD]
    refine hK _ ?_; clear hK K
    refine aw_if rfl (fun h => absurd h (by simp; try omega)) (fun h => ?_)
    refine aw_skip ?_; simp (maxSteps := 1000000) (disch := omega) [-List.getD_eq_getElem?_getD]
    refine hK1 _ ?_; clear hK1
    refine aw_reg fun K hK => ?_; simp (maxSteps := 1000000) (disch := omega) [-List.getD_eq_getElem?_getD, hwk]
    refine hK _ ?_; clear hK K
    refine aw_ownC 1 4 (H ++ [.cells [.int .i64 0, .str [], .int .i64 0, .str [], .sl 0 [] .full, .int .i64 0, .str []]]) [.int .i64 (k.toNat : Nat), .str [], .int .i64 0, .str [], .sl 0 [] .full, .int .i64 0, .str []] 0 [] (by omega) rfl (by simp) ?_
    simp only [List.set_cons_succ, List.set_cons_zero]
    have HO2 : ∀ (num : Int) (dec : List UInt8) (l : List (List UInt8)), HOk (H ++ [.cells [.int .i64 0, .str [], .int .i64 0, .str [], .sl 0 [] .full, .int .i64 0, .str []], .cells [.int .i64 (k.toNat : Nat), .str cls, .int .i64 num, .str dec, .sl (l).length (strs (l)) (.own T.length), .int .i64 0, .str []]]) (T ++ [(l.length, 1)]) := fun num dec l => by
      rw [box2k]
      exact HOk.snoc (HOk.snoc (HO.toks (by simp)) (by simp)) (by simp)
    refine aw_reg fun K hK => ?_; simp (maxSteps := 1000000) (disch := omega) [-List.getD_eq_getElem?_getD, ht1, el]
    refine acall_is (u1 _ _) ?_; simp (maxSteps := 1000000) (disch := omega) [-List.getD_eq_getElem?_getD]
    refine hK _ ?_; clear hK K
    clear u1
    refine aw_then fun K1 hK1 => ?_
    cases ok1 with
    | false =>
      refine aw_reg fun K hK => ?_; simp (maxSteps := 1000000) (disch := omega) [-List.getD_eq_getElem?_getD]; refine hK _ ?_; clear hK K
      refine aw_if rfl (fun h => ?_) (fun h => absurd h (by simp))
      refine aw_reg fun K hK => ?_; simp (maxSteps := 1000000) (disch := omega) [-List.getD_eq_getElem?_getD]
      refine hK _ ?_; clear hK K
      refine aw_ret ?_; simp (maxSteps := 1000000) (disch := omega) [-List.getD_eq_getElem?_getD]
      simp [zeroC, clAV, untagA, untag]
    | true =>
    match R2, hl1 with
    | [], hl1 =>
      refine aw_reg fun K hK => ?_; simp (maxSteps := 1000000) (disch := omega) [-List.getD_eq_getElem?_getD]; refine hK _ ?_; clear hK K
      refine aw_if rfl (fun h => ?_) (fun h => absurd h (by simp))
      refine aw_reg fun K hK => ?_; simp (maxSteps := 1000000) (disch := omega) [-List.getD_eq_getElem?_getD]
      refine hK _ ?_; clear hK K
      refine aw_ret ?_; simp (maxSteps := 1000000) (disch := omega) [-List.getD_eq_getElem?_getD]
      simp [zeroC, clAV, untagA, untag]
    | [_], hl1 =>
      refine aw_reg fun K hK => ?_; simp (maxSteps := 1000000) (disch := omega) [-List.getD_eq_getElem?_getD]; refine hK _ ?_; clear hK K
      refine aw_if rfl (fun h => ?_) (fun h => absurd h (by simp))
      refine aw_reg fun K hK => ?_; simp (maxSteps := 1000000) (disch := omega) [-List.getD_eq_getElem?_getD]
      refine hK _ ?_; clear hK K
      refine aw_ret ?_; simp (maxSteps := 1000000) (disch := omega) [-List.getD_eq_getElem?_getD]
      simp [zeroC, clAV, untagA, untag]
    | x1 :: x2 :: R3, hl1 =>
    rw [show encB (x1 :: x2 :: R3) = .int .u8 (x1.toNat : Nat) :: .int .u8 (x2.toNat : Nat) :: encB R3 from rfl, show (x1 :: x2 :: R3).length = R3.length + 2 from rfl] at *
    have hx1 := x1.toNat_lt
    have hx2 := x2.toNat_lt
    generalize x1.toNat = a1 at *
    generalize x2.toNat = a2 at *
    obtain ⟨num, hnum⟩ : ∃ n : Int, (a1 : Int) * 256 + (a2 : Nat) = n := ⟨_, rfl⟩
    refine aw_reg fun K hK => ?_; simp (maxSteps := 1000000) (disch := omega) [-List.getD_eq_getElem?_getD]; refine hK _ ?_; clear hK K
    refine aw_if rfl (fun h => absurd h (by simp; try omega)) (fun h => ?_)
    refine aw_skip ?_; simp (maxSteps := 1000000) (disch := omega) [-List.getD_eq_getElem?_getD]
    refine hK1 _ ?_; clear hK1
    refine aw_draw [12, 14] [0, 0, 0, 0, 0, 0, 0, 0, 0, 0, 0, 0, 0, 1, 1] [[1, 2, 3, 4, 5, 6, 7, 8, 9, 10], []] drawMixed (by kernel_rfl) (by kernel_rfl) fun K hK => ?_; simp (maxSteps := 1000000) (disch := omega) [-List.getD_eq_getElem?_getD, hnum, el]
    refine hK _ ?_; clear hK K
    have u2 := fun G T => until_ok R3 (by omega) .none (H ++ G) T
    have hl3 := untF_len R3
    generalize untF R3 = p3 at *
    obtain ⟨dec, R4, f3⟩ := p3
    simp only at u2 hl3
    refine aw_then fun K1 hK1 => ?_
    refine aw_reg fun K hK => ?_; simp (maxSteps := 1000000) (disch := omega) [-List.getD_eq_getElem?_getD, ht1, el]
    refine acall_is (u2 _ _) ?_; simp (maxSteps := 1000000) (disch := omega) [-List.getD_eq_getElem?_getD]
    refine hK _ ?_; clear hK K
    clear u2
    cases f3 with
    | false =>
      refine aw_reg fun K hK => ?_; simp (maxSteps := 1000000) (disch := omega) [-List.getD_eq_getElem?_getD]; refine hK _ ?_; clear hK K
      refine aw_if rfl (fun h => ?_) (fun h => absurd h (by simp))
      refine aw_reg fun K hK => ?_; simp (maxSteps := 1000000) (disch := omega) [-List.getD_eq_getElem?_getD]
      refine hK _ ?_; clear hK K
      refine aw_ret ?_; simp (maxSteps := 1000000) (disch := omega) [-List.getD_eq_getElem?_getD]
      simp [zeroC, clAV, untagA, untag]
    | true =>
    refine aw_reg fun K hK => ?_; simp (maxSteps := 1000000) (disch := omega) [-List.getD_eq_getElem?_getD]; refine hK _ ?_; clear hK K
    refine aw_if rfl (fun h => absurd h (by simp)) (fun h => ?_)
    refine aw_skip ?_; simp (maxSteps := 1000000) (disch := omega) [-List.getD_eq_getElem?_getD]
    refine hK1 _ ?_; clear hK1
    refine aw_then fun K1 hK1 => ?_
    refine aw_block ?_
    refine aw_loop (X := List UInt8 × List (List UInt8)) (fun s => ⟨[(0, .sl (R1.length + 1) (.int .u8 (k.toNat : Nat) :: encB R1) .none), (2, .ptr H.length 0), (3, .int .i64 0), (4, .ptr (H.length + 1) 0), (6, .sl (s.1).length (encB (s.1)) .none)], H ++ [.cells [.int .i64 0, .str [], .int .i64 0, .str [], .sl 0 [] .full, .int .i64 0, .str []], .cells [.int .i64 (k.toNat : Nat), .str cls, .int .i64 num, .str dec, .sl (s.2).length (strs (s.2)) (.own T.length), .int .i64 0, .str []]], T ++ [(s.2.length, 1)]⟩) (fun s => s.1.length + s.2.length ≤ 900 ∧ ∀ x ∈ s.2, x.length ≤ 900) (fun s => s.1.length) (R4, []) ?_ ?_ ?_
    · exact ⟨by simp; omega, by simp⟩
    · refine weak_to [] [] ?_ ?_ ?_ ?_ (HO2 num dec []) ?_
      all_goals simp
    · rintro ⟨bs, l⟩ ⟨i1, i2⟩
      simp only at i1 i2 ⊢
      refine aw_then fun K2 hK2 => ?_
      match bs, i1 with
      | [], i1 =>
        refine aw_reg fun K hK => ?_; simp (maxSteps := 1000000) (disch := omega) [-List.getD_eq_getElem?_getD]; refine hK _ ?_; clear hK K
        refine aw_if rfl (fun h => absurd h (by simp)) (fun h => ?_)
        refine aw_exit ?_; simp (maxSteps := 1000000) (disch := omega) [-List.getD_eq_getElem?_getD]
        refine hK1 _ ?_; clear hK1
        refine aw_then fun K1 hK1 => ?_
        refine aw_reg fun K hK => ?_; simp (maxSteps := 1000000) (disch := omega) [-List.getD_eq_getElem?_getD]; refine hK _ ?_; clear hK K
        refine aw_if rfl (fun h => ?_) (fun h => absurd h (by simp))
        refine aw_reg fun K hK => ?_; simp (maxSteps := 1000000) (disch := omega) [-List.getD_eq_getElem?_getD]
        refine hK _ ?_; clear hK K
        refine aw_ret ?_; simp (maxSteps := 1000000) (disch := omega) [-List.getD_eq_getElem?_getD]
        simp [zeroC, clAV, untagA, untag]
      | y :: Z, i1 =>
        rw [show encB (y :: Z) = .int .u8 (y.toNat : Nat) :: encB Z from rfl, show (y :: Z).length = Z.length + 1 from rfl] at *
        by_cases hy : y.toNat = 3
        · have u3 := fun G T => until_ok Z (by omega) .none (H ++ G) T
          have hl4 := untF_len Z
          generalize untF Z = p4 at *
          obtain ⟨x, Z2, f4⟩ := p4
          simp only at u3 hl4
          rw [hy]
          refine aw_reg fun K hK => ?_; simp (maxSteps := 1000000) (disch := omega) [-List.getD_eq_getElem?_getD]; refine hK _ ?_; clear hK K
          refine aw_if rfl (fun h => ?_) (fun h => absurd h (by simp))
          refine aw_skip ?_; simp (maxSteps := 1000000) (disch := omega) [-List.getD_eq_getElem?_getD]
          refine hK2 _ ?_; clear hK2
          refine aw_block ?_
          refine aw_reg fun K hK => ?_; simp (maxSteps := 1000000) (disch := omega) [-List.getD_eq_getElem?_getD, ht1, el]
          refine acall_is (u3 _ _) ?_; simp (maxSteps := 1000000) (disch := omega) [-List.getD_eq_getElem?_getD]
          refine hK _ ?_; clear hK K
          refine aw_then fun K1 hK1 => ?_
          cases f4 with
          | false =>
            refine aw_reg fun K hK => ?_; simp (maxSteps := 1000000) (disch := omega) [-List.getD_eq_getElem?_getD]; refine hK _ ?_; clear hK K
            refine aw_if rfl (fun h => ?_) (fun h => absurd h (by simp))
            refine aw_reg fun K hK => ?_; simp (maxSteps := 1000000) (disch := omega) [-List.getD_eq_getElem?_getD]
            refine hK _ ?_; clear hK K
            refine aw_ret ?_; simp (maxSteps := 1000000) (disch := omega) [-List.getD_eq_getElem?_getD]
            simp [zeroC, clAV, untagA, untag]
          | true =>
            refine aw_reg fun K hK => ?_; simp (maxSteps := 1000000) (disch := omega) [-List.getD_eq_getElem?_getD]; refine hK _ ?_; clear hK K
            refine aw_if rfl (fun h => absurd h (by simp)) (fun h => ?_)
            refine aw_skip ?_; simp (maxSteps := 1000000) (disch := omega) [-List.getD_eq_getElem?_getD]
            refine hK1 _ ?_; clear hK1
            refine aw_reg fun K hK => ?_; simp (maxSteps := 1000000) (disch := omega) [-List.getD_eq_getElem?_getD, hsn, htk]
            refine hK _ ?_; clear hK K
            refine aw_reg0 fun K hK => ?_; simp (maxSteps := 1000000) (disch := omega) [-List.getD_eq_getElem?_getD]
            refine hK _ ?_; clear hK K
            refine ⟨(Z2, l ++ [x]), ⟨by simp; omega, fun z hz => ?_⟩, by show Z2.length < Z.length + 1; omega, ?_⟩
            · rcases List.mem_append.1 hz with hz | hz
              · exact i2 z hz
              · rw [List.mem_singleton] at hz
                subst hz
                omega
            · refine weak_to [] [] ?_ ?_ ?_ ?_ (HO2 num dec (l ++ [x])) ?_
              all_goals simp
        · have n1 : (((y.toNat : Nat) : Int) == 3) = false := beq_eq_false_iff_ne.2 (by omega)
          refine aw_reg fun K hK => ?_; simp (maxSteps := 1000000) (disch := omega) [-List.getD_eq_getElem?_getD, n1]; refine hK _ ?_; clear hK K
          refine aw_if rfl (fun h => absurd h (by simp)) (fun h => ?_)
          refine aw_exit ?_; simp (maxSteps := 1000000) (disch := omega) [-List.getD_eq_getElem?_getD]
          refine hK1 _ ?_; clear hK1
          refine aw_then fun K1 hK1 => ?_
          match Z, i1 with
          | [], i1 =>
            refine aw_reg fun K hK => ?_; simp (maxSteps := 1000000) (disch := omega) [-List.getD_eq_getElem?_getD]; refine hK _ ?_; clear hK K
            refine aw_if rfl (fun h => ?_) (fun h => absurd h (by simp))
            refine aw_reg fun K hK => ?_; simp (maxSteps := 1000000) (disch := omega) [-List.getD_eq_getElem?_getD]
            refine hK _ ?_; clear hK K
            refine aw_ret ?_; simp (maxSteps := 1000000) (disch := omega) [-List.getD_eq_getElem?_getD]
            simp [zeroC, clAV, untagA, untag]
          | [_], i1 =>
            refine aw_reg fun K hK => ?_; simp (maxSteps := 1000000) (disch := omega) [-List.getD_eq_getElem?_getD]; refine hK _ ?_; clear hK K
            refine aw_if rfl (fun h => ?_) (fun h => absurd h (by simp))
            refine aw_reg fun K hK => ?_; simp (maxSteps := 1000000) (disch := omega) [-List.getD_eq_getElem?_getD]
            refine hK _ ?_; clear hK K
            refine aw_ret ?_; simp (maxSteps := 1000000) (disch := omega) [-List.getD_eq_getElem?_getD]
            simp [zeroC, clAV, untagA, untag]
          | z1 :: z2 :: rest, i1 =>
            rw [show encB (z1 :: z2 :: rest) = .int .u8 (z1.toNat : Nat) :: .int .u8 (z2.toNat : Nat) :: encB rest from rfl, show (z1 :: z2 :: rest).length = rest.length + 2 from rfl] at *
            have hz1 := z1.toNat_lt
            have hz2 := z2.toNat_lt
            generalize z1.toNat = y1 at *
            generalize z2.toNat = y2 at *
            obtain ⟨yr, hyr⟩ : ∃ n : Int, (y1 : Int) * 256 + (y2 : Nat) = n := ⟨_, rfl⟩
            have hsm : Sm ⟨(k.toNat : Nat), cls, num, dec, l, yr, rest⟩ := ⟨by show cls.length ≤ 1000; omega, by show dec.length ≤ 1000; omega, by show l.length ≤ 1000; omega, fun x hx => by have := i2 x hx; omega, by show rest.length ≤ 1000; omega⟩
            have hno := hno ⟨(k.toNat : Nat), cls, num, dec, l, yr, rest⟩
            have ck := fun G T tg => keyR_ok ⟨(k.toNat : Nat), cls, num, dec, l, yr, rest⟩ tg hsm (H ++ G) T
            have hne : keyF ⟨(k.toNat : Nat), cls, num, dec, l, yr, rest⟩ ≠ k :: R1 := by
              cases hv : validF ⟨(k.toNat : Nat), cls, num, dec, l, yr, rest⟩ with
              | true => exact hno hv
              | false => unfold keyF; rw [if_neg (by rw [hv]; simp)]; simp
            generalize keyF ⟨(k.toNat : Nat), cls, num, dec, l, yr, rest⟩ = KF at *
            simp only [clAV] at ck
            have m1 : (KF == k :: R1) = false := beq_eq_false_iff_ne.2 hne
            have m2 : (KF != k :: R1) = true := bne_iff_ne.2 hne
            refine aw_reg fun K hK => ?_; simp (maxSteps := 1000000) (disch := omega) [-List.getD_eq_getElem?_getD]; refine hK _ ?_; clear hK K
            refine aw_if rfl (fun h => absurd h (by simp; try omega)) (fun h => ?_)
            refine aw_skip ?_; simp (maxSteps := 1000000) (disch := omega) [-List.getD_eq_getElem?_getD]
            refine hK1 _ ?_; clear hK1
            refine aw_draw [14, 16] [0, 0, 0, 0, 0, 0, 0, 0, 0, 0, 0, 0, 0, 0, 0, 1, 1] [[10, 11, 12], []] drawMixed (by kernel_rfl) (by kernel_rfl) fun K hK => ?_; simp (maxSteps := 1000000) (disch := omega) [-List.getD_eq_getElem?_getD, hyr, ht1, el]
            refine hK _ ?_; clear hK K
            refine aw_then fun K1 hK1 => ?_
            refine aw_draw [] [] [] drawMixed (by kernel_rfl) (by kernel_rfl) fun K hK => ?_; simp (maxSteps := 1000000) (disch := omega) [-List.getD_eq_getElem?_getD]
            refine dcall_is (ck _ _ _) rfl ?_; simp (maxSteps := 1000000) (disch := omega) [-List.getD_eq_getElem?_getD, hbo, m1]
            refine hK _ ?_; clear hK K
            refine aw_if rfl (fun h => ?_) (fun h => absurd h (by simp))
            refine aw_reg fun K hK => ?_; simp (maxSteps := 1000000) (disch := omega) [-List.getD_eq_getElem?_getD]
            refine hK _ ?_; clear hK K
            refine aw_ret ?_; simp (maxSteps := 1000000) (disch := omega) [-List.getD_eq_getElem?_getD]
            simp [zeroC, clAV, untagA, untag]

end Go.Proofs.YtnmlpohhommagaaGreatDoor
