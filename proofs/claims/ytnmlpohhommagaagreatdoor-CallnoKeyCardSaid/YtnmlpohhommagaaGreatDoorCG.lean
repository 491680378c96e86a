/- The readers of keys (layer 52): the program's upTo and two, the reference's until. FromKey (layer 52): the program's walk.
   Conditions: small parts, as each theorem says. -/
import Derived.Test.YtnmlpohhommagaaGreatDoorCF
import Derived.Test.YtnmlpohhommagaaGreatDoorAmDr3

/- The readers of keys (layer 52): the program's upTo and two, the reference's until. -/
namespace Cn
open Go.Lib Lst
theorem cutT_len2 (c : UInt8) (s : List UInt8) : (Lst.cutT c s).1.length ≤ s.length ∧ (Lst.cutT c s).2.1.length ≤ s.length := by
  unfold Lst.cutT
  cases h : cutL c s with
  | none => simp
  | some x =>
    have := (index1_some h).2
    have h2 := congrArg List.length this
    simp at h2
    simp only
    omega
/-- What the reference's until answers. -/
def untF (b : List UInt8) : List UInt8 × List UInt8 × Bool := match cutL 1 b with | none => ([], [], false) | some x => (x.1, x.2, true)
def cutAt (b : List UInt8) (i : Nat) : Prop := cutL 1 b = (cutL 1 (b.drop i)).map fun x => (b.take i ++ x.1, x.2)
theorem cutAt_zero (b : List UInt8) : cutAt b 0 := by
  unfold cutAt
  cases h : cutL 1 b with
  | none => simp [h]
  | some x => simp [h]
theorem drop_getD {b : List UInt8} {i : Nat} (h : i < b.length) : b.drop i = b.getD i 0 :: b.drop (i + 1) := by
  rw [List.drop_eq_getElem_cons h, List.getD_eq_getElem?_getD, List.getElem?_eq_getElem h]; rfl
theorem cutAt_hit {b : List UInt8} {i : Nat} (h : i < b.length) (hc : cutAt b i) (he : b.getD i 0 = 1) : untF b = (b.take i, b.drop (i + 1), true) := by
  unfold cutAt at hc
  rw [drop_getD h, cutL_cons, if_pos he] at hc
  unfold untF
  rw [hc]
  simp
theorem cutAt_step {b : List UInt8} {i : Nat} (h : i < b.length) (hc : cutAt b i) (he : b.getD i 0 ≠ 1) : cutAt b (i + 1) := by
  unfold cutAt at *
  rw [drop_getD h, cutL_cons, if_neg he] at hc
  rw [hc, Option.map_map]
  congr 1
  funext x
  have : b.take (i + 1) = b.take i ++ [b.getD i 0] := by
    rw [List.take_add_one, List.getElem?_eq_getElem h, List.getD_eq_getElem?_getD, List.getElem?_eq_getElem h]; rfl
  simp [this]
theorem cutAt_end {b : List UInt8} (hc : cutAt b b.length) : untF b = ([], [], false) := by
  unfold cutAt at hc
  rw [List.drop_length] at hc
  unfold untF
  rw [hc]
  rfl
end Cn
namespace Go.Proofs.YtnmlpohhommagaaGreatDoor
open Go Go.Am Cn Lst
set_option linter.unusedVariables false
theorem bits_or_i64 (a b : Nat) (ha : a < 65536) (hb : b < 65536) : bits .or .i64 (a : Int) (b : Int) = ((a ||| b : Nat) : Int) := by
  have hx : a ||| b < 2 ^ 16 := Nat.or_lt_two_pow (by omega) (by omega)
  have e1 : ∀ x : Nat, x < 65536 → (BitVec.ofInt 64 (x : Int)).toNat = x := fun x hx => by
    rw [BitVec.ofInt_natCast, BitVec.toNat_ofNat]; exact Nat.mod_eq_of_lt (by omega)
  show IntKind.i64.wrap ((BitVec.ofInt 64 (a : Int) ||| BitVec.ofInt 64 (b : Int)).toNat : Int) = _
  rw [BitVec.toNat_or, e1 a ha, e1 b hb]
  exact wrap64 (by omega) (by omega)
theorem byte8 (u v : Nat) (hu : u < 256) (hv : v < 256) : bits .or .i64 ((u : Int) * 256) (v : Nat) = ((u * 256 + v : Nat) : Int) := by
  have h3 := bits_or_i64 (u * 256) v (by omega) (by omega)
  have h4 := Nat.two_pow_add_eq_or_of_lt (i := 8) (b := v) (by omega) u
  rw [show ((u : Int) * 256) = ((u * 256 : Nat) : Int) from by omega, h3, Nat.mul_comm u 256]
  exact congrArg _ h4.symm
/-- A reader's cells. -/
def rdr (b : List UInt8) (ok : Bool) : Blk := .cells [.sl b.length (encB b) .none, .bool ok]

set_option maxRecDepth 100000 in
set_option maxHeartbeats 4000000 in
theorem upTo_ok (r : Nat) (b : List UInt8) (hb : b.length ≤ 100000000) (ok : Bool) (H : List Blk) (T : Toks) (hr : H[r]? = some (rdr b ok)) :
    ACall Tryz.prog 63 [.ptr r 0] H T (Is (.str (Lst.cutT 1 b).1) (H.set r (rdr (Lst.cutT 1 b).2.1 (ok && (Lst.cutT 1 b).2.2))) T) := by
  have cb := cutB_ok 1 b (by omega) .none .full H T
  rw [show encB [1] = [AV.int .u8 1] from rfl] at cb
  have hrl : r < H.length := (List.getElem?_eq_some_iff.1 hr).1
  have hr2 : ∀ h, H[r]'h = _ := fun h => (List.getElem?_eq_some_iff.1 hr).2
  unfold rdr at *
  have hl := cutT_len2 1 b
  generalize Lst.cutT 1 b = p at *
  obtain ⟨s, t, f⟩ := p
  simp only at cb hl ⊢
  have hg : ∀ x : Blk, (H.set r x)[r]? = some x := fun x => by rw [List.getElem?_set_self hrl]
  have hs : ∀ x y : Blk, (H.set r x).set r y = H.set r y := fun x y => List.set_set _
  refine acall_enter 6 [] Tryz.ntmps63 Tryz.func63 rfl (fun _ _ => Tryz.call63 _ _) (by simp) (fun HO => ?_)
  refine aw_reg fun K hK => ?_; simp (maxSteps := 1000000) (disch := omega) [-List.getD_eq_getElem?_getD]; refine hK _ ?_; clear hK K
  refine aw_reg fun K hK => ?_; simp (maxSteps := 1000000) (disch := omega) [-List.getD_eq_getElem?_getD, hr2]
  refine acall_is (cb) ?_; simp (maxSteps := 1000000) (disch := omega) [-List.getD_eq_getElem?_getD]
  refine hK _ ?_; clear hK K
  cases ok with
  | false =>
    refine aw_reg fun K hK => ?_; simp (maxSteps := 1000000) (disch := omega) [-List.getD_eq_getElem?_getD, hr2, hg, hs]
    refine hK _ ?_; clear hK K
    refine aw_reg fun K hK => ?_; simp (maxSteps := 1000000) (disch := omega) [-List.getD_eq_getElem?_getD]
    refine hK _ ?_; clear hK K
    refine aw_ret ?_; simp (maxSteps := 1000000) (disch := omega) [-List.getD_eq_getElem?_getD]
    exact ⟨rfl, rfl, rfl⟩
  | true =>
    refine aw_reg fun K hK => ?_; simp (maxSteps := 1000000) (disch := omega) [-List.getD_eq_getElem?_getD, hr2, hg, hs]
    refine hK _ ?_; clear hK K
    refine aw_reg fun K hK => ?_; simp (maxSteps := 1000000) (disch := omega) [-List.getD_eq_getElem?_getD]
    refine hK _ ?_; clear hK K
    refine aw_ret ?_; simp (maxSteps := 1000000) (disch := omega) [-List.getD_eq_getElem?_getD]
    exact ⟨rfl, rfl, rfl⟩

set_option maxRecDepth 100000 in
set_option maxHeartbeats 4000000 in
theorem twoP_ok (r : Nat) (x y : UInt8) (b : List UInt8) (hb : b.length ≤ 100000000) (ok : Bool) (H : List Blk) (T : Toks) (hr : H[r]? = some (rdr (x :: y :: b) ok)) :
    ACall Tryz.prog 64 [.ptr r 0] H T (Is (.int .i64 ((x.toNat * 256 + y.toNat : Nat) : Int)) (H.set r (rdr b ok)) T) := by
  have hrl : r < H.length := (List.getElem?_eq_some_iff.1 hr).1
  unfold rdr at *
  rw [show encB (x :: y :: b) = .int .u8 (x.toNat : Nat) :: .int .u8 (y.toNat : Nat) :: encB b from rfl, show (x :: y :: b).length = b.length + 2 from rfl] at hr
  have hr2 : ∀ h, H[r]'h = _ := fun h => (List.getElem?_eq_some_iff.1 hr).2
  have hx := x.toNat_lt
  have hy := y.toNat_lt
  have ht : (encB b).take b.length = encB b := List.take_of_length_le (by simp [encB])
  have el : (encB b).length = b.length := by simp [encB]
  have hor : bits .or .i64 ((x.toNat : Int) * 256) (y.toNat : Nat) = ((x.toNat * 256 + y.toNat : Nat) : Int) := by
    exact byte8 _ _ (by omega) (by omega)
  generalize x.toNat = u at *
  generalize y.toNat = v at *
  refine acall_enter 4 [] Tryz.ntmps64 Tryz.func64 rfl (fun _ _ => Tryz.call64 _ _) (by simp) (fun HO => ?_)
  refine aw_reg fun K hK => ?_; simp (maxSteps := 1000000) (disch := omega) [-List.getD_eq_getElem?_getD]; refine hK _ ?_; clear hK K
  refine aw_then fun K1 hK1 => ?_
  refine aw_reg fun K hK => ?_; simp (maxSteps := 1000000) (disch := omega) [-List.getD_eq_getElem?_getD, hr2]
  refine hK _ ?_; clear hK K
  refine aw_if rfl (fun h => absurd h (by simp; omega)) (fun h => ?_)
  refine aw_skip ?_; simp (maxSteps := 1000000) (disch := omega) [-List.getD_eq_getElem?_getD]
  refine hK1 _ ?_; clear hK1
  refine aw_draw [] [] [] drawMixed (by kernel_rfl) (by kernel_rfl) fun K hK => ?_; simp (maxSteps := 1000000) (disch := omega) [-List.getD_eq_getElem?_getD, hr2, el, hor]
  refine hK _ ?_; clear hK K
  have hg : ∀ x : Blk, (H.set r x)[r]? = some x := fun x => by rw [List.getElem?_set_self hrl]
  refine aw_reg fun K hK => ?_; simp (maxSteps := 1000000) (disch := omega) [-List.getD_eq_getElem?_getD, hr2, el, ht]
  refine hK _ ?_; clear hK K
  refine aw_reg fun K hK => ?_; simp (maxSteps := 1000000) (disch := omega) [-List.getD_eq_getElem?_getD]
  refine hK _ ?_; clear hK K
  refine aw_ret ?_; simp (maxSteps := 1000000) (disch := omega) [-List.getD_eq_getElem?_getD]
  exact ⟨rfl, rfl, rfl⟩

set_option maxRecDepth 100000 in
set_option maxHeartbeats 4000000 in
theorem twoS_ok (r : Nat) (b : List UInt8) (hb : b.length < 2) (ok : Bool) (H : List Blk) (T : Toks) (hr : H[r]? = some (rdr b ok)) :
    ACall Tryz.prog 64 [.ptr r 0] H T (Is (.int .i64 0) (H.set r (rdr b false)) T) := by
  have hrl : r < H.length := (List.getElem?_eq_some_iff.1 hr).1
  unfold rdr at *
  have hr2 : ∀ h, H[r]'h = _ := fun h => (List.getElem?_eq_some_iff.1 hr).2
  have b1 : decide ((b.length : Int) < 2) = true := decide_eq_true (by omega)
  refine acall_enter 4 [] Tryz.ntmps64 Tryz.func64 rfl (fun _ _ => Tryz.call64 _ _) (by simp) (fun HO => ?_)
  refine aw_reg fun K hK => ?_; simp (maxSteps := 1000000) (disch := omega) [-List.getD_eq_getElem?_getD]; refine hK _ ?_; clear hK K
  refine aw_then fun K1 hK1 => ?_
  refine aw_reg fun K hK => ?_; simp (maxSteps := 1000000) (disch := omega) [-List.getD_eq_getElem?_getD, hr2, b1]
  refine hK _ ?_; clear hK K
  refine aw_if rfl (fun h => ?_) (fun h => absurd h (by simp [hb]))
  refine aw_reg fun K hK => ?_; simp (maxSteps := 1000000) (disch := omega) [-List.getD_eq_getElem?_getD, hr2]
  refine hK _ ?_; clear hK K
  refine aw_reg fun K hK => ?_; simp (maxSteps := 1000000) (disch := omega) [-List.getD_eq_getElem?_getD]; refine hK _ ?_; clear hK K
  refine aw_ret ?_; simp (maxSteps := 1000000) (disch := omega) [-List.getD_eq_getElem?_getD]
  exact ⟨rfl, rfl, rfl⟩

set_option maxRecDepth 100000 in
set_option maxHeartbeats 4000000 in
theorem until_ok (b : List UInt8) (hb : b.length ≤ 100000000) (tg : Tag) (H : List Blk) (T : Toks) :
    ACall Tryz.prog 65 [.sl b.length (encB b) tg] H T (Is (.tup [.str (untF b).1, .sl (untF b).2.1.length (encB (untF b).2.1) .none, .bool (untF b).2.2]) H T) := by
  refine ACall.untag1 ?_
  refine ACall.dropT ?_ (by simp)
  show ACall _ _ [.sl b.length (encB b) .none] _ _ _
  have h0 := cutAt_zero b
  have hh := fun i (h : i < b.length) => cutAt_hit (i := i) h
  have hs := fun i (h : i < b.length) => cutAt_step (i := i) h
  have he := cutAt_end (b := b)
  have hat := fun i (h : i < b.length) => getD_encB (xs := b) (k := i) h
  have el : (encB b).length = b.length := by simp [encB]
  have etk : ∀ i, i < b.length → (encB b).take i = encB (b.take i) := fun i h => by simp [encB]
  have edr : ∀ i, i < b.length → ((encB b).drop (i + 1)).take (b.length - (i + 1)) = encB (b.drop (i + 1)) := fun i h => by
    rw [List.take_of_length_le (by simp [encB])]; simp [encB]
  have hbe : ∀ n t, BelowAll n t (encB b) := fun n t => by simp
  generalize untF b = U at *
  generalize hB : encB b = B at *
  refine acall_enter 6 [] Tryz.ntmps65 Tryz.func65 rfl (fun _ _ => Tryz.call65 _ _) (by simp) (fun HO => ?_)
  refine aw_reg fun K hK => ?_; simp (maxSteps := 1000000) (disch := omega) [-List.getD_eq_getElem?_getD]; refine hK _ ?_; clear hK K
  refine aw_then fun K1 hK1 => ?_
  refine aw_reg fun K hK => ?_; simp (maxSteps := 1000000) (disch := omega) [-List.getD_eq_getElem?_getD]; refine hK _ ?_; clear hK K
  refine aw_block ?_
  refine aw_loop (X := Nat) (fun i => ⟨[(0, .sl b.length B .none), (5, .int .i64 (i : Nat))], H, T⟩) (fun i => i ≤ b.length ∧ cutAt b i) (fun i => b.length - i) 0 ?_ ?_ ?_
  · exact ⟨Nat.zero_le _, h0⟩
  · refine weak_to [] [] ?_ ?_ ?_ ?_ HO ?_
    all_goals simp [hbe]
  · rintro i ⟨h1, h2⟩
    refine aw_then fun K2 hK2 => ?_
    refine aw_reg fun K hK => ?_; simp (maxSteps := 1000000) (disch := omega) [-List.getD_eq_getElem?_getD]; refine hK _ ?_; clear hK K
    refine aw_if rfl (fun hk => ?_) (fun hk => ?_)
    · simp [-List.getD_eq_getElem?_getD] at hk
      have ha := hat i hk
      have hiB : i < B.length := by omega
      have hh := hh i hk h2
      have hs := hs i hk h2
      have etk := etk i hk
      have edr := edr i hk
      refine aw_skip ?_; simp (maxSteps := 1000000) (disch := omega) [-List.getD_eq_getElem?_getD]
      refine hK2 _ ?_; clear hK2
      refine aw_then fun K3 hK3 => ?_
      refine aw_block ?_
      by_cases hx : b.getD i 0 = 1
      · have hh := hh hx
        subst hh
        have hx1 : (((b.getD i 0).toNat : Nat) : Int) = 1 := by rw [hx]; rfl
        have n2 : i ≤ b.length := by omega
        have n3 : i + 1 ≤ b.length := by omega
        have l1 : (b.take i).length = i := by simp; omega
        have l2 : (b.drop (i + 1)).length = b.length - (i + 1) := by simp
        have l3 : i ≤ B.length := by omega
        rw [hx1] at ha
        refine aw_reg fun K hK => ?_; simp (maxSteps := 1000000) (disch := omega) [-List.getD_eq_getElem?_getD, ha, el]; refine hK _ ?_; clear hK K
        refine aw_if rfl (fun h => ?_) (fun h => absurd h (by simp))
        generalize b.take i = P at *
        generalize b.drop (i + 1) = Q at *
        refine aw_draw [] [] [] drawMixed (by kernel_rfl) (by kernel_rfl) fun K hK => ?_; simp (maxSteps := 1000000) (disch := omega) [-List.getD_eq_getElem?_getD, etk, edr, el, n2, n3, l1]
        refine hK _ ?_; clear hK K
        refine aw_ret ?_; simp (maxSteps := 1000000) (disch := omega) [-List.getD_eq_getElem?_getD]
        simp [l1, l2]
      · have hs := hs hx
        have hx1 : (((b.getD i 0).toNat : Nat) : Int) ≠ 1 := by
          intro e
          apply hx
          apply UInt8.toNat_inj.1
          show _ = 1
          omega
        have b1 : ((((b.getD i 0).toNat : Nat) : Int) == 1) = false := beq_eq_false_iff_ne.2 hx1
        have b2 : (b.getD i 0).toNat ≠ 1 := by omega
        generalize (b.getD i 0).toNat = z at *
        refine aw_reg fun K hK => ?_; simp (maxSteps := 1000000) (disch := omega) [-List.getD_eq_getElem?_getD, ha, el, b1]; refine hK _ ?_; clear hK K
        refine aw_if rfl (fun h => absurd h (by simp [b2])) (fun h => ?_)
        refine aw_skip ?_; simp (maxSteps := 1000000) (disch := omega) [-List.getD_eq_getElem?_getD]
        refine hK3 _ ?_; clear hK3
        refine aw_reg0 fun K hK => ?_; simp (maxSteps := 1000000) (disch := omega) [-List.getD_eq_getElem?_getD]
        refine hK _ ?_; clear hK K
        refine ⟨i + 1, ⟨by show i + 1 ≤ _; omega, hs⟩, by show b.length - (i + 1) < b.length - i; omega, ?_⟩
        refine weak_to [] [] ?_ ?_ ?_ ?_ HO ?_
        all_goals simp [hbe]
    · simp [-List.getD_eq_getElem?_getD] at hk
      have e : i = b.length := by omega
      subst e
      have he := he h2
      subst he
      refine aw_exit ?_; simp (maxSteps := 1000000) (disch := omega) [-List.getD_eq_getElem?_getD]
      refine hK1 _ ?_; clear hK1
      refine aw_reg fun K hK => ?_; simp (maxSteps := 1000000) (disch := omega) [-List.getD_eq_getElem?_getD]; refine hK _ ?_; clear hK K
      refine aw_ret ?_; simp (maxSteps := 1000000) (disch := omega) [-List.getD_eq_getElem?_getD]
end Go.Proofs.YtnmlpohhommagaaGreatDoor

/- FromKey (layer 52): the program's walk. -/
namespace Cn
open Go.Lib Lst
/-- Two bytes as a number: what the program's reader reads. -/
def twoV : List UInt8 → Bool → Int × List UInt8 × Bool
  | x :: y :: r, ok => (((x.toNat * 256 + y.toNat : Nat) : Int), r, ok)
  | b, _ => (0, b, false)
theorem twoV_len (b : List UInt8) (ok : Bool) : (twoV b ok).2.1.length ≤ b.length ∧ 0 ≤ (twoV b ok).1 ∧ (twoV b ok).1 ≤ 65535 := by
  match b with
  | [] => simp [twoV]
  | [_] => simp [twoV]
  | x :: y :: r =>
    have := x.toNat_lt
    have := y.toNat_lt
    simp only [twoV, List.length_cons]
    omega
def zeroC : Cl := ⟨0, [], 0, [], [], 0, []⟩
theorem drop_cons3 {l : List (List UInt8)} {i : Nat} (h : i < l.length) : l.drop i = l.getD i [] :: l.drop (i + 1) := by
  rw [List.drop_eq_getElem_cons h, List.getD_eq_getElem?_getD, List.getElem?_eq_getElem h]; rfl
/-- What stands behind the decimals, from the i-th cutter on. -/
def tlI (c : Cl) (i : Nat) : List UInt8 := keyC (c.cut.drop i) ++ 2 :: UInt8.ofNat (c.yr.toNat / 256) :: UInt8.ofNat (c.yr.toNat % 256) :: c.rest
theorem tlI_cut {c : Cl} (hv : validF c = true) {i : Nat} (h : i < c.cut.length) : tlI c i = 3 :: (c.cut.getD i [] ++ 1 :: tlI c (i + 1)) ∧ Lst.cutT 1 (c.cut.getD i [] ++ 1 :: tlI c (i + 1)) = (c.cut.getD i [], tlI c (i + 1), true) := by
  constructor
  · unfold tlI
    rw [drop_cons3 h, keyC_cons]
    simp
  · have hno : (1 : UInt8) ∉ c.cut.getD i [] := fun hm => by
      have := cut_gt (valid_cuts hv _ (memL h)) 1 hm
      exact absurd this (by decide)
    unfold Lst.cutT
    rw [cutL_app _ hno]
theorem tlI_end (c : Cl) : tlI c c.cut.length = 2 :: UInt8.ofNat (c.yr.toNat / 256) :: UInt8.ofNat (c.yr.toNat % 256) :: c.rest := by
  unfold tlI
  rw [List.drop_length]
  rfl
/-- The reading of a key. -/
theorem key_parts {c : Cl} (hv : validF c = true) : ∃ R1 R3, keyF c = UInt8.ofNat c.sch.toNat :: R1 ∧ Lst.cutT 1 R1 = (c.cls, UInt8.ofNat (c.num.toNat / 256) :: UInt8.ofNat (c.num.toNat % 256) :: R3, true) ∧ Lst.cutT 1 R3 = (c.dec, tlI c 0, true) ∧
    R1.length ≤ (keyF c).length ∧ R3.length ≤ (keyF c).length := by
  have hk := keyF_hd hv
  unfold hd at hk
  have h1 : (1 : UInt8) ∉ c.cls := fun hm => absurd (cls_gt hv 1 hm) (by decide)
  have h2 : (1 : UInt8) ∉ c.dec := fun hm => absurd (dig_gt (fracF_iff.1 (valid_dec hv)).2.1 1 hm) (by decide)
  have ht : tl c = tlI c 0 := by unfold tl tlI; simp
  rw [ht] at hk
  refine ⟨_, c.dec ++ 1 :: tlI c 0, hk, ?_, ?_, by rw [hk]; simp, ?_⟩
  · unfold Lst.cutT
    rw [cutL_app _ h1]
    rfl
  · unfold Lst.cutT
    rw [cutL_app _ h2]
  · rw [hk]
    simp
    omega
theorem two_back {n : Nat} (h : n ≤ 65535) : (UInt8.ofNat (n / 256)).toNat * 256 + (UInt8.ofNat (n % 256)).toNat = n := by
  rw [UInt8.toNat_ofNat', UInt8.toNat_ofNat']; omega
theorem key_len {c : Cl} (hv : validF c = true) : (keyF c).length ≤ 100 := by
  have h1 := keyC_len (l := c.cut) (fun x hx => by have := cutF_len (valid_cuts hv x hx); omega)
  have h5 := restF_len (valid_rest hv)
  have h6 := (fracF_iff.1 (valid_dec hv)).1
  have hc : c.cls.length ≤ 3 := by
    rcases valid_sch hv with h | h
    · omega
    · rw [h.2.1]; simp
  have hk : c.cut.length ≤ 3 := by rcases valid_sch hv with h | h <;> omega
  have h7 : ∀ l : List (List UInt8), (∀ x ∈ l, x.length ≤ 7) → (keyC l).length ≤ l.length * 9 := by
    intro l
    induction l with
    | nil => intro _; simp [keyC]
    | cons x r ih =>
      intro hx
      have := ih (fun y hy => hx y (by simp [hy]))
      have := hx x (by simp)
      rw [keyC_cons]
      simp
      omega
  have h8 := h7 c.cut (fun x hx => cutF_len (valid_cuts hv x hx))
  unfold keyF begF
  rw [if_pos hv]
  simp only [List.length_append, List.length_cons, List.length_nil]
  omega
end Cn
namespace Go.Proofs.YtnmlpohhommagaaGreatDoor
open Go Go.Am Cn Lst
set_option linter.unusedVariables false

theorem box3 {H : List Blk} {x y z : Blk} : H ++ [x, y, z] = ((H ++ [x]) ++ [y]) ++ [z] := by simp
theorem upToF (x : Blk) (b : List UInt8) (hb : b.length ≤ 100000000) (ok : Bool) (G H : List Blk) (T : Toks) :
    ACall Tryz.prog 63 [.ptr (H.length + 1) 0] (H ++ x :: .cells [.sl (b).length (encB (b)) .none, .bool ok] :: G) T (Is (.str (Lst.cutT 1 b).1) (H ++ x :: .cells [.sl ((Lst.cutT 1 b).2.1).length (encB ((Lst.cutT 1 b).2.1)) .none, .bool (ok && (Lst.cutT 1 b).2.2)] :: G) T) := by
  have h := upTo_ok (H.length + 1) b hb ok (H ++ x :: .cells [.sl (b).length (encB (b)) .none, .bool ok] :: G) T (by simp [rdr])
  unfold rdr at h
  rw [new_set] at h
  exact h
theorem twoG (x : Blk) (b : List UInt8) (hb : b.length ≤ 100000000) (ok : Bool) (G H : List Blk) (T : Toks) :
    ACall Tryz.prog 64 [.ptr (H.length + 1) 0] (H ++ x :: .cells [.sl (b).length (encB (b)) .none, .bool ok] :: G) T (Is (.int .i64 (twoV b ok).1) (H ++ x :: .cells [.sl ((twoV b ok).2.1).length (encB ((twoV b ok).2.1)) .none, .bool (twoV b ok).2.2] :: G) T) := by
  match b, hb with
  | [], hb =>
    have h := twoS_ok (H.length + 1) [] (by simp) ok (H ++ x :: .cells [.sl 0 [] .none, .bool ok] :: G) T (by simp [rdr])
    unfold rdr at h
    rw [new_set] at h
    exact h
  | [y], hb =>
    have h := twoS_ok (H.length + 1) [y] (by simp) ok (H ++ x :: .cells [.sl ([y]).length (encB ([y])) .none, .bool ok] :: G) T (by simp [rdr])
    unfold rdr at h
    rw [new_set] at h
    exact h
  | y :: z :: r, hb =>
    have h := twoP_ok (H.length + 1) y z r (by simp at hb; omega) ok (H ++ x :: .cells [.sl (y :: z :: r).length (encB (y :: z :: r)) .none, .bool ok] :: G) T (by simp [rdr])
    unfold rdr at h
    rw [new_set] at h
    exact h

set_option maxRecDepth 100000 in
set_option maxHeartbeats 8000000 in
theorem fromP_yes (c : Cl) (hv : validF c = true) (tg : Tag) (H : List Blk) (T : Toks) :
    ACall Tryz.prog 30 [.sl (keyF c).length (encB (keyF c)) tg] H T (Is (.tup [.agg (clAV c .none), .int .i64 0]) H T) := by
  refine ACall.untag1 ?_
  refine ACall.dropTA ?_ (by simp [clAV])
  show ACall _ _ [.sl (keyF c).length (encB (keyF c)) .none] _ _ _
  have hsm := valid_sm hv
  have cv := fun G T tg => validP_ok c tg hsm (H ++ G) T
  have ck := fun G T tg => keyP_ok c tg hsm (H ++ G) T
  have ce := fun G T => bytesEq_ok (keyF c) (keyF c) .none .none (H ++ G) T
  rw [beq_self_eq_true] at ce
  rw [hv] at cv
  obtain ⟨R1, R3, hk, hc1, hc2, hl1, hl3⟩ := key_parts hv
  have hkl := key_len hv
  have hnv := valid_num hv
  have hyv := valid_yr hv
  have u1 := fun x G T => upToF x R1 (by omega) true G H T
  have u2 := fun x G T => upToF x R3 (by omega) true G H T
  rw [hc1] at u1
  rw [hc2] at u2
  have htl : ∀ i, i ≤ c.cut.length → (tlI c i).length ≤ 2000000 := fun i h => by
    have := keyC_len (l := c.cut.drop i) (fun x hx => hsm.each x (List.mem_of_mem_drop hx)) _ (Nat.le_refl _)
    rw [List.take_length, List.length_drop] at this
    have := hsm.cut
    have := hsm.rest
    unfold tlI
    simp only [List.length_append, List.length_cons]
    omega
  have hY : tlI c 0 = tlI c 0 := rfl
  have hce := tlI_end c
  have hct := fun i h => tlI_cut hv (i := i) h
  have hk0 : ((UInt8.ofNat c.sch.toNat).toNat : Int) = c.sch := by
    rcases valid_sch hv with h | h <;> rw [h.1] <;> rfl
  have hn2 := two_back (n := c.num.toNat) (by omega)
  have hy2 := two_back (n := c.yr.toNat) (by omega)
  have t1 := fun x G T => twoG x (UInt8.ofNat (c.num.toNat / 256) :: UInt8.ofNat (c.num.toNat % 256) :: R3) (by simp; omega) true G H T
  have t2 := fun x G T => twoG x (UInt8.ofNat (c.yr.toNat / 256) :: UInt8.ofNat (c.yr.toNat % 256) :: c.rest) (by have := hsm.rest; simp; omega) true G H T
  simp only [twoV, hn2, hy2] at t1 t2
  rw [show ((c.num.toNat : Nat) : Int) = c.num by omega] at t1
  rw [show ((c.yr.toNat : Nat) : Int) = c.yr by omega] at t2
  generalize UInt8.ofNat (c.num.toNat / 256) :: UInt8.ofNat (c.num.toNat % 256) :: R3 = R2 at *
  generalize hR5 : UInt8.ofNat (c.yr.toNat / 256) :: UInt8.ofNat (c.yr.toNat % 256) :: c.rest = R5 at *
  have hcut := hsm.cut
  clear hnv hyv hn2 hy2 hc1 hc2 hl1 hl3
  generalize tlI c = E at *
  generalize UInt8.ofNat c.sch.toNat = k at *
  generalize keyF c = KF at *
  obtain ⟨sch, cls, num, dec, cut, yr, rest⟩ := c
  simp only [clAV] at *
  have hlen := strs_len cut
  have hsn : ∀ i, i < cut.length → strs (cut.take i) ++ [AV.str (cut.getD i [])] = strs (cut.take (i + 1)) := fun i h => by
    rw [List.take_add_one, List.getElem?_eq_getElem h, List.getD_eq_getElem?_getD, List.getElem?_eq_getElem h, ← strs_append]; rfl
  have htk : ∀ i, (strs (cut.take i)).length = (cut.take i).length := fun i => by simp [strs]
  have hbk : ∀ n t x, BelowAll n t (encB x) := fun n t x => by simp
  have e0 : encB (k :: R1) = .int .u8 (k.toNat : Nat) :: encB R1 := rfl
  have ht1 : ∀ x : List UInt8, (encB x).take x.length = encB x := fun x => List.take_of_length_le (by simp [encB])
  have el : ∀ x : List UInt8, (encB x).length = x.length := fun x => by simp [encB]
  subst hk
  have hl0 : (k :: R1).length = R1.length + 1 := rfl
  rw [e0, hl0]
  refine acall_enter 6 [] Tryz.ntmps30 Tryz.func30 rfl (fun _ _ => Tryz.call30 _ _) (by simp) (fun HO => ?_)
  refine aw_reg fun K hK => ?_; simp (maxSteps := 1000000) (disch := omega) [-List.getD_eq_getElem?_getD]; refine hK _ ?_; clear hK K
  refine aw_then fun K1 hK1 => ?_
  refine aw_reg fun K hK => ?_; simp (maxSteps := 1000000) (disch := omega) [-List.getD_eq_getElem?_getD]
  refine hK _ ?_; clear hK K
  refine aw_if rfl (fun h => absurd h (by simp; omega)) (fun h => ?_)
  refine aw_skip ?_; simp (maxSteps := 1000000) (disch := omega) [-List.getD_eq_getElem?_getD]
  refine hK1 _ ?_; clear hK1
  refine aw_reg fun K hK => ?_; simp (maxSteps := 1000000) (disch := omega) [-List.getD_eq_getElem?_getD, ht1, el]
  refine hK _ ?_; clear hK K
  refine aw_drawP (.both 5 7 (.leaf [5, 7, 8] [0, 0, 0, 0, 0, 0, 1, 1, 2] [[0, 1, 2, 3], [0, 1, 2, 3, 6], []]) (.swp 6 7 (.leaf [5, 6, 8] [0, 0, 0, 0, 0, 0, 1, 2, 2] [[0, 1, 2, 3, 4], [0, 1, 2, 3], []]))) drawMixed (by kernel_rfl) fun K hK => ?_
  have fin : ∀ e, envLe (H.length + 3) T.length e [(0, .sl (R1.length + 1) (.int .u8 (k.toNat : Nat) :: encB R1) .none), (2, .ptr H.length 0), (3, .int .i64 0), (4, .ptr (H.length + 1) 0), (5, .ptr (H.length + 2) 0)] → K ⟨e, H ++ [.cells [.int .i64 0, .str [], .int .i64 0, .str [], .sl 0 [] .full, .int .i64 0, .str []], .cells [.sl (R2).length (encB (R2)) .none, .bool true], .cells [.int .i64 sch, .str cls, .int .i64 0, .str [], .sl 0 [] .full, .int .i64 0, .str []]], T⟩ := by
    intro e he
    refine hK _ (aw_weak ⟨[(0, .sl (R1.length + 1) (.int .u8 (k.toNat : Nat) :: encB R1) .none), (2, .ptr H.length 0), (3, .int .i64 0), (4, .ptr (H.length + 1) 0), (5, .ptr (H.length + 2) 0)], H ++ [.cells [.int .i64 0, .str [], .int .i64 0, .str [], .sl 0 [] .full, .int .i64 0, .str []], .cells [.sl (R2).length (encB (R2)) .none, .bool true], .cells [.int .i64 sch, .str cls, .int .i64 0, .str [], .sl 0 [] .full, .int .i64 0, .str []]], T⟩ (weak_to [] [] (by simp) (by simp) (by simp) (by simp) (by rw [box3]; exact HOk.snoc (HOk.snoc (HO.snoc (by simp)) (by simp)) (by simp)) (by simpa using he)) ?_)
    clear hK he
    refine aw_ownC 1 4 (H ++ [.cells [.int .i64 0, .str [], .int .i64 0, .str [], .sl 0 [] .full, .int .i64 0, .str []], .cells [.sl (R2).length (encB (R2)) .none, .bool true]]) [.int .i64 sch, .str cls, .int .i64 0, .str [], .sl 0 [] .full, .int .i64 0, .str []] 0 [] (by omega) rfl (by simp) ?_
    simp only [List.set_cons_succ, List.set_cons_zero]
    have HO2 : ∀ i (b : List UInt8), HOk (H ++ [.cells [.int .i64 0, .str [], .int .i64 0, .str [], .sl 0 [] .full, .int .i64 0, .str []], .cells [.sl (b).length (encB (b)) .none, .bool true], .cells [.int .i64 sch, .str cls, .int .i64 num, .str dec, .sl (cut.take i).length (strs (cut.take i)) (.own T.length), .int .i64 0, .str []]]) (T ++ [((cut.take i).length, 1)]) := fun i b => by
      rw [box3]
      exact HOk.snoc (HOk.snoc (HOk.snoc (HO.toks (by simp)) (by simp)) (by simp)) (by simp)
    refine aw_reg fun K hK => ?_; simp (maxSteps := 1000000) (disch := omega) [-List.getD_eq_getElem?_getD]
    refine acall_is (t1 _ _ _) ?_; simp (maxSteps := 1000000) (disch := omega) [-List.getD_eq_getElem?_getD]
    refine hK _ ?_; clear hK K
    refine aw_reg fun K hK => ?_; simp (maxSteps := 1000000) (disch := omega) [-List.getD_eq_getElem?_getD]
    refine acall_is (u2 _ _ _) ?_; simp (maxSteps := 1000000) (disch := omega) [-List.getD_eq_getElem?_getD]
    refine hK _ ?_; clear hK K
    refine aw_then fun K1 hK1 => ?_
    refine aw_block ?_
    refine aw_loop (X := Nat) (fun i => ⟨[(0, .sl (R1.length + 1) (.int .u8 (k.toNat : Nat) :: encB R1) .none), (2, .ptr H.length 0), (3, .int .i64 0), (4, .ptr (H.length + 1) 0), (5, .ptr (H.length + 2) 0)], H ++ [.cells [.int .i64 0, .str [], .int .i64 0, .str [], .sl 0 [] .full, .int .i64 0, .str []], .cells [.sl (E i).length (encB (E i)) .none, .bool true], .cells [.int .i64 sch, .str cls, .int .i64 num, .str dec, .sl (cut.take i).length (strs (cut.take i)) (.own T.length), .int .i64 0, .str []]], T ++ [((cut.take i).length, 1)]⟩) (fun i => i ≤ cut.length) (fun i => cut.length - i) 0 ?_ ?_ ?_
    · exact Nat.zero_le _
    · refine weak_to [] [] ?_ ?_ ?_ ?_ (HO2 0 _) ?_
      all_goals simp
    · rintro i h1
      refine aw_then fun K2 hK2 => ?_
      by_cases hk : i < cut.length
      · obtain ⟨g1, g2⟩ := hct i hk
        have hsn := hsn i hk
        have hZl := htl i h1
        have hil : (cut.take i).length = i := by simp; omega
        have hil2 : (cut.take (i + 1)).length = i + 1 := by simp; omega
        rw [g1] at hZl
        rw [g1]
        clear hct htl g1
        generalize cut.getD i [] ++ 1 :: E (i + 1) = Z at *
        generalize cut.getD i [] = x at *
        rw [show encB (3 :: Z) = .int .u8 3 :: encB Z from rfl, show (3 :: Z).length = Z.length + 1 from rfl] at *
        have u3 := fun x G T => upToF x Z (by omega) true G H T
        rw [g2] at u3
        refine aw_reg fun K hK => ?_; simp (maxSteps := 1000000) (disch := omega) [-List.getD_eq_getElem?_getD]; refine hK _ ?_; clear hK K
        refine aw_if rfl (fun h => ?_) (fun h => absurd h (by simp))
        refine aw_skip ?_; simp (maxSteps := 1000000) (disch := omega) [-List.getD_eq_getElem?_getD]
        refine hK2 _ ?_; clear hK2
        refine aw_block ?_
        refine aw_reg fun K hK => ?_; simp (maxSteps := 1000000) (disch := omega) [-List.getD_eq_getElem?_getD, ht1, el]
        refine hK _ ?_; clear hK K
        refine aw_draw0 [3, 5, 7] [0, 0, 0, 0, 1, 1, 2, 2] [[0, 1], [], []] drawMixed (by kernel_rfl) (by kernel_rfl) fun K hK => ?_; simp (maxSteps := 1000000) (disch := omega) [-List.getD_eq_getElem?_getD]
        refine dcall_eff ((u3 _ _ _)) rfl ?_; simp (maxSteps := 1000000) (disch := omega) [-List.getD_eq_getElem?_getD, hsn, htk]
        refine hK _ ?_; clear hK K
        refine ⟨i + 1, by show i + 1 ≤ _; omega, by show cut.length - (i + 1) < cut.length - i; omega, ?_⟩
        refine weak_to [] [] ?_ ?_ ?_ ?_ (HO2 (i + 1) _) ?_
        all_goals simp [hil, hil2]
      · have e : i = cut.length := by omega
        subst e
        rw [hce, List.take_length]
        clear hct htl
        rw [show encB (2 :: R5) = .int .u8 2 :: encB R5 from rfl, show (2 :: R5).length = R5.length + 1 from rfl]
        refine aw_reg fun K hK => ?_; simp (maxSteps := 1000000) (disch := omega) [-List.getD_eq_getElem?_getD]; refine hK _ ?_; clear hK K
        refine aw_if rfl (fun h => absurd h (by simp)) (fun h => ?_)
        refine aw_exit ?_; simp (maxSteps := 1000000) (disch := omega) [-List.getD_eq_getElem?_getD]
        refine hK1 _ ?_; clear hK1
        refine aw_then fun K1 hK1 => ?_
        refine aw_reg fun K hK => ?_; simp (maxSteps := 1000000) (disch := omega) [-List.getD_eq_getElem?_getD]; refine hK _ ?_; clear hK K
        refine aw_if rfl (fun h => absurd h (by simp)) (fun h => ?_)
        refine aw_skip ?_; simp (maxSteps := 1000000) (disch := omega) [-List.getD_eq_getElem?_getD]
        refine hK1 _ ?_; clear hK1
        refine aw_reg fun K hK => ?_; simp (maxSteps := 1000000) (disch := omega) [-List.getD_eq_getElem?_getD, ht1, el]
        refine hK _ ?_; clear hK K
        refine aw_reg fun K hK => ?_; simp (maxSteps := 1000000) (disch := omega) [-List.getD_eq_getElem?_getD]
        refine acall_is (t2 _ _ _) ?_; simp (maxSteps := 1000000) (disch := omega) [-List.getD_eq_getElem?_getD]
        refine hK _ ?_; clear hK K
        refine aw_reg fun K hK => ?_; simp (maxSteps := 1000000) (disch := omega) [-List.getD_eq_getElem?_getD]
        refine hK _ ?_; clear hK K
        refine aw_then fun K1 hK1 => ?_
        refine aw_reg fun K hK => ?_; simp (maxSteps := 1000000) (disch := omega) [-List.getD_eq_getElem?_getD]
        refine acall_is (cv _ _ _) ?_; simp (maxSteps := 1000000) (disch := omega) [-List.getD_eq_getElem?_getD]
        refine acall_is (ck _ _ _) ?_; simp (maxSteps := 1000000) (disch := omega) [-List.getD_eq_getElem?_getD]
        refine acall_is (ce _ _) ?_; simp (maxSteps := 1000000) (disch := omega) [-List.getD_eq_getElem?_getD]
        refine hK _ ?_; clear hK K
        refine aw_if rfl (fun h => absurd h (by simp)) (fun h => ?_)
        refine aw_skip ?_; simp (maxSteps := 1000000) (disch := omega) [-List.getD_eq_getElem?_getD]
        refine hK1 _ ?_; clear hK1
        refine aw_reg fun K hK => ?_; simp (maxSteps := 1000000) (disch := omega) [-List.getD_eq_getElem?_getD]
        refine hK _ ?_; clear hK K
        refine aw_ret ?_; simp (maxSteps := 1000000) (disch := omega) [-List.getD_eq_getElem?_getD]
        simp [untagA, untag]
  have hwk : IntKind.i64.wrap (k.toNat : Int) = sch := by
    have := k.toNat_lt
    rw [wrap64 (by omega) (by omega)]; exact hk0
  refine ⟨?_, ?_⟩
  · simp (maxSteps := 1000000) (disch := omega) [-List.getD_eq_getElem?_getD, Plan.ob, addE, hwk]
    refine dcall_eff ((u1 _ _ _)) rfl ?_; simp (maxSteps := 1000000) (disch := omega) [-List.getD_eq_getElem?_getD, hwk]
    refine fin _ ?_
    simp
  · simp (maxSteps := 1000000) (disch := omega) [-List.getD_eq_getElem?_getD, Plan.ob, addE, swapE, relO, sw, hwk]
    refine dcall_eff ((u1 _ _ _)) rfl ?_; simp (maxSteps := 1000000) (disch := omega) [-List.getD_eq_getElem?_getD, hwk]
    refine fin _ ?_
    simp
end Go.Proofs.YtnmlpohhommagaaGreatDoor
