/- Comparing call numbers; classes; what lies within one (layer 52): the program's walks. Compare, Equal, class, Within, beginning (layer 52): the program's walks. Key (layer 52): the program's walk.
   Conditions: small parts, as each theorem says. -/
import Derived.Test.YtnmlpohhommagaaGreatDoorCD
import Derived.Test.YtnmlpohhommagaaGreatDoorLCmp

/- Comparing call numbers; classes; what lies within one (layer 52): the program's walks. -/
namespace Cn
open Go.Lib Lst
/-- Cutters, one behind the other. -/
def compL : List (List UInt8) → List (List UInt8) → Int
  | [], [] => 0
  | [], _ :: _ => -1
  | _ :: _, [] => 1
  | a :: r, b :: q => if compareBytes a b = 0 then compL r q else compareBytes a b
theorem compL_nilL (b : List (List UInt8)) (h : b ≠ []) : compL [] b = -1 := by cases b with | nil => exact absurd rfl h | cons _ _ => rfl
theorem compL_nilR (a : List (List UInt8)) (h : a ≠ []) : compL a [] = 1 := by cases a with | nil => exact absurd rfl h | cons _ _ => rfl
theorem compL_drop {a b : List (List UInt8)} {i : Nat} (ha : i < a.length) (hb : i < b.length) : compL (a.drop i) (b.drop i) = if compareBytes (a.getD i []) (b.getD i []) = 0 then compL (a.drop (i + 1)) (b.drop (i + 1)) else compareBytes (a.getD i []) (b.getD i []) := by
  rw [List.drop_eq_getElem_cons ha, List.drop_eq_getElem_cons hb, List.getD_eq_getElem?_getD, List.getD_eq_getElem?_getD, List.getElem?_eq_getElem ha, List.getElem?_eq_getElem hb]
  rfl
/-- The order of call numbers. -/
def compF (a b : Cl) : Int := orI [cmpI a.sch b.sch, compareBytes a.cls b.cls, cmpI a.num b.num, compareBytes a.dec b.dec, compL a.cut b.cut, cmpI a.yr b.yr, compareBytes a.rest b.rest]
def compV (a b : Cl) : Int := if validF a = true ∧ validF b = true then compF a b else 0
def classF (c : Cl) : Bool := validF c && decide (c.cut.length = 0) && decide (c.yr = 0) && decide (c.rest = [])
def withinF (c d : Cl) : Bool := validF c && classF d && decide (c.sch = d.sch) && decide (c.cls = d.cls) && decide (c.num = d.num) && d.dec.isPrefixOf c.dec
end Cn
namespace Go.Proofs.YtnmlpohhommagaaGreatDoor
open Go Go.Am Cn Lst
set_option linter.unusedVariables false
set_option maxRecDepth 100000

set_option maxRecDepth 100000 in
set_option maxHeartbeats 4000000 in
theorem compL_ok (a b : List (List UInt8)) (ha : a.length ≤ 1000000) (hb : b.length ≤ 1000000) (H : List Blk) (T : Toks) (t1 t2 : Tag) :
    ACall Tryz.prog 71 [.sl a.length (strs a) t1, .sl b.length (strs b) t2] H T (Is (.int .i64 (compL a b)) H T) := by
  refine ACall.untag1 (ACall.untag2 ?_)
  generalize hq : compL a b = q
  have ha1 := fun i h => strs_at (l := a) (i := i) h
  have hb1 := fun i h => strs_at (l := b) (i := i) h
  have hla := strs_len a
  have hlb := strs_len b
  have hsa : ∀ n t, BelowAll n t (strs a) := fun n t => by simp
  have hsb : ∀ n t, BelowAll n t (strs b) := fun n t => by simp
  generalize strs a = A at *
  generalize strs b = B at *
  show ACall _ _ [.sl a.length A .none, .sl b.length B .none] _ _ _
  refine acall_enter 12 [] Tryz.ntmps71 Tryz.func71 rfl (fun _ _ => Tryz.call71 _ _) (by simp) (fun HO => ?_)
  refine aw_reg fun K hK => ?_; simp (maxSteps := 1000000) (disch := omega) [-List.getD_eq_getElem?_getD]; refine hK _ ?_; clear hK K
  refine aw_then fun K1 hK1 => ?_
  refine aw_reg fun K hK => ?_; simp (maxSteps := 1000000) (disch := omega) [-List.getD_eq_getElem?_getD]; refine hK _ ?_; clear hK K
  refine aw_block ?_
  refine aw_loop (X := Nat) (fun i => ⟨[(0, .sl a.length A .none), (1, .sl b.length B .none), (9, .sl a.length A .none), (10, .int .i64 (a.length : Nat)), (11, .int .i64 (i : Nat))], H, T⟩) (fun i => i ≤ a.length ∧ i ≤ b.length ∧ compL (a.drop i) (b.drop i) = q) (fun i => a.length - i) 0 ?_ ?_ ?_
  · exact ⟨Nat.zero_le _, Nat.zero_le _, hq⟩
  · refine weak_to [] [] ?_ ?_ ?_ ?_ HO ?_
    all_goals simp [hsa, hsb]
  · rintro i ⟨h1, h2, h3⟩
    refine aw_reg fun K hK => ?_; simp (maxSteps := 1000000) (disch := omega) [-List.getD_eq_getElem?_getD]; refine hK _ ?_; clear hK K
    refine aw_then fun K2 hK2 => ?_
    refine aw_if rfl (fun hk => ?_) (fun hk => ?_)
    · simp [-List.getD_eq_getElem?_getD] at hk
      have e1 := ha1 i hk
      have hiA : i < A.length := by omega
      refine aw_skip ?_; simp (maxSteps := 1000000) (disch := omega) [-List.getD_eq_getElem?_getD]
      refine hK2 _ ?_; clear hK2
      refine aw_then fun K3 hK3 => ?_
      refine aw_block ?_
      refine aw_reg fun K hK => ?_; simp (maxSteps := 1000000) (disch := omega) [-List.getD_eq_getElem?_getD, e1, hla]; refine hK _ ?_; clear hK K
      refine aw_then fun K4 hK4 => ?_
      by_cases hkb : i < b.length
      · have b1 : decide ((i : Int) ≥ (b.length : Nat)) = false := decide_eq_false (by omega)
        have b1' : decide ((b.length : Int) ≤ (i : Nat)) = false := decide_eq_false (by omega)
        have n1 : ¬ b.length ≤ i := by omega
        have e2 := hb1 i hkb
        have hiB : i < B.length := by omega
        have cs := compS_ok (a.getD i []) (b.getD i []) H T
        rw [compL_drop hk hkb] at h3
        generalize a.getD i [] = x at *
        generalize b.getD i [] = y at *
        refine aw_reg fun K hK => ?_; simp (maxSteps := 1000000) (disch := omega) [-List.getD_eq_getElem?_getD, n1]; refine hK _ ?_; clear hK K
        refine aw_if rfl (fun h => absurd h (by simp)) (fun h => ?_)
        refine aw_skip ?_; simp (maxSteps := 1000000) (disch := omega) [-List.getD_eq_getElem?_getD]
        refine hK4 _ ?_; clear hK4
        refine aw_reg fun K hK => ?_; simp (maxSteps := 1000000) (disch := omega) [-List.getD_eq_getElem?_getD, e2, hlb]; refine hK _ ?_; clear hK K
        refine aw_reg fun K hK => ?_; simp (maxSteps := 1000000) (disch := omega) [-List.getD_eq_getElem?_getD]
        refine acall_is (cs) ?_; simp (maxSteps := 1000000) (disch := omega) [-List.getD_eq_getElem?_getD]
        refine hK _ ?_; clear hK K
        by_cases hz : Lib.compareBytes x y = 0
        · rw [if_pos hz] at h3
          rw [hz]
          refine aw_reg fun K hK => ?_; simp (maxSteps := 1000000) (disch := omega) [-List.getD_eq_getElem?_getD]; refine hK _ ?_; clear hK K
          refine aw_if rfl (fun h => absurd h (by simp)) (fun h => ?_)
          refine aw_skip ?_; simp (maxSteps := 1000000) (disch := omega) [-List.getD_eq_getElem?_getD]
          refine hK3 _ ?_; clear hK3
          refine aw_reg0 fun K hK => ?_; simp (maxSteps := 1000000) (disch := omega) [-List.getD_eq_getElem?_getD]
          refine hK _ ?_; clear hK K
          refine ⟨i + 1, ⟨by show i + 1 ≤ _; omega, by show i + 1 ≤ _; omega, h3⟩, by show a.length - (i + 1) < a.length - i; omega, ?_⟩
          refine weak_to [] [] ?_ ?_ ?_ ?_ HO ?_
          all_goals simp [hsa, hsb]
        · rw [if_neg hz] at h3
          rw [h3] at hz ⊢
          have bz : (q != 0) = true := bne_iff_ne.2 hz
          have bz2 : (q == 0) = false := beq_eq_false_iff_ne.2 hz
          refine aw_reg fun K hK => ?_; simp (maxSteps := 1000000) (disch := omega) [-List.getD_eq_getElem?_getD, bz]; refine hK _ ?_; clear hK K
          refine aw_if rfl (fun h => ?_) (fun h => absurd h (by simp))
          refine aw_reg fun K hK => ?_; simp (maxSteps := 1000000) (disch := omega) [-List.getD_eq_getElem?_getD]; refine hK _ ?_; clear hK K
          refine aw_ret ?_; simp (maxSteps := 1000000) (disch := omega) [-List.getD_eq_getElem?_getD]
          exact ⟨rfl, rfl, rfl⟩
      · have b1 : decide ((i : Int) ≥ (b.length : Nat)) = true := decide_eq_true (by omega)
        have b1' : decide ((b.length : Int) ≤ (i : Nat)) = true := decide_eq_true (by omega)
        have n1 : b.length ≤ i := by omega
        rw [List.drop_of_length_le n1, compL_nilR _ (by intro e; have := congrArg List.length e; simp at this; omega)] at h3
        subst h3
        refine aw_reg fun K hK => ?_; simp (maxSteps := 1000000) (disch := omega) [-List.getD_eq_getElem?_getD, n1]; refine hK _ ?_; clear hK K
        refine aw_if rfl (fun h => ?_) (fun h => absurd h (by simp))
        refine aw_reg fun K hK => ?_; simp (maxSteps := 1000000) (disch := omega) [-List.getD_eq_getElem?_getD]; refine hK _ ?_; clear hK K
        refine aw_ret ?_; simp (maxSteps := 1000000) (disch := omega) [-List.getD_eq_getElem?_getD]
        exact ⟨rfl, rfl, rfl⟩
    · simp [-List.getD_eq_getElem?_getD] at hk
      have e : i = a.length := by omega
      subst e
      rw [List.drop_length] at h3
      refine aw_exit ?_; simp (maxSteps := 1000000) (disch := omega) [-List.getD_eq_getElem?_getD]
      refine hK1 _ ?_; clear hK1
      refine aw_then fun K5 hK5 => ?_
      by_cases hl : a.length < b.length
      · have b1 : decide ((a.length : Int) < (b.length : Nat)) = true := decide_eq_true (by omega)
        rw [compL_nilL _ (by intro e; have := congrArg List.length e; simp at this; omega)] at h3
        subst h3
        refine aw_reg fun K hK => ?_; simp (maxSteps := 1000000) (disch := omega) [-List.getD_eq_getElem?_getD, hl]; refine hK _ ?_; clear hK K
        refine aw_if rfl (fun h => ?_) (fun h => absurd h (by simp))
        refine aw_reg fun K hK => ?_; simp (maxSteps := 1000000) (disch := omega) [-List.getD_eq_getElem?_getD]; refine hK _ ?_; clear hK K
        refine aw_ret ?_; simp (maxSteps := 1000000) (disch := omega) [-List.getD_eq_getElem?_getD]
        exact ⟨rfl, rfl, rfl⟩
      · have b1 : decide ((a.length : Int) < (b.length : Nat)) = false := decide_eq_false (by omega)
        rw [List.drop_of_length_le (by omega)] at h3
        obtain rfl : q = 0 := h3.symm
        refine aw_reg fun K hK => ?_; simp (maxSteps := 1000000) (disch := omega) [-List.getD_eq_getElem?_getD, hl]; refine hK _ ?_; clear hK K
        refine aw_if rfl (fun h => absurd h (by simp)) (fun h => ?_)
        refine aw_skip ?_; simp (maxSteps := 1000000) (disch := omega) [-List.getD_eq_getElem?_getD]
        refine hK5 _ ?_; clear hK5
        refine aw_reg fun K hK => ?_; simp (maxSteps := 1000000) (disch := omega) [-List.getD_eq_getElem?_getD]; refine hK _ ?_; clear hK K
        refine aw_ret ?_; simp (maxSteps := 1000000) (disch := omega) [-List.getD_eq_getElem?_getD]
        exact ⟨rfl, rfl, rfl⟩

set_option maxRecDepth 100000 in
set_option maxHeartbeats 4000000 in
theorem compareP_ok (a b : Cl) (t1 t2 : Tag) (ha : Sm a) (hb : Sm b) (H : List Blk) (T : Toks) :
    ACall Tryz.prog 37 [.agg (clAV a t1), .agg (clAV b t2)] H T (Is (.int .i64 (compF a b)) H T) := by
  refine callCl1 t1 (callCl2 t2 ?_)
  refine ACall.drop' ?_ (by simp)
  unfold compF
  have c1 := fun H T => compI_ok a.sch b.sch H T
  have c2 := fun H T => compareS_ok a.cls b.cls H T
  have c3 := fun H T => compI_ok a.num b.num H T
  have c4 := fun H T => compareS_ok a.dec b.dec H T
  have c5 := fun H T => compL_ok a.cut b.cut (by have := ha.cut; omega) (by have := hb.cut; omega) H T .none .none
  have c6 := fun H T => compI_ok a.yr b.yr H T
  have c7 := fun H T => compareS_ok a.rest b.rest H T
  generalize cmpI a.sch b.sch = q1 at *
  generalize Lib.compareBytes a.cls b.cls = q2 at *
  generalize cmpI a.num b.num = q3 at *
  generalize Lib.compareBytes a.dec b.dec = q4 at *
  generalize compL a.cut b.cut = q5 at *
  generalize cmpI a.yr b.yr = q6 at *
  generalize Lib.compareBytes a.rest b.rest = q7 at *
  have co := fun H T tg => or_ok [q1, q2, q3, q4, q5, q6, q7] (by simp) H T tg
  simp only [ints, List.map_cons, List.map_nil, List.length_cons, List.length_nil] at co
  have hsa : ∀ n t, BelowAll n t (strs a.cut) := fun n t => by simp
  have hsb : ∀ n t, BelowAll n t (strs b.cut) := fun n t => by simp
  clear ha hb
  obtain ⟨s1, s2, s3, s4, s5, s6, s7⟩ := a
  obtain ⟨r1, r2, r3, r4, r5, r6, r7⟩ := b
  simp only [clAV] at *
  refine acall_enter 5 [] Tryz.ntmps37 Tryz.func37 rfl (fun _ _ => Tryz.call37 _ _) (by simp) (fun HO => ?_)
  refine aw_reg fun K hK => ?_; simp (maxSteps := 1000000) (disch := omega) [-List.getD_eq_getElem?_getD]; refine hK _ ?_; clear hK K
  refine aw_draw [] [] [] drawMixed (by kernel_rfl) (by kernel_rfl) fun K hK => ?_; simp (maxSteps := 1000000) (disch := omega) [-List.getD_eq_getElem?_getD]
  refine dcall_is (c1 _ _) rfl ?_; simp (maxSteps := 1000000) (disch := omega) [-List.getD_eq_getElem?_getD]
  refine dcall_is (c2 _ _) rfl ?_; simp (maxSteps := 1000000) (disch := omega) [-List.getD_eq_getElem?_getD]
  refine dcall_is (c3 _ _) rfl ?_; simp (maxSteps := 1000000) (disch := omega) [-List.getD_eq_getElem?_getD]
  refine dcall_is (c4 _ _) rfl ?_; simp (maxSteps := 1000000) (disch := omega) [-List.getD_eq_getElem?_getD]
  refine dcall_is (c5 _ _) rfl ?_; simp (maxSteps := 1000000) (disch := omega) [-List.getD_eq_getElem?_getD]
  refine dcall_is (c6 _ _) rfl ?_; simp (maxSteps := 1000000) (disch := omega) [-List.getD_eq_getElem?_getD]
  refine dcall_is (c7 _ _) rfl ?_; simp (maxSteps := 1000000) (disch := omega) [-List.getD_eq_getElem?_getD]
  refine dcall_is (co _ _ _) rfl ?_; simp (maxSteps := 1000000) (disch := omega) [-List.getD_eq_getElem?_getD]
  refine hK _ ?_; clear hK K
  refine aw_ret ?_; simp (maxSteps := 1000000) (disch := omega) [-List.getD_eq_getElem?_getD]
end Go.Proofs.YtnmlpohhommagaaGreatDoor

/- Compare, Equal, class, Within, beginning (layer 52): the program's walks. -/
namespace Cn
open Go.Lib Lst
/-- The beginning of a key. -/
def begF (c : Cl) : List UInt8 := [UInt8.ofNat c.sch.toNat] ++ c.cls ++ [1, UInt8.ofNat (c.num.toNat / 256), UInt8.ofNat (c.num.toNat % 256)] ++ c.dec
def keyC (l : List (List UInt8)) : List UInt8 := l.flatMap fun x => 3 :: (x ++ [1])
/-- The key. -/
def keyF (c : Cl) : List UInt8 := if validF c = true then begF c ++ [1] ++ keyC c.cut ++ [2, UInt8.ofNat (c.yr.toNat / 256), UInt8.ofNat (c.yr.toNat % 256)] ++ c.rest else []
end Cn
namespace Go.Proofs.YtnmlpohhommagaaGreatDoor
open Go Go.Am Cn Lst
set_option linter.unusedVariables false
set_option maxRecDepth 100000

set_option maxRecDepth 100000 in
set_option maxHeartbeats 4000000 in
theorem compareV_ok (a b : Cl) (t1 t2 : Tag) (ha : Sm a) (hb : Sm b) (H : List Blk) (T : Toks) :
    ACall Tryz.prog 13 [.agg (clAV a t1), .agg (clAV b t2)] H T (Is (.int .i64 (compV a b)) H T) := by
  refine callCl1 t1 (callCl2 t2 ?_)
  refine ACall.drop' ?_ (by simp)
  unfold compV
  have c1 := fun G => validP_ok a .none ha (H ++ G) T
  have c2 := fun G => validP_ok b .none hb (H ++ G) T
  have c3 := fun G => compareP_ok a b .none .none ha hb (H ++ G) T
  have hsa : ∀ n t, BelowAll n t (strs a.cut) := fun n t => by simp
  have hsb : ∀ n t, BelowAll n t (strs b.cut) := fun n t => by simp
  clear ha hb
  generalize compF a b = q at *
  generalize validF a = va at *
  generalize validF b = vb at *
  obtain ⟨s1, s2, s3, s4, s5, s6, s7⟩ := a
  obtain ⟨r1, r2, r3, r4, r5, r6, r7⟩ := b
  simp only [clAV] at *
  cases va with
  | false =>
    refine acall_enter 5 [] Tryz.ntmps13 Tryz.func13 rfl (fun _ _ => Tryz.call13 _ _) (by simp) (fun HO => ?_)
    refine aw_reg fun K hK => ?_; simp (maxSteps := 1000000) (disch := omega) [-List.getD_eq_getElem?_getD]; refine hK _ ?_; clear hK K
    refine aw_then fun K1 hK1 => ?_
    refine aw_reg fun K hK => ?_; simp (maxSteps := 1000000) (disch := omega) [-List.getD_eq_getElem?_getD]
    refine acall_is (c1 _) ?_; simp (maxSteps := 1000000) (disch := omega) [-List.getD_eq_getElem?_getD]
    refine hK _ ?_; clear hK K
    refine aw_if rfl (fun h => ?_) (fun h => absurd h (by simp))
    refine aw_reg fun K hK => ?_; simp (maxSteps := 1000000) (disch := omega) [-List.getD_eq_getElem?_getD]; refine hK _ ?_; clear hK K
    refine aw_ret ?_; simp (maxSteps := 1000000) (disch := omega) [-List.getD_eq_getElem?_getD]
  | true =>
    cases vb with
    | false =>
      refine acall_enter 5 [] Tryz.ntmps13 Tryz.func13 rfl (fun _ _ => Tryz.call13 _ _) (by simp) (fun HO => ?_)
      refine aw_reg fun K hK => ?_; simp (maxSteps := 1000000) (disch := omega) [-List.getD_eq_getElem?_getD]; refine hK _ ?_; clear hK K
      refine aw_then fun K1 hK1 => ?_
      refine aw_reg fun K hK => ?_; simp (maxSteps := 1000000) (disch := omega) [-List.getD_eq_getElem?_getD]
      refine acall_is (c1 _) ?_; simp (maxSteps := 1000000) (disch := omega) [-List.getD_eq_getElem?_getD]
      refine acall_is (c2 _) ?_; simp (maxSteps := 1000000) (disch := omega) [-List.getD_eq_getElem?_getD]
      refine hK _ ?_; clear hK K
      refine aw_if rfl (fun h => ?_) (fun h => absurd h (by simp))
      refine aw_reg fun K hK => ?_; simp (maxSteps := 1000000) (disch := omega) [-List.getD_eq_getElem?_getD]; refine hK _ ?_; clear hK K
      refine aw_ret ?_; simp (maxSteps := 1000000) (disch := omega) [-List.getD_eq_getElem?_getD]
    | true =>
      refine acall_enter 5 [] Tryz.ntmps13 Tryz.func13 rfl (fun _ _ => Tryz.call13 _ _) (by simp) (fun HO => ?_)
      refine aw_reg fun K hK => ?_; simp (maxSteps := 1000000) (disch := omega) [-List.getD_eq_getElem?_getD]; refine hK _ ?_; clear hK K
      refine aw_then fun K1 hK1 => ?_
      refine aw_reg fun K hK => ?_; simp (maxSteps := 1000000) (disch := omega) [-List.getD_eq_getElem?_getD]
      refine acall_is (c1 _) ?_; simp (maxSteps := 1000000) (disch := omega) [-List.getD_eq_getElem?_getD]
      refine acall_is (c2 _) ?_; simp (maxSteps := 1000000) (disch := omega) [-List.getD_eq_getElem?_getD]
      refine hK _ ?_; clear hK K
      refine aw_if rfl (fun h => absurd h (by simp)) (fun h => ?_)
      refine aw_skip ?_; simp (maxSteps := 1000000) (disch := omega) [-List.getD_eq_getElem?_getD]
      refine hK1 _ ?_; clear hK1
      refine aw_reg fun K hK => ?_; simp (maxSteps := 1000000) (disch := omega) [-List.getD_eq_getElem?_getD]
      refine acall_is (c3 _) ?_; simp (maxSteps := 1000000) (disch := omega) [-List.getD_eq_getElem?_getD]
      refine hK _ ?_; clear hK K
      refine aw_ret ?_; simp (maxSteps := 1000000) (disch := omega) [-List.getD_eq_getElem?_getD]

set_option maxRecDepth 100000 in
set_option maxHeartbeats 4000000 in
theorem equalP_ok (a b : Cl) (t1 t2 : Tag) (ha : Sm a) (hb : Sm b) (H : List Blk) (T : Toks) :
    ACall Tryz.prog 16 [.agg (clAV a t1), .agg (clAV b t2)] H T (Is (.bool (compF a b == 0)) H T) := by
  refine callCl1 t1 (callCl2 t2 ?_)
  refine ACall.drop' ?_ (by simp)
  have c3 := fun G => compareP_ok a b .none .none ha hb (H ++ G) T
  have hsa : ∀ n t, BelowAll n t (strs a.cut) := fun n t => by simp
  have hsb : ∀ n t, BelowAll n t (strs b.cut) := fun n t => by simp
  clear ha hb
  generalize compF a b = q at *
  obtain ⟨s1, s2, s3, s4, s5, s6, s7⟩ := a
  obtain ⟨r1, r2, r3, r4, r5, r6, r7⟩ := b
  simp only [clAV] at *
  refine acall_enter 5 [] Tryz.ntmps16 Tryz.func16 rfl (fun _ _ => Tryz.call16 _ _) (by simp) (fun HO => ?_)
  refine aw_reg fun K hK => ?_; simp (maxSteps := 1000000) (disch := omega) [-List.getD_eq_getElem?_getD]; refine hK _ ?_; clear hK K
  refine aw_reg fun K hK => ?_; simp (maxSteps := 1000000) (disch := omega) [-List.getD_eq_getElem?_getD]
  refine acall_is (c3 _) ?_; simp (maxSteps := 1000000) (disch := omega) [-List.getD_eq_getElem?_getD]
  refine hK _ ?_; clear hK K
  refine aw_ret ?_; simp (maxSteps := 1000000) (disch := omega) [-List.getD_eq_getElem?_getD]

set_option maxRecDepth 100000 in
set_option maxHeartbeats 4000000 in
theorem classP_ok (c : Cl) (tg : Tag) (hc : Sm c) (H : List Blk) (T : Toks) :
    ACall Tryz.prog 59 [.agg (clAV c tg)] H T (Is (.bool (classF c)) H T) := by
  refine callCl1 tg ?_
  refine ACall.drop' ?_ (by simp)
  have cv := validP_ok c .none hc (H ++ [.cells (clAV c .none)]) T
  have hbS : ∀ n t, BelowAll n t (strs c.cut) := fun n t => by simp
  have hcu := hc.cut
  clear hc
  generalize hF : classF c = F
  unfold classF at hF
  generalize validF c = v at *
  obtain ⟨sch, cls, num, dec, cut, yr, rest⟩ := c
  simp only [clAV] at *
  generalize strs cut = S at *
  generalize cut.length = n at *
  have hn0 : ((n : Int) = 0) = (n = 0) := by simp
  cases g1 : v with
  | false =>
    rw [g1] at cv
    obtain rfl : F = false := by rw [← hF]; simp [g1]
    refine acall_enter 3 [] Tryz.ntmps59 Tryz.func59 rfl (fun _ _ => Tryz.call59 _ _) (by simp) (fun HO => ?_)
    refine aw_reg fun K hK => ?_; simp (maxSteps := 1000000) (disch := omega) [-List.getD_eq_getElem?_getD]; refine hK _ ?_; clear hK K
    refine aw_reg fun K hK => ?_; simp (maxSteps := 1000000) (disch := omega) [-List.getD_eq_getElem?_getD]
    refine acall_is (cv) ?_; simp (maxSteps := 1000000) (disch := omega) [-List.getD_eq_getElem?_getD]
    refine hK _ ?_; clear hK K
    refine aw_ret ?_; simp (maxSteps := 1000000) (disch := omega) [-List.getD_eq_getElem?_getD]
  | true =>
    rw [g1] at cv
    by_cases g2 : n = 0
    · subst g2
      by_cases g3 : yr = 0
      · subst g3
        by_cases g4 : rest = []
        · subst g4
          obtain rfl : F = true := by rw [← hF]; simp [g1]
          refine acall_enter 3 [] Tryz.ntmps59 Tryz.func59 rfl (fun _ _ => Tryz.call59 _ _) (by simp) (fun HO => ?_)
          refine aw_reg fun K hK => ?_; simp (maxSteps := 1000000) (disch := omega) [-List.getD_eq_getElem?_getD]; refine hK _ ?_; clear hK K
          refine aw_reg fun K hK => ?_; simp (maxSteps := 1000000) (disch := omega) [-List.getD_eq_getElem?_getD]
          refine acall_is (cv) ?_; simp (maxSteps := 1000000) (disch := omega) [-List.getD_eq_getElem?_getD]
          refine hK _ ?_; clear hK K
          refine aw_ret ?_; simp (maxSteps := 1000000) (disch := omega) [-List.getD_eq_getElem?_getD]
        · have b4 : (rest == []) = false := beq_eq_false_iff_ne.2 g4
          have b4n : (rest != []) = true := bne_iff_ne.2 g4
          obtain rfl : F = false := by rw [← hF]; simp [g1, g4]
          refine acall_enter 3 [] Tryz.ntmps59 Tryz.func59 rfl (fun _ _ => Tryz.call59 _ _) (by simp) (fun HO => ?_)
          refine aw_reg fun K hK => ?_; simp (maxSteps := 1000000) (disch := omega) [-List.getD_eq_getElem?_getD]; refine hK _ ?_; clear hK K
          refine aw_reg fun K hK => ?_; simp (maxSteps := 1000000) (disch := omega) [-List.getD_eq_getElem?_getD]
          refine acall_is (cv) ?_; simp (maxSteps := 1000000) (disch := omega) [-List.getD_eq_getElem?_getD, b4]
          refine hK _ ?_; clear hK K
          refine aw_ret ?_; simp (maxSteps := 1000000) (disch := omega) [-List.getD_eq_getElem?_getD]
      · have b3 : (yr == 0) = false := beq_eq_false_iff_ne.2 g3
        have b3n : (yr != 0) = true := bne_iff_ne.2 g3
        obtain rfl : F = false := by rw [← hF]; simp [g1, g3]
        refine acall_enter 3 [] Tryz.ntmps59 Tryz.func59 rfl (fun _ _ => Tryz.call59 _ _) (by simp) (fun HO => ?_)
        refine aw_reg fun K hK => ?_; simp (maxSteps := 1000000) (disch := omega) [-List.getD_eq_getElem?_getD]; refine hK _ ?_; clear hK K
        refine aw_reg fun K hK => ?_; simp (maxSteps := 1000000) (disch := omega) [-List.getD_eq_getElem?_getD]
        refine acall_is (cv) ?_; simp (maxSteps := 1000000) (disch := omega) [-List.getD_eq_getElem?_getD, b3]
        refine hK _ ?_; clear hK K
        refine aw_ret ?_; simp (maxSteps := 1000000) (disch := omega) [-List.getD_eq_getElem?_getD]
    · have b2 : ((n : Int) == 0) = false := beq_eq_false_iff_ne.2 (by omega)
      have b2n : ((n : Int) != 0) = true := bne_iff_ne.2 (by omega)
      obtain rfl : F = false := by rw [← hF]; simp [g1, g2]
      refine acall_enter 3 [] Tryz.ntmps59 Tryz.func59 rfl (fun _ _ => Tryz.call59 _ _) (by simp) (fun HO => ?_)
      refine aw_reg fun K hK => ?_; simp (maxSteps := 1000000) (disch := omega) [-List.getD_eq_getElem?_getD]; refine hK _ ?_; clear hK K
      refine aw_reg fun K hK => ?_; simp (maxSteps := 1000000) (disch := omega) [-List.getD_eq_getElem?_getD]
      refine acall_is (cv) ?_; simp (maxSteps := 1000000) (disch := omega) [-List.getD_eq_getElem?_getD, b2]
      refine hK _ ?_; clear hK K
      refine aw_ret ?_; simp (maxSteps := 1000000) (disch := omega) [-List.getD_eq_getElem?_getD]

set_option maxRecDepth 100000 in
set_option maxHeartbeats 4000000 in
theorem withinP_ok (a b : Cl) (t1 t2 : Tag) (ha : Sm a) (hb : Sm b) (H : List Blk) (T : Toks) :
    ACall Tryz.prog 24 [.agg (clAV a t1), .agg (clAV b t2)] H T (Is (.bool (withinF a b)) H T) := by
  refine callCl1 t1 (callCl2 t2 ?_)
  refine ACall.drop' ?_ (by simp)
  have c1 := validP_ok a .none ha (H ++ [.cells (clAV a .none), .cells (clAV b .none)]) T
  have c2 := classP_ok b .none hb (H ++ [.cells (clAV a .none), .cells (clAV b .none)]) T
  have c3 := hasPrefix_ok a.dec b.dec (H ++ [.cells (clAV a .none), .cells (clAV b .none)]) T
  have hsa : ∀ n t, BelowAll n t (strs a.cut) := fun n t => by simp
  have hsb : ∀ n t, BelowAll n t (strs b.cut) := fun n t => by simp
  clear ha hb
  generalize hF : withinF a b = F
  unfold withinF at hF
  generalize validF a = v at *
  generalize classF b = w at *
  obtain ⟨s1, s2, s3, s4, s5, s6, s7⟩ := a
  obtain ⟨r1, r2, r3, r4, r5, r6, r7⟩ := b
  simp only [clAV] at *
  generalize r4.isPrefixOf s4 = pf at *
  generalize strs s5 = S at *
  generalize strs r5 = R at *
  cases g1 : v with
  | false =>
    rw [g1] at c1
    obtain rfl : F = false := by rw [← hF]; simp [g1]
    refine acall_enter 5 [] Tryz.ntmps24 Tryz.func24 rfl (fun _ _ => Tryz.call24 _ _) (by simp) (fun HO => ?_)
    refine aw_reg fun K hK => ?_; simp (maxSteps := 1000000) (disch := omega) [-List.getD_eq_getElem?_getD]; refine hK _ ?_; clear hK K
    refine aw_reg fun K hK => ?_; simp (maxSteps := 1000000) (disch := omega) [-List.getD_eq_getElem?_getD]
    refine acall_is (c1) ?_; simp (maxSteps := 1000000) (disch := omega) [-List.getD_eq_getElem?_getD]
    refine hK _ ?_; clear hK K
    refine aw_ret ?_; simp (maxSteps := 1000000) (disch := omega) [-List.getD_eq_getElem?_getD]
  | true =>
    rw [g1] at c1
    cases g2 : w with
    | false =>
      rw [g2] at c2
      obtain rfl : F = false := by rw [← hF]; simp [g1, g2]
      refine acall_enter 5 [] Tryz.ntmps24 Tryz.func24 rfl (fun _ _ => Tryz.call24 _ _) (by simp) (fun HO => ?_)
      refine aw_reg fun K hK => ?_; simp (maxSteps := 1000000) (disch := omega) [-List.getD_eq_getElem?_getD]; refine hK _ ?_; clear hK K
      refine aw_reg fun K hK => ?_; simp (maxSteps := 1000000) (disch := omega) [-List.getD_eq_getElem?_getD]
      refine acall_is (c1) ?_; simp (maxSteps := 1000000) (disch := omega) [-List.getD_eq_getElem?_getD]
      refine acall_is (c2) ?_; simp (maxSteps := 1000000) (disch := omega) [-List.getD_eq_getElem?_getD]
      refine hK _ ?_; clear hK K
      refine aw_ret ?_; simp (maxSteps := 1000000) (disch := omega) [-List.getD_eq_getElem?_getD]
    | true =>
      rw [g2] at c2
      by_cases g3 : s1 = r1
      · subst g3
        by_cases g4 : s2 = r2
        · subst g4
          by_cases g5 : s3 = r3
          · subst g5
            cases g6 : pf with
            | false =>
              rw [g6] at c3
              obtain rfl : F = false := by rw [← hF]; simp [g1, g2, g6]
              refine acall_enter 5 [] Tryz.ntmps24 Tryz.func24 rfl (fun _ _ => Tryz.call24 _ _) (by simp) (fun HO => ?_)
              refine aw_reg fun K hK => ?_; simp (maxSteps := 1000000) (disch := omega) [-List.getD_eq_getElem?_getD]; refine hK _ ?_; clear hK K
              refine aw_reg fun K hK => ?_; simp (maxSteps := 1000000) (disch := omega) [-List.getD_eq_getElem?_getD]
              refine acall_is (c1) ?_; simp (maxSteps := 1000000) (disch := omega) [-List.getD_eq_getElem?_getD]
              refine acall_is (c2) ?_; simp (maxSteps := 1000000) (disch := omega) [-List.getD_eq_getElem?_getD]
              refine acall_is (c3) ?_; simp (maxSteps := 1000000) (disch := omega) [-List.getD_eq_getElem?_getD]
              refine hK _ ?_; clear hK K
              refine aw_ret ?_; simp (maxSteps := 1000000) (disch := omega) [-List.getD_eq_getElem?_getD]
            | true =>
              rw [g6] at c3
              obtain rfl : F = true := by rw [← hF]; simp [g1, g2, g6]
              refine acall_enter 5 [] Tryz.ntmps24 Tryz.func24 rfl (fun _ _ => Tryz.call24 _ _) (by simp) (fun HO => ?_)
              refine aw_reg fun K hK => ?_; simp (maxSteps := 1000000) (disch := omega) [-List.getD_eq_getElem?_getD]; refine hK _ ?_; clear hK K
              refine aw_reg fun K hK => ?_; simp (maxSteps := 1000000) (disch := omega) [-List.getD_eq_getElem?_getD]
              refine acall_is (c1) ?_; simp (maxSteps := 1000000) (disch := omega) [-List.getD_eq_getElem?_getD]
              refine acall_is (c2) ?_; simp (maxSteps := 1000000) (disch := omega) [-List.getD_eq_getElem?_getD]
              refine acall_is (c3) ?_; simp (maxSteps := 1000000) (disch := omega) [-List.getD_eq_getElem?_getD]
              refine hK _ ?_; clear hK K
              refine aw_ret ?_; simp (maxSteps := 1000000) (disch := omega) [-List.getD_eq_getElem?_getD]
          · have b5 : (s3 == r3) = false := beq_eq_false_iff_ne.2 g5
            have b5n : (s3 != r3) = true := bne_iff_ne.2 g5
            obtain rfl : F = false := by rw [← hF]; simp [g1, g2, g5]
            refine acall_enter 5 [] Tryz.ntmps24 Tryz.func24 rfl (fun _ _ => Tryz.call24 _ _) (by simp) (fun HO => ?_)
            refine aw_reg fun K hK => ?_; simp (maxSteps := 1000000) (disch := omega) [-List.getD_eq_getElem?_getD]; refine hK _ ?_; clear hK K
            refine aw_reg fun K hK => ?_; simp (maxSteps := 1000000) (disch := omega) [-List.getD_eq_getElem?_getD]
            refine acall_is (c1) ?_; simp (maxSteps := 1000000) (disch := omega) [-List.getD_eq_getElem?_getD]
            refine acall_is (c2) ?_; simp (maxSteps := 1000000) (disch := omega) [-List.getD_eq_getElem?_getD, b5]
            refine hK _ ?_; clear hK K
            refine aw_ret ?_; simp (maxSteps := 1000000) (disch := omega) [-List.getD_eq_getElem?_getD]
        · have b4 : (s2 == r2) = false := beq_eq_false_iff_ne.2 g4
          have b4n : (s2 != r2) = true := bne_iff_ne.2 g4
          obtain rfl : F = false := by rw [← hF]; simp [g1, g2, g4]
          refine acall_enter 5 [] Tryz.ntmps24 Tryz.func24 rfl (fun _ _ => Tryz.call24 _ _) (by simp) (fun HO => ?_)
          refine aw_reg fun K hK => ?_; simp (maxSteps := 1000000) (disch := omega) [-List.getD_eq_getElem?_getD]; refine hK _ ?_; clear hK K
          refine aw_reg fun K hK => ?_; simp (maxSteps := 1000000) (disch := omega) [-List.getD_eq_getElem?_getD]
          refine acall_is (c1) ?_; simp (maxSteps := 1000000) (disch := omega) [-List.getD_eq_getElem?_getD]
          refine acall_is (c2) ?_; simp (maxSteps := 1000000) (disch := omega) [-List.getD_eq_getElem?_getD, b4]
          refine hK _ ?_; clear hK K
          refine aw_ret ?_; simp (maxSteps := 1000000) (disch := omega) [-List.getD_eq_getElem?_getD]
      · have b3 : (s1 == r1) = false := beq_eq_false_iff_ne.2 g3
        have b3n : (s1 != r1) = true := bne_iff_ne.2 g3
        obtain rfl : F = false := by rw [← hF]; simp [g1, g2, g3]
        refine acall_enter 5 [] Tryz.ntmps24 Tryz.func24 rfl (fun _ _ => Tryz.call24 _ _) (by simp) (fun HO => ?_)
        refine aw_reg fun K hK => ?_; simp (maxSteps := 1000000) (disch := omega) [-List.getD_eq_getElem?_getD]; refine hK _ ?_; clear hK K
        refine aw_reg fun K hK => ?_; simp (maxSteps := 1000000) (disch := omega) [-List.getD_eq_getElem?_getD]
        refine acall_is (c1) ?_; simp (maxSteps := 1000000) (disch := omega) [-List.getD_eq_getElem?_getD]
        refine acall_is (c2) ?_; simp (maxSteps := 1000000) (disch := omega) [-List.getD_eq_getElem?_getD, b3]
        refine hK _ ?_; clear hK K
        refine aw_ret ?_; simp (maxSteps := 1000000) (disch := omega) [-List.getD_eq_getElem?_getD]

set_option maxRecDepth 100000 in
set_option maxHeartbeats 4000000 in
theorem beginP_ok (c : Cl) (tg : Tag) (hv : validF c = true) (H : List Blk) (T : Toks) :
    ACall Tryz.prog 41 [.agg (clAV c tg)] H T (Is (.sl (begF c).length (encB (begF c)) (.own T.length)) H (T ++ [((begF c).length, 1)])) := by
  refine callCl1 tg ?_
  refine ACall.cut H (T ++ [((begF c).length, 1)]) (Nat.le_refl _) (by simp) (fun h => h.toks (by simp)) (by simp) ?_
  have hsm := valid_sm hv
  have hn := valid_num hv
  have hs := hsm.cls
  have hd := hsm.dec
  have hsc : c.sch = 1 ∨ c.sch = 2 := by rcases valid_sch hv with h | h <;> simp [h.1]
  generalize hB : begF c = B
  unfold begF at hB
  have hbS : ∀ n t, BelowAll n t (strs c.cut) := fun n t => by simp
  clear hsm hv
  obtain ⟨sch, cls, num, dec, cut, yr, rest⟩ := c
  simp only [clAV] at *
  generalize strs cut = S at *
  obtain ⟨u, rfl⟩ : ∃ u : Nat, num = (u : Int) := ⟨num.toNat, by omega⟩
  obtain ⟨k, rfl⟩ : ∃ k : Nat, sch = (k : Int) := ⟨sch.toNat, by omega⟩
  rw [Int.toNat_natCast, Int.toNat_natCast] at hB
  have h4 : (k : Int) % 256 = (k : Int) := by omega
  have e1 : ∀ x : List UInt8, AV.int .u8 (k : Int) :: encB x = encB (UInt8.ofNat k :: x) := fun x => by
    simp only [encB, List.map_cons, List.cons.injEq, and_true, AV.int.injEq, true_and]
    rw [UInt8.toNat_ofNat']; omega
  have hw : IntKind.u8.wrap (u : Int) = ((u % 256 : Nat) : Int) := by simp [IntKind.wrap, IntKind.bits, IntKind.signed]
  have e2 : ∀ x : List UInt8, encB x ++ [AV.int .u8 1, AV.int .u8 ((u : Int) / 256), AV.int .u8 (IntKind.u8.wrap (u : Int))] = encB (x ++ [1, UInt8.ofNat (u / 256), UInt8.ofNat (u % 256)]) := fun x => by
    rw [hw]
    simp only [encB, List.map_append, List.map_cons, List.map_nil, List.append_cancel_left_eq, List.cons.injEq, and_true, AV.int.injEq, true_and]
    rw [UInt8.toNat_ofNat', UInt8.toNat_ofNat']
    refine ⟨rfl, ?_, ?_⟩ <;> omega
  have ea : ∀ x y : List UInt8, encB x ++ encB y = encB (x ++ y) := fun x y => by simp [encB]
  have el : ∀ x : List UInt8, (encB x).length = x.length := fun x => by simp [encB]
  have hbe : ∀ n t x, BelowAll n t (encB x) := fun n t x => by simp
  refine acall_enter 4 [] Tryz.ntmps41 Tryz.func41 rfl (fun _ _ => Tryz.call41 _ _) (by simp) (fun HO => ?_)
  refine aw_reg fun K hK => ?_; simp (maxSteps := 1000000) (disch := omega) [-List.getD_eq_getElem?_getD]; refine hK _ ?_; clear hK K
  refine aw_reg fun K hK => ?_; simp (maxSteps := 1000000) (disch := omega) [-List.getD_eq_getElem?_getD, e1]
  refine hK _ ?_; clear hK K
  rw [show 1 + cls.length = (UInt8.ofNat k :: cls).length by simp; omega]
  generalize hX : UInt8.ofNat k :: cls = X at *
  have hXl : X.length ≤ 1001 := by rw [← hX]; simp; omega
  refine aw_reg fun K hK => ?_; simp (maxSteps := 1000000) (disch := omega) [-List.getD_eq_getElem?_getD, e2, el]
  refine hK _ ?_; clear hK K
  rw [show X.length + 3 = (X ++ [1, UInt8.ofNat (u / 256), UInt8.ofNat (u % 256)]).length by simp]
  generalize hY : X ++ [1, UInt8.ofNat (u / 256), UInt8.ofNat (u % 256)] = Y at *
  have hYl : Y.length ≤ 1010 := by rw [← hY]; simp; omega
  refine aw_reg fun K hK => ?_; simp (maxSteps := 1000000) (disch := omega) [-List.getD_eq_getElem?_getD, ea, el]
  refine hK _ ?_; clear hK K
  rw [show Y.length + dec.length = (Y ++ dec).length by simp]
  have hB2 : Y ++ dec = B := by rw [← hB, ← hY, ← hX]; simp
  rw [hB2]
  refine aw_ret ?_; simp (maxSteps := 1000000) (disch := omega) [-List.getD_eq_getElem?_getD]
end Go.Proofs.YtnmlpohhommagaaGreatDoor

/- Key (layer 52): the program's walk. -/
namespace Cn
open Go.Lib Lst
theorem keyC_snoc (l : List (List UInt8)) (x : List UInt8) : keyC (l ++ [x]) = keyC l ++ (3 :: (x ++ [1])) := by simp [keyC]
theorem keyC_take {l : List (List UInt8)} {i : Nat} (h : i < l.length) : keyC (l.take (i + 1)) = keyC (l.take i) ++ (3 :: (l.getD i [] ++ [1])) := by
  rw [List.take_add_one, List.getElem?_eq_getElem h, List.getD_eq_getElem?_getD, List.getElem?_eq_getElem h]
  exact keyC_snoc _ _
theorem keyC_len {l : List (List UInt8)} (h : ∀ x ∈ l, x.length ≤ 1000) : ∀ i, i ≤ l.length → (keyC (l.take i)).length ≤ i * 1002 := by
  intro i
  induction i with
  | zero => intro _; simp [keyC]
  | succ i ih =>
    intro hi
    have h1 := ih (by omega)
    have h2 := h _ (memL (l := l) (i := i) (by omega))
    rw [keyC_take (by omega), List.length_append, List.length_cons, List.length_append]
    simp only [List.length_cons, List.length_nil]
    omega
theorem begF_len (c : Cl) (h : Sm c) : (begF c).length ≤ 3000 := by
  have h1 := h.cls
  have h2 := h.dec
  unfold begF
  simp only [List.length_append, List.length_cons, List.length_nil]
  omega
end Cn
namespace Go.Proofs.YtnmlpohhommagaaGreatDoor
open Go Go.Am Cn Lst
set_option linter.unusedVariables false
set_option maxRecDepth 100000

set_option maxRecDepth 100000 in
set_option maxHeartbeats 8000000 in
theorem keyP_ok (c : Cl) (tg : Tag) (hc : Sm c) (H : List Blk) (T : Toks) :
    ACall Tryz.prog 18 [.agg (clAV c tg)] H T (Is (.sl (keyF c).length (encB (keyF c)) .none) H T) := by
  refine callCl1 tg ?_
  refine ACall.drop' ?_ (by simp)
  have cv := validP_ok c .none hc (H ++ [.cells (clAV c .none)]) T
  have hbS : ∀ n t, BelowAll n t (strs c.cut) := fun n t => by simp
  unfold keyF
  cases hv : validF c with
  | false =>
    rw [hv] at cv
    rw [if_neg (by simp)]
    obtain ⟨sch, cls, num, dec, cut, yr, rest⟩ := c
    simp only [clAV] at *
    generalize strs cut = S at *
    refine acall_enter 6 [] Tryz.ntmps18 Tryz.func18 rfl (fun _ _ => Tryz.call18 _ _) (by simp) (fun HO => ?_)
    refine aw_reg fun K hK => ?_; simp (maxSteps := 1000000) (disch := omega) [-List.getD_eq_getElem?_getD]; refine hK _ ?_; clear hK K
    refine aw_then fun K1 hK1 => ?_
    refine aw_reg fun K hK => ?_; simp (maxSteps := 1000000) (disch := omega) [-List.getD_eq_getElem?_getD]
    refine acall_is (cv) ?_; simp (maxSteps := 1000000) (disch := omega) [-List.getD_eq_getElem?_getD]
    refine hK _ ?_; clear hK K
    refine aw_if rfl (fun h => ?_) (fun h => absurd h (by simp))
    refine aw_reg fun K hK => ?_; simp (maxSteps := 1000000) (disch := omega) [-List.getD_eq_getElem?_getD]; refine hK _ ?_; clear hK K
    refine aw_ret ?_; simp (maxSteps := 1000000) (disch := omega) [-List.getD_eq_getElem?_getD]
  | true =>
    rw [hv] at cv
    rw [if_pos rfl]
    have cb := beginP_ok c .none hv (H ++ [.cells (clAV c .none)]) T
    have hBl := begF_len c hc
    have hyv := valid_yr hv
    have hrl := hc.rest
    have hkc := hc.cut
    have hkl := keyC_len hc.each
    have hcx := fun i (h : i < c.cut.length) => hc.each _ (memL h)
    have hks := fun i (h : i < c.cut.length) => keyC_take h
    have hlen := strs_len c.cut
    have hat := fun i h => strs_at (l := c.cut) (i := i) h
    have hk0 : keyC (c.cut.take 0) = [] := rfl
    have hkt : c.cut.take c.cut.length = c.cut := List.take_length
    clear hc hv
    generalize begF c = B at *
    obtain ⟨sch, cls, num, dec, cut, yr, rest⟩ := c
    simp only [clAV] at *
    generalize strs cut = S at *
    obtain ⟨u, rfl⟩ : ∃ u : Nat, yr = (u : Int) := ⟨yr.toNat, by omega⟩
    rw [Int.toNat_natCast]
    have hw : IntKind.u8.wrap (u : Int) = ((u % 256 : Nat) : Int) := by simp [IntKind.wrap, IntKind.bits, IntKind.signed]
    have e2 : ∀ x : List UInt8, encB x ++ [AV.int .u8 2, AV.int .u8 ((u : Int) / 256), AV.int .u8 (IntKind.u8.wrap (u : Int))] = encB (x ++ [2, UInt8.ofNat (u / 256), UInt8.ofNat (u % 256)]) := fun x => by
      rw [hw]
      simp only [encB, List.map_append, List.map_cons, List.map_nil, List.append_cancel_left_eq, List.cons.injEq, and_true, AV.int.injEq, true_and]
      rw [UInt8.toNat_ofNat', UInt8.toNat_ofNat']
      refine ⟨rfl, ?_, ?_⟩ <;> omega
    have e1 : ∀ x : List UInt8, encB x ++ [AV.int .u8 1] = encB (x ++ [1]) := fun x => by simp [encB]
    have e3 : ∀ x : List UInt8, encB x ++ [AV.int .u8 3] = encB (x ++ [3]) := fun x => by simp [encB]
    have ea : ∀ x y : List UInt8, encB x ++ encB y = encB (x ++ y) := fun x y => by simp [encB]
    have el : ∀ x : List UInt8, (encB x).length = x.length := fun x => by simp [encB]
    refine acall_enter 17 [] Tryz.ntmps18 Tryz.func18 rfl (fun _ _ => Tryz.call18 _ _) (by simp) (fun HO => ?_)
    have HO1 : ∀ n : Nat, HOk (H ++ [.cells [.int .i64 sch, .str cls, .int .i64 num, .str dec, .sl cut.length S .none, .int .i64 (u : Nat), .str rest]]) (T ++ [(n, 1)]) := fun n => HOk.snoc (HO.toks (by simp)) (by simp [hbS])
    refine aw_reg fun K hK => ?_; simp (maxSteps := 1000000) (disch := omega) [-List.getD_eq_getElem?_getD]; refine hK _ ?_; clear hK K
    refine aw_then fun K1 hK1 => ?_
    refine aw_reg fun K hK => ?_; simp (maxSteps := 1000000) (disch := omega) [-List.getD_eq_getElem?_getD]
    refine acall_is (cv) ?_; simp (maxSteps := 1000000) (disch := omega) [-List.getD_eq_getElem?_getD]
    refine hK _ ?_; clear hK K
    refine aw_if rfl (fun h => absurd h (by simp)) (fun h => ?_)
    refine aw_skip ?_; simp (maxSteps := 1000000) (disch := omega) [-List.getD_eq_getElem?_getD]
    refine hK1 _ ?_; clear hK1
    refine aw_reg fun K hK => ?_; simp (maxSteps := 1000000) (disch := omega) [-List.getD_eq_getElem?_getD]
    refine acall_is (cb) ?_; simp (maxSteps := 1000000) (disch := omega) [-List.getD_eq_getElem?_getD, e1, el]
    refine hK _ ?_; clear hK K
    clear cv cb
    rw [show B.length + 1 = (B ++ [1]).length by simp]
    have hBl2 : (B ++ [1]).length ≤ 3001 := by simp; omega
    generalize hX : B ++ [1] = X at *
    obtain ⟨Kf, hKf⟩ : ∃ f : Nat → List UInt8, ∀ i, f i = X ++ keyC (cut.take i) := ⟨_, fun _ => rfl⟩
    have hk0' : Kf 0 = X := by rw [hKf, hk0, List.append_nil]
    have hks' : ∀ i, i < cut.length → Kf (i + 1) = Kf i ++ (3 :: (cut.getD i [] ++ [1])) := fun i h => by rw [hKf, hKf, hks i h, List.append_assoc]
    have hkn : Kf cut.length = X ++ keyC cut := by rw [hKf, hkt]
    have hkl' : ∀ i, i ≤ cut.length → (Kf i).length ≤ 2000000 := fun i h => by
      have := hkl i h
      rw [hKf, List.length_append]; omega
    clear hks hkl hk0 hkt hKf
    refine aw_then fun K2 hK2 => ?_
    refine aw_reg fun K hK => ?_; simp (maxSteps := 1000000) (disch := omega) [-List.getD_eq_getElem?_getD]; refine hK _ ?_; clear hK K
    refine aw_block ?_
    refine aw_loop (X := Nat) (fun i => ⟨[(1, .ptr H.length 0), (3, .sl (Kf i).length (encB (Kf i)) (.own T.length)), (14, .sl cut.length S .none), (15, .int .i64 (cut.length : Nat)), (16, .int .i64 (i : Nat))], H ++ [.cells [.int .i64 sch, .str cls, .int .i64 num, .str dec, .sl cut.length S .none, .int .i64 (u : Nat), .str rest]], T ++ [((Kf i).length, 1)]⟩) (fun i => i ≤ cut.length) (fun i => cut.length - i) 0 ?_ ?_ ?_
    · exact Nat.zero_le _
    · rw [hk0']
      refine weak_to [] [] ?_ ?_ ?_ ?_ (HO1 _) ?_
      all_goals simp [hbS]
    · rintro i h1
      refine aw_reg fun K hK => ?_; simp (maxSteps := 1000000) (disch := omega) [-List.getD_eq_getElem?_getD]; refine hK _ ?_; clear hK K
      refine aw_then fun K3 hK3 => ?_
      refine aw_if rfl (fun hk => ?_) (fun hk => ?_)
      · simp [-List.getD_eq_getElem?_getD] at hk
        have ha := hat i hk
        have hiS : i < S.length := by omega
        have hxl := hcx i hk
        have hs := hks' i hk
        have hYl := hkl' i h1
        clear hks' hkl' hkn hk0'
        refine aw_skip ?_; simp (maxSteps := 1000000) (disch := omega) [-List.getD_eq_getElem?_getD]
        refine hK3 _ ?_; clear hK3
        refine aw_then fun K4 hK4 => ?_
        refine aw_block ?_
        generalize cut.getD i [] = x at *
        have fin : ∀ e n Z, Z = Kf (i + 1) → n = Z.length → envLe (H.length + 1) (T.length + 1) e [(1, .ptr H.length 0), (3, .sl n (encB Z) (.own T.length)), (14, .sl cut.length S .none), (15, .int .i64 (cut.length : Nat)), (16, .int .i64 (i : Nat))] → K4 ⟨e, H ++ [.cells [.int .i64 sch, .str cls, .int .i64 num, .str dec, .sl cut.length S .none, .int .i64 (u : Nat), .str rest]], T ++ [(n, 1)]⟩ := by
          intro e n Z hZ hn he
          subst hn
          subst hZ
          refine hK4 _ (aw_weak ⟨[(1, .ptr H.length 0), (3, .sl (Kf (i + 1)).length (encB (Kf (i + 1))) (.own T.length)), (14, .sl cut.length S .none), (15, .int .i64 (cut.length : Nat)), (16, .int .i64 (i : Nat))], H ++ [.cells [.int .i64 sch, .str cls, .int .i64 num, .str dec, .sl cut.length S .none, .int .i64 (u : Nat), .str rest]], T ++ [((Kf (i + 1)).length, 1)]⟩ (weak_to [] [] (by simp) (by simp) (by simp) (by simp) (HO1 _) (by simpa using he)) ?_)
          refine aw_reg0 fun K hK => ?_; simp (maxSteps := 1000000) (disch := omega) [-List.getD_eq_getElem?_getD]
          refine hK _ ?_; clear hK K
          refine ⟨i + 1, by show i + 1 ≤ _; omega, by show cut.length - (i + 1) < cut.length - i; omega, ?_⟩
          refine weak_to [] [] ?_ ?_ ?_ ?_ (HO1 _) ?_
          all_goals simp [hbS]
        rw [hs] at fin
        clear hK4 hs
        generalize Kf i = Y at *
        refine aw_reg fun K hK => ?_; simp (maxSteps := 1000000) (disch := omega) [-List.getD_eq_getElem?_getD, ha, hlen]; refine hK _ ?_; clear hK K
        refine aw_reg0 fun K hK => ?_; simp (maxSteps := 1000000) (disch := omega) [-List.getD_eq_getElem?_getD, e3, e1, ea, el]
        refine hK _ ?_; clear hK K
        refine fin _ _ (Y ++ [3] ++ x ++ [1]) (by simp) (by simp; omega) ?_
        simp [hbS]
      · simp [-List.getD_eq_getElem?_getD] at hk
        have e : i = cut.length := by omega
        subst e
        have hYl := hkl' cut.length (Nat.le_refl _)
        clear hks' hkl' hk0'
        generalize Kf cut.length = Y at *
        refine aw_exit ?_; simp (maxSteps := 1000000) (disch := omega) [-List.getD_eq_getElem?_getD]
        refine hK2 _ ?_; clear hK2
        refine aw_reg fun K hK => ?_; simp (maxSteps := 1000000) (disch := omega) [-List.getD_eq_getElem?_getD, e2, el]; refine hK _ ?_; clear hK K
        refine aw_reg fun K hK => ?_; simp (maxSteps := 1000000) (disch := omega) [-List.getD_eq_getElem?_getD, ea, el]; refine hK _ ?_; clear hK K
        refine aw_ret ?_; simp (maxSteps := 1000000) (disch := omega) [-List.getD_eq_getElem?_getD]
        subst hkn
        refine ⟨by simp; omega, by simp⟩
end Go.Proofs.YtnmlpohhommagaaGreatDoor
