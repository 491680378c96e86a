/- The reference's read and Parse (layer 26).
   Conditions: lengths below 2^20. -/
import Derived.Test.YtfdlngemkhiiiaaGreatDoorVFn11
namespace Voc
open Go.Lib Lst
/-- The place of the first space. -/
def posF (s : List UInt8) : Nat := match cutL 32 s with | none => s.length | some p => p.1.length
theorem pos_le (s : List UInt8) : posF s ≤ s.length := by
  unfold posF
  cases h : cutL 32 s with
  | none => exact Nat.le_refl _
  | some p =>
    have := congrArg List.length (index_some h).2
    rw [List.length_append] at this
    simp only
    omega
theorem pos_lt {s : List UInt8} {j : Nat} (h : j < posF s) : s.getD j 0 ≠ 32 := by
  unfold posF at h
  cases hc : cutL 32 s with
  | none =>
    rw [hc] at h
    intro e
    apply cutL_none hc
    rw [← e, List.getD_eq_getElem?_getD, List.getElem?_eq_getElem h]
    exact List.getElem_mem h
  | some p =>
    rw [hc] at h
    simp only at h
    intro e
    apply cutL_mem hc
    rw [(index_some hc).2, List.getD_eq_getElem?_getD, List.getElem?_append_left h, List.getElem?_eq_getElem h] at e
    rw [← e]
    exact List.getElem_mem h
theorem pos_at {s : List UInt8} (h : posF s < s.length) : s.getD (posF s) 0 = 32 := by
  unfold posF at h ⊢
  cases hc : cutL 32 s with
  | none => rw [hc] at h; simp at h
  | some p =>
    simp only
    rw [(index_some hc).2, List.getD_eq_getElem?_getD, List.getElem?_append_right (Nat.le_refl _), Nat.sub_self]
    rfl
/-- The kind that a letter tells. -/
def kdF (c : UInt8) : Int := if c = 61 then 1 else if c = 60 then 2 else if c = 62 then 3 else 0
def kdP (c : UInt8) (i : Nat) : Int := if c = 61 ∧ 0 < i then 1 else if c = 60 ∧ 1 < i then 2 else if c = 62 ∧ 2 < i then 3 else 0
theorem kdP_three (c : UInt8) : kdP c 3 = kdF c := by simp [kdP, kdF]
theorem kdF_sym {k : Int} (hk : 1 ≤ k ∧ k ≤ 3) : kdF (symK k) = k := by
  have : k = 1 ∨ k = 2 ∨ k = 3 := by omega
  rcases this with rfl | rfl | rfl <;> rfl
theorem line_parts (y : Mp) : posF (lineM y) = (decDigits y.1.toNat).length ∧ (lineM y).take (decDigits y.1.toNat).length = decDigits y.1.toNat ∧
    (lineM y).drop ((decDigits y.1.toNat).length + 3) = decDigits y.2.1.toNat ∧ (lineM y).getD ((decDigits y.1.toNat).length + 1) 0 = symK y.2.2 ∧
    (lineM y).length = (decDigits y.1.toNat).length + 3 + (decDigits y.2.1.toNat).length := by
  have e : lineM y = decDigits y.1.toNat ++ 32 :: (symK y.2.2 :: 32 :: decDigits y.2.1.toNat) := by simp [lineM]
  have hc := cutL_app (c := 32) (symK y.2.2 :: 32 :: decDigits y.2.1.toNat) (dec_no32 y.1.toNat)
  rw [← e] at hc
  unfold posF
  rw [hc]
  generalize decDigits y.1.toNat = A at *
  generalize decDigits y.2.1.toNat = B at *
  rw [e]
  refine ⟨rfl, by simp, ?_, ?_, ?_⟩
  · rw [List.drop_append, List.drop_of_length_le (by omega), List.nil_append, Nat.add_sub_cancel_left]; rfl
  · rw [List.getD_eq_getElem?_getD, List.getElem?_append_right (by omega), Nat.add_sub_cancel_left]; rfl
  · simp; omega
theorem rdR_no {s : List UInt8} (h : s.length ≤ posF s + 3) : rdF s = none :=
  rdF_none.2 fun y _ e => by
    obtain ⟨h1, _, _, _, h5⟩ := line_parts y
    rw [e] at h1 h5
    have := List.length_pos_iff.2 (dec_ne y.2.1.toNat)
    omega
theorem rdR_key (s : List UInt8) : (∀ y, rdF s = some y → ((numR 1000000000 (s.take (posF s))).1, (numR 1000000000 (s.drop (posF s + 3))).1, kdF (s.getD (posF s + 1) 0)) = y ∧ (numR 1000000000 (s.take (posF s))).2 = true ∧ (numR 1000000000 (s.drop (posF s + 3))).2 = true) := by
  intro y hy
  obtain ⟨hg, hl⟩ := rdF_some.1 hy
  have g := goodM_iff.1 hg
  obtain ⟨h1, h2, h3, h4, _⟩ := line_parts y
  subst hl
  rw [h1, h2, h3, h4, numR_dec (by omega) (by omega), numR_dec (by omega) (by omega), kdF_sym (by omega)]
  obtain ⟨y1, y2, y3⟩ := y
  simp only at *
  refine ⟨?_, trivial, trivial⟩
  rw [Int.toNat_of_nonneg (by omega), Int.toNat_of_nonneg (by omega)]
theorem rdR_some {s : List UInt8} {x : Mp} {a b : Bool} (h : ∀ y, rdF s = some y → x = y ∧ a = true ∧ b = true) : (rdF s).isSome = (a && b && goodM x && (lineM x == s)) := by
  cases hr : rdF s with
  | some y =>
    obtain ⟨e1, e2, e3⟩ := h y hr
    obtain ⟨hg, hl⟩ := rdF_some.1 hr
    rw [e1, e2, e3, hg, hl]
    simp
  | none =>
    have h1 := rdF_none.1 hr x
    cases hg : goodM x with
    | false => simp
    | true => rw [beq_eq_false_iff_ne.2 (h1 hg)]; simp
end Voc
namespace Go.Proofs.YtfdlngemkhiiiaaGreatDoor
open Go Go.Am Go.Shelf Voc Lst
set_option linter.unusedVariables false

set_option maxRecDepth 100000 in
set_option maxHeartbeats 8000000 in
theorem readR_ok (s : List UInt8) (hs : s.length ≤ 1000000) : ∃ x : Mp, (∀ y, rdF s = some y → x = y) ∧ ∀ H T,
    ACall Tryz.prog 16 [.str s] H T (Is (.tup [.agg (mc x), .bool (rdF s).isSome]) H T) := by
  obtain ⟨x, hx1, hx2⟩ : ∃ x : Mp, (∀ y, rdF s = some y → x = y) ∧ (s.length ≤ posF s + 3 → x = (0, 0, 0)) ∧ (¬ s.length ≤ posF s + 3 → x = ((numR 1000000000 (s.take (posF s))).1, (numR 1000000000 (s.drop (posF s + 3))).1, kdF (s.getD (posF s + 1) 0))) := by
    by_cases h : s.length ≤ posF s + 3
    · exact ⟨(0, 0, 0), fun y hy => (by rw [rdR_no h] at hy; cases hy), fun _ => rfl, fun h2 => absurd h h2⟩
    · exact ⟨_, fun y hy => (rdR_key s y hy).1, fun h2 => absurd h2 h, fun _ => rfl⟩
  refine ⟨x, hx1, fun H T => ?_⟩
  have hkey := rdR_some (s := s) (rdR_key s)
  have hle := pos_le s
  have hlt := fun j h => pos_lt (s := s) (j := j) h
  have hat := pos_at (s := s)
  have hno := rdR_no (s := s)
  refine ACall.dropT ?_ (by simp [mc])
  generalize hp : posF s = p at *
  have HO1 : HOk H T → HOk (H ++ [.cells [.int .i64 0, .int .i64 0, .int .i64 0]]) T := fun HO => HO.snoc (by simp)
  refine acall_enter 11 [] Tryz.ntmps16 Tryz.func16 rfl (fun _ _ => Tryz.call16 _ _) (by simp) (fun HO => ?_)
  have HO1 := HO1 HO
  refine aw_reg fun K hK => ?_; simp (maxSteps := 1000000) (disch := omega) [-List.getD_eq_getElem?_getD]; refine hK _ ?_; clear hK K
  refine aw_reg fun K hK => ?_; simp (maxSteps := 1000000) (disch := omega) [-List.getD_eq_getElem?_getD]; refine hK _ ?_; clear hK K
  refine aw_then fun K1 hK1 => ?_
  have fin : ∀ e, envLe (H.length + 1) T.length e [(0, .str s), (2, .ptr H.length 0), (3, .bool false), (4, .int .i64 (p : Nat))] → K1 ⟨e, H ++ [.cells [.int .i64 0, .int .i64 0, .int .i64 0]], T⟩ := by
    intro e he
    refine hK1 _ (aw_weak ⟨[(0, .str s), (2, .ptr H.length 0), (3, .bool false), (4, .int .i64 (p : Nat))], H ++ [.cells [.int .i64 0, .int .i64 0, .int .i64 0]], T⟩ (weak_to [] [] (by simp) (by simp) (by simp) (by simp) HO1 (by simpa using he)) ?_)
    clear hK1 hat hlt
    refine aw_then fun K2 hK2 => ?_
    by_cases h3 : s.length ≤ p + 3
    · have b1 : decide ((p : Int) + 3 ≥ s.length) = true := decide_eq_true (by omega)
      have b1' : decide ((s.length : Int) ≤ (p : Int) + 3) = true := decide_eq_true (by omega)
      have hx := hx2.1 h3
      have hr := hno h3
      subst hx
      rw [hr]
      refine aw_reg fun K hK => ?_; simp (maxSteps := 1000000) (disch := omega) [-List.getD_eq_getElem?_getD, b1, b1']; refine hK _ ?_; clear hK K
      refine aw_if rfl (fun h => ?_) (fun h => absurd h (by simp))
      refine aw_reg fun K hK => ?_; simp (maxSteps := 1000000) (disch := omega) [-List.getD_eq_getElem?_getD]; refine hK _ ?_; clear hK K
      refine aw_ret ?_; simp (maxSteps := 1000000) (disch := omega) [-List.getD_eq_getElem?_getD]
      simp [mc]
    · have b1 : decide ((p : Int) + 3 ≥ s.length) = false := decide_eq_false (by omega)
      have b1' : decide ((s.length : Int) ≤ (p : Int) + 3) = false := decide_eq_false (by omega)
      have hx := hx2.2 h3
      rw [← hx] at hkey
      have hA : (s.take p).length ≤ 1000000 := by rw [List.length_take]; omega
      have hB : (s.drop (p + 3)).length ≤ 1000000 := by rw [List.length_drop]; omega
      have n1 := fun H T => numberR_ok (s.take p) hA 1000000000 (by omega) H T
      have n2 := fun H T => numberR_ok (s.drop (p + 3)) hB 1000000000 (by omega) H T
      rw [show ((1000000000 : Nat) : Int) = 1000000000 from rfl] at n1 n2
      have hc1 : (s.drop (p + 3)).take (s.length - (p + 3)) = s.drop (p + 3) := List.take_of_length_le (by rw [List.length_drop]; omega)
      generalize hBe : s.drop (p + 3) = B at *
      generalize hAe : s.take p = A at *
      have hp1 : p + 1 < s.length := by omega
      generalize hgc : s.getD (p + 1) 0 = c at *
      generalize hv1 : numR 1000000000 A = v1 at *
      generalize hv2 : numR 1000000000 B = v2 at *
      obtain ⟨a, oa⟩ := v1
      obtain ⟨b, ob⟩ := v2
      simp only at hx hkey n1 n2
      have hcc : (c.toNat : Int) ≠ 61 → c ≠ 61 := fun h e => h (by rw [e]; rfl)
      refine aw_reg fun K hK => ?_; simp (maxSteps := 1000000) (disch := omega) [-List.getD_eq_getElem?_getD, b1, b1']; refine hK _ ?_; clear hK K
      refine aw_if rfl (fun h => absurd h (by simp)) (fun h => ?_)
      refine aw_skip ?_; simp (maxSteps := 1000000) (disch := omega) [-List.getD_eq_getElem?_getD]
      refine hK2 _ ?_; clear hK2
      refine aw_reg fun K hK => ?_; simp (maxSteps := 1000000) (disch := omega) [-List.getD_eq_getElem?_getD]; refine hK _ ?_; clear hK K
      refine aw_then fun K3 hK3 => ?_
      refine aw_reg fun K hK => ?_; simp (maxSteps := 1000000) (disch := omega) [-List.getD_eq_getElem?_getD]; refine hK _ ?_; clear hK K
      refine aw_block ?_
      have HO2 : ∀ d : Int, HOk (H ++ [.cells [.int .i64 0, .int .i64 0, .int .i64 0], .cells [.int .i64 0, .int .i64 0, .int .i64 d]]) T := fun d => by
        rw [show H ++ [Blk.cells [.int .i64 0, .int .i64 0, .int .i64 0], .cells [.int .i64 0, .int .i64 0, .int .i64 d]] = (H ++ [.cells [.int .i64 0, .int .i64 0, .int .i64 0]]) ++ [.cells [.int .i64 0, .int .i64 0, .int .i64 d]] by simp]
        exact HO1.snoc (by simp)
      refine aw_loop (X := Nat) (fun i => ⟨[(0, .str s), (2, .ptr H.length 0), (3, .bool false), (4, .int .i64 (p : Nat)), (5, .ptr (H.length + 1) 0), (6, .int .i64 (i : Nat))], H ++ [.cells [.int .i64 0, .int .i64 0, .int .i64 0], .cells [.int .i64 0, .int .i64 0, .int .i64 (kdP c i)]], T⟩) (fun i => i ≤ 3) (fun i => 3 - i) 0 ?_ ?_ ?_
      · exact Nat.zero_le _
      · refine weak_to [] [] ?_ ?_ ?_ ?_ (HO2 _) ?_
        all_goals simp [kdP]
      · rintro i hi
        have hi4 : i = 0 ∨ i = 1 ∨ i = 2 ∨ i = 3 := by omega
        rcases hi4 with rfl | rfl | rfl | rfl
        · refine aw_then fun K4 hK4 => ?_
          refine aw_reg fun K hK => ?_; simp (maxSteps := 1000000) (disch := omega) [-List.getD_eq_getElem?_getD]; refine hK _ ?_; clear hK K
          refine aw_if rfl (fun h => ?_) (fun h => absurd h (by simp))
          refine aw_skip ?_; simp (maxSteps := 1000000) (disch := omega) [-List.getD_eq_getElem?_getD]
          refine hK4 _ ?_; clear hK4
          refine aw_then fun K5 hK5 => ?_
          refine aw_block ?_
          by_cases hc : c = 61
          · subst hc
            refine aw_draw [] [] [] drawMixed (by kernel_rfl) (by kernel_rfl) fun K hK => ?_; simp (maxSteps := 1000000) (disch := omega) [-List.getD_eq_getElem?_getD, hp1, hgc]
            refine hK _ ?_; clear hK K
            refine aw_if rfl (fun h => ?_) (fun h => absurd h (by simp))
            refine aw_reg0 fun K hK => ?_; simp (maxSteps := 1000000) (disch := omega) [-List.getD_eq_getElem?_getD]
            refine hK _ ?_; clear hK K
            refine hK5 _ ?_; clear hK5
            refine aw_reg0 fun K hK => ?_; simp (maxSteps := 1000000) (disch := omega) [-List.getD_eq_getElem?_getD]
            refine hK _ ?_; clear hK K
            refine ⟨1, by show 1 ≤ 3; omega, by show 3 - 1 < 3 - 0; omega, ?_⟩
            refine weak_to [] [] ?_ ?_ ?_ ?_ (HO2 _) ?_
            all_goals simp [kdP]
          · have e1 : c.toNat ≠ 61 := fun e => hc (UInt8.toNat_inj.1 e)
            have e2 : ((c.toNat : Int) == 61) = false := beq_eq_false_iff_ne.2 (by omega)
            have e3 : ¬ (c.toNat : Int) = 61 := by omega
            have e4 : kdP c 1 = kdP c 0 := by simp [kdP, hc]
            refine aw_draw [] [] [] drawMixed (by kernel_rfl) (by kernel_rfl) fun K hK => ?_; simp (maxSteps := 1000000) (disch := omega) [-List.getD_eq_getElem?_getD, hp1, hgc, e2, e3]
            refine hK _ ?_; clear hK K
            refine aw_if rfl (fun h => absurd h (by simp)) (fun h => ?_)
            refine aw_skip ?_; simp (maxSteps := 1000000) (disch := omega) [-List.getD_eq_getElem?_getD]
            refine hK5 _ ?_; clear hK5
            refine aw_reg0 fun K hK => ?_; simp (maxSteps := 1000000) (disch := omega) [-List.getD_eq_getElem?_getD]
            refine hK _ ?_; clear hK K
            refine ⟨1, by show 1 ≤ 3; omega, by show 3 - 1 < 3 - 0; omega, ?_⟩
            refine weak_to [] [] ?_ ?_ ?_ ?_ (HO2 _) ?_
            all_goals simp [e4]
        · refine aw_then fun K4 hK4 => ?_
          refine aw_reg fun K hK => ?_; simp (maxSteps := 1000000) (disch := omega) [-List.getD_eq_getElem?_getD]; refine hK _ ?_; clear hK K
          refine aw_if rfl (fun h => ?_) (fun h => absurd h (by simp))
          refine aw_skip ?_; simp (maxSteps := 1000000) (disch := omega) [-List.getD_eq_getElem?_getD]
          refine hK4 _ ?_; clear hK4
          refine aw_then fun K5 hK5 => ?_
          refine aw_block ?_
          by_cases hc : c = 60
          · subst hc
            refine aw_draw [] [] [] drawMixed (by kernel_rfl) (by kernel_rfl) fun K hK => ?_; simp (maxSteps := 1000000) (disch := omega) [-List.getD_eq_getElem?_getD, hp1, hgc]
            refine hK _ ?_; clear hK K
            refine aw_if rfl (fun h => ?_) (fun h => absurd h (by simp))
            refine aw_reg0 fun K hK => ?_; simp (maxSteps := 1000000) (disch := omega) [-List.getD_eq_getElem?_getD]
            refine hK _ ?_; clear hK K
            refine hK5 _ ?_; clear hK5
            refine aw_reg0 fun K hK => ?_; simp (maxSteps := 1000000) (disch := omega) [-List.getD_eq_getElem?_getD]
            refine hK _ ?_; clear hK K
            refine ⟨2, by show 2 ≤ 3; omega, by show 3 - 2 < 3 - 1; omega, ?_⟩
            refine weak_to [] [] ?_ ?_ ?_ ?_ (HO2 _) ?_
            all_goals simp [kdP]
          · have e1 : c.toNat ≠ 60 := fun e => hc (UInt8.toNat_inj.1 e)
            have e2 : ((c.toNat : Int) == 60) = false := beq_eq_false_iff_ne.2 (by omega)
            have e3 : ¬ (c.toNat : Int) = 60 := by omega
            have e4 : kdP c 2 = kdP c 1 := by simp [kdP, hc]
            refine aw_draw [] [] [] drawMixed (by kernel_rfl) (by kernel_rfl) fun K hK => ?_; simp (maxSteps := 1000000) (disch := omega) [-List.getD_eq_getElem?_getD, hp1, hgc, e2, e3]
            refine hK _ ?_; clear hK K
            refine aw_if rfl (fun h => absurd h (by simp)) (fun h => ?_)
            refine aw_skip ?_; simp (maxSteps := 1000000) (disch := omega) [-List.getD_eq_getElem?_getD]
            refine hK5 _ ?_; clear hK5
            refine aw_reg0 fun K hK => ?_; simp (maxSteps := 1000000) (disch := omega) [-List.getD_eq_getElem?_getD]
            refine hK _ ?_; clear hK K
            refine ⟨2, by show 2 ≤ 3; omega, by show 3 - 2 < 3 - 1; omega, ?_⟩
            refine weak_to [] [] ?_ ?_ ?_ ?_ (HO2 _) ?_
            all_goals simp [e4]
        · refine aw_then fun K4 hK4 => ?_
          refine aw_reg fun K hK => ?_; simp (maxSteps := 1000000) (disch := omega) [-List.getD_eq_getElem?_getD]; refine hK _ ?_; clear hK K
          refine aw_if rfl (fun h => ?_) (fun h => absurd h (by simp))
          refine aw_skip ?_; simp (maxSteps := 1000000) (disch := omega) [-List.getD_eq_getElem?_getD]
          refine hK4 _ ?_; clear hK4
          refine aw_then fun K5 hK5 => ?_
          refine aw_block ?_
          by_cases hc : c = 62
          · subst hc
            refine aw_draw [] [] [] drawMixed (by kernel_rfl) (by kernel_rfl) fun K hK => ?_; simp (maxSteps := 1000000) (disch := omega) [-List.getD_eq_getElem?_getD, hp1, hgc]
            refine hK _ ?_; clear hK K
            refine aw_if rfl (fun h => ?_) (fun h => absurd h (by simp))
            refine aw_reg0 fun K hK => ?_; simp (maxSteps := 1000000) (disch := omega) [-List.getD_eq_getElem?_getD]
            refine hK _ ?_; clear hK K
            refine hK5 _ ?_; clear hK5
            refine aw_reg0 fun K hK => ?_; simp (maxSteps := 1000000) (disch := omega) [-List.getD_eq_getElem?_getD]
            refine hK _ ?_; clear hK K
            refine ⟨3, by show 3 ≤ 3; omega, by show 3 - 3 < 3 - 2; omega, ?_⟩
            refine weak_to [] [] ?_ ?_ ?_ ?_ (HO2 _) ?_
            all_goals simp [kdP]
          · have e1 : c.toNat ≠ 62 := fun e => hc (UInt8.toNat_inj.1 e)
            have e2 : ((c.toNat : Int) == 62) = false := beq_eq_false_iff_ne.2 (by omega)
            have e3 : ¬ (c.toNat : Int) = 62 := by omega
            have e4 : kdP c 3 = kdP c 2 := by simp [kdP, hc]
            refine aw_draw [] [] [] drawMixed (by kernel_rfl) (by kernel_rfl) fun K hK => ?_; simp (maxSteps := 1000000) (disch := omega) [-List.getD_eq_getElem?_getD, hp1, hgc, e2, e3]
            refine hK _ ?_; clear hK K
            refine aw_if rfl (fun h => absurd h (by simp)) (fun h => ?_)
            refine aw_skip ?_; simp (maxSteps := 1000000) (disch := omega) [-List.getD_eq_getElem?_getD]
            refine hK5 _ ?_; clear hK5
            refine aw_reg0 fun K hK => ?_; simp (maxSteps := 1000000) (disch := omega) [-List.getD_eq_getElem?_getD]
            refine hK _ ?_; clear hK K
            refine ⟨3, by show 3 ≤ 3; omega, by show 3 - 3 < 3 - 2; omega, ?_⟩
            refine weak_to [] [] ?_ ?_ ?_ ?_ (HO2 _) ?_
            all_goals simp [e4]
        · rw [kdP_three]
          refine aw_then fun K4 hK4 => ?_
          refine aw_reg fun K hK => ?_; simp (maxSteps := 1000000) (disch := omega) [-List.getD_eq_getElem?_getD]; refine hK _ ?_; clear hK K
          refine aw_if rfl (fun h => absurd h (by simp)) (fun h => ?_)
          refine aw_exit ?_; simp (maxSteps := 1000000) (disch := omega) [-List.getD_eq_getElem?_getD]
          refine hK3 _ ?_; clear hK3
          refine aw_reg fun K hK => ?_; simp (maxSteps := 1000000) (disch := omega) [-List.getD_eq_getElem?_getD, hc1, hAe, hBe]
          refine acall_is (n1 _ _) ?_; simp (maxSteps := 1000000) (disch := omega) [-List.getD_eq_getElem?_getD]
          refine hK _ ?_; clear hK K
          refine aw_reg fun K hK => ?_; simp (maxSteps := 1000000) (disch := omega) [-List.getD_eq_getElem?_getD, hc1, hAe, hBe]
          refine acall_is (n2 _ _) ?_; simp (maxSteps := 1000000) (disch := omega) [-List.getD_eq_getElem?_getD]
          refine hK _ ?_; clear hK K
          refine aw_reg fun K hK => ?_; simp (maxSteps := 1000000) (disch := omega) [-List.getD_eq_getElem?_getD]; refine hK _ ?_; clear hK K
          have g0 := fun G T => one_ok (a, b, kdF c) (H ++ G) T
          have l0 := fun hg G T => lineR_ok (a, b, kdF c) hg (H ++ G) T
          rw [← hx] at g0 l0
          subst hx
          generalize kdF c = d at *
          rw [hkey]
          cases oa with
          | false =>
            refine aw_draw [15] [0, 0, 0, 0, 0, 0, 0, 0, 0, 0, 0, 0, 0, 0, 0, 0, 1] [[12, 13, 14]] drawMixed (by kernel_rfl) (by kernel_rfl) fun K hK => ?_; simp (maxSteps := 1000000) (disch := omega) [-List.getD_eq_getElem?_getD]
            refine hK _ ?_; clear hK K
            refine aw_ret ?_; simp (maxSteps := 1000000) (disch := omega) [-List.getD_eq_getElem?_getD]
            simp [mc]
          | true =>
            cases ob with
            | false =>
              refine aw_draw [15] [0, 0, 0, 0, 0, 0, 0, 0, 0, 0, 0, 0, 0, 0, 0, 0, 1] [[12, 13, 14]] drawMixed (by kernel_rfl) (by kernel_rfl) fun K hK => ?_; simp (maxSteps := 1000000) (disch := omega) [-List.getD_eq_getElem?_getD]
              refine hK _ ?_; clear hK K
              refine aw_ret ?_; simp (maxSteps := 1000000) (disch := omega) [-List.getD_eq_getElem?_getD]
              simp [mc]
            | true =>
              cases hg : goodM (a, b, d) with
              | false =>
                rw [hg] at g0
                simp only [mc] at g0
                refine aw_draw [15] [0, 0, 0, 0, 0, 0, 0, 0, 0, 0, 0, 0, 0, 0, 0, 0, 1] [[12, 13, 14]] drawMixed (by kernel_rfl) (by kernel_rfl) fun K hK => ?_; simp (maxSteps := 1000000) (disch := omega) [-List.getD_eq_getElem?_getD]
                refine dcall_is (g0 _ _) rfl ?_; simp (maxSteps := 1000000) (disch := omega) [-List.getD_eq_getElem?_getD]
                refine hK _ ?_; clear hK K
                refine aw_ret ?_; simp (maxSteps := 1000000) (disch := omega) [-List.getD_eq_getElem?_getD]
                simp [mc]
              | true =>
                rw [hg] at g0
                have l1 := l0 hg
                generalize lineM (a, b, d) = t at *
                simp only [mc] at g0 l1
                refine aw_draw [15] [0, 0, 0, 0, 0, 0, 0, 0, 0, 0, 0, 0, 0, 0, 0, 0, 1] [[12, 13, 14]] drawMixed (by kernel_rfl) (by kernel_rfl) fun K hK => ?_; simp (maxSteps := 1000000) (disch := omega) [-List.getD_eq_getElem?_getD, l1]
                refine dcall_is (g0 _ _) rfl ?_; simp (maxSteps := 1000000) (disch := omega) [-List.getD_eq_getElem?_getD, l1]
                refine dcall_is (l1 _ _) rfl ?_; simp (maxSteps := 1000000) (disch := omega) [-List.getD_eq_getElem?_getD, l1]
                refine hK _ ?_; clear hK K
                refine aw_ret ?_; simp (maxSteps := 1000000) (disch := omega) [-List.getD_eq_getElem?_getD]
                simp [mc]
  refine aw_block ?_
  refine aw_loop (X := Nat) (fun k => ⟨[(0, .str s), (2, .ptr H.length 0), (3, .bool false), (4, .int .i64 (k : Nat))], H ++ [.cells [.int .i64 0, .int .i64 0, .int .i64 0]], T⟩) (fun k => k ≤ p) (fun k => s.length - k) 0 ?_ ?_ ?_
  · exact Nat.zero_le _
  · refine weak_to [] [] ?_ ?_ ?_ ?_ HO1 ?_
    all_goals simp
  · rintro k h1
    refine aw_then fun K2 hK2 => ?_
    by_cases hk : k < s.length
    · have bk : decide ((k : Int) < s.length) = true := decide_eq_true (by omega)
      by_cases hkp : k < p
      · have hne := hlt k hkp
        generalize hgc : s.getD k 0 = c at *
        have hc2 : c.toNat ≠ 32 := fun e => hne (UInt8.toNat_inj.1 e)
        have b1 : ((c.toNat : Int) != 32) = true := bne_iff_ne.2 (by omega)
        have b2 : ((c.toNat : Int) == 32) = false := beq_eq_false_iff_ne.2 (by omega)
        have b3 : ¬ (c.toNat : Int) = 32 := by omega
        refine aw_reg fun K hK => ?_; simp (maxSteps := 1000000) (disch := omega) [-List.getD_eq_getElem?_getD, bk, hk, hgc, b1, b2, b3]; refine hK _ ?_; clear hK K
        refine aw_if rfl (fun h => ?_) (fun h => absurd h (by simp [b2, b3]))
        refine aw_skip ?_; simp (maxSteps := 1000000) (disch := omega) [-List.getD_eq_getElem?_getD]
        refine hK2 _ ?_; clear hK2
        refine aw_block ?_
        refine aw_reg0 fun K hK => ?_; simp (maxSteps := 1000000) (disch := omega) [-List.getD_eq_getElem?_getD]
        refine hK _ ?_; clear hK K
        refine ⟨k + 1, by show k + 1 ≤ p; omega, by show s.length - (k + 1) < s.length - k; omega, ?_⟩
        refine weak_to [] [] ?_ ?_ ?_ ?_ HO1 ?_
        all_goals simp
      · have e : k = p := by omega
        subst e
        have hgc := hat hk
        refine aw_reg fun K hK => ?_; simp (maxSteps := 1000000) (disch := omega) [-List.getD_eq_getElem?_getD, bk, hk, hgc]; refine hK _ ?_; clear hK K
        refine aw_if rfl (fun h => absurd h (by simp)) (fun h => ?_)
        refine aw_exit ?_; simp (maxSteps := 1000000) (disch := omega) [-List.getD_eq_getElem?_getD]
        refine fin _ ?_
        simp
    · have bk : decide ((k : Int) < s.length) = false := decide_eq_false (by omega)
      have e : k = p := by omega
      subst e
      refine aw_reg fun K hK => ?_; simp (maxSteps := 1000000) (disch := omega) [-List.getD_eq_getElem?_getD, bk, hk]; refine hK _ ?_; clear hK K
      refine aw_if rfl (fun h => absurd h (by simp)) (fun h => ?_)
      refine aw_exit ?_; simp (maxSteps := 1000000) (disch := omega) [-List.getD_eq_getElem?_getD]
      refine fin _ ?_
      simp
end Go.Proofs.YtfdlngemkhiiiaaGreatDoor
