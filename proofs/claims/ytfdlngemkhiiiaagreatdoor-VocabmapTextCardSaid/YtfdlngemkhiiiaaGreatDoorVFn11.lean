/- The reference's numbers and lines (layer 26).
   Conditions: lengths below 2^20. -/
import Derived.Test.YtfdlngemkhiiiaaGreatDoorVFn10
namespace Voc
open Go.Lib Lst
def isD (c : UInt8) : Bool := decide (48 ≤ c.toNat) && decide (c.toNat ≤ 57)
theorem isD_iff {c : UInt8} : isD c = true ↔ 48 ≤ c.toNat ∧ c.toNat ≤ 57 := by simp [isD]
/-- The number that a text spells, and whether it is its one form and small enough. -/
def numR (most : Nat) (s : List UInt8) : Int × Bool :=
  if s.all isD = true ∧ s.length ≤ 18 then ((numV s : Nat), decide (0 < s.length) && decide (numV s ≤ most) && (decide (s.getD 0 0 ≠ 48) || decide (s = [48]))) else (0, false)
theorem numR_dec {most u : Nat} (hu : u ≤ most) (hm : most ≤ 1000000000) : numR most (decDigits u) = ((u : Int), true) := by
  have h1 : (decDigits u).all isD = true := List.all_eq_true.2 fun c hc => isD_iff.2 (dec_mem u hc)
  have h2 : (decDigits u).length ≤ 18 := by
    have key : ∀ (k u : Nat), u < 10 ^ k → (decDigits u).length ≤ k + 1 := by
      intro k
      induction k with
      | zero => intro u hu; have : u = 0 := by simpa using hu
                subst this; rw [decDigits, dif_pos (by omega)]; simp
      | succ k ih =>
        intro u hu
        rw [decDigits]
        split
        · simp
        · rw [List.length_append]
          have := ih (u / 10) (by rw [Nat.pow_succ] at hu; omega)
          simp; omega
    have := key 10 u (by omega)
    omega
  unfold numR
  rw [if_pos ⟨h1, h2⟩, numV_dec]
  have h3 := dec_ne u
  have h4 : (decide ((decDigits u).getD 0 0 ≠ 48) || decide (decDigits u = [48])) = true := by
    rw [Bool.or_eq_true, decide_eq_true_iff, decide_eq_true_iff]
    rcases dec_head u with h | h
    · refine .inl ?_
      generalize decDigits u = l at *
      match l, h3 with
      | c :: r, _ => simpa using h
    · exact .inr h
  rw [h4, decide_eq_true (List.length_pos_iff.2 h3), decide_eq_true hu]
  rfl
theorem numR_no {most : Nat} {s : List UInt8} {i : Nat} (hi : i < s.length) (h : isD (s.getD i 0) = false ∨ 18 ≤ i) : numR most s = (0, false) := by
  unfold numR
  rw [if_neg]
  rintro ⟨h1, h2⟩
  rcases h with h | h
  · have := List.all_eq_true.1 h1 (s.getD i 0) (by rw [List.getD_eq_getElem?_getD, List.getElem?_eq_getElem hi]; exact List.getElem_mem hi)
    rw [h] at this
    cases this
  · omega
theorem numR_le (most : Nat) (s : List UInt8) : 0 ≤ (numR most s).1 := by
  unfold numR
  split
  · exact Int.natCast_nonneg _
  · exact Int.le_refl _
theorem numR_bound (most : Nat) (s : List UInt8) : (numR most s).1 < 1000000000000000000 := by
  unfold numR
  split
  · rename_i h
    have h1 := numV_lt s fun c hc => (isD_iff.1 (List.all_eq_true.1 h.1 c hc)).2
    have h2 : 10 ^ s.length ≤ 10 ^ 18 := Nat.pow_le_pow_right (by omega) h.2
    have : numV s < 10 ^ 18 := by omega
    simp only
    omega
  · simp only; omega
end Voc
namespace Go.Proofs.YtfdlngemkhiiiaaGreatDoor
open Go Go.Am Go.Shelf Voc Lst
set_option linter.unusedVariables false

theorem isDigitR_ok (c : UInt8) (H : List Blk) (T : Toks) : ACall Tryz.prog 45 [.int .u8 (c.toNat : Nat)] H T (Is (.bool (isD c)) H T) := by
  unfold isD
  by_cases h1 : 48 ≤ c.toNat
  · have b1 : decide ((c.toNat : Int) ≥ 48) = true := decide_eq_true (by omega)
    have b1' : decide ((48 : Int) ≤ (c.toNat : Int)) = true := decide_eq_true (by omega)
    rw [decide_eq_true h1]
    have b2 : decide ((c.toNat : Int) ≤ 57) = decide (c.toNat ≤ 57) := by rw [decide_eq_decide]; omega
    generalize hq : decide (c.toNat ≤ 57) = q at *
    refine acall_enter 3 [] Tryz.ntmps45 Tryz.func45 rfl (fun _ _ => Tryz.call45 _ _) (by simp) (fun HO => ?_)
    refine aw_reg fun K hK => ?_; simp (maxSteps := 1000000) (disch := omega) [-List.getD_eq_getElem?_getD]; refine hK _ ?_; clear hK K
    refine aw_reg fun K hK => ?_; simp (maxSteps := 1000000) (disch := omega) [-List.getD_eq_getElem?_getD, b1, b1', h1, b2, hq]; refine hK _ ?_; clear hK K
    refine aw_ret ?_; simp (maxSteps := 1000000) (disch := omega) [-List.getD_eq_getElem?_getD]
    exact ⟨rfl, rfl, rfl⟩
  · have b1 : decide ((c.toNat : Int) ≥ 48) = false := decide_eq_false (by omega)
    have b1' : decide ((48 : Int) ≤ (c.toNat : Int)) = false := decide_eq_false (by omega)
    rw [decide_eq_false h1]
    refine acall_enter 3 [] Tryz.ntmps45 Tryz.func45 rfl (fun _ _ => Tryz.call45 _ _) (by simp) (fun HO => ?_)
    refine aw_reg fun K hK => ?_; simp (maxSteps := 1000000) (disch := omega) [-List.getD_eq_getElem?_getD]; refine hK _ ?_; clear hK K
    refine aw_reg fun K hK => ?_; simp (maxSteps := 1000000) (disch := omega) [-List.getD_eq_getElem?_getD, b1, b1', h1]; refine hK _ ?_; clear hK K
    refine aw_ret ?_; simp (maxSteps := 1000000) (disch := omega) [-List.getD_eq_getElem?_getD]
    exact ⟨rfl, rfl, rfl⟩

set_option maxRecDepth 100000 in
set_option maxHeartbeats 4000000 in
theorem numberR_ok (s : List UInt8) (hs : s.length ≤ 1000000) (most : Nat) (hm : most ≤ 1000000000) (H : List Blk) (T : Toks) :
    ACall Tryz.prog 32 [.str s, .int .i64 (most : Nat)] H T (Is (.tup [.int .i64 (numR most s).1, .bool (numR most s).2]) H T) := by
  generalize hF : numR most s = F
  refine acall_enter 8 [] Tryz.ntmps32 Tryz.func32 rfl (fun _ _ => Tryz.call32 _ _) (by simp) (fun HO => ?_)
  refine aw_reg fun K hK => ?_; simp (maxSteps := 1000000) (disch := omega) [-List.getD_eq_getElem?_getD]; refine hK _ ?_; clear hK K
  refine aw_reg fun K hK => ?_; simp (maxSteps := 1000000) (disch := omega) [-List.getD_eq_getElem?_getD]; refine hK _ ?_; clear hK K
  refine aw_then fun K1 hK1 => ?_
  refine aw_reg fun K hK => ?_; simp (maxSteps := 1000000) (disch := omega) [-List.getD_eq_getElem?_getD]; refine hK _ ?_; clear hK K
  refine aw_block ?_
  refine aw_loop (X := Nat) (fun i => ⟨[(0, .str s), (1, .int .i64 (most : Nat)), (4, .int .i64 0), (5, .bool false), (6, .int .i64 (Lib.numV (s.take i) : Nat)), (7, .int .i64 (i : Nat))], H, T⟩) (fun i => i ≤ s.length ∧ i ≤ 18 ∧ (s.take i).all isD = true) (fun i => s.length - i) 0 ?_ ?_ ?_
  · exact ⟨Nat.zero_le _, Nat.zero_le _, rfl⟩
  · refine weak_to [] [] ?_ ?_ ?_ ?_ HO ?_
    all_goals simp [Lib.numV]
  · rintro i ⟨h1, h2, h3⟩
    refine aw_then fun K2 hK2 => ?_
    refine aw_reg fun K hK => ?_; simp (maxSteps := 1000000) (disch := omega) [-List.getD_eq_getElem?_getD]; refine hK _ ?_; clear hK K
    refine aw_if rfl (fun hk => ?_) (fun hk => ?_)
    · simp [-List.getD_eq_getElem?_getD] at hk
      have c0 := isDigitR_ok (s.getD i 0) H T
      refine aw_skip ?_; simp (maxSteps := 1000000) (disch := omega) [-List.getD_eq_getElem?_getD]
      refine hK2 _ ?_; clear hK2
      refine aw_then fun K3 hK3 => ?_
      refine aw_block ?_
      refine aw_then fun K4 hK4 => ?_
      cases hd : isD (s.getD i 0) with
      | false =>
        have hno := numR_no (most := most) hk (.inl hd)
        rw [hno] at hF
        subst hF
        rw [hd] at c0
        generalize hgc : s.getD i 0 = c at *
        refine aw_reg fun K hK => ?_; simp (maxSteps := 1000000) (disch := omega) [-List.getD_eq_getElem?_getD, hk, hgc]
        refine acall_is (c0) ?_; simp (maxSteps := 1000000) (disch := omega) [-List.getD_eq_getElem?_getD]
        refine hK _ ?_; clear hK K
        refine aw_if rfl (fun h => ?_) (fun h => absurd h (by simp))
        refine aw_reg fun K hK => ?_; simp (maxSteps := 1000000) (disch := omega) [-List.getD_eq_getElem?_getD]; refine hK _ ?_; clear hK K
        refine aw_ret ?_; simp (maxSteps := 1000000) (disch := omega) [-List.getD_eq_getElem?_getD]
        exact ⟨rfl, rfl, rfl⟩
      | true =>
        rw [hd] at c0
        by_cases h17 : i ≤ 17
        · have b17 : decide ((i : Int) > 17) = false := decide_eq_false (by omega)
          have b17' : decide ((17 : Int) < (i : Nat)) = false := decide_eq_false (by omega)
          have n17 : ¬ 17 < i := by omega
          have hd2 := isD_iff.1 hd
          have htk := takeD s i 0 hk
          have hall : (s.take (i + 1)).all isD = true := by rw [htk, List.all_append, h3]; simp [hd, -List.getD_eq_getElem?_getD]
          have hv := Lib.numV_snoc (s.take i) (s.getD i 0)
          rw [← htk] at hv
          have hlt := Lib.numV_lt (s.take i) fun c hc => (isD_iff.1 (List.all_eq_true.1 h3 c hc)).2
          have hp : 10 ^ (s.take i).length ≤ 10 ^ 17 := Nat.pow_le_pow_right (by omega) (by rw [List.length_take]; omega)
          have hlt2 : Lib.numV (s.take i) < 10 ^ 17 := by omega
          clear hlt hp h3 htk
          generalize Lib.numV (s.take i) = v at *
          generalize hgc : s.getD i 0 = c at *
          refine aw_reg fun K hK => ?_; simp (maxSteps := 1000000) (disch := omega) [-List.getD_eq_getElem?_getD, hk, hgc]
          refine acall_is (c0) ?_; simp (maxSteps := 1000000) (disch := omega) [-List.getD_eq_getElem?_getD, b17, b17', n17]
          refine hK _ ?_; clear hK K
          refine aw_if rfl (fun h => absurd h (by simp)) (fun h => ?_)
          refine aw_skip ?_; simp (maxSteps := 1000000) (disch := omega) [-List.getD_eq_getElem?_getD]
          refine hK4 _ ?_; clear hK4
          refine aw_reg0 fun K hK => ?_; simp (maxSteps := 1000000) (disch := omega) [-List.getD_eq_getElem?_getD, hk, hgc]; refine hK _ ?_; clear hK K
          refine hK3 _ ?_; clear hK3
          refine aw_reg0 fun K hK => ?_; simp (maxSteps := 1000000) (disch := omega) [-List.getD_eq_getElem?_getD]
          refine hK _ ?_; clear hK K
          refine ⟨i + 1, ⟨by show i + 1 ≤ _; omega, by show i + 1 ≤ 18; omega, hall⟩, by show s.length - (i + 1) < s.length - i; omega, ?_⟩
          refine weak_to [] [] ?_ ?_ ?_ ?_ HO ?_
          all_goals simp [hv]
          all_goals omega
        · have b17 : decide ((i : Int) > 17) = true := decide_eq_true (by omega)
          have b17' : decide ((17 : Int) < (i : Nat)) = true := decide_eq_true (by omega)
          have n17 : 17 < i := by omega
          have hno := numR_no (most := most) hk (.inr (by omega))
          rw [hno] at hF
          subst hF
          generalize hgc : s.getD i 0 = c at *
          refine aw_reg fun K hK => ?_; simp (maxSteps := 1000000) (disch := omega) [-List.getD_eq_getElem?_getD, hk, hgc]
          refine acall_is (c0) ?_; simp (maxSteps := 1000000) (disch := omega) [-List.getD_eq_getElem?_getD, b17, b17', n17]
          refine hK _ ?_; clear hK K
          refine aw_if rfl (fun h => ?_) (fun h => absurd h (by simp))
          refine aw_reg fun K hK => ?_; simp (maxSteps := 1000000) (disch := omega) [-List.getD_eq_getElem?_getD]; refine hK _ ?_; clear hK K
          refine aw_ret ?_; simp (maxSteps := 1000000) (disch := omega) [-List.getD_eq_getElem?_getD]
          exact ⟨rfl, rfl, rfl⟩
    · simp [-List.getD_eq_getElem?_getD] at hk
      have e : i = s.length := by omega
      subst e
      rw [List.take_length] at h3 ⊢
      unfold numR at hF
      rw [if_pos ⟨h3, h2⟩] at hF
      subst hF
      generalize Lib.numV s = v at *
      refine aw_exit ?_; simp (maxSteps := 1000000) (disch := omega) [-List.getD_eq_getElem?_getD]
      refine hK1 _ ?_; clear hK1
      by_cases h0 : s = []
      · subst h0
        refine aw_reg fun K hK => ?_; simp (maxSteps := 1000000) (disch := omega) [-List.getD_eq_getElem?_getD]; refine hK _ ?_; clear hK K
        refine aw_ret ?_; simp (maxSteps := 1000000) (disch := omega) [-List.getD_eq_getElem?_getD]
        exact ⟨rfl, rfl, rfl⟩
      · have hp := List.length_pos_iff.2 h0
        have bp : decide ((s.length : Int) > 0) = true := decide_eq_true (by omega)
        have bp' : decide ((0 : Int) < (s.length : Nat)) = true := decide_eq_true (by omega)
        by_cases hv : v ≤ most
        · have bv : decide ((v : Int) ≤ (most : Nat)) = true := decide_eq_true (by omega)
          generalize hgc : s.getD 0 0 = c at *
          by_cases hc : c = 48
          · subst hc
            by_cases h1' : s = [48]
            · subst h1'
              refine aw_reg fun K hK => ?_; simp (maxSteps := 1000000) (disch := omega) [-List.getD_eq_getElem?_getD, bp, bp', hp, bv, hv]; refine hK _ ?_; clear hK K
              refine aw_ret ?_; simp (maxSteps := 1000000) (disch := omega) [-List.getD_eq_getElem?_getD]
              simp [hv]
              exact ⟨rfl, rfl, rfl⟩
            · have be : (s == [48]) = false := beq_eq_false_iff_ne.2 h1'
              refine aw_reg fun K hK => ?_; simp (maxSteps := 1000000) (disch := omega) [-List.getD_eq_getElem?_getD, bp, bp', hp, bv, hv, hgc, be, h1']; refine hK _ ?_; clear hK K
              refine aw_ret ?_; simp (maxSteps := 1000000) (disch := omega) [-List.getD_eq_getElem?_getD]
              simp [h1']
              exact ⟨rfl, rfl, rfl⟩
          · have hc2 : c.toNat ≠ 48 := fun e => hc (UInt8.toNat_inj.1 e)
            have bc : ((c.toNat : Int) != 48) = true := bne_iff_ne.2 (by omega)
            have bc2 : ((c.toNat : Int) == 48) = false := beq_eq_false_iff_ne.2 (by omega)
            have bc3 : ¬ (c.toNat : Int) = 48 := by omega
            refine aw_reg fun K hK => ?_; simp (maxSteps := 1000000) (disch := omega) [-List.getD_eq_getElem?_getD, bp, bp', hp, bv, hv, hgc, bc, bc2, bc3, hc]; refine hK _ ?_; clear hK K
            refine aw_ret ?_; simp (maxSteps := 1000000) (disch := omega) [-List.getD_eq_getElem?_getD]
            simp [hc, hv, hp]
            exact ⟨rfl, rfl, rfl⟩
        · have bv : decide ((v : Int) ≤ (most : Nat)) = false := decide_eq_false (by omega)
          refine aw_reg fun K hK => ?_; simp (maxSteps := 1000000) (disch := omega) [-List.getD_eq_getElem?_getD, bp, bp', hp, bv, hv]; refine hK _ ?_; clear hK K
          refine aw_ret ?_; simp (maxSteps := 1000000) (disch := omega) [-List.getD_eq_getElem?_getD]
          simp [hv]
          exact ⟨rfl, rfl, rfl⟩

set_option maxRecDepth 100000 in
set_option maxHeartbeats 4000000 in
theorem linesR_ok (s : List UInt8) (hs : s.length ≤ 1000000) (H : List Blk) (T : Toks) :
    ACall Tryz.prog 15 [.str s] H T (Is (.tup [.sl (linesF s).1.length (strs (linesF s).1) .none, .str (linesF s).2]) H T) := by
  refine ACall.dropT ?_ (by simp)
  generalize hF : linesF s = F
  have hb : ∀ (l : List (List UInt8)) n t, BelowAll n t (strs l) := fun l n t => by simp
  have hsl : ∀ l : List (List UInt8), (strs l).length = l.length := fun l => by simp [strs]
  have hsn : ∀ (l : List (List UInt8)) (x : List UInt8), strs l ++ [.str x] = strs (l ++ [x]) := fun l x => by simp [strs]
  have hll : ∀ i, i ≤ s.length → (linesF (s.take i)).1.length ≤ i ∧ (linesF (s.take i)).2.length ≤ i := by
    intro i hi
    induction i with
    | zero => simp [linesF]
    | succ i ih =>
      have := ih (by omega)
      rw [takeD s i 0 (by omega), linesF_snoc]
      unfold lstep
      split <;> simp <;> omega
  refine acall_enter 5 [] Tryz.ntmps15 Tryz.func15 rfl (fun _ _ => Tryz.call15 _ _) (by simp) (fun HO => ?_)
  refine aw_reg fun K hK => ?_; simp (maxSteps := 1000000) (disch := omega) [-List.getD_eq_getElem?_getD]; refine hK _ ?_; clear hK K
  refine aw_own 2 0 1 [] (by omega) (by simp) ?_
  refine aw_then fun K1 hK1 => ?_
  refine aw_reg fun K hK => ?_; simp (maxSteps := 1000000) (disch := omega) [-List.getD_eq_getElem?_getD]; refine hK _ ?_; clear hK K
  refine aw_block ?_
  refine aw_loop (X := Nat) (fun i => ⟨[(0, .str s), (2, .sl (linesF (s.take i)).1.length (strs (linesF (s.take i)).1) (.own T.length)), (3, .str (linesF (s.take i)).2), (4, .int .i64 (i : Nat))], H, T ++ [((linesF (s.take i)).1.length, 1)]⟩) (fun i => i ≤ s.length) (fun i => s.length - i) 0 ?_ ?_ ?_
  · exact Nat.zero_le _
  · refine weak_to [] [] ?_ ?_ ?_ ?_ (HO.toks (by simp)) ?_
    all_goals simp [linesF, strs]
  · rintro i h1
    refine aw_then fun K2 hK2 => ?_
    refine aw_reg fun K hK => ?_; simp (maxSteps := 1000000) (disch := omega) [-List.getD_eq_getElem?_getD]; refine hK _ ?_; clear hK K
    refine aw_if rfl (fun hk => ?_) (fun hk => ?_)
    · simp [-List.getD_eq_getElem?_getD] at hk
      obtain ⟨l1, l2⟩ := hll i h1
      have hst := linesF_snoc (s.take i) (s.getD i 0)
      rw [← takeD s i 0 hk] at hst
      have hcut : (s.drop i).take 1 = [s.getD i 0] := by
        rw [List.getD_eq_getElem?_getD, List.getElem?_eq_getElem hk, List.drop_eq_getElem_cons hk]
        rfl
      have hcut2 : (s.drop i).take (i + 1 - i) = [s.getD i 0] := by rw [show i + 1 - i = 1 by omega]; exact hcut
      clear hll
      generalize linesF (s.take i) = p at *
      obtain ⟨l, r⟩ := p
      generalize hgc : s.getD i 0 = c at *
      simp only at l1 l2
      refine aw_skip ?_; simp (maxSteps := 1000000) (disch := omega) [-List.getD_eq_getElem?_getD]
      refine hK2 _ ?_; clear hK2
      refine aw_then fun K3 hK3 => ?_
      refine aw_block ?_
      refine aw_then fun K4 hK4 => ?_
      by_cases hc : c = 10
      · subst hc
        have e : linesF (s.take (i + 1)) = (l ++ [r], []) := hst
        refine aw_reg fun K hK => ?_; simp (maxSteps := 1000000) (disch := omega) [-List.getD_eq_getElem?_getD, hk, hgc]; refine hK _ ?_; clear hK K
        refine aw_if rfl (fun h => ?_) (fun h => absurd h (by simp))
        refine aw_reg fun K hK => ?_; simp (maxSteps := 1000000) (disch := omega) [-List.getD_eq_getElem?_getD, hsl, hsn]; refine hK _ ?_; clear hK K
        refine aw_reg fun K hK => ?_; simp (maxSteps := 1000000) (disch := omega) [-List.getD_eq_getElem?_getD]; refine hK _ ?_; clear hK K
        refine aw_exit ?_; simp (maxSteps := 1000000) (disch := omega) [-List.getD_eq_getElem?_getD]
        refine hK3 _ ?_; clear hK3
        refine aw_reg0 fun K hK => ?_; simp (maxSteps := 1000000) (disch := omega) [-List.getD_eq_getElem?_getD]
        refine hK _ ?_; clear hK K
        refine ⟨i + 1, by show i + 1 ≤ _; omega, by show s.length - (i + 1) < s.length - i; omega, ?_⟩
        refine weak_to [] [] ?_ ?_ ?_ ?_ (HO.toks (by simp)) ?_
        all_goals simp [hb, e]
      · have hc2 : c.toNat ≠ 10 := fun e => hc (UInt8.toNat_inj.1 e)
        have bc2 : ((c.toNat : Int) == 10) = false := beq_eq_false_iff_ne.2 (by omega)
        have bc3 : ¬ (c.toNat : Int) = 10 := by omega
        have e : linesF (s.take (i + 1)) = (l, r ++ [c]) := by rw [hst]; unfold lstep; rw [if_neg hc]
        refine aw_reg fun K hK => ?_; simp (maxSteps := 1000000) (disch := omega) [-List.getD_eq_getElem?_getD, hk, hgc, bc2, bc3, hc]; refine hK _ ?_; clear hK K
        refine aw_if rfl (fun h => absurd h (by simp)) (fun h => ?_)
        refine aw_skip ?_; simp (maxSteps := 1000000) (disch := omega) [-List.getD_eq_getElem?_getD]
        refine hK4 _ ?_; clear hK4
        refine aw_reg0 fun K hK => ?_; simp (maxSteps := 1000000) (disch := omega) [-List.getD_eq_getElem?_getD, hcut, hcut2]
        refine hK _ ?_; clear hK K
        refine hK3 _ ?_; clear hK3
        refine aw_reg0 fun K hK => ?_; simp (maxSteps := 1000000) (disch := omega) [-List.getD_eq_getElem?_getD]
        refine hK _ ?_; clear hK K
        refine ⟨i + 1, by show i + 1 ≤ _; omega, by show s.length - (i + 1) < s.length - i; omega, ?_⟩
        refine weak_to [] [] ?_ ?_ ?_ ?_ (HO.toks (by simp)) ?_
        all_goals simp [hb, e]
    · simp [-List.getD_eq_getElem?_getD] at hk
      have e : i = s.length := by omega
      subst e
      rw [List.take_length, hF]
      refine aw_exit ?_; simp (maxSteps := 1000000) (disch := omega) [-List.getD_eq_getElem?_getD]
      refine hK1 _ ?_; clear hK1
      refine aw_reg fun K hK => ?_; simp (maxSteps := 1000000) (disch := omega) [-List.getD_eq_getElem?_getD]; refine hK _ ?_; clear hK K
      refine aw_ret ?_; simp (maxSteps := 1000000) (disch := omega) [-List.getD_eq_getElem?_getD]
end Go.Proofs.YtfdlngemkhiiiaaGreatDoor
