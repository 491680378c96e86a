/- The reference's digits of a string.
   Conditions: none. -/
import Derived.Test.YtlemepdiegacbaaIRef2
namespace Go.Proofs.Ytlemepdiegacbaa
open Go Go.Am Ident
set_option linter.unusedVariables false

theorem cut_find : ∀ (s : List UInt8) (i : Nat), (∀ j, j < i → ¬ (s.getD j 0 = 32 ∧ s.getD (j + 1) 0 = 40)) → i + 1 < s.length → s.getD i 0 = 32 → s.getD (i + 1) 0 = 40 → cut s = s.take i
  | [], i, _, h, _, _ => absurd h (by simp)
  | [c], i, _, h, _, _ => absurd h (by simp)
  | c :: d :: r, 0, _, _, h1, h2 => by
    have e1 : c = 32 := h1
    have e2 : d = 40 := h2
    unfold cut
    rw [if_pos ⟨e1, e2⟩]
    rfl
  | c :: d :: r, i + 1, hno, hl, h1, h2 => by
    have h0 : ¬ (c = 32 ∧ d = 40) := hno 0 (by omega)
    have ih := cut_find (d :: r) i (fun j hj => hno (j + 1) (by omega)) (by simp at hl ⊢; omega) h1 h2
    unfold cut
    rw [if_neg h0, ih]
    rfl
theorem cut_full : ∀ (s : List UInt8), (∀ j, j + 1 < s.length → ¬ (s.getD j 0 = 32 ∧ s.getD (j + 1) 0 = 40)) → cut s = s
  | [], _ => rfl
  | [c], _ => rfl
  | c :: d :: r, hno => by
    have h0 : ¬ (c = 32 ∧ d = 40) := hno 0 (by simp)
    have ih := cut_full (d :: r) (fun j hj => hno (j + 1) (by simp at hj ⊢; omega))
    unfold cut
    rw [if_neg h0, ih]

/-- One character of a string, as the reference reads it. -/
def rstep (s out : List UInt8) (i : Nat) : Option (List UInt8) :=
  if dig (s.getD i 0) = true then some (out ++ [s.getD i 0])
  else if isX (s.getD i 0) = true ∧ i + 1 = s.length then some (out ++ [88])
  else if sep (s.getD i 0) = true ∧ 0 < i ∧ i + 1 < s.length ∧ ¬ sep (s.getD (i - 1) 0) = true then some out
  else none
def rrun (s : List UInt8) : Nat → Option (List UInt8)
  | 0 => some []
  | k + 1 => (rrun s k).bind fun out => rstep s out k
theorem rrun_none {s : List UInt8} {k m : Nat} (h : rrun s k = none) (hk : k ≤ m) : rrun s m = none := by
  induction m with
  | zero => obtain rfl : k = 0 := by omega
            exact h
  | succ m ih =>
    rcases Nat.lt_or_ge m k with h1 | h1
    · obtain rfl : k = m + 1 := by omega
      exact h
    · rw [rrun, ih h1]; rfl
theorem rrun_len {s : List UInt8} : ∀ k out, rrun s k = some out → out.length ≤ k := by
  intro k
  induction k with
  | zero => intro out h; simp [rrun] at h; simp [← h]
  | succ k ih =>
    intro out h
    rw [rrun] at h
    obtain ⟨o, h1, h2⟩ := Option.bind_eq_some_iff.1 h
    have := ih o h1
    unfold rstep at h2
    split at h2
    · simp at h2; simp [← h2]; omega
    · split at h2
      · simp at h2; simp [← h2]; omega
      · split at h2
        · simp at h2; rw [← h2]; omega
        · simp at h2
/-- The two readings differ at the strings X and x alone. -/
theorem rrun_eq {s : List UInt8} (h : s.length ≠ 1) : ∀ k, k ≤ s.length → rrun s k = drun s k := by
  intro k
  induction k with
  | zero => intro _; rfl
  | succ k ih =>
    intro hk
    rw [rrun, drun, ih (by omega)]
    congr 1
    funext out
    unfold rstep dstep
    by_cases h0 : 0 < k
    · have e : (isX (s.getD k 0) = true ∧ k + 1 = s.length ∧ 0 < k) = (isX (s.getD k 0) = true ∧ k + 1 = s.length) := propext ⟨fun g => ⟨g.1, g.2.1⟩, fun g => ⟨g.1, g.2, h0⟩⟩
      simp only [e]
    · have e : (isX (s.getD k 0) = true ∧ k + 1 = s.length ∧ 0 < k) = (isX (s.getD k 0) = true ∧ k + 1 = s.length) := propext ⟨fun g => ⟨g.1, g.2.1⟩, fun g => absurd g.2 (by omega)⟩
      simp only [e]

/-- What the reference's digits answers. -/
def RD (u : List UInt8) (H : List Blk) (T : Toks) (r : AV) (H' : List Blk) (T' : Toks) : Prop :=
  H' = H ∧ ((∃ out, rrun u u.length = some out ∧ r = .tup [.sl out.length (nums out) (.own T.length), .bool (decide (0 < out.length))] ∧ T' = T ++ [(out.length, 1)]) ∨
    (rrun u u.length = none ∧ ∃ z tg, r = .tup [.sl 0 [] tg, .bool false] ∧ T' = T ++ [z]))
theorem nums_snoc10 (s : List UInt8) : nums s ++ [.int .i64 10] = nums (s ++ [88]) := nums_snoc s 88

set_option maxRecDepth 100000 in
set_option maxHeartbeats 8000000 in
theorem rdigits_ok (s : List UInt8) (hs : s.length ≤ 1000) (H : List Blk) (T : Toks) : ACall Try.prog 29 [.str s] H T (RD (cut s) H T) := by
  have hcl := cut_le s hs
  refine acall_enter 8 [] Try.ntmps29 Try.func29 rfl (fun _ _ => Try.call29 _ _) (by simp) (fun HO => ?_)
  refine aw_reg fun K hK => ?_; simp (maxSteps := 1000000) (disch := omega) [-List.getD_eq_getElem?_getD]; refine hK _ ?_; clear hK K
  refine aw_then fun K1 hK1 => ?_
  have key : ∀ e, envLe H.length T.length e [(0, .str (cut s))] → K1 ⟨e, H, T⟩ := fun e he => by
    refine hK1 _ (aw_weak ⟨[(0, .str (cut s))], H, T⟩ (weak_to [] [] (by simp) (by simp) (by simp) (by simp) HO he) ?_)
    clear hK1 K1 he e
    generalize cut s = u at *
    refine aw_reg fun K hK => ?_; simp (maxSteps := 1000000) (disch := omega) [-List.getD_eq_getElem?_getD]; refine hK _ ?_; clear hK K
    refine aw_then fun K1 hK1 => ?_
    refine aw_reg fun K hK => ?_; simp (maxSteps := 1000000) (disch := omega) [-List.getD_eq_getElem?_getD]; refine hK _ ?_; clear hK K
    refine aw_block ?_
    refine aw_own 5 0 1 [] (by omega) (by simp) ?_
    refine aw_loop (X := Nat × List UInt8) (fun x => ⟨[(0, .str u), (5, .sl x.2.length (nums x.2) (.own T.length)), (6, .int .i64 (x.1 : Nat))], H, T ++ [(x.2.length, 1)]⟩) (fun x => x.1 ≤ u.length ∧ rrun u x.1 = some x.2) (fun x => u.length - x.1) (0, []) ?_ ?_ ?_
    · exact ⟨Nat.zero_le _, rfl⟩
    · refine weak_to [] [] ?_ ?_ ?_ ?_ (HO.toks (by simp)) ?_
      all_goals simp
    · rintro ⟨k, out⟩ ⟨hk0, hrun⟩
      simp only at hk0 hrun
      have hol := rrun_len k out hrun
      refine aw_then fun K2 hK2 => ?_
      refine aw_reg fun K hK => ?_; simp (maxSteps := 1000000) (disch := omega) [-List.getD_eq_getElem?_getD]; refine hK _ ?_; clear hK K
      refine aw_if rfl (fun hk => ?_) (fun hk => ?_)
      · simp [-List.getD_eq_getElem?_getD] at hk
        have hdb := dig_bools (u.getD k 0)
        generalize hgc : u.getD k 0 = c at *
        refine aw_skip ?_; simp (maxSteps := 1000000) (disch := omega) [-List.getD_eq_getElem?_getD]
        refine hK2 _ ?_; clear hK2
        refine aw_then fun K3 hK3 => ?_
        refine aw_block ?_
        refine aw_reg fun K hK => ?_; simp (maxSteps := 1000000) (disch := omega) [-List.getD_eq_getElem?_getD, hgc]; refine hK _ ?_; clear hK K
        refine aw_block ?_
        rcases hdb with ⟨hdig, f1, f2, f3, f4⟩ | ⟨hdig, f1, f3⟩ | ⟨hdig, f1, f2, f3, f4⟩
        · have hv := dig_val hdig
          have hst : rrun u (k + 1) = some (out ++ [c]) := by
            rw [rrun, hrun]
            show rstep u out k = _
            unfold rstep
            rw [hgc, if_pos hdig]
          have g1 : decide ((48 : Int) ≤ (c.toNat : Int)) = true := decide_eq_true (by omega)
          have g2 : decide ((c.toNat : Int) ≤ 57) = true := decide_eq_true (by omega)
          have hsub : IntKind.u8.wrap ((c.toNat : Int) - 48) = ((valN c : Nat) : Int) := by
            rw [show (c.toNat : Int) - 48 = ((valN c : Nat) : Int) by omega]
            simp [IntKind.wrap, IntKind.signed, IntKind.bits]
            omega
          have hw64 : IntKind.i64.wrap ((valN c : Nat) : Int) = ((valN c : Nat) : Int) := by rw [IntKind.wrap_i64]; omega
          refine aw_reg fun K hK => ?_; simp (maxSteps := 1000000) (disch := omega) [-List.getD_eq_getElem?_getD, g1, g2]; refine hK _ ?_; clear hK K
          refine aw_if rfl (fun h => ?_) (fun h => absurd h (by simp))
          refine aw_reg0 fun K hK => ?_; simp (maxSteps := 1000000) (disch := omega) [-List.getD_eq_getElem?_getD, hsub, hw64, nums_snoc]
          refine hK _ ?_; clear hK K
          refine hK3 _ ?_; clear hK3
          refine aw_reg0 fun K hK => ?_; simp (maxSteps := 1000000) (disch := omega) [-List.getD_eq_getElem?_getD]
          refine hK _ ?_; clear hK K
          refine ⟨(k + 1, out ++ [c]), ⟨by show k + 1 ≤ _; omega, hst⟩, by show u.length - (k + 1) < u.length - k; omega, ?_⟩
          refine weak_to [] [] ?_ ?_ ?_ ?_ (HO.toks (by simp)) ?_
          all_goals simp [nums_snoc, nums_snoc10]
        · have g1 : decide ((48 : Int) ≤ (c.toNat : Int)) = false := decide_eq_false (by omega)
          have g3 : ¬ 48 ≤ c.toNat := by omega
          refine aw_reg fun K hK => ?_; simp (maxSteps := 1000000) (disch := omega) [-List.getD_eq_getElem?_getD, g1]; refine hK _ ?_; clear hK K
          refine aw_if rfl (fun h => absurd h (by simp)) (fun h => ?_)
          by_cases h88 : c = 88
          · have x1 : ((c.toNat : Int) == 88) = true := sp_eq 88 (by decide) h88
            have x3 : ((c.toNat : Int) == 45) = false := by rw [h88]; decide
            have x4 : ((c.toNat : Int) == 32) = false := by rw [h88]; decide
            by_cases hl : k + 1 = u.length
            · have bl : ((k : Int) == (u.length : Int) - 1) = true := by rw [beq_iff_eq]; omega
              have hst : rrun u (k + 1) = some (out ++ [88]) := by
                rw [rrun, hrun]
                show rstep u out k = _
                unfold rstep
                rw [hgc, if_neg (by rw [hdig]; decide), if_pos ⟨by rw [h88]; decide, hl⟩]
              refine aw_reg fun K hK => ?_; simp (maxSteps := 1000000) (disch := omega) [-List.getD_eq_getElem?_getD, x1, bl]; refine hK _ ?_; clear hK K
              refine aw_if rfl (fun h => ?_) (fun h => absurd h (by simp))
              refine aw_reg0 fun K hK => ?_; simp (maxSteps := 1000000) (disch := omega) [-List.getD_eq_getElem?_getD, nums_snoc10]
              refine hK _ ?_; clear hK K
              refine hK3 _ ?_; clear hK3
              refine aw_reg0 fun K hK => ?_; simp (maxSteps := 1000000) (disch := omega) [-List.getD_eq_getElem?_getD]
              refine hK _ ?_; clear hK K
              refine ⟨(k + 1, out ++ [88]), ⟨by show k + 1 ≤ _; omega, hst⟩, by show u.length - (k + 1) < u.length - k; omega, ?_⟩
              refine weak_to [] [] ?_ ?_ ?_ ?_ (HO.toks (by simp)) ?_
              all_goals simp [nums_snoc, nums_snoc10]
            · have bl : ((k : Int) == (u.length : Int) - 1) = false := by rw [beq_eq_false_iff_ne]; omega
              have bl2 : ¬ (k : Int) = (u.length : Int) - 1 := by omega
              have hst : rrun u (k + 1) = none := by
                rw [rrun, hrun]
                show rstep u out k = _
                unfold rstep
                rw [hgc, if_neg (by rw [hdig]; decide), if_neg (fun h => hl h.2), if_neg (fun h => by rw [h88] at h; exact absurd h.1 (by decide))]
              refine aw_reg fun K hK => ?_; simp (maxSteps := 1000000) (disch := omega) [-List.getD_eq_getElem?_getD, x1, bl]; refine hK _ ?_; clear hK K
              refine aw_if rfl (fun h => absurd h (by simp)) (fun h => ?_)
              refine aw_reg fun K hK => ?_; simp (maxSteps := 1000000) (disch := omega) [-List.getD_eq_getElem?_getD, x3, x4]; refine hK _ ?_; clear hK K
              refine aw_if rfl (fun h => absurd h (by simp)) (fun h => ?_)
              refine aw_reg fun K hK => ?_; simp (maxSteps := 1000000) (disch := omega) [-List.getD_eq_getElem?_getD]; refine hK _ ?_; clear hK K
              refine aw_ret ?_; simp (maxSteps := 1000000) (disch := omega) [-List.getD_eq_getElem?_getD]
              have hn : rrun u u.length = none := rrun_none (k := k + 1) hst (by omega)
              exact ⟨rfl, .inr ⟨hn, _, _, rfl, rfl⟩⟩
          · have x1 : ((c.toNat : Int) == 88) = false := sp_ne 88 (by decide) h88
            by_cases h120 : c = 120
            · have x2 : ((c.toNat : Int) == 120) = true := sp_eq 120 (by decide) h120
              have x3 : ((c.toNat : Int) == 45) = false := by rw [h120]; decide
              have x4 : ((c.toNat : Int) == 32) = false := by rw [h120]; decide
              by_cases hl : k + 1 = u.length
              · have bl : ((k : Int) == (u.length : Int) - 1) = true := by rw [beq_iff_eq]; omega
                have hst : rrun u (k + 1) = some (out ++ [88]) := by
                  rw [rrun, hrun]
                  show rstep u out k = _
                  unfold rstep
                  rw [hgc, if_neg (by rw [hdig]; decide), if_pos ⟨by rw [h120]; decide, hl⟩]
                refine aw_reg fun K hK => ?_; simp (maxSteps := 1000000) (disch := omega) [-List.getD_eq_getElem?_getD, x1, x2, bl]; refine hK _ ?_; clear hK K
                refine aw_if rfl (fun h => ?_) (fun h => absurd h (by simp))
                refine aw_reg0 fun K hK => ?_; simp (maxSteps := 1000000) (disch := omega) [-List.getD_eq_getElem?_getD, nums_snoc10]
                refine hK _ ?_; clear hK K
                refine hK3 _ ?_; clear hK3
                refine aw_reg0 fun K hK => ?_; simp (maxSteps := 1000000) (disch := omega) [-List.getD_eq_getElem?_getD]
                refine hK _ ?_; clear hK K
                refine ⟨(k + 1, out ++ [88]), ⟨by show k + 1 ≤ _; omega, hst⟩, by show u.length - (k + 1) < u.length - k; omega, ?_⟩
                refine weak_to [] [] ?_ ?_ ?_ ?_ (HO.toks (by simp)) ?_
                all_goals simp [nums_snoc, nums_snoc10]
              · have bl : ((k : Int) == (u.length : Int) - 1) = false := by rw [beq_eq_false_iff_ne]; omega
                have bl2 : ¬ (k : Int) = (u.length : Int) - 1 := by omega
                have hst : rrun u (k + 1) = none := by
                  rw [rrun, hrun]
                  show rstep u out k = _
                  unfold rstep
                  rw [hgc, if_neg (by rw [hdig]; decide), if_neg (fun h => hl h.2), if_neg (fun h => by rw [h120] at h; exact absurd h.1 (by decide))]
                refine aw_reg fun K hK => ?_; simp (maxSteps := 1000000) (disch := omega) [-List.getD_eq_getElem?_getD, x1, x2, bl]; refine hK _ ?_; clear hK K
                refine aw_if rfl (fun h => absurd h (by simp)) (fun h => ?_)
                refine aw_reg fun K hK => ?_; simp (maxSteps := 1000000) (disch := omega) [-List.getD_eq_getElem?_getD, x3, x4]; refine hK _ ?_; clear hK K
                refine aw_if rfl (fun h => absurd h (by simp)) (fun h => ?_)
                refine aw_reg fun K hK => ?_; simp (maxSteps := 1000000) (disch := omega) [-List.getD_eq_getElem?_getD]; refine hK _ ?_; clear hK K
                refine aw_ret ?_; simp (maxSteps := 1000000) (disch := omega) [-List.getD_eq_getElem?_getD]
                have hn : rrun u u.length = none := rrun_none (k := k + 1) hst (by omega)
                exact ⟨rfl, .inr ⟨hn, _, _, rfl, rfl⟩⟩
            · have x2 : ((c.toNat : Int) == 120) = false := sp_ne 120 (by decide) h120
              have hnx : isX c = false := by simp [isX, h88, h120]
              have x1' : ¬ c.toNat = 88 := fun e => h88 (UInt8.toNat_inj.1 (by rw [e]; rfl))
              have x2' : ¬ c.toNat = 120 := fun e => h120 (UInt8.toNat_inj.1 (by rw [e]; rfl))
              refine aw_reg fun K hK => ?_; simp (maxSteps := 1000000) (disch := omega) [-List.getD_eq_getElem?_getD, x1, x2]; refine hK _ ?_; clear hK K
              refine aw_if rfl (fun h => absurd h (by simp)) (fun h => ?_)
              by_cases h45 : c = 45
              · have x3 : ((c.toNat : Int) == 45) = true := sp_eq 45 (by decide) h45
                by_cases hp : 0 < k
                · have bp : decide ((0 : Int) < (k : Int)) = true := decide_eq_true (by omega)
                  by_cases hl : k + 1 < u.length
                  · have bl : decide ((k : Int) < (u.length : Int) - 1) = true := decide_eq_true (by omega)
                    have bl2 : (k : Int) < (u.length : Int) - 1 := by omega
                    have ek : ((k : Int) - 1).toNat = k - 1 := by omega
                    generalize hgp : u.getD (k - 1) 0 = p at *
                    by_cases p45 : p = 45
                    · have y1 : ((p.toNat : Int) != 45) = false := by rw [p45]; decide
                      have hst : rrun u (k + 1) = none := by
                        rw [rrun, hrun]
                        show rstep u out k = _
                        unfold rstep
                        rw [hgc, if_neg (by rw [hdig]; decide), if_neg (fun h => by rw [hnx] at h; exact absurd h.1 (by decide)), hgp, if_neg (by rw [p45]; intro h; exact h.2.2.2 (by decide))]
                      refine aw_reg fun K hK => ?_; simp (maxSteps := 1000000) (disch := omega) [-List.getD_eq_getElem?_getD, x3, hp, bl2, ek, hgp, y1]; refine hK _ ?_; clear hK K
                      refine aw_if rfl (fun h => absurd h (by simp)) (fun h => ?_)
                      refine aw_reg fun K hK => ?_; simp (maxSteps := 1000000) (disch := omega) [-List.getD_eq_getElem?_getD]; refine hK _ ?_; clear hK K
                      refine aw_ret ?_; simp (maxSteps := 1000000) (disch := omega) [-List.getD_eq_getElem?_getD]
                      have hn : rrun u u.length = none := rrun_none (k := k + 1) hst (by omega)
                      exact ⟨rfl, .inr ⟨hn, _, _, rfl, rfl⟩⟩
                    · have y1 : ((p.toNat : Int) != 45) = true := bne_iff_ne.2 (fun e => p45 (UInt8.toNat_inj.1 (by rw [show p.toNat = 45 by omega]; rfl)))
                      have y1' : ¬ p.toNat = 45 := fun e => p45 (UInt8.toNat_inj.1 (by rw [e]; rfl))
                      by_cases p32 : p = 32
                      · have y2 : ((p.toNat : Int) != 32) = false := by rw [p32]; decide
                        have hst : rrun u (k + 1) = none := by
                          rw [rrun, hrun]
                          show rstep u out k = _
                          unfold rstep
                          rw [hgc, if_neg (by rw [hdig]; decide), if_neg (fun h => by rw [hnx] at h; exact absurd h.1 (by decide)), hgp, if_neg (by rw [p32]; intro h; exact h.2.2.2 (by decide))]
                        refine aw_reg fun K hK => ?_; simp (maxSteps := 1000000) (disch := omega) [-List.getD_eq_getElem?_getD, x3, hp, bl2, ek, hgp, y1, y2]; refine hK _ ?_; clear hK K
                        refine aw_if rfl (fun h => absurd h (by simp)) (fun h => ?_)
                        refine aw_reg fun K hK => ?_; simp (maxSteps := 1000000) (disch := omega) [-List.getD_eq_getElem?_getD]; refine hK _ ?_; clear hK K
                        refine aw_ret ?_; simp (maxSteps := 1000000) (disch := omega) [-List.getD_eq_getElem?_getD]
                        have hn : rrun u u.length = none := rrun_none (k := k + 1) hst (by omega)
                        exact ⟨rfl, .inr ⟨hn, _, _, rfl, rfl⟩⟩
                      · have y2 : ((p.toNat : Int) != 32) = true := bne_iff_ne.2 (fun e => p32 (UInt8.toNat_inj.1 (by rw [show p.toNat = 32 by omega]; rfl)))
                        have y2' : ¬ p.toNat = 32 := fun e => p32 (UInt8.toNat_inj.1 (by rw [e]; rfl))
                        have hst : rrun u (k + 1) = some out := by
                          rw [rrun, hrun]
                          show rstep u out k = _
                          unfold rstep
                          rw [hgc, if_neg (by rw [hdig]; decide), if_neg (fun h => by rw [hnx] at h; exact absurd h.1 (by decide)), hgp, if_pos ⟨by rw [h45]; decide, hp, hl, by simp [sep, p45, p32]⟩]
                        refine aw_reg fun K hK => ?_; simp (maxSteps := 1000000) (disch := omega) [-List.getD_eq_getElem?_getD, x3, hp, bl2, ek, hgp, y1, y2]; refine hK _ ?_; clear hK K
                        refine aw_if rfl (fun h => ?_) (fun h => absurd h (by simp))
                        refine aw_skip ?_; simp (maxSteps := 1000000) (disch := omega) [-List.getD_eq_getElem?_getD]
                        refine hK3 _ ?_; clear hK3
                        refine aw_reg0 fun K hK => ?_; simp (maxSteps := 1000000) (disch := omega) [-List.getD_eq_getElem?_getD]
                        refine hK _ ?_; clear hK K
                        refine ⟨(k + 1, out), ⟨by show k + 1 ≤ _; omega, hst⟩, by show u.length - (k + 1) < u.length - k; omega, ?_⟩
                        refine weak_to [] [] ?_ ?_ ?_ ?_ (HO.toks (by simp)) ?_
                        all_goals simp [nums_snoc, nums_snoc10]
                  · have bl : decide ((k : Int) < (u.length : Int) - 1) = false := decide_eq_false (by omega)
                    have bl2 : ¬ (k : Int) < (u.length : Int) - 1 := by omega
                    have hst : rrun u (k + 1) = none := by
                      rw [rrun, hrun]
                      show rstep u out k = _
                      unfold rstep
                      rw [hgc, if_neg (by rw [hdig]; decide), if_neg (fun h => by rw [hnx] at h; exact absurd h.1 (by decide)), if_neg (fun h => hl h.2.2.1)]
                    refine aw_reg fun K hK => ?_; simp (maxSteps := 1000000) (disch := omega) [-List.getD_eq_getElem?_getD, x3, hp, bl2]; refine hK _ ?_; clear hK K
                    refine aw_if rfl (fun h => absurd h (by simp)) (fun h => ?_)
                    refine aw_reg fun K hK => ?_; simp (maxSteps := 1000000) (disch := omega) [-List.getD_eq_getElem?_getD]; refine hK _ ?_; clear hK K
                    refine aw_ret ?_; simp (maxSteps := 1000000) (disch := omega) [-List.getD_eq_getElem?_getD]
                    have hn : rrun u u.length = none := rrun_none (k := k + 1) hst (by omega)
                    exact ⟨rfl, .inr ⟨hn, _, _, rfl, rfl⟩⟩
                · have bp : decide ((0 : Int) < (k : Int)) = false := decide_eq_false (by omega)
                  have hst : rrun u (k + 1) = none := by
                    rw [rrun, hrun]
                    show rstep u out k = _
                    unfold rstep
                    rw [hgc, if_neg (by rw [hdig]; decide), if_neg (fun h => by rw [hnx] at h; exact absurd h.1 (by decide)), if_neg (fun h => hp h.2.1)]
                  refine aw_reg fun K hK => ?_; simp (maxSteps := 1000000) (disch := omega) [-List.getD_eq_getElem?_getD, x3, hp]; refine hK _ ?_; clear hK K
                  refine aw_if rfl (fun h => absurd h (by simp)) (fun h => ?_)
                  refine aw_reg fun K hK => ?_; simp (maxSteps := 1000000) (disch := omega) [-List.getD_eq_getElem?_getD]; refine hK _ ?_; clear hK K
                  refine aw_ret ?_; simp (maxSteps := 1000000) (disch := omega) [-List.getD_eq_getElem?_getD]
                  have hn : rrun u u.length = none := rrun_none (k := k + 1) hst (by omega)
                  exact ⟨rfl, .inr ⟨hn, _, _, rfl, rfl⟩⟩
              · have x3 : ((c.toNat : Int) == 45) = false := sp_ne 45 (by decide) h45
                have x3' : ¬ c.toNat = 45 := fun e => h45 (UInt8.toNat_inj.1 (by rw [e]; rfl))
                by_cases h32 : c = 32
                · have x4 : ((c.toNat : Int) == 32) = true := sp_eq 32 (by decide) h32
                  by_cases hp : 0 < k
                  · have bp : decide ((0 : Int) < (k : Int)) = true := decide_eq_true (by omega)
                    by_cases hl : k + 1 < u.length
                    · have bl : decide ((k : Int) < (u.length : Int) - 1) = true := decide_eq_true (by omega)
                      have bl2 : (k : Int) < (u.length : Int) - 1 := by omega
                      have ek : ((k : Int) - 1).toNat = k - 1 := by omega
                      generalize hgp : u.getD (k - 1) 0 = p at *
                      by_cases p45 : p = 45
                      · have y1 : ((p.toNat : Int) != 45) = false := by rw [p45]; decide
                        have hst : rrun u (k + 1) = none := by
                          rw [rrun, hrun]
                          show rstep u out k = _
                          unfold rstep
                          rw [hgc, if_neg (by rw [hdig]; decide), if_neg (fun h => by rw [hnx] at h; exact absurd h.1 (by decide)), hgp, if_neg (by rw [p45]; intro h; exact h.2.2.2 (by decide))]
                        refine aw_reg fun K hK => ?_; simp (maxSteps := 1000000) (disch := omega) [-List.getD_eq_getElem?_getD, x3, x4, hp, bl2, ek, hgp, y1]; refine hK _ ?_; clear hK K
                        refine aw_if rfl (fun h => absurd h (by simp)) (fun h => ?_)
                        refine aw_reg fun K hK => ?_; simp (maxSteps := 1000000) (disch := omega) [-List.getD_eq_getElem?_getD]; refine hK _ ?_; clear hK K
                        refine aw_ret ?_; simp (maxSteps := 1000000) (disch := omega) [-List.getD_eq_getElem?_getD]
                        have hn : rrun u u.length = none := rrun_none (k := k + 1) hst (by omega)
                        exact ⟨rfl, .inr ⟨hn, _, _, rfl, rfl⟩⟩
                      · have y1 : ((p.toNat : Int) != 45) = true := bne_iff_ne.2 (fun e => p45 (UInt8.toNat_inj.1 (by rw [show p.toNat = 45 by omega]; rfl)))
                        have y1' : ¬ p.toNat = 45 := fun e => p45 (UInt8.toNat_inj.1 (by rw [e]; rfl))
                        by_cases p32 : p = 32
                        · have y2 : ((p.toNat : Int) != 32) = false := by rw [p32]; decide
                          have hst : rrun u (k + 1) = none := by
                            rw [rrun, hrun]
                            show rstep u out k = _
                            unfold rstep
                            rw [hgc, if_neg (by rw [hdig]; decide), if_neg (fun h => by rw [hnx] at h; exact absurd h.1 (by decide)), hgp, if_neg (by rw [p32]; intro h; exact h.2.2.2 (by decide))]
                          refine aw_reg fun K hK => ?_; simp (maxSteps := 1000000) (disch := omega) [-List.getD_eq_getElem?_getD, x3, x4, hp, bl2, ek, hgp, y1, y2]; refine hK _ ?_; clear hK K
                          refine aw_if rfl (fun h => absurd h (by simp)) (fun h => ?_)
                          refine aw_reg fun K hK => ?_; simp (maxSteps := 1000000) (disch := omega) [-List.getD_eq_getElem?_getD]; refine hK _ ?_; clear hK K
                          refine aw_ret ?_; simp (maxSteps := 1000000) (disch := omega) [-List.getD_eq_getElem?_getD]
                          have hn : rrun u u.length = none := rrun_none (k := k + 1) hst (by omega)
                          exact ⟨rfl, .inr ⟨hn, _, _, rfl, rfl⟩⟩
                        · have y2 : ((p.toNat : Int) != 32) = true := bne_iff_ne.2 (fun e => p32 (UInt8.toNat_inj.1 (by rw [show p.toNat = 32 by omega]; rfl)))
                          have y2' : ¬ p.toNat = 32 := fun e => p32 (UInt8.toNat_inj.1 (by rw [e]; rfl))
                          have hst : rrun u (k + 1) = some out := by
                            rw [rrun, hrun]
                            show rstep u out k = _
                            unfold rstep
                            rw [hgc, if_neg (by rw [hdig]; decide), if_neg (fun h => by rw [hnx] at h; exact absurd h.1 (by decide)), hgp, if_pos ⟨by rw [h32]; decide, hp, hl, by simp [sep, p45, p32]⟩]
                          refine aw_reg fun K hK => ?_; simp (maxSteps := 1000000) (disch := omega) [-List.getD_eq_getElem?_getD, x3, x4, hp, bl2, ek, hgp, y1, y2]; refine hK _ ?_; clear hK K
                          refine aw_if rfl (fun h => ?_) (fun h => absurd h (by simp))
                          refine aw_skip ?_; simp (maxSteps := 1000000) (disch := omega) [-List.getD_eq_getElem?_getD]
                          refine hK3 _ ?_; clear hK3
                          refine aw_reg0 fun K hK => ?_; simp (maxSteps := 1000000) (disch := omega) [-List.getD_eq_getElem?_getD]
                          refine hK _ ?_; clear hK K
                          refine ⟨(k + 1, out), ⟨by show k + 1 ≤ _; omega, hst⟩, by show u.length - (k + 1) < u.length - k; omega, ?_⟩
                          refine weak_to [] [] ?_ ?_ ?_ ?_ (HO.toks (by simp)) ?_
                          all_goals simp [nums_snoc, nums_snoc10]
                    · have bl : decide ((k : Int) < (u.length : Int) - 1) = false := decide_eq_false (by omega)
                      have bl2 : ¬ (k : Int) < (u.length : Int) - 1 := by omega
                      have hst : rrun u (k + 1) = none := by
                        rw [rrun, hrun]
                        show rstep u out k = _
                        unfold rstep
                        rw [hgc, if_neg (by rw [hdig]; decide), if_neg (fun h => by rw [hnx] at h; exact absurd h.1 (by decide)), if_neg (fun h => hl h.2.2.1)]
                      refine aw_reg fun K hK => ?_; simp (maxSteps := 1000000) (disch := omega) [-List.getD_eq_getElem?_getD, x3, x4, hp, bl2]; refine hK _ ?_; clear hK K
                      refine aw_if rfl (fun h => absurd h (by simp)) (fun h => ?_)
                      refine aw_reg fun K hK => ?_; simp (maxSteps := 1000000) (disch := omega) [-List.getD_eq_getElem?_getD]; refine hK _ ?_; clear hK K
                      refine aw_ret ?_; simp (maxSteps := 1000000) (disch := omega) [-List.getD_eq_getElem?_getD]
                      have hn : rrun u u.length = none := rrun_none (k := k + 1) hst (by omega)
                      exact ⟨rfl, .inr ⟨hn, _, _, rfl, rfl⟩⟩
                  · have bp : decide ((0 : Int) < (k : Int)) = false := decide_eq_false (by omega)
                    have hst : rrun u (k + 1) = none := by
                      rw [rrun, hrun]
                      show rstep u out k = _
                      unfold rstep
                      rw [hgc, if_neg (by rw [hdig]; decide), if_neg (fun h => by rw [hnx] at h; exact absurd h.1 (by decide)), if_neg (fun h => hp h.2.1)]
                    refine aw_reg fun K hK => ?_; simp (maxSteps := 1000000) (disch := omega) [-List.getD_eq_getElem?_getD, x3, x4, hp]; refine hK _ ?_; clear hK K
                    refine aw_if rfl (fun h => absurd h (by simp)) (fun h => ?_)
                    refine aw_reg fun K hK => ?_; simp (maxSteps := 1000000) (disch := omega) [-List.getD_eq_getElem?_getD]; refine hK _ ?_; clear hK K
                    refine aw_ret ?_; simp (maxSteps := 1000000) (disch := omega) [-List.getD_eq_getElem?_getD]
                    have hn : rrun u u.length = none := rrun_none (k := k + 1) hst (by omega)
                    exact ⟨rfl, .inr ⟨hn, _, _, rfl, rfl⟩⟩
                · have x4 : ((c.toNat : Int) == 32) = false := sp_ne 32 (by decide) h32
                  have x4' : ¬ c.toNat = 32 := fun e => h32 (UInt8.toNat_inj.1 (by rw [e]; rfl))
                  have hst : rrun u (k + 1) = none := by
                    rw [rrun, hrun]
                    show rstep u out k = _
                    unfold rstep
                    rw [hgc, if_neg (by rw [hdig]; decide), if_neg (fun h => by rw [hnx] at h; exact absurd h.1 (by decide)), if_neg (by simp [sep, h45, h32])]
                  refine aw_reg fun K hK => ?_; simp (maxSteps := 1000000) (disch := omega) [-List.getD_eq_getElem?_getD, x3, x4]; refine hK _ ?_; clear hK K
                  refine aw_if rfl (fun h => absurd h (by simp)) (fun h => ?_)
                  refine aw_reg fun K hK => ?_; simp (maxSteps := 1000000) (disch := omega) [-List.getD_eq_getElem?_getD]; refine hK _ ?_; clear hK K
                  refine aw_ret ?_; simp (maxSteps := 1000000) (disch := omega) [-List.getD_eq_getElem?_getD]
                  have hn : rrun u u.length = none := rrun_none (k := k + 1) hst (by omega)
                  exact ⟨rfl, .inr ⟨hn, _, _, rfl, rfl⟩⟩
        · have g1 : decide ((48 : Int) ≤ (c.toNat : Int)) = true := decide_eq_true (by omega)
          have g2 : decide ((c.toNat : Int) ≤ 57) = false := decide_eq_false (by omega)
          have g3 : ¬ c.toNat ≤ 57 := by omega
          refine aw_reg fun K hK => ?_; simp (maxSteps := 1000000) (disch := omega) [-List.getD_eq_getElem?_getD, g1, g2]; refine hK _ ?_; clear hK K
          refine aw_if rfl (fun h => absurd h (by simp)) (fun h => ?_)
          by_cases h88 : c = 88
          · have x1 : ((c.toNat : Int) == 88) = true := sp_eq 88 (by decide) h88
            have x3 : ((c.toNat : Int) == 45) = false := by rw [h88]; decide
            have x4 : ((c.toNat : Int) == 32) = false := by rw [h88]; decide
            by_cases hl : k + 1 = u.length
            · have bl : ((k : Int) == (u.length : Int) - 1) = true := by rw [beq_iff_eq]; omega
              have hst : rrun u (k + 1) = some (out ++ [88]) := by
                rw [rrun, hrun]
                show rstep u out k = _
                unfold rstep
                rw [hgc, if_neg (by rw [hdig]; decide), if_pos ⟨by rw [h88]; decide, hl⟩]
              refine aw_reg fun K hK => ?_; simp (maxSteps := 1000000) (disch := omega) [-List.getD_eq_getElem?_getD, x1, bl]; refine hK _ ?_; clear hK K
              refine aw_if rfl (fun h => ?_) (fun h => absurd h (by simp))
              refine aw_reg0 fun K hK => ?_; simp (maxSteps := 1000000) (disch := omega) [-List.getD_eq_getElem?_getD, nums_snoc10]
              refine hK _ ?_; clear hK K
              refine hK3 _ ?_; clear hK3
              refine aw_reg0 fun K hK => ?_; simp (maxSteps := 1000000) (disch := omega) [-List.getD_eq_getElem?_getD]
              refine hK _ ?_; clear hK K
              refine ⟨(k + 1, out ++ [88]), ⟨by show k + 1 ≤ _; omega, hst⟩, by show u.length - (k + 1) < u.length - k; omega, ?_⟩
              refine weak_to [] [] ?_ ?_ ?_ ?_ (HO.toks (by simp)) ?_
              all_goals simp [nums_snoc, nums_snoc10]
            · have bl : ((k : Int) == (u.length : Int) - 1) = false := by rw [beq_eq_false_iff_ne]; omega
              have bl2 : ¬ (k : Int) = (u.length : Int) - 1 := by omega
              have hst : rrun u (k + 1) = none := by
                rw [rrun, hrun]
                show rstep u out k = _
                unfold rstep
                rw [hgc, if_neg (by rw [hdig]; decide), if_neg (fun h => hl h.2), if_neg (fun h => by rw [h88] at h; exact absurd h.1 (by decide))]
              refine aw_reg fun K hK => ?_; simp (maxSteps := 1000000) (disch := omega) [-List.getD_eq_getElem?_getD, x1, bl]; refine hK _ ?_; clear hK K
              refine aw_if rfl (fun h => absurd h (by simp)) (fun h => ?_)
              refine aw_reg fun K hK => ?_; simp (maxSteps := 1000000) (disch := omega) [-List.getD_eq_getElem?_getD, x3, x4]; refine hK _ ?_; clear hK K
              refine aw_if rfl (fun h => absurd h (by simp)) (fun h => ?_)
              refine aw_reg fun K hK => ?_; simp (maxSteps := 1000000) (disch := omega) [-List.getD_eq_getElem?_getD]; refine hK _ ?_; clear hK K
              refine aw_ret ?_; simp (maxSteps := 1000000) (disch := omega) [-List.getD_eq_getElem?_getD]
              have hn : rrun u u.length = none := rrun_none (k := k + 1) hst (by omega)
              exact ⟨rfl, .inr ⟨hn, _, _, rfl, rfl⟩⟩
          · have x1 : ((c.toNat : Int) == 88) = false := sp_ne 88 (by decide) h88
            by_cases h120 : c = 120
            · have x2 : ((c.toNat : Int) == 120) = true := sp_eq 120 (by decide) h120
              have x3 : ((c.toNat : Int) == 45) = false := by rw [h120]; decide
              have x4 : ((c.toNat : Int) == 32) = false := by rw [h120]; decide
              by_cases hl : k + 1 = u.length
              · have bl : ((k : Int) == (u.length : Int) - 1) = true := by rw [beq_iff_eq]; omega
                have hst : rrun u (k + 1) = some (out ++ [88]) := by
                  rw [rrun, hrun]
                  show rstep u out k = _
                  unfold rstep
                  rw [hgc, if_neg (by rw [hdig]; decide), if_pos ⟨by rw [h120]; decide, hl⟩]
                refine aw_reg fun K hK => ?_; simp (maxSteps := 1000000) (disch := omega) [-List.getD_eq_getElem?_getD, x1, x2, bl]; refine hK _ ?_; clear hK K
                refine aw_if rfl (fun h => ?_) (fun h => absurd h (by simp))
                refine aw_reg0 fun K hK => ?_; simp (maxSteps := 1000000) (disch := omega) [-List.getD_eq_getElem?_getD, nums_snoc10]
                refine hK _ ?_; clear hK K
                refine hK3 _ ?_; clear hK3
                refine aw_reg0 fun K hK => ?_; simp (maxSteps := 1000000) (disch := omega) [-List.getD_eq_getElem?_getD]
                refine hK _ ?_; clear hK K
                refine ⟨(k + 1, out ++ [88]), ⟨by show k + 1 ≤ _; omega, hst⟩, by show u.length - (k + 1) < u.length - k; omega, ?_⟩
                refine weak_to [] [] ?_ ?_ ?_ ?_ (HO.toks (by simp)) ?_
                all_goals simp [nums_snoc, nums_snoc10]
              · have bl : ((k : Int) == (u.length : Int) - 1) = false := by rw [beq_eq_false_iff_ne]; omega
                have bl2 : ¬ (k : Int) = (u.length : Int) - 1 := by omega
                have hst : rrun u (k + 1) = none := by
                  rw [rrun, hrun]
                  show rstep u out k = _
                  unfold rstep
                  rw [hgc, if_neg (by rw [hdig]; decide), if_neg (fun h => hl h.2), if_neg (fun h => by rw [h120] at h; exact absurd h.1 (by decide))]
                refine aw_reg fun K hK => ?_; simp (maxSteps := 1000000) (disch := omega) [-List.getD_eq_getElem?_getD, x1, x2, bl]; refine hK _ ?_; clear hK K
                refine aw_if rfl (fun h => absurd h (by simp)) (fun h => ?_)
                refine aw_reg fun K hK => ?_; simp (maxSteps := 1000000) (disch := omega) [-List.getD_eq_getElem?_getD, x3, x4]; refine hK _ ?_; clear hK K
                refine aw_if rfl (fun h => absurd h (by simp)) (fun h => ?_)
                refine aw_reg fun K hK => ?_; simp (maxSteps := 1000000) (disch := omega) [-List.getD_eq_getElem?_getD]; refine hK _ ?_; clear hK K
                refine aw_ret ?_; simp (maxSteps := 1000000) (disch := omega) [-List.getD_eq_getElem?_getD]
                have hn : rrun u u.length = none := rrun_none (k := k + 1) hst (by omega)
                exact ⟨rfl, .inr ⟨hn, _, _, rfl, rfl⟩⟩
            · have x2 : ((c.toNat : Int) == 120) = false := sp_ne 120 (by decide) h120
              have hnx : isX c = false := by simp [isX, h88, h120]
              have x1' : ¬ c.toNat = 88 := fun e => h88 (UInt8.toNat_inj.1 (by rw [e]; rfl))
              have x2' : ¬ c.toNat = 120 := fun e => h120 (UInt8.toNat_inj.1 (by rw [e]; rfl))
              refine aw_reg fun K hK => ?_; simp (maxSteps := 1000000) (disch := omega) [-List.getD_eq_getElem?_getD, x1, x2]; refine hK _ ?_; clear hK K
              refine aw_if rfl (fun h => absurd h (by simp)) (fun h => ?_)
              by_cases h45 : c = 45
              · have x3 : ((c.toNat : Int) == 45) = true := sp_eq 45 (by decide) h45
                by_cases hp : 0 < k
                · have bp : decide ((0 : Int) < (k : Int)) = true := decide_eq_true (by omega)
                  by_cases hl : k + 1 < u.length
                  · have bl : decide ((k : Int) < (u.length : Int) - 1) = true := decide_eq_true (by omega)
                    have bl2 : (k : Int) < (u.length : Int) - 1 := by omega
                    have ek : ((k : Int) - 1).toNat = k - 1 := by omega
                    generalize hgp : u.getD (k - 1) 0 = p at *
                    by_cases p45 : p = 45
                    · have y1 : ((p.toNat : Int) != 45) = false := by rw [p45]; decide
                      have hst : rrun u (k + 1) = none := by
                        rw [rrun, hrun]
                        show rstep u out k = _
                        unfold rstep
                        rw [hgc, if_neg (by rw [hdig]; decide), if_neg (fun h => by rw [hnx] at h; exact absurd h.1 (by decide)), hgp, if_neg (by rw [p45]; intro h; exact h.2.2.2 (by decide))]
                      refine aw_reg fun K hK => ?_; simp (maxSteps := 1000000) (disch := omega) [-List.getD_eq_getElem?_getD, x3, hp, bl2, ek, hgp, y1]; refine hK _ ?_; clear hK K
                      refine aw_if rfl (fun h => absurd h (by simp)) (fun h => ?_)
                      refine aw_reg fun K hK => ?_; simp (maxSteps := 1000000) (disch := omega) [-List.getD_eq_getElem?_getD]; refine hK _ ?_; clear hK K
                      refine aw_ret ?_; simp (maxSteps := 1000000) (disch := omega) [-List.getD_eq_getElem?_getD]
                      have hn : rrun u u.length = none := rrun_none (k := k + 1) hst (by omega)
                      exact ⟨rfl, .inr ⟨hn, _, _, rfl, rfl⟩⟩
                    · have y1 : ((p.toNat : Int) != 45) = true := bne_iff_ne.2 (fun e => p45 (UInt8.toNat_inj.1 (by rw [show p.toNat = 45 by omega]; rfl)))
                      have y1' : ¬ p.toNat = 45 := fun e => p45 (UInt8.toNat_inj.1 (by rw [e]; rfl))
                      by_cases p32 : p = 32
                      · have y2 : ((p.toNat : Int) != 32) = false := by rw [p32]; decide
                        have hst : rrun u (k + 1) = none := by
                          rw [rrun, hrun]
                          show rstep u out k = _
                          unfold rstep
                          rw [hgc, if_neg (by rw [hdig]; decide), if_neg (fun h => by rw [hnx] at h; exact absurd h.1 (by decide)), hgp, if_neg (by rw [p32]; intro h; exact h.2.2.2 (by decide))]
                        refine aw_reg fun K hK => ?_; simp (maxSteps := 1000000) (disch := omega) [-List.getD_eq_getElem?_getD, x3, hp, bl2, ek, hgp, y1, y2]; refine hK _ ?_; clear hK K
                        refine aw_if rfl (fun h => absurd h (by simp)) (fun h => ?_)
                        refine aw_reg fun K hK => ?_; simp (maxSteps := 1000000) (disch := omega) [-List.getD_eq_getElem?_getD]; refine hK _ ?_; clear hK K
                        refine aw_ret ?_; simp (maxSteps := 1000000) (disch := omega) [-List.getD_eq_getElem?_getD]
                        have hn : rrun u u.length = none := rrun_none (k := k + 1) hst (by omega)
                        exact ⟨rfl, .inr ⟨hn, _, _, rfl, rfl⟩⟩
                      · have y2 : ((p.toNat : Int) != 32) = true := bne_iff_ne.2 (fun e => p32 (UInt8.toNat_inj.1 (by rw [show p.toNat = 32 by omega]; rfl)))
                        have y2' : ¬ p.toNat = 32 := fun e => p32 (UInt8.toNat_inj.1 (by rw [e]; rfl))
                        have hst : rrun u (k + 1) = some out := by
                          rw [rrun, hrun]
                          show rstep u out k = _
                          unfold rstep
                          rw [hgc, if_neg (by rw [hdig]; decide), if_neg (fun h => by rw [hnx] at h; exact absurd h.1 (by decide)), hgp, if_pos ⟨by rw [h45]; decide, hp, hl, by simp [sep, p45, p32]⟩]
                        refine aw_reg fun K hK => ?_; simp (maxSteps := 1000000) (disch := omega) [-List.getD_eq_getElem?_getD, x3, hp, bl2, ek, hgp, y1, y2]; refine hK _ ?_; clear hK K
                        refine aw_if rfl (fun h => ?_) (fun h => absurd h (by simp))
                        refine aw_skip ?_; simp (maxSteps := 1000000) (disch := omega) [-List.getD_eq_getElem?_getD]
                        refine hK3 _ ?_; clear hK3
                        refine aw_reg0 fun K hK => ?_; simp (maxSteps := 1000000) (disch := omega) [-List.getD_eq_getElem?_getD]
                        refine hK _ ?_; clear hK K
                        refine ⟨(k + 1, out), ⟨by show k + 1 ≤ _; omega, hst⟩, by show u.length - (k + 1) < u.length - k; omega, ?_⟩
                        refine weak_to [] [] ?_ ?_ ?_ ?_ (HO.toks (by simp)) ?_
                        all_goals simp [nums_snoc, nums_snoc10]
                  · have bl : decide ((k : Int) < (u.length : Int) - 1) = false := decide_eq_false (by omega)
                    have bl2 : ¬ (k : Int) < (u.length : Int) - 1 := by omega
                    have hst : rrun u (k + 1) = none := by
                      rw [rrun, hrun]
                      show rstep u out k = _
                      unfold rstep
                      rw [hgc, if_neg (by rw [hdig]; decide), if_neg (fun h => by rw [hnx] at h; exact absurd h.1 (by decide)), if_neg (fun h => hl h.2.2.1)]
                    refine aw_reg fun K hK => ?_; simp (maxSteps := 1000000) (disch := omega) [-List.getD_eq_getElem?_getD, x3, hp, bl2]; refine hK _ ?_; clear hK K
                    refine aw_if rfl (fun h => absurd h (by simp)) (fun h => ?_)
                    refine aw_reg fun K hK => ?_; simp (maxSteps := 1000000) (disch := omega) [-List.getD_eq_getElem?_getD]; refine hK _ ?_; clear hK K
                    refine aw_ret ?_; simp (maxSteps := 1000000) (disch := omega) [-List.getD_eq_getElem?_getD]
                    have hn : rrun u u.length = none := rrun_none (k := k + 1) hst (by omega)
                    exact ⟨rfl, .inr ⟨hn, _, _, rfl, rfl⟩⟩
                · have bp : decide ((0 : Int) < (k : Int)) = false := decide_eq_false (by omega)
                  have hst : rrun u (k + 1) = none := by
                    rw [rrun, hrun]
                    show rstep u out k = _
                    unfold rstep
                    rw [hgc, if_neg (by rw [hdig]; decide), if_neg (fun h => by rw [hnx] at h; exact absurd h.1 (by decide)), if_neg (fun h => hp h.2.1)]
                  refine aw_reg fun K hK => ?_; simp (maxSteps := 1000000) (disch := omega) [-List.getD_eq_getElem?_getD, x3, hp]; refine hK _ ?_; clear hK K
                  refine aw_if rfl (fun h => absurd h (by simp)) (fun h => ?_)
                  refine aw_reg fun K hK => ?_; simp (maxSteps := 1000000) (disch := omega) [-List.getD_eq_getElem?_getD]; refine hK _ ?_; clear hK K
                  refine aw_ret ?_; simp (maxSteps := 1000000) (disch := omega) [-List.getD_eq_getElem?_getD]
                  have hn : rrun u u.length = none := rrun_none (k := k + 1) hst (by omega)
                  exact ⟨rfl, .inr ⟨hn, _, _, rfl, rfl⟩⟩
              · have x3 : ((c.toNat : Int) == 45) = false := sp_ne 45 (by decide) h45
                have x3' : ¬ c.toNat = 45 := fun e => h45 (UInt8.toNat_inj.1 (by rw [e]; rfl))
                by_cases h32 : c = 32
                · have x4 : ((c.toNat : Int) == 32) = true := sp_eq 32 (by decide) h32
                  by_cases hp : 0 < k
                  · have bp : decide ((0 : Int) < (k : Int)) = true := decide_eq_true (by omega)
                    by_cases hl : k + 1 < u.length
                    · have bl : decide ((k : Int) < (u.length : Int) - 1) = true := decide_eq_true (by omega)
                      have bl2 : (k : Int) < (u.length : Int) - 1 := by omega
                      have ek : ((k : Int) - 1).toNat = k - 1 := by omega
                      generalize hgp : u.getD (k - 1) 0 = p at *
                      by_cases p45 : p = 45
                      · have y1 : ((p.toNat : Int) != 45) = false := by rw [p45]; decide
                        have hst : rrun u (k + 1) = none := by
                          rw [rrun, hrun]
                          show rstep u out k = _
                          unfold rstep
                          rw [hgc, if_neg (by rw [hdig]; decide), if_neg (fun h => by rw [hnx] at h; exact absurd h.1 (by decide)), hgp, if_neg (by rw [p45]; intro h; exact h.2.2.2 (by decide))]
                        refine aw_reg fun K hK => ?_; simp (maxSteps := 1000000) (disch := omega) [-List.getD_eq_getElem?_getD, x3, x4, hp, bl2, ek, hgp, y1]; refine hK _ ?_; clear hK K
                        refine aw_if rfl (fun h => absurd h (by simp)) (fun h => ?_)
                        refine aw_reg fun K hK => ?_; simp (maxSteps := 1000000) (disch := omega) [-List.getD_eq_getElem?_getD]; refine hK _ ?_; clear hK K
                        refine aw_ret ?_; simp (maxSteps := 1000000) (disch := omega) [-List.getD_eq_getElem?_getD]
                        have hn : rrun u u.length = none := rrun_none (k := k + 1) hst (by omega)
                        exact ⟨rfl, .inr ⟨hn, _, _, rfl, rfl⟩⟩
                      · have y1 : ((p.toNat : Int) != 45) = true := bne_iff_ne.2 (fun e => p45 (UInt8.toNat_inj.1 (by rw [show p.toNat = 45 by omega]; rfl)))
                        have y1' : ¬ p.toNat = 45 := fun e => p45 (UInt8.toNat_inj.1 (by rw [e]; rfl))
                        by_cases p32 : p = 32
                        · have y2 : ((p.toNat : Int) != 32) = false := by rw [p32]; decide
                          have hst : rrun u (k + 1) = none := by
                            rw [rrun, hrun]
                            show rstep u out k = _
                            unfold rstep
                            rw [hgc, if_neg (by rw [hdig]; decide), if_neg (fun h => by rw [hnx] at h; exact absurd h.1 (by decide)), hgp, if_neg (by rw [p32]; intro h; exact h.2.2.2 (by decide))]
                          refine aw_reg fun K hK => ?_; simp (maxSteps := 1000000) (disch := omega) [-List.getD_eq_getElem?_getD, x3, x4, hp, bl2, ek, hgp, y1, y2]; refine hK _ ?_; clear hK K
                          refine aw_if rfl (fun h => absurd h (by simp)) (fun h => ?_)
                          refine aw_reg fun K hK => ?_; simp (maxSteps := 1000000) (disch := omega) [-List.getD_eq_getElem?_getD]; refine hK _ ?_; clear hK K
                          refine aw_ret ?_; simp (maxSteps := 1000000) (disch := omega) [-List.getD_eq_getElem?_getD]
                          have hn : rrun u u.length = none := rrun_none (k := k + 1) hst (by omega)
                          exact ⟨rfl, .inr ⟨hn, _, _, rfl, rfl⟩⟩
                        · have y2 : ((p.toNat : Int) != 32) = true := bne_iff_ne.2 (fun e => p32 (UInt8.toNat_inj.1 (by rw [show p.toNat = 32 by omega]; rfl)))
                          have y2' : ¬ p.toNat = 32 := fun e => p32 (UInt8.toNat_inj.1 (by rw [e]; rfl))
                          have hst : rrun u (k + 1) = some out := by
                            rw [rrun, hrun]
                            show rstep u out k = _
                            unfold rstep
                            rw [hgc, if_neg (by rw [hdig]; decide), if_neg (fun h => by rw [hnx] at h; exact absurd h.1 (by decide)), hgp, if_pos ⟨by rw [h32]; decide, hp, hl, by simp [sep, p45, p32]⟩]
                          refine aw_reg fun K hK => ?_; simp (maxSteps := 1000000) (disch := omega) [-List.getD_eq_getElem?_getD, x3, x4, hp, bl2, ek, hgp, y1, y2]; refine hK _ ?_; clear hK K
                          refine aw_if rfl (fun h => ?_) (fun h => absurd h (by simp))
                          refine aw_skip ?_; simp (maxSteps := 1000000) (disch := omega) [-List.getD_eq_getElem?_getD]
                          refine hK3 _ ?_; clear hK3
                          refine aw_reg0 fun K hK => ?_; simp (maxSteps := 1000000) (disch := omega) [-List.getD_eq_getElem?_getD]
                          refine hK _ ?_; clear hK K
                          refine ⟨(k + 1, out), ⟨by show k + 1 ≤ _; omega, hst⟩, by show u.length - (k + 1) < u.length - k; omega, ?_⟩
                          refine weak_to [] [] ?_ ?_ ?_ ?_ (HO.toks (by simp)) ?_
                          all_goals simp [nums_snoc, nums_snoc10]
                    · have bl : decide ((k : Int) < (u.length : Int) - 1) = false := decide_eq_false (by omega)
                      have bl2 : ¬ (k : Int) < (u.length : Int) - 1 := by omega
                      have hst : rrun u (k + 1) = none := by
                        rw [rrun, hrun]
                        show rstep u out k = _
                        unfold rstep
                        rw [hgc, if_neg (by rw [hdig]; decide), if_neg (fun h => by rw [hnx] at h; exact absurd h.1 (by decide)), if_neg (fun h => hl h.2.2.1)]
                      refine aw_reg fun K hK => ?_; simp (maxSteps := 1000000) (disch := omega) [-List.getD_eq_getElem?_getD, x3, x4, hp, bl2]; refine hK _ ?_; clear hK K
                      refine aw_if rfl (fun h => absurd h (by simp)) (fun h => ?_)
                      refine aw_reg fun K hK => ?_; simp (maxSteps := 1000000) (disch := omega) [-List.getD_eq_getElem?_getD]; refine hK _ ?_; clear hK K
                      refine aw_ret ?_; simp (maxSteps := 1000000) (disch := omega) [-List.getD_eq_getElem?_getD]
                      have hn : rrun u u.length = none := rrun_none (k := k + 1) hst (by omega)
                      exact ⟨rfl, .inr ⟨hn, _, _, rfl, rfl⟩⟩
                  · have bp : decide ((0 : Int) < (k : Int)) = false := decide_eq_false (by omega)
                    have hst : rrun u (k + 1) = none := by
                      rw [rrun, hrun]
                      show rstep u out k = _
                      unfold rstep
                      rw [hgc, if_neg (by rw [hdig]; decide), if_neg (fun h => by rw [hnx] at h; exact absurd h.1 (by decide)), if_neg (fun h => hp h.2.1)]
                    refine aw_reg fun K hK => ?_; simp (maxSteps := 1000000) (disch := omega) [-List.getD_eq_getElem?_getD, x3, x4, hp]; refine hK _ ?_; clear hK K
                    refine aw_if rfl (fun h => absurd h (by simp)) (fun h => ?_)
                    refine aw_reg fun K hK => ?_; simp (maxSteps := 1000000) (disch := omega) [-List.getD_eq_getElem?_getD]; refine hK _ ?_; clear hK K
                    refine aw_ret ?_; simp (maxSteps := 1000000) (disch := omega) [-List.getD_eq_getElem?_getD]
                    have hn : rrun u u.length = none := rrun_none (k := k + 1) hst (by omega)
                    exact ⟨rfl, .inr ⟨hn, _, _, rfl, rfl⟩⟩
                · have x4 : ((c.toNat : Int) == 32) = false := sp_ne 32 (by decide) h32
                  have x4' : ¬ c.toNat = 32 := fun e => h32 (UInt8.toNat_inj.1 (by rw [e]; rfl))
                  have hst : rrun u (k + 1) = none := by
                    rw [rrun, hrun]
                    show rstep u out k = _
                    unfold rstep
                    rw [hgc, if_neg (by rw [hdig]; decide), if_neg (fun h => by rw [hnx] at h; exact absurd h.1 (by decide)), if_neg (by simp [sep, h45, h32])]
                  refine aw_reg fun K hK => ?_; simp (maxSteps := 1000000) (disch := omega) [-List.getD_eq_getElem?_getD, x3, x4]; refine hK _ ?_; clear hK K
                  refine aw_if rfl (fun h => absurd h (by simp)) (fun h => ?_)
                  refine aw_reg fun K hK => ?_; simp (maxSteps := 1000000) (disch := omega) [-List.getD_eq_getElem?_getD]; refine hK _ ?_; clear hK K
                  refine aw_ret ?_; simp (maxSteps := 1000000) (disch := omega) [-List.getD_eq_getElem?_getD]
                  have hn : rrun u u.length = none := rrun_none (k := k + 1) hst (by omega)
                  exact ⟨rfl, .inr ⟨hn, _, _, rfl, rfl⟩⟩
      · have hkl : k = u.length := by simp at hk; omega
        subst hkl
        refine aw_exit ?_; simp (maxSteps := 1000000) (disch := omega) [-List.getD_eq_getElem?_getD]
        refine hK1 _ ?_; clear hK1
        by_cases h0 : 0 < out.length
        · have b0 : decide ((0 : Int) < (out.length : Int)) = true := decide_eq_true (by omega)
          refine aw_reg fun K hK => ?_; simp (maxSteps := 1000000) (disch := omega) [-List.getD_eq_getElem?_getD, h0]; refine hK _ ?_; clear hK K
          refine aw_ret ?_; simp (maxSteps := 1000000) (disch := omega) [-List.getD_eq_getElem?_getD]
          exact ⟨rfl, .inl ⟨out, hrun, by rw [decide_eq_true h0], rfl⟩⟩
        · have b0 : decide ((0 : Int) < (out.length : Int)) = false := decide_eq_false (by omega)
          refine aw_reg fun K hK => ?_; simp (maxSteps := 1000000) (disch := omega) [-List.getD_eq_getElem?_getD, h0]; refine hK _ ?_; clear hK K
          refine aw_ret ?_; simp (maxSteps := 1000000) (disch := omega) [-List.getD_eq_getElem?_getD]
          exact ⟨rfl, .inl ⟨out, hrun, by rw [decide_eq_false h0], rfl⟩⟩
  clear hK1
  refine aw_reg fun K hK => ?_; simp (maxSteps := 1000000) (disch := omega) [-List.getD_eq_getElem?_getD]; refine hK _ ?_; clear hK K
  refine aw_block ?_
  refine aw_loop (X := Nat) (fun k => ⟨[(0, .str s), (4, .int .i64 (k : Nat))], H, T⟩) (fun k => k ≤ s.length ∧ ∀ j, j < k → ¬ (s.getD j 0 = 32 ∧ s.getD (j + 1) 0 = 40)) (fun k => s.length - k) 0 ?_ ?_ ?_
  · exact ⟨Nat.zero_le _, fun j hj => absurd hj (Nat.not_lt_zero _)⟩
  · refine weak_to [] [] ?_ ?_ ?_ ?_ HO ?_
    all_goals simp
  · rintro k ⟨hk0, hno⟩
    have hw1 : IntKind.i64.wrap ((k : Int) + 1) = (k : Int) + 1 := by rw [IntKind.wrap_i64]; omega
    refine aw_then fun K2 hK2 => ?_
    by_cases hk : k + 1 < s.length
    · have bk : decide ((k : Int) + 1 < (s.length : Int)) = true := decide_eq_true (by omega)
      have bk2 : (k : Int) + 1 < (s.length : Int) := by omega
      refine aw_reg fun K hK => ?_; simp (maxSteps := 1000000) (disch := omega) [-List.getD_eq_getElem?_getD, hw1, bk2]; refine hK _ ?_; clear hK K
      refine aw_if rfl (fun h => ?_) (fun h => absurd h (by simp))
      refine aw_skip ?_; simp (maxSteps := 1000000) (disch := omega) [-List.getD_eq_getElem?_getD]
      refine hK2 _ ?_; clear hK2
      refine aw_then fun K3 hK3 => ?_
      refine aw_block ?_
      have hkl : k < s.length := by omega
      by_cases a32 : s.getD k 0 = 32
      · by_cases a40 : s.getD (k + 1) 0 = 40
        · have hc := cut_find s k hno hk a32 a40
          refine aw_reg fun K hK => ?_; simp (maxSteps := 1000000) (disch := omega) [-List.getD_eq_getElem?_getD, hw1, hkl, a32, a40]; refine hK _ ?_; clear hK K
          refine aw_if rfl (fun h => ?_) (fun h => absurd h (by simp))
          refine aw_reg fun K hK => ?_; simp (maxSteps := 1000000) (disch := omega) [-List.getD_eq_getElem?_getD]; refine hK _ ?_; clear hK K
          refine aw_exit ?_; simp (maxSteps := 1000000) (disch := omega) [-List.getD_eq_getElem?_getD]
          exact key _ (by simp [hc])
        · have x2 : (((s.getD (k + 1) 0).toNat : Int) == 40) = false := sp_ne 40 (by decide) a40
          have x2' : ¬ (s.getD (k + 1) 0).toNat = 40 := fun e => a40 (UInt8.toNat_inj.1 (by rw [e]; rfl))
          refine aw_reg fun K hK => ?_; simp (maxSteps := 1000000) (disch := omega) [-List.getD_eq_getElem?_getD, hw1, hkl, a32, x2]; refine hK _ ?_; clear hK K
          refine aw_if rfl (fun h => absurd h (by simp)) (fun h => ?_)
          refine aw_skip ?_; simp (maxSteps := 1000000) (disch := omega) [-List.getD_eq_getElem?_getD]
          refine hK3 _ ?_; clear hK3
          refine aw_reg0 fun K hK => ?_; simp (maxSteps := 1000000) (disch := omega) [-List.getD_eq_getElem?_getD]
          refine hK _ ?_; clear hK K
          refine ⟨k + 1, ⟨by show k + 1 ≤ _; omega, fun j hj => ?_⟩, by show s.length - (k + 1) < s.length - k; omega, ?_⟩
          · by_cases e : j = k
            · rw [e]; exact fun h => a40 h.2
            · exact hno j (by omega)
          · refine weak_to [] [] ?_ ?_ ?_ ?_ HO ?_
            all_goals simp
      · have x2 : (((s.getD k 0).toNat : Int) == 32) = false := sp_ne 32 (by decide) a32
        have x2' : ¬ (s.getD k 0).toNat = 32 := fun e => a32 (UInt8.toNat_inj.1 (by rw [e]; rfl))
        refine aw_reg fun K hK => ?_; simp (maxSteps := 1000000) (disch := omega) [-List.getD_eq_getElem?_getD, hkl, x2]; refine hK _ ?_; clear hK K
        refine aw_if rfl (fun h => absurd h (by simp)) (fun h => ?_)
        refine aw_skip ?_; simp (maxSteps := 1000000) (disch := omega) [-List.getD_eq_getElem?_getD]
        refine hK3 _ ?_; clear hK3
        refine aw_reg0 fun K hK => ?_; simp (maxSteps := 1000000) (disch := omega) [-List.getD_eq_getElem?_getD]
        refine hK _ ?_; clear hK K
        refine ⟨k + 1, ⟨by show k + 1 ≤ _; omega, fun j hj => ?_⟩, by show s.length - (k + 1) < s.length - k; omega, ?_⟩
        · by_cases e : j = k
          · rw [e]; exact fun h => a32 h.1
          · exact hno j (by omega)
        · refine weak_to [] [] ?_ ?_ ?_ ?_ HO ?_
          all_goals simp
    · have bk : decide ((k : Int) + 1 < (s.length : Int)) = false := decide_eq_false (by omega)
      have bk2 : ¬ (k : Int) + 1 < (s.length : Int) := by omega
      have hc := cut_full s (fun j hj => hno j (by omega))
      refine aw_reg fun K hK => ?_; simp (maxSteps := 1000000) (disch := omega) [-List.getD_eq_getElem?_getD, hw1, bk2]; refine hK _ ?_; clear hK K
      refine aw_if rfl (fun h => absurd h (by simp)) (fun h => ?_)
      refine aw_exit ?_; simp (maxSteps := 1000000) (disch := omega) [-List.getD_eq_getElem?_getD]
      exact key _ (by simp [hc])
end Go.Proofs.Ytlemepdiegacbaa
