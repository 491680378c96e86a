/- PostingCode: the walk.
   Conditions: none. -/
import Derived.Test.YtlijaamjcpefoaaPDecR
import Derived.Test.YtlijaamjcpefoaaPEncR
import Derived.Test.YtlijaamjcpefoaaPArg
namespace Go.Proofs.Ytlijaamjcpefoaa
open Go Go.Am Post Wire
set_option linter.unusedVariables false

theorem Fw_enc {l : PL} (h1 : l.length ≤ 30) (h2 : ∀ p ∈ l, p.2.length ≤ 30) (hv : validL l = true) : (eL l).length ≤ 10000 := by
  obtain ⟨a1, a2, a3⟩ := validL_iff hv
  have key : ∀ (l : PL) (b : List UInt8) (d : Int), (∀ p ∈ l, (0 ≤ p.1 ∧ p.1 ≤ 1000000000) ∧ p.2.length ≤ 30 ∧ ∀ q ∈ p.2, 0 ≤ q ∧ q ≤ 1000000) → 0 ≤ d ∧ d ≤ 1000000000 → (l.foldl stL (b, d)).1.length ≤ b.length + 320 * l.length := by
    intro l
    induction l with
    | nil => intro b d _ _; simp
    | cons p l ih =>
      intro b d hl hd
      obtain ⟨g1, g2, g3⟩ := hl p (by simp)
      have e1 := enc_small (n := p.1 - d) (by omega) (by omega)
      have e2 := enc_small (n := (p.2.length : Int)) (by omega) (by omega)
      have e3 := (stP_len p.2 g3 (b ++ enc (p.1 - d) ++ enc p.2.length) (-1) (by omega)).1
      rw [List.length_append, List.length_append] at e3
      have := ih (p.2.foldl stP (b ++ enc (p.1 - d) ++ enc p.2.length, -1)).1 p.1 (fun q hq => hl q (by simp [hq])) (by omega)
      simp only [List.foldl_cons, List.length_cons]
      show ((l.foldl stL ((p.2.foldl stP (b ++ enc (p.1 - d) ++ enc p.2.length, -1)).1, p.1)).1).length ≤ _
      omega
  have := key l (enc (l.length : Int)) 0 (fun p hp => ⟨by have := a2 p hp; omega, h2 p hp, (a3 p hp).2.2⟩) (by omega)
  have e := enc_small (n := (l.length : Int)) (by omega) (by omega)
  unfold eL
  omega

theorem eL_long {l : PL} (hv : validL l = true) : l.length ≤ (eL l).length ∧ ∀ p ∈ l, p.2.length ≤ (eL l).length := by
  obtain ⟨a1, a2, a3⟩ := validL_iff hv
  have hpos : ∀ (l : PL) (d : Int), 0 ≤ d → Asc' l → (∀ p ∈ l, d < p.1 ∧ p.1 ≤ 1000000000 ∧ p.2 ≠ [] ∧ Asc p.2 ∧ ∀ q ∈ p.2, 0 ≤ q ∧ q ≤ 1000000) → l.length ≤ (ePosts d l).length ∧ ∀ p ∈ l, p.2.length ≤ (ePosts d l).length := by
    intro l
    induction l with
    | nil => intro d _ _ _; exact ⟨Nat.zero_le _, by simp⟩
    | cons p l ih =>
      intro d hd hs hl
      obtain ⟨h1, h2⟩ := asc'_tail hs
      obtain ⟨g1, g2, g4, g5, g6⟩ := hl p (by simp)
      obtain ⟨k1, k2⟩ := ih p.1 (by omega) h1 (fun y hy => ⟨h2 y hy, (hl y (by simp [hy])).2⟩)
      have e1 := enc_pos (p.1 - d) (by constructor <;> omega)
      have e2 := ePos_len p.2 (-1) (okPos_of (by omega) g5 fun x hx => ⟨by have := g6 x hx; omega, (g6 x hx).2⟩)
      rw [ePosts]
      simp only [List.length_append, List.length_cons]
      refine ⟨by omega, fun q hq => ?_⟩
      rcases List.mem_cons.1 hq with rfl | hq
      · omega
      · have := k2 q hq; omega
  have := hpos l 0 (by omega) a1 fun p hp => ⟨by have := a2 p hp; omega, (a2 p hp).2, (a3 p hp).1, (a3 p hp).2.1, (a3 p hp).2.2⟩
  rw [eL_eq, List.length_append]
  exact ⟨by omega, fun p hp => by have := this.2 p hp; omega⟩

theorem rInt_first {l : PL} (hv : l.length ≤ 1000) : (rInt (eL l) 0 (((eL l).length : Nat) : Int) ⟨0, false⟩).1 ≤ 1000 := by
  have hd : (eL l).drop 0 = enc (l.length : Int) ++ ePosts 0 l := by rw [List.drop_zero]; exact eL_eq l
  by_cases h : (l.length : Int) ≤ ((eL l).length : Nat)
  · have hr := (intCodec 0 (((eL l).length : Nat) : Int)).round (eL l) 0 _ (l.length : Int) ⟨by omega, h, by constructor <;> omega⟩ hd
    rw [hr]
    simp only
    omega
  · have := (rInt_bounds (eL l) 0 (((eL l).length : Nat) : Int) ⟨0, false⟩ (by omega) (by omega)).2
    omega

set_option maxHeartbeats 4000000 in
theorem pcode_ok (l : PL) (b : List UInt8) (hl : Sz l) (hb : b.length ≤ maxLen) : ACall Try.prog 10 [.sl l.length (psAV l) .none, .sl b.length (encB b) .none] [] [] (fun r _ _ => r = .bool true) := by
  have hml : maxLen ≤ 9223372036854775807 := by decide
  have hb' := Nat.le_trans hb hml
  have f1 := few_ok l hl.1 hl.2 [] [] .none
  refine acall_enter 17 [] Try.ntmps10 Try.func10 rfl (fun _ _ => Try.call10 _ _) (by simp) (fun HO => ?_)
  refine aw_reg fun K hK => ?_; simp (maxSteps := 1000000) (disch := omega) [-List.getD_eq_getElem?_getD]; refine hK _ ?_; clear hK K
  refine aw_then fun K1 hK1 => ?_
  refine aw_reg fun K hK => ?_; simp (maxSteps := 1000000) (disch := omega) [-List.getD_eq_getElem?_getD]
  refine acall_is (awake_ok _ _) ?_; simp (maxSteps := 1000000) (disch := omega) [-List.getD_eq_getElem?_getD]
  refine hK _ ?_; clear hK K
  refine aw_if rfl (fun h => absurd h (by simp)) (fun h => ?_)
  refine aw_skip ?_; simp (maxSteps := 1000000) (disch := omega) [-List.getD_eq_getElem?_getD]
  refine hK1 _ ?_; clear hK1
  refine aw_then fun K1 hK1 => ?_
  by_cases h1 : l.length ≤ 30 ∧ ∀ p ∈ l, p.2.length ≤ 30
  · rw [decide_eq_true h1] at f1
    by_cases h2 : 300 < b.length
    · have b1 : decide ((300 : Int) < (b.length : Int)) = true := by simp; omega
      refine aw_reg fun K hK => ?_; simp (maxSteps := 1000000) (disch := omega) [-List.getD_eq_getElem?_getD]
      refine acall_is (f1) ?_; simp (maxSteps := 1000000) (disch := omega) [-List.getD_eq_getElem?_getD, b1, h2]
      refine hK _ ?_; clear hK K
      refine aw_if rfl (fun h => ?_) (fun h => absurd h (by simp))
      refine aw_reg fun K hK => ?_; simp (maxSteps := 1000000) (disch := omega) [-List.getD_eq_getElem?_getD]; refine hK _ ?_; clear hK K
      refine aw_ret ?_; simp (maxSteps := 1000000) (disch := omega) [-List.getD_eq_getElem?_getD]
    · have b1 : decide ((300 : Int) < (b.length : Int)) = false := by simp; omega
      refine aw_reg fun K hK => ?_; simp (maxSteps := 1000000) (disch := omega) [-List.getD_eq_getElem?_getD]
      refine acall_is (f1) ?_; simp (maxSteps := 1000000) (disch := omega) [-List.getD_eq_getElem?_getD, b1, h2]
      refine hK _ ?_; clear hK K
      refine aw_if rfl (fun h => absurd h (by simp)) (fun h => ?_)
      refine aw_skip ?_; simp (maxSteps := 1000000) (disch := omega) [-List.getD_eq_getElem?_getD]
      refine hK1 _ ?_; clear hK1
      obtain ⟨p1, p2⟩ := h1
      have c1 := ownP_ok l (by omega) [] [] .none
      have c2 := encode_ok l (by omega) (fun p hp => Nat.le_trans (p2 p hp) (by decide)) [] [] .none
      have c3 := encodeR_ok l (by omega) (fun p hp => Nat.le_trans (p2 p hp) (by decide)) [] [] .none
      have c4 := sameB_ok (encR l).1 (encR l).1 [] [] .none .none
      rw [beq_self_eq_true] at c4
      -- the second part: any bytes
      have hN : (rInt b 0 ((b.length : Nat) : Int) ⟨0, false⟩).1 ≤ 1000 := by have := (rInt_bounds b 0 ((b.length : Nat) : Int) ⟨0, false⟩ (by omega) (by omega)).2; omega
      have d1 := decode_ok b (by omega) hN [] [] .none
      have d2 := decodeR_ok b (by omega) [] [] .none
      have hM1 : ∀ s, limP b s ≤ 1000000000 := fun s => by have := limP_le b (by omega) s; omega
      have hM2 : ∀ s, limR s ≤ 1000000000 := fun s => by unfold limR; omega
      have hu : (∃ u, dec b (limNP b) (limP b) = (u, 0) ∧ dec b limNR limR = (u, 0) ∧ validL u = true ∧ b = eL u) ∨ (dec b (limNP b) (limP b) = ([], 5) ∧ dec b limNR limR = ([], 5)) := by
        have hP : ∀ u, validL u = true → b = eL u → dec b (limNP b) (limP b) = (u, 0) := fun u hv e => by
          obtain ⟨k1, k2⟩ := eL_long hv
          rw [e]
          refine dec_valid hv (by rw [← e] at k1; omega) (fun p hp => by have := k2 p hp; rw [← e] at this; omega) (by unfold limNP; simp only; omega) (fun s k hk => by unfold limP; omega)
        have hR : ∀ u, validL u = true → b = eL u → dec b limNR limR = (u, 0) := fun u hv e => by
          obtain ⟨k1, k2⟩ := eL_long hv
          rw [e]
          refine dec_valid hv (by rw [← e] at k1; omega) (fun p hp => by have := k2 p hp; rw [← e] at this; omega) (by rw [← e] at k1; unfold limNR; omega) (fun s k hk => by rw [← e] at hk; unfold limR; omega)
        rcases dec_inv (bs := b) (limN := limNP b) hM1 with ⟨u, e1, e2, e3⟩ | e1
        · exact .inl ⟨u, e1, hR u e2 e3, e2, e3⟩
        · rcases dec_inv (bs := b) (limN := limNR) hM2 with ⟨u, g1, g2, g3⟩ | g1
          · rw [hP u g2 g3] at e1
            have := congrArg Prod.snd e1
            simp at this
          · exact .inr ⟨e1, g1⟩
      refine aw_reg fun K hK => ?_; simp (maxSteps := 1000000) (disch := omega) [-List.getD_eq_getElem?_getD]
      refine acall_is (c1) ?_; simp (maxSteps := 1000000) (disch := omega) [-List.getD_eq_getElem?_getD]
      refine acall_is (c2) ?_; simp (maxSteps := 1000000) (disch := omega) [-List.getD_eq_getElem?_getD]
      refine hK _ ?_; clear hK K
      refine aw_reg fun K hK => ?_; simp (maxSteps := 1000000) (disch := omega) [-List.getD_eq_getElem?_getD]
      refine acall_is (c3) ?_; simp (maxSteps := 1000000) (disch := omega) [-List.getD_eq_getElem?_getD]
      refine hK _ ?_; clear hK K
      refine aw_then fun K1 hK1 => ?_
      refine aw_reg fun K hK => ?_; simp (maxSteps := 1000000) (disch := omega) [-List.getD_eq_getElem?_getD]
      refine acall_is (c4) ?_; simp (maxSteps := 1000000) (disch := omega) [-List.getD_eq_getElem?_getD]
      refine hK _ ?_; clear hK K
      refine aw_if rfl (fun h => absurd h (by simp)) (fun h => ?_)
      refine aw_skip ?_; simp (maxSteps := 1000000) (disch := omega) [-List.getD_eq_getElem?_getD]
      refine hK1 _ ?_; clear hK1
      refine aw_then fun K3 hK3 => ?_
      have tail : ∀ e, envLe 0 0 e [(1, .sl b.length (encB b) .none)] → K3 ⟨e, [], []⟩ := fun e he => by
        refine hK3 _ (aw_weak ⟨[(1, .sl b.length (encB b) .none)], [], []⟩ (weak_to [] [] (by simp) (by simp) (by simp) (by simp) HO he) ?_)
        rcases hu with ⟨u, e1, e2, e3, e4⟩ | ⟨e1, e2⟩
        · rw [e1] at d1
          rw [e2] at d2
          obtain ⟨k1, k2⟩ := eL_long e3
          rw [← e4] at k1 k2
          have s1 := same_ok u u (by omega) (by omega) (fun p hp => Nat.le_trans (k2 p hp) (by omega)) (fun p hp => Nat.le_trans (k2 p hp) (by omega)) [] [] .none .none
          rw [decide_eq_true rfl] at s1
          have s2 := encode_ok u (by omega) (fun p hp => by have := k2 p hp; omega) [] [] .none
          have hr : encR u = (b, 0) := by unfold encR; rw [if_pos e3, ← e4]
          rw [hr] at s2
          have s3 := sameB_ok b b [] [] .none .none
          rw [beq_self_eq_true] at s3
          refine aw_reg fun K hK => ?_; simp (maxSteps := 1000000) (disch := omega) [-List.getD_eq_getElem?_getD]
          refine acall_is (d1) ?_; simp (maxSteps := 1000000) (disch := omega) [-List.getD_eq_getElem?_getD]
          refine hK _ ?_; clear hK K
          refine aw_reg fun K hK => ?_; simp (maxSteps := 1000000) (disch := omega) [-List.getD_eq_getElem?_getD]
          refine acall_is (d2) ?_; simp (maxSteps := 1000000) (disch := omega) [-List.getD_eq_getElem?_getD]
          refine hK _ ?_; clear hK K
          refine aw_then fun K1 hK1 => ?_
          refine aw_reg fun K hK => ?_; simp (maxSteps := 1000000) (disch := omega) [-List.getD_eq_getElem?_getD]
          refine acall_is (s1) ?_; simp (maxSteps := 1000000) (disch := omega) [-List.getD_eq_getElem?_getD]
          refine hK _ ?_; clear hK K
          refine aw_if rfl (fun h => absurd h (by simp)) (fun h => ?_)
          refine aw_skip ?_; simp (maxSteps := 1000000) (disch := omega) [-List.getD_eq_getElem?_getD]
          refine hK1 _ ?_; clear hK1
          refine aw_reg fun K hK => ?_; simp (maxSteps := 1000000) (disch := omega) [-List.getD_eq_getElem?_getD]
          refine acall_is (s2) ?_; simp (maxSteps := 1000000) (disch := omega) [-List.getD_eq_getElem?_getD]
          refine hK _ ?_; clear hK K
          refine aw_reg fun K hK => ?_; simp (maxSteps := 1000000) (disch := omega) [-List.getD_eq_getElem?_getD]
          refine acall_is (s3) ?_; simp (maxSteps := 1000000) (disch := omega) [-List.getD_eq_getElem?_getD]
          refine hK _ ?_; clear hK K
          refine aw_ret ?_; simp (maxSteps := 1000000) (disch := omega) [-List.getD_eq_getElem?_getD]
        · rw [e1] at d1
          rw [e2] at d2
          have s1 := same_ok [] [] (by simp) (by simp) (by simp) (by simp) [] [] .none .none
          rw [decide_eq_true rfl] at s1
          have s2 := encode_ok [] (by simp) (by simp) [] [] .none
          generalize encR [] = er at *
          refine aw_reg fun K hK => ?_; simp (maxSteps := 1000000) (disch := omega) [-List.getD_eq_getElem?_getD]
          refine acall_is (d1) ?_; simp (maxSteps := 1000000) (disch := omega) [-List.getD_eq_getElem?_getD]
          refine hK _ ?_; clear hK K
          refine aw_reg fun K hK => ?_; simp (maxSteps := 1000000) (disch := omega) [-List.getD_eq_getElem?_getD]
          refine acall_is (d2) ?_; simp (maxSteps := 1000000) (disch := omega) [-List.getD_eq_getElem?_getD]
          refine hK _ ?_; clear hK K
          refine aw_then fun K1 hK1 => ?_
          refine aw_reg fun K hK => ?_; simp (maxSteps := 1000000) (disch := omega) [-List.getD_eq_getElem?_getD]
          refine acall_is (s1) ?_; simp (maxSteps := 1000000) (disch := omega) [-List.getD_eq_getElem?_getD]
          refine hK _ ?_; clear hK K
          refine aw_if rfl (fun h => absurd h (by simp)) (fun h => ?_)
          refine aw_skip ?_; simp (maxSteps := 1000000) (disch := omega) [-List.getD_eq_getElem?_getD]
          refine hK1 _ ?_; clear hK1
          refine aw_reg fun K hK => ?_; simp (maxSteps := 1000000) (disch := omega) [-List.getD_eq_getElem?_getD]
          refine acall_is (s2) ?_; simp (maxSteps := 1000000) (disch := omega) [-List.getD_eq_getElem?_getD]
          refine hK _ ?_; clear hK K
          refine aw_reg fun K hK => ?_; simp (maxSteps := 1000000) (disch := omega) [-List.getD_eq_getElem?_getD]; refine hK _ ?_; clear hK K
          refine aw_ret ?_; simp (maxSteps := 1000000) (disch := omega) [-List.getD_eq_getElem?_getD]
      clear hK3
      cases hv : validL l with
      | true =>
        have hr : encR l = (eL l, 0) := by unfold encR; rw [if_pos hv]
        have hle := Fw_enc p1 p2 hv
        obtain ⟨k1, k2⟩ := eL_long hv
        have g1 := decode_ok (eL l) hle (rInt_first (by omega)) [] [] .none
        have hdl : dec (eL l) (limNP (eL l)) (limP (eL l)) = (l, 0) := dec_valid hv (by omega) (fun p hp => by have := p2 p hp; omega) (by unfold limNP; simp only; omega) (fun s k hk => by unfold limP; omega)
        rw [hdl] at g1
        have g2 := same_ok l l (by omega) (by omega) (fun p hp => Nat.le_trans (p2 p hp) (by decide)) (fun p hp => Nat.le_trans (p2 p hp) (by decide)) [] [] .none .none
        rw [decide_eq_true rfl] at g2
        rw [hr]
        refine aw_reg fun K hK => ?_; simp (maxSteps := 1000000) (disch := omega) [-List.getD_eq_getElem?_getD]
        refine acall_is (g1) ?_; simp (maxSteps := 1000000) (disch := omega) [-List.getD_eq_getElem?_getD]
        refine hK _ ?_; clear hK K
        refine aw_reg fun K hK => ?_; simp (maxSteps := 1000000) (disch := omega) [-List.getD_eq_getElem?_getD]
        refine acall_is (g2) ?_; simp (maxSteps := 1000000) (disch := omega) [-List.getD_eq_getElem?_getD]
        refine hK _ ?_; clear hK K
        refine aw_if rfl (fun h => absurd h (by simp)) (fun h => ?_)
        refine aw_skip ?_; simp (maxSteps := 1000000) (disch := omega) [-List.getD_eq_getElem?_getD]
        exact tail _ (by simp)
      | false =>
        have hr : encR l = ([], 1) := by unfold encR; rw [hv]; rfl
        have g1 := decode_ok [] (by simp) (by have := (rInt_bounds [] 0 ((([] : List UInt8).length : Nat) : Int) ⟨0, false⟩ (by simp) (by omega)).2; simp at this ⊢; omega) [] [] .none
        generalize dec [] (limNP []) (limP []) = D at *
        rw [hr]
        refine aw_reg fun K hK => ?_; simp (maxSteps := 1000000) (disch := omega) [-List.getD_eq_getElem?_getD]
        refine acall_is (g1) ?_; simp (maxSteps := 1000000) (disch := omega) [-List.getD_eq_getElem?_getD]
        refine hK _ ?_; clear hK K
        refine aw_reg fun K hK => ?_; simp (maxSteps := 1000000) (disch := omega) [-List.getD_eq_getElem?_getD]; refine hK _ ?_; clear hK K
        refine aw_if rfl (fun h => absurd h (by simp)) (fun h => ?_)
        refine aw_skip ?_; simp (maxSteps := 1000000) (disch := omega) [-List.getD_eq_getElem?_getD]
        exact tail _ (by simp)
  · rw [decide_eq_false h1] at f1
    refine aw_reg fun K hK => ?_; simp (maxSteps := 1000000) (disch := omega) [-List.getD_eq_getElem?_getD]
    refine acall_is (f1) ?_; simp (maxSteps := 1000000) (disch := omega) [-List.getD_eq_getElem?_getD]
    refine hK _ ?_; clear hK K
    refine aw_if rfl (fun h => ?_) (fun h => absurd h (by simp))
    refine aw_reg fun K hK => ?_; simp (maxSteps := 1000000) (disch := omega) [-List.getD_eq_getElem?_getD]; refine hK _ ?_; clear hK K
    refine aw_ret ?_; simp (maxSteps := 1000000) (disch := omega) [-List.getD_eq_getElem?_getD]
end Go.Proofs.Ytlijaamjcpefoaa
