/- Encode of the reference of layer 38.
   Conditions: lengths below 400. -/
import Derived.Test.YtlijaamjcpefoaaPEnc
namespace Go.Proofs.Ytlijaamjcpefoaa
open Go Go.Am Post Wire
set_option linter.unusedVariables false

theorem lo_eq (u : Nat) : (u : Int) % 128 = ((lo7 u).toNat : Int) := by rw [toNat_lo7]; omega
theorem hi_eq (u : Nat) : (u : Int) % 128 + 128 = ((hi7 u).toNat : Int) := by rw [toNat_hi7]; omega
theorem tmod128' (u : Nat) : (u : Int).tmod 128 = (u : Int) % 128 := by rw [Int.tmod_eq_emod_of_nonneg (by omega)]
theorem tdiv128' (u : Nat) : (u : Int).tdiv 128 = ((u / 128 : Nat) : Int) := by rw [Int.tdiv_eq_ediv_of_nonneg (by omega)]; omega

theorem encB_cons1 (c : UInt8) (l : List UInt8) : encB (c :: l) = .int .u8 (c.toNat : Int) :: encB l := rfl
theorem encHi_len' (u : Nat) (h : u < 18446744073709551616) : (encHi u).length ≤ 10 := encHi_len 10 u (by omega)

set_option maxRecDepth 100000 in
theorem intR_own (n : Int) (h1 : -9223372036854775808 ≤ n) (h2 : n ≤ 9223372036854775807) (H : List Blk) (T : Toks) :
    ACall Try.prog 78 [.int .i64 n] H T (fun r H' T' => H' = H ∧ ∃ TT, T' = T ++ TT ++ [((enc n).length, 1)] ∧ r = .sl (enc n).length (encB (enc n)) (.own (T ++ TT).length)) := by
  have c1 := folded_ok n h1 h2 H T
  have hu := fo_lt h1 h2
  have henc : enc n = encN (fo n) := rfl
  have hel := (encN_len hu).2
  generalize fo n = U at *
  refine acall_enter 5 [] Try.ntmps78 Try.func78 rfl (fun _ _ => Try.call78 _ _) (by simp) (fun HO => ?_)
  refine aw_reg fun K hK => ?_; simp (maxSteps := 1000000) (disch := omega) [-List.getD_eq_getElem?_getD]; refine hK _ ?_; clear hK K
  refine aw_reg fun K hK => ?_; simp (maxSteps := 1000000) (disch := omega) [-List.getD_eq_getElem?_getD]
  refine acall_is (c1) ?_; simp (maxSteps := 1000000) (disch := omega) [-List.getD_eq_getElem?_getD]
  refine hK _ ?_; clear hK K
  have hlo := lo_eq U
  have htm := tmod128' U
  have htd := tdiv128' U
  refine aw_reg fun K hK => ?_; simp (maxSteps := 1000000) (disch := omega) [-List.getD_eq_getElem?_getD, hlo, htm]; refine hK _ ?_; clear hK K
  refine aw_then fun K1 hK1 => ?_
  refine aw_reg fun K hK => ?_; simp (maxSteps := 1000000) (disch := omega) [-List.getD_eq_getElem?_getD, htd]; refine hK _ ?_; clear hK K
  refine aw_block ?_
  refine aw_own 4 1 1 [.int .u8 ((lo7 U).toNat : Int)] (by omega) (by simp) ?_
  refine aw_loop (X := Nat × List UInt8 × Toks) (fun x => ⟨[(3, .int .u64 (x.1 : Nat)), (4, .sl x.2.1.length (encB x.2.1) (.own (T ++ x.2.2).length))], H, T ++ x.2.2 ++ [(x.2.1.length, 1)]⟩) (fun x => encHi x.1 ++ x.2.1 = encN U ∧ x.1 < 18446744073709551616 ∧ 0 < x.2.1.length) (fun x => x.1) (U / 128, [lo7 U], []) ?_ ?_ ?_
  · exact ⟨rfl, by simp only; omega, by simp⟩
  · refine weak_to [] [] ?_ ?_ ?_ ?_ (HO.toks (by simp)) ?_
    all_goals simp [encB]
  · rintro ⟨u, out, TT⟩ ⟨g1, g2, hol0⟩
    simp only at g1 g2 hol0
    have hol : out.length ≤ 10 := by
      have := congrArg List.length g1
      rw [List.length_append] at this
      omega
    have HO2 : HOk H (T ++ TT ++ [(out.length, 1)]) := HO.toks (by simp)
    have htl : (T ++ TT).length = T.length + TT.length := List.length_append
    refine aw_then fun K2 hK2 => ?_
    refine aw_reg fun K hK => ?_; simp (maxSteps := 1000000) (disch := omega) [-List.getD_eq_getElem?_getD]; refine hK _ ?_; clear hK K
    refine aw_if rfl (fun hk => ?_) (fun hk => ?_)
    · have hpos : 0 < u := by simpa using hk
      have hhi := encHi_pos hpos
      have e1 := lo_eq u
      have e2 := hi_eq u
      have e3 := tmod128' u
      have e4 := tdiv128' u
      refine aw_skip ?_; simp (maxSteps := 1000000) (disch := omega) [-List.getD_eq_getElem?_getD]
      refine hK2 _ ?_; clear hK2
      refine aw_then fun K3 hK3 => ?_
      refine aw_block ?_
      refine aw_reg0 fun K hK => ?_; simp (maxSteps := 1000000) (disch := omega) [-List.getD_eq_getElem?_getD, e3]
      rw [e2]
      refine hK _ ?_; clear hK K
      refine hK3 _ ?_; clear hK3
      refine aw_reg0 fun K hK => ?_; simp (maxSteps := 1000000) (disch := omega) [-List.getD_eq_getElem?_getD, e4]
      refine hK _ ?_; clear hK K
      refine ⟨(u / 128, hi7 u :: out, TT ++ [(out.length, 1)]), ⟨by rw [← g1, hhi]; simp, by show u / 128 < _; omega, by simp⟩, by show u / 128 < u; omega, ?_⟩
      refine weak_to [] [] ?_ ?_ ?_ ?_ (HO.toks (by simp)) ?_
      all_goals simp [encB_cons1, Nat.add_comm]
    · have h0 : u = 0 := by
        have : ¬ 0 < u := by simpa using hk
        omega
      subst h0
      rw [encHi_zero, List.nil_append] at g1
      refine aw_exit ?_; simp (maxSteps := 1000000) (disch := omega) [-List.getD_eq_getElem?_getD]
      refine hK1 _ ?_; clear hK1
      refine aw_reg fun K hK => ?_; simp (maxSteps := 1000000) (disch := omega) [-List.getD_eq_getElem?_getD]; refine hK _ ?_; clear hK K
      refine aw_ret ?_; simp (maxSteps := 1000000) (disch := omega) [-List.getD_eq_getElem?_getD]
      rw [henc, g1]
      exact ⟨TT, ⟨rfl, rfl⟩, rfl, rfl, rfl⟩

theorem intR_ok (n : Int) (h1 : -9223372036854775808 ≤ n) (h2 : n ≤ 9223372036854775807) (H : List Blk) (T : Toks) :
    ACall Try.prog 78 [.int .i64 n] H T (Is (.sl (enc n).length (encB (enc n)) .none) H T) := by
  refine ACall.drop' (ACall.mono (intR_own n h1 h2 H T) ?_) (by simp)
  rintro r H' T' ⟨rfl, TT, rfl, rfl⟩
  exact ⟨⟨[], by simp⟩, ⟨TT ++ [((enc n).length, 1)], by simp⟩, .inr rfl⟩

set_option maxRecDepth 100000 in
set_option maxHeartbeats 2000000 in
theorem encodeR_ok (l : PL) (hl : l.length ≤ 400) (hp : ∀ p ∈ l, p.2.length ≤ 400) (H : List Blk) (T : Toks) (tg : Tag) :
    ACall Try.prog 45 [.sl l.length (psAV l) tg] H T (Is (.tup [.sl (encR l).1.length (encB (encR l).1) .none, .int .i64 (encR l).2]) H T) := by
  refine ACall.untag1 ?_
  refine ACall.dropT ?_ (by simp)
  have hml : 400 ≤ maxLen := by decide
  have c1 := validR_ok l (by omega) (fun p h => Nat.le_trans (hp p h) hml) H T .none
  refine acall_enter 9 [] Try.ntmps45 Try.func45 rfl (fun _ _ => Try.call45 _ _) (by simp) (fun HO => ?_)
  refine aw_reg fun K hK => ?_; simp (maxSteps := 1000000) (disch := omega) [-List.getD_eq_getElem?_getD]; refine hK _ ?_; clear hK K
  refine aw_then fun K1 hK1 => ?_
  cases hv : validL l with
  | false =>
    rw [hv] at c1
    have hr : encR l = ([], 1) := by unfold encR; rw [hv]; rfl
    refine aw_reg fun K hK => ?_; simp (maxSteps := 1000000) (disch := omega) [-List.getD_eq_getElem?_getD]
    refine acall_is (c1) ?_; simp (maxSteps := 1000000) (disch := omega) [-List.getD_eq_getElem?_getD]
    refine hK _ ?_; clear hK K
    refine aw_if rfl (fun h => ?_) (fun h => absurd h (by simp))
    refine aw_reg fun K hK => ?_; simp (maxSteps := 1000000) (disch := omega) [-List.getD_eq_getElem?_getD]; refine hK _ ?_; clear hK K
    refine aw_ret ?_; simp (maxSteps := 1000000) (disch := omega) [-List.getD_eq_getElem?_getD]
    rw [hr]
    simp
  | true =>
    rw [hv] at c1
    have hr : encR l = (eL l, 0) := by unfold encR; rw [hv]; rfl
    obtain ⟨a1, a2, a3⟩ := validL_iff hv
    have hok : ∀ p ∈ l, (0 ≤ p.1 ∧ p.1 ≤ 1000000000) ∧ p.2.length ≤ 400 ∧ ∀ q ∈ p.2, 0 ≤ q ∧ q ≤ 1000000 := fun p h => ⟨by have := a2 p h; omega, hp p h, (a3 p h).2.2⟩
    have c2 := intR_own (l.length : Int) (by omega) (by omega) H T
    have hel : (enc (l.length : Int)).length ≤ 10 := enc_small (by omega) (by omega)
    generalize he0 : enc (l.length : Int) = e0 at *
    refine aw_reg fun K hK => ?_; simp (maxSteps := 1000000) (disch := omega) [-List.getD_eq_getElem?_getD]
    refine acall_is (c1) ?_; simp (maxSteps := 1000000) (disch := omega) [-List.getD_eq_getElem?_getD]
    refine hK _ ?_; clear hK K
    refine aw_if rfl (fun h => absurd h (by simp)) (fun h => ?_)
    refine aw_skip ?_; simp (maxSteps := 1000000) (disch := omega) [-List.getD_eq_getElem?_getD]
    refine hK1 _ ?_; clear hK1
    refine aw_reg fun K hK => ?_; simp (maxSteps := 1000000) (disch := omega) [-List.getD_eq_getElem?_getD]
    refine ⟨_, c2, ?_⟩
    rintro r H' T' ⟨rfl, TT, rfl, rfl⟩
    simp (maxSteps := 1000000) (disch := omega) [-List.getD_eq_getElem?_getD]
    refine hK _ ?_; clear hK K
    refine aw_reg fun K hK => ?_; simp (maxSteps := 1000000) (disch := omega) [-List.getD_eq_getElem?_getD]; refine hK _ ?_; clear hK K
    refine aw_then fun K1 hK1 => ?_
    refine aw_reg fun K hK => ?_; simp (maxSteps := 1000000) (disch := omega) [-List.getD_eq_getElem?_getD]; refine hK _ ?_; clear hK K
    refine aw_block ?_
    refine aw_loop (X := Nat) (fun k => ⟨[(0, .sl l.length (psAV l) .none), (4, .sl ((l.take k).foldl stL (e0, 0)).1.length (encB ((l.take k).foldl stL (e0, 0)).1) (.own (T ++ TT).length)), (5, .int .i64 ((l.take k).foldl stL (e0, 0)).2), (6, .int .i64 (k : Nat))], H', T ++ TT ++ [(((l.take k).foldl stL (e0, 0)).1.length, 1)]⟩) (fun k => k ≤ l.length) (fun k => l.length - k) 0 ?_ ?_ ?_
    · exact Nat.zero_le _
    · refine weak_to [] [] ?_ ?_ ?_ ?_ (HO.toks (by simp)) ?_
      all_goals simp
    · intro k hk0
      have htl : (T ++ TT).length = T.length + TT.length := List.length_append
      have hS := stL_len (l.take k) (fun p h => hok p (List.mem_of_mem_take h)) e0 0 (by omega)
      rw [List.length_take] at hS
      refine aw_then fun K2 hK2 => ?_
      refine aw_reg fun K hK => ?_; simp (maxSteps := 1000000) (disch := omega) [-List.getD_eq_getElem?_getD]; refine hK _ ?_; clear hK K
      refine aw_if rfl (fun hk => ?_) (fun hk => ?_)
      · simp [-List.getD_eq_getElem?_getD] at hk
        have hat := psAV_at l k hk
        have hst := foldl_take stL (e0, 0) l k (0, []) hk
        have hpk := hok _ (memD l k (0, []) hk)
        generalize (l.take k).foldl stL (e0, 0) = S at *
        generalize l.getD k (0, []) = p at *
        obtain ⟨B, d⟩ := S
        simp only at hS
        obtain ⟨s1, s2, s3⟩ := hS
        obtain ⟨p1, p2, p3⟩ := hpk
        have n1 : (enc (p.1 - d)).length ≤ 10 := enc_small (by omega) (by omega)
        have n2 : (enc (p.2.length : Int)).length ≤ 10 := enc_small (by omega) (by omega)
        have c3 := fun T => intR_ok (p.1 - d) (by omega) (by omega) H' T
        have c4 := fun T => intR_ok (p.2.length : Int) (by omega) (by omega) H' T
        have hst' : (l.take (k + 1)).foldl stL (e0, 0) = ((p.2.foldl stP (B ++ enc (p.1 - d) ++ enc (p.2.length : Int), -1)).1, p.1) := hst
        have m1 : 0 < (enc (p.1 - d)).length := (enc_len (by omega) (by omega)).1
        have m2 : 0 < (enc (p.2.length : Int)).length := (enc_len (by omega) (by omega)).1
        generalize enc (p.1 - d) = x1 at *
        generalize enc (p.2.length : Int) = x2 at *
        refine aw_skip ?_; simp (maxSteps := 1000000) (disch := omega) [-List.getD_eq_getElem?_getD]
        refine hK2 _ ?_; clear hK2
        refine aw_then fun K3 hK3 => ?_
        refine aw_block ?_
        refine aw_draw [9, 17] [0, 0, 0, 0, 0, 0, 0, 0, 0, 0, 0, 0, 0, 0, 0, 0, 1, 1, 2] [[], []] drawMixed (by kernel_rfl) (by kernel_rfl) fun K hK => ?_; simp (maxSteps := 1000000) (disch := omega) [-List.getD_eq_getElem?_getD, hat.1, hat.2, psAV_len, hk]
        refine dcall_is (c3 _) rfl ?_; simp (maxSteps := 1000000) (disch := omega) [-List.getD_eq_getElem?_getD, hat.1, hat.2, psAV_len, hk, encB_append]
        refine dcall_is (c4 _) rfl ?_; simp (maxSteps := 1000000) (disch := omega) [-List.getD_eq_getElem?_getD, hat.1, hat.2, psAV_len, hk, encB_append]
        refine hK _ ?_; clear hK K
        refine aw_reg fun K hK => ?_; simp (maxSteps := 1000000) (disch := omega) [-List.getD_eq_getElem?_getD, hat.1, psAV_len]; refine hK _ ?_; clear hK K
        refine aw_reg fun K hK => ?_; simp (maxSteps := 1000000) (disch := omega) [-List.getD_eq_getElem?_getD]; refine hK _ ?_; clear hK K
        refine aw_reg fun K hK => ?_; simp (maxSteps := 1000000) (disch := omega) [-List.getD_eq_getElem?_getD]; refine hK _ ?_; clear hK K
        obtain ⟨B2, hB2⟩ : ∃ b, b = B ++ x1 ++ x2 := ⟨_, rfl⟩
        have hBl : B2.length = B.length + x1.length + x2.length := by rw [hB2, List.length_append, List.length_append]
        rw [← hB2] at hst'
        refine aw_block ?_
        refine aw_loop (X := Nat) (fun j => ⟨[(0, .sl l.length (psAV l) .none), (4, .sl ((p.2.take j).foldl stP (B2, -1)).1.length (encB ((p.2.take j).foldl stP (B2, -1)).1) (.own (T ++ TT).length)), (5, .int .i64 p.1), (6, .int .i64 (k : Nat)), (7, .int .i64 ((p.2.take j).foldl stP (B2, -1)).2), (8, .int .i64 (j : Nat))], H', T ++ TT ++ [(((p.2.take j).foldl stP (B2, -1)).1.length, 1)]⟩) (fun j => j ≤ p.2.length) (fun j => p.2.length - j) 0 ?_ ?_ ?_
        · exact Nat.zero_le _
        · refine weak_to [] [] ?_ ?_ ?_ ?_ (HO.toks (by simp)) ?_
          all_goals simp [hB2, Nat.add_assoc]
        · intro j hj0
          have hS2 := stP_len (p.2.take j) (fun q h => p3 q (List.mem_of_mem_take h)) B2 (-1) (by omega)
          rw [List.length_take] at hS2
          refine aw_then fun K4 hK4 => ?_
          refine aw_reg fun K hK => ?_; simp (maxSteps := 1000000) (disch := omega) [-List.getD_eq_getElem?_getD, hat.2, psAV_len]; refine hK _ ?_; clear hK K
          refine aw_if rfl (fun hj => ?_) (fun hj => ?_)
          · simp [-List.getD_eq_getElem?_getD] at hj
            have hgj := getD_ints (xs := p.2) (k := j) hj
            have hst2 := foldl_take stP (B2, -1) p.2 j 0 hj
            have hq := p3 _ (memD p.2 j 0 hj)
            generalize (p.2.take j).foldl stP (B2, -1) = S2 at *
            generalize p.2.getD j 0 = q at *
            obtain ⟨C, e⟩ := S2
            simp only at hS2
            obtain ⟨t1, t2, t3⟩ := hS2
            have c5 := fun T => intR_ok (q - e) (by omega) (by omega) H' T
            have hst2' : (p.2.take (j + 1)).foldl stP (B2, -1) = (C ++ enc (q - e), q) := hst2
            have m3 : 0 < (enc (q - e)).length := (enc_len (by omega) (by omega)).1
            have m4 : (enc (q - e)).length ≤ 10 := enc_small (by omega) (by omega)
            generalize enc (q - e) = x3 at *
            refine aw_skip ?_; simp (maxSteps := 1000000) (disch := omega) [-List.getD_eq_getElem?_getD]
            refine hK4 _ ?_; clear hK4
            refine aw_then fun K5 hK5 => ?_
            refine aw_block ?_
            refine aw_reg fun K hK => ?_; simp (maxSteps := 1000000) (disch := omega) [-List.getD_eq_getElem?_getD, hat.2, psAV_len, hgj, hj, hk]
            refine acall_is (c5 _) ?_; simp (maxSteps := 1000000) (disch := omega) [-List.getD_eq_getElem?_getD, encB_append]
            refine hK _ ?_; clear hK K
            refine aw_reg0 fun K hK => ?_; simp (maxSteps := 1000000) (disch := omega) [-List.getD_eq_getElem?_getD, hat.2, psAV_len, hgj, hj, hk]
            refine hK _ ?_; clear hK K
            refine hK5 _ ?_; clear hK5
            refine aw_reg0 fun K hK => ?_; simp (maxSteps := 1000000) (disch := omega) [-List.getD_eq_getElem?_getD]
            refine hK _ ?_; clear hK K
            refine ⟨j + 1, by show j + 1 ≤ _; omega, by show p.2.length - (j + 1) < p.2.length - j; omega, ?_⟩
            simp only [hst2']
            refine weak_to [] [] ?_ ?_ ?_ ?_ (HO.toks (by simp)) ?_
            all_goals simp [encB_append]
          · simp at hj
            have : j = p.2.length := by omega
            subst this
            rw [List.take_length] at hS2 ⊢
            refine aw_exit ?_; simp (maxSteps := 1000000) (disch := omega) [-List.getD_eq_getElem?_getD]
            refine hK3 _ ?_; clear hK3
            refine aw_reg0 fun K hK => ?_; simp (maxSteps := 1000000) (disch := omega) [-List.getD_eq_getElem?_getD]
            refine hK _ ?_; clear hK K
            refine ⟨k + 1, by show k + 1 ≤ _; omega, by show l.length - (k + 1) < l.length - k; omega, ?_⟩
            simp only [hst']
            refine weak_to [] [] ?_ ?_ ?_ ?_ (HO.toks (by simp)) ?_
            all_goals simp
      · simp at hk
        have : k = l.length := by omega
        subst this
        rw [List.take_length]
        refine aw_exit ?_; simp (maxSteps := 1000000) (disch := omega) [-List.getD_eq_getElem?_getD]
        refine hK1 _ ?_; clear hK1
        refine aw_reg fun K hK => ?_; simp (maxSteps := 1000000) (disch := omega) [-List.getD_eq_getElem?_getD]; refine hK _ ?_; clear hK K
        refine aw_ret ?_; simp (maxSteps := 1000000) (disch := omega) [-List.getD_eq_getElem?_getD]
        rw [hr]
        unfold eL
        rw [he0]
        simp
end Go.Proofs.Ytlijaamjcpefoaa
