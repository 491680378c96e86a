/- Whether all bytes pass a test, in layer 14; digits.
   Conditions: lengths below 1000. -/
import Derived.Test.YtlemepdiegacbaaIFn1
namespace Go.Proofs.Ytlemepdiegacbaa
open Go Go.Am Ident
set_option linter.unusedVariables false

theorem memD {α : Type} (l : List α) (k : Nat) (d : α) (h : k < l.length) : l.getD k d ∈ l := by
  rw [List.getD_eq_getElem?_getD, List.getElem?_eq_getElem h]
  exact List.getElem_mem h
theorem encB_at (s : List UInt8) (k : Nat) (h : k < s.length) : (encB s).getD k .top = .int .u8 ((s.getD k 0).toNat : Int) := by
  simp [encB, List.getD_eq_getElem?_getD, List.getElem?_map, List.getElem?_eq_getElem h]

theorem indexB_ok (s : List UInt8) (f : UInt8 → Bool) (hs : s.length ≤ 1000) (g : Nat) (hg : ∀ c H T, ACall Try.prog g [.int .u8 (c.toNat : Int)] H T (Is (.bool (f c)) H T)) (H : List Blk) (T : Toks) :
    ACall Try.prog 45 [.sl s.length (encB s) .none, .fn g [] []] H T (fun r H' T' => H' = H ∧ T' = T ∧ ∃ v : Int, r = .int .i64 v ∧ decide (0 ≤ v) = s.any f) := by
  generalize hq : s.any f = q
  refine acall_enter 9 [] Try.ntmps45 Try.func45 rfl (fun _ _ => Try.call45 _ _) (by simp) (fun HO => ?_)
  refine aw_reg fun K hK => ?_; simp (maxSteps := 1000000) (disch := omega) [-List.getD_eq_getElem?_getD]; refine hK _ ?_; clear hK K
  refine aw_then fun K1 hK1 => ?_
  refine aw_reg fun K hK => ?_; simp (maxSteps := 1000000) (disch := omega) [-List.getD_eq_getElem?_getD]; refine hK _ ?_; clear hK K
  refine aw_block ?_
  refine aw_loop (X := Nat) (fun k => ⟨[(0, .sl s.length (encB s) .none), (1, .fn g [] []), (7, .int .i64 (s.length : Nat)), (8, .int .i64 (k : Nat))], H, T⟩) (fun k => k ≤ s.length ∧ ∀ j, j < k → f (s.getD j 0) = false) (fun k => s.length - k) 0 ?_ ?_ ?_
  · exact ⟨Nat.zero_le _, fun j hj => absurd hj (Nat.not_lt_zero _)⟩
  · refine weak_to [] [] ?_ ?_ ?_ ?_ HO ?_
    all_goals simp
  · rintro k ⟨h1, h2⟩
    refine aw_reg fun K hK => ?_; simp (maxSteps := 1000000) (disch := omega) [-List.getD_eq_getElem?_getD]; refine hK _ ?_; clear hK K
    refine aw_then fun K2 hK2 => ?_
    refine aw_if rfl (fun hk => ?_) (fun hk => ?_)
    · simp [-List.getD_eq_getElem?_getD] at hk
      have hm := memD s k 0 hk
      have hat := encB_at s k hk
      have c := hg (s.getD k 0) H T
      refine aw_skip ?_; simp (maxSteps := 1000000) (disch := omega) [-List.getD_eq_getElem?_getD]
      refine hK2 _ ?_; clear hK2
      refine aw_then fun K3 hK3 => ?_
      refine aw_block ?_
      refine aw_reg fun K hK => ?_; simp (maxSteps := 1000000) (disch := omega) [-List.getD_eq_getElem?_getD]; refine hK _ ?_; clear hK K
      cases hf : f (s.getD k 0) with
      | true =>
        rw [hf] at c
        refine aw_reg fun K hK => ?_; simp (maxSteps := 1000000) (disch := omega) [-List.getD_eq_getElem?_getD, hat]
        refine acall_is (c) ?_; simp (maxSteps := 1000000) (disch := omega) [-List.getD_eq_getElem?_getD]
        refine hK _ ?_; clear hK K
        refine aw_if rfl (fun h => ?_) (fun h => absurd h (by simp))
        refine aw_reg fun K hK => ?_; simp (maxSteps := 1000000) (disch := omega) [-List.getD_eq_getElem?_getD]; refine hK _ ?_; clear hK K
        refine aw_ret ?_; simp (maxSteps := 1000000) (disch := omega) [-List.getD_eq_getElem?_getD]
        have : s.any f = true := List.any_eq_true.2 ⟨_, hm, hf⟩
        rw [hq] at this
        simp [this]
      | false =>
        rw [hf] at c
        refine aw_reg fun K hK => ?_; simp (maxSteps := 1000000) (disch := omega) [-List.getD_eq_getElem?_getD, hat]
        refine acall_is (c) ?_; simp (maxSteps := 1000000) (disch := omega) [-List.getD_eq_getElem?_getD]
        refine hK _ ?_; clear hK K
        refine aw_if rfl (fun h => absurd h (by simp)) (fun h => ?_)
        refine aw_skip ?_; simp (maxSteps := 1000000) (disch := omega) [-List.getD_eq_getElem?_getD]
        refine hK3 _ ?_; clear hK3
        refine aw_reg0 fun K hK => ?_; simp (maxSteps := 1000000) (disch := omega) [-List.getD_eq_getElem?_getD]
        refine hK _ ?_; clear hK K
        refine ⟨k + 1, ⟨by show k + 1 ≤ _; omega, fun j hj => ?_⟩, by show s.length - (k + 1) < s.length - k; omega, ?_⟩
        · rcases Nat.lt_or_ge j k with h3 | h3
          · exact h2 j h3
          · have : j = k := by omega
            subst this; exact hf
        · refine weak_to [] [] ?_ ?_ ?_ ?_ HO ?_
          all_goals simp
    · simp [-List.getD_eq_getElem?_getD] at hk
      have hn : s.any f = false := by
        rw [List.any_eq_false]
        intro p hp'
        obtain ⟨j, hj, e⟩ := memI hp'
        rw [← e, h2 j (by omega)]
        simp
      refine aw_exit ?_; simp (maxSteps := 1000000) (disch := omega) [-List.getD_eq_getElem?_getD]
      refine hK1 _ ?_; clear hK1
      refine aw_reg fun K hK => ?_; simp (maxSteps := 1000000) (disch := omega) [-List.getD_eq_getElem?_getD]; refine hK _ ?_; clear hK K
      refine aw_ret ?_; simp (maxSteps := 1000000) (disch := omega) [-List.getD_eq_getElem?_getD]
      rw [hq] at hn
      simp [hn]

theorem containsB_ok (s : List UInt8) (f : UInt8 → Bool) (hs : s.length ≤ 1000) (g : Nat) (hg : ∀ c H T, ACall Try.prog g [.int .u8 (c.toNat : Int)] H T (Is (.bool (f c)) H T)) (H : List Blk) (T : Toks) (tg : Tag) :
    ACall Try.prog 38 [.sl s.length (encB s) tg, .fn g [] []] H T (Is (.bool (s.any f)) H T) := by
  refine ACall.untag1 ?_
  have c := indexB_ok s f hs g hg H T
  generalize s.any f = q at *
  refine acall_enter 5 [] Try.ntmps38 Try.func38 rfl (fun _ _ => Try.call38 _ _) (by simp) (fun HO => ?_)
  refine aw_reg fun K hK => ?_; simp (maxSteps := 1000000) (disch := omega) [-List.getD_eq_getElem?_getD]; refine hK _ ?_; clear hK K
  refine aw_reg fun K hK => ?_; simp (maxSteps := 1000000) (disch := omega) [-List.getD_eq_getElem?_getD]
  refine ⟨_, c, ?_⟩
  rintro r H' T' ⟨rfl, rfl, v, rfl, hv⟩
  simp (maxSteps := 1000000) (disch := omega) [-List.getD_eq_getElem?_getD, hv]
  refine hK _ ?_; clear hK K
  refine aw_ret ?_; simp (maxSteps := 1000000) (disch := omega) [-List.getD_eq_getElem?_getD]
  exact ⟨rfl, rfl, rfl⟩

def plainB (s : List UInt8) (n : Nat) : Bool := decide (s.length = n) && !s.any (fun c => !dig c)
theorem plain_ok (s : List UInt8) (n : Nat) (hs : s.length ≤ 1000) (hn : n ≤ 1000) (H : List Blk) (T : Toks) : ACall Try.prog 32 [.str s, .int .i64 (n : Nat)] H T (Is (.bool (plainB s n)) H T) := by
  have c := fun T tg => containsB_ok s (fun c => !dig c) hs 43 (fun c H T => plain1_ok c H T) H T tg
  refine ACall.drop' ?_ (by simp)
  unfold plainB
  generalize s.any (fun c => !dig c) = q at *
  refine acall_enter 5 [] Try.ntmps32 Try.func32 rfl (fun _ _ => Try.call32 _ _) (by simp) (fun HO => ?_)
  refine aw_reg fun K hK => ?_; simp (maxSteps := 1000000) (disch := omega) [-List.getD_eq_getElem?_getD]; refine hK _ ?_; clear hK K
  by_cases h : s.length = n
  · subst h
    refine aw_reg fun K hK => ?_; simp (maxSteps := 1000000) (disch := omega) [-List.getD_eq_getElem?_getD]
    refine acall_is (c _ _) ?_; simp (maxSteps := 1000000) (disch := omega) [-List.getD_eq_getElem?_getD]
    refine hK _ ?_; clear hK K
    refine aw_ret ?_; simp (maxSteps := 1000000) (disch := omega) [-List.getD_eq_getElem?_getD]
  · have b1 : ((s.length : Int) == n) = false := by simp; omega
    refine aw_reg fun K hK => ?_; simp (maxSteps := 1000000) (disch := omega) [-List.getD_eq_getElem?_getD, b1, h]; refine hK _ ?_; clear hK K
    refine aw_ret ?_; simp (maxSteps := 1000000) (disch := omega) [-List.getD_eq_getElem?_getD]
    simp [h]

def langB (s : List UInt8) : Bool := decide (s.length = 3) && !s.any (fun c => !low c)
theorem language_ok (s : List UInt8) (hs : s.length ≤ 1000) (H : List Blk) (T : Toks) : ACall Try.prog 25 [.str s] H T (Is (.bool (langB s)) H T) := by
  have c := fun T tg => containsB_ok s (fun c => !low c) hs 39 (fun c H T => language1_ok c H T) H T tg
  refine ACall.drop' ?_ (by simp)
  unfold langB
  generalize s.any (fun c => !low c) = q at *
  refine acall_enter 5 [] Try.ntmps25 Try.func25 rfl (fun _ _ => Try.call25 _ _) (by simp) (fun HO => ?_)
  refine aw_reg fun K hK => ?_; simp (maxSteps := 1000000) (disch := omega) [-List.getD_eq_getElem?_getD]; refine hK _ ?_; clear hK K
  by_cases h : s.length = 3
  · have b1 : ((s.length : Int) == 3) = true := by simp; omega
    simp only [h] at c
    refine aw_reg fun K hK => ?_; simp (maxSteps := 1000000) (disch := omega) [-List.getD_eq_getElem?_getD, b1, h]
    refine acall_is (c _ _) ?_; simp (maxSteps := 1000000) (disch := omega) [-List.getD_eq_getElem?_getD]
    refine hK _ ?_; clear hK K
    refine aw_ret ?_; simp (maxSteps := 1000000) (disch := omega) [-List.getD_eq_getElem?_getD]
    simp [h]
  · have b1 : ((s.length : Int) == 3) = false := by simp; omega
    refine aw_reg fun K hK => ?_; simp (maxSteps := 1000000) (disch := omega) [-List.getD_eq_getElem?_getD, b1, h]; refine hK _ ?_; clear hK K
    refine aw_ret ?_; simp (maxSteps := 1000000) (disch := omega) [-List.getD_eq_getElem?_getD]
    simp [h]

theorem encB_one (c : UInt8) : encB [c] = [.int .u8 (c.toNat : Int)] := rfl
theorem encB_snoc (out : List UInt8) (c : UInt8) : encB out ++ [.int .u8 (c.toNat : Int)] = encB (out ++ [c]) := by simp [encB]
theorem encB_snoc88 (out : List UInt8) : encB out ++ [.int .u8 88] = encB (out ++ [88]) := encB_snoc out 88
theorem cut_le (s : List UInt8) (hs : s.length ≤ 1000) : (cut s).length ≤ 1000 := Nat.le_trans (cut_len s) hs
/-- What is known of the bytes at a place. -/
theorem sp_ne {c : UInt8} (k : Nat) (hk : k < 256) (h : ¬ c = UInt8.ofNat k) : ((c.toNat : Int) == k) = false := by
  rw [beq_eq_false_iff_ne]
  intro e
  apply h
  apply UInt8.toNat_inj.1
  simp [UInt8.toNat_ofNat']
  omega
theorem sp_eq {c : UInt8} (k : Nat) (hk : k < 256) (h : c = UInt8.ofNat k) : ((c.toNat : Int) == k) = true := by
  subst h
  simp [UInt8.toNat_ofNat']
  omega

set_option maxRecDepth 100000 in
set_option maxHeartbeats 8000000 in
theorem digits_ok (s : List UInt8) (hs : s.length ≤ 1000) (H : List Blk) (T : Toks) : ACall Try.prog 27 [.str s] H T (Is (.str (digs s)) H T) := by
  refine ACall.drop' ?_ (by simp)
  have c1 := sIndex_ok s [32, 40] hs H T
  have hcl := cut_le s hs
  have hone : encB [88] = [.int .u8 88] := rfl
  refine acall_enter 7 [] Try.ntmps27 Try.func27 rfl (fun _ _ => Try.call27 _ _) (by simp) (fun HO => ?_)
  refine aw_reg fun K hK => ?_; simp (maxSteps := 1000000) (disch := omega) [-List.getD_eq_getElem?_getD]; refine hK _ ?_; clear hK K
  refine aw_then fun K1 hK1 => ?_
  have key : ∀ e, envLe H.length T.length e [(0, .str (cut s))] → K1 ⟨e, H, T⟩ := fun e he => by
    refine hK1 _ (aw_weak ⟨[(0, .str (cut s))], H, T⟩ (weak_to [] [] (by simp) (by simp) (by simp) (by simp) HO he) ?_)
    clear hK1 K1 he e c1
    have hdg : digs s = (drun (cut s) (cut s).length).getD [] := rfl
    generalize cut s = u at *
    refine aw_reg fun K hK => ?_; simp (maxSteps := 1000000) (disch := omega) [-List.getD_eq_getElem?_getD]; refine hK _ ?_; clear hK K
    refine aw_then fun K1 hK1 => ?_
    refine aw_reg fun K hK => ?_; simp (maxSteps := 1000000) (disch := omega) [-List.getD_eq_getElem?_getD]; refine hK _ ?_; clear hK K
    refine aw_block ?_
    refine aw_own 4 0 1 [] (by omega) (by simp) ?_
    refine aw_loop (X := Nat × List UInt8) (fun x => ⟨[(0, .str u), (4, .sl x.2.length (encB x.2) (.own T.length)), (5, .int .i64 (x.1 : Nat))], H, T ++ [(x.2.length, 1)]⟩) (fun x => x.1 ≤ u.length ∧ drun u x.1 = some x.2) (fun x => u.length - x.1) (0, []) ?_ ?_ ?_
    · exact ⟨Nat.zero_le _, rfl⟩
    · refine weak_to [] [] ?_ ?_ ?_ ?_ (HO.toks (by simp)) ?_
      all_goals simp [encB]
    · rintro ⟨k, out⟩ ⟨hk0, hrun⟩
      simp only at hk0 hrun
      have hol := drun_len k out hrun
      refine aw_then fun K2 hK2 => ?_
      refine aw_reg fun K hK => ?_; simp (maxSteps := 1000000) (disch := omega) [-List.getD_eq_getElem?_getD]; refine hK _ ?_; clear hK K
      refine aw_if rfl (fun hk => ?_) (fun hk => ?_)
      · simp [-List.getD_eq_getElem?_getD] at hk
        generalize hgc : u.getD k 0 = c at *
        have cd := digit_ok c H (T ++ [(out.length, 1)])
        refine aw_skip ?_; simp (maxSteps := 1000000) (disch := omega) [-List.getD_eq_getElem?_getD]
        refine hK2 _ ?_; clear hK2
        refine aw_then fun K3 hK3 => ?_
        refine aw_block ?_
        refine aw_reg fun K hK => ?_; simp (maxSteps := 1000000) (disch := omega) [-List.getD_eq_getElem?_getD, hgc]; refine hK _ ?_; clear hK K
        refine aw_block ?_
        cases hdig : dig c with
        | true =>
          rw [hdig] at cd
          have hst : drun u (k + 1) = some (out ++ [c]) := by
            rw [drun, hrun]
            show dstep u out k = _
            unfold dstep
            rw [hgc, if_pos hdig]
          refine aw_reg fun K hK => ?_; simp (maxSteps := 1000000) (disch := omega) [-List.getD_eq_getElem?_getD]
          refine acall_is (cd) ?_; simp (maxSteps := 1000000) (disch := omega) [-List.getD_eq_getElem?_getD]
          refine hK _ ?_; clear hK K
          refine aw_if rfl (fun h => ?_) (fun h => absurd h (by simp))
          refine aw_reg0 fun K hK => ?_; simp (maxSteps := 1000000) (disch := omega) [-List.getD_eq_getElem?_getD, encB_snoc]
          refine hK _ ?_; clear hK K
          refine hK3 _ ?_; clear hK3
          refine aw_reg0 fun K hK => ?_; simp (maxSteps := 1000000) (disch := omega) [-List.getD_eq_getElem?_getD]
          refine hK _ ?_; clear hK K
          refine ⟨(k + 1, out ++ [c]), ⟨by show k + 1 ≤ _; omega, hst⟩, by show u.length - (k + 1) < u.length - k; omega, ?_⟩
          refine weak_to [] [] ?_ ?_ ?_ ?_ (HO.toks (by simp)) ?_
          all_goals simp [encB_snoc, encB_snoc88]
        | false =>
          rw [hdig] at cd
          refine aw_reg fun K hK => ?_; simp (maxSteps := 1000000) (disch := omega) [-List.getD_eq_getElem?_getD]
          refine acall_is (cd) ?_; simp (maxSteps := 1000000) (disch := omega) [-List.getD_eq_getElem?_getD]
          refine hK _ ?_; clear hK K
          refine aw_if rfl (fun h => absurd h (by simp)) (fun h => ?_)
          by_cases h88 : c = 88
          · have x1 : ((c.toNat : Int) == 88) = true := sp_eq 88 (by decide) h88
            have x3 : ((c.toNat : Int) == 45) = false := by rw [h88]; decide
            have x4 : ((c.toNat : Int) == 32) = false := by rw [h88]; decide
            by_cases hl : k + 1 = u.length
            · have bl : ((k : Int) == (u.length : Int) - 1) = true := by rw [beq_iff_eq]; omega
              by_cases hp : 0 < k
              · have bp : decide ((0 : Int) < (k : Int)) = true := decide_eq_true (by omega)
                have hst : drun u (k + 1) = some (out ++ [88]) := by
                  rw [drun, hrun]
                  show dstep u out k = _
                  unfold dstep
                  rw [hgc, if_neg (by rw [hdig]; decide), if_pos ⟨by rw [h88]; decide, hl, hp⟩]
                refine aw_reg fun K hK => ?_; simp (maxSteps := 1000000) (disch := omega) [-List.getD_eq_getElem?_getD, x1, x3, x4, bl, bp, hp]; refine hK _ ?_; clear hK K
                refine aw_if rfl (fun h => ?_) (fun h => absurd h (by simp))
                refine aw_reg0 fun K hK => ?_; simp (maxSteps := 1000000) (disch := omega) [-List.getD_eq_getElem?_getD, encB_snoc88]
                refine hK _ ?_; clear hK K
                refine hK3 _ ?_; clear hK3
                refine aw_reg0 fun K hK => ?_; simp (maxSteps := 1000000) (disch := omega) [-List.getD_eq_getElem?_getD]
                refine hK _ ?_; clear hK K
                refine ⟨(k + 1, out ++ [88]), ⟨by show k + 1 ≤ _; omega, hst⟩, by show u.length - (k + 1) < u.length - k; omega, ?_⟩
                refine weak_to [] [] ?_ ?_ ?_ ?_ (HO.toks (by simp)) ?_
                all_goals simp [encB_snoc, encB_snoc88]
              · have bp : decide ((0 : Int) < (k : Int)) = false := decide_eq_false (by omega)
                have hst : drun u (k + 1) = none := by
                  rw [drun, hrun]
                  show dstep u out k = _
                  unfold dstep
                  rw [hgc, if_neg (by rw [hdig]; decide), if_neg (fun h => hp h.2.2), if_neg (fun h => by rw [h88] at h; exact absurd h.1 (by decide))]
                refine aw_reg fun K hK => ?_; simp (maxSteps := 1000000) (disch := omega) [-List.getD_eq_getElem?_getD, x1, x3, x4, bl, bp, hp]; refine hK _ ?_; clear hK K
                refine aw_if rfl (fun h => absurd h (by simp)) (fun h => ?_)
                refine aw_reg fun K hK => ?_; simp (maxSteps := 1000000) (disch := omega) [-List.getD_eq_getElem?_getD, x1, x3, x4]; refine hK _ ?_; clear hK K
                refine aw_if rfl (fun h => absurd h (by simp)) (fun h => ?_)
                refine aw_reg fun K hK => ?_; simp (maxSteps := 1000000) (disch := omega) [-List.getD_eq_getElem?_getD]; refine hK _ ?_; clear hK K
                refine aw_ret ?_; simp (maxSteps := 1000000) (disch := omega) [-List.getD_eq_getElem?_getD]
                have hn : drun u u.length = none := drun_none (k := k + 1) hst (by omega)
                simp [hdg, hn]
            · have bl : ((k : Int) == (u.length : Int) - 1) = false := by rw [beq_eq_false_iff_ne]; omega
              have bl2 : ¬ (k : Int) = (u.length : Int) - 1 := by omega
              have hst : drun u (k + 1) = none := by
                rw [drun, hrun]
                show dstep u out k = _
                unfold dstep
                rw [hgc, if_neg (by rw [hdig]; decide), if_neg (fun h => hl h.2.1), if_neg (fun h => by rw [h88] at h; exact absurd h.1 (by decide))]
              refine aw_reg fun K hK => ?_; simp (maxSteps := 1000000) (disch := omega) [-List.getD_eq_getElem?_getD, x1, x3, x4, bl, bl2]; refine hK _ ?_; clear hK K
              refine aw_if rfl (fun h => absurd h (by simp)) (fun h => ?_)
              refine aw_reg fun K hK => ?_; simp (maxSteps := 1000000) (disch := omega) [-List.getD_eq_getElem?_getD, x1, x3, x4]; refine hK _ ?_; clear hK K
              refine aw_if rfl (fun h => absurd h (by simp)) (fun h => ?_)
              refine aw_reg fun K hK => ?_; simp (maxSteps := 1000000) (disch := omega) [-List.getD_eq_getElem?_getD]; refine hK _ ?_; clear hK K
              refine aw_ret ?_; simp (maxSteps := 1000000) (disch := omega) [-List.getD_eq_getElem?_getD]
              have hn : drun u u.length = none := drun_none (k := k + 1) hst (by omega)
              simp [hdg, hn]
          · have x1 : ((c.toNat : Int) == 88) = false := sp_ne 88 (by decide) h88
            by_cases h120 : c = 120
            · have x2 : ((c.toNat : Int) == 120) = true := sp_eq 120 (by decide) h120
              have x3 : ((c.toNat : Int) == 45) = false := by rw [h120]; decide
              have x4 : ((c.toNat : Int) == 32) = false := by rw [h120]; decide
              by_cases hl : k + 1 = u.length
              · have bl : ((k : Int) == (u.length : Int) - 1) = true := by rw [beq_iff_eq]; omega
                by_cases hp : 0 < k
                · have bp : decide ((0 : Int) < (k : Int)) = true := decide_eq_true (by omega)
                  have hst : drun u (k + 1) = some (out ++ [88]) := by
                    rw [drun, hrun]
                    show dstep u out k = _
                    unfold dstep
                    rw [hgc, if_neg (by rw [hdig]; decide), if_pos ⟨by rw [h120]; decide, hl, hp⟩]
                  refine aw_reg fun K hK => ?_; simp (maxSteps := 1000000) (disch := omega) [-List.getD_eq_getElem?_getD, x1, x2, x3, x4, bl, bp, hp]; refine hK _ ?_; clear hK K
                  refine aw_if rfl (fun h => ?_) (fun h => absurd h (by simp))
                  refine aw_reg0 fun K hK => ?_; simp (maxSteps := 1000000) (disch := omega) [-List.getD_eq_getElem?_getD, encB_snoc88]
                  refine hK _ ?_; clear hK K
                  refine hK3 _ ?_; clear hK3
                  refine aw_reg0 fun K hK => ?_; simp (maxSteps := 1000000) (disch := omega) [-List.getD_eq_getElem?_getD]
                  refine hK _ ?_; clear hK K
                  refine ⟨(k + 1, out ++ [88]), ⟨by show k + 1 ≤ _; omega, hst⟩, by show u.length - (k + 1) < u.length - k; omega, ?_⟩
                  refine weak_to [] [] ?_ ?_ ?_ ?_ (HO.toks (by simp)) ?_
                  all_goals simp [encB_snoc, encB_snoc88]
                · have bp : decide ((0 : Int) < (k : Int)) = false := decide_eq_false (by omega)
                  have hst : drun u (k + 1) = none := by
                    rw [drun, hrun]
                    show dstep u out k = _
                    unfold dstep
                    rw [hgc, if_neg (by rw [hdig]; decide), if_neg (fun h => hp h.2.2), if_neg (fun h => by rw [h120] at h; exact absurd h.1 (by decide))]
                  refine aw_reg fun K hK => ?_; simp (maxSteps := 1000000) (disch := omega) [-List.getD_eq_getElem?_getD, x1, x2, x3, x4, bl, bp, hp]; refine hK _ ?_; clear hK K
                  refine aw_if rfl (fun h => absurd h (by simp)) (fun h => ?_)
                  refine aw_reg fun K hK => ?_; simp (maxSteps := 1000000) (disch := omega) [-List.getD_eq_getElem?_getD, x1, x2, x3, x4]; refine hK _ ?_; clear hK K
                  refine aw_if rfl (fun h => absurd h (by simp)) (fun h => ?_)
                  refine aw_reg fun K hK => ?_; simp (maxSteps := 1000000) (disch := omega) [-List.getD_eq_getElem?_getD]; refine hK _ ?_; clear hK K
                  refine aw_ret ?_; simp (maxSteps := 1000000) (disch := omega) [-List.getD_eq_getElem?_getD]
                  have hn : drun u u.length = none := drun_none (k := k + 1) hst (by omega)
                  simp [hdg, hn]
              · have bl : ((k : Int) == (u.length : Int) - 1) = false := by rw [beq_eq_false_iff_ne]; omega
                have bl2 : ¬ (k : Int) = (u.length : Int) - 1 := by omega
                have hst : drun u (k + 1) = none := by
                  rw [drun, hrun]
                  show dstep u out k = _
                  unfold dstep
                  rw [hgc, if_neg (by rw [hdig]; decide), if_neg (fun h => hl h.2.1), if_neg (fun h => by rw [h120] at h; exact absurd h.1 (by decide))]
                refine aw_reg fun K hK => ?_; simp (maxSteps := 1000000) (disch := omega) [-List.getD_eq_getElem?_getD, x1, x2, x3, x4, bl, bl2]; refine hK _ ?_; clear hK K
                refine aw_if rfl (fun h => absurd h (by simp)) (fun h => ?_)
                refine aw_reg fun K hK => ?_; simp (maxSteps := 1000000) (disch := omega) [-List.getD_eq_getElem?_getD, x1, x2, x3, x4]; refine hK _ ?_; clear hK K
                refine aw_if rfl (fun h => absurd h (by simp)) (fun h => ?_)
                refine aw_reg fun K hK => ?_; simp (maxSteps := 1000000) (disch := omega) [-List.getD_eq_getElem?_getD]; refine hK _ ?_; clear hK K
                refine aw_ret ?_; simp (maxSteps := 1000000) (disch := omega) [-List.getD_eq_getElem?_getD]
                have hn : drun u u.length = none := drun_none (k := k + 1) hst (by omega)
                simp [hdg, hn]
            · have x2 : ((c.toNat : Int) == 120) = false := sp_ne 120 (by decide) h120
              have hnx : isX c = false := by simp [isX, h88, h120]
              have x1' : ¬ c.toNat = 88 := fun e => h88 (UInt8.toNat_inj.1 (by rw [e]; rfl))
              have x2' : ¬ c.toNat = 120 := fun e => h120 (UInt8.toNat_inj.1 (by rw [e]; rfl))
              refine aw_reg fun K hK => ?_; simp (maxSteps := 1000000) (disch := omega) [-List.getD_eq_getElem?_getD, x1, x2, x1', x2']; refine hK _ ?_; clear hK K
              refine aw_if rfl (fun h => absurd h (by simp)) (fun h => ?_)
              by_cases h45 : c = 45
              · have x3 : ((c.toNat : Int) == 45) = true := sp_eq 45 (by decide) h45
                by_cases hp : 0 < k
                · have bp : decide ((0 : Int) < (k : Int)) = true := decide_eq_true (by omega)
                  by_cases hl : k + 1 < u.length
                  · have bl : decide ((k : Int) < (u.length : Int) - 1) = true := decide_eq_true (by omega)
                    have bl2 : (k : Int) < (u.length : Int) - 1 := by omega
                    have ek : ((k : Int) - 1).toNat = k - 1 := by omega
                    generalize hgp : u.getD (k - 1) 0 = p at *
                    by_cases p45 : p = 45
                    · have y1 : ((p.toNat : Int) != 45) = false := by rw [p45]; decide
                      have hst : drun u (k + 1) = none := by
                        rw [drun, hrun]
                        show dstep u out k = _
                        unfold dstep
                        rw [hgc, if_neg (by rw [hdig]; decide), if_neg (fun h => by rw [hnx] at h; exact absurd h.1 (by decide)), hgp, if_neg (by rw [p45]; intro h; exact h.2.2.2 (by decide))]
                      refine aw_reg fun K hK => ?_; simp (maxSteps := 1000000) (disch := omega) [-List.getD_eq_getElem?_getD, x3, bp, hp, bl, bl2, ek, hgp, y1]; refine hK _ ?_; clear hK K
                      refine aw_if rfl (fun h => absurd h (by simp)) (fun h => ?_)
                      refine aw_reg fun K hK => ?_; simp (maxSteps := 1000000) (disch := omega) [-List.getD_eq_getElem?_getD]; refine hK _ ?_; clear hK K
                      refine aw_ret ?_; simp (maxSteps := 1000000) (disch := omega) [-List.getD_eq_getElem?_getD]
                      have hn : drun u u.length = none := drun_none (k := k + 1) hst (by omega)
                      simp [hdg, hn]
                    · have y1 : ((p.toNat : Int) != 45) = true := bne_iff_ne.2 (fun e => p45 (UInt8.toNat_inj.1 (by rw [show p.toNat = 45 by omega]; rfl)))
                      have y1' : ¬ p.toNat = 45 := fun e => p45 (UInt8.toNat_inj.1 (by rw [e]; rfl))
                      by_cases p32 : p = 32
                      · have y2 : ((p.toNat : Int) != 32) = false := by rw [p32]; decide
                        have hst : drun u (k + 1) = none := by
                          rw [drun, hrun]
                          show dstep u out k = _
                          unfold dstep
                          rw [hgc, if_neg (by rw [hdig]; decide), if_neg (fun h => by rw [hnx] at h; exact absurd h.1 (by decide)), hgp, if_neg (by rw [p32]; intro h; exact h.2.2.2 (by decide))]
                        refine aw_reg fun K hK => ?_; simp (maxSteps := 1000000) (disch := omega) [-List.getD_eq_getElem?_getD, x3, bp, hp, bl, bl2, ek, hgp, y1, y1', y2]; refine hK _ ?_; clear hK K
                        refine aw_if rfl (fun h => absurd h (by simp)) (fun h => ?_)
                        refine aw_reg fun K hK => ?_; simp (maxSteps := 1000000) (disch := omega) [-List.getD_eq_getElem?_getD]; refine hK _ ?_; clear hK K
                        refine aw_ret ?_; simp (maxSteps := 1000000) (disch := omega) [-List.getD_eq_getElem?_getD]
                        have hn : drun u u.length = none := drun_none (k := k + 1) hst (by omega)
                        simp [hdg, hn]
                      · have y2 : ((p.toNat : Int) != 32) = true := bne_iff_ne.2 (fun e => p32 (UInt8.toNat_inj.1 (by rw [show p.toNat = 32 by omega]; rfl)))
                        have y2' : ¬ p.toNat = 32 := fun e => p32 (UInt8.toNat_inj.1 (by rw [e]; rfl))
                        have hst : drun u (k + 1) = some out := by
                          rw [drun, hrun]
                          show dstep u out k = _
                          unfold dstep
                          rw [hgc, if_neg (by rw [hdig]; decide), if_neg (fun h => by rw [hnx] at h; exact absurd h.1 (by decide)), hgp, if_pos ⟨by rw [h45]; decide, hp, hl, by simp [sep, p45, p32]⟩]
                        refine aw_reg fun K hK => ?_; simp (maxSteps := 1000000) (disch := omega) [-List.getD_eq_getElem?_getD, x3, bp, hp, bl, bl2, ek, hgp, y1, y1', y2, y2']; refine hK _ ?_; clear hK K
                        refine aw_if rfl (fun h => ?_) (fun h => absurd h (by simp))
                        refine aw_skip ?_; simp (maxSteps := 1000000) (disch := omega) [-List.getD_eq_getElem?_getD]
                        refine hK3 _ ?_; clear hK3
                        refine aw_reg0 fun K hK => ?_; simp (maxSteps := 1000000) (disch := omega) [-List.getD_eq_getElem?_getD]
                        refine hK _ ?_; clear hK K
                        refine ⟨(k + 1, out), ⟨by show k + 1 ≤ _; omega, hst⟩, by show u.length - (k + 1) < u.length - k; omega, ?_⟩
                        refine weak_to [] [] ?_ ?_ ?_ ?_ (HO.toks (by simp)) ?_
                        all_goals simp [encB_snoc, encB_snoc88]
                  · have bl : decide ((k : Int) < (u.length : Int) - 1) = false := decide_eq_false (by omega)
                    have bl2 : ¬ (k : Int) < (u.length : Int) - 1 := by omega
                    have hst : drun u (k + 1) = none := by
                      rw [drun, hrun]
                      show dstep u out k = _
                      unfold dstep
                      rw [hgc, if_neg (by rw [hdig]; decide), if_neg (fun h => by rw [hnx] at h; exact absurd h.1 (by decide)), if_neg (fun h => hl h.2.2.1)]
                    refine aw_reg fun K hK => ?_; simp (maxSteps := 1000000) (disch := omega) [-List.getD_eq_getElem?_getD, x3, bp, hp, bl, bl2]; refine hK _ ?_; clear hK K
                    refine aw_if rfl (fun h => absurd h (by simp)) (fun h => ?_)
                    refine aw_reg fun K hK => ?_; simp (maxSteps := 1000000) (disch := omega) [-List.getD_eq_getElem?_getD]; refine hK _ ?_; clear hK K
                    refine aw_ret ?_; simp (maxSteps := 1000000) (disch := omega) [-List.getD_eq_getElem?_getD]
                    have hn : drun u u.length = none := drun_none (k := k + 1) hst (by omega)
                    simp [hdg, hn]
                · have bp : decide ((0 : Int) < (k : Int)) = false := decide_eq_false (by omega)
                  have hst : drun u (k + 1) = none := by
                    rw [drun, hrun]
                    show dstep u out k = _
                    unfold dstep
                    rw [hgc, if_neg (by rw [hdig]; decide), if_neg (fun h => by rw [hnx] at h; exact absurd h.1 (by decide)), if_neg (fun h => hp h.2.1)]
                  refine aw_reg fun K hK => ?_; simp (maxSteps := 1000000) (disch := omega) [-List.getD_eq_getElem?_getD, x3, bp, hp]; refine hK _ ?_; clear hK K
                  refine aw_if rfl (fun h => absurd h (by simp)) (fun h => ?_)
                  refine aw_reg fun K hK => ?_; simp (maxSteps := 1000000) (disch := omega) [-List.getD_eq_getElem?_getD]; refine hK _ ?_; clear hK K
                  refine aw_ret ?_; simp (maxSteps := 1000000) (disch := omega) [-List.getD_eq_getElem?_getD]
                  have hn : drun u u.length = none := drun_none (k := k + 1) hst (by omega)
                  simp [hdg, hn]
              · have x3 : ((c.toNat : Int) == 45) = false := sp_ne 45 (by decide) h45
                have x3' : ¬ c.toNat = 45 := fun e => h45 (UInt8.toNat_inj.1 (by rw [e]; rfl))
                by_cases h32 : c = 32
                · have x4 : ((c.toNat : Int) == 32) = true := sp_eq 32 (by decide) h32
                  by_cases hp : 0 < k
                  · have bp : decide ((0 : Int) < (k : Int)) = true := decide_eq_true (by omega)
                    by_cases hl : k + 1 < u.length
                    · have bl : decide ((k : Int) < (u.length : Int) - 1) = true := decide_eq_true (by omega)
                      have bl2 : (k : Int) < (u.length : Int) - 1 := by omega
                      have ek : ((k : Int) - 1).toNat = k - 1 := by omega
                      generalize hgp : u.getD (k - 1) 0 = p at *
                      by_cases p45 : p = 45
                      · have y1 : ((p.toNat : Int) != 45) = false := by rw [p45]; decide
                        have hst : drun u (k + 1) = none := by
                          rw [drun, hrun]
                          show dstep u out k = _
                          unfold dstep
                          rw [hgc, if_neg (by rw [hdig]; decide), if_neg (fun h => by rw [hnx] at h; exact absurd h.1 (by decide)), hgp, if_neg (by rw [p45]; intro h; exact h.2.2.2 (by decide))]
                        refine aw_reg fun K hK => ?_; simp (maxSteps := 1000000) (disch := omega) [-List.getD_eq_getElem?_getD, x3, x4, bp, hp, bl, bl2, ek, hgp, y1]; refine hK _ ?_; clear hK K
                        refine aw_if rfl (fun h => absurd h (by simp)) (fun h => ?_)
                        refine aw_reg fun K hK => ?_; simp (maxSteps := 1000000) (disch := omega) [-List.getD_eq_getElem?_getD]; refine hK _ ?_; clear hK K
                        refine aw_ret ?_; simp (maxSteps := 1000000) (disch := omega) [-List.getD_eq_getElem?_getD]
                        have hn : drun u u.length = none := drun_none (k := k + 1) hst (by omega)
                        simp [hdg, hn]
                      · have y1 : ((p.toNat : Int) != 45) = true := bne_iff_ne.2 (fun e => p45 (UInt8.toNat_inj.1 (by rw [show p.toNat = 45 by omega]; rfl)))
                        have y1' : ¬ p.toNat = 45 := fun e => p45 (UInt8.toNat_inj.1 (by rw [e]; rfl))
                        by_cases p32 : p = 32
                        · have y2 : ((p.toNat : Int) != 32) = false := by rw [p32]; decide
                          have hst : drun u (k + 1) = none := by
                            rw [drun, hrun]
                            show dstep u out k = _
                            unfold dstep
                            rw [hgc, if_neg (by rw [hdig]; decide), if_neg (fun h => by rw [hnx] at h; exact absurd h.1 (by decide)), hgp, if_neg (by rw [p32]; intro h; exact h.2.2.2 (by decide))]
                          refine aw_reg fun K hK => ?_; simp (maxSteps := 1000000) (disch := omega) [-List.getD_eq_getElem?_getD, x3, x4, bp, hp, bl, bl2, ek, hgp, y1, y1', y2]; refine hK _ ?_; clear hK K
                          refine aw_if rfl (fun h => absurd h (by simp)) (fun h => ?_)
                          refine aw_reg fun K hK => ?_; simp (maxSteps := 1000000) (disch := omega) [-List.getD_eq_getElem?_getD]; refine hK _ ?_; clear hK K
                          refine aw_ret ?_; simp (maxSteps := 1000000) (disch := omega) [-List.getD_eq_getElem?_getD]
                          have hn : drun u u.length = none := drun_none (k := k + 1) hst (by omega)
                          simp [hdg, hn]
                        · have y2 : ((p.toNat : Int) != 32) = true := bne_iff_ne.2 (fun e => p32 (UInt8.toNat_inj.1 (by rw [show p.toNat = 32 by omega]; rfl)))
                          have y2' : ¬ p.toNat = 32 := fun e => p32 (UInt8.toNat_inj.1 (by rw [e]; rfl))
                          have hst : drun u (k + 1) = some out := by
                            rw [drun, hrun]
                            show dstep u out k = _
                            unfold dstep
                            rw [hgc, if_neg (by rw [hdig]; decide), if_neg (fun h => by rw [hnx] at h; exact absurd h.1 (by decide)), hgp, if_pos ⟨by rw [h32]; decide, hp, hl, by simp [sep, p45, p32]⟩]
                          refine aw_reg fun K hK => ?_; simp (maxSteps := 1000000) (disch := omega) [-List.getD_eq_getElem?_getD, x3, x4, bp, hp, bl, bl2, ek, hgp, y1, y1', y2, y2']; refine hK _ ?_; clear hK K
                          refine aw_if rfl (fun h => ?_) (fun h => absurd h (by simp))
                          refine aw_skip ?_; simp (maxSteps := 1000000) (disch := omega) [-List.getD_eq_getElem?_getD]
                          refine hK3 _ ?_; clear hK3
                          refine aw_reg0 fun K hK => ?_; simp (maxSteps := 1000000) (disch := omega) [-List.getD_eq_getElem?_getD]
                          refine hK _ ?_; clear hK K
                          refine ⟨(k + 1, out), ⟨by show k + 1 ≤ _; omega, hst⟩, by show u.length - (k + 1) < u.length - k; omega, ?_⟩
                          refine weak_to [] [] ?_ ?_ ?_ ?_ (HO.toks (by simp)) ?_
                          all_goals simp [encB_snoc, encB_snoc88]
                    · have bl : decide ((k : Int) < (u.length : Int) - 1) = false := decide_eq_false (by omega)
                      have bl2 : ¬ (k : Int) < (u.length : Int) - 1 := by omega
                      have hst : drun u (k + 1) = none := by
                        rw [drun, hrun]
                        show dstep u out k = _
                        unfold dstep
                        rw [hgc, if_neg (by rw [hdig]; decide), if_neg (fun h => by rw [hnx] at h; exact absurd h.1 (by decide)), if_neg (fun h => hl h.2.2.1)]
                      refine aw_reg fun K hK => ?_; simp (maxSteps := 1000000) (disch := omega) [-List.getD_eq_getElem?_getD, x3, x4, bp, hp, bl, bl2]; refine hK _ ?_; clear hK K
                      refine aw_if rfl (fun h => absurd h (by simp)) (fun h => ?_)
                      refine aw_reg fun K hK => ?_; simp (maxSteps := 1000000) (disch := omega) [-List.getD_eq_getElem?_getD]; refine hK _ ?_; clear hK K
                      refine aw_ret ?_; simp (maxSteps := 1000000) (disch := omega) [-List.getD_eq_getElem?_getD]
                      have hn : drun u u.length = none := drun_none (k := k + 1) hst (by omega)
                      simp [hdg, hn]
                  · have bp : decide ((0 : Int) < (k : Int)) = false := decide_eq_false (by omega)
                    have hst : drun u (k + 1) = none := by
                      rw [drun, hrun]
                      show dstep u out k = _
                      unfold dstep
                      rw [hgc, if_neg (by rw [hdig]; decide), if_neg (fun h => by rw [hnx] at h; exact absurd h.1 (by decide)), if_neg (fun h => hp h.2.1)]
                    refine aw_reg fun K hK => ?_; simp (maxSteps := 1000000) (disch := omega) [-List.getD_eq_getElem?_getD, x3, x4, bp, hp]; refine hK _ ?_; clear hK K
                    refine aw_if rfl (fun h => absurd h (by simp)) (fun h => ?_)
                    refine aw_reg fun K hK => ?_; simp (maxSteps := 1000000) (disch := omega) [-List.getD_eq_getElem?_getD]; refine hK _ ?_; clear hK K
                    refine aw_ret ?_; simp (maxSteps := 1000000) (disch := omega) [-List.getD_eq_getElem?_getD]
                    have hn : drun u u.length = none := drun_none (k := k + 1) hst (by omega)
                    simp [hdg, hn]
                · have x4 : ((c.toNat : Int) == 32) = false := sp_ne 32 (by decide) h32
                  have x4' : ¬ c.toNat = 32 := fun e => h32 (UInt8.toNat_inj.1 (by rw [e]; rfl))
                  have hst : drun u (k + 1) = none := by
                    rw [drun, hrun]
                    show dstep u out k = _
                    unfold dstep
                    rw [hgc, if_neg (by rw [hdig]; decide), if_neg (fun h => by rw [hnx] at h; exact absurd h.1 (by decide)), if_neg (by simp [sep, h45, h32])]
                  refine aw_reg fun K hK => ?_; simp (maxSteps := 1000000) (disch := omega) [-List.getD_eq_getElem?_getD, x3, x4, x3', x4']; refine hK _ ?_; clear hK K
                  refine aw_if rfl (fun h => absurd h (by simp)) (fun h => ?_)
                  refine aw_reg fun K hK => ?_; simp (maxSteps := 1000000) (disch := omega) [-List.getD_eq_getElem?_getD]; refine hK _ ?_; clear hK K
                  refine aw_ret ?_; simp (maxSteps := 1000000) (disch := omega) [-List.getD_eq_getElem?_getD]
                  have hn : drun u u.length = none := drun_none (k := k + 1) hst (by omega)
                  simp [hdg, hn]
      · have hkl : k = u.length := by simp at hk; omega
        subst hkl
        refine aw_exit ?_; simp (maxSteps := 1000000) (disch := omega) [-List.getD_eq_getElem?_getD]
        refine hK1 _ ?_; clear hK1
        refine aw_reg fun K hK => ?_; simp (maxSteps := 1000000) (disch := omega) [-List.getD_eq_getElem?_getD]; refine hK _ ?_; clear hK K
        refine aw_ret ?_; simp (maxSteps := 1000000) (disch := omega) [-List.getD_eq_getElem?_getD]
        simp [hdg, hrun]
  clear hK1
  rcases index_cut s with ⟨h1, h2⟩ | ⟨i, h1, h2, h3⟩
  · rw [h1] at c1
    rw [h2] at key
    refine aw_reg fun K hK => ?_; simp (maxSteps := 1000000) (disch := omega) [-List.getD_eq_getElem?_getD]
    refine acall_is (c1) ?_; simp (maxSteps := 1000000) (disch := omega) [-List.getD_eq_getElem?_getD]
    refine hK _ ?_; clear hK K
    refine aw_reg fun K hK => ?_; simp (maxSteps := 1000000) (disch := omega) [-List.getD_eq_getElem?_getD]; refine hK _ ?_; clear hK K
    refine aw_if rfl (fun h => absurd h (by simp)) (fun h => ?_)
    refine aw_skip ?_; simp (maxSteps := 1000000) (disch := omega) [-List.getD_eq_getElem?_getD]
    exact key _ (by simp)
  · rw [h1] at c1
    rw [h3] at key
    refine aw_reg fun K hK => ?_; simp (maxSteps := 1000000) (disch := omega) [-List.getD_eq_getElem?_getD]
    refine acall_is (c1) ?_; simp (maxSteps := 1000000) (disch := omega) [-List.getD_eq_getElem?_getD]
    refine hK _ ?_; clear hK K
    refine aw_reg fun K hK => ?_; simp (maxSteps := 1000000) (disch := omega) [-List.getD_eq_getElem?_getD]; refine hK _ ?_; clear hK K
    refine aw_if rfl (fun h => ?_) (fun h => absurd h (by simp))
    refine aw_reg0 fun K hK => ?_; simp (maxSteps := 1000000) (disch := omega) [-List.getD_eq_getElem?_getD, h2]
    refine hK _ ?_; clear hK K
    exact key _ (by simp)
end Go.Proofs.Ytlemepdiegacbaa
