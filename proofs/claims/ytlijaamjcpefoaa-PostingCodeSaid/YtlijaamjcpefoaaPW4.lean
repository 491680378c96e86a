/- The reference's readers of layer 1.
   Conditions: lengths below 2^40. -/
import Derived.Test.YtlijaamjcpefoaaPW3
import Derived.Test.YtlijaamjcpefoaaWPl2
namespace Go.Proofs.Ytlijaamjcpefoaa
open Go Go.Am Wire
set_option linter.unusedVariables false

theorem tmod2 (u : Nat) : (u : Int).tmod 2 = ((u % 2 : Nat) : Int) := rfl
theorem tmod128 (u : Nat) : (u : Int).tmod 128 = ((u % 128 : Nat) : Int) := rfl
theorem tdiv2 (u : Nat) : (u : Int).tdiv 2 = ((u / 2 : Nat) : Int) := rfl

theorem unfolded_ok (u : Nat) (hu : u < 18446744073709551616) (H : List Blk) (T : Toks) : ACall Try.prog 103 [.int .u64 (u : Nat)] H T (Is (.int .i64 (unf u)) H T) := by
  have hw : IntKind.i64.wrap ((u / 2 : Nat) : Int) = ((u / 2 : Nat) : Int) := by rw [IntKind.wrap_i64]; omega
  refine acall_enter 4 [] Try.ntmps103 Try.func103 rfl (fun _ _ => Try.call103 _ _) (by simp) (fun HO => ?_)
  refine aw_reg fun K hK => ?_; simp (maxSteps := 1000000) (disch := omega) [-List.getD_eq_getElem?_getD]; refine hK _ ?_; clear hK K
  refine aw_then fun K1 hK1 => ?_
  by_cases h1 : u % 2 = 1
  · have b1 : (((u % 2 : Nat) : Int) == 0) = false := by rw [h1]; decide
    refine aw_reg fun K hK => ?_; simp (maxSteps := 1000000) (disch := omega) [-List.getD_eq_getElem?_getD, tmod2, b1, h1]; refine hK _ ?_; clear hK K
    refine aw_if rfl (fun h => absurd h (by simp)) (fun h => ?_)
    refine aw_skip ?_; simp (maxSteps := 1000000) (disch := omega) [-List.getD_eq_getElem?_getD]
    refine hK1 _ ?_; clear hK1
    refine aw_reg fun K hK => ?_; simp (maxSteps := 1000000) (disch := omega) [-List.getD_eq_getElem?_getD, tdiv2, hw]; refine hK _ ?_; clear hK K
    refine aw_ret ?_; simp (maxSteps := 1000000) (disch := omega) [-List.getD_eq_getElem?_getD]
    refine ⟨?_, rfl, rfl⟩
    simp only [unf, if_pos h1]
    congr 1
  · have h0 : u % 2 = 0 := by omega
    have b1 : (((u % 2 : Nat) : Int) == 0) = true := by rw [h0]; decide
    refine aw_reg fun K hK => ?_; simp (maxSteps := 1000000) (disch := omega) [-List.getD_eq_getElem?_getD, tmod2, b1, h0]; refine hK _ ?_; clear hK K
    refine aw_if rfl (fun h => ?_) (fun h => absurd h (by simp))
    refine aw_reg fun K hK => ?_; simp (maxSteps := 1000000) (disch := omega) [-List.getD_eq_getElem?_getD, tdiv2, hw]; refine hK _ ?_; clear hK K
    refine aw_ret ?_; simp (maxSteps := 1000000) (disch := omega) [-List.getD_eq_getElem?_getD]
    refine ⟨?_, rfl, rfl⟩
    simp only [unf, if_neg h1]
    congr 1

/-- The reference's group, as three results. -/
def gtup3 (at_ : Nat) (r : Int × Nat × Bool) : AV := .tup [.int .i64 r.1, .int .i64 ((if r.2.1 = 0 then 0 else at_ + r.2.1 : Nat) : Int), .bool r.2.2]

theorem rgl_stop (f k u : Nat) (l : List UInt8) (h : 10 ≤ k ∨ (k = 9 ∧ 129 < f)) : rgl f k u l = (0, 0, false) := by
  cases l with
  | nil => rfl
  | cons c r => rw [rgl, if_pos h]

theorem groupR_ok (bs : List UInt8) (at_ : Nat) (hs : at_ ≤ bs.length) (hb : bs.length ≤ 1099511627776) (H : List Blk) (T : Toks) (tg : Tag) :
    ACall Try.prog 99 [.sl bs.length (encB bs) tg, .int .i64 (at_ : Nat)] H T (Is (gtup3 at_ (rgroup bs at_)) H T) := by
  refine ACall.untag1 ?_
  refine acall_enter 9 [] Try.ntmps99 Try.func99 rfl (fun _ _ => Try.call99 _ _) (by simp) (fun HO => ?_)
  refine aw_reg fun K hK => ?_; simp (maxSteps := 1000000) (disch := omega) [-List.getD_eq_getElem?_getD]; refine hK _ ?_; clear hK K
  refine aw_reg fun K hK => ?_; simp (maxSteps := 1000000) (disch := omega) [-List.getD_eq_getElem?_getD]; refine hK _ ?_; clear hK K
  refine aw_then fun K1 hK1 => ?_
  refine aw_reg fun K hK => ?_; simp (maxSteps := 1000000) (disch := omega) [-List.getD_eq_getElem?_getD]; refine hK _ ?_; clear hK K
  refine aw_block ?_
  refine aw_loop (X := Nat × Nat) (fun x => ⟨[(0, .sl bs.length (encB bs) .none), (1, .int .i64 (at_ : Nat)), (7, .int .u64 (x.1 : Nat)), (8, .int .i64 ((at_ + x.2 : Nat) : Int))], H, T⟩)
    (fun x => x.2 ≤ 10 ∧ at_ + x.2 ≤ bs.length ∧ rgb (bs.getD at_ 0).toNat x.2 x.1 ∧ rgroup bs at_ = rgl (bs.getD at_ 0).toNat x.2 x.1 (bs.drop (at_ + x.2))) (fun x => 10 - x.2) (0, 0) ?_ ?_ ?_
  · exact ⟨by simp only; omega, hs, .inl ⟨rfl, rfl⟩, rfl⟩
  · refine weak_to [] [] ?_ ?_ ?_ ?_ HO ?_
    all_goals simp
  · rintro ⟨u, k⟩ ⟨h1, h2, h3, h4⟩
    simp only at h1 h2 h3 h4
    by_cases hi : at_ + k < bs.length
    · have bi : decide ((at_ : Int) + k < bs.length) = true := by simp; omega
      by_cases hk : k < 10
      · have bk : decide ((at_ : Int) + k < (at_ : Int) + 10) = true := by simp; omega
        have hat : at_ < bs.length := by omega
        have hkz : (k : Int) < 10 := by omega
        have hf : (bs.getD at_ 0).toNat < 256 := UInt8.toNat_lt _
        have hc : (bs.getD (at_ + k) 0).toNat < 256 := UInt8.toNat_lt _
        have hg0 := getD_encB hat
        have hgk := getD_encB hi
        rw [drop_cons' bs (at_ + k) hi, rgl] at h4
        have hkf : k = 0 → (bs.getD (at_ + k) 0).toNat = (bs.getD at_ 0).toNat := fun h => by rw [h]; rfl
        generalize hc' : (bs.getD (at_ + k) 0).toNat = c at *
        generalize hf' : (bs.getD at_ 0).toNat = f at *
        refine aw_then fun K2 hK2 => ?_
        refine aw_reg fun K hK => ?_; simp (maxSteps := 1000000) (disch := omega) [-List.getD_eq_getElem?_getD, bi, bk, hi, hk, hkz]; refine hK _ ?_; clear hK K
        refine aw_if rfl (fun h => ?_) (fun h => absurd h (by simp))
        refine aw_skip ?_; simp (maxSteps := 1000000) (disch := omega) [-List.getD_eq_getElem?_getD]
        refine hK2 _ ?_; clear hK2
        refine aw_then fun K3 hK3 => ?_
        refine aw_block ?_
        refine aw_then fun K4 hK4 => ?_
        refine aw_reg fun K hK => ?_
        have key : ∀ e b, b = decide (k = 9 ∧ 129 < f) → envLe H.length T.length e [(0, .sl bs.length (encB bs) .none), (1, .int .i64 (at_ : Nat)), (7, .int .u64 (u : Nat)), (8, .int .i64 ((at_ + k : Nat) : Int)), (32, .bool b)] → K ⟨e, H, T⟩ := by
          intro e b hb' he
          refine hK _ (aw_weak ⟨[(0, .sl bs.length (encB bs) .none), (1, .int .i64 (at_ : Nat)), (7, .int .u64 (u : Nat)), (8, .int .i64 ((at_ + k : Nat) : Int)), (32, .bool b)], H, T⟩ (weak_to [] [] (by simp) (by simp) (by simp) (by simp) HO he) ?_)
          by_cases h9 : k = 9 ∧ 129 < f
          · rw [decide_eq_true h9] at hb'
            subst hb'
            rw [if_pos (.inr h9)] at h4
            refine aw_if rfl (fun h => ?_) (fun h => absurd h (by simp))
            refine aw_reg fun K hK => ?_; simp (maxSteps := 1000000) (disch := omega) [-List.getD_eq_getElem?_getD]; refine hK _ ?_; clear hK K
            refine aw_ret ?_; simp (maxSteps := 1000000) (disch := omega) [-List.getD_eq_getElem?_getD]
            rw [h4]
            exact ⟨rfl, rfl, rfl⟩
          · rw [decide_eq_false h9] at hb'
            subst hb'
            rw [if_neg (by rintro (h | h); omega; exact h9 h)] at h4
            have hu := rgb_small h3 hf hk h9
            refine aw_if rfl (fun h => absurd h (by simp)) (fun h => ?_)
            refine aw_skip ?_; simp (maxSteps := 1000000) (disch := omega) [-List.getD_eq_getElem?_getD]
            refine hK4 _ ?_; clear hK4
            refine aw_reg fun K hK => ?_; simp (maxSteps := 1000000) (disch := omega) [-List.getD_eq_getElem?_getD, hgk, tmod128]; refine hK _ ?_; clear hK K
            have hv : u * 128 + c % 128 < 18446744073709551616 := by omega
            rw [show (128 * (u : Int) + (c : Int) % 128) = ((u * 128 + c % 128 : Nat) : Int) from by omega]
            by_cases hlt : c < 128
            · have bl : decide ((c : Int) < 128) = true := by simp; omega
              rw [if_pos hlt] at h4
              refine aw_reg fun K hK => ?_; simp (maxSteps := 1000000) (disch := omega) [-List.getD_eq_getElem?_getD, hgk, bl, hlt]; refine hK _ ?_; clear hK K
              refine aw_if rfl (fun h => ?_) (fun h => absurd h (by simp))
              by_cases hk0 : k = 0
              · subst hk0
                refine aw_draw [] [] [] drawMixed (by kernel_rfl) (by kernel_rfl) fun K hK => ?_; simp (maxSteps := 1000000) (disch := omega) [-List.getD_eq_getElem?_getD]
                refine dcall_is (unfolded_ok _ hv _ _) rfl ?_; simp (maxSteps := 1000000) (disch := omega) [-List.getD_eq_getElem?_getD]
                refine hK _ ?_; clear hK K
                refine aw_ret ?_; simp (maxSteps := 1000000) (disch := omega) [-List.getD_eq_getElem?_getD]
                rw [h4]
                refine ⟨?_, rfl, rfl⟩
                simp [gtup3]
              · have b5 : ((at_ : Int) + k == at_) = false := by rw [beq_eq_false_iff_ne]; omega
                by_cases hf0 : f = 128
                · have b6 : ((f : Int) != 128) = false := by rw [hf0]; decide
                  refine aw_draw [] [] [] drawMixed (by kernel_rfl) (by kernel_rfl) fun K hK => ?_; simp (maxSteps := 1000000) (disch := omega) [-List.getD_eq_getElem?_getD, b5, hk0]
                  refine dcall_is (unfolded_ok _ hv _ _) rfl ?_; simp (maxSteps := 1000000) (disch := omega) [-List.getD_eq_getElem?_getD, b5, hk0, hg0, b6, hf0]
                  refine hK _ ?_; clear hK K
                  refine aw_ret ?_; simp (maxSteps := 1000000) (disch := omega) [-List.getD_eq_getElem?_getD]
                  rw [h4]
                  refine ⟨?_, rfl, rfl⟩
                  simp [gtup3, hk0, hf0]
                  omega
                · have b6 : ((f : Int) != 128) = true := by rw [bne_iff_ne]; omega
                  refine aw_draw [] [] [] drawMixed (by kernel_rfl) (by kernel_rfl) fun K hK => ?_; simp (maxSteps := 1000000) (disch := omega) [-List.getD_eq_getElem?_getD, b5, hk0]
                  refine dcall_is (unfolded_ok _ hv _ _) rfl ?_; simp (maxSteps := 1000000) (disch := omega) [-List.getD_eq_getElem?_getD, b5, hk0, hg0, b6, hf0]
                  refine hK _ ?_; clear hK K
                  refine aw_ret ?_; simp (maxSteps := 1000000) (disch := omega) [-List.getD_eq_getElem?_getD]
                  rw [h4]
                  refine ⟨?_, rfl, rfl⟩
                  simp [gtup3, hk0, hf0]
                  omega
            · have bl : decide ((c : Int) < 128) = false := by simp; omega
              rw [if_neg hlt] at h4
              refine aw_reg fun K hK => ?_; simp (maxSteps := 1000000) (disch := omega) [-List.getD_eq_getElem?_getD, hgk, bl, hlt]; refine hK _ ?_; clear hK K
              refine aw_if rfl (fun h => absurd h (by simp)) (fun h => ?_)
              refine aw_skip ?_; simp (maxSteps := 1000000) (disch := omega) [-List.getD_eq_getElem?_getD]
              refine hK3 _ ?_; clear hK3
              refine aw_reg0 fun K hK => ?_; simp (maxSteps := 1000000) (disch := omega) [-List.getD_eq_getElem?_getD]
              refine hK _ ?_; clear hK K
              refine ⟨(u * 128 + c % 128, k + 1), ⟨by show k + 1 ≤ 10; omega, by show at_ + (k + 1) ≤ _; omega, rgb_step h3 hf hkf (by omega) hc, h4⟩, by show 10 - (k + 1) < 10 - k; omega, ?_⟩
              refine weak_to [] [] ?_ ?_ ?_ ?_ HO ?_
              · simp
              · simp
              · simp
              · simp
              · simp
                try omega
        clear hK
        by_cases h9 : k = 9
        · subst h9
          by_cases hf9 : 129 < f
          · have b2 : decide ((129 : Int) < f) = true := by simp; omega
            simp (maxSteps := 1000000) (disch := omega) [-List.getD_eq_getElem?_getD, hg0, b2, hf9]
            refine key _ true ?_ (by simp)
            simp [hf9]
          · have b2 : decide ((129 : Int) < f) = false := by simp; omega
            simp (maxSteps := 1000000) (disch := omega) [-List.getD_eq_getElem?_getD, hg0, b2, hf9]
            refine key _ false ?_ (by simp)
            simp [hf9]
        · have b1 : ((at_ : Int) + k == (at_ : Int) + 9) = false := by rw [beq_eq_false_iff_ne]; omega
          have hk9 : ¬ (k : Int) = 9 := by omega
          simp (maxSteps := 1000000) (disch := omega) [-List.getD_eq_getElem?_getD, b1, h9, hk9]
          refine key _ false ?_ (by simp)
          simp [h9]
      · have hkz : ¬ (k : Int) < 10 := by omega
        have bk : decide ((at_ : Int) + k < (at_ : Int) + 10) = false := by simp; omega
        rw [rgl_stop _ _ _ _ (.inl (by omega))] at h4
        refine aw_then fun K2 hK2 => ?_
        refine aw_reg fun K hK => ?_; simp (maxSteps := 1000000) (disch := omega) [-List.getD_eq_getElem?_getD, bi, bk, hi, hk, hkz]; refine hK _ ?_; clear hK K
        refine aw_if rfl (fun h => absurd h (by simp)) (fun h => ?_)
        refine aw_exit ?_; simp (maxSteps := 1000000) (disch := omega) [-List.getD_eq_getElem?_getD]
        refine hK1 _ ?_; clear hK1
        refine aw_reg fun K hK => ?_; simp (maxSteps := 1000000) (disch := omega) [-List.getD_eq_getElem?_getD]; refine hK _ ?_; clear hK K
        refine aw_ret ?_; simp (maxSteps := 1000000) (disch := omega) [-List.getD_eq_getElem?_getD]
        rw [h4]
        exact ⟨rfl, rfl, rfl⟩
    · have bi : decide ((at_ : Int) + k < bs.length) = false := by simp; omega
      rw [List.drop_eq_nil_of_le (by omega), rgl] at h4
      refine aw_then fun K2 hK2 => ?_
      refine aw_reg fun K hK => ?_; simp (maxSteps := 1000000) (disch := omega) [-List.getD_eq_getElem?_getD, bi, hi]; refine hK _ ?_; clear hK K
      refine aw_if rfl (fun h => absurd h (by simp)) (fun h => ?_)
      refine aw_exit ?_; simp (maxSteps := 1000000) (disch := omega) [-List.getD_eq_getElem?_getD]
      refine hK1 _ ?_; clear hK1
      refine aw_reg fun K hK => ?_; simp (maxSteps := 1000000) (disch := omega) [-List.getD_eq_getElem?_getD]; refine hK _ ?_; clear hK K
      refine aw_ret ?_; simp (maxSteps := 1000000) (disch := omega) [-List.getD_eq_getElem?_getD]
      rw [h4]
      exact ⟨rfl, rfl, rfl⟩
theorem rdIntR_ok (bs : List UInt8) (s : Rd) (lo hi : Int) (hs : s.at_ ≤ bs.length) (hb : bs.length ≤ 1099511627776) (H : List Blk) (T : Toks) (i : Nat) (hi_ : H[i]? = some (.cells (rd bs s))) :
    ACall Try.prog 83 [.ptr i 0, .int .i64 lo, .int .i64 hi] H T (Is (.int .i64 (rInt bs lo hi s).1) (H.set i (.cells (rd bs (rInt bs lo hi s).2))) T) := by
  have hl := (List.getElem?_eq_some_iff.1 hi_).1
  have hi' := (List.getElem?_eq_some_iff.1 hi_).2
  have hc := groupR_ok bs s.at_ hs hb H T .none
  have hgl := glen_le bs s.at_ hs
  refine acall_enter 10 [] Try.ntmps83 Try.func83 rfl (fun _ _ => Try.call83 _ _) (by simp) (fun HO => ?_)
  refine aw_reg fun K hK => ?_; simp (maxSteps := 1000000) (disch := omega) [-List.getD_eq_getElem?_getD]; refine hK _ ?_; clear hK K
  refine aw_draw [] [] [] drawMixed (by kernel_rfl) (by kernel_rfl) fun K hK => ?_; simp (maxSteps := 1000000) (disch := omega) [-List.getD_eq_getElem?_getD, hi_, hi', hl, rd]
  refine dcall_is (hc) rfl ?_; simp (maxSteps := 1000000) (disch := omega) [-List.getD_eq_getElem?_getD, gtup3]
  refine hK _ ?_; clear hK K
  refine aw_then fun K1 hK1 => ?_
  refine aw_reg fun K hK => ?_
  cases hg : rnum bs s.at_ with
  | none =>
    have h3 := rgroup_none hg
    generalize rgroup bs s.at_ = r at *
    obtain ⟨n, z, ok⟩ := r
    simp only at h3
    subst h3
    have hres : rInt bs lo hi s = (0, ⟨s.at_, true⟩) := by
      unfold rInt
      split
      · rename_i h
        obtain ⟨a, b⟩ := s
        simp only at h
        subst h
        rfl
      · rw [if_pos (.inl (by rw [hg]; rfl))]
    cases hbad : s.bad
    all_goals
      simp (maxSteps := 1000000) (disch := omega) [-List.getD_eq_getElem?_getD, hi_, hi', hl, rd, hbad]
      refine hK _ ?_
      refine aw_if rfl (fun h => ?_) (fun h => absurd h (by simp))
      refine aw_reg fun K hK => ?_; simp (maxSteps := 1000000) (disch := omega) [-List.getD_eq_getElem?_getD, hi_, hi', hl, rd, hbad]; refine hK _ ?_; clear hK K
      refine aw_reg fun K hK => ?_; simp (maxSteps := 1000000) (disch := omega) [-List.getD_eq_getElem?_getD]; refine hK _ ?_; clear hK K
      refine aw_ret ?_; simp (maxSteps := 1000000) (disch := omega) [-List.getD_eq_getElem?_getD]
      rw [hres]
      exact ⟨rfl, rfl, rfl⟩
  | some p =>
    obtain ⟨v, z⟩ := p
    have h3 := rgroup_some hg
    rw [h3]
    obtain ⟨f1, f2, f3⟩ := rnum_facts hg
    have hub := unf_bounds f1
    have hgl' : glen (rnum bs s.at_) = z := by rw [hg]; rfl
    have hgn' : gnum (rnum bs s.at_) = unf v := by rw [hg]; rfl
    have hz : ¬ z = 0 := by omega
    cases hbad : s.bad
    · by_cases h1 : unf v < lo
      · have b1 : decide (unf v < lo) = true := by simpa using h1
        have hres : rInt bs lo hi s = (0, ⟨s.at_, true⟩) := by
          unfold rInt
          rw [hbad, hgl', hgn', if_neg (by decide), if_pos (.inr (.inl h1))]
        simp (maxSteps := 1000000) (disch := omega) [-List.getD_eq_getElem?_getD, hi_, hi', hl, rd, hbad, b1, h1]
        refine hK _ ?_
        refine aw_if rfl (fun h => ?_) (fun h => absurd h (by simp))
        refine aw_reg fun K hK => ?_; simp (maxSteps := 1000000) (disch := omega) [-List.getD_eq_getElem?_getD, hi_, hi', hl, rd, hbad]; refine hK _ ?_; clear hK K
        refine aw_reg fun K hK => ?_; simp (maxSteps := 1000000) (disch := omega) [-List.getD_eq_getElem?_getD]; refine hK _ ?_; clear hK K
        refine aw_ret ?_; simp (maxSteps := 1000000) (disch := omega) [-List.getD_eq_getElem?_getD]
        rw [hres]
        exact ⟨rfl, rfl, rfl⟩
      · have b1 : decide (unf v < lo) = false := by simpa using h1
        by_cases h2 : hi < unf v
        · have b2 : decide (hi < unf v) = true := by simpa using h2
          have hres : rInt bs lo hi s = (0, ⟨s.at_, true⟩) := by
            unfold rInt
            rw [hbad, hgl', hgn', if_neg (by decide), if_pos (.inr (.inr h2))]
          simp (maxSteps := 1000000) (disch := omega) [-List.getD_eq_getElem?_getD, hi_, hi', hl, rd, hbad, b1, h1, b2, h2]
          refine hK _ ?_
          refine aw_if rfl (fun h => ?_) (fun h => absurd h (by simp))
          refine aw_reg fun K hK => ?_; simp (maxSteps := 1000000) (disch := omega) [-List.getD_eq_getElem?_getD, hi_, hi', hl, rd, hbad]; refine hK _ ?_; clear hK K
          refine aw_reg fun K hK => ?_; simp (maxSteps := 1000000) (disch := omega) [-List.getD_eq_getElem?_getD]; refine hK _ ?_; clear hK K
          refine aw_ret ?_; simp (maxSteps := 1000000) (disch := omega) [-List.getD_eq_getElem?_getD]
          rw [hres]
          exact ⟨rfl, rfl, rfl⟩
        · have b2 : decide (hi < unf v) = false := by simpa using h2
          have hres : rInt bs lo hi s = (unf v, ⟨s.at_ + z, false⟩) := by
            unfold rInt
            rw [hbad, hgl', hgn', if_neg (by decide), if_neg (by rintro (h | h | h); exact hz h; exact h1 h; exact h2 h)]
          simp (maxSteps := 1000000) (disch := omega) [-List.getD_eq_getElem?_getD, hi_, hi', hl, rd, hbad, b1, h1, b2, h2]
          refine hK _ ?_
          refine aw_if rfl (fun h => absurd h (by simp)) (fun h => ?_)
          refine aw_skip ?_; simp (maxSteps := 1000000) (disch := omega) [-List.getD_eq_getElem?_getD]
          refine hK1 _ ?_; clear hK1
          refine aw_reg fun K hK => ?_; simp (maxSteps := 1000000) (disch := omega) [-List.getD_eq_getElem?_getD, hi_, hi', hl, rd, hbad, hz]; refine hK _ ?_; clear hK K
          refine aw_reg fun K hK => ?_; simp (maxSteps := 1000000) (disch := omega) [-List.getD_eq_getElem?_getD]; refine hK _ ?_; clear hK K
          refine aw_ret ?_; simp (maxSteps := 1000000) (disch := omega) [-List.getD_eq_getElem?_getD]
          rw [hres]
          exact ⟨rfl, rfl, rfl⟩
    · have hres : rInt bs lo hi s = (0, ⟨s.at_, true⟩) := by
        unfold rInt
        rw [if_pos hbad]
        obtain ⟨a, b⟩ := s
        simp only at hbad
        subst hbad
        rfl
      simp (maxSteps := 1000000) (disch := omega) [-List.getD_eq_getElem?_getD, hi_, hi', hl, rd, hbad]
      refine hK _ ?_
      refine aw_if rfl (fun h => ?_) (fun h => absurd h (by simp))
      refine aw_reg fun K hK => ?_; simp (maxSteps := 1000000) (disch := omega) [-List.getD_eq_getElem?_getD, hi_, hi', hl, rd, hbad]; refine hK _ ?_; clear hK K
      refine aw_reg fun K hK => ?_; simp (maxSteps := 1000000) (disch := omega) [-List.getD_eq_getElem?_getD]; refine hK _ ?_; clear hK K
      refine aw_ret ?_; simp (maxSteps := 1000000) (disch := omega) [-List.getD_eq_getElem?_getD]
      rw [hres]
      exact ⟨rfl, rfl, rfl⟩

theorem restR_ok (bs : List UInt8) (s : Rd) (hs : s.at_ ≤ bs.length) (hb : bs.length ≤ 1099511627776) (H : List Blk) (T : Toks) (i : Nat) (hi_ : H[i]? = some (.cells (rd bs s))) :
    ACall Try.prog 100 [.ptr i 0] H T (Is (.int .i64 ((bs.length - s.at_ : Nat) : Int)) H T) := by
  have hl := (List.getElem?_eq_some_iff.1 hi_).1
  have hi' := (List.getElem?_eq_some_iff.1 hi_).2
  refine acall_enter 3 [] Try.ntmps100 Try.func100 rfl (fun _ _ => Try.call100 _ _) (by simp) (fun HO => ?_)
  refine aw_reg fun K hK => ?_; simp (maxSteps := 1000000) (disch := omega) [-List.getD_eq_getElem?_getD]; refine hK _ ?_; clear hK K
  refine aw_draw [] [] [] drawMixed (by kernel_rfl) (by kernel_rfl) fun K hK => ?_; simp (maxSteps := 1000000) (disch := omega) [-List.getD_eq_getElem?_getD, hi_, hi', hl, rd]
  refine hK _ ?_; clear hK K
  refine aw_ret ?_; simp (maxSteps := 1000000) (disch := omega) [-List.getD_eq_getElem?_getD]
  refine ⟨?_, rfl, rfl⟩
  congr 1
  omega

theorem doneR_ok (bs : List UInt8) (s : Rd) (hs : s.at_ ≤ bs.length) (hb : bs.length ≤ 1099511627776) (H : List Blk) (T : Toks) (i : Nat) (hi_ : H[i]? = some (.cells (rd bs s))) :
    ACall Try.prog 84 [.ptr i 0] H T (Is (.int .i64 (rDone bs s)) H T) := by
  have hl := (List.getElem?_eq_some_iff.1 hi_).1
  have hi' := (List.getElem?_eq_some_iff.1 hi_).2
  have hc := restR_ok bs s hs hb H T i hi_
  refine acall_enter 3 [] Try.ntmps84 Try.func84 rfl (fun _ _ => Try.call84 _ _) (by simp) (fun HO => ?_)
  refine aw_reg fun K hK => ?_; simp (maxSteps := 1000000) (disch := omega) [-List.getD_eq_getElem?_getD]; refine hK _ ?_; clear hK K
  refine aw_then fun K1 hK1 => ?_
  cases hbad : s.bad
  · by_cases h1 : s.at_ < bs.length
    · have b1 : decide ((0 : Int) < ((bs.length - s.at_ : Nat) : Int)) = true := by simp; omega
      have b2 : (0 : Int) < ((bs.length - s.at_ : Nat) : Int) := by omega
      have b3 : 0 < bs.length - s.at_ := by omega
      refine aw_reg fun K hK => ?_; simp (maxSteps := 1000000) (disch := omega) [-List.getD_eq_getElem?_getD, hi_, hi', hl, rd, hbad]
      refine acall_is (hc) ?_; simp (maxSteps := 1000000) (disch := omega) [-List.getD_eq_getElem?_getD, b1, b2, b3, h1]
      refine hK _ ?_; clear hK K
      refine aw_if rfl (fun h => ?_) (fun h => absurd h (by simp))
      refine aw_reg fun K hK => ?_; simp (maxSteps := 1000000) (disch := omega) [-List.getD_eq_getElem?_getD]; refine hK _ ?_; clear hK K
      refine aw_ret ?_; simp (maxSteps := 1000000) (disch := omega) [-List.getD_eq_getElem?_getD]
      unfold rDone
      rw [if_pos (.inr h1)]
      exact ⟨rfl, rfl, rfl⟩
    · have b3 : bs.length - s.at_ = 0 := by omega
      rw [b3] at hc
      refine aw_reg fun K hK => ?_; simp (maxSteps := 1000000) (disch := omega) [-List.getD_eq_getElem?_getD, hi_, hi', hl, rd, hbad]
      refine acall_is (hc) ?_; simp (maxSteps := 1000000) (disch := omega) [-List.getD_eq_getElem?_getD]
      refine hK _ ?_; clear hK K
      refine aw_if rfl (fun h => absurd h (by simp)) (fun h => ?_)
      refine aw_skip ?_; simp (maxSteps := 1000000) (disch := omega) [-List.getD_eq_getElem?_getD]
      refine hK1 _ ?_; clear hK1
      refine aw_reg fun K hK => ?_; simp (maxSteps := 1000000) (disch := omega) [-List.getD_eq_getElem?_getD]; refine hK _ ?_; clear hK K
      refine aw_ret ?_; simp (maxSteps := 1000000) (disch := omega) [-List.getD_eq_getElem?_getD]
      unfold rDone
      rw [if_neg (by rw [hbad]; rintro (h | h); cases h; exact h1 h)]
      exact ⟨rfl, rfl, rfl⟩
  · refine aw_reg fun K hK => ?_; simp (maxSteps := 1000000) (disch := omega) [-List.getD_eq_getElem?_getD, hi_, hi', hl, rd, hbad]; refine hK _ ?_; clear hK K
    refine aw_if rfl (fun h => ?_) (fun h => absurd h (by simp))
    refine aw_reg fun K hK => ?_; simp (maxSteps := 1000000) (disch := omega) [-List.getD_eq_getElem?_getD]; refine hK _ ?_; clear hK K
    refine aw_ret ?_; simp (maxSteps := 1000000) (disch := omega) [-List.getD_eq_getElem?_getD]
    unfold rDone
    rw [if_pos (.inl hbad)]
    exact ⟨rfl, rfl, rfl⟩

end Go.Proofs.Ytlijaamjcpefoaa
