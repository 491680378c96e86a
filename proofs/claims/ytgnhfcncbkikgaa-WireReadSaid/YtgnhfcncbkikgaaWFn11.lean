/- The reference's readers of layer 1.
   Conditions: lengths below 2^40. -/
import Derived.Test.YtgnhfcncbkikgaaWFn10
namespace Go.Proofs.Ytgnhfcncbkikgaa
open Go Go.Am Wire
set_option linter.unusedVariables false

theorem intR_ok (bs : List UInt8) (s : Rd) (lo hi : Int) (hs : s.at_ ≤ bs.length) (hb : bs.length ≤ 1099511627776) (H : List Blk) (T : Toks) (i : Nat) (hi_ : H[i]? = some (.cells (rd bs s))) :
    ACall Try.prog 34 [.ptr i 0, .int .i64 lo, .int .i64 hi] H T (Is (.int .i64 (rInt bs lo hi s).1) (H.set i (.cells (rd bs (rInt bs lo hi s).2))) T) := by
  have hl := (List.getElem?_eq_some_iff.1 hi_).1
  have hi' := (List.getElem?_eq_some_iff.1 hi_).2
  have hc := groupR_ok bs s.at_ hs hb H T .none
  have hgl := glen_le bs s.at_ hs
  refine acall_enter 10 [] Try.ntmps34 Try.func34 rfl (fun _ _ => Try.call34 _ _) (by simp) (fun HO => ?_)
  refine aw_reg fun K hK => ?_; simp (maxSteps := 200000) (disch := omega) [-List.getD_eq_getElem?_getD]; refine hK _ ?_; clear hK K
  refine aw_draw [] [] [] drawMixed (by kernel_rfl) (by kernel_rfl) fun K hK => ?_; simp (maxSteps := 200000) (disch := omega) [-List.getD_eq_getElem?_getD, hi_, hi', hl, rd]
  refine dcall_is (hc) rfl ?_; simp (maxSteps := 200000) (disch := omega) [-List.getD_eq_getElem?_getD, gtup3]
  refine hK _ ?_; clear hK K
  refine aw_then fun K1 hK1 => ?_
  refine aw_reg fun K hK => ?_
  cases hg : rnum bs s.at_ with
  | none =>
    have h3 := rgroup_none hg
    generalize rgroup bs s.at_ = r at *
    obtain ⟨n, z, ok⟩ := r
    simp only at h3
    subst h3
    have hres : rInt bs lo hi s = (0, ⟨s.at_, true⟩) := by
      unfold rInt
      split
      · rename_i h
        obtain ⟨a, b⟩ := s
        simp only at h
        subst h
        rfl
      · rw [if_pos (.inl (by rw [hg]; rfl))]
    cases hbad : s.bad
    all_goals
      simp (maxSteps := 200000) (disch := omega) [-List.getD_eq_getElem?_getD, hi_, hi', hl, rd, hbad]
      refine hK _ ?_
      refine aw_if rfl (fun h => ?_) (fun h => absurd h (by simp))
      refine aw_reg fun K hK => ?_; simp (maxSteps := 200000) (disch := omega) [-List.getD_eq_getElem?_getD, hi_, hi', hl, rd, hbad]; refine hK _ ?_; clear hK K
      refine aw_reg fun K hK => ?_; simp (maxSteps := 200000) (disch := omega) [-List.getD_eq_getElem?_getD]; refine hK _ ?_; clear hK K
      refine aw_ret ?_; simp (maxSteps := 200000) (disch := omega) [-List.getD_eq_getElem?_getD]
      rw [hres]
      exact ⟨rfl, rfl, rfl⟩
  | some p =>
    obtain ⟨v, z⟩ := p
    have h3 := rgroup_some hg
    rw [h3]
    obtain ⟨f1, f2, f3⟩ := rnum_facts hg
    have hub := unf_bounds f1
    have hgl' : glen (rnum bs s.at_) = z := by rw [hg]; rfl
    have hgn' : gnum (rnum bs s.at_) = unf v := by rw [hg]; rfl
    have hz : ¬ z = 0 := by omega
    cases hbad : s.bad
    · by_cases h1 : unf v < lo
      · have b1 : decide (unf v < lo) = true := by simpa using h1
        have hres : rInt bs lo hi s = (0, ⟨s.at_, true⟩) := by
          unfold rInt
          rw [hbad, hgl', hgn', if_neg (by decide), if_pos (.inr (.inl h1))]
        simp (maxSteps := 200000) (disch := omega) [-List.getD_eq_getElem?_getD, hi_, hi', hl, rd, hbad, b1, h1]
        refine hK _ ?_
        refine aw_if rfl (fun h => ?_) (fun h => absurd h (by simp))
        refine aw_reg fun K hK => ?_; simp (maxSteps := 200000) (disch := omega) [-List.getD_eq_getElem?_getD, hi_, hi', hl, rd, hbad]; refine hK _ ?_; clear hK K
        refine aw_reg fun K hK => ?_; simp (maxSteps := 200000) (disch := omega) [-List.getD_eq_getElem?_getD]; refine hK _ ?_; clear hK K
        refine aw_ret ?_; simp (maxSteps := 200000) (disch := omega) [-List.getD_eq_getElem?_getD]
        rw [hres]
        exact ⟨rfl, rfl, rfl⟩
      · have b1 : decide (unf v < lo) = false := by simpa using h1
        by_cases h2 : hi < unf v
        · have b2 : decide (hi < unf v) = true := by simpa using h2
          have hres : rInt bs lo hi s = (0, ⟨s.at_, true⟩) := by
            unfold rInt
            rw [hbad, hgl', hgn', if_neg (by decide), if_pos (.inr (.inr h2))]
          simp (maxSteps := 200000) (disch := omega) [-List.getD_eq_getElem?_getD, hi_, hi', hl, rd, hbad, b1, h1, b2, h2]
          refine hK _ ?_
          refine aw_if rfl (fun h => ?_) (fun h => absurd h (by simp))
          refine aw_reg fun K hK => ?_; simp (maxSteps := 200000) (disch := omega) [-List.getD_eq_getElem?_getD, hi_, hi', hl, rd, hbad]; refine hK _ ?_; clear hK K
          refine aw_reg fun K hK => ?_; simp (maxSteps := 200000) (disch := omega) [-List.getD_eq_getElem?_getD]; refine hK _ ?_; clear hK K
          refine aw_ret ?_; simp (maxSteps := 200000) (disch := omega) [-List.getD_eq_getElem?_getD]
          rw [hres]
          exact ⟨rfl, rfl, rfl⟩
        · have b2 : decide (hi < unf v) = false := by simpa using h2
          have hres : rInt bs lo hi s = (unf v, ⟨s.at_ + z, false⟩) := by
            unfold rInt
            rw [hbad, hgl', hgn', if_neg (by decide), if_neg (by rintro (h | h | h); exact hz h; exact h1 h; exact h2 h)]
          simp (maxSteps := 200000) (disch := omega) [-List.getD_eq_getElem?_getD, hi_, hi', hl, rd, hbad, b1, h1, b2, h2]
          refine hK _ ?_
          refine aw_if rfl (fun h => absurd h (by simp)) (fun h => ?_)
          refine aw_skip ?_; simp (maxSteps := 200000) (disch := omega) [-List.getD_eq_getElem?_getD]
          refine hK1 _ ?_; clear hK1
          refine aw_reg fun K hK => ?_; simp (maxSteps := 200000) (disch := omega) [-List.getD_eq_getElem?_getD, hi_, hi', hl, rd, hbad, hz]; refine hK _ ?_; clear hK K
          refine aw_reg fun K hK => ?_; simp (maxSteps := 200000) (disch := omega) [-List.getD_eq_getElem?_getD]; refine hK _ ?_; clear hK K
          refine aw_ret ?_; simp (maxSteps := 200000) (disch := omega) [-List.getD_eq_getElem?_getD]
          rw [hres]
          exact ⟨rfl, rfl, rfl⟩
    · have hres : rInt bs lo hi s = (0, ⟨s.at_, true⟩) := by
        unfold rInt
        rw [if_pos hbad]
        obtain ⟨a, b⟩ := s
        simp only at hbad
        subst hbad
        rfl
      simp (maxSteps := 200000) (disch := omega) [-List.getD_eq_getElem?_getD, hi_, hi', hl, rd, hbad]
      refine hK _ ?_
      refine aw_if rfl (fun h => ?_) (fun h => absurd h (by simp))
      refine aw_reg fun K hK => ?_; simp (maxSteps := 200000) (disch := omega) [-List.getD_eq_getElem?_getD, hi_, hi', hl, rd, hbad]; refine hK _ ?_; clear hK K
      refine aw_reg fun K hK => ?_; simp (maxSteps := 200000) (disch := omega) [-List.getD_eq_getElem?_getD]; refine hK _ ?_; clear hK K
      refine aw_ret ?_; simp (maxSteps := 200000) (disch := omega) [-List.getD_eq_getElem?_getD]
      rw [hres]
      exact ⟨rfl, rfl, rfl⟩

theorem boolR_ok (bs : List UInt8) (s : Rd) (hs : s.at_ ≤ bs.length) (hb : bs.length ≤ 1099511627776) (H : List Blk) (T : Toks) (i : Nat) (hi_ : H[i]? = some (.cells (rd bs s))) :
    ACall Try.prog 35 [.ptr i 0] H T (Is (.bool ((rInt bs 0 1 s).1 == 1)) (H.set i (.cells (rd bs (rInt bs 0 1 s).2))) T) := by
  refine acall_enter 3 [] Try.ntmps35 Try.func35 rfl (fun _ _ => Try.call35 _ _) (by simp) (fun HO => ?_)
  refine aw_reg fun K hK => ?_; simp (maxSteps := 200000) (disch := omega) [-List.getD_eq_getElem?_getD]; refine hK _ ?_; clear hK K
  refine aw_reg fun K hK => ?_; simp (maxSteps := 200000) (disch := omega) [-List.getD_eq_getElem?_getD]
  refine acall_is (intR_ok bs s 0 1 hs hb H T i hi_) ?_; simp (maxSteps := 200000) (disch := omega) [-List.getD_eq_getElem?_getD]
  refine hK _ ?_; clear hK K
  refine aw_ret ?_; simp (maxSteps := 200000) (disch := omega) [-List.getD_eq_getElem?_getD]
  exact ⟨rfl, rfl, rfl⟩

theorem restR_ok (bs : List UInt8) (s : Rd) (hs : s.at_ ≤ bs.length) (hb : bs.length ≤ 1099511627776) (H : List Blk) (T : Toks) (i : Nat) (hi_ : H[i]? = some (.cells (rd bs s))) :
    ACall Try.prog 17 [.ptr i 0] H T (Is (.int .i64 ((bs.length - s.at_ : Nat) : Int)) H T) := by
  have hl := (List.getElem?_eq_some_iff.1 hi_).1
  have hi' := (List.getElem?_eq_some_iff.1 hi_).2
  refine acall_enter 3 [] Try.ntmps17 Try.func17 rfl (fun _ _ => Try.call17 _ _) (by simp) (fun HO => ?_)
  refine aw_reg fun K hK => ?_; simp (maxSteps := 200000) (disch := omega) [-List.getD_eq_getElem?_getD]; refine hK _ ?_; clear hK K
  refine aw_draw [] [] [] drawMixed (by kernel_rfl) (by kernel_rfl) fun K hK => ?_; simp (maxSteps := 200000) (disch := omega) [-List.getD_eq_getElem?_getD, hi_, hi', hl, rd]
  refine hK _ ?_; clear hK K
  refine aw_ret ?_; simp (maxSteps := 200000) (disch := omega) [-List.getD_eq_getElem?_getD]
  refine ⟨?_, rfl, rfl⟩
  congr 1
  omega

theorem doneR_ok (bs : List UInt8) (s : Rd) (hs : s.at_ ≤ bs.length) (hb : bs.length ≤ 1099511627776) (H : List Blk) (T : Toks) (i : Nat) (hi_ : H[i]? = some (.cells (rd bs s))) :
    ACall Try.prog 19 [.ptr i 0] H T (Is (.int .i64 (rDone bs s)) H T) := by
  have hl := (List.getElem?_eq_some_iff.1 hi_).1
  have hi' := (List.getElem?_eq_some_iff.1 hi_).2
  have hc := restR_ok bs s hs hb H T i hi_
  refine acall_enter 3 [] Try.ntmps19 Try.func19 rfl (fun _ _ => Try.call19 _ _) (by simp) (fun HO => ?_)
  refine aw_reg fun K hK => ?_; simp (maxSteps := 200000) (disch := omega) [-List.getD_eq_getElem?_getD]; refine hK _ ?_; clear hK K
  refine aw_then fun K1 hK1 => ?_
  cases hbad : s.bad
  · by_cases h1 : s.at_ < bs.length
    · have b1 : decide ((0 : Int) < ((bs.length - s.at_ : Nat) : Int)) = true := by simp; omega
      have b2 : (0 : Int) < ((bs.length - s.at_ : Nat) : Int) := by omega
      have b3 : 0 < bs.length - s.at_ := by omega
      refine aw_reg fun K hK => ?_; simp (maxSteps := 200000) (disch := omega) [-List.getD_eq_getElem?_getD, hi_, hi', hl, rd, hbad]
      refine acall_is (hc) ?_; simp (maxSteps := 200000) (disch := omega) [-List.getD_eq_getElem?_getD, b1, b2, b3, h1]
      refine hK _ ?_; clear hK K
      refine aw_if rfl (fun h => ?_) (fun h => absurd h (by simp))
      refine aw_reg fun K hK => ?_; simp (maxSteps := 200000) (disch := omega) [-List.getD_eq_getElem?_getD]; refine hK _ ?_; clear hK K
      refine aw_ret ?_; simp (maxSteps := 200000) (disch := omega) [-List.getD_eq_getElem?_getD]
      unfold rDone
      rw [if_pos (.inr h1)]
      exact ⟨rfl, rfl, rfl⟩
    · have b3 : bs.length - s.at_ = 0 := by omega
      rw [b3] at hc
      refine aw_reg fun K hK => ?_; simp (maxSteps := 200000) (disch := omega) [-List.getD_eq_getElem?_getD, hi_, hi', hl, rd, hbad]
      refine acall_is (hc) ?_; simp (maxSteps := 200000) (disch := omega) [-List.getD_eq_getElem?_getD]
      refine hK _ ?_; clear hK K
      refine aw_if rfl (fun h => absurd h (by simp)) (fun h => ?_)
      refine aw_skip ?_; simp (maxSteps := 200000) (disch := omega) [-List.getD_eq_getElem?_getD]
      refine hK1 _ ?_; clear hK1
      refine aw_reg fun K hK => ?_; simp (maxSteps := 200000) (disch := omega) [-List.getD_eq_getElem?_getD]; refine hK _ ?_; clear hK K
      refine aw_ret ?_; simp (maxSteps := 200000) (disch := omega) [-List.getD_eq_getElem?_getD]
      unfold rDone
      rw [if_neg (by rw [hbad]; rintro (h | h); cases h; exact h1 h)]
      exact ⟨rfl, rfl, rfl⟩
  · refine aw_reg fun K hK => ?_; simp (maxSteps := 200000) (disch := omega) [-List.getD_eq_getElem?_getD, hi_, hi', hl, rd, hbad]; refine hK _ ?_; clear hK K
    refine aw_if rfl (fun h => ?_) (fun h => absurd h (by simp))
    refine aw_reg fun K hK => ?_; simp (maxSteps := 200000) (disch := omega) [-List.getD_eq_getElem?_getD]; refine hK _ ?_; clear hK K
    refine aw_ret ?_; simp (maxSteps := 200000) (disch := omega) [-List.getD_eq_getElem?_getD]
    unfold rDone
    rw [if_pos (.inl hbad)]
    exact ⟨rfl, rfl, rfl⟩

theorem textR_ok (bs : List UInt8) (s : Rd) (mx : Int) (hs : s.at_ ≤ bs.length) (hb : bs.length ≤ 1099511627776) (H : List Blk) (T : Toks) (i : Nat) (hi_ : H[i]? = some (.cells (rd bs s))) :
    ACall Try.prog 36 [.ptr i 0, .int .i64 mx] H T (Is (.str (rText bs mx s).1) (H.set i (.cells (rd bs (rText bs mx s).2))) T) := by
  have hl := (List.getElem?_eq_some_iff.1 hi_).1
  have hi' := (List.getElem?_eq_some_iff.1 hi_).2
  have hle := rInt_le bs 0 mx s hs
  have hnn := rInt_nonneg bs mx s
  have hc := intR_ok bs s 0 mx hs hb H T i hi_
  unfold rText
  refine acall_enter 7 [] Try.ntmps36 Try.func36 rfl (fun _ _ => Try.call36 _ _) (by simp) (fun HO => ?_)
  refine aw_reg fun K hK => ?_; simp (maxSteps := 200000) (disch := omega) [-List.getD_eq_getElem?_getD]; refine hK _ ?_; clear hK K
  refine aw_reg fun K hK => ?_; simp (maxSteps := 200000) (disch := omega) [-List.getD_eq_getElem?_getD, hi_, hi', hl, rd]; refine hK _ ?_; clear hK K
  refine aw_reg fun K hK => ?_; simp (maxSteps := 200000) (disch := omega) [-List.getD_eq_getElem?_getD]
  refine acall_is (hc) ?_; simp (maxSteps := 200000) (disch := omega) [-List.getD_eq_getElem?_getD]
  refine hK _ ?_; clear hK K
  have hup := (rInt_i64 bs 0 mx s).2
  generalize hv : (rInt bs 0 mx s).1 = v at *
  generalize hq : (rInt bs 0 mx s).2 = q at *
  have hset : (H.set i (Blk.cells (rd bs q)))[i]? = some (.cells (rd bs q)) := by simp [hl]
  clear hc
  refine aw_then fun K1 hK1 => ?_
  cases hbad : q.bad
  · refine aw_draw [] [] [] drawMixed (by kernel_rfl) (by kernel_rfl) fun K hK => ?_; simp (maxSteps := 200000) (disch := omega) [-List.getD_eq_getElem?_getD, hl, rd, hbad]
    refine hK _ ?_; clear hK K
    refine aw_if rfl (fun h => ?_) (fun h => ?_)
    · simp at h
      refine aw_reg fun K hK => ?_; simp (maxSteps := 200000) (disch := omega) [-List.getD_eq_getElem?_getD, hl]; refine hK _ ?_; clear hK K
      refine aw_reg fun K hK => ?_; simp (maxSteps := 200000) (disch := omega) [-List.getD_eq_getElem?_getD]; refine hK _ ?_; clear hK K
      refine aw_ret ?_; simp (maxSteps := 200000) (disch := omega) [-List.getD_eq_getElem?_getD]
      exact ⟨rfl, rfl, rfl⟩
    · simp at h
      have hn : ¬ (q.bad = true ∨ v > (bs.length : Int) - q.at_) := by rw [hbad]; simp; omega
      have e2 : (q.at_ : Int) + v = ((q.at_ + v.toNat : Nat) : Int) := by omega
      have e3 : (q.at_ : Int) + v - v = (q.at_ : Int) := by omega
      refine aw_skip ?_; simp (maxSteps := 200000) (disch := omega) [-List.getD_eq_getElem?_getD]
      refine hK1 _ ?_; clear hK1
      refine aw_reg fun K hK => ?_; simp (maxSteps := 200000) (disch := omega) [-List.getD_eq_getElem?_getD, hl]; refine hK _ ?_; clear hK K
      refine aw_draw [] [] [] drawMixed (by kernel_rfl) (by kernel_rfl) fun K hK => ?_; simp (maxSteps := 200000) (disch := omega) [-List.getD_eq_getElem?_getD, hl, encB_drop, encB_take, e3]
      refine hK _ ?_; clear hK K
      refine aw_ret ?_; simp (maxSteps := 200000) (disch := omega) [-List.getD_eq_getElem?_getD]
      simp only [hbad, rd, ← e2]
      exact ⟨rfl, rfl, rfl⟩
  · refine aw_draw [] [] [] drawMixed (by kernel_rfl) (by kernel_rfl) fun K hK => ?_; simp (maxSteps := 200000) (disch := omega) [-List.getD_eq_getElem?_getD, hl, rd, hbad]
    refine hK _ ?_; clear hK K
    refine aw_if rfl (fun h => ?_) (fun h => absurd h (by simp))
    refine aw_reg fun K hK => ?_; simp (maxSteps := 200000) (disch := omega) [-List.getD_eq_getElem?_getD, hl]; refine hK _ ?_; clear hK K
    refine aw_reg fun K hK => ?_; simp (maxSteps := 200000) (disch := omega) [-List.getD_eq_getElem?_getD]; refine hK _ ?_; clear hK K
    refine aw_ret ?_; simp (maxSteps := 200000) (disch := omega) [-List.getD_eq_getElem?_getD]
    exact ⟨rfl, rfl, rfl⟩

theorem intsR_ok (bs : List UInt8) (s : Rd) (mx lo hi : Int) (hs : s.at_ ≤ bs.length) (hb : bs.length ≤ 1099511627776) (H : List Blk) (T : Toks) (i : Nat) (hi_ : H[i]? = some (.cells (rd bs s))) :
    ACall Try.prog 37 [.ptr i 0, .int .i64 mx, .int .i64 lo, .int .i64 hi] H T
      (Is (.sl (rList bs mx (rInt bs lo hi) s).1.length (ints (rList bs mx (rInt bs lo hi) s).1) .none) (H.set i (.cells (rd bs (rList bs mx (rInt bs lo hi) s).2))) T) := by
  have hl := (List.getElem?_eq_some_iff.1 hi_).1
  have hi' := (List.getElem?_eq_some_iff.1 hi_).2
  have hc0 := intR_ok bs s 0 mx hs hb H T i hi_
  have hle := rInt_le bs 0 mx s hs
  have hnn := rInt_nonneg bs mx s
  have hup := (rInt_i64 bs 0 mx s).2
  refine ACall.cut _ T (by simp) (Nat.le_refl _) (fun h => h.set (by simp [rd])) (by simp) ?_
  refine acall_enter 13 [] Try.ntmps37 Try.func37 rfl (fun _ _ => Try.call37 _ _) (by simp) (fun HO => ?_)
  refine aw_reg fun K hK => ?_; simp (maxSteps := 200000) (disch := omega) [-List.getD_eq_getElem?_getD]; refine hK _ ?_; clear hK K
  refine aw_reg fun K hK => ?_; simp (maxSteps := 200000) (disch := omega) [-List.getD_eq_getElem?_getD, hi_, hi', hl, rd]; refine hK _ ?_; clear hK K
  refine aw_reg fun K hK => ?_; simp (maxSteps := 200000) (disch := omega) [-List.getD_eq_getElem?_getD]
  refine acall_is (hc0) ?_; simp (maxSteps := 200000) (disch := omega) [-List.getD_eq_getElem?_getD]
  refine hK _ ?_; clear hK K
  refine aw_reg fun K hK => ?_; simp (maxSteps := 200000) (disch := omega) [-List.getD_eq_getElem?_getD]; refine hK _ ?_; clear hK K
  refine aw_then fun K1 hK1 => ?_
  refine aw_reg fun K hK => ?_; simp (maxSteps := 200000) (disch := omega) [-List.getD_eq_getElem?_getD]; refine hK _ ?_; clear hK K
  refine aw_block ?_
  refine aw_own 11 0 1 [] (by omega) (by simp) ?_
  clear hc0
  generalize hn0 : (rInt bs 0 mx s).1 = n0 at *
  generalize hq0 : (rInt bs 0 mx s).2 = q0 at *
  have hok : ∀ (q : Rd) (k : Nat), HOk (H.set i (.cells (rd bs q))) (T ++ [(k, 1)]) := fun q k => (HO.set (k := i) (vs := rd bs q) (by simp [rd])).toks (T' := T ++ [(k, 1)]) (by simp)
  refine aw_loop (X := Nat × Rd × List Int) (fun x => ⟨[(0, .ptr i 0), (2, .int .i64 lo), (3, .int .i64 hi), (9, .int .i64 (s.at_ : Nat)), (10, .int .i64 n0), (11, .sl x.2.2.length (ints x.2.2) (.own T.length)), (12, .int .i64 (x.1 : Nat))],
      H.set i (.cells (rd bs x.2.1)), T ++ [(x.2.2.length, 1)]⟩)
    (fun x => x.2.1.at_ ≤ bs.length ∧ (x.1 ≤ n0.toNat ∧ (x.2.1.bad = false → x.2.2.length ≤ x.2.1.at_)) ∧ rLoop (rInt bs lo hi) n0.toNat q0 [] = rLoop (rInt bs lo hi) (n0.toNat - x.1) x.2.1 x.2.2) (fun x => n0.toNat - x.1) (0, q0, []) ?_ ?_ ?_
  · exact ⟨hle, ⟨Nat.zero_le _, fun _ => Nat.zero_le _⟩, rfl⟩
  · refine weak_to [] [] ?_ ?_ ?_ ?_ (hok _ _) ?_
    all_goals simp [hl]
  · rintro ⟨k, ⟨qa, qb⟩, out⟩ ⟨hq, ⟨hk, hlo⟩, hr⟩
    simp only at hq hk hlo hr
    have hgq : (H.set i (.cells (rd bs ⟨qa, qb⟩)))[i]? = some (.cells (rd bs ⟨qa, qb⟩)) := by simp [hl]
    by_cases hn : k < n0.toNat ∧ qb = false
    · obtain ⟨hn, rfl⟩ := hn
      have hlo := hlo rfl
      have hadv := rInt_adv (bs := bs) (s := ⟨qa, false⟩) (lo := lo) (hi := hi) rfl
      have hc := intR_ok bs ⟨qa, false⟩ lo hi hq hb (H.set i (.cells (rd bs ⟨qa, false⟩))) (T ++ [(out.length, 1)]) i hgq
      simp only [List.set_set] at hc
      have hqe := rInt_le bs lo hi ⟨qa, false⟩ hq
      have hst := rLoop_step (rInt bs lo hi) (n0.toNat - k) ⟨qa, false⟩ out (by omega) rfl
      have hd : decide ((k : Int) < n0) = true := by simp; omega
      have hd2 : (k : Int) < n0 := by omega
      simp only [rd] at hgq
      generalize hx : ((rInt bs lo hi) ⟨qa, false⟩).1 = x at *
      generalize hy : ((rInt bs lo hi) ⟨qa, false⟩).2 = y at *
      refine aw_then fun K2 hK2 => ?_
      refine aw_reg fun K hK => ?_; simp (maxSteps := 200000) (disch := omega) [-List.getD_eq_getElem?_getD, hgq, hl, rd, hd, hd2]; refine hK _ ?_; clear hK K
      refine aw_if rfl (fun h => ?_) (fun h => absurd h (by simp))
      refine aw_skip ?_; simp (maxSteps := 200000) (disch := omega) [-List.getD_eq_getElem?_getD]
      refine hK2 _ ?_; clear hK2
      refine aw_then fun K3 hK3 => ?_
      refine aw_block ?_
      refine aw_reg0 fun K hK => ?_; simp (maxSteps := 200000) (disch := omega) [-List.getD_eq_getElem?_getD]
      refine acall_is (hc) ?_; simp (maxSteps := 200000) (disch := omega) [-List.getD_eq_getElem?_getD]
      refine hK _ ?_; clear hK K
      refine hK3 _ ?_; clear hK3
      refine aw_reg0 fun K hK => ?_; simp (maxSteps := 200000) (disch := omega) [-List.getD_eq_getElem?_getD]
      refine hK _ ?_; clear hK K
      refine ⟨(k + 1, y, out ++ [x]), ⟨hqe, ⟨by show k + 1 ≤ _; omega, fun hy => by have := hadv hy; simp only [List.length_append, List.length_cons, List.length_nil] at this ⊢; omega⟩, by rw [hr, hst, Nat.sub_sub]⟩, by show n0.toNat - (k + 1) < n0.toNat - k; omega, ?_⟩
      refine weak_to [] [] ?_ ?_ ?_ ?_ (hok _ _) ?_
      · simp
      · simp
      · simp
      · simp
      · simp [ints_snoc, hl]
    · have hfin : rLoop (rInt bs lo hi) (n0.toNat - k) ⟨qa, qb⟩ out = (out, ⟨qa, qb⟩) := by
        rcases Nat.lt_or_ge k n0.toNat with h0 | h0
        · exact rLoop_bad _ _ _ _ (by cases qb <;> simp_all)
        · rw [show n0.toNat - k = 0 by omega]; rfl
      have hres : rList bs mx (rInt bs lo hi) s = if qb = true then ([], ⟨s.at_, true⟩) else (out, ⟨qa, qb⟩) := by
        unfold rList
        rw [hn0, hq0, hr, hfin]
      simp only [rd] at hgq
      cases qb
      · have hkn : k = n0.toNat := by
          rcases Nat.lt_or_ge k n0.toNat with h0 | h0
          · exact absurd ⟨h0, rfl⟩ hn
          · omega
        have hd : decide ((k : Int) < n0) = false := by simp; omega
        have hd2 : ¬ (k : Int) < n0 := by omega
        refine aw_then fun K2 hK2 => ?_
        refine aw_reg fun K hK => ?_; simp (maxSteps := 200000) (disch := omega) [-List.getD_eq_getElem?_getD, hd, hd2]; refine hK _ ?_; clear hK K
        refine aw_if rfl (fun h => absurd h (by simp)) (fun h => ?_)
        refine aw_exit ?_; simp (maxSteps := 200000) (disch := omega) [-List.getD_eq_getElem?_getD]
        refine hK1 _ ?_; clear hK1
        refine aw_then fun K4 hK4 => ?_
        refine aw_reg fun K hK => ?_; simp (maxSteps := 200000) (disch := omega) [-List.getD_eq_getElem?_getD, hgq, hl, rd]; refine hK _ ?_; clear hK K
        refine aw_if rfl (fun h => absurd h (by simp)) (fun h => ?_)
        refine aw_skip ?_; simp (maxSteps := 200000) (disch := omega) [-List.getD_eq_getElem?_getD]
        refine hK4 _ ?_; clear hK4
        refine aw_reg fun K hK => ?_; simp (maxSteps := 200000) (disch := omega) [-List.getD_eq_getElem?_getD]; refine hK _ ?_; clear hK K
        refine aw_ret ?_; simp (maxSteps := 200000) (disch := omega) [-List.getD_eq_getElem?_getD]
        rw [hres]
        exact ⟨⟨[], by simp [rd]⟩, rfl, rfl⟩
      · rcases Nat.lt_or_ge k n0.toNat with hp | hp
        · have hd : decide ((k : Int) < n0) = true := by simp; omega
          have hd2 : (k : Int) < n0 := by omega
          refine aw_then fun K2 hK2 => ?_
          refine aw_reg fun K hK => ?_; simp (maxSteps := 200000) (disch := omega) [-List.getD_eq_getElem?_getD, hgq, hl, rd, hd, hd2]; refine hK _ ?_; clear hK K
          refine aw_if rfl (fun h => absurd h (by simp)) (fun h => ?_)
          refine aw_exit ?_; simp (maxSteps := 200000) (disch := omega) [-List.getD_eq_getElem?_getD]
          refine hK1 _ ?_; clear hK1
          refine aw_then fun K4 hK4 => ?_
          refine aw_reg fun K hK => ?_; simp (maxSteps := 200000) (disch := omega) [-List.getD_eq_getElem?_getD, hgq, hl, rd]; refine hK _ ?_; clear hK K
          refine aw_if rfl (fun h => ?_) (fun h => absurd h (by simp))
          refine aw_reg fun K hK => ?_; simp (maxSteps := 200000) (disch := omega) [-List.getD_eq_getElem?_getD, hgq, hl, rd]; refine hK _ ?_; clear hK K
          refine aw_reg fun K hK => ?_; simp (maxSteps := 200000) (disch := omega) [-List.getD_eq_getElem?_getD]; refine hK _ ?_; clear hK K
          refine aw_ret ?_; simp (maxSteps := 200000) (disch := omega) [-List.getD_eq_getElem?_getD]
          rw [hres]
          exact ⟨⟨[], by simp [rd]⟩, rfl, rfl⟩
        · have hd : decide ((k : Int) < n0) = false := by simp; omega
          have hd2 : ¬ (k : Int) < n0 := by omega
          refine aw_then fun K2 hK2 => ?_
          refine aw_reg fun K hK => ?_; simp (maxSteps := 200000) (disch := omega) [-List.getD_eq_getElem?_getD, hgq, hl, rd, hd, hd2]; refine hK _ ?_; clear hK K
          refine aw_if rfl (fun h => absurd h (by simp)) (fun h => ?_)
          refine aw_exit ?_; simp (maxSteps := 200000) (disch := omega) [-List.getD_eq_getElem?_getD]
          refine hK1 _ ?_; clear hK1
          refine aw_then fun K4 hK4 => ?_
          refine aw_reg fun K hK => ?_; simp (maxSteps := 200000) (disch := omega) [-List.getD_eq_getElem?_getD, hgq, hl, rd]; refine hK _ ?_; clear hK K
          refine aw_if rfl (fun h => ?_) (fun h => absurd h (by simp))
          refine aw_reg fun K hK => ?_; simp (maxSteps := 200000) (disch := omega) [-List.getD_eq_getElem?_getD, hgq, hl, rd]; refine hK _ ?_; clear hK K
          refine aw_reg fun K hK => ?_; simp (maxSteps := 200000) (disch := omega) [-List.getD_eq_getElem?_getD]; refine hK _ ?_; clear hK K
          refine aw_ret ?_; simp (maxSteps := 200000) (disch := omega) [-List.getD_eq_getElem?_getD]
          rw [hres]
          exact ⟨⟨[], by simp [rd]⟩, rfl, rfl⟩

theorem textsR_ok (bs : List UInt8) (s : Rd) (mx m : Int) (hs : s.at_ ≤ bs.length) (hb : bs.length ≤ 1099511627776) (H : List Blk) (T : Toks) (i : Nat) (hi_ : H[i]? = some (.cells (rd bs s))) :
    ACall Try.prog 38 [.ptr i 0, .int .i64 mx, .int .i64 m] H T
      (Is (.sl (rList bs mx (rText bs m) s).1.length (strs (rList bs mx (rText bs m) s).1) .none) (H.set i (.cells (rd bs (rList bs mx (rText bs m) s).2))) T) := by
  have hl := (List.getElem?_eq_some_iff.1 hi_).1
  have hi' := (List.getElem?_eq_some_iff.1 hi_).2
  have hc0 := intR_ok bs s 0 mx hs hb H T i hi_
  have hle := rInt_le bs 0 mx s hs
  have hnn := rInt_nonneg bs mx s
  have hup := (rInt_i64 bs 0 mx s).2
  refine ACall.cut _ T (by simp) (Nat.le_refl _) (fun h => h.set (by simp [rd])) (by simp) ?_
  refine acall_enter 11 [] Try.ntmps38 Try.func38 rfl (fun _ _ => Try.call38 _ _) (by simp) (fun HO => ?_)
  refine aw_reg fun K hK => ?_; simp (maxSteps := 200000) (disch := omega) [-List.getD_eq_getElem?_getD]; refine hK _ ?_; clear hK K
  refine aw_reg fun K hK => ?_; simp (maxSteps := 200000) (disch := omega) [-List.getD_eq_getElem?_getD, hi_, hi', hl, rd]; refine hK _ ?_; clear hK K
  refine aw_reg fun K hK => ?_; simp (maxSteps := 200000) (disch := omega) [-List.getD_eq_getElem?_getD]
  refine acall_is (hc0) ?_; simp (maxSteps := 200000) (disch := omega) [-List.getD_eq_getElem?_getD]
  refine hK _ ?_; clear hK K
  refine aw_reg fun K hK => ?_; simp (maxSteps := 200000) (disch := omega) [-List.getD_eq_getElem?_getD]; refine hK _ ?_; clear hK K
  refine aw_then fun K1 hK1 => ?_
  refine aw_reg fun K hK => ?_; simp (maxSteps := 200000) (disch := omega) [-List.getD_eq_getElem?_getD]; refine hK _ ?_; clear hK K
  refine aw_block ?_
  refine aw_own 9 0 1 [] (by omega) (by simp) ?_
  clear hc0
  generalize hn0 : (rInt bs 0 mx s).1 = n0 at *
  generalize hq0 : (rInt bs 0 mx s).2 = q0 at *
  have hok : ∀ (q : Rd) (k : Nat), HOk (H.set i (.cells (rd bs q))) (T ++ [(k, 1)]) := fun q k => (HO.set (k := i) (vs := rd bs q) (by simp [rd])).toks (T' := T ++ [(k, 1)]) (by simp)
  refine aw_loop (X := Nat × Rd × List (List UInt8)) (fun x => ⟨[(0, .ptr i 0), (2, .int .i64 m), (7, .int .i64 (s.at_ : Nat)), (8, .int .i64 n0), (9, .sl x.2.2.length (strs x.2.2) (.own T.length)), (10, .int .i64 (x.1 : Nat))],
      H.set i (.cells (rd bs x.2.1)), T ++ [(x.2.2.length, 1)]⟩)
    (fun x => x.2.1.at_ ≤ bs.length ∧ (x.1 ≤ n0.toNat ∧ (x.2.1.bad = false → x.2.2.length ≤ x.2.1.at_)) ∧ rLoop (rText bs m) n0.toNat q0 [] = rLoop (rText bs m) (n0.toNat - x.1) x.2.1 x.2.2) (fun x => n0.toNat - x.1) (0, q0, []) ?_ ?_ ?_
  · exact ⟨hle, ⟨Nat.zero_le _, fun _ => Nat.zero_le _⟩, rfl⟩
  · refine weak_to [] [] ?_ ?_ ?_ ?_ (hok _ _) ?_
    all_goals simp [hl]
  · rintro ⟨k, ⟨qa, qb⟩, out⟩ ⟨hq, ⟨hk, hlo⟩, hr⟩
    simp only at hq hk hlo hr
    have hgq : (H.set i (.cells (rd bs ⟨qa, qb⟩)))[i]? = some (.cells (rd bs ⟨qa, qb⟩)) := by simp [hl]
    by_cases hn : k < n0.toNat ∧ qb = false
    · obtain ⟨hn, rfl⟩ := hn
      have hlo := hlo rfl
      have hadv := rText_adv (bs := bs) (s := ⟨qa, false⟩) (mx := m) rfl
      have hc := textR_ok bs ⟨qa, false⟩ m hq hb (H.set i (.cells (rd bs ⟨qa, false⟩))) (T ++ [(out.length, 1)]) i hgq
      simp only [List.set_set] at hc
      have hqe := rText_le bs m ⟨qa, false⟩ hq
      have hst := rLoop_step (rText bs m) (n0.toNat - k) ⟨qa, false⟩ out (by omega) rfl
      have hd : decide ((k : Int) < n0) = true := by simp; omega
      have hd2 : (k : Int) < n0 := by omega
      simp only [rd] at hgq
      generalize hx : ((rText bs m) ⟨qa, false⟩).1 = x at *
      generalize hy : ((rText bs m) ⟨qa, false⟩).2 = y at *
      refine aw_then fun K2 hK2 => ?_
      refine aw_reg fun K hK => ?_; simp (maxSteps := 200000) (disch := omega) [-List.getD_eq_getElem?_getD, hgq, hl, rd, hd, hd2]; refine hK _ ?_; clear hK K
      refine aw_if rfl (fun h => ?_) (fun h => absurd h (by simp))
      refine aw_skip ?_; simp (maxSteps := 200000) (disch := omega) [-List.getD_eq_getElem?_getD]
      refine hK2 _ ?_; clear hK2
      refine aw_then fun K3 hK3 => ?_
      refine aw_block ?_
      refine aw_reg0 fun K hK => ?_; simp (maxSteps := 200000) (disch := omega) [-List.getD_eq_getElem?_getD]
      refine acall_is (hc) ?_; simp (maxSteps := 200000) (disch := omega) [-List.getD_eq_getElem?_getD]
      refine hK _ ?_; clear hK K
      refine hK3 _ ?_; clear hK3
      refine aw_reg0 fun K hK => ?_; simp (maxSteps := 200000) (disch := omega) [-List.getD_eq_getElem?_getD]
      refine hK _ ?_; clear hK K
      refine ⟨(k + 1, y, out ++ [x]), ⟨hqe, ⟨by show k + 1 ≤ _; omega, fun hy => by have := hadv hy; simp only [List.length_append, List.length_cons, List.length_nil] at this ⊢; omega⟩, by rw [hr, hst, Nat.sub_sub]⟩, by show n0.toNat - (k + 1) < n0.toNat - k; omega, ?_⟩
      refine weak_to [] [] ?_ ?_ ?_ ?_ (hok _ _) ?_
      · simp
      · simp
      · simp
      · simp
      · simp [strs_snoc, hl]
    · have hfin : rLoop (rText bs m) (n0.toNat - k) ⟨qa, qb⟩ out = (out, ⟨qa, qb⟩) := by
        rcases Nat.lt_or_ge k n0.toNat with h0 | h0
        · exact rLoop_bad _ _ _ _ (by cases qb <;> simp_all)
        · rw [show n0.toNat - k = 0 by omega]; rfl
      have hres : rList bs mx (rText bs m) s = if qb = true then ([], ⟨s.at_, true⟩) else (out, ⟨qa, qb⟩) := by
        unfold rList
        rw [hn0, hq0, hr, hfin]
      simp only [rd] at hgq
      cases qb
      · have hkn : k = n0.toNat := by
          rcases Nat.lt_or_ge k n0.toNat with h0 | h0
          · exact absurd ⟨h0, rfl⟩ hn
          · omega
        have hd : decide ((k : Int) < n0) = false := by simp; omega
        have hd2 : ¬ (k : Int) < n0 := by omega
        refine aw_then fun K2 hK2 => ?_
        refine aw_reg fun K hK => ?_; simp (maxSteps := 200000) (disch := omega) [-List.getD_eq_getElem?_getD, hd, hd2]; refine hK _ ?_; clear hK K
        refine aw_if rfl (fun h => absurd h (by simp)) (fun h => ?_)
        refine aw_exit ?_; simp (maxSteps := 200000) (disch := omega) [-List.getD_eq_getElem?_getD]
        refine hK1 _ ?_; clear hK1
        refine aw_then fun K4 hK4 => ?_
        refine aw_reg fun K hK => ?_; simp (maxSteps := 200000) (disch := omega) [-List.getD_eq_getElem?_getD, hgq, hl, rd]; refine hK _ ?_; clear hK K
        refine aw_if rfl (fun h => absurd h (by simp)) (fun h => ?_)
        refine aw_skip ?_; simp (maxSteps := 200000) (disch := omega) [-List.getD_eq_getElem?_getD]
        refine hK4 _ ?_; clear hK4
        refine aw_reg fun K hK => ?_; simp (maxSteps := 200000) (disch := omega) [-List.getD_eq_getElem?_getD]; refine hK _ ?_; clear hK K
        refine aw_ret ?_; simp (maxSteps := 200000) (disch := omega) [-List.getD_eq_getElem?_getD]
        rw [hres]
        exact ⟨⟨[], by simp [rd]⟩, rfl, rfl⟩
      · rcases Nat.lt_or_ge k n0.toNat with hp | hp
        · have hd : decide ((k : Int) < n0) = true := by simp; omega
          have hd2 : (k : Int) < n0 := by omega
          refine aw_then fun K2 hK2 => ?_
          refine aw_reg fun K hK => ?_; simp (maxSteps := 200000) (disch := omega) [-List.getD_eq_getElem?_getD, hgq, hl, rd, hd, hd2]; refine hK _ ?_; clear hK K
          refine aw_if rfl (fun h => absurd h (by simp)) (fun h => ?_)
          refine aw_exit ?_; simp (maxSteps := 200000) (disch := omega) [-List.getD_eq_getElem?_getD]
          refine hK1 _ ?_; clear hK1
          refine aw_then fun K4 hK4 => ?_
          refine aw_reg fun K hK => ?_; simp (maxSteps := 200000) (disch := omega) [-List.getD_eq_getElem?_getD, hgq, hl, rd]; refine hK _ ?_; clear hK K
          refine aw_if rfl (fun h => ?_) (fun h => absurd h (by simp))
          refine aw_reg fun K hK => ?_; simp (maxSteps := 200000) (disch := omega) [-List.getD_eq_getElem?_getD, hgq, hl, rd]; refine hK _ ?_; clear hK K
          refine aw_reg fun K hK => ?_; simp (maxSteps := 200000) (disch := omega) [-List.getD_eq_getElem?_getD]; refine hK _ ?_; clear hK K
          refine aw_ret ?_; simp (maxSteps := 200000) (disch := omega) [-List.getD_eq_getElem?_getD]
          rw [hres]
          exact ⟨⟨[], by simp [rd]⟩, rfl, rfl⟩
        · have hd : decide ((k : Int) < n0) = false := by simp; omega
          have hd2 : ¬ (k : Int) < n0 := by omega
          refine aw_then fun K2 hK2 => ?_
          refine aw_reg fun K hK => ?_; simp (maxSteps := 200000) (disch := omega) [-List.getD_eq_getElem?_getD, hgq, hl, rd, hd, hd2]; refine hK _ ?_; clear hK K
          refine aw_if rfl (fun h => absurd h (by simp)) (fun h => ?_)
          refine aw_exit ?_; simp (maxSteps := 200000) (disch := omega) [-List.getD_eq_getElem?_getD]
          refine hK1 _ ?_; clear hK1
          refine aw_then fun K4 hK4 => ?_
          refine aw_reg fun K hK => ?_; simp (maxSteps := 200000) (disch := omega) [-List.getD_eq_getElem?_getD, hgq, hl, rd]; refine hK _ ?_; clear hK K
          refine aw_if rfl (fun h => ?_) (fun h => absurd h (by simp))
          refine aw_reg fun K hK => ?_; simp (maxSteps := 200000) (disch := omega) [-List.getD_eq_getElem?_getD, hgq, hl, rd]; refine hK _ ?_; clear hK K
          refine aw_reg fun K hK => ?_; simp (maxSteps := 200000) (disch := omega) [-List.getD_eq_getElem?_getD]; refine hK _ ?_; clear hK K
          refine aw_ret ?_; simp (maxSteps := 200000) (disch := omega) [-List.getD_eq_getElem?_getD]
          rw [hres]
          exact ⟨⟨[], by simp [rd]⟩, rfl, rfl⟩
end Go.Proofs.Ytgnhfcncbkikgaa
