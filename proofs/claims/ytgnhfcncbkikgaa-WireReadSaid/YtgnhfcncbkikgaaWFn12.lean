/- One call of a read method, by the program's reader and the reference's.
   Conditions: lengths below 2^40. -/
import Derived.Test.YtgnhfcncbkikgaaWFn11
namespace Go.Proofs.Ytgnhfcncbkikgaa
open Go Go.Am Wire
set_option linter.unusedVariables false

theorem rLoop_adv {α : Type} {f : Rd → α × Rd} (hf : ∀ s, s.bad = false → (f s).2.bad = false → s.at_ + 1 ≤ (f s).2.at_) : ∀ (n : Nat) (q : Rd) (out : List α), (q.bad = false → out.length ≤ q.at_) → (rLoop f n q out).2.bad = false → (rLoop f n q out).1.length ≤ (rLoop f n q out).2.at_ := by
  intro n
  induction n with
  | zero => intro q out h hb; exact h hb
  | succ n ih =>
    intro q out h hb
    cases hq : q.bad with
    | true => rw [rLoop_bad _ _ _ _ hq] at hb; rw [hq] at hb; cases hb
    | false =>
      rw [rLoop_step _ _ _ _ (by omega) hq, Nat.add_sub_cancel] at hb ⊢
      refine ih _ _ (fun hb2 => ?_) hb
      have := hf q hq hb2
      have := h hq
      simp only [List.length_append, List.length_cons, List.length_nil]
      omega

theorem rList_len {α : Type} {bs : List UInt8} {mx : Int} {f : Rd → α × Rd} (hf : ∀ s, s.bad = false → (f s).2.bad = false → s.at_ + 1 ≤ (f s).2.at_) (hle : ∀ s, s.at_ ≤ bs.length → (f s).2.at_ ≤ bs.length) (s : Rd) (h : s.at_ ≤ bs.length) : (rList bs mx f s).1.length ≤ bs.length := by
  unfold rList
  split
  · exact Nat.zero_le _
  · rename_i hb
    have h1 := rLoop_adv hf (rInt bs 0 mx s).1.toNat (rInt bs 0 mx s).2 [] (fun _ => Nat.zero_le _) (by simpa using hb)
    have h2 := rLoop_le hle (rInt bs 0 mx s).1.toNat (rInt bs 0 mx s).2 [] (rInt_le _ _ _ _ h)
    omega

/-- What a call leaves of a reader. -/
def rstep (bs : List UInt8) (k mx lo hi : Int) (s : Rd) : Rd :=
  if k = 0 then (rInt bs lo hi s).2 else if k = 1 then (rInt bs 0 1 s).2 else if k = 2 then (rText bs mx s).2 else if k = 3 then (rList bs mx (rInt bs lo hi) s).2 else (rList bs mx (rText bs hi) s).2

theorem rstep_le (bs : List UInt8) (k mx lo hi : Int) (s : Rd) (h : s.at_ ≤ bs.length) : (rstep bs k mx lo hi s).at_ ≤ bs.length := by
  unfold rstep
  split
  · exact rInt_le _ _ _ _ h
  · split
    · exact rInt_le _ _ _ _ h
    · split
      · exact rText_le _ _ _ h
      · split
        · exact rList_le (rInt_le _ _ _) _ h
        · exact rList_le (rText_le _ _) _ h

set_option maxRecDepth 100000 in
set_option maxHeartbeats 4000000 in
theorem sameRd_ok (bs : List UInt8) (s : Rd) (k mx lo hi : Int) (hs : s.at_ ≤ bs.length) (hb : bs.length ≤ 1099511627776) (H : List Blk) (T : Toks) (i j : Nat) (hij : i ≠ j) (hi_ : H[i]? = some (.cells (rd bs s))) (hj_ : H[j]? = some (.cells (rd bs s))) :
    ACall Try.prog 15 [.ptr i 0, .ptr j 0, .agg [.int .i64 k, .int .i64 mx, .int .i64 lo, .int .i64 hi]] H T
      (Is (.bool true) ((H.set i (.cells (rd bs (rstep bs k mx lo hi s)))).set j (.cells (rd bs (rstep bs k mx lo hi s)))) T) := by
  have hli := (List.getElem?_eq_some_iff.1 hi_).1
  have hlj := (List.getElem?_eq_some_iff.1 hj_).1
  have hml : bs.length ≤ maxLen := Nat.le_trans hb (by decide)
  refine ACall.cut _ T (by simp) (Nat.le_refl _) (fun h => (h.set (by simp [rd])).set (by simp [rd])) (by simp) ?_
  refine acall_enter 9 [] Try.ntmps15 Try.func15 rfl (fun _ _ => Try.call15 _ _) (by simp) (fun HO => ?_)
  refine aw_reg fun K hK => ?_; simp (maxSteps := 200000) (disch := omega) [-List.getD_eq_getElem?_getD]; refine hK _ ?_; clear hK K
  have hn_ : (H ++ [Blk.cells [.int .i64 k, .int .i64 mx, .int .i64 lo, .int .i64 hi]])[H.length]? = some (.cells [.int .i64 k, .int .i64 mx, .int .i64 lo, .int .i64 hi]) := new_at0 _ _
  have hbi : (H ++ [Blk.cells [.int .i64 k, .int .i64 mx, .int .i64 lo, .int .i64 hi]])[i]? = some (.cells (rd bs s)) := by rw [List.getElem?_append_left hli]; exact hi_
  have hbj : (H ++ [Blk.cells [.int .i64 k, .int .i64 mx, .int .i64 lo, .int .i64 hi]])[j]? = some (.cells (rd bs s)) := by rw [List.getElem?_append_left hlj]; exact hj_
  have hfin : ∀ X Y, ((H ++ [Blk.cells [.int .i64 k, .int .i64 mx, .int .i64 lo, .int .i64 hi]]).set i X).set j Y = (H.set i X).set j Y ++ [Blk.cells [.int .i64 k, .int .i64 mx, .int .i64 lo, .int .i64 hi]] := by
    intro X Y
    rw [List.set_append_left _ _ hli, List.set_append_left _ _ (by simpa using hlj)]
  generalize H ++ [Blk.cells [.int .i64 k, .int .i64 mx, .int .i64 lo, .int .i64 hi]] = HB at *
  have hs1 : ∀ X, (HB.set i X)[H.length]? = some (.cells [.int .i64 k, .int .i64 mx, .int .i64 lo, .int .i64 hi]) := fun X => by rw [List.getElem?_set_ne (by omega)]; exact hn_
  have hs2 : ∀ X Y, ((HB.set i X).set j Y)[H.length]? = some (.cells [.int .i64 k, .int .i64 mx, .int .i64 lo, .int .i64 hi]) := fun X Y => by rw [List.getElem?_set_ne (by omega)]; exact hs1 X
  have hsj : ∀ X, (HB.set i X)[j]? = some (.cells (rd bs s)) := fun X => by rw [List.getElem?_set_ne hij]; exact hbj
  refine aw_then fun K1 hK1 => ?_
  refine aw_reg fun K hK => ?_; simp (maxSteps := 200000) (disch := omega) [-List.getD_eq_getElem?_getD, hn_]; refine hK _ ?_; clear hK K
  refine aw_block ?_
  by_cases h0 : k = 0
  · have hst : rstep bs k mx lo hi s = (rInt bs lo hi s).2 := by unfold rstep; rw [if_pos h0]
    have b : (k == 0) = true := by simpa using h0
    refine aw_reg fun K hK => ?_; simp (maxSteps := 200000) (disch := omega) [-List.getD_eq_getElem?_getD, b]; refine hK _ ?_; clear hK K
    refine aw_if rfl (fun h => ?_) (fun h => absurd h (by simp))
    refine aw_draw [5, 11] [0, 0, 0, 0, 0, 0, 0, 0, 0, 0, 0, 1, 2, 2] [[], []] drawMixed (by kernel_rfl) (by kernel_rfl) fun K hK => ?_; simp (maxSteps := 200000) (disch := omega) [-List.getD_eq_getElem?_getD, hn_, hs1, hs2]
    refine dcall_eff (wInt_ok bs s lo hi hs hb HB T i hbi) rfl ?_; simp (maxSteps := 200000) (disch := omega) [-List.getD_eq_getElem?_getD, hn_, hs1, hs2]
    refine dcall_eff (intR_ok bs s lo hi hs hb _ T j (hsj _)) rfl ?_; simp (maxSteps := 200000) (disch := omega) [-List.getD_eq_getElem?_getD, hn_, hs1, hs2]
    refine hK _ ?_; clear hK K
    refine aw_ret ?_; simp (maxSteps := 200000) (disch := omega) [-List.getD_eq_getElem?_getD]
    exact ⟨_, by rw [hfin, hst]⟩
  · have b0 : (k == 0) = false := by simpa using h0
    refine aw_reg fun K hK => ?_; simp (maxSteps := 200000) (disch := omega) [-List.getD_eq_getElem?_getD, b0]; refine hK _ ?_; clear hK K
    refine aw_if rfl (fun h => absurd h (by simp)) (fun h => ?_)
    by_cases h1 : k = 1
    · have hst : rstep bs k mx lo hi s = (rInt bs 0 1 s).2 := by unfold rstep; rw [if_neg h0, if_pos h1]
      have b : (k == 1) = true := by simpa using h1
      refine aw_reg fun K hK => ?_; simp (maxSteps := 200000) (disch := omega) [-List.getD_eq_getElem?_getD, b]; refine hK _ ?_; clear hK K
      refine aw_if rfl (fun h => ?_) (fun h => absurd h (by simp))
      refine aw_reg fun K hK => ?_; simp (maxSteps := 200000) (disch := omega) [-List.getD_eq_getElem?_getD]
      refine acall_is (wBool_ok bs s hs hb HB T i hbi) ?_; simp (maxSteps := 200000) (disch := omega) [-List.getD_eq_getElem?_getD]
      refine acall_is (boolR_ok bs s hs hb _ T j (hsj _)) ?_; simp (maxSteps := 200000) (disch := omega) [-List.getD_eq_getElem?_getD]
      refine hK _ ?_; clear hK K
      refine aw_ret ?_; simp (maxSteps := 200000) (disch := omega) [-List.getD_eq_getElem?_getD]
      exact ⟨_, by rw [hfin, hst]⟩
    · have b1 : (k == 1) = false := by simpa using h1
      refine aw_reg fun K hK => ?_; simp (maxSteps := 200000) (disch := omega) [-List.getD_eq_getElem?_getD, b1]; refine hK _ ?_; clear hK K
      refine aw_if rfl (fun h => absurd h (by simp)) (fun h => ?_)
      by_cases h2 : k = 2
      · have hst : rstep bs k mx lo hi s = (rText bs mx s).2 := by unfold rstep; rw [if_neg h0, if_neg h1, if_pos h2]
        have b : (k == 2) = true := by simpa using h2
        refine aw_reg fun K hK => ?_; simp (maxSteps := 200000) (disch := omega) [-List.getD_eq_getElem?_getD, b]; refine hK _ ?_; clear hK K
        refine aw_if rfl (fun h => ?_) (fun h => absurd h (by simp))
        refine aw_draw [3, 7] [0, 0, 0, 0, 0, 0, 0, 1, 2, 2] [[], []] drawMixed (by kernel_rfl) (by kernel_rfl) fun K hK => ?_; simp (maxSteps := 200000) (disch := omega) [-List.getD_eq_getElem?_getD, hn_, hs1, hs2]
        refine dcall_eff (wText_ok bs s mx hs hb HB T i hbi) rfl ?_; simp (maxSteps := 200000) (disch := omega) [-List.getD_eq_getElem?_getD, hn_, hs1, hs2]
        refine dcall_eff (textR_ok bs s mx hs hb _ T j (hsj _)) rfl ?_; simp (maxSteps := 200000) (disch := omega) [-List.getD_eq_getElem?_getD, hn_, hs1, hs2]
        refine hK _ ?_; clear hK K
        refine aw_ret ?_; simp (maxSteps := 200000) (disch := omega) [-List.getD_eq_getElem?_getD]
        exact ⟨_, by rw [hfin, hst]⟩
      · have b2 : (k == 2) = false := by simpa using h2
        refine aw_reg fun K hK => ?_; simp (maxSteps := 200000) (disch := omega) [-List.getD_eq_getElem?_getD, b2]; refine hK _ ?_; clear hK K
        refine aw_if rfl (fun h => absurd h (by simp)) (fun h => ?_)
        by_cases h3 : k = 3
        · have hst : rstep bs k mx lo hi s = (rList bs mx (rInt bs lo hi) s).2 := by unfold rstep; rw [if_neg h0, if_neg h1, if_neg h2, if_pos h3]
          have b : (k == 3) = true := by simpa using h3
          have hlen := rList_len (mx := mx) (fun s => rInt_adv (bs := bs) (lo := lo) (hi := hi) (s := s)) (rInt_le bs lo hi) s hs
          have c3 := fun HH => sameInts_ok (rList bs mx (rInt bs lo hi) s).1 (rList bs mx (rInt bs lo hi) s).1 (Nat.le_trans hlen hml) (Nat.le_trans hlen hml) HH T .none .none
          rw [show ((rList bs mx (rInt bs lo hi) s).1 == (rList bs mx (rInt bs lo hi) s).1) = true from beq_self_eq_true _] at c3
          refine aw_reg fun K hK => ?_; simp (maxSteps := 200000) (disch := omega) [-List.getD_eq_getElem?_getD, b]; refine hK _ ?_; clear hK K
          refine aw_if rfl (fun h => ?_) (fun h => absurd h (by simp))
          refine aw_draw [7, 15] [0, 0, 0, 0, 0, 0, 0, 0, 0, 0, 0, 0, 0, 0, 0, 1, 2, 2] [[], []] drawMixed (by kernel_rfl) (by kernel_rfl) fun K hK => ?_; simp (maxSteps := 200000) (disch := omega) [-List.getD_eq_getElem?_getD, hn_, hs1, hs2]
          refine dcall_eff (wInts_ok bs s mx lo hi hs hb HB T i hbi) rfl ?_; simp (maxSteps := 200000) (disch := omega) [-List.getD_eq_getElem?_getD, hn_, hs1, hs2]
          refine dcall_eff (intsR_ok bs s mx lo hi hs hb _ T j (hsj _)) rfl ?_; simp (maxSteps := 200000) (disch := omega) [-List.getD_eq_getElem?_getD, hn_, hs1, hs2]
          refine dcall_is (c3 _) rfl ?_; simp (maxSteps := 200000) (disch := omega) [-List.getD_eq_getElem?_getD, hn_, hs1, hs2]
          refine hK _ ?_; clear hK K
          refine aw_ret ?_; simp (maxSteps := 200000) (disch := omega) [-List.getD_eq_getElem?_getD]
          exact ⟨_, by rw [hfin, hst]⟩
        · have b3 : (k == 3) = false := by simpa using h3
          have hst : rstep bs k mx lo hi s = (rList bs mx (rText bs hi) s).2 := by unfold rstep; rw [if_neg h0, if_neg h1, if_neg h2, if_neg h3]
          have hlen := rList_len (mx := mx) (fun s => rText_adv (bs := bs) (mx := hi) (s := s)) (rText_le bs hi) s hs
          have c3 := fun HH => sameTexts_ok (rList bs mx (rText bs hi) s).1 (rList bs mx (rText bs hi) s).1 (Nat.le_trans hlen hml) (Nat.le_trans hlen hml) HH T .none .none
          rw [show ((rList bs mx (rText bs hi) s).1 == (rList bs mx (rText bs hi) s).1) = true from beq_self_eq_true _] at c3
          refine aw_reg fun K hK => ?_; simp (maxSteps := 200000) (disch := omega) [-List.getD_eq_getElem?_getD, b3]; refine hK _ ?_; clear hK K
          refine aw_if rfl (fun h => absurd h (by simp)) (fun h => ?_)
          refine aw_skip ?_; simp (maxSteps := 200000) (disch := omega) [-List.getD_eq_getElem?_getD]
          refine hK1 _ ?_; clear hK1
          refine aw_draw [5, 11] [0, 0, 0, 0, 0, 0, 0, 0, 0, 0, 0, 1, 2, 2] [[], []] drawMixed (by kernel_rfl) (by kernel_rfl) fun K hK => ?_; simp (maxSteps := 200000) (disch := omega) [-List.getD_eq_getElem?_getD, hn_, hs1, hs2]
          refine dcall_eff (wTexts_ok bs s mx hi hs hb HB T i hbi) rfl ?_; simp (maxSteps := 200000) (disch := omega) [-List.getD_eq_getElem?_getD, hn_, hs1, hs2]
          refine dcall_eff (textsR_ok bs s mx hi hs hb _ T j (hsj _)) rfl ?_; simp (maxSteps := 200000) (disch := omega) [-List.getD_eq_getElem?_getD, hn_, hs1, hs2]
          refine dcall_is (c3 _) rfl ?_; simp (maxSteps := 200000) (disch := omega) [-List.getD_eq_getElem?_getD, hn_, hs1, hs2]
          refine hK _ ?_; clear hK K
          refine aw_ret ?_; simp (maxSteps := 200000) (disch := omega) [-List.getD_eq_getElem?_getD]
          exact ⟨_, by rw [hfin, hst]⟩
end Go.Proofs.Ytgnhfcncbkikgaa
