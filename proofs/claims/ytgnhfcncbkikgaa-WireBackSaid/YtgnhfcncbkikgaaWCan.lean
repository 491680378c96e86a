/- WireCanonical: the walk.
   Conditions: none. -/
import Derived.Test.YtgnhfcncbkikgaaWFn4
import Derived.Test.YtgnhfcncbkikgaaWFn8
import Derived.Test.YtgnhfcncbkikgaaWFn7
import Derived.Test.YtgnhfcncbkikgaaWPl
namespace Go.Proofs.Ytgnhfcncbkikgaa
open Go Go.Am Wire
set_option linter.unusedVariables false

theorem ints_full (b : List UInt8) (l : List Int) (H : List Blk) (T : Toks) (hl : ∀ x ∈ l, inI x) (hb : b.length + 10 + 10 * l.length ≤ 1099511627776) :
    ACall Try.prog 25 [.sl b.length (encB b) .full, .sl l.length (ints l) .none] H T (Is (.sl (b ++ encInts l).length (encB (b ++ encInts l)) (.own T.length)) H (T ++ [((b ++ encInts l).length, 1)])) := by
  refine ACall.own0 (z := 1) (by omega) ?_
  have := ints_ok b T.length l H (T ++ [((encB b).length, 1)]) (by simp) hl hb
  simpa using this

theorem texts_full (b : List UInt8) (l : List (List UInt8)) (m : Nat) (H : List Blk) (T : Toks) (hl : ∀ x ∈ l, (encText x).length ≤ m) (hb : b.length + 10 + m * l.length ≤ 1099511627776) (hll : l.length ≤ 1099511627776) :
    ACall Try.prog 26 [.sl b.length (encB b) .full, .sl l.length (strs l) .none] H T (Is (.sl (b ++ encTexts l).length (encB (b ++ encTexts l)) (.own T.length)) H (T ++ [((b ++ encTexts l).length, 1)])) := by
  refine ACall.own0 (z := 1) (by omega) ?_
  have := texts_ok b T.length l m H (T ++ [((encB b).length, 1)]) (by simp) hl hb hll
  simpa using this

theorem done_zero {bs : List UInt8} {s : Rd} : rDone bs s = 0 ↔ s.bad = false ∧ ¬ s.at_ < bs.length := by
  unfold rDone
  cases s.bad <;> simp

theorem encText_len {m : Nat} (hm : m ≤ 1099511627776) {s : List UInt8} (h : s.length ≤ m) : (encText s).length ≤ m + 10 := by
  have := (enc_len (n := s.length) (by omega) (by omega)).2
  simp [encText]; omega

set_option maxHeartbeats 2000000 in
theorem canon_ok (bs : List UInt8) (hb : bs.length ≤ maxLen) : ACall Try.prog 6 [.sl bs.length (encB bs) .none] [] [] (fun r _ _ => r = .bool true) := by
  have hml : maxLen ≤ 9223372036854775807 := by decide
  have hb' := Nat.le_trans hb hml
  refine acall_enter 11 [] Try.ntmps6 Try.func6 rfl (fun _ _ => Try.call6 _ _) (by simp) (fun HO => ?_)
  refine aw_reg fun K hK => ?_; simp (maxSteps := 200000) (disch := omega) [-List.getD_eq_getElem?_getD]; refine hK _ ?_; clear hK K
  refine aw_then fun K1 hK1 => ?_
  refine aw_reg fun K hK => ?_; simp (maxSteps := 200000) (disch := omega) [-List.getD_eq_getElem?_getD]
  refine acall_is (awake_ok _ _) ?_; simp (maxSteps := 200000) (disch := omega) [-List.getD_eq_getElem?_getD]
  refine hK _ ?_; clear hK K
  refine aw_if rfl (fun h => absurd h (by simp)) (fun h => ?_)
  refine aw_skip ?_; simp (maxSteps := 200000) (disch := omega) [-List.getD_eq_getElem?_getD]
  refine hK1 _ ?_; clear hK1
  refine aw_then fun K1 hK1 => ?_
  refine aw_reg fun K hK => ?_; simp (maxSteps := 200000) (disch := omega) [-List.getD_eq_getElem?_getD]; refine hK _ ?_; clear hK K
  refine aw_if rfl (fun h => ?_) (fun h => ?_)
  · refine aw_reg fun K hK => ?_; simp (maxSteps := 200000) (disch := omega) [-List.getD_eq_getElem?_getD]; refine hK _ ?_; clear hK K
    refine aw_ret ?_; simp (maxSteps := 200000) (disch := omega) [-List.getD_eq_getElem?_getD]
  · simp [-List.getD_eq_getElem?_getD] at h
    have h6 : bs.length ≤ 600 := by omega
    have h40 : bs.length ≤ 1099511627776 := by omega
    refine aw_skip ?_; simp (maxSteps := 200000) (disch := omega) [-List.getD_eq_getElem?_getD]
    refine hK1 _ ?_; clear hK1
    refine aw_reg fun K hK => ?_; simp (maxSteps := 200000) (disch := omega) [-List.getD_eq_getElem?_getD]; refine hK _ ?_; clear hK K
    have f0 := from_ok bs h40 [] []
    have f1 := from_ok bs h40 [.cells (rd bs ⟨0, false⟩)] []
    have f2 := from_ok bs h40 [.cells (rd bs ⟨0, false⟩), .cells (rd bs ⟨0, false⟩)] []
    simp only [List.nil_append, List.length_nil, List.length_cons, List.cons_append] at f0 f1 f2
    refine aw_reg fun K hK => ?_; simp (maxSteps := 200000) (disch := omega) [-List.getD_eq_getElem?_getD]
    refine acall_is (f0) ?_; simp (maxSteps := 200000) (disch := omega) [-List.getD_eq_getElem?_getD]
    refine acall_is (f1) ?_; simp (maxSteps := 200000) (disch := omega) [-List.getD_eq_getElem?_getD]
    refine acall_is (f2) ?_; simp (maxSteps := 200000) (disch := omega) [-List.getD_eq_getElem?_getD]
    refine hK _ ?_; clear hK K
    have g0 := wInt_ok bs ⟨0, false⟩ (-9223372036854775808) 9223372036854775807 (Nat.zero_le _) h40 [.cells (rd bs ⟨0, false⟩), .cells (rd bs ⟨0, false⟩), .cells (rd bs ⟨0, false⟩)] [] 0 rfl
    have c0 : ∀ hb ha, _ := @Codec.whole _ _ _ _ (intCodec (-9223372036854775808) 9223372036854775807) bs
    have k0 := (intCodec (-9223372036854775808) 9223372036854775807).canon bs 0 (Nat.zero_le _)
    have c1 : ∀ hb ha, _ := @Codec.whole _ _ _ _ (listCodec (intCodec (-9223372036854775808) 9223372036854775807) 600) bs
    have k1 := (listCodec (intCodec (-9223372036854775808) 9223372036854775807) 600).canon bs 0 (Nat.zero_le _)
    have c2 : ∀ hb ha, _ := @Codec.whole _ _ _ _ (listCodec (textCodec 600) 600) bs
    have k2 := (listCodec (textCodec 600) 600).canon bs 0 (Nat.zero_le _)
    have b0 := gnum_bounds bs 0
    have g1 := fun q0 => wInts_ok bs ⟨0, false⟩ 600 (-9223372036854775808) 9223372036854775807 (by omega) (Nat.zero_le _) h40 [.cells (rd bs q0), .cells (rd bs ⟨0, false⟩), .cells (rd bs ⟨0, false⟩)] [] 1 rfl
    have g2 := fun q0 q1 => wTexts_ok bs ⟨0, false⟩ 600 600 (by omega) (Nat.zero_le _) h40 [.cells (rd bs q0), .cells (rd bs q1), .cells (rd bs ⟨0, false⟩)] [] 2 rfl
    simp only [List.set_cons_zero, List.set_cons_succ] at g0 g1 g2
    have l0 := rInt_le bs (-9223372036854775808) 9223372036854775807 ⟨0, false⟩ (Nat.zero_le _)
    have l1 := rList_le (mx := 600) (rInt_le bs (-9223372036854775808) 9223372036854775807) ⟨0, false⟩ (Nat.zero_le _)
    have l2 := rList_le (mx := 600) (rText_le bs 600) ⟨0, false⟩ (Nat.zero_le _)
    generalize rInt bs (-9223372036854775808) 9223372036854775807 ⟨0, false⟩ = p0 at *
    generalize rList bs 600 (rInt bs (-9223372036854775808) 9223372036854775807) ⟨0, false⟩ = p1 at *
    generalize rList bs 600 (rText bs 600) ⟨0, false⟩ = p2 at *
    obtain ⟨n, q0⟩ := p0
    obtain ⟨l, q1⟩ := p1
    obtain ⟨x, q2⟩ := p2
    simp only at *
    refine aw_reg fun K hK => ?_; simp (maxSteps := 200000) (disch := omega) [-List.getD_eq_getElem?_getD]
    refine acall_is (g0) ?_; simp (maxSteps := 200000) (disch := omega) [-List.getD_eq_getElem?_getD]
    refine acall_is (g1 q0) ?_; simp (maxSteps := 200000) (disch := omega) [-List.getD_eq_getElem?_getD]
    refine acall_is (g2 q0 q1) ?_; simp (maxSteps := 200000) (disch := omega) [-List.getD_eq_getElem?_getD]
    refine hK _ ?_; clear hK K
    refine aw_then fun K1 hK1 => ?_
    have d0 := fun T => wDone_ok bs q0 l0 h40 [.cells (rd bs q0), .cells (rd bs q1), .cells (rd bs q2)] T 0 rfl
    have d1 := fun T => wDone_ok bs q1 l1 h40 [.cells (rd bs q0), .cells (rd bs q1), .cells (rd bs q2)] T 1 rfl
    have d2 := fun T => wDone_ok bs q2 l2 h40 [.cells (rd bs q0), .cells (rd bs q1), .cells (rd bs q2)] T 2 rfl
    refine aw_reg fun K hK => ?_
    have key : ∀ e T, envLe 3 0 e [(0, .sl bs.length (encB bs) .none), (7, .ptr 2 0), (10, .sl x.length (strs x) .none), (53, .bool false)] → K ⟨e, [.cells (rd bs q0), .cells (rd bs q1), .cells (rd bs q2)], T⟩ := by
      intro e T he
      refine hK _ (aw_weak ⟨[(0, .sl bs.length (encB bs) .none), (7, .ptr 2 0), (10, .sl x.length (strs x) .none), (53, .bool false)], [.cells (rd bs q0), .cells (rd bs q1), .cells (rd bs q2)], []⟩ (weak_to [] T (by simp) (by simp) (by simp) (by simp) (((HO.snoc (vs := rd bs q0) (by simp [rd])).snoc (vs := rd bs q1) (by simp [rd])).snoc (vs := rd bs q2) (by simp [rd])) he) ?_)
      refine aw_if rfl (fun h => ?_) (fun h => ?_)
      · simp [-List.getD_eq_getElem?_getD] at h
      · refine aw_skip ?_; simp (maxSteps := 200000) (disch := omega) [-List.getD_eq_getElem?_getD]
        refine hK1 _ ?_; clear hK1
        by_cases e2 : rDone bs q2 = 0
        · obtain ⟨e3, e4⟩ := done_zero.1 e2
          obtain ⟨⟨m1, m2, m3⟩, _⟩ := k2 e3
          have t1 : bs = encTexts x := c2 e3 e4
          have t2 := texts_full [] x 610 [.cells (rd bs q0), .cells (rd bs q1), .cells (rd bs q2)] [] (fun y hy => encText_len (m := 600) (by decide) (by have := (m3 y hy).1; omega)) (by simp; omega) (by omega)
          simp only [List.nil_append, List.length_nil] at t2
          rw [← t1] at t2
          refine aw_reg fun K hK => ?_; simp (maxSteps := 200000) (disch := omega) [-List.getD_eq_getElem?_getD]
          refine acall_is (d2 _) ?_; simp (maxSteps := 200000) (disch := omega) [-List.getD_eq_getElem?_getD]
          (try simp (maxSteps := 200000) (disch := omega) [-List.getD_eq_getElem?_getD, e2])
          refine acall_is (t2) ?_; simp (maxSteps := 200000) (disch := omega) [-List.getD_eq_getElem?_getD]
          refine acall_is (same_self bs _ _ _ _) ?_; simp (maxSteps := 200000) (disch := omega) [-List.getD_eq_getElem?_getD]
          refine hK _ ?_; clear hK K
          refine aw_ret ?_; simp (maxSteps := 200000) (disch := omega) [-List.getD_eq_getElem?_getD]
        · have e3 : (rDone bs q2 == 0) = false := by simpa using e2
          refine aw_reg fun K hK => ?_; simp (maxSteps := 200000) (disch := omega) [-List.getD_eq_getElem?_getD]
          refine acall_is (d2 _) ?_; simp (maxSteps := 200000) (disch := omega) [-List.getD_eq_getElem?_getD, e3, e2]
          refine hK _ ?_; clear hK K
          refine aw_ret ?_; simp (maxSteps := 200000) (disch := omega) [-List.getD_eq_getElem?_getD]
    clear hK
    have i0 : rDone bs q0 = 0 → ∃ k, ACall Try.prog 10 [.sl 0 [] .full, .int .i64 n] [.cells (rd bs q0), .cells (rd bs q1), .cells (rd bs q2)] [] (Is (.sl bs.length (encB bs) (.own 0)) [.cells (rd bs q0), .cells (rd bs q1), .cells (rd bs q2)] [(k, 1)]) := by
      intro e
      obtain ⟨e3, e4⟩ := done_zero.1 e
      obtain ⟨⟨m1, m2, m3⟩, _⟩ := k0 e3
      have t1 : bs = enc n := c0 e3 e4
      have t2 := int_full [] n m3.1 m3.2 [.cells (rd bs q0), .cells (rd bs q1), .cells (rd bs q2)] [] (by decide)
      simp only [List.nil_append, List.length_nil] at t2
      rw [← t1] at t2
      exact ⟨_, t2⟩
    have i1 : rDone bs q1 = 0 → ∀ T, ∃ k, ACall Try.prog 25 [.sl 0 [] .full, .sl l.length (ints l) .none] [.cells (rd bs q0), .cells (rd bs q1), .cells (rd bs q2)] T (Is (.sl bs.length (encB bs) (.own T.length)) [.cells (rd bs q0), .cells (rd bs q1), .cells (rd bs q2)] (T ++ [(k, 1)])) := by
      intro e T
      obtain ⟨e3, e4⟩ := done_zero.1 e
      obtain ⟨⟨m1, m2, m3⟩, _⟩ := k1 e3
      have t1 : bs = encInts l := c1 e3 e4
      have t2 := ints_full [] l [.cells (rd bs q0), .cells (rd bs q1), .cells (rd bs q2)] T (fun y hy => (m3 y hy).2.2) (by simp; omega)
      simp only [List.nil_append, List.length_nil] at t2
      rw [← t1] at t2
      exact ⟨_, t2⟩
    by_cases e0 : rDone bs q0 = 0
    · obtain ⟨k, i0⟩ := i0 e0
      simp (maxSteps := 200000) (disch := omega) [-List.getD_eq_getElem?_getD]
      refine acall_is (d0 _) ?_; simp (maxSteps := 200000) (disch := omega) [-List.getD_eq_getElem?_getD, e0]
      refine acall_is (i0) ?_; simp (maxSteps := 200000) (disch := omega) [-List.getD_eq_getElem?_getD]
      refine acall_is (same_self bs _ _ _ _) ?_; simp (maxSteps := 200000) (disch := omega) [-List.getD_eq_getElem?_getD]
      refine acall_is (d1 _) ?_; simp (maxSteps := 200000) (disch := omega) [-List.getD_eq_getElem?_getD]
      by_cases e1 : rDone bs q1 = 0
      · obtain ⟨k', i1⟩ := i1 e1 [(k, 1)]
        simp (maxSteps := 200000) (disch := omega) [-List.getD_eq_getElem?_getD, e1]
        refine acall_is (i1) ?_; simp (maxSteps := 200000) (disch := omega) [-List.getD_eq_getElem?_getD]
        refine acall_is (same_self bs _ _ _ _) ?_; simp (maxSteps := 200000) (disch := omega) [-List.getD_eq_getElem?_getD]
        refine key _ _ ?_; simp
      · have e1' : (rDone bs q1 == 0) = false := by simpa using e1
        simp (maxSteps := 200000) (disch := omega) [-List.getD_eq_getElem?_getD, e1', e1]
        refine key _ _ ?_; simp
    · have e0' : (rDone bs q0 == 0) = false := by simpa using e0
      simp (maxSteps := 200000) (disch := omega) [-List.getD_eq_getElem?_getD]
      refine acall_is (d0 _) ?_; simp (maxSteps := 200000) (disch := omega) [-List.getD_eq_getElem?_getD, e0', e0]
      refine acall_is (d1 _) ?_; simp (maxSteps := 200000) (disch := omega) [-List.getD_eq_getElem?_getD]
      by_cases e1 : rDone bs q1 = 0
      · obtain ⟨k', i1⟩ := i1 e1 []
        simp (maxSteps := 200000) (disch := omega) [-List.getD_eq_getElem?_getD, e1]
        refine acall_is (i1) ?_; simp (maxSteps := 200000) (disch := omega) [-List.getD_eq_getElem?_getD]
        refine acall_is (same_self bs _ _ _ _) ?_; simp (maxSteps := 200000) (disch := omega) [-List.getD_eq_getElem?_getD]
        refine key _ _ ?_; simp
      · have e1' : (rDone bs q1 == 0) = false := by simpa using e1
        simp (maxSteps := 200000) (disch := omega) [-List.getD_eq_getElem?_getD, e1', e1]
        refine key _ _ ?_; simp
end Go.Proofs.Ytgnhfcncbkikgaa
