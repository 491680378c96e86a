/- WirePrefix: the walk.
   Conditions: none. -/
import Derived.Test.YtgnhfcncbkikgaaWFn9
import Derived.Test.YtgnhfcncbkikgaaWCan
namespace Go.Proofs.Ytgnhfcncbkikgaa
open Go Go.Am Wire
set_option linter.unusedVariables false

theorem rDone_bad (bs : List UInt8) (n : Nat) : rDone bs ⟨n, true⟩ = 5 := by simp [rDone]

theorem few_mem {l : List (List UInt8)} {n m : Int} (h : few l n m = true) : (∀ x ∈ l, (x.length : Int) ≤ m) ∧ (l.length : Int) ≤ n := by
  simpa [few] using h

/-- What stands where a beginning has been read. -/
theorem pre_from (a : List UInt8) (k : Nat) (hk : k < a.length) (ha : a.length ≤ 1099511627776) : ACall Try.prog 14 [.sl k (encB (a.take k)) .none] [] [] (Is (.ptr 0 0) [.cells (rd (a.take k) ⟨0, false⟩)] []) := by
  have hl : (a.take k).length = k := by rw [List.length_take]; omega
  have := from_ok (a.take k) (by omega) [] []
  rw [hl] at this
  exact this

theorem pre_done (a : List UInt8) (k : Nat) (ha : a.length ≤ 1099511627776) : ACall Try.prog 18 [.ptr 0 0] [.cells (rd (a.take k) ⟨0, true⟩)] [] (Is (.int .i64 5) [.cells (rd (a.take k) ⟨0, true⟩)] []) := by
  have := wDone_ok (a.take k) ⟨0, true⟩ (Nat.zero_le _) (by rw [List.length_take]; omega) [.cells (rd (a.take k) ⟨0, true⟩)] [] 0 rfl
  rw [rDone_bad] at this
  exact this

theorem pre_rest (a : List UInt8) (k : Nat) (hk : k < a.length) (ha : a.length ≤ 1099511627776) : ACall Try.prog 16 [.ptr 0 0] [.cells (rd (a.take k) ⟨0, true⟩)] [] (Is (.int .i64 (k : Nat)) [.cells (rd (a.take k) ⟨0, true⟩)] []) := by
  have hl : (a.take k).length = k := by rw [List.length_take]; omega
  have := wRest_ok (a.take k) ⟨0, true⟩ (Nat.zero_le _) (by rw [List.length_take]; omega) [.cells (rd (a.take k) ⟨0, true⟩)] [] 0 rfl
  rw [hl] at this
  exact this

theorem pre_int (n : Int) (k : Nat) (hn : inI n) (hk : k < (enc n).length) : ACall Try.prog 20 [.ptr 0 0, .int .i64 (-9223372036854775808), .int .i64 9223372036854775807] [.cells (rd ((enc n).take k) ⟨0, false⟩)] []
    (Is (.int .i64 0) [.cells (rd ((enc n).take k) ⟨0, true⟩)] []) := by
  have hle := (enc_len hn.1 hn.2).2
  have := wInt_ok ((enc n).take k) ⟨0, false⟩ (-9223372036854775808) 9223372036854775807 (Nat.zero_le _) (by rw [List.length_take]; omega) [.cells (rd ((enc n).take k) ⟨0, false⟩)] [] 0 rfl
  rw [rInt_bad ((intCodec (-9223372036854775808) 9223372036854775807).pre ⟨hn.1, hn.2, hn⟩ hk)] at this
  exact this

theorem pre_ints (l : List Int) (k : Nat) (hl : ∀ x ∈ l, inI x) (h20 : l.length ≤ 20) (hk : k < (encInts l).length) (hle : (encInts l).length ≤ 1099511627776) : ACall Try.prog 23 [.ptr 0 0, .int .i64 20, .int .i64 (-9223372036854775808), .int .i64 9223372036854775807] [.cells (rd ((encInts l).take k) ⟨0, false⟩)] []
    (Is (.sl 0 [] .none) [.cells (rd ((encInts l).take k) ⟨0, true⟩)] []) := by
  have := wInts_ok ((encInts l).take k) ⟨0, false⟩ 20 (-9223372036854775808) 9223372036854775807 (by omega) (Nat.zero_le _) (by rw [List.length_take]; omega) [.cells (rd ((encInts l).take k) ⟨0, false⟩)] [] 0 rfl
  have hb : rList ((encInts l).take k) 20 (rInt ((encInts l).take k) (-9223372036854775808) 9223372036854775807) ⟨0, false⟩ = ([], ⟨0, true⟩) := rList_bad ((listCodec (intCodec (-9223372036854775808) 9223372036854775807) 20).pre (x := l) (k := k) ⟨by omega, ⟨by omega, by omega⟩, fun x hx => ⟨(hl x hx).1, (hl x hx).2, hl x hx⟩⟩ hk)
  rw [hb] at this
  exact this

theorem pre_texts (l : List (List UInt8)) (k : Nat) (hl : ∀ x ∈ l, (x.length : Int) ≤ 60) (h20 : l.length ≤ 10) (hk : k < (encTexts l).length) (hle : (encTexts l).length ≤ 1099511627776) : ACall Try.prog 24 [.ptr 0 0, .int .i64 10, .int .i64 60] [.cells (rd ((encTexts l).take k) ⟨0, false⟩)] []
    (Is (.sl 0 [] .none) [.cells (rd ((encTexts l).take k) ⟨0, true⟩)] []) := by
  have := wTexts_ok ((encTexts l).take k) ⟨0, false⟩ 10 60 (by omega) (Nat.zero_le _) (by rw [List.length_take]; omega) [.cells (rd ((encTexts l).take k) ⟨0, false⟩)] [] 0 rfl
  have hb : rList ((encTexts l).take k) 10 (rText ((encTexts l).take k) 60) ⟨0, false⟩ = ([], ⟨0, true⟩) := rList_bad ((listCodec (textCodec 60) 10).pre (x := l) (k := k) ⟨by omega, ⟨by omega, by omega⟩, fun x hx => ⟨hl x hx, by have := hl x hx; exact ⟨by omega, by omega⟩⟩⟩ hk)
  rw [hb] at this
  exact this

theorem encInts_len {l : List Int} (hl : ∀ x ∈ l, inI x) (h : l.length ≤ 1000) : 1 ≤ (encInts l).length ∧ (encInts l).length ≤ 20000 := by
  have h1 := enc_len (n := l.length) (by omega) (by omega)
  have h2 := flatMap_len l enc 10 (fun x hx => (enc_len (hl x hx).1 (hl x hx).2).2)
  simp only [encInts, List.length_append]
  omega

theorem encTexts_len {l : List (List UInt8)} (hl : ∀ x ∈ l, (x.length : Int) ≤ 1000) (h : l.length ≤ 1000) : 1 ≤ (encTexts l).length ∧ (encTexts l).length ≤ 2000000 := by
  have h1 := enc_len (n := l.length) (by omega) (by omega)
  have h2 := flatMap_len l encText 1010 (fun x hx => encText_len (m := 1000) (by decide) (by have := hl x hx; omega))
  simp only [encTexts, List.length_append]
  omega

set_option maxHeartbeats 4000000 in
theorem prefix_ok (n : Int) (hn : inI n) (l : List Int) (hl : ∀ x ∈ l, inI x) (hll : l.length ≤ maxLen) (t : List (List UInt8)) (ht : ∀ x ∈ t, x.length ≤ maxLen) (htl : t.length ≤ maxLen) :
    ACall Try.prog 7 [.int .i64 n, .sl l.length (ints l) .none, .sl t.length (strs t) .none] [] [] (fun r _ _ => r = .bool true) := by
  have hml : maxLen ≤ 9223372036854775807 := by decide
  have hll' := Nat.le_trans hll hml
  have htl' := Nat.le_trans htl hml
  have hf := few_ok t 10 60 htl ht [] []
  refine acall_enter 16 [] Try.ntmps7 Try.func7 rfl (fun _ _ => Try.call7 _ _) (by simp) (fun HO => ?_)
  refine aw_reg fun K hK => ?_; simp (maxSteps := 200000) (disch := omega) [-List.getD_eq_getElem?_getD]; refine hK _ ?_; clear hK K
  refine aw_then fun K1 hK1 => ?_
  refine aw_reg fun K hK => ?_; simp (maxSteps := 200000) (disch := omega) [-List.getD_eq_getElem?_getD]
  refine acall_is (awake_ok _ _) ?_; simp (maxSteps := 200000) (disch := omega) [-List.getD_eq_getElem?_getD]
  refine hK _ ?_; clear hK K
  refine aw_if rfl (fun h => absurd h (by simp)) (fun h => ?_)
  refine aw_skip ?_; simp (maxSteps := 200000) (disch := omega) [-List.getD_eq_getElem?_getD]
  refine hK1 _ ?_; clear hK1
  refine aw_then fun K1 hK1 => ?_
  by_cases h20 : (20 : Int) < l.length
  · have b : decide ((20 : Int) < l.length) = true := by simpa using h20
    refine aw_reg fun K hK => ?_; simp (maxSteps := 200000) (disch := omega) [-List.getD_eq_getElem?_getD, b]; refine hK _ ?_; clear hK K
    refine aw_if rfl (fun h => ?_) (fun h => absurd h (by simp))
    refine aw_reg fun K hK => ?_; simp (maxSteps := 200000) (disch := omega) [-List.getD_eq_getElem?_getD]; refine hK _ ?_; clear hK K
    refine aw_ret ?_; simp (maxSteps := 200000) (disch := omega) [-List.getD_eq_getElem?_getD]
  · have b : decide ((20 : Int) < l.length) = false := by simpa using h20
    cases hfew : few t 10 60
    · rw [hfew] at hf
      refine aw_reg fun K hK => ?_; simp (maxSteps := 200000) (disch := omega) [-List.getD_eq_getElem?_getD, b]
      refine acall_is (hf) ?_; simp (maxSteps := 200000) (disch := omega) [-List.getD_eq_getElem?_getD]
      refine hK _ ?_; clear hK K
      refine aw_if rfl (fun h => ?_) (fun h => absurd h (by simp))
      refine aw_reg fun K hK => ?_; simp (maxSteps := 200000) (disch := omega) [-List.getD_eq_getElem?_getD]; refine hK _ ?_; clear hK K
      refine aw_ret ?_; simp (maxSteps := 200000) (disch := omega) [-List.getD_eq_getElem?_getD]
    · rw [hfew] at hf
      obtain ⟨t1, t2⟩ := few_mem hfew
      have la := enc_len hn.1 hn.2
      have lb := encInts_len hl (by omega)
      have lc := encTexts_len (l := t) (fun x hx => by have := t1 x hx; omega) (by omega)
      refine aw_reg fun K hK => ?_; simp (maxSteps := 200000) (disch := omega) [-List.getD_eq_getElem?_getD, b]
      refine acall_is (hf) ?_; simp (maxSteps := 200000) (disch := omega) [-List.getD_eq_getElem?_getD]
      refine hK _ ?_; clear hK K
      refine aw_if rfl (fun h => absurd h (by simp)) (fun h => ?_)
      refine aw_skip ?_; simp (maxSteps := 200000) (disch := omega) [-List.getD_eq_getElem?_getD]
      refine hK1 _ ?_; clear hK1
      refine aw_reg fun K hK => ?_; simp (maxSteps := 200000) (disch := omega) [-List.getD_eq_getElem?_getD]; refine hK _ ?_; clear hK K
      have c0 := int_full [] n hn.1 hn.2 [] [] (by decide)
      have c1 := ints_full [] l [] [((enc n).length, 1)] hl (by simp; omega)
      have c2 := texts_full [] t 70 [] [((enc n).length, 1), ((encInts l).length, 1)] (fun y hy => encText_len (m := 60) (by decide) (by have := t1 y hy; omega)) (by simp; omega) (by omega)
      simp only [List.nil_append, List.length_nil, List.length_cons, List.cons_append] at c0 c1 c2
      refine aw_reg fun K hK => ?_; simp (maxSteps := 200000) (disch := omega) [-List.getD_eq_getElem?_getD]
      refine acall_is (c0) ?_; simp (maxSteps := 200000) (disch := omega) [-List.getD_eq_getElem?_getD]
      refine acall_is (c1) ?_; simp (maxSteps := 200000) (disch := omega) [-List.getD_eq_getElem?_getD]
      refine acall_is (c2) ?_; simp (maxSteps := 200000) (disch := omega) [-List.getD_eq_getElem?_getD]
      refine hK _ ?_; clear hK K
      refine aw_then fun K1 hK1 => ?_
      refine aw_reg fun K hK => ?_; simp (maxSteps := 200000) (disch := omega) [-List.getD_eq_getElem?_getD]; refine hK _ ?_; clear hK K
      refine aw_block ?_
      clear c0 c1 c2
      have i0 := pre_int n
      have i1 := pre_ints l
      have i2 := pre_texts t
      generalize enc n = a at *
      generalize encInts l = b' at *
      generalize encTexts t = c at *
      refine aw_loop (X := Nat) (fun k => ⟨[(7, .int .i64 (-9223372036854775808)), (8, .int .i64 9223372036854775807), (9, .sl a.length (encB a) .none), (10, .sl b'.length (encB b') .none), (11, .sl c.length (encB c) .none), (12, .int .i64 (k : Nat))], [], []⟩)
        (fun k => k ≤ 2000000) (fun k => 2000000 - k) 0 ?_ ?_ ?_
      · exact Nat.zero_le _
      · refine weak_to [] [(a.length, 1), (b'.length, 1), (c.length, 1)] ?_ ?_ ?_ ?_ HO ?_
        all_goals simp
      · intro k hk
        refine aw_then fun K2 hK2 => ?_
        refine aw_reg fun K hK => ?_
        have key : ∀ e, envLe 0 0 e [(7, .int .i64 (-9223372036854775808)), (8, .int .i64 9223372036854775807), (9, .sl a.length (encB a) .none), (10, .sl b'.length (encB b') .none), (11, .sl c.length (encB c) .none), (12, .int .i64 (k : Nat)), (47, .bool (decide (k < a.length ∨ k < b'.length ∨ k < c.length)))] → K ⟨e, [], []⟩ := by
          intro e he
          refine hK _ (aw_weak ⟨[(7, .int .i64 (-9223372036854775808)), (8, .int .i64 9223372036854775807), (9, .sl a.length (encB a) .none), (10, .sl b'.length (encB b') .none), (11, .sl c.length (encB c) .none), (12, .int .i64 (k : Nat)), (47, .bool (decide (k < a.length ∨ k < b'.length ∨ k < c.length)))], [], []⟩ (weak_to [] [] (by simp) (by simp) (by simp) (by simp) HO he) ?_)
          refine aw_if rfl (fun h => ?_) (fun h => ?_)
          · simp only [decide_eq_true_eq] at h
            have hk2 : k < 2000000 := by omega
            refine aw_skip ?_; simp (maxSteps := 200000) (disch := omega) [-List.getD_eq_getElem?_getD]
            refine hK2 _ ?_; clear hK2
            refine aw_then fun K3 hK3 => ?_
            refine aw_block ?_
            have key3 : ∀ e B, envLe 0 0 e [(7, .int .i64 (-9223372036854775808)), (8, .int .i64 9223372036854775807), (9, .sl a.length (encB a) .none), (10, .sl b'.length (encB b') .none), (11, .sl c.length (encB c) .none), (12, .int .i64 (k : Nat))] → K3 ⟨e, B, []⟩ := by
              intro e B he
              refine hK3 _ (aw_weak ⟨[(7, .int .i64 (-9223372036854775808)), (8, .int .i64 9223372036854775807), (9, .sl a.length (encB a) .none), (10, .sl b'.length (encB b') .none), (11, .sl c.length (encB c) .none), (12, .int .i64 (k : Nat))], [], []⟩ (weak_to B [] (by simp) (by simp) (by simp) (by simp) HO he) ?_)
              refine aw_reg0 fun K hK => ?_; simp (maxSteps := 200000) (disch := omega) [-List.getD_eq_getElem?_getD]
              refine hK _ ?_; clear hK K
              refine ⟨k + 1, by show k + 1 ≤ 2000000; omega, by show 2000000 - (k + 1) < 2000000 - k; omega, ?_⟩
              refine weak_to [] [] ?_ ?_ ?_ ?_ HO ?_
              all_goals simp
            clear hK3
            refine aw_then fun K4 hK4 => ?_
            have key4 : ∀ e B, envLe 0 0 e [(7, .int .i64 (-9223372036854775808)), (8, .int .i64 9223372036854775807), (9, .sl a.length (encB a) .none), (10, .sl b'.length (encB b') .none), (11, .sl c.length (encB c) .none), (12, .int .i64 (k : Nat))] → K4 ⟨e, B, []⟩ := by
              intro e B he
              refine hK4 _ (aw_weak ⟨[(7, .int .i64 (-9223372036854775808)), (8, .int .i64 9223372036854775807), (9, .sl a.length (encB a) .none), (10, .sl b'.length (encB b') .none), (11, .sl c.length (encB c) .none), (12, .int .i64 (k : Nat))], [], []⟩ (weak_to B [] (by simp) (by simp) (by simp) (by simp) HO he) ?_)
              refine aw_then fun K5 hK5 => ?_
              have key5 : ∀ e B, envLe 0 0 e [(7, .int .i64 (-9223372036854775808)), (8, .int .i64 9223372036854775807), (9, .sl a.length (encB a) .none), (10, .sl b'.length (encB b') .none), (11, .sl c.length (encB c) .none), (12, .int .i64 (k : Nat))] → K5 ⟨e, B, []⟩ := by
                intro e B he
                refine hK5 _ (aw_weak ⟨[(7, .int .i64 (-9223372036854775808)), (8, .int .i64 9223372036854775807), (9, .sl a.length (encB a) .none), (10, .sl b'.length (encB b') .none), (11, .sl c.length (encB c) .none), (12, .int .i64 (k : Nat))], [], []⟩ (weak_to B [] (by simp) (by simp) (by simp) (by simp) HO he) ?_)
                refine aw_reg fun K hK => ?_; simp (maxSteps := 200000) (disch := omega) [-List.getD_eq_getElem?_getD]; refine hK _ ?_; clear hK K
                refine aw_if rfl (fun h => ?_) (fun h => ?_)
                · simp [-List.getD_eq_getElem?_getD] at h
                  have hk3 : k < c.length := by omega
                  refine aw_reg fun K hK => ?_; simp (maxSteps := 200000) (disch := omega) [-List.getD_eq_getElem?_getD, encB_take]
                  refine acall_is (pre_from c k hk3 (by omega)) ?_; simp (maxSteps := 200000) (disch := omega) [-List.getD_eq_getElem?_getD]
                  refine hK _ ?_; clear hK K
                  refine aw_reg fun K hK => ?_; simp (maxSteps := 200000) (disch := omega) [-List.getD_eq_getElem?_getD]
                  refine acall_is (i2 k t1 (by omega) hk3 (by omega)) ?_; simp (maxSteps := 200000) (disch := omega) [-List.getD_eq_getElem?_getD]
                  refine acall_is (pre_done c k (by omega)) ?_; simp (maxSteps := 200000) (disch := omega) [-List.getD_eq_getElem?_getD]
                  refine acall_is (pre_rest c k hk3 (by omega)) ?_; simp (maxSteps := 200000) (disch := omega) [-List.getD_eq_getElem?_getD]
                  refine hK _ ?_; clear hK K
                  refine aw_if rfl (fun h => absurd h (by simp)) (fun h => ?_)
                  refine aw_skip ?_; simp (maxSteps := 200000) (disch := omega) [-List.getD_eq_getElem?_getD]
                  exact key3 _ _ (by simp)
                · simp [-List.getD_eq_getElem?_getD] at h
                  refine aw_skip ?_; simp (maxSteps := 200000) (disch := omega) [-List.getD_eq_getElem?_getD]
                  exact key3 _ _ (by simp)
              clear hK5
              refine aw_reg fun K hK => ?_; simp (maxSteps := 200000) (disch := omega) [-List.getD_eq_getElem?_getD]; refine hK _ ?_; clear hK K
              refine aw_if rfl (fun h => ?_) (fun h => ?_)
              · simp [-List.getD_eq_getElem?_getD] at h
                have hk3 : k < b'.length := by omega
                refine aw_reg fun K hK => ?_; simp (maxSteps := 200000) (disch := omega) [-List.getD_eq_getElem?_getD, encB_take]
                refine acall_is (pre_from b' k hk3 (by omega)) ?_; simp (maxSteps := 200000) (disch := omega) [-List.getD_eq_getElem?_getD]
                refine hK _ ?_; clear hK K
                refine aw_reg fun K hK => ?_; simp (maxSteps := 200000) (disch := omega) [-List.getD_eq_getElem?_getD]
                refine acall_is (i1 k hl (by omega) hk3 (by omega)) ?_; simp (maxSteps := 200000) (disch := omega) [-List.getD_eq_getElem?_getD]
                refine acall_is (pre_done b' k (by omega)) ?_; simp (maxSteps := 200000) (disch := omega) [-List.getD_eq_getElem?_getD]
                refine acall_is (pre_rest b' k hk3 (by omega)) ?_; simp (maxSteps := 200000) (disch := omega) [-List.getD_eq_getElem?_getD]
                refine hK _ ?_; clear hK K
                refine aw_if rfl (fun h => absurd h (by simp)) (fun h => ?_)
                refine aw_skip ?_; simp (maxSteps := 200000) (disch := omega) [-List.getD_eq_getElem?_getD]
                exact key5 _ _ (by simp)
              · simp [-List.getD_eq_getElem?_getD] at h
                refine aw_skip ?_; simp (maxSteps := 200000) (disch := omega) [-List.getD_eq_getElem?_getD]
                exact key5 _ _ (by simp)
            clear hK4
            refine aw_reg fun K hK => ?_; simp (maxSteps := 200000) (disch := omega) [-List.getD_eq_getElem?_getD]; refine hK _ ?_; clear hK K
            refine aw_if rfl (fun h => ?_) (fun h => ?_)
            · simp [-List.getD_eq_getElem?_getD] at h
              have hk3 : k < a.length := by omega
              refine aw_reg fun K hK => ?_; simp (maxSteps := 200000) (disch := omega) [-List.getD_eq_getElem?_getD, encB_take]
              refine acall_is (pre_from a k hk3 (by omega)) ?_; simp (maxSteps := 200000) (disch := omega) [-List.getD_eq_getElem?_getD]
              refine hK _ ?_; clear hK K
              refine aw_reg fun K hK => ?_; simp (maxSteps := 200000) (disch := omega) [-List.getD_eq_getElem?_getD]
              refine acall_is (i0 k hn hk3) ?_; simp (maxSteps := 200000) (disch := omega) [-List.getD_eq_getElem?_getD]
              refine acall_is (pre_done a k (by omega)) ?_; simp (maxSteps := 200000) (disch := omega) [-List.getD_eq_getElem?_getD]
              refine acall_is (pre_rest a k hk3 (by omega)) ?_; simp (maxSteps := 200000) (disch := omega) [-List.getD_eq_getElem?_getD]
              refine hK _ ?_; clear hK K
              refine aw_if rfl (fun h => absurd h (by simp)) (fun h => ?_)
              refine aw_skip ?_; simp (maxSteps := 200000) (disch := omega) [-List.getD_eq_getElem?_getD]
              exact key4 _ _ (by simp)
            · simp [-List.getD_eq_getElem?_getD] at h
              refine aw_skip ?_; simp (maxSteps := 200000) (disch := omega) [-List.getD_eq_getElem?_getD]
              exact key4 _ _ (by simp)
          · simp only [decide_eq_false_iff_not] at h
            refine aw_exit ?_; simp (maxSteps := 200000) (disch := omega) [-List.getD_eq_getElem?_getD]
            refine hK1 _ ?_; clear hK1
            refine aw_reg fun K hK => ?_; simp (maxSteps := 200000) (disch := omega) [-List.getD_eq_getElem?_getD]; refine hK _ ?_; clear hK K
            refine aw_ret ?_; simp (maxSteps := 200000) (disch := omega) [-List.getD_eq_getElem?_getD]
            omega
        clear hK
        by_cases h0 : k < a.length
        · have b0 : decide (k < a.length) = true := by simpa using h0
          simp (maxSteps := 200000) (disch := omega) [-List.getD_eq_getElem?_getD, b0]
          exact key _ (by simp [h0])
        · have b0 : decide (k < a.length) = false := by simpa using h0
          by_cases h1 : k < b'.length
          · have b1 : decide (k < b'.length) = true := by simpa using h1
            simp (maxSteps := 200000) (disch := omega) [-List.getD_eq_getElem?_getD, b0, b1]
            exact key _ (by simp [h0, h1])
          · have b1 : decide (k < b'.length) = false := by simpa using h1
            simp (maxSteps := 200000) (disch := omega) [-List.getD_eq_getElem?_getD, b0, b1]
            exact key _ (by simp [h0, h1])
end Go.Proofs.Ytgnhfcncbkikgaa
