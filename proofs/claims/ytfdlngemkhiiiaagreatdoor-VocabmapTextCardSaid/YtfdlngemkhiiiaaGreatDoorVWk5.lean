/- The text of mappings (layer 26): the walk of the law.
   Conditions: lengths of the arguments below 2^47, as arguments have; the library's variables hold values of their types. -/
import Derived.Test.YtfdlngemkhiiiaaGreatDoorVWk1
import Derived.Test.YtfdlngemkhiiiaaGreatDoorVPrt
import Derived.Test.YtfdlngemkhiiiaaGreatDoorVFn13
namespace Voc
open Go.Lib Lst
theorem parseG_err (n : Nat) : ∀ (s : List UInt8) (l : List Mp) (i : Int), s.length ≤ n → (parseG (splitL 10 s) l i).2.2 = 0 ∨ (parseG (splitL 10 s) l i).2.2 = 7 := by
  induction n with
  | zero =>
    intro s l i hs
    have : s = [] := List.length_eq_zero_iff.1 (by omega)
    subst this
    rw [show splitL 10 [] = [[]] from rfl, parseG_last, if_pos rfl]
    exact .inl rfl
  | succ n ih =>
    intro s l i hs
    cases hc : cutL 10 s with
    | none =>
      rw [parseG_no hc]
      split
      · exact .inl rfl
      · exact .inr rfl
    | some p =>
      obtain ⟨t, r⟩ := p
      rw [parseG_step hc]
      have hsp := (index_some hc).2
      simp only at hsp
      have hl : s.length = t.length + (r.length + 1) := by
        have := congrArg List.length hsp
        rw [List.length_append, List.length_cons] at this
        exact this
      cases hr : rdF t with
      | none => exact .inr rfl
      | some x =>
        simp only
        split
        · exact ih r (l ++ [x]) (i + 1) (by omega)
        · exact .inr rfl
theorem printF_len (l : List Mp) (hl : l.length ≤ 1000) : (printF l).1.length ≤ 50000 := by
  unfold printF
  split
  · rename_i h
    have key : ∀ l : List Mp, (∀ x ∈ l, goodM x = true) → (printM l).length ≤ l.length * 44 := by
      intro l
      induction l with
      | nil => intro _; simp [printM]
      | cons x r ih =>
        intro h
        have h1 := Go.Proofs.YtfdlngemkhiiiaaGreatDoor.lineM_len (h x (by simp))
        have h2 := ih fun y hy => h y (List.mem_cons_of_mem _ hy)
        simp only [printM, List.flatMap_cons, List.length_append, List.length_cons, List.length_nil] at h2 ⊢
        omega
    have := key l fun x hx => validM_mem h hx
    simp only
    omega
  · simp
end Voc
namespace Go.Proofs.YtfdlngemkhiiiaaGreatDoor
open Go Go.Am Voc Lst
set_option linter.unusedVariables false

set_option maxRecDepth 100000 in
set_option maxHeartbeats 8000000 in
/-- VocabmapText. -/
theorem text_law (s : List UInt8) (l : List Mp) (hs : s.length ≤ maxLen) (hl : l.length ≤ maxLen) (H : List Blk) (hb : Lb H) :
    ACall Tryz.prog 3 [.str s, .sl l.length (mpAV l) .none] H [] (fun r H' _ => r = .bool true ∧ ∃ G, H' = H ++ G) := by
  have c0 := awake_ok H []
  have c1 := few_ok l H [] .none
  by_cases hs3 : s.length ≤ 300
  rotate_left
  · have b1 : decide ((s.length : Int) > 300) = true := decide_eq_true (by omega)
    have b1' : decide ((300 : Int) < (s.length : Nat)) = true := decide_eq_true (by omega)
    have b2 : 300 < s.length := by omega
    refine acall_enter 18 [] Tryz.ntmps3 Tryz.func3 rfl (fun _ _ => Tryz.call3 _ _) (by simp) (fun HO => ?_)
    refine aw_reg fun K hK => ?_; simp (maxSteps := 1000000) (disch := omega) [-List.getD_eq_getElem?_getD]; refine hK _ ?_; clear hK K
    refine aw_then fun K1 hK1 => ?_
    refine aw_reg fun K hK => ?_; simp (maxSteps := 1000000) (disch := omega) [-List.getD_eq_getElem?_getD]
    refine acall_is (c0) ?_; simp (maxSteps := 1000000) (disch := omega) [-List.getD_eq_getElem?_getD]
    refine hK _ ?_; clear hK K
    refine aw_if rfl (fun h => absurd h (by simp)) (fun h => ?_)
    refine aw_skip ?_; simp (maxSteps := 1000000) (disch := omega) [-List.getD_eq_getElem?_getD]
    refine hK1 _ ?_; clear hK1
    refine aw_then fun K1 hK1 => ?_
    refine aw_reg fun K hK => ?_; simp (maxSteps := 1000000) (disch := omega) [-List.getD_eq_getElem?_getD, b1, b1', b2]; refine hK _ ?_; clear hK K
    refine aw_if rfl (fun h => ?_) (fun h => absurd h (by simp))
    refine aw_reg fun K hK => ?_; simp (maxSteps := 1000000) (disch := omega) [-List.getD_eq_getElem?_getD]; refine hK _ ?_; clear hK K
    refine aw_ret ?_; simp (maxSteps := 1000000) (disch := omega) [-List.getD_eq_getElem?_getD]
  · have b1 : decide ((s.length : Int) > 300) = false := decide_eq_false (by omega)
    have b1' : decide ((300 : Int) < (s.length : Nat)) = false := decide_eq_false (by omega)
    have b2 : ¬ 300 < s.length := by omega
    by_cases hf : (decide (l.length ≤ 12) || decide (499 ≤ l.length) && decide (l.length ≤ 502)) = true
    rotate_left
    · have hf2 : (decide (l.length ≤ 12) || decide (499 ≤ l.length) && decide (l.length ≤ 502)) = false := by simpa using hf
      rw [hf2] at c1
      refine acall_enter 18 [] Tryz.ntmps3 Tryz.func3 rfl (fun _ _ => Tryz.call3 _ _) (by simp) (fun HO => ?_)
      refine aw_reg fun K hK => ?_; simp (maxSteps := 1000000) (disch := omega) [-List.getD_eq_getElem?_getD]; refine hK _ ?_; clear hK K
      refine aw_then fun K1 hK1 => ?_
      refine aw_reg fun K hK => ?_; simp (maxSteps := 1000000) (disch := omega) [-List.getD_eq_getElem?_getD]
      refine acall_is (c0) ?_; simp (maxSteps := 1000000) (disch := omega) [-List.getD_eq_getElem?_getD]
      refine hK _ ?_; clear hK K
      refine aw_if rfl (fun h => absurd h (by simp)) (fun h => ?_)
      refine aw_skip ?_; simp (maxSteps := 1000000) (disch := omega) [-List.getD_eq_getElem?_getD]
      refine hK1 _ ?_; clear hK1
      refine aw_then fun K1 hK1 => ?_
      refine aw_reg fun K hK => ?_; simp (maxSteps := 1000000) (disch := omega) [-List.getD_eq_getElem?_getD, b1, b1', b2]
      refine acall_is (c1) ?_; simp (maxSteps := 1000000) (disch := omega) [-List.getD_eq_getElem?_getD]
      refine hK _ ?_; clear hK K
      refine aw_if rfl (fun h => ?_) (fun h => absurd h (by simp))
      refine aw_reg fun K hK => ?_; simp (maxSteps := 1000000) (disch := omega) [-List.getD_eq_getElem?_getD]; refine hK _ ?_; clear hK K
      refine aw_ret ?_; simp (maxSteps := 1000000) (disch := omega) [-List.getD_eq_getElem?_getD]
    · rw [hf] at c1
      have hlen : l.length ≤ 502 := by
        simp only [Bool.or_eq_true, Bool.and_eq_true, decide_eq_true_eq] at hf
        omega
      have hpl := printF_len l (by omega)
      have p1 := parse_ok s (by omega) H [] hb
      have p2 := parseR_ok s (by omega) H []
      have p3 := parse_ok (printF l).1 (by omega) H [] hb
      have h1 := parseG_len s.length s [] 0 (Nat.le_refl _)
      have h2 := parseG_err s.length s [] 0 (Nat.le_refl _)
      have h3 : ∀ a j, parseF s = (a, j, 0) → printF a = (s, 0) := fun a j h => by
        obtain ⟨e1, e2⟩ := parseG_text s.length s [] a 0 j (Nat.le_refl _) rfl h
        unfold printF
        rw [if_pos e1, e2]
        rfl
      have h4 : validM l = true → printF l = (printM l, 0) ∧ parseF (printM l) = (l, 0, 0) := fun h => ⟨if_pos h, parseG_print l [] 0 h⟩
      have h5 : validM l = false → printF l = ([], 1) := fun h => if_neg (by rw [h]; simp)
      have h1 : (parseF s).1.length ≤ 300 := by
        have : (parseF s).1.length ≤ ([] : List Mp).length + s.length := h1
        simp at this
        omega
      have h2 : (parseF s).2.2 = 0 ∨ (parseF s).2.2 = 7 := h2
      have q1 := print_ok (parseF s).1 (by omega) H [] .none hb.pow
      have q2 := print_ok l (by omega) H [] .none hb.pow
      have s1 := same_ok (parseF s).1 (by omega) H [] .none .none
      have s2 := same_ok l (by omega) H [] .none .none
      generalize hP : parseF s = P at *
      obtain ⟨a, j, e⟩ := P
      simp only at h1 h2 p1 p2 q1 s1
      refine acall_enter 18 [] Tryz.ntmps3 Tryz.func3 rfl (fun _ _ => Tryz.call3 _ _) (by simp) (fun HO => ?_)
      refine aw_reg fun K hK => ?_; simp (maxSteps := 1000000) (disch := omega) [-List.getD_eq_getElem?_getD]; refine hK _ ?_; clear hK K
      refine aw_then fun K1 hK1 => ?_
      refine aw_reg fun K hK => ?_; simp (maxSteps := 1000000) (disch := omega) [-List.getD_eq_getElem?_getD]
      refine acall_is (c0) ?_; simp (maxSteps := 1000000) (disch := omega) [-List.getD_eq_getElem?_getD]
      refine hK _ ?_; clear hK K
      refine aw_if rfl (fun h => absurd h (by simp)) (fun h => ?_)
      refine aw_skip ?_; simp (maxSteps := 1000000) (disch := omega) [-List.getD_eq_getElem?_getD]
      refine hK1 _ ?_; clear hK1
      refine aw_then fun K1 hK1 => ?_
      refine aw_reg fun K hK => ?_; simp (maxSteps := 1000000) (disch := omega) [-List.getD_eq_getElem?_getD, b1, b1', b2]
      refine acall_is (c1) ?_; simp (maxSteps := 1000000) (disch := omega) [-List.getD_eq_getElem?_getD]
      refine hK _ ?_; clear hK K
      refine aw_if rfl (fun h => absurd h (by simp)) (fun h => ?_)
      refine aw_skip ?_; simp (maxSteps := 1000000) (disch := omega) [-List.getD_eq_getElem?_getD]
      refine hK1 _ ?_; clear hK1
      refine aw_reg fun K hK => ?_; simp (maxSteps := 1000000) (disch := omega) [-List.getD_eq_getElem?_getD]
      refine acall_is (p1) ?_; simp (maxSteps := 1000000) (disch := omega) [-List.getD_eq_getElem?_getD]
      refine hK _ ?_; clear hK K
      refine aw_reg fun K hK => ?_; simp (maxSteps := 1000000) (disch := omega) [-List.getD_eq_getElem?_getD]
      refine acall_is (p2) ?_; simp (maxSteps := 1000000) (disch := omega) [-List.getD_eq_getElem?_getD]
      refine hK _ ?_; clear hK K
      refine aw_then fun K1 hK1 => ?_
      refine aw_reg fun K hK => ?_; simp (maxSteps := 1000000) (disch := omega) [-List.getD_eq_getElem?_getD]
      refine acall_is (s1) ?_; simp (maxSteps := 1000000) (disch := omega) [-List.getD_eq_getElem?_getD]
      refine hK _ ?_; clear hK K
      refine aw_if rfl (fun h => absurd h (by simp)) (fun h => ?_)
      refine aw_skip ?_; simp (maxSteps := 1000000) (disch := omega) [-List.getD_eq_getElem?_getD]
      refine hK1 _ ?_; clear hK1
      refine aw_reg fun K hK => ?_; simp (maxSteps := 1000000) (disch := omega) [-List.getD_eq_getElem?_getD]
      refine acall_is (q1) ?_; simp (maxSteps := 1000000) (disch := omega) [-List.getD_eq_getElem?_getD]
      refine hK _ ?_; clear hK K
      refine aw_reg fun K hK => ?_; simp (maxSteps := 1000000) (disch := omega) [-List.getD_eq_getElem?_getD]
      refine acall_is (q2) ?_; simp (maxSteps := 1000000) (disch := omega) [-List.getD_eq_getElem?_getD]
      refine hK _ ?_; clear hK K
      refine aw_reg fun K hK => ?_; simp (maxSteps := 1000000) (disch := omega) [-List.getD_eq_getElem?_getD]
      refine acall_is (p3) ?_; simp (maxSteps := 1000000) (disch := omega) [-List.getD_eq_getElem?_getD]
      refine hK _ ?_; clear hK K
      cases hv : validM l with
      | false =>
        rw [h5 hv]
        rcases h2 with rfl | rfl
        · have h3 := h3 a j rfl
          rw [h3]
          refine aw_reg fun K hK => ?_; simp (maxSteps := 1000000) (disch := omega) [-List.getD_eq_getElem?_getD]; refine hK _ ?_; clear hK K
          refine aw_ret ?_; simp (maxSteps := 1000000) (disch := omega) [-List.getD_eq_getElem?_getD]
        · refine aw_reg fun K hK => ?_; simp (maxSteps := 1000000) (disch := omega) [-List.getD_eq_getElem?_getD]; refine hK _ ?_; clear hK K
          refine aw_ret ?_; simp (maxSteps := 1000000) (disch := omega) [-List.getD_eq_getElem?_getD]
      | true =>
        obtain ⟨e1, e2⟩ := h4 hv
        rw [e1, e2]
        rcases h2 with rfl | rfl
        · have h3 := h3 a j rfl
          rw [h3]
          refine aw_reg fun K hK => ?_; simp (maxSteps := 1000000) (disch := omega) [-List.getD_eq_getElem?_getD]
          refine acall_is (s2) ?_; simp (maxSteps := 1000000) (disch := omega) [-List.getD_eq_getElem?_getD]
          refine hK _ ?_; clear hK K
          refine aw_ret ?_; simp (maxSteps := 1000000) (disch := omega) [-List.getD_eq_getElem?_getD]
        · refine aw_reg fun K hK => ?_; simp (maxSteps := 1000000) (disch := omega) [-List.getD_eq_getElem?_getD]
          refine acall_is (s2) ?_; simp (maxSteps := 1000000) (disch := omega) [-List.getD_eq_getElem?_getD]
          refine hK _ ?_; clear hK K
          refine aw_ret ?_; simp (maxSteps := 1000000) (disch := omega) [-List.getD_eq_getElem?_getD]
end Go.Proofs.YtfdlngemkhiiiaaGreatDoor
