/- PostingJoins: the walk.
   Conditions: none. -/
import Derived.Test.YtlijaamjcpefoaaPE
import Derived.Test.YtlijaamjcpefoaaPC
import Derived.Test.YtlijaamjcpefoaaPArg
namespace Go.Proofs.Ytlijaamjcpefoaa
open Go Go.Am Post
set_option linter.unusedVariables false

abbrev Fw (l : PL) : Prop := l.length ≤ 30 ∧ ∀ p ∈ l, p.2.length ≤ 30
theorem nearL_fw {a b : PL} {n : Int} (h : Fw a) : Fw (nearL a b n) := by
  unfold nearL
  split
  · exact ⟨Nat.le_trans (flt_len a) h.1, flt_pos h.2⟩
  · exact ⟨Nat.zero_le _, fun p hp => by simp at hp⟩
theorem unionL_sz {a b : PL} {m k : Nat} (ha : a.length ≤ m) (hb : b.length ≤ m) (pa : ∀ p ∈ a, p.2.length ≤ k) (pb : ∀ p ∈ b, p.2.length ≤ k) : (unionL a b).length ≤ 2 * m ∧ ∀ p ∈ unionL a b, p.2.length ≤ 2 * k := by
  unfold unionL
  split
  · have := jn_len (docs a) (docs b)
    refine ⟨by simp [unL, docs] at this ⊢; omega, fun p hp => ?_⟩
    obtain ⟨d, _, rfl⟩ := List.mem_map.1 hp
    have h1 := posOf_len pa d
    have h2 := posOf_len pb d
    have h3 := jn_len (posOf a d) (posOf b d)
    show (jn (posOf a d) (posOf b d)).length ≤ _
    omega
  · exact ⟨Nat.zero_le _, fun p hp => by simp at hp⟩

theorem sameX_ok (a : PL) (h1 : a.length ≤ 1000) (h2 : ∀ p ∈ a, p.2.length ≤ 1000) (H : List Blk) (T : Toks) (ta tb : Tag) : ACall Try.prog 14 [.sl a.length (psAV a) ta, .sl a.length (psAV a) tb] H T (Is (.bool true) H T) := by
  have := same_ok a a h1 h1 (fun p hp => Nat.le_trans (h2 p hp) (by decide)) (fun p hp => Nat.le_trans (h2 p hp) (by decide)) H T ta tb
  rw [decide_eq_true rfl] at this
  exact this

theorem pjoins_ok (a b : PL) (n : Int) (ha : Sz a) (hb : Sz b) : ACall Try.prog 6 [.sl a.length (psAV a) .none, .sl b.length (psAV b) .none, .int .i64 n] [] [] (fun r _ _ => r = .bool true) := by
  have f1 := few_ok a ha.1 ha.2 [] [] .none
  have f2 := few_ok b hb.1 hb.2 [] [] .none
  refine acall_enter 7 [] Try.ntmps6 Try.func6 rfl (fun _ _ => Try.call6 _ _) (by simp) (fun HO => ?_)
  refine aw_reg fun K hK => ?_; simp (maxSteps := 1000000) (disch := omega) [-List.getD_eq_getElem?_getD]; refine hK _ ?_; clear hK K
  refine aw_then fun K1 hK1 => ?_
  refine aw_reg fun K hK => ?_; simp (maxSteps := 1000000) (disch := omega) [-List.getD_eq_getElem?_getD]
  refine acall_is (awake_ok _ _) ?_; simp (maxSteps := 1000000) (disch := omega) [-List.getD_eq_getElem?_getD]
  refine hK _ ?_; clear hK K
  refine aw_if rfl (fun h => absurd h (by simp)) (fun h => ?_)
  refine aw_skip ?_; simp (maxSteps := 1000000) (disch := omega) [-List.getD_eq_getElem?_getD]
  refine hK1 _ ?_; clear hK1
  refine aw_then fun K1 hK1 => ?_
  by_cases h1 : Fw a
  · rw [decide_eq_true h1] at f1
    by_cases h2 : Fw b
    · rw [decide_eq_true h2] at f2
      refine aw_reg fun K hK => ?_; simp (maxSteps := 1000000) (disch := omega) [-List.getD_eq_getElem?_getD]
      refine acall_is (f1) ?_; simp (maxSteps := 1000000) (disch := omega) [-List.getD_eq_getElem?_getD]
      refine acall_is (f2) ?_; simp (maxSteps := 1000000) (disch := omega) [-List.getD_eq_getElem?_getD]
      refine hK _ ?_; clear hK K
      refine aw_if rfl (fun h => absurd h (by simp)) (fun h => ?_)
      refine aw_skip ?_; simp (maxSteps := 1000000) (disch := omega) [-List.getD_eq_getElem?_getD]
      refine hK1 _ ?_; clear hK1
      have c1 := fun tg => ownP_ok a (by have := h1.1; omega) [] [] tg
      have c2 := fun tg => ownP_ok b (by have := h2.1; omega) [] [] tg
      have pa : ∀ p ∈ a, p.2.length ≤ 400 := fun p hp => Nat.le_trans (h1.2 p hp) (by decide)
      have pb : ∀ p ∈ b, p.2.length ≤ 400 := fun p hp => Nat.le_trans (h2.2 p hp) (by decide)
      have c3 := union_ok a b (by have := h1.1; omega) (by have := h2.1; omega) pa pb [] [] .none .none
      have c4 := unionR_ok a b (by have := h1.1; omega) (by have := h2.1; omega) pa pb [] [] .none .none
      obtain ⟨u1, u2⟩ := unionL_sz h1.1 h2.1 h1.2 h2.2
      have c5 := sameX_ok (unionL a b) (by omega) (fun p hp => by have := u2 p hp; omega) [] [] .none .none
      have c6 := near_ok a b n (by have := h1.1; omega) (by have := h2.1; omega) pa pb [] [] .none .none
      have c7 := nearR_ok a b n (by have := h1.1; omega) (by have := h2.1; omega) pa pb [] [] .none .none
      have nf := nearL_fw (b := b) (n := n) h1
      have c8 := sameX_ok (nearL a b n) (by have := nf.1; omega) (fun p hp => by have := nf.2 p hp; omega) [] [] .none .none
      refine aw_reg fun K hK => ?_; simp (maxSteps := 1000000) (disch := omega) [-List.getD_eq_getElem?_getD]
      refine acall_is (c1 _) ?_; simp (maxSteps := 1000000) (disch := omega) [-List.getD_eq_getElem?_getD]
      refine acall_is (c2 _) ?_; simp (maxSteps := 1000000) (disch := omega) [-List.getD_eq_getElem?_getD]
      refine acall_is (c3) ?_; simp (maxSteps := 1000000) (disch := omega) [-List.getD_eq_getElem?_getD]
      refine acall_is (c4) ?_; simp (maxSteps := 1000000) (disch := omega) [-List.getD_eq_getElem?_getD]
      refine acall_is (c5) ?_; simp (maxSteps := 1000000) (disch := omega) [-List.getD_eq_getElem?_getD]
      refine acall_is (c1 _) ?_; simp (maxSteps := 1000000) (disch := omega) [-List.getD_eq_getElem?_getD]
      refine acall_is (c2 _) ?_; simp (maxSteps := 1000000) (disch := omega) [-List.getD_eq_getElem?_getD]
      refine acall_is (c6) ?_; simp (maxSteps := 1000000) (disch := omega) [-List.getD_eq_getElem?_getD]
      refine acall_is (c7) ?_; simp (maxSteps := 1000000) (disch := omega) [-List.getD_eq_getElem?_getD]
      refine acall_is (c8) ?_; simp (maxSteps := 1000000) (disch := omega) [-List.getD_eq_getElem?_getD]
      refine hK _ ?_; clear hK K
      refine aw_ret ?_; simp (maxSteps := 1000000) (disch := omega) [-List.getD_eq_getElem?_getD]
    · rw [decide_eq_false h2] at f2
      refine aw_reg fun K hK => ?_; simp (maxSteps := 1000000) (disch := omega) [-List.getD_eq_getElem?_getD]
      refine acall_is (f1) ?_; simp (maxSteps := 1000000) (disch := omega) [-List.getD_eq_getElem?_getD]
      refine acall_is (f2) ?_; simp (maxSteps := 1000000) (disch := omega) [-List.getD_eq_getElem?_getD]
      refine hK _ ?_; clear hK K
      refine aw_if rfl (fun h => ?_) (fun h => absurd h (by simp))
      refine aw_reg fun K hK => ?_; simp (maxSteps := 1000000) (disch := omega) [-List.getD_eq_getElem?_getD]; refine hK _ ?_; clear hK K
      refine aw_ret ?_; simp (maxSteps := 1000000) (disch := omega) [-List.getD_eq_getElem?_getD]
  · rw [decide_eq_false h1] at f1
    refine aw_reg fun K hK => ?_; simp (maxSteps := 1000000) (disch := omega) [-List.getD_eq_getElem?_getD]
    refine acall_is (f1) ?_; simp (maxSteps := 1000000) (disch := omega) [-List.getD_eq_getElem?_getD]
    refine hK _ ?_; clear hK K
    refine aw_if rfl (fun h => ?_) (fun h => absurd h (by simp))
    refine aw_reg fun K hK => ?_; simp (maxSteps := 1000000) (disch := omega) [-List.getD_eq_getElem?_getD]; refine hK _ ?_; clear hK K
    refine aw_ret ?_; simp (maxSteps := 1000000) (disch := omega) [-List.getD_eq_getElem?_getD]
end Go.Proofs.Ytlijaamjcpefoaa
