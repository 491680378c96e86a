/- PostingLists: the walk.
   Conditions: none. -/
import Derived.Test.YtlijaamjcpefoaaPF
import Derived.Test.YtlijaamjcpefoaaPC
import Derived.Test.YtlijaamjcpefoaaPArg
namespace Go.Proofs.Ytlijaamjcpefoaa
open Go Go.Am Post
set_option linter.unusedVariables false

theorem seekP_ok (l : PL) (d : Int) (hl : l.length ≤ 1000) (hp : ∀ p ∈ l, p.2.length ≤ maxLen) (H : List Blk) (T : Toks) (tg : Tag) :
    ACall Try.prog 40 [.sl l.length (psAV l) tg, .int .i64 d] H T (Is (.int .i64 ((if validL l = true then seekN l d else 0 : Nat) : Int)) H T) := by
  refine ACall.untag1 ?_
  have c1 := valid_ok l hl hp H T .none
  refine acall_enter 5 [] Try.ntmps40 Try.func40 rfl (fun _ _ => Try.call40 _ _) (by simp) (fun HO => ?_)
  refine aw_reg fun K hK => ?_; simp (maxSteps := 1000000) (disch := omega) [-List.getD_eq_getElem?_getD]; refine hK _ ?_; clear hK K
  refine aw_then fun K1 hK1 => ?_
  cases hv : validL l with
  | false =>
    rw [hv] at c1
    refine aw_reg fun K hK => ?_; simp (maxSteps := 1000000) (disch := omega) [-List.getD_eq_getElem?_getD]
    refine acall_is (c1) ?_; simp (maxSteps := 1000000) (disch := omega) [-List.getD_eq_getElem?_getD]
    refine hK _ ?_; clear hK K
    refine aw_if rfl (fun h => ?_) (fun h => absurd h (by simp))
    refine aw_reg fun K hK => ?_; simp (maxSteps := 1000000) (disch := omega) [-List.getD_eq_getElem?_getD]; refine hK _ ?_; clear hK K
    refine aw_ret ?_; simp (maxSteps := 1000000) (disch := omega) [-List.getD_eq_getElem?_getD]
    exact ⟨rfl, rfl, rfl⟩
  | true =>
    rw [hv] at c1
    rw [if_pos rfl]
    have c2 := seek_ok l 0 d hl (validL_iff hv).1 (Nat.zero_le _) H T
    refine aw_reg fun K hK => ?_; simp (maxSteps := 1000000) (disch := omega) [-List.getD_eq_getElem?_getD]
    refine acall_is (c1) ?_; simp (maxSteps := 1000000) (disch := omega) [-List.getD_eq_getElem?_getD]
    refine hK _ ?_; clear hK K
    refine aw_if rfl (fun h => absurd h (by simp)) (fun h => ?_)
    refine aw_skip ?_; simp (maxSteps := 1000000) (disch := omega) [-List.getD_eq_getElem?_getD]
    refine hK1 _ ?_; clear hK1
    refine aw_reg fun K hK => ?_; simp (maxSteps := 1000000) (disch := omega) [-List.getD_eq_getElem?_getD]
    refine acall_is (c2) ?_; simp (maxSteps := 1000000) (disch := omega) [-List.getD_eq_getElem?_getD]
    refine hK _ ?_; clear hK K
    refine aw_ret ?_; simp (maxSteps := 1000000) (disch := omega) [-List.getD_eq_getElem?_getD]
    exact ⟨rfl, rfl, rfl⟩

theorem onlyL_sz {l : PL} {ds : List Int} {k : Nat} (hl : l.length ≤ 30) (hp : ∀ p ∈ l, p.2.length ≤ k) (hd : ds.length ≤ 60) : (onlyL l ds).length ≤ 60 ∧ ∀ p ∈ onlyL l ds, p.2.length ≤ k := by
  unfold onlyL
  split
  · refine ⟨Nat.le_trans (onP_len l ds) hd, fun p hp' => ?_⟩
    obtain ⟨d, _, rfl⟩ := List.mem_map.1 hp'
    exact posOf_len hp d
  · exact ⟨Nat.zero_le _, fun p hp => by simp at hp⟩

set_option maxHeartbeats 2000000 in
theorem plists_ok (l : PL) (d : Int) (ds : List Int) (hl : Sz l) (hd : ds.length ≤ maxLen) : ACall Try.prog 9 [.sl l.length (psAV l) .none, .int .i64 d, .sl ds.length (ints ds) .none] [] [] (fun r _ _ => r = .bool true) := by
  have f1 := few_ok l hl.1 hl.2 [] [] .none
  have f2 : ACall Try.prog 17 [.sl ds.length (ints ds) .none, .sl 0 [] .full] [] [] (Is (.bool (decide (ds.length ≤ 60 ∧ ([] : List Int).length ≤ 60))) [] []) := short_ok ds [] hd (Nat.zero_le _) [] [] .full
  refine acall_enter 8 [] Try.ntmps9 Try.func9 rfl (fun _ _ => Try.call9 _ _) (by simp) (fun HO => ?_)
  refine aw_reg fun K hK => ?_; simp (maxSteps := 1000000) (disch := omega) [-List.getD_eq_getElem?_getD]; refine hK _ ?_; clear hK K
  refine aw_then fun K1 hK1 => ?_
  refine aw_reg fun K hK => ?_; simp (maxSteps := 1000000) (disch := omega) [-List.getD_eq_getElem?_getD]
  refine acall_is (awake_ok _ _) ?_; simp (maxSteps := 1000000) (disch := omega) [-List.getD_eq_getElem?_getD]
  refine hK _ ?_; clear hK K
  refine aw_if rfl (fun h => absurd h (by simp)) (fun h => ?_)
  refine aw_skip ?_; simp (maxSteps := 1000000) (disch := omega) [-List.getD_eq_getElem?_getD]
  refine hK1 _ ?_; clear hK1
  refine aw_then fun K1 hK1 => ?_
  by_cases h1 : l.length ≤ 30 ∧ ∀ p ∈ l, p.2.length ≤ 30
  · rw [decide_eq_true h1] at f1
    by_cases h2 : ds.length ≤ 60 ∧ ([] : List Int).length ≤ 60
    · rw [decide_eq_true h2] at f2
      refine aw_reg fun K hK => ?_; simp (maxSteps := 1000000) (disch := omega) [-List.getD_eq_getElem?_getD]
      refine acall_is (f1) ?_; simp (maxSteps := 1000000) (disch := omega) [-List.getD_eq_getElem?_getD]
      refine acall_is (f2) ?_; simp (maxSteps := 1000000) (disch := omega) [-List.getD_eq_getElem?_getD]
      refine hK _ ?_; clear hK K
      refine aw_if rfl (fun h => absurd h (by simp)) (fun h => ?_)
      refine aw_skip ?_; simp (maxSteps := 1000000) (disch := omega) [-List.getD_eq_getElem?_getD]
      refine hK1 _ ?_; clear hK1
      obtain ⟨p1, p2⟩ := h1
      obtain ⟨q1, _⟩ := h2
      have pm : ∀ p ∈ l, p.2.length ≤ maxLen := fun p hp => Nat.le_trans (p2 p hp) (by decide)
      have c1 := ownP_ok l (by omega) [] [] .none
      have c2 := valid_ok l (by omega) pm [] [] .none
      have c3 := validR_ok l (by omega) pm [] [] .none
      have c4 := docsP_ok l (by omega) pm [] [] .none
      have c5 := docsRR_ok l (by omega) pm [] [] .none
      have hdl : (docsL l).length ≤ maxLen := by
        unfold docsL
        split
        · simp [docs]; exact Nat.le_trans p1 (by decide)
        · exact Nat.zero_le _
      have c6 := ints_ok (docsL l) (docsL l) hdl hdl [] [] .none .none
      rw [beq_self_eq_true] at c6
      have c7 := count_ok l (by omega) (fun p hp => Nat.le_trans (p2 p hp) (by decide)) [] [] .none
      have c8 := countR_ok l (by omega) (fun p hp => Nat.le_trans (p2 p hp) (by decide)) [] [] .none
      have c9 := seekP_ok l d (by omega) pm [] [] .none
      have c10 := seekR_ok l d (by omega) pm [] [] .none
      have c11 := only_ok l ds (by omega) (fun p hp => Nat.le_trans (p2 p hp) (by decide)) (by omega) [] [] .none .none
      have c12 := onlyR_ok l ds (by omega) (fun p hp => Nat.le_trans (p2 p hp) (by decide)) (by omega) [] [] .none .none
      obtain ⟨o1, o2⟩ := onlyL_sz (ds := ds) p1 p2 q1
      have c13 := same_ok (onlyL l ds) (onlyL l ds) (by omega) (by omega) (fun p hp => Nat.le_trans (o2 p hp) (by decide)) (fun p hp => Nat.le_trans (o2 p hp) (by decide)) [] [] .none .none
      rw [decide_eq_true rfl] at c13
      generalize docsL l = dl at *
      generalize countL l = cn at *
      generalize (if validL l = true then seekN l d else 0) = sn at *
      generalize onlyL l ds = ol at *
      generalize validL l = vl at *
      refine aw_reg fun K hK => ?_; simp (maxSteps := 1000000) (disch := omega) [-List.getD_eq_getElem?_getD]
      refine acall_is (c1) ?_; simp (maxSteps := 1000000) (disch := omega) [-List.getD_eq_getElem?_getD]
      refine hK _ ?_; clear hK K
      refine aw_reg fun K hK => ?_; simp (maxSteps := 1000000) (disch := omega) [-List.getD_eq_getElem?_getD]
      refine acall_is (c2) ?_; simp (maxSteps := 1000000) (disch := omega) [-List.getD_eq_getElem?_getD]
      refine acall_is (c3) ?_; simp (maxSteps := 1000000) (disch := omega) [-List.getD_eq_getElem?_getD]
      refine acall_is (c4) ?_; simp (maxSteps := 1000000) (disch := omega) [-List.getD_eq_getElem?_getD]
      refine acall_is (c5) ?_; simp (maxSteps := 1000000) (disch := omega) [-List.getD_eq_getElem?_getD]
      refine acall_is (c6) ?_; simp (maxSteps := 1000000) (disch := omega) [-List.getD_eq_getElem?_getD]
      refine acall_is (c7) ?_; simp (maxSteps := 1000000) (disch := omega) [-List.getD_eq_getElem?_getD]
      refine acall_is (c8) ?_; simp (maxSteps := 1000000) (disch := omega) [-List.getD_eq_getElem?_getD]
      refine acall_is (c9) ?_; simp (maxSteps := 1000000) (disch := omega) [-List.getD_eq_getElem?_getD]
      refine acall_is (c10) ?_; simp (maxSteps := 1000000) (disch := omega) [-List.getD_eq_getElem?_getD]
      refine acall_is (c11) ?_; simp (maxSteps := 1000000) (disch := omega) [-List.getD_eq_getElem?_getD]
      refine acall_is (c12) ?_; simp (maxSteps := 1000000) (disch := omega) [-List.getD_eq_getElem?_getD]
      refine acall_is (c13) ?_; simp (maxSteps := 1000000) (disch := omega) [-List.getD_eq_getElem?_getD]
      refine hK _ ?_; clear hK K
      refine aw_ret ?_; simp (maxSteps := 1000000) (disch := omega) [-List.getD_eq_getElem?_getD]
    · rw [decide_eq_false h2] at f2
      refine aw_reg fun K hK => ?_; simp (maxSteps := 1000000) (disch := omega) [-List.getD_eq_getElem?_getD]
      refine acall_is (f1) ?_; simp (maxSteps := 1000000) (disch := omega) [-List.getD_eq_getElem?_getD]
      refine acall_is (f2) ?_; simp (maxSteps := 1000000) (disch := omega) [-List.getD_eq_getElem?_getD]
      refine hK _ ?_; clear hK K
      refine aw_if rfl (fun h => ?_) (fun h => absurd h (by simp))
      refine aw_reg fun K hK => ?_; simp (maxSteps := 1000000) (disch := omega) [-List.getD_eq_getElem?_getD]; refine hK _ ?_; clear hK K
      refine aw_ret ?_; simp (maxSteps := 1000000) (disch := omega) [-List.getD_eq_getElem?_getD]
  · rw [decide_eq_false h1] at f1
    refine aw_reg fun K hK => ?_; simp (maxSteps := 1000000) (disch := omega) [-List.getD_eq_getElem?_getD]
    refine acall_is (f1) ?_; simp (maxSteps := 1000000) (disch := omega) [-List.getD_eq_getElem?_getD]
    refine hK _ ?_; clear hK K
    refine aw_if rfl (fun h => ?_) (fun h => absurd h (by simp))
    refine aw_reg fun K hK => ?_; simp (maxSteps := 1000000) (disch := omega) [-List.getD_eq_getElem?_getD]; refine hK _ ?_; clear hK K
    refine aw_ret ?_; simp (maxSteps := 1000000) (disch := omega) [-List.getD_eq_getElem?_getD]
end Go.Proofs.Ytlijaamjcpefoaa
