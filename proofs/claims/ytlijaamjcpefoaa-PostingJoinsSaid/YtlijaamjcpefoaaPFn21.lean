/- Lists of posting lists in layer 38, and which of them are valid.
   Conditions: lengths below 1000. -/
import Derived.Test.YtlijaamjcpefoaaPFn20
namespace Go.Proofs.Ytlijaamjcpefoaa
open Go Go.Am Post
set_option linter.unusedVariables false

/-- The cells of a list of posting lists. -/
def plsAV (l : List PL) : List AV := l.map fun p => .sl p.length (psAV p) .none
theorem plsAV_nil : plsAV [] = [] := rfl
theorem plsAV_len (l : List PL) : (plsAV l).length = l.length := by simp [plsAV]
@[simp] theorem below_pls (n t : Nat) (l : List PL) : BelowAll n t (plsAV l) := by
  intro v hv
  obtain ⟨p, _, rfl⟩ := List.mem_map.1 hv
  simp
theorem plsAV_at (l : List PL) (i : Nat) (h : i < l.length) : (plsAV l).getD i .top = .sl (l.getD i []).length (psAV (l.getD i [])) .none := by
  simp [plsAV, List.getD_eq_getElem?_getD, List.getElem?_map, List.getElem?_eq_getElem h]
theorem plsAV_drop (l : List PL) (k : Nat) : (plsAV l).drop k = plsAV (l.drop k) := by simp [plsAV]
theorem plsAV_take (l : List PL) (k : Nat) (h : k < l.length) : plsAV (l.take k) ++ [.sl (l.getD k []).length (psAV (l.getD k [])) .none] = plsAV (l.take (k + 1)) := by
  rw [take_succD l k [] h]
  simp [plsAV]

theorem phrase1_ok (l : PL) (hl : l.length ≤ 1000) (hp : ∀ p ∈ l, p.2.length ≤ maxLen) (H : List Blk) (T : Toks) :
    ACall Try.prog 52 [.sl l.length (psAV l) .none] H T (Is (.bool (!validL l)) H T) := by
  refine acall_enter 4 [] Try.ntmps52 Try.func52 rfl (fun _ _ => Try.call52 _ _) (by simp) (fun HO => ?_)
  refine aw_reg fun K hK => ?_; simp (maxSteps := 200000) (disch := omega) [-List.getD_eq_getElem?_getD]; refine hK _ ?_; clear hK K
  refine aw_reg fun K hK => ?_; simp (maxSteps := 200000) (disch := omega) [-List.getD_eq_getElem?_getD]
  refine acall_is (valid_ok l hl hp H T .none) ?_; simp (maxSteps := 200000) (disch := omega) [-List.getD_eq_getElem?_getD]
  refine hK _ ?_; clear hK K
  refine aw_ret ?_; simp (maxSteps := 200000) (disch := omega) [-List.getD_eq_getElem?_getD]
  exact ⟨rfl, rfl, rfl⟩

theorem indexL_ok (l : List PL) (hl : l.length ≤ 1000) (hl2 : ∀ x ∈ l, x.length ≤ 1000) (hp : ∀ x ∈ l, ∀ p ∈ x, p.2.length ≤ maxLen) (H : List Blk) (T : Toks) :
    ACall Try.prog 85 [.sl l.length (plsAV l) .none, .fn 52 [] []] H T (fun r H' T' => H' = H ∧ T' = T ∧ ∃ v : Int, r = .int .i64 v ∧ decide (0 ≤ v) = l.any (fun x => !validL x)) := by
  generalize hq : l.any (fun x => !validL x) = q
  refine acall_enter 9 [] Try.ntmps85 Try.func85 rfl (fun _ _ => Try.call85 _ _) (by simp) (fun HO => ?_)
  refine aw_reg fun K hK => ?_; simp (maxSteps := 200000) (disch := omega) [-List.getD_eq_getElem?_getD]; refine hK _ ?_; clear hK K
  refine aw_then fun K1 hK1 => ?_
  refine aw_reg fun K hK => ?_; simp (maxSteps := 200000) (disch := omega) [-List.getD_eq_getElem?_getD]; refine hK _ ?_; clear hK K
  refine aw_block ?_
  refine aw_loop (X := Nat) (fun k => ⟨[(0, .sl l.length (plsAV l) .none), (1, .fn 52 [] []), (7, .int .i64 (l.length : Nat)), (8, .int .i64 (k : Nat))], H, T⟩) (fun k => k ≤ l.length ∧ ∀ j, j < k → validL (l.getD j []) = true) (fun k => l.length - k) 0 ?_ ?_ ?_
  · exact ⟨Nat.zero_le _, fun j hj => absurd hj (Nat.not_lt_zero _)⟩
  · refine weak_to [] [] ?_ ?_ ?_ ?_ HO ?_
    all_goals simp
  · rintro k ⟨h1, h2⟩
    refine aw_reg fun K hK => ?_; simp (maxSteps := 200000) (disch := omega) [-List.getD_eq_getElem?_getD]; refine hK _ ?_; clear hK K
    refine aw_then fun K2 hK2 => ?_
    refine aw_if rfl (fun hk => ?_) (fun hk => ?_)
    · simp [-List.getD_eq_getElem?_getD] at hk
      have hm := memD l k [] hk
      have hat := plsAV_at l k hk
      have c := phrase1_ok (l.getD k []) (hl2 _ hm) (hp _ hm) H T
      refine aw_skip ?_; simp (maxSteps := 200000) (disch := omega) [-List.getD_eq_getElem?_getD]
      refine hK2 _ ?_; clear hK2
      refine aw_then fun K3 hK3 => ?_
      refine aw_block ?_
      refine aw_reg fun K hK => ?_; simp (maxSteps := 200000) (disch := omega) [-List.getD_eq_getElem?_getD]; refine hK _ ?_; clear hK K
      cases hf : validL (l.getD k []) with
      | false =>
        rw [hf] at c
        refine aw_reg fun K hK => ?_; simp (maxSteps := 200000) (disch := omega) [-List.getD_eq_getElem?_getD, hat, plsAV_len]
        refine acall_is (c) ?_; simp (maxSteps := 200000) (disch := omega) [-List.getD_eq_getElem?_getD]
        refine hK _ ?_; clear hK K
        refine aw_if rfl (fun h => ?_) (fun h => absurd h (by simp))
        refine aw_reg fun K hK => ?_; simp (maxSteps := 200000) (disch := omega) [-List.getD_eq_getElem?_getD]; refine hK _ ?_; clear hK K
        refine aw_ret ?_; simp (maxSteps := 200000) (disch := omega) [-List.getD_eq_getElem?_getD]
        have : l.any (fun x => !validL x) = true := List.any_eq_true.2 ⟨_, hm, by rw [hf]; rfl⟩
        rw [hq] at this
        simp [this]
      | true =>
        rw [hf] at c
        refine aw_reg fun K hK => ?_; simp (maxSteps := 200000) (disch := omega) [-List.getD_eq_getElem?_getD, hat, plsAV_len]
        refine acall_is (c) ?_; simp (maxSteps := 200000) (disch := omega) [-List.getD_eq_getElem?_getD]
        refine hK _ ?_; clear hK K
        refine aw_if rfl (fun h => absurd h (by simp)) (fun h => ?_)
        refine aw_skip ?_; simp (maxSteps := 200000) (disch := omega) [-List.getD_eq_getElem?_getD]
        refine hK3 _ ?_; clear hK3
        refine aw_reg0 fun K hK => ?_; simp (maxSteps := 200000) (disch := omega) [-List.getD_eq_getElem?_getD]
        refine hK _ ?_; clear hK K
        refine ⟨k + 1, ⟨by show k + 1 ≤ _; omega, fun j hj => ?_⟩, by show l.length - (k + 1) < l.length - k; omega, ?_⟩
        · rcases Nat.lt_or_ge j k with h3 | h3
          · exact h2 j h3
          · have : j = k := by omega
            subst this; exact hf
        · refine weak_to [] [] ?_ ?_ ?_ ?_ HO ?_
          all_goals simp
    · simp [-List.getD_eq_getElem?_getD] at hk
      have hn : l.any (fun x => !validL x) = false := by
        rw [List.any_eq_false]
        intro p hp'
        obtain ⟨j, hj, e⟩ := memD_inv [] hp'
        rw [← e, h2 j (by omega)]
        simp
      refine aw_exit ?_; simp (maxSteps := 200000) (disch := omega) [-List.getD_eq_getElem?_getD]
      refine hK1 _ ?_; clear hK1
      refine aw_reg fun K hK => ?_; simp (maxSteps := 200000) (disch := omega) [-List.getD_eq_getElem?_getD]; refine hK _ ?_; clear hK K
      refine aw_ret ?_; simp (maxSteps := 200000) (disch := omega) [-List.getD_eq_getElem?_getD]
      rw [hq] at hn
      simp [hn]

theorem containsL_ok (l : List PL) (hl : l.length ≤ 1000) (hl2 : ∀ x ∈ l, x.length ≤ 1000) (hp : ∀ x ∈ l, ∀ p ∈ x, p.2.length ≤ maxLen) (H : List Blk) (T : Toks) :
    ACall Try.prog 51 [.sl l.length (plsAV l) .none, .fn 52 [] []] H T (Is (.bool (l.any (fun x => !validL x))) H T) := by
  have c := indexL_ok l hl hl2 hp H T
  generalize l.any (fun x => !validL x) = q at *
  refine acall_enter 5 [] Try.ntmps51 Try.func51 rfl (fun _ _ => Try.call51 _ _) (by simp) (fun HO => ?_)
  refine aw_reg fun K hK => ?_; simp (maxSteps := 200000) (disch := omega) [-List.getD_eq_getElem?_getD]; refine hK _ ?_; clear hK K
  refine aw_reg fun K hK => ?_; simp (maxSteps := 200000) (disch := omega) [-List.getD_eq_getElem?_getD]
  refine ⟨_, c, ?_⟩
  rintro r H' T' ⟨rfl, rfl, v, rfl, hv⟩
  simp (maxSteps := 200000) (disch := omega) [-List.getD_eq_getElem?_getD, hv]
  refine hK _ ?_; clear hK K
  refine aw_ret ?_; simp (maxSteps := 200000) (disch := omega) [-List.getD_eq_getElem?_getD]
  exact ⟨rfl, rfl, rfl⟩

theorem phrase2_ok (p : Int) (v : AV) (H : List Blk) (T : Toks) : ACall Try.prog 54 [.int .i64 p, v] H T (Is (.bool true) H T) := by
  refine acall_enter 5 [] Try.ntmps54 Try.func54 rfl (fun _ _ => Try.call54 _ _) (by simp) (fun HO => ?_)
  refine aw_reg fun K hK => ?_; simp (maxSteps := 200000) (disch := omega) [-List.getD_eq_getElem?_getD]; refine hK _ ?_; clear hK K
  refine aw_reg fun K hK => ?_; simp (maxSteps := 200000) (disch := omega) [-List.getD_eq_getElem?_getD]; refine hK _ ?_; clear hK K
  refine aw_ret ?_; simp (maxSteps := 200000) (disch := omega) [-List.getD_eq_getElem?_getD]
  exact ⟨rfl, rfl, rfl⟩

theorem phrase3_ok (p : Int) (i : Nat) (at_ : List Int) (hp : 0 ≤ p ∧ p ≤ 1000000000) (hi : i ≤ 1000) (hs : Asc at_) (hl : at_.length ≤ 1000) (H : List Blk) (T : Toks) (y : Nat) (hy : H[y]? = some (.cells [.int .i64 (i : Nat)])) :
    ACall Try.prog 55 [.int .i64 p, .sl at_.length (ints at_) .none, .ptr y 0] H T (Is (.bool (decide (p + i + 1 ∈ at_))) H T) := by
  have c := bsearch_ok at_ (p + i + 1) hs hl H T .none
  generalize decide (p + i + 1 ∈ at_) = q at *
  refine acall_enter 9 [] Try.ntmps55 Try.func55 rfl (fun _ _ => Try.call55 _ _) (by simp) (fun HO => ?_)
  refine aw_reg fun K hK => ?_; simp (maxSteps := 200000) (disch := omega) [-List.getD_eq_getElem?_getD]; refine hK _ ?_; clear hK K
  refine aw_reg fun K hK => ?_; simp (maxSteps := 200000) (disch := omega) [-List.getD_eq_getElem?_getD, hy]
  refine ⟨_, c, ?_⟩
  rintro r H' T' ⟨rfl, rfl, v, rfl⟩
  simp (maxSteps := 200000) (disch := omega) [-List.getD_eq_getElem?_getD]
  refine hK _ ?_; clear hK K
  refine aw_reg fun K hK => ?_; simp (maxSteps := 200000) (disch := omega) [-List.getD_eq_getElem?_getD]; refine hK _ ?_; clear hK K
  refine aw_ret ?_; simp (maxSteps := 200000) (disch := omega) [-List.getD_eq_getElem?_getD]
  exact ⟨rfl, rfl, rfl⟩
end Go.Proofs.Ytlijaamjcpefoaa
