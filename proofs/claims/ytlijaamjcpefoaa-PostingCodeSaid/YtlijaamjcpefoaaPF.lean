/- Docs, Seek and Count of layer 38 and of its reference. seek of layer 38: by doubling steps, which are halved again. Posting lists: which of them are equal; the postings of some documents. Only of layer 38 and of its reference.
   Conditions: lengths below 400 or 1000, as each theorem says. -/
import Derived.Test.YtlijaamjcpefoaaPB
import Derived.Test.YtlijaamjcpefoaaPC
import Derived.Test.YtlijaamjcpefoaaPD
import Derived.Test.YtlijaamjcpefoaaPE

/- Docs, Seek and Count of layer 38 and of its reference. -/
namespace Go.Proofs.Ytlijaamjcpefoaa
open Go Go.Am Post
set_option linter.unusedVariables false

def docsL (l : PL) : List Int := if validL l = true then docs l else []
theorem docsP_ok (l : PL) (hl : l.length ≤ 1000) (hp : ∀ p ∈ l, p.2.length ≤ maxLen) (H : List Blk) (T : Toks) (tg : Tag) :
    ACall Try.prog 36 [.sl l.length (psAV l) tg] H T (Is (.sl (docsL l).length (ints (docsL l)) .none) H T) := by
  refine ACall.untag1 ?_
  refine ACall.drop' ?_ (by simp)
  have c1 := valid_ok l hl hp H T .none
  have c2 := documents_ok l hl H T .none
  refine acall_enter 3 [] Try.ntmps36 Try.func36 rfl (fun _ _ => Try.call36 _ _) (by simp) (fun HO => ?_)
  refine aw_reg fun K hK => ?_; simp (maxSteps := 1000000) (disch := omega) [-List.getD_eq_getElem?_getD]; refine hK _ ?_; clear hK K
  refine aw_then fun K1 hK1 => ?_
  cases hv : validL l with
  | false =>
    rw [hv] at c1
    refine aw_reg fun K hK => ?_; simp (maxSteps := 1000000) (disch := omega) [-List.getD_eq_getElem?_getD]
    refine acall_is (c1) ?_; simp (maxSteps := 1000000) (disch := omega) [-List.getD_eq_getElem?_getD]
    refine hK _ ?_; clear hK K
    refine aw_if rfl (fun h => ?_) (fun h => absurd h (by simp))
    refine aw_reg fun K hK => ?_; simp (maxSteps := 1000000) (disch := omega) [-List.getD_eq_getElem?_getD]; refine hK _ ?_; clear hK K
    refine aw_ret ?_; simp (maxSteps := 1000000) (disch := omega) [-List.getD_eq_getElem?_getD]
    simp [docsL, hv, ints]
  | true =>
    rw [hv] at c1
    have hd : (docsL l) = docs l := by unfold docsL; rw [if_pos hv]
    refine aw_reg fun K hK => ?_; simp (maxSteps := 1000000) (disch := omega) [-List.getD_eq_getElem?_getD]
    refine acall_is (c1) ?_; simp (maxSteps := 1000000) (disch := omega) [-List.getD_eq_getElem?_getD]
    refine hK _ ?_; clear hK K
    refine aw_if rfl (fun h => absurd h (by simp)) (fun h => ?_)
    refine aw_skip ?_; simp (maxSteps := 1000000) (disch := omega) [-List.getD_eq_getElem?_getD]
    refine hK1 _ ?_; clear hK1
    refine aw_reg fun K hK => ?_; simp (maxSteps := 1000000) (disch := omega) [-List.getD_eq_getElem?_getD]
    refine acall_is (c2) ?_; simp (maxSteps := 1000000) (disch := omega) [-List.getD_eq_getElem?_getD]
    refine hK _ ?_; clear hK K
    refine aw_ret ?_; simp (maxSteps := 1000000) (disch := omega) [-List.getD_eq_getElem?_getD]
    rw [hd]
    simp [docs]

theorem docsRR_ok (l : PL) (hl : l.length ≤ 1000) (hp : ∀ p ∈ l, p.2.length ≤ maxLen) (H : List Blk) (T : Toks) (tg : Tag) :
    ACall Try.prog 37 [.sl l.length (psAV l) tg] H T (Is (.sl (docsL l).length (ints (docsL l)) .none) H T) := by
  refine ACall.untag1 ?_
  refine ACall.drop' ?_ (by simp)
  have c1 := validR_ok l hl hp H T .none
  have c2 := docsR_ok l hl H T .none
  refine acall_enter 3 [] Try.ntmps37 Try.func37 rfl (fun _ _ => Try.call37 _ _) (by simp) (fun HO => ?_)
  refine aw_reg fun K hK => ?_; simp (maxSteps := 1000000) (disch := omega) [-List.getD_eq_getElem?_getD]; refine hK _ ?_; clear hK K
  refine aw_then fun K1 hK1 => ?_
  cases hv : validL l with
  | false =>
    rw [hv] at c1
    refine aw_reg fun K hK => ?_; simp (maxSteps := 1000000) (disch := omega) [-List.getD_eq_getElem?_getD]
    refine acall_is (c1) ?_; simp (maxSteps := 1000000) (disch := omega) [-List.getD_eq_getElem?_getD]
    refine hK _ ?_; clear hK K
    refine aw_if rfl (fun h => ?_) (fun h => absurd h (by simp))
    refine aw_reg fun K hK => ?_; simp (maxSteps := 1000000) (disch := omega) [-List.getD_eq_getElem?_getD]; refine hK _ ?_; clear hK K
    refine aw_ret ?_; simp (maxSteps := 1000000) (disch := omega) [-List.getD_eq_getElem?_getD]
    simp [docsL, hv, ints]
  | true =>
    rw [hv] at c1
    have hd : (docsL l) = docs l := by unfold docsL; rw [if_pos hv]
    refine aw_reg fun K hK => ?_; simp (maxSteps := 1000000) (disch := omega) [-List.getD_eq_getElem?_getD]
    refine acall_is (c1) ?_; simp (maxSteps := 1000000) (disch := omega) [-List.getD_eq_getElem?_getD]
    refine hK _ ?_; clear hK K
    refine aw_if rfl (fun h => absurd h (by simp)) (fun h => ?_)
    refine aw_skip ?_; simp (maxSteps := 1000000) (disch := omega) [-List.getD_eq_getElem?_getD]
    refine hK1 _ ?_; clear hK1
    refine aw_reg fun K hK => ?_; simp (maxSteps := 1000000) (disch := omega) [-List.getD_eq_getElem?_getD]
    refine acall_is (c2) ?_; simp (maxSteps := 1000000) (disch := omega) [-List.getD_eq_getElem?_getD]
    refine hK _ ?_; clear hK K
    refine aw_ret ?_; simp (maxSteps := 1000000) (disch := omega) [-List.getD_eq_getElem?_getD]
    rw [hd]
    simp [docs]

theorem countR_ok (l : List (Int × List Int)) (hl : l.length ≤ 1000) (hp : ∀ p ∈ l, p.2.length ≤ 1000) (H : List Blk) (T : Toks) (tg : Tag) :
    ACall Try.prog 39 [.sl l.length (psAV l) tg] H T (Is (.int .i64 (countL l : Nat)) H T) := by
  refine ACall.untag1 ?_
  have hml : 1000 ≤ maxLen := by decide
  have c1 := validR_ok l hl (fun p h => Nat.le_trans (hp p h) hml) H T .none
  refine acall_enter 5 [] Try.ntmps39 Try.func39 rfl (fun _ _ => Try.call39 _ _) (by simp) (fun HO => ?_)
  refine aw_reg fun K hK => ?_; simp (maxSteps := 1000000) (disch := omega) [-List.getD_eq_getElem?_getD]; refine hK _ ?_; clear hK K
  refine aw_reg fun K hK => ?_; simp (maxSteps := 1000000) (disch := omega) [-List.getD_eq_getElem?_getD]; refine hK _ ?_; clear hK K
  refine aw_then fun K1 hK1 => ?_
  cases hv : validL l with
  | false =>
    rw [hv] at c1
    refine aw_reg fun K hK => ?_; simp (maxSteps := 1000000) (disch := omega) [-List.getD_eq_getElem?_getD]
    refine acall_is (c1) ?_; simp (maxSteps := 1000000) (disch := omega) [-List.getD_eq_getElem?_getD]
    refine hK _ ?_; clear hK K
    refine aw_if rfl (fun h => ?_) (fun h => absurd h (by simp))
    refine aw_reg fun K hK => ?_; simp (maxSteps := 1000000) (disch := omega) [-List.getD_eq_getElem?_getD]; refine hK _ ?_; clear hK K
    refine aw_ret ?_; simp (maxSteps := 1000000) (disch := omega) [-List.getD_eq_getElem?_getD]
    simp [countL, hv]
    exact ⟨rfl, rfl, rfl⟩
  | true =>
    rw [hv] at c1
    refine aw_reg fun K hK => ?_; simp (maxSteps := 1000000) (disch := omega) [-List.getD_eq_getElem?_getD]
    refine acall_is (c1) ?_; simp (maxSteps := 1000000) (disch := omega) [-List.getD_eq_getElem?_getD]
    refine hK _ ?_; clear hK K
    refine aw_if rfl (fun h => absurd h (by simp)) (fun h => ?_)
    refine aw_skip ?_; simp (maxSteps := 1000000) (disch := omega) [-List.getD_eq_getElem?_getD]
    refine hK1 _ ?_; clear hK1
    refine aw_then fun K1 hK1 => ?_
    refine aw_reg fun K hK => ?_; simp (maxSteps := 1000000) (disch := omega) [-List.getD_eq_getElem?_getD]; refine hK _ ?_; clear hK K
    refine aw_block ?_
    refine aw_loop (X := Nat) (fun k => ⟨[(0, .sl l.length (psAV l) .none), (3, .int .i64 (cnt (l.take k) : Nat)), (4, .int .i64 (k : Nat))], H, T⟩) (fun k => k ≤ l.length) (fun k => l.length - k) 0 ?_ ?_ ?_
    · exact Nat.zero_le _
    · refine weak_to [] [] ?_ ?_ ?_ ?_ HO ?_
      all_goals simp [cnt]
    · intro k hk
      refine aw_then fun K2 hK2 => ?_
      refine aw_reg fun K hK => ?_; simp (maxSteps := 1000000) (disch := omega) [-List.getD_eq_getElem?_getD]; refine hK _ ?_; clear hK K
      refine aw_if rfl (fun hk2 => ?_) (fun hk2 => ?_)
      · simp [-List.getD_eq_getElem?_getD] at hk2
        have hat := (psAV_at l k hk2).2
        have htk := cnt_take l k hk2
        have hle := cnt_le (l.take k) 1000 (fun p h => hp p (List.mem_of_mem_take h))
        have hpk := hp _ (memD l k (0, []) hk2)
        rw [List.length_take] at hle
        generalize l.getD k (0, []) = p at *
        refine aw_skip ?_; simp (maxSteps := 1000000) (disch := omega) [-List.getD_eq_getElem?_getD]
        refine hK2 _ ?_; clear hK2
        refine aw_then fun K3 hK3 => ?_
        refine aw_block ?_
        refine aw_reg0 fun K hK => ?_; simp (maxSteps := 1000000) (disch := omega) [-List.getD_eq_getElem?_getD, hat, psAV_len]
        refine hK _ ?_; clear hK K
        refine hK3 _ ?_; clear hK3
        refine aw_reg0 fun K hK => ?_; simp (maxSteps := 1000000) (disch := omega) [-List.getD_eq_getElem?_getD]
        refine hK _ ?_; clear hK K
        refine ⟨k + 1, by show k + 1 ≤ _; omega, by show l.length - (k + 1) < l.length - k; omega, ?_⟩
        refine weak_to [] [] ?_ ?_ ?_ ?_ HO ?_
        all_goals simp [htk]
      · simp at hk2
        have : k = l.length := by omega
        subst this
        refine aw_exit ?_; simp (maxSteps := 1000000) (disch := omega) [-List.getD_eq_getElem?_getD]
        refine hK1 _ ?_; clear hK1
        refine aw_reg fun K hK => ?_; simp (maxSteps := 1000000) (disch := omega) [-List.getD_eq_getElem?_getD]; refine hK _ ?_; clear hK K
        refine aw_ret ?_; simp (maxSteps := 1000000) (disch := omega) [-List.getD_eq_getElem?_getD]
        simp [countL, hv]
        exact ⟨rfl, rfl, rfl⟩

/-- How many postings are of a lesser document. -/
def seekN (l : PL) (d : Int) : Nat := (l.takeWhile (fun p => decide (p.1 < d))).length
theorem seekN_at {l : PL} {d : Int} {k : Nat} (hk : k ≤ l.length) (h1 : ∀ j, j < k → (l.getD j (0, [])).1 < d) (h2 : k < l.length → ¬ (l.getD k (0, [])).1 < d) : seekN l d = k := by
  unfold seekN
  induction l generalizing k with
  | nil => simp at hk; subst hk; rfl
  | cons p l ih =>
    cases k with
    | zero =>
      have := h2 (by simp)
      simp at this
      rw [List.takeWhile_cons_of_neg (by simp; omega)]
      rfl
    | succ k =>
      have h0 := h1 0 (by omega)
      simp at h0
      rw [List.takeWhile_cons_of_pos (by simpa using h0)]
      have := ih (k := k) (by simpa using hk) (fun j hj => by have := h1 (j + 1) (by omega); simpa using this) (fun hh => by have := h2 (by simpa using hh); simpa using this)
      simp only [List.length_cons, this]

theorem seekR_ok (l : PL) (d : Int) (hl : l.length ≤ 1000) (hp : ∀ p ∈ l, p.2.length ≤ maxLen) (H : List Blk) (T : Toks) (tg : Tag) :
    ACall Try.prog 41 [.sl l.length (psAV l) tg, .int .i64 d] H T (Is (.int .i64 ((if validL l = true then seekN l d else 0 : Nat) : Int)) H T) := by
  refine ACall.untag1 ?_
  have c1 := validR_ok l hl hp H T .none
  refine acall_enter 6 [] Try.ntmps41 Try.func41 rfl (fun _ _ => Try.call41 _ _) (by simp) (fun HO => ?_)
  refine aw_reg fun K hK => ?_; simp (maxSteps := 1000000) (disch := omega) [-List.getD_eq_getElem?_getD]; refine hK _ ?_; clear hK K
  refine aw_then fun K1 hK1 => ?_
  cases hv : validL l with
  | false =>
    rw [hv] at c1
    refine aw_reg fun K hK => ?_; simp (maxSteps := 1000000) (disch := omega) [-List.getD_eq_getElem?_getD]
    refine acall_is (c1) ?_; simp (maxSteps := 1000000) (disch := omega) [-List.getD_eq_getElem?_getD]
    refine hK _ ?_; clear hK K
    refine aw_if rfl (fun h => ?_) (fun h => absurd h (by simp))
    refine aw_reg fun K hK => ?_; simp (maxSteps := 1000000) (disch := omega) [-List.getD_eq_getElem?_getD]; refine hK _ ?_; clear hK K
    refine aw_ret ?_; simp (maxSteps := 1000000) (disch := omega) [-List.getD_eq_getElem?_getD]
    exact ⟨rfl, rfl, rfl⟩
  | true =>
    rw [hv] at c1
    rw [if_pos rfl]
    refine aw_reg fun K hK => ?_; simp (maxSteps := 1000000) (disch := omega) [-List.getD_eq_getElem?_getD]
    refine acall_is (c1) ?_; simp (maxSteps := 1000000) (disch := omega) [-List.getD_eq_getElem?_getD]
    refine hK _ ?_; clear hK K
    refine aw_if rfl (fun h => absurd h (by simp)) (fun h => ?_)
    refine aw_skip ?_; simp (maxSteps := 1000000) (disch := omega) [-List.getD_eq_getElem?_getD]
    refine hK1 _ ?_; clear hK1
    refine aw_then fun K1 hK1 => ?_
    refine aw_reg fun K hK => ?_; simp (maxSteps := 1000000) (disch := omega) [-List.getD_eq_getElem?_getD]; refine hK _ ?_; clear hK K
    refine aw_block ?_
    refine aw_loop (X := Nat) (fun k => ⟨[(0, .sl l.length (psAV l) .none), (1, .int .i64 d), (5, .int .i64 (k : Nat))], H, T⟩) (fun k => k ≤ l.length ∧ ∀ j, j < k → (l.getD j (0, [])).1 < d) (fun k => l.length - k) 0 ?_ ?_ ?_
    · exact ⟨Nat.zero_le _, fun j hj => absurd hj (Nat.not_lt_zero _)⟩
    · refine weak_to [] [] ?_ ?_ ?_ ?_ HO ?_
      all_goals simp
    · rintro k ⟨h1, h2⟩
      refine aw_then fun K2 hK2 => ?_
      refine aw_reg fun K hK => ?_; simp (maxSteps := 1000000) (disch := omega) [-List.getD_eq_getElem?_getD]; refine hK _ ?_; clear hK K
      refine aw_if rfl (fun hk => ?_) (fun hk => ?_)
      · simp [-List.getD_eq_getElem?_getD] at hk
        have hat := (psAV_at l k hk).1
        refine aw_skip ?_; simp (maxSteps := 1000000) (disch := omega) [-List.getD_eq_getElem?_getD]
        refine hK2 _ ?_; clear hK2
        refine aw_then fun K3 hK3 => ?_
        refine aw_block ?_
        by_cases hc : d ≤ (l.getD k (0, [])).1
        · have b : decide (d ≤ (l.getD k (0, [])).1) = true := by simpa using hc
          have hf := seekN_at h1 h2 (fun _ => by omega)
          refine aw_reg fun K hK => ?_; simp (maxSteps := 1000000) (disch := omega) [-List.getD_eq_getElem?_getD, hat, psAV_len, b, hc]; refine hK _ ?_; clear hK K
          refine aw_if rfl (fun h => ?_) (fun h => absurd h (by simp))
          refine aw_reg fun K hK => ?_; simp (maxSteps := 1000000) (disch := omega) [-List.getD_eq_getElem?_getD]; refine hK _ ?_; clear hK K
          refine aw_ret ?_; simp (maxSteps := 1000000) (disch := omega) [-List.getD_eq_getElem?_getD]
          rw [hf]
          exact ⟨rfl, rfl, rfl⟩
        · have b : decide (d ≤ (l.getD k (0, [])).1) = false := by simpa using hc
          refine aw_reg fun K hK => ?_; simp (maxSteps := 1000000) (disch := omega) [-List.getD_eq_getElem?_getD, hat, psAV_len, b, hc]; refine hK _ ?_; clear hK K
          refine aw_if rfl (fun h => absurd h (by simp)) (fun h => ?_)
          refine aw_skip ?_; simp (maxSteps := 1000000) (disch := omega) [-List.getD_eq_getElem?_getD]
          refine hK3 _ ?_; clear hK3
          refine aw_reg0 fun K hK => ?_; simp (maxSteps := 1000000) (disch := omega) [-List.getD_eq_getElem?_getD]
          refine hK _ ?_; clear hK K
          refine ⟨k + 1, ⟨by show k + 1 ≤ _; omega, fun j hj => ?_⟩, by show l.length - (k + 1) < l.length - k; omega, ?_⟩
          · rcases Nat.lt_or_ge j k with h3 | h3
            · exact h2 j h3
            · have : j = k := by omega
              subst this; omega
          · refine weak_to [] [] ?_ ?_ ?_ ?_ HO ?_
            all_goals simp
      · simp [-List.getD_eq_getElem?_getD] at hk
        have hke : k = l.length := by omega
        have hf := seekN_at h1 h2 (fun h => absurd h (by omega))
        refine aw_exit ?_; simp (maxSteps := 1000000) (disch := omega) [-List.getD_eq_getElem?_getD]
        refine hK1 _ ?_; clear hK1
        refine aw_reg fun K hK => ?_; simp (maxSteps := 1000000) (disch := omega) [-List.getD_eq_getElem?_getD]; refine hK _ ?_; clear hK K
        refine aw_ret ?_; simp (maxSteps := 1000000) (disch := omega) [-List.getD_eq_getElem?_getD]
        rw [hf, hke]
        exact ⟨rfl, rfl, rfl⟩
end Go.Proofs.Ytlijaamjcpefoaa

/- seek of layer 38: by doubling steps, which are halved again. -/
namespace Go.Proofs.Ytlijaamjcpefoaa
open Go Go.Am Post
set_option linter.unusedVariables false

theorem seekN_le (l : PL) (d : Int) : seekN l d ≤ l.length := (List.takeWhile_sublist _).length_le
theorem seekN_lt {l : PL} (h : Asc' l) (d : Int) : ∀ j, j < l.length → ((l.getD j (0, [])).1 < d ↔ j < seekN l d) := by
  induction l with
  | nil => intro j hj; simp at hj
  | cons p l ih =>
    obtain ⟨h1, h2⟩ := asc'_tail h
    intro j hj
    unfold seekN
    by_cases hp : p.1 < d
    · rw [List.takeWhile_cons_of_pos (by simpa using hp)]
      cases j with
      | zero => simp [hp]
      | succ j =>
        have := ih h1 j (by simpa using hj)
        unfold seekN at this
        simp only [List.getD_cons_succ, List.length_cons]
        omega
    · rw [List.takeWhile_cons_of_neg (by simpa using hp)]
      cases j with
      | zero => simp; omega
      | succ j =>
        have := h2 _ (memD l j (0, []) (by simpa using hj))
        simp only [List.getD_cons_succ, List.length_nil]
        omega

set_option maxRecDepth 100000 in
set_option maxHeartbeats 2000000 in
theorem seek_ok (l : PL) (f0 : Nat) (d : Int) (hl : l.length ≤ 1000) (hs : Asc' l) (hf : f0 ≤ seekN l d) (H : List Blk) (T : Toks) :
    ACall Try.prog 76 [.sl l.length (psAV l) .none, .int .i64 (f0 : Nat), .int .i64 d] H T (Is (.int .i64 (seekN l d : Nat)) H T) := by
  have hle := seekN_le l d
  have hlt := seekN_lt hs d
  generalize seekN l d = N at *
  refine acall_enter 8 [] Try.ntmps76 Try.func76 rfl (fun _ _ => Try.call76 _ _) (by simp) (fun HO => ?_)
  refine aw_reg fun K hK => ?_; simp (maxSteps := 1000000) (disch := omega) [-List.getD_eq_getElem?_getD]; refine hK _ ?_; clear hK K
  refine aw_reg fun K hK => ?_; simp (maxSteps := 1000000) (disch := omega) [-List.getD_eq_getElem?_getD]; refine hK _ ?_; clear hK K
  refine aw_then fun K1 hK1 => ?_
  refine aw_block ?_
  refine aw_loop (X := Nat × Nat) (fun x => ⟨[(0, .sl l.length (psAV l) .none), (1, .int .i64 (x.1 : Nat)), (2, .int .i64 d), (7, .int .i64 (x.2 : Nat))], H, T⟩) (fun x => x.1 ≤ N ∧ x.2 ≤ x.1 + 1 ∧ ∃ k, x.2 = 2 ^ k) (fun x => l.length - x.1) (f0, 1) ?_ ?_ ?_
  · exact ⟨hf, by simp, 0, rfl⟩
  · refine weak_to [] [] ?_ ?_ ?_ ?_ HO ?_
    all_goals simp
  · rintro ⟨f, s⟩ ⟨h1, h2, k, h3⟩
    simp only at h1 h2 h3
    have hspos : 0 < s := by rw [h3]; exact Nat.two_pow_pos k
    have fin : N < f + s → ∀ e, envLe H.length T.length e [(0, .sl l.length (psAV l) .none), (1, .int .i64 (f : Nat)), (2, .int .i64 d), (7, .int .i64 (s : Nat))] → K1 ⟨e, H, T⟩ := fun hN e he => by
      refine hK1 _ (aw_weak ⟨[(0, .sl l.length (psAV l) .none), (1, .int .i64 (f : Nat)), (2, .int .i64 d), (7, .int .i64 (s : Nat))], H, T⟩ (weak_to [] [] (by simp) (by simp) (by simp) (by simp) HO he) ?_)
      refine aw_then fun K5 hK5 => ?_
      refine aw_block ?_
      refine aw_loop (X := Nat × Nat) (fun x => ⟨[(0, .sl l.length (psAV l) .none), (1, .int .i64 (x.1 : Nat)), (2, .int .i64 d), (7, .int .i64 (x.2 : Nat))], H, T⟩) (fun x => x.1 ≤ N ∧ x.2 ≤ 1001 ∧ (x.2 = 0 ∧ x.1 = N ∨ (∃ k, x.2 = 2 ^ k) ∧ N < x.1 + 2 * x.2)) (fun x => x.2) (f, s) ?_ ?_ ?_
      · exact ⟨h1, by simp only; omega, .inr ⟨⟨k, h3⟩, by simp only; omega⟩⟩
      · refine weak_to [] [] ?_ ?_ ?_ ?_ HO ?_
        all_goals simp
      · rintro ⟨g, t⟩ ⟨g1, g2, g3⟩
        simp only at g1 g2 g3
        refine aw_then fun K6 hK6 => ?_
        refine aw_reg fun K hK => ?_; simp (maxSteps := 1000000) (disch := omega) [-List.getD_eq_getElem?_getD]; refine hK _ ?_; clear hK K
        rcases g3 with ⟨g3, g4⟩ | ⟨⟨m, g3⟩, g4⟩
        · subst g3; subst g4
          refine aw_if rfl (fun h => absurd h (by simp)) (fun h => ?_)
          refine aw_exit ?_; simp (maxSteps := 1000000) (disch := omega) [-List.getD_eq_getElem?_getD]
          refine hK5 _ ?_; clear hK5
          refine aw_reg fun K hK => ?_; simp (maxSteps := 1000000) (disch := omega) [-List.getD_eq_getElem?_getD]; refine hK _ ?_; clear hK K
          refine aw_ret ?_; simp (maxSteps := 1000000) (disch := omega) [-List.getD_eq_getElem?_getD]
          exact ⟨rfl, rfl, rfl⟩
        · have htpos : 0 < t := by rw [g3]; exact Nat.two_pow_pos m
          have hq : ∀ g' : Nat, g' ≤ N → N < g' + t → (g' ≤ N ∧ t / 2 ≤ 1001 ∧ (t / 2 = 0 ∧ g' = N ∨ (∃ k, t / 2 = 2 ^ k) ∧ N < g' + 2 * (t / 2))) := fun g' q1 q2 => by
            refine ⟨q1, by omega, ?_⟩
            cases m with
            | zero => simp at g3; subst g3; exact .inl ⟨rfl, by omega⟩
            | succ m =>
              have e : t / 2 = 2 ^ m := by rw [g3, Nat.pow_succ]; omega
              refine .inr ⟨⟨m, e⟩, ?_⟩
              rw [e]
              rw [g3, Nat.pow_succ] at q2
              omega
          have hdv : (t : Int) / 2 = ((t / 2 : Nat) : Int) := by omega
          refine aw_if rfl (fun h => ?_) (fun h => absurd h (by simp; omega))
          refine aw_skip ?_; simp (maxSteps := 1000000) (disch := omega) [-List.getD_eq_getElem?_getD]
          refine hK6 _ ?_; clear hK6
          refine aw_then fun K7 hK7 => ?_
          refine aw_block ?_
          by_cases c1 : g + t ≤ l.length
          · have b1 : decide ((g : Int) + t ≤ l.length) = true := by simp; omega
            have ek : ((g : Int) + t - 1).toNat = g + t - 1 := by omega
            have hat := (psAV_at l (g + t - 1) (by omega)).1
            have hlt' := hlt (g + t - 1) (by omega)
            have c1' : ((g : Int) + t ≤ l.length) := by omega
            by_cases c2 : (l.getD (g + t - 1) (0, [])).1 < d
            · have b2 : decide ((l.getD (g + t - 1) (0, [])).1 < d) = true := by simpa using c2
              have := hlt'.1 c2
              refine aw_reg fun K hK => ?_; simp (maxSteps := 1000000) (disch := omega) [-List.getD_eq_getElem?_getD, b1, c1', ek, hat, psAV_len, b2, c2]; refine hK _ ?_; clear hK K
              refine aw_if rfl (fun h => ?_) (fun h => absurd h (by simp))
              refine aw_reg0 fun K hK => ?_; simp (maxSteps := 1000000) (disch := omega) [-List.getD_eq_getElem?_getD]
              refine hK _ ?_; clear hK K
              refine hK7 _ ?_; clear hK7
              refine aw_reg0 fun K hK => ?_; simp (maxSteps := 1000000) (disch := omega) [-List.getD_eq_getElem?_getD]
              refine hK _ ?_; clear hK K
              refine ⟨(g + t, t / 2), hq (g + t) (by omega) (by omega), by show t / 2 < t; omega, ?_⟩
              refine weak_to [] [] ?_ ?_ ?_ ?_ HO ?_
              all_goals simp
            · have b2 : decide ((l.getD (g + t - 1) (0, [])).1 < d) = false := by simpa using c2
              have : ¬ g + t - 1 < N := fun hh => c2 (hlt'.2 hh)
              refine aw_reg fun K hK => ?_; simp (maxSteps := 1000000) (disch := omega) [-List.getD_eq_getElem?_getD, b1, c1', ek, hat, psAV_len, b2, c2]; refine hK _ ?_; clear hK K
              refine aw_if rfl (fun h => absurd h (by simp)) (fun h => ?_)
              refine aw_skip ?_; simp (maxSteps := 1000000) (disch := omega) [-List.getD_eq_getElem?_getD]
              refine hK7 _ ?_; clear hK7
              refine aw_reg0 fun K hK => ?_; simp (maxSteps := 1000000) (disch := omega) [-List.getD_eq_getElem?_getD]
              refine hK _ ?_; clear hK K
              refine ⟨(g, t / 2), hq g (by omega) (by omega), by show t / 2 < t; omega, ?_⟩
              refine weak_to [] [] ?_ ?_ ?_ ?_ HO ?_
              all_goals simp
          · have b1 : decide ((g : Int) + t ≤ l.length) = false := by simp; omega
            have c1' : ¬ ((g : Int) + t ≤ l.length) := by omega
            refine aw_reg fun K hK => ?_; simp (maxSteps := 1000000) (disch := omega) [-List.getD_eq_getElem?_getD, b1, c1']; refine hK _ ?_; clear hK K
            refine aw_if rfl (fun h => absurd h (by simp)) (fun h => ?_)
            refine aw_skip ?_; simp (maxSteps := 1000000) (disch := omega) [-List.getD_eq_getElem?_getD]
            refine hK7 _ ?_; clear hK7
            refine aw_reg0 fun K hK => ?_; simp (maxSteps := 1000000) (disch := omega) [-List.getD_eq_getElem?_getD]
            refine hK _ ?_; clear hK K
            refine ⟨(g, t / 2), hq g (by omega) (by omega), by show t / 2 < t; omega, ?_⟩
            refine weak_to [] [] ?_ ?_ ?_ ?_ HO ?_
            all_goals simp
    clear hK1
    refine aw_then fun K2 hK2 => ?_
    by_cases c1 : f + s ≤ l.length
    · have b1 : decide ((f : Int) + s ≤ l.length) = true := by simp; omega
      have c1' : ((f : Int) + s ≤ l.length) := by omega
      have ek : ((f : Int) + s - 1).toNat = f + s - 1 := by omega
      have hat := (psAV_at l (f + s - 1) (by omega)).1
      have hlt' := hlt (f + s - 1) (by omega)
      by_cases c2 : (l.getD (f + s - 1) (0, [])).1 < d
      · have b2 : decide ((l.getD (f + s - 1) (0, [])).1 < d) = true := by simpa using c2
        have := hlt'.1 c2
        refine aw_reg fun K hK => ?_; simp (maxSteps := 1000000) (disch := omega) [-List.getD_eq_getElem?_getD, b1, c1', ek, hat, psAV_len, b2, c2]; refine hK _ ?_; clear hK K
        refine aw_if rfl (fun h => ?_) (fun h => absurd h (by simp))
        refine aw_skip ?_; simp (maxSteps := 1000000) (disch := omega) [-List.getD_eq_getElem?_getD]
        refine hK2 _ ?_; clear hK2
        refine aw_block ?_
        refine aw_reg fun K hK => ?_; simp (maxSteps := 1000000) (disch := omega) [-List.getD_eq_getElem?_getD]; refine hK _ ?_; clear hK K
        refine aw_reg0 fun K hK => ?_; simp (maxSteps := 1000000) (disch := omega) [-List.getD_eq_getElem?_getD]
        refine hK _ ?_; clear hK K
        refine ⟨(f + s, s * 2), ⟨by show f + s ≤ N; omega, by show s * 2 ≤ f + s + 1; omega, k + 1, by show s * 2 = 2 ^ (k + 1); rw [h3, Nat.pow_succ]⟩, by show l.length - (f + s) < l.length - f; omega, ?_⟩
        refine weak_to [] [] ?_ ?_ ?_ ?_ HO ?_
        all_goals simp
      · have b2 : decide ((l.getD (f + s - 1) (0, [])).1 < d) = false := by simpa using c2
        have : ¬ f + s - 1 < N := fun hh => c2 (hlt'.2 hh)
        refine aw_reg fun K hK => ?_; simp (maxSteps := 1000000) (disch := omega) [-List.getD_eq_getElem?_getD, b1, c1', ek, hat, psAV_len, b2, c2]; refine hK _ ?_; clear hK K
        refine aw_if rfl (fun h => absurd h (by simp)) (fun h => ?_)
        refine aw_exit ?_; simp (maxSteps := 1000000) (disch := omega) [-List.getD_eq_getElem?_getD]
        exact fin (by omega) _ (by simp)
    · have b1 : decide ((f : Int) + s ≤ l.length) = false := by simp; omega
      have c1' : ¬ ((f : Int) + s ≤ l.length) := by omega
      refine aw_reg fun K hK => ?_; simp (maxSteps := 1000000) (disch := omega) [-List.getD_eq_getElem?_getD, b1, c1']; refine hK _ ?_; clear hK K
      refine aw_if rfl (fun h => absurd h (by simp)) (fun h => ?_)
      refine aw_exit ?_; simp (maxSteps := 1000000) (disch := omega) [-List.getD_eq_getElem?_getD]
      exact fin (by omega) _ (by simp)
end Go.Proofs.Ytlijaamjcpefoaa

/- Posting lists: which of them are equal; the postings of some documents. -/
namespace Go.Proofs.Ytlijaamjcpefoaa
open Go Go.Am Post
set_option linter.unusedVariables false

theorem docs_cons' (p : Int × List Int) (l : PL) : docs (p :: l) = p.1 :: docs l := rfl
theorem recon {a : PL} (h : Asc' a) : a = (docs a).map (fun d => (d, posOf a d)) := by
  induction a with
  | nil => rfl
  | cons p a ih =>
    obtain ⟨h1, h2⟩ := asc'_tail h
    have e : (docs a).map (fun d => (d, posOf (p :: a) d)) = (docs a).map (fun d => (d, posOf a d)) := List.map_congr_left fun d hd => by
      obtain ⟨q, hq, e⟩ := List.mem_map.1 hd
      have := h2 q hq
      rw [posOf_cons_ne (by omega)]
    show p :: a = (p.1, posOf (p :: a) p.1) :: (docs a).map (fun d => (d, posOf (p :: a) d))
    rw [e, ← ih h1, posOf_cons_eq]
theorem ascP_ext {a b : PL} (ha : Asc' a) (hb : Asc' b) (h1 : ∀ d, d ∈ docs a ↔ d ∈ docs b) (h2 : ∀ d, d ∈ docs a → posOf a d = posOf b d) : a = b := by
  have e : docs a = docs b := asc_ext _ _ ha hb h1
  rw [recon ha, recon hb, ← e]
  exact List.map_congr_left fun d hd => by rw [h2 d hd]

/-- The postings of some documents. -/
def onP (l : PL) (ds : List Int) : PL := (ds.filter (fun d => decide (d ∈ docs l))).map (fun d => (d, posOf l d))
def onR (l : PL) (ds : List Int) : PL := l.filter (fun p => decide (p.1 ∈ ds))

theorem posOf_filter {l : PL} (h : Asc' l) (f : Int → Bool) (d : Int) (hf : f d = true) : posOf (l.filter (fun p => f p.1)) d = posOf l d := by
  induction l with
  | nil => rfl
  | cons p l ih =>
    obtain ⟨h1, h2⟩ := asc'_tail h
    by_cases hp : f p.1 = true
    · rw [List.filter_cons_of_pos (p := fun p : Int × List Int => f p.1) hp]
      unfold posOf
      rw [ih h1]
    · rw [List.filter_cons_of_neg (p := fun p : Int × List Int => f p.1) hp, ih h1, posOf_cons_ne (fun e => hp (by rw [e]; exact hf))]
theorem posOf_map (g : Int → List Int) (ds : List Int) (d : Int) (h : d ∈ ds) : posOf (ds.map (fun d => (d, g d))) d = g d := by
  induction ds with
  | nil => simp at h
  | cons x ds ih =>
    show (if x = d then g x else posOf (ds.map (fun d => (d, g d))) d) = g d
    by_cases e : x = d
    · rw [if_pos e, e]
    · rw [if_neg e]
      rcases List.mem_cons.1 h with h | h
      · exact absurd h.symm e
      · exact ih h
theorem docs_map (g : Int → List Int) (ds : List Int) : docs (ds.map (fun d => (d, g d))) = ds := by
  unfold docs
  rw [List.map_map]
  exact List.map_id ds
theorem docs_filter (f : Int → Bool) (l : PL) : docs (l.filter (fun p => f p.1)) = (docs l).filter f := by
  induction l with
  | nil => rfl
  | cons p l ih =>
    by_cases hp : f p.1 = true
    · rw [List.filter_cons_of_pos (p := fun p : Int × List Int => f p.1) hp, docs_cons', docs_cons', List.filter_cons_of_pos hp, ih]
    · rw [List.filter_cons_of_neg (p := fun p : Int × List Int => f p.1) hp, docs_cons', List.filter_cons_of_neg hp, ih]

theorem on_eq {l : PL} {ds : List Int} (hl : Asc' l) (hd : Asc ds) : onR l ds = onP l ds := by
  have e1 : docs (onR l ds) = (docs l).filter (fun d => decide (d ∈ ds)) := docs_filter (fun d => decide (d ∈ ds)) l
  have e2 : docs (onP l ds) = ds.filter (fun d => decide (d ∈ docs l)) := docs_map _ _
  refine ascP_ext ?_ ?_ (fun d => ?_) fun d h => ?_
  · show Asc (docs (onR l ds)); rw [e1]; exact hl.filter _
  · show Asc (docs (onP l ds)); rw [e2]; exact hd.filter _
  · rw [e1, e2, List.mem_filter, List.mem_filter]
    simp [and_comm]
  · rw [e1, List.mem_filter] at h
    have h2 := of_decide_eq_true h.2
    have g1 : posOf (onR l ds) d = posOf l d := posOf_filter hl (fun d => decide (d ∈ ds)) d h.2
    have g2 : posOf (onP l ds) d = posOf l d := posOf_map (posOf l) _ d (List.mem_filter.2 ⟨h2, decide_eq_true h.1⟩)
    rw [g1, g2]

theorem onP_take (l : PL) (ds : List Int) (k : Nat) (h : k < ds.length) : onP l (ds.take (k + 1)) = onP l (ds.take k) ++ (if ds.getD k 0 ∈ docs l then [(ds.getD k 0, posOf l (ds.getD k 0))] else []) := by
  unfold onP
  rw [filter_step ds k (fun d => decide (d ∈ docs l)) h]
  by_cases hm : ds.getD k 0 ∈ docs l
  · rw [if_pos (by simpa using hm), if_pos hm, List.map_append]
    rfl
  · rw [if_neg (by simpa using hm), if_neg hm, List.append_nil]
theorem onR_take (l : PL) (ds : List Int) (k : Nat) (h : k < l.length) : onR (l.take (k + 1)) ds = onR (l.take k) ds ++ (if (l.getD k (0, [])).1 ∈ ds then [l.getD k (0, [])] else []) := by
  unfold onR
  rw [take_succD l k (0, []) h, List.filter_append]
  by_cases hm : (l.getD k (0, [])).1 ∈ ds
  · rw [if_pos hm, List.filter_cons_of_pos (by simpa using hm)]; rfl
  · rw [if_neg hm, List.filter_cons_of_neg (by simpa using hm)]; rfl
theorem onP_len (l : PL) (ds : List Int) : (onP l ds).length ≤ ds.length := by
  unfold onP
  rw [List.length_map]
  exact List.length_filter_le _ _
theorem onR_len (l : PL) (ds : List Int) : (onR l ds).length ≤ l.length := List.length_filter_le _ _

theorem seekN_mono {l : PL} (h : Asc' l) {d e : Int} (hd : d ≤ e) : seekN l d ≤ seekN l e := by
  rcases Nat.lt_or_ge (seekN l e) (seekN l d) with h1 | h1
  · exfalso
    have hle := seekN_le l d
    have := (seekN_lt h d (seekN l e) (by omega)).2 h1
    have := (seekN_lt h e (seekN l e) (by omega)).1 (by omega)
    omega
  · exact h1
theorem seekN_mem {l : PL} (h : Asc' l) (d : Int) : d ∈ docs l ↔ seekN l d < l.length ∧ (l.getD (seekN l d) (0, [])).1 = d := by
  constructor
  · intro hm
    obtain ⟨p, hp, e⟩ := List.mem_map.1 hm
    obtain ⟨j, hj, e2⟩ := memD_inv (0, []) hp
    have hjd : (l.getD j (0, [])).1 = d := by rw [e2]; exact e
    have n1 := seekN_lt h d j hj
    have : seekN l d ≤ j := by omega
    have hlt : seekN l d < l.length := by omega
    refine ⟨hlt, ?_⟩
    have n2 := seekN_lt h d _ hlt
    rcases Nat.lt_or_ge (seekN l d) j with h3 | h3
    · have : (docs l).getD (seekN l d) 0 < (docs l).getD j 0 := asc_get h h3 (by simp [docs]; omega)
      have g : ∀ k, k < l.length → (docs l).getD k 0 = (l.getD k (0, [])).1 := fun k hk => by
        simp [docs, List.getD_eq_getElem?_getD, List.getElem?_map, List.getElem?_eq_getElem hk]
      rw [g _ hlt, g _ hj] at this
      omega
    · have : seekN l d = j := by omega
      rw [this]; exact hjd
  · rintro ⟨h1, h2⟩
    exact List.mem_map.2 ⟨_, memD l _ (0, []) h1, h2⟩
theorem posOf_get {l : PL} (h : Asc' l) {k : Nat} (hk : k < l.length) : posOf l (l.getD k (0, [])).1 = (l.getD k (0, [])).2 := posOf_mem h (memD l k _ hk)
end Go.Proofs.Ytlijaamjcpefoaa

/- Only of layer 38 and of its reference. -/
namespace Go.Proofs.Ytlijaamjcpefoaa
open Go Go.Am Post
set_option linter.unusedVariables false

def onlyL (l : PL) (ds : List Int) : PL := if validL l = true ∧ asc ds 1 1000000000 = true then onP l ds else []

set_option maxRecDepth 100000 in
set_option maxHeartbeats 2000000 in
theorem only_ok (l : PL) (ds : List Int) (hl : l.length ≤ 400) (hp : ∀ p ∈ l, p.2.length ≤ 400) (hd : ds.length ≤ 400) (H : List Blk) (T : Toks) (ta tb : Tag) :
    ACall Try.prog 42 [.sl l.length (psAV l) ta, .sl ds.length (ints ds) tb] H T (Is (.sl (onlyL l ds).length (psAV (onlyL l ds)) .none) H T) := by
  refine ACall.untag1 (ACall.untag2 ?_)
  refine ACall.drop' ?_ (by simp)
  have hml : 400 ≤ maxLen := by decide
  have c1 := valid_ok l (by omega) (fun p h => Nat.le_trans (hp p h) hml) H T .none
  have c2 := validDocs_ok ds (by omega) H T .none
  refine acall_enter 21 [] Try.ntmps42 Try.func42 rfl (fun _ _ => Try.call42 _ _) (by simp) (fun HO => ?_)
  refine aw_reg fun K hK => ?_; simp (maxSteps := 1000000) (disch := omega) [-List.getD_eq_getElem?_getD]; refine hK _ ?_; clear hK K
  refine aw_reg fun K hK => ?_; simp (maxSteps := 1000000) (disch := omega) [-List.getD_eq_getElem?_getD]; refine hK _ ?_; clear hK K
  refine aw_then fun K1 hK1 => ?_
  cases hv : validL l with
  | false =>
    rw [hv] at c1
    refine aw_reg fun K hK => ?_; simp (maxSteps := 1000000) (disch := omega) [-List.getD_eq_getElem?_getD]
    refine acall_is (c1) ?_; simp (maxSteps := 1000000) (disch := omega) [-List.getD_eq_getElem?_getD]
    refine hK _ ?_; clear hK K
    refine aw_if rfl (fun h => ?_) (fun h => absurd h (by simp))
    refine aw_reg fun K hK => ?_; simp (maxSteps := 1000000) (disch := omega) [-List.getD_eq_getElem?_getD]; refine hK _ ?_; clear hK K
    refine aw_ret ?_; simp (maxSteps := 1000000) (disch := omega) [-List.getD_eq_getElem?_getD]
    simp [onlyL, hv, psAV]
  | true =>
    rw [hv] at c1
    cases hw : asc ds 1 1000000000 with
    | false =>
      rw [hw] at c2
      refine aw_reg fun K hK => ?_; simp (maxSteps := 1000000) (disch := omega) [-List.getD_eq_getElem?_getD]
      refine acall_is (c1) ?_; simp (maxSteps := 1000000) (disch := omega) [-List.getD_eq_getElem?_getD]
      refine acall_is (c2) ?_; simp (maxSteps := 1000000) (disch := omega) [-List.getD_eq_getElem?_getD]
      refine hK _ ?_; clear hK K
      refine aw_if rfl (fun h => ?_) (fun h => absurd h (by simp))
      refine aw_reg fun K hK => ?_; simp (maxSteps := 1000000) (disch := omega) [-List.getD_eq_getElem?_getD]; refine hK _ ?_; clear hK K
      refine aw_ret ?_; simp (maxSteps := 1000000) (disch := omega) [-List.getD_eq_getElem?_getD]
      simp [onlyL, hw, psAV]
    | true =>
      rw [hw] at c2
      obtain ⟨a1, a2, a3⟩ := validL_iff hv
      have hda := asc_pair hw
      have hr : onlyL l ds = onP l ds := by unfold onlyL; rw [if_pos ⟨hv, hw⟩]
      refine aw_reg fun K hK => ?_; simp (maxSteps := 1000000) (disch := omega) [-List.getD_eq_getElem?_getD]
      refine acall_is (c1) ?_; simp (maxSteps := 1000000) (disch := omega) [-List.getD_eq_getElem?_getD]
      refine acall_is (c2) ?_; simp (maxSteps := 1000000) (disch := omega) [-List.getD_eq_getElem?_getD]
      refine hK _ ?_; clear hK K
      refine aw_if rfl (fun h => absurd h (by simp)) (fun h => ?_)
      refine aw_skip ?_; simp (maxSteps := 1000000) (disch := omega) [-List.getD_eq_getElem?_getD]
      refine hK1 _ ?_; clear hK1
      refine aw_reg fun K hK => ?_; simp (maxSteps := 1000000) (disch := omega) [-List.getD_eq_getElem?_getD]; refine hK _ ?_; clear hK K
      refine aw_then fun K1 hK1 => ?_
      refine aw_reg fun K hK => ?_; simp (maxSteps := 1000000) (disch := omega) [-List.getD_eq_getElem?_getD]; refine hK _ ?_; clear hK K
      refine aw_block ?_
      refine aw_own 5 0 2 [] (by omega) (by simp) ?_
      refine aw_loop (X := Nat × Nat) (fun x => ⟨[(0, .sl l.length (psAV l) .none), (5, .sl (onP l (ds.take x.1)).length (psAV (onP l (ds.take x.1))) (.own T.length)), (6, .int .i64 (x.2 : Nat)), (18, .sl ds.length (ints ds) .none), (19, .int .i64 (ds.length : Nat)), (20, .int .i64 (x.1 : Nat))], H, T ++ [((onP l (ds.take x.1)).length * 2, 2)]⟩) (fun x => x.1 ≤ ds.length ∧ (x.1 < ds.length → x.2 ≤ seekN l (ds.getD x.1 0)) ∧ x.2 ≤ 400) (fun x => ds.length - x.1) (0, 0) ?_ ?_ ?_
      · exact ⟨Nat.zero_le _, fun _ => Nat.zero_le _, by simp⟩
      · refine weak_to [] [] ?_ ?_ ?_ ?_ (HO.toks (by simp)) ?_
        all_goals simp [psAV_nil, onP]
      · rintro ⟨k, at_⟩ ⟨h1, h2, h3⟩
        simp only at h1 h2 h3
        have hlen := onP_len l (ds.take k)
        rw [List.length_take] at hlen
        refine aw_reg fun K hK => ?_; simp (maxSteps := 1000000) (disch := omega) [-List.getD_eq_getElem?_getD]; refine hK _ ?_; clear hK K
        refine aw_then fun K2 hK2 => ?_
        refine aw_if rfl (fun hk => ?_) (fun hk => ?_)
        · simp [-List.getD_eq_getElem?_getD] at hk
          have hgk := getD_ints (xs := ds) (k := k) hk
          have hst := onP_take l ds k hk
          have hsm := seekN_mem a1 (ds.getD k 0)
          have hsl := seekN_le l (ds.getD k 0)
          have c3 := seek_ok l at_ (ds.getD k 0) (by omega) a1 (h2 hk) H (T ++ [((onP l (ds.take k)).length * 2, 2)])
          have hnx : k + 1 < ds.length → seekN l (ds.getD k 0) ≤ seekN l (ds.getD (k + 1) 0) := fun hh => seekN_mono a1 (Int.le_of_lt (asc_get hda (by omega) hh))
          have hpg : ∀ m, m < l.length → (l.getD m (0, [])).1 = ds.getD k 0 → posOf l (ds.getD k 0) = (l.getD m (0, [])).2 := fun m hm e => by rw [← e]; exact posOf_get a1 hm
          generalize onP l (ds.take k) = out at *
          generalize hdd : ds.getD k 0 = d at *
          generalize seekN l d = N at *
          refine aw_skip ?_; simp (maxSteps := 1000000) (disch := omega) [-List.getD_eq_getElem?_getD]
          refine hK2 _ ?_; clear hK2
          refine aw_then fun K3 hK3 => ?_
          refine aw_block ?_
          refine aw_reg fun K hK => ?_; simp (maxSteps := 1000000) (disch := omega) [-List.getD_eq_getElem?_getD, hgk, hk]; refine hK _ ?_; clear hK K
          refine aw_reg fun K hK => ?_; simp (maxSteps := 1000000) (disch := omega) [-List.getD_eq_getElem?_getD]
          refine acall_is (c3) ?_; simp (maxSteps := 1000000) (disch := omega) [-List.getD_eq_getElem?_getD]
          refine hK _ ?_; clear hK K
          by_cases c1 : N < l.length
          · have b1 : decide ((N : Int) < l.length) = true := by simp; omega
            have hat := psAV_at l N c1
            have hpl := hp _ (memD l N (0, []) c1)
            have hpg1 := hpg N c1
            generalize l.getD N (0, []) = p at *
            by_cases c2 : p.1 = d
            · have b2 : (p.1 == d) = true := by simpa using c2
              have hm : d ∈ docs l := hsm.2 ⟨c1, c2⟩
              rw [if_pos hm, hpg1 c2] at hst
              have hps := psAV_snoc out d p.2
              have c4 := cloneI_ok p.2 (by omega) H (T ++ [(out.length * 2, 2)])
              refine aw_reg fun K hK => ?_; simp (maxSteps := 1000000) (disch := omega) [-List.getD_eq_getElem?_getD, b1, c1, hat.1, psAV_len, b2]; refine hK _ ?_; clear hK K
              refine aw_if rfl (fun h => ?_) (fun h => absurd h (by simp))
              refine aw_reg0 fun K hK => ?_; simp (maxSteps := 1000000) (disch := omega) [-List.getD_eq_getElem?_getD, hat.2, psAV_len, hps, c1]
              refine acall_is (c4) ?_; simp (maxSteps := 1000000) (disch := omega) [-List.getD_eq_getElem?_getD, hps, psAV_len]
              refine hK _ ?_; clear hK K
              refine hK3 _ ?_; clear hK3
              refine aw_reg0 fun K hK => ?_; simp (maxSteps := 1000000) (disch := omega) [-List.getD_eq_getElem?_getD]
              refine hK _ ?_; clear hK K
              refine ⟨(k + 1, N), ⟨by show k + 1 ≤ _; omega, hnx, by show N ≤ 400; omega⟩, by show ds.length - (k + 1) < ds.length - k; omega, ?_⟩
              simp only [hst]
              refine weak_to [] [] ?_ ?_ ?_ ?_ (HO.toks (by simp)) ?_
              all_goals simp
            · have b2 : (p.1 == d) = false := by simpa using c2
              have hm : ¬ d ∈ docs l := fun h => c2 (hsm.1 h).2
              rw [if_neg hm, List.append_nil] at hst
              refine aw_reg fun K hK => ?_; simp (maxSteps := 1000000) (disch := omega) [-List.getD_eq_getElem?_getD, b1, c1, hat.1, psAV_len, b2]; refine hK _ ?_; clear hK K
              refine aw_if rfl (fun h => absurd h (by simp)) (fun h => ?_)
              refine aw_skip ?_; simp (maxSteps := 1000000) (disch := omega) [-List.getD_eq_getElem?_getD]
              refine hK3 _ ?_; clear hK3
              refine aw_reg0 fun K hK => ?_; simp (maxSteps := 1000000) (disch := omega) [-List.getD_eq_getElem?_getD]
              refine hK _ ?_; clear hK K
              refine ⟨(k + 1, N), ⟨by show k + 1 ≤ _; omega, hnx, by show N ≤ 400; omega⟩, by show ds.length - (k + 1) < ds.length - k; omega, ?_⟩
              simp only [hst]
              refine weak_to [] [] ?_ ?_ ?_ ?_ (HO.toks (by simp)) ?_
              all_goals simp
          · have b1 : decide ((N : Int) < l.length) = false := by simp; omega
            have hm : ¬ d ∈ docs l := fun h => c1 (hsm.1 h).1
            rw [if_neg hm, List.append_nil] at hst
            refine aw_reg fun K hK => ?_; simp (maxSteps := 1000000) (disch := omega) [-List.getD_eq_getElem?_getD, b1, c1]; refine hK _ ?_; clear hK K
            refine aw_if rfl (fun h => absurd h (by simp)) (fun h => ?_)
            refine aw_skip ?_; simp (maxSteps := 1000000) (disch := omega) [-List.getD_eq_getElem?_getD]
            refine hK3 _ ?_; clear hK3
            refine aw_reg0 fun K hK => ?_; simp (maxSteps := 1000000) (disch := omega) [-List.getD_eq_getElem?_getD]
            refine hK _ ?_; clear hK K
            refine ⟨(k + 1, N), ⟨by show k + 1 ≤ _; omega, hnx, by show N ≤ 400; omega⟩, by show ds.length - (k + 1) < ds.length - k; omega, ?_⟩
            simp only [hst]
            refine weak_to [] [] ?_ ?_ ?_ ?_ (HO.toks (by simp)) ?_
            all_goals simp
        · simp at hk
          have : k = ds.length := by omega
          subst this
          rw [List.take_length]
          refine aw_exit ?_; simp (maxSteps := 1000000) (disch := omega) [-List.getD_eq_getElem?_getD]
          refine hK1 _ ?_; clear hK1
          refine aw_reg fun K hK => ?_; simp (maxSteps := 1000000) (disch := omega) [-List.getD_eq_getElem?_getD]; refine hK _ ?_; clear hK K
          refine aw_ret ?_; simp (maxSteps := 1000000) (disch := omega) [-List.getD_eq_getElem?_getD]
          rw [hr]
          exact ⟨rfl, rfl⟩

set_option maxRecDepth 100000 in
set_option maxHeartbeats 2000000 in
theorem onlyR_ok (l : PL) (ds : List Int) (hl : l.length ≤ 400) (hp : ∀ p ∈ l, p.2.length ≤ 400) (hd : ds.length ≤ 400) (H : List Blk) (T : Toks) (ta tb : Tag) :
    ACall Try.prog 43 [.sl l.length (psAV l) ta, .sl ds.length (ints ds) tb] H T (Is (.sl (onlyL l ds).length (psAV (onlyL l ds)) .none) H T) := by
  refine ACall.untag1 (ACall.untag2 ?_)
  refine ACall.drop' ?_ (by simp)
  have hml : 400 ≤ maxLen := by decide
  have c1 := validR_ok l (by omega) (fun p h => Nat.le_trans (hp p h) hml) H T .none
  have c2 := validDocsR_ok ds (by omega) H T .none
  refine acall_enter 7 [] Try.ntmps43 Try.func43 rfl (fun _ _ => Try.call43 _ _) (by simp) (fun HO => ?_)
  refine aw_reg fun K hK => ?_; simp (maxSteps := 1000000) (disch := omega) [-List.getD_eq_getElem?_getD]; refine hK _ ?_; clear hK K
  refine aw_reg fun K hK => ?_; simp (maxSteps := 1000000) (disch := omega) [-List.getD_eq_getElem?_getD]; refine hK _ ?_; clear hK K
  refine aw_then fun K1 hK1 => ?_
  cases hv : validL l with
  | false =>
    rw [hv] at c1
    refine aw_reg fun K hK => ?_; simp (maxSteps := 1000000) (disch := omega) [-List.getD_eq_getElem?_getD]
    refine acall_is (c1) ?_; simp (maxSteps := 1000000) (disch := omega) [-List.getD_eq_getElem?_getD]
    refine hK _ ?_; clear hK K
    refine aw_if rfl (fun h => ?_) (fun h => absurd h (by simp))
    refine aw_reg fun K hK => ?_; simp (maxSteps := 1000000) (disch := omega) [-List.getD_eq_getElem?_getD]; refine hK _ ?_; clear hK K
    refine aw_ret ?_; simp (maxSteps := 1000000) (disch := omega) [-List.getD_eq_getElem?_getD]
    simp [onlyL, hv, psAV]
  | true =>
    rw [hv] at c1
    cases hw : asc ds 1 1000000000 with
    | false =>
      rw [hw] at c2
      refine aw_reg fun K hK => ?_; simp (maxSteps := 1000000) (disch := omega) [-List.getD_eq_getElem?_getD]
      refine acall_is (c1) ?_; simp (maxSteps := 1000000) (disch := omega) [-List.getD_eq_getElem?_getD]
      refine acall_is (c2) ?_; simp (maxSteps := 1000000) (disch := omega) [-List.getD_eq_getElem?_getD]
      refine hK _ ?_; clear hK K
      refine aw_if rfl (fun h => ?_) (fun h => absurd h (by simp))
      refine aw_reg fun K hK => ?_; simp (maxSteps := 1000000) (disch := omega) [-List.getD_eq_getElem?_getD]; refine hK _ ?_; clear hK K
      refine aw_ret ?_; simp (maxSteps := 1000000) (disch := omega) [-List.getD_eq_getElem?_getD]
      simp [onlyL, hw, psAV]
    | true =>
      rw [hw] at c2
      obtain ⟨a1, a2, a3⟩ := validL_iff hv
      have hda := asc_pair hw
      have hr : onlyL l ds = onR l ds := by unfold onlyL; rw [if_pos ⟨hv, hw⟩, on_eq a1 hda]
      refine aw_reg fun K hK => ?_; simp (maxSteps := 1000000) (disch := omega) [-List.getD_eq_getElem?_getD]
      refine acall_is (c1) ?_; simp (maxSteps := 1000000) (disch := omega) [-List.getD_eq_getElem?_getD]
      refine acall_is (c2) ?_; simp (maxSteps := 1000000) (disch := omega) [-List.getD_eq_getElem?_getD]
      refine hK _ ?_; clear hK K
      refine aw_if rfl (fun h => absurd h (by simp)) (fun h => ?_)
      refine aw_skip ?_; simp (maxSteps := 1000000) (disch := omega) [-List.getD_eq_getElem?_getD]
      refine hK1 _ ?_; clear hK1
      refine aw_then fun K1 hK1 => ?_
      refine aw_reg fun K hK => ?_; simp (maxSteps := 1000000) (disch := omega) [-List.getD_eq_getElem?_getD]; refine hK _ ?_; clear hK K
      refine aw_block ?_
      refine aw_own 5 0 2 [] (by omega) (by simp) ?_
      refine aw_loop (X := Nat) (fun k => ⟨[(0, .sl l.length (psAV l) .none), (1, .sl ds.length (ints ds) .none), (5, .sl (onR (l.take k) ds).length (psAV (onR (l.take k) ds)) (.own T.length)), (6, .int .i64 (k : Nat))], H, T ++ [((onR (l.take k) ds).length * 2, 2)]⟩) (fun k => k ≤ l.length) (fun k => l.length - k) 0 ?_ ?_ ?_
      · exact Nat.zero_le _
      · refine weak_to [] [] ?_ ?_ ?_ ?_ (HO.toks (by simp)) ?_
        all_goals simp [psAV_nil, onR]
      · intro k h1
        have hlen := onR_len (l.take k) ds
        rw [List.length_take] at hlen
        refine aw_then fun K2 hK2 => ?_
        refine aw_reg fun K hK => ?_; simp (maxSteps := 1000000) (disch := omega) [-List.getD_eq_getElem?_getD]; refine hK _ ?_; clear hK K
        refine aw_if rfl (fun hk => ?_) (fun hk => ?_)
        · simp [-List.getD_eq_getElem?_getD] at hk
          have hat := psAV_at l k hk
          have hst := onR_take l ds k hk
          have hpl := hp _ (memD l k (0, []) hk)
          generalize onR (l.take k) ds = out at *
          generalize l.getD k (0, []) = p at *
          have c3 := has_ok ds p.1 (by omega) H (T ++ [(out.length * 2, 2)]) .none
          refine aw_skip ?_; simp (maxSteps := 1000000) (disch := omega) [-List.getD_eq_getElem?_getD]
          refine hK2 _ ?_; clear hK2
          refine aw_then fun K3 hK3 => ?_
          refine aw_block ?_
          by_cases hm : p.1 ∈ ds
          · rw [if_pos hm] at hst
            rw [decide_eq_true hm] at c3
            have hps : psAV out ++ [.int .i64 p.1, .sl p.2.length (ints p.2) .none] = psAV (out ++ [p]) := psAV_snoc out p.1 p.2
            refine aw_reg fun K hK => ?_; simp (maxSteps := 1000000) (disch := omega) [-List.getD_eq_getElem?_getD, hat.1, psAV_len]
            refine acall_is (c3) ?_; simp (maxSteps := 1000000) (disch := omega) [-List.getD_eq_getElem?_getD]
            refine hK _ ?_; clear hK K
            refine aw_if rfl (fun h => ?_) (fun h => absurd h (by simp))
            refine aw_draw0 [12, 15] [0, 0, 0, 0, 0, 0, 0, 0, 0, 0, 0, 0, 0, 1, 1, 1, 2] [[0, 1, 2, 3, 4, 5], []] drawMixed (by kernel_rfl) (by kernel_rfl) fun K hK => ?_; simp (maxSteps := 1000000) (disch := omega) [-List.getD_eq_getElem?_getD, hat.1, hat.2, psAV_len, hps, hk]
            refine hK _ ?_; clear hK K
            refine hK3 _ ?_; clear hK3
            refine aw_reg0 fun K hK => ?_; simp (maxSteps := 1000000) (disch := omega) [-List.getD_eq_getElem?_getD]
            refine hK _ ?_; clear hK K
            refine ⟨k + 1, by show k + 1 ≤ _; omega, by show l.length - (k + 1) < l.length - k; omega, ?_⟩
            simp only [hst]
            refine weak_to [] [(p.2.length, 1)] ?_ ?_ ?_ ?_ (HO.toks (by simp)) ?_
            all_goals simp
          · rw [if_neg hm, List.append_nil] at hst
            rw [decide_eq_false hm] at c3
            refine aw_reg fun K hK => ?_; simp (maxSteps := 1000000) (disch := omega) [-List.getD_eq_getElem?_getD, hat.1, psAV_len]
            refine acall_is (c3) ?_; simp (maxSteps := 1000000) (disch := omega) [-List.getD_eq_getElem?_getD]
            refine hK _ ?_; clear hK K
            refine aw_if rfl (fun h => absurd h (by simp)) (fun h => ?_)
            refine aw_skip ?_; simp (maxSteps := 1000000) (disch := omega) [-List.getD_eq_getElem?_getD]
            refine hK3 _ ?_; clear hK3
            refine aw_reg0 fun K hK => ?_; simp (maxSteps := 1000000) (disch := omega) [-List.getD_eq_getElem?_getD]
            refine hK _ ?_; clear hK K
            refine ⟨k + 1, by show k + 1 ≤ _; omega, by show l.length - (k + 1) < l.length - k; omega, ?_⟩
            simp only [hst]
            refine weak_to [] [] ?_ ?_ ?_ ?_ (HO.toks (by simp)) ?_
            all_goals simp
        · simp at hk
          have : k = l.length := by omega
          subst this
          rw [List.take_length]
          refine aw_exit ?_; simp (maxSteps := 1000000) (disch := omega) [-List.getD_eq_getElem?_getD]
          refine hK1 _ ?_; clear hK1
          refine aw_reg fun K hK => ?_; simp (maxSteps := 1000000) (disch := omega) [-List.getD_eq_getElem?_getD]; refine hK _ ?_; clear hK K
          refine aw_ret ?_; simp (maxSteps := 1000000) (disch := omega) [-List.getD_eq_getElem?_getD]
          rw [hr]
          exact ⟨rfl, rfl⟩
end Go.Proofs.Ytlijaamjcpefoaa
