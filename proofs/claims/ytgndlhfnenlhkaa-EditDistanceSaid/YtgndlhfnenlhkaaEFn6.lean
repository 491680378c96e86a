/- Small functions of layer 11: Chars of the reference, Text, comparisons, Cost.
   Conditions: lengths below 1000. -/
import Derived.Test.YtgndlhfnenlhkaaEFn5
import Derived.Test.YtgndlhfnenlhkaaEPl2
namespace Go.Proofs.Ytgndlhfnenlhkaa
open Go Go.Am Edit
set_option linter.unusedVariables false

theorem charsR_ok (s : List UInt8) (hs : s.length ≤ 1099511627776) (H : List Blk) (T : Toks) : ACall Try.prog 14 [.str s] H T (Is (.sl (chars s).length (ints (chars s)) .none) H T) := by
  refine ACall.drop' ?_ (by simp)
  refine acall_enter 10 [] Try.ntmps14 Try.func14 rfl (fun _ _ => Try.call14 _ _) (by simp) (fun HO => ?_)
  refine aw_reg fun K hK => ?_; simp (maxSteps := 200000) (disch := omega) [-List.getD_eq_getElem?_getD]; refine hK _ ?_; clear hK K
  refine aw_reg fun K hK => ?_; simp (maxSteps := 200000) (disch := omega) [-List.getD_eq_getElem?_getD]; refine hK _ ?_; clear hK K
  refine aw_then fun K1 hK1 => ?_
  refine aw_reg fun K hK => ?_; simp (maxSteps := 200000) (disch := omega) [-List.getD_eq_getElem?_getD]; refine hK _ ?_; clear hK K
  refine aw_block ?_
  refine aw_own 3 0 1 [] (by omega) (by simp) ?_
  refine aw_loop (X := Nat × Nat × List Int) (fun x => ⟨[(3, .sl x.2.2.length (ints x.2.2) (.own T.length)), (7, .ptr H.length 0)], H ++ [.iter s x.2.1], T ++ [(x.2.2.length, 1)]⟩)
    (fun x => s.length ≤ x.2.1 + x.1 ∧ chars s = x.2.2 ++ chN s x.1 x.2.1 ∧ x.2.2.length + x.1 ≤ s.length) (fun x => x.1) (s.length, 0, []) ?_ ?_ ?_
  · exact ⟨by simp, rfl, by simp⟩
  · refine weak_to [] [] ?_ ?_ ?_ ?_ (HO.snocIter.toks (by simp)) ?_
    all_goals simp
  · rintro ⟨n, p, out⟩ ⟨h1, h2, h3⟩
    simp only at h1 h2 h3
    obtain ⟨d1, d2⟩ := decode_facts ⟨s.toArray⟩ p
    by_cases hp : p < s.length
    · have hst := chN_step s n p hp h1
      have hn : 0 < n := by
        rcases Nat.eq_zero_or_pos n with h0 | h0
        · omega
        · exact h0
      have hw : IntKind.i64.wrap ((Utf8.decode ⟨s.toArray⟩ p).1 : Int) = ((Utf8.decode ⟨s.toArray⟩ p).1 : Int) := by rw [IntKind.wrap_i64]; omega
      refine aw_reg fun K hK => ?_; simp (maxSteps := 200000) (disch := omega) [-List.getD_eq_getElem?_getD, hp]; refine hK _ ?_; clear hK K
      refine aw_then fun K2 hK2 => ?_
      refine aw_if rfl (fun h => ?_) (fun h => absurd h (by simp))
      refine aw_skip ?_; simp (maxSteps := 200000) (disch := omega) [-List.getD_eq_getElem?_getD]
      refine hK2 _ ?_; clear hK2
      refine aw_block ?_
      refine aw_reg fun K hK => ?_; simp (maxSteps := 200000) (disch := omega) [-List.getD_eq_getElem?_getD]; refine hK _ ?_; clear hK K
      refine aw_reg0 fun K hK => ?_; simp (maxSteps := 200000) (disch := omega) [-List.getD_eq_getElem?_getD, hw]
      refine hK _ ?_; clear hK K
      refine ⟨(n - 1, p + (Utf8.decode ⟨s.toArray⟩ p).2, out ++ [((Utf8.decode ⟨s.toArray⟩ p).1 : Int)]), ⟨by show s.length ≤ (p + (Utf8.decode ⟨s.toArray⟩ p).2) + (n - 1); omega, by rw [h2, hst]; simp, by simp; omega⟩, by show n - 1 < n; omega, ?_⟩
      refine weak_to [] [] ?_ ?_ ?_ ?_ (HO.snocIter.toks (by simp)) ?_
      · simp
      · simp
      · simp
      · simp
      · simp [ints_snoc]
    · have he := chN_end s n p hp
      refine aw_reg fun K hK => ?_; simp (maxSteps := 200000) (disch := omega) [-List.getD_eq_getElem?_getD, hp]; refine hK _ ?_; clear hK K
      refine aw_then fun K2 hK2 => ?_
      refine aw_if rfl (fun h => absurd h (by simp)) (fun h => ?_)
      refine aw_exit ?_; simp (maxSteps := 200000) (disch := omega) [-List.getD_eq_getElem?_getD]
      refine hK1 _ ?_; clear hK1
      refine aw_reg fun K hK => ?_; simp (maxSteps := 200000) (disch := omega) [-List.getD_eq_getElem?_getD]; refine hK _ ?_; clear hK K
      refine aw_ret ?_; simp (maxSteps := 200000) (disch := omega) [-List.getD_eq_getElem?_getD]
      rw [h2, he]
      simp

theorem eq_getD {α : Type} [DecidableEq α] {a b : List α} (d : α) (h : a.length = b.length) (hj : ∀ j, j < a.length → a.getD j d = b.getD j d) : a = b := by
  apply List.ext_getElem h
  intro i h1 h2
  have := hj i h1
  rwa [List.getD_eq_getElem?_getD, List.getD_eq_getElem?_getD, List.getElem?_eq_getElem h1, List.getElem?_eq_getElem h2] at this


theorem sameInts_ok (a b : List Int) (ha : a.length ≤ maxLen) (hb : b.length ≤ maxLen) (H : List Blk) (T : Toks) (ta tb : Tag) : ACall Try.prog 12 [.sl a.length (ints a) ta, .sl b.length (ints b) tb] H T (Is (.bool (a == b)) H T) := by
  refine ACall.untag1 ?_
  have hml : maxLen ≤ 9223372036854775807 := by decide
  have ha' := Nat.le_trans ha hml
  have hb' := Nat.le_trans hb hml
  refine acall_enter 6 [] Try.ntmps12 Try.func12 rfl (fun _ _ => Try.call12 _ _) (by simp) (fun HO => ?_)
  refine aw_reg fun K hK => ?_; simp (maxSteps := 200000) (disch := omega) [-List.getD_eq_getElem?_getD]; refine hK _ ?_; clear hK K
  refine aw_then fun K1 hK1 => ?_
  refine aw_reg fun K hK => ?_; simp (maxSteps := 200000) (disch := omega) [-List.getD_eq_getElem?_getD]; refine hK _ ?_; clear hK K
  refine aw_if rfl (fun h => ?_) (fun h => ?_)
  · simp [-List.getD_eq_getElem?_getD] at h
    refine aw_reg fun K hK => ?_; simp (maxSteps := 200000) (disch := omega) [-List.getD_eq_getElem?_getD]; refine hK _ ?_; clear hK K
    refine aw_ret ?_; simp (maxSteps := 200000) (disch := omega) [-List.getD_eq_getElem?_getD]
    have : (a == b) = false := by simp; intro e; subst e; exact h rfl
    rw [this]
    exact ⟨rfl, rfl, rfl⟩
  · simp [-List.getD_eq_getElem?_getD] at h
    have hl : a.length = b.length := by omega
    refine aw_skip ?_; simp (maxSteps := 200000) (disch := omega) [-List.getD_eq_getElem?_getD]
    refine hK1 _ ?_; clear hK1
    refine aw_then fun K1 hK1 => ?_
    refine aw_reg fun K hK => ?_; simp (maxSteps := 200000) (disch := omega) [-List.getD_eq_getElem?_getD]; refine hK _ ?_; clear hK K
    refine aw_block ?_
    refine aw_loop (X := Nat) (fun i => ⟨[(0, .sl a.length (ints a) .none), (1, .sl b.length (ints b) .none), (5, .int .i64 (i : Nat))], H, T⟩) (fun i => i ≤ a.length ∧ ∀ j, j < i → a.getD j 0 = b.getD j 0) (fun i => a.length - i) 0 ?_ ?_ ?_
    · exact ⟨by omega, fun j hj => by omega⟩
    · refine weak_to [] [] ?_ ?_ ?_ ?_ HO ?_
      all_goals simp
    · rintro i ⟨hi, hj⟩
      refine aw_then fun K2 hK2 => ?_
      refine aw_reg fun K hK => ?_; simp (maxSteps := 200000) (disch := omega) [-List.getD_eq_getElem?_getD]; refine hK _ ?_; clear hK K
      refine aw_if rfl (fun h => ?_) (fun h => ?_)
      · simp [-List.getD_eq_getElem?_getD] at h
        refine aw_skip ?_; simp (maxSteps := 200000) (disch := omega) [-List.getD_eq_getElem?_getD]
        refine hK2 _ ?_; clear hK2
        refine aw_then fun K3 hK3 => ?_
        refine aw_block ?_
        by_cases he : a.getD i 0 = b.getD i 0
        · refine aw_draw [] [] [] drawMixed (by kernel_rfl) (by kernel_rfl) fun K hK => ?_; simp (maxSteps := 200000) (disch := omega) [-List.getD_eq_getElem?_getD, getD_ints, he]
          refine hK _ ?_; clear hK K
          refine aw_if rfl (fun h => absurd h (by simp)) (fun h => ?_)
          refine aw_skip ?_; simp (maxSteps := 200000) (disch := omega) [-List.getD_eq_getElem?_getD]
          refine hK3 _ ?_; clear hK3
          refine aw_reg0 fun K hK => ?_; simp (maxSteps := 200000) (disch := omega) [-List.getD_eq_getElem?_getD]
          refine hK _ ?_; clear hK K
          refine ⟨i + 1, ⟨by omega, fun j hj' => ?_⟩, by omega, ?_⟩
          · rcases Nat.lt_or_ge j i with h1 | h1
            · exact hj j h1
            · have : j = i := by omega
              subst this; exact he
          · refine weak_to [] [] ?_ ?_ ?_ ?_ HO ?_
            all_goals simp
        · have he' : (a.getD i 0 != b.getD i 0) = true := bne_iff_ne.2 he
          refine aw_draw [] [] [] drawMixed (by kernel_rfl) (by kernel_rfl) fun K hK => ?_; simp (maxSteps := 200000) (disch := omega) [-List.getD_eq_getElem?_getD, getD_ints, he']
          refine hK _ ?_; clear hK K
          refine aw_if rfl (fun h => ?_) (fun h => absurd h (by simp))
          refine aw_reg fun K hK => ?_; simp (maxSteps := 200000) (disch := omega) [-List.getD_eq_getElem?_getD]; refine hK _ ?_; clear hK K
          refine aw_ret ?_; simp (maxSteps := 200000) (disch := omega) [-List.getD_eq_getElem?_getD]
          have : (a == b) = false := by simp; intro e; subst e; exact he rfl
          rw [this]
          exact ⟨rfl, rfl, rfl⟩
      · simp [-List.getD_eq_getElem?_getD] at h
        refine aw_exit ?_; simp (maxSteps := 200000) (disch := omega) [-List.getD_eq_getElem?_getD]
        refine hK1 _ ?_; clear hK1
        refine aw_reg fun K hK => ?_; simp (maxSteps := 200000) (disch := omega) [-List.getD_eq_getElem?_getD]; refine hK _ ?_; clear hK K
        refine aw_ret ?_; simp (maxSteps := 200000) (disch := omega) [-List.getD_eq_getElem?_getD]
        refine ⟨?_, rfl, rfl⟩
        have : a = b := eq_getD 0 hl (fun j hj' => hj j (by omega))
        simp [this]


theorem text_ok (s t : List UInt8) (hs : s.length ≤ 1000) (ht : t.length ≤ 1000) (H : List Blk) (T : Toks) : ACall Try.prog 15 [.str s, .str t] H T (Is (.int .i64 (ed (chars s) (chars t) : Nat)) H T) := by
  have l1 := chars_len s
  have l2 := chars_len t
  refine acall_enter 5 [] Try.ntmps15 Try.func15 rfl (fun _ _ => Try.call15 _ _) (by simp) (fun HO => ?_)
  refine aw_reg fun K hK => ?_; simp (maxSteps := 200000) (disch := omega) [-List.getD_eq_getElem?_getD]; refine hK _ ?_; clear hK K
  refine aw_reg fun K hK => ?_; simp (maxSteps := 200000) (disch := omega) [-List.getD_eq_getElem?_getD]
  refine acall_is (chars_ok s (by omega) H T) ?_; simp (maxSteps := 200000) (disch := omega) [-List.getD_eq_getElem?_getD]
  refine acall_is (chars_ok t (by omega) H T) ?_; simp (maxSteps := 200000) (disch := omega) [-List.getD_eq_getElem?_getD]
  refine acall_is (dist_ok (chars s) (chars t) (by omega) (by omega) H T .none .none) ?_; simp (maxSteps := 200000) (disch := omega) [-List.getD_eq_getElem?_getD]
  refine hK _ ?_; clear hK K
  refine aw_ret ?_; simp (maxSteps := 200000) (disch := omega) [-List.getD_eq_getElem?_getD]
  exact ⟨rfl, rfl, rfl⟩

theorem textR_ok (s t : List UInt8) (hs : s.length ≤ 1000) (ht : t.length ≤ 1000) (H : List Blk) (T : Toks) : ACall Try.prog 16 [.str s, .str t] H T (Is (.int .i64 (ed (chars s) (chars t) : Nat)) H T) := by
  have l1 := chars_len s
  have l2 := chars_len t
  refine acall_enter 5 [] Try.ntmps16 Try.func16 rfl (fun _ _ => Try.call16 _ _) (by simp) (fun HO => ?_)
  refine aw_reg fun K hK => ?_; simp (maxSteps := 200000) (disch := omega) [-List.getD_eq_getElem?_getD]; refine hK _ ?_; clear hK K
  refine aw_reg fun K hK => ?_; simp (maxSteps := 200000) (disch := omega) [-List.getD_eq_getElem?_getD]
  refine acall_is (charsR_ok s (by omega) H T) ?_; simp (maxSteps := 200000) (disch := omega) [-List.getD_eq_getElem?_getD]
  refine acall_is (charsR_ok t (by omega) H T) ?_; simp (maxSteps := 200000) (disch := omega) [-List.getD_eq_getElem?_getD]
  refine acall_is (distR_ok (chars s) (chars t) (by omega) (by omega) H T) ?_; simp (maxSteps := 200000) (disch := omega) [-List.getD_eq_getElem?_getD]
  refine hK _ ?_; clear hK K
  refine aw_ret ?_; simp (maxSteps := 200000) (disch := omega) [-List.getD_eq_getElem?_getD]
  exact ⟨rfl, rfl, rfl⟩

theorem few_ok (a b : List Int) (ha : a.length ≤ maxLen) (hb : b.length ≤ maxLen) (H : List Blk) (T : Toks) : ACall Try.prog 17 [.sl a.length (ints a) .none, .sl b.length (ints b) .none] H T (Is (.bool (decide (a.length ≤ 60 ∧ b.length ≤ 60))) H T) := by
  have hml : maxLen ≤ 9223372036854775807 := by decide
  have ha' := Nat.le_trans ha hml
  have hb' := Nat.le_trans hb hml
  refine acall_enter 5 [] Try.ntmps17 Try.func17 rfl (fun _ _ => Try.call17 _ _) (by simp) (fun HO => ?_)
  refine aw_reg fun K hK => ?_; simp (maxSteps := 200000) (disch := omega) [-List.getD_eq_getElem?_getD]; refine hK _ ?_; clear hK K
  by_cases h1 : a.length ≤ 60
  · have b1 : decide ((a.length : Int) ≤ 60) = true := by simp; omega
    refine aw_reg fun K hK => ?_; simp (maxSteps := 200000) (disch := omega) [-List.getD_eq_getElem?_getD, b1]; refine hK _ ?_; clear hK K
    refine aw_ret ?_; simp (maxSteps := 200000) (disch := omega) [-List.getD_eq_getElem?_getD]
    refine ⟨?_, rfl, rfl⟩
    simp [h1]
    omega
  · have b1 : decide ((a.length : Int) ≤ 60) = false := by simp; omega
    refine aw_reg fun K hK => ?_; simp (maxSteps := 200000) (disch := omega) [-List.getD_eq_getElem?_getD, b1]; refine hK _ ?_; clear hK K
    refine aw_ret ?_; simp (maxSteps := 200000) (disch := omega) [-List.getD_eq_getElem?_getD]
    exact ⟨by simp [h1], rfl, rfl⟩

/-- The cells of a script. -/
def opsAV (l : List (Int × Int)) : List AV := l.flatMap fun p => [.int .i64 p.1, .int .i64 p.2]
theorem opsAV_len (l : List (Int × Int)) : (opsAV l).length = l.length * 2 := by
  induction l with
  | nil => rfl
  | cons p l ih => simp only [opsAV, List.flatMap_cons, List.length_append, List.length_cons, List.length_nil] at ih ⊢; omega
@[simp] theorem below_ops (n t : Nat) (l : List (Int × Int)) : BelowAll n t (opsAV l) := by
  intro v hv
  obtain ⟨p, _, hv⟩ := List.mem_flatMap.1 hv
  simp at hv
  rcases hv with rfl | rfl <;> simp
theorem opsAV_snoc (l : List (Int × Int)) (k c : Int) : opsAV l ++ [.int .i64 k, .int .i64 c] = opsAV (l ++ [(k, c)]) := by simp [opsAV]
theorem opsAV_cons (p : Int × Int) (l : List (Int × Int)) : opsAV (p :: l) = .int .i64 p.1 :: .int .i64 p.2 :: opsAV l := by simp [opsAV]
theorem opsAV_at : ∀ (l : List (Int × Int)) (i : Nat), i < l.length → (opsAV l).getD (i * 2) .top = .int .i64 (l.getD i (0, 0)).1 ∧ (opsAV l).getD (i * 2 + 1) .top = .int .i64 (l.getD i (0, 0)).2 := by
  intro l
  induction l with
  | nil => intro i h; simp at h
  | cons p l ih =>
    intro i h
    cases i with
    | zero => rw [opsAV_cons]; exact ⟨rfl, rfl⟩
    | succ i =>
      have := ih i (by simpa using h)
      rw [opsAV_cons, show (i + 1) * 2 = i * 2 + 1 + 1 by omega]
      exact this
theorem opsAV_cut : ∀ (l : List (Int × Int)) (i : Nat), i < l.length → ((opsAV l).drop (i * 2)).take 2 = [.int .i64 (l.getD i (0, 0)).1, .int .i64 (l.getD i (0, 0)).2] := by
  intro l
  induction l with
  | nil => intro i h; simp at h
  | cons p l ih =>
    intro i h
    cases i with
    | zero => rw [opsAV_cons]; rfl
    | succ i =>
      have := ih i (by simpa using h)
      rw [opsAV_cons, show (i + 1) * 2 = i * 2 + 1 + 1 by omega]
      exact this

theorem costN (l : List (Int × Int)) (k : Nat) (h : k < l.length) : cost (l.take (k + 1)) = cost (l.take k) + (if (l.getD k (0, 0)).1 = 1 then 0 else 1) := by
  have e : l.take (k + 1) = l.take k ++ [l.getD k (0, 0)] := by
    rw [List.take_succ_eq_append_getElem h]
    simp [h]
  rw [e]
  unfold cost
  rw [List.filter_append, List.length_append]
  by_cases h1 : (l.getD k (0, 0)).1 = 1
  · rw [if_pos h1, List.filter_cons_of_neg (by simp only [h1]; decide)]; rfl
  · rw [if_neg h1, List.filter_cons_of_pos (by simpa using h1)]; rfl

theorem cost_ok (l : List (Int × Int)) (hl : l.length ≤ 1000) (H : List Blk) (T : Toks) (tg : Tag) : ACall Try.prog 29 [.sl l.length (opsAV l) tg] H T (Is (.int .i64 (cost l : Nat)) H T) := by
  refine ACall.untag1 ?_
  refine ACall.drop' ?_ (by simp)
  refine acall_enter 9 [] Try.ntmps29 Try.func29 rfl (fun _ _ => Try.call29 _ _) (by simp) (fun HO => ?_)
  refine aw_reg fun K hK => ?_; simp (maxSteps := 200000) (disch := omega) [-List.getD_eq_getElem?_getD]; refine hK _ ?_; clear hK K
  refine aw_reg fun K hK => ?_; simp (maxSteps := 200000) (disch := omega) [-List.getD_eq_getElem?_getD]; refine hK _ ?_; clear hK K
  refine aw_then fun K1 hK1 => ?_
  refine aw_reg fun K hK => ?_; simp (maxSteps := 200000) (disch := omega) [-List.getD_eq_getElem?_getD]; refine hK _ ?_; clear hK K
  refine aw_block ?_
  refine aw_loop (X := Nat) (fun k => ⟨[(3, .int .i64 (cost (l.take k) : Nat)), (6, .sl l.length (opsAV l) .none), (7, .int .i64 (l.length : Nat)), (8, .int .i64 (k : Nat))], H, T⟩) (fun k => k ≤ l.length) (fun k => l.length - k) 0 ?_ ?_ ?_
  · show 0 ≤ _; omega
  · refine weak_to [] [] ?_ ?_ ?_ ?_ HO ?_
    all_goals simp [cost]
  · intro k hk
    refine aw_reg fun K hK => ?_; simp (maxSteps := 200000) (disch := omega) [-List.getD_eq_getElem?_getD]; refine hK _ ?_; clear hK K
    refine aw_then fun K2 hK2 => ?_
    refine aw_if rfl (fun h => ?_) (fun h => ?_)
    · simp [-List.getD_eq_getElem?_getD] at h
      have hcut := opsAV_cut l k h
      have hcost := costN l k h
      have hle : cost (l.take k) ≤ 1000 := by
        refine Nat.le_trans (List.length_filter_le _ _) ?_
        rw [List.length_take]; omega
      refine aw_skip ?_; simp (maxSteps := 200000) (disch := omega) [-List.getD_eq_getElem?_getD]
      refine hK2 _ ?_; clear hK2
      refine aw_then fun K3 hK3 => ?_
      refine aw_block ?_
      refine aw_reg fun K hK => ?_; simp (maxSteps := 200000) (disch := omega) [-List.getD_eq_getElem?_getD, hcut, opsAV_len]; refine hK _ ?_; clear hK K
      by_cases h1 : (l.getD k (0, 0)).1 = 1
      · have b1 : ((l.getD k (0, 0)).1 != 1) = false := by simpa using h1
        rw [if_pos h1] at hcost
        refine aw_reg fun K hK => ?_; simp (maxSteps := 200000) (disch := omega) [-List.getD_eq_getElem?_getD, b1]; refine hK _ ?_; clear hK K
        refine aw_if rfl (fun h => absurd h (by simp)) (fun h => ?_)
        refine aw_skip ?_; simp (maxSteps := 200000) (disch := omega) [-List.getD_eq_getElem?_getD]
        refine hK3 _ ?_; clear hK3
        refine aw_reg0 fun K hK => ?_; simp (maxSteps := 200000) (disch := omega) [-List.getD_eq_getElem?_getD]
        refine hK _ ?_; clear hK K
        refine ⟨k + 1, by show k + 1 ≤ _; omega, by show l.length - (k + 1) < l.length - k; omega, ?_⟩
        refine weak_to [.cells [.int .i64 (l.getD k (0, 0)).1, .int .i64 (l.getD k (0, 0)).2]] [] ?_ ?_ ?_ ?_ HO ?_
        all_goals simp [hcost]
      · have b1 : ((l.getD k (0, 0)).1 != 1) = true := by simpa using h1
        rw [if_neg h1] at hcost
        refine aw_reg fun K hK => ?_; simp (maxSteps := 200000) (disch := omega) [-List.getD_eq_getElem?_getD, b1]; refine hK _ ?_; clear hK K
        refine aw_if rfl (fun h => ?_) (fun h => absurd h (by simp))
        refine aw_reg0 fun K hK => ?_; simp (maxSteps := 200000) (disch := omega) [-List.getD_eq_getElem?_getD]
        refine hK _ ?_; clear hK K
        refine hK3 _ ?_; clear hK3
        refine aw_reg0 fun K hK => ?_; simp (maxSteps := 200000) (disch := omega) [-List.getD_eq_getElem?_getD]
        refine hK _ ?_; clear hK K
        refine ⟨k + 1, by show k + 1 ≤ _; omega, by show l.length - (k + 1) < l.length - k; omega, ?_⟩
        refine weak_to [.cells [.int .i64 (l.getD k (0, 0)).1, .int .i64 (l.getD k (0, 0)).2]] [] ?_ ?_ ?_ ?_ HO ?_
        all_goals simp [hcost]
    · simp [-List.getD_eq_getElem?_getD] at h
      refine aw_exit ?_; simp (maxSteps := 200000) (disch := omega) [-List.getD_eq_getElem?_getD]
      refine hK1 _ ?_; clear hK1
      have : k = l.length := by omega
      subst this
      refine aw_reg fun K hK => ?_; simp (maxSteps := 200000) (disch := omega) [-List.getD_eq_getElem?_getD]; refine hK _ ?_; clear hK K
      refine aw_ret ?_; simp (maxSteps := 200000) (disch := omega) [-List.getD_eq_getElem?_getD]
end Go.Proofs.Ytgndlhfnenlhkaa
