/- Near of layer 38: what it asks of two positions; whether some number of a list passes a test; searching among ascending numbers.
   Conditions: numbers from 0 to 10^9. -/
import Derived.Test.YtlijaamjcpefoaaPFn14
namespace Go.Proofs.Ytlijaamjcpefoaa
open Go Go.Am Post
set_option linter.unusedVariables false

def nearQ (p n q : Int) : Bool := decide (q ≠ p) && decide (max (q - p) (p - q) ≤ n)

theorem near11_ok (p q n : Int) (hp : 0 ≤ p ∧ p ≤ 1000000000) (hq : 0 ≤ q ∧ q ≤ 1000000000) (H : List Blk) (T : Toks) (x y : Nat) (hx : H[x]? = some (.cells [.int .i64 p])) (hy : H[y]? = some (.cells [.int .i64 n])) :
    ACall Try.prog 72 [.int .i64 q, .ptr x 0, .ptr y 0] H T (Is (.bool (nearQ p n q)) H T) := by
  refine acall_enter 4 [] Try.ntmps72 Try.func72 rfl (fun _ _ => Try.call72 _ _) (by simp) (fun HO => ?_)
  refine aw_reg fun K hK => ?_; simp (maxSteps := 200000) (disch := omega) [-List.getD_eq_getElem?_getD]; refine hK _ ?_; clear hK K
  by_cases h : q = p
  · have b : (q != p) = false := by simp [h]
    refine aw_reg fun K hK => ?_; simp (maxSteps := 200000) (disch := omega) [-List.getD_eq_getElem?_getD, hx, hy, b, h]; refine hK _ ?_; clear hK K
    refine aw_ret ?_; simp (maxSteps := 200000) (disch := omega) [-List.getD_eq_getElem?_getD]
    refine ⟨?_, rfl, rfl⟩
    simp [nearQ, h]
  · have b : (q != p) = true := by simp [h]
    refine aw_reg fun K hK => ?_; simp (maxSteps := 200000) (disch := omega) [-List.getD_eq_getElem?_getD, hx, hy, b, h]; refine hK _ ?_; clear hK K
    refine aw_ret ?_; simp (maxSteps := 200000) (disch := omega) [-List.getD_eq_getElem?_getD]
    refine ⟨?_, rfl, rfl⟩
    simp [nearQ, h]

theorem indexI_ok (l : List Int) (f : Int → Bool) (hl : l.length ≤ maxLen) (g : Nat) (caps : List AV) (H : List Blk) (T : Toks) (hb : BelowAll H.length T.length caps) (hg : ∀ x, x ∈ l → ACall Try.prog g ([.int .i64 x] ++ caps) H T (Is (.bool (f x)) H T)) :
    ACall Try.prog 93 [.sl l.length (ints l) .none, .fn g [] caps] H T (fun r H' T' => H' = H ∧ T' = T ∧ ∃ v : Int, r = .int .i64 v ∧ decide (0 ≤ v) = l.any f) := by
  have hml : maxLen ≤ 9223372036854775807 := by decide
  have hl' := Nat.le_trans hl hml
  generalize hq : l.any f = q
  refine acall_enter 9 [] Try.ntmps93 Try.func93 rfl (fun _ _ => Try.call93 _ _) (by simp) (fun HO => ?_)
  refine aw_reg fun K hK => ?_; simp (maxSteps := 200000) (disch := omega) [-List.getD_eq_getElem?_getD]; refine hK _ ?_; clear hK K
  refine aw_then fun K1 hK1 => ?_
  refine aw_reg fun K hK => ?_; simp (maxSteps := 200000) (disch := omega) [-List.getD_eq_getElem?_getD]; refine hK _ ?_; clear hK K
  refine aw_block ?_
  refine aw_loop (X := Nat) (fun k => ⟨[(0, .sl l.length (ints l) .none), (1, .fn g [] caps), (7, .int .i64 (l.length : Nat)), (8, .int .i64 (k : Nat))], H, T⟩) (fun k => k ≤ l.length ∧ ∀ j, j < k → f (l.getD j 0) = false) (fun k => l.length - k) 0 ?_ ?_ ?_
  · exact ⟨Nat.zero_le _, fun j hj => absurd hj (Nat.not_lt_zero _)⟩
  · refine weak_to [] [] ?_ ?_ ?_ ?_ HO ?_
    all_goals simp [hb]
  · rintro k ⟨h1, h2⟩
    refine aw_reg fun K hK => ?_; simp (maxSteps := 200000) (disch := omega) [-List.getD_eq_getElem?_getD]; refine hK _ ?_; clear hK K
    refine aw_then fun K2 hK2 => ?_
    refine aw_if rfl (fun hk => ?_) (fun hk => ?_)
    · simp [-List.getD_eq_getElem?_getD] at hk
      have hm := memD l k 0 hk
      have c := hg _ hm
      refine aw_skip ?_; simp (maxSteps := 200000) (disch := omega) [-List.getD_eq_getElem?_getD]
      refine hK2 _ ?_; clear hK2
      refine aw_then fun K3 hK3 => ?_
      refine aw_block ?_
      refine aw_reg fun K hK => ?_; simp (maxSteps := 200000) (disch := omega) [-List.getD_eq_getElem?_getD]; refine hK _ ?_; clear hK K
      cases hf : f (l.getD k 0) with
      | true =>
        rw [hf] at c
        refine aw_reg fun K hK => ?_; simp (maxSteps := 200000) (disch := omega) [-List.getD_eq_getElem?_getD, getD_ints]
        refine acall_is (c) ?_; simp (maxSteps := 200000) (disch := omega) [-List.getD_eq_getElem?_getD]
        refine hK _ ?_; clear hK K
        refine aw_if rfl (fun h => ?_) (fun h => absurd h (by simp))
        refine aw_reg fun K hK => ?_; simp (maxSteps := 200000) (disch := omega) [-List.getD_eq_getElem?_getD]; refine hK _ ?_; clear hK K
        refine aw_ret ?_; simp (maxSteps := 200000) (disch := omega) [-List.getD_eq_getElem?_getD]
        have : l.any f = true := List.any_eq_true.2 ⟨_, hm, hf⟩
        rw [hq] at this
        simp [this]
      | false =>
        rw [hf] at c
        refine aw_reg fun K hK => ?_; simp (maxSteps := 200000) (disch := omega) [-List.getD_eq_getElem?_getD, getD_ints]
        refine acall_is (c) ?_; simp (maxSteps := 200000) (disch := omega) [-List.getD_eq_getElem?_getD]
        refine hK _ ?_; clear hK K
        refine aw_if rfl (fun h => absurd h (by simp)) (fun h => ?_)
        refine aw_skip ?_; simp (maxSteps := 200000) (disch := omega) [-List.getD_eq_getElem?_getD]
        refine hK3 _ ?_; clear hK3
        refine aw_reg0 fun K hK => ?_; simp (maxSteps := 200000) (disch := omega) [-List.getD_eq_getElem?_getD]
        refine hK _ ?_; clear hK K
        refine ⟨k + 1, ⟨by show k + 1 ≤ _; omega, fun j hj => ?_⟩, by show l.length - (k + 1) < l.length - k; omega, ?_⟩
        · rcases Nat.lt_or_ge j k with h3 | h3
          · exact h2 j h3
          · have : j = k := by omega
            subst this; exact hf
        · refine weak_to [] [] ?_ ?_ ?_ ?_ HO ?_
          all_goals simp [hb]
    · simp [-List.getD_eq_getElem?_getD] at hk
      have hn : l.any f = false := by
        rw [List.any_eq_false]
        intro p hp'
        obtain ⟨j, hj, e⟩ := memD_inv 0 hp'
        rw [← e, h2 j (by omega)]
        simp
      refine aw_exit ?_; simp (maxSteps := 200000) (disch := omega) [-List.getD_eq_getElem?_getD]
      refine hK1 _ ?_; clear hK1
      refine aw_reg fun K hK => ?_; simp (maxSteps := 200000) (disch := omega) [-List.getD_eq_getElem?_getD]; refine hK _ ?_; clear hK K
      refine aw_ret ?_; simp (maxSteps := 200000) (disch := omega) [-List.getD_eq_getElem?_getD]
      rw [hq] at hn
      simp [hn]

theorem containsI_ok (l : List Int) (f : Int → Bool) (hl : l.length ≤ maxLen) (g : Nat) (caps : List AV) (H : List Blk) (T : Toks) (hb : BelowAll H.length T.length caps) (hg : ∀ x, x ∈ l → ACall Try.prog g ([.int .i64 x] ++ caps) H T (Is (.bool (f x)) H T)) :
    ACall Try.prog 71 [.sl l.length (ints l) .none, .fn g [] caps] H T (Is (.bool (l.any f)) H T) := by
  have c := indexI_ok l f hl g caps H T hb hg
  generalize l.any f = q at *
  refine acall_enter 5 [] Try.ntmps71 Try.func71 rfl (fun _ _ => Try.call71 _ _) (by simp) (fun HO => ?_)
  refine aw_reg fun K hK => ?_; simp (maxSteps := 200000) (disch := omega) [-List.getD_eq_getElem?_getD]; refine hK _ ?_; clear hK K
  refine aw_reg fun K hK => ?_; simp (maxSteps := 200000) (disch := omega) [-List.getD_eq_getElem?_getD]
  refine ⟨_, c, ?_⟩
  rintro r H' T' ⟨rfl, rfl, v, rfl, hv⟩
  simp (maxSteps := 200000) (disch := omega) [-List.getD_eq_getElem?_getD, hv]
  refine hK _ ?_; clear hK K
  refine aw_ret ?_; simp (maxSteps := 200000) (disch := omega) [-List.getD_eq_getElem?_getD]
  exact ⟨rfl, rfl, rfl⟩

theorem near1_ok (p n : Int) (at_ : List Int) (hp : 0 ≤ p ∧ p ≤ 1000000000) (ha : ∀ q ∈ at_, 0 ≤ q ∧ q ≤ 1000000000) (hl : at_.length ≤ maxLen) (H : List Blk) (T : Toks) (y : Nat) (hy : H[y]? = some (.cells [.int .i64 n])) (tg : Tag) :
    ACall Try.prog 70 [.int .i64 p, .sl at_.length (ints at_) tg, .ptr y 0] H T (Is (.bool (at_.any (nearQ p n))) H T) := by
  refine ACall.untag2 ?_
  refine ACall.drop' ?_ (by simp)
  have hyl : y < H.length := (List.getElem?_eq_some_iff.1 hy).1
  have hy' : (H ++ [Blk.cells [.int .i64 p]])[y]? = some (.cells [.int .i64 n]) := by rw [List.getElem?_append_left hyl]; exact hy
  have c := containsI_ok at_ (nearQ p n) hl 72 [.ptr H.length 0, .ptr y 0] (H ++ [Blk.cells [.int .i64 p]]) T (by intro v hv; simp at hv; rcases hv with rfl | rfl <;> simp; omega)
    (fun q hq => by simpa using near11_ok p q n hp (ha q hq) (H ++ [Blk.cells [.int .i64 p]]) T H.length y (by simp) hy')
  generalize at_.any (nearQ p n) = q at *
  refine acall_enter 6 [] Try.ntmps70 Try.func70 rfl (fun _ _ => Try.call70 _ _) (by simp) (fun HO => ?_)
  refine aw_reg fun K hK => ?_; simp (maxSteps := 200000) (disch := omega) [-List.getD_eq_getElem?_getD]; refine hK _ ?_; clear hK K
  refine aw_reg fun K hK => ?_; simp (maxSteps := 200000) (disch := omega) [-List.getD_eq_getElem?_getD]
  refine acall_is (c) ?_; simp (maxSteps := 200000) (disch := omega) [-List.getD_eq_getElem?_getD]
  refine hK _ ?_; clear hK K
  refine aw_ret ?_; simp (maxSteps := 200000) (disch := omega) [-List.getD_eq_getElem?_getD]

theorem less_ok (x y : Int) (H : List Blk) (T : Toks) : ACall Try.prog 87 [.int .i64 x, .int .i64 y] H T (Is (.bool (decide (x < y))) H T) := by
  have n1 : ∀ z, ACall Try.prog 101 [.int .i64 z] H T (Is (.bool false) H T) := fun z => by
    refine acall_enter 3 [] Try.ntmps101 Try.func101 rfl (fun _ _ => Try.call101 _ _) (by simp) (fun HO => ?_)
    refine aw_reg fun K hK => ?_; simp (maxSteps := 200000) (disch := omega) [-List.getD_eq_getElem?_getD]; refine hK _ ?_; clear hK K
    refine aw_reg fun K hK => ?_; simp (maxSteps := 200000) (disch := omega) [-List.getD_eq_getElem?_getD]; refine hK _ ?_; clear hK K
    refine aw_ret ?_; simp (maxSteps := 200000) (disch := omega) [-List.getD_eq_getElem?_getD]
    exact ⟨rfl, rfl, rfl⟩
  generalize hq : decide (x < y) = q
  refine acall_enter 5 [] Try.ntmps87 Try.func87 rfl (fun _ _ => Try.call87 _ _) (by simp) (fun HO => ?_)
  refine aw_reg fun K hK => ?_; simp (maxSteps := 200000) (disch := omega) [-List.getD_eq_getElem?_getD]; refine hK _ ?_; clear hK K
  refine aw_reg fun K hK => ?_; simp (maxSteps := 200000) (disch := omega) [-List.getD_eq_getElem?_getD]
  refine acall_is (n1 x) ?_; simp (maxSteps := 200000) (disch := omega) [-List.getD_eq_getElem?_getD]
  (try simp (maxSteps := 200000) (disch := omega) [-List.getD_eq_getElem?_getD, hq])
  refine hK _ ?_; clear hK K
  refine aw_ret ?_; simp (maxSteps := 200000) (disch := omega) [-List.getD_eq_getElem?_getD]
  exact ⟨rfl, rfl, rfl⟩

theorem isNaN_ok (z : Int) (H : List Blk) (T : Toks) : ACall Try.prog 88 [.int .i64 z] H T (Is (.bool false) H T) := by
  refine acall_enter 3 [] Try.ntmps88 Try.func88 rfl (fun _ _ => Try.call88 _ _) (by simp) (fun HO => ?_)
  refine aw_reg fun K hK => ?_; simp (maxSteps := 200000) (disch := omega) [-List.getD_eq_getElem?_getD]; refine hK _ ?_; clear hK K
  refine aw_reg fun K hK => ?_; simp (maxSteps := 200000) (disch := omega) [-List.getD_eq_getElem?_getD]; refine hK _ ?_; clear hK K
  refine aw_ret ?_; simp (maxSteps := 200000) (disch := omega) [-List.getD_eq_getElem?_getD]
  exact ⟨rfl, rfl, rfl⟩
end Go.Proofs.Ytlijaamjcpefoaa
