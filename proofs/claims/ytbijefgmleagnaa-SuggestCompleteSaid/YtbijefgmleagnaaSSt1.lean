/- Exchanging ranges, rotating (slices' stable sort) on a box of entries.
   Conditions: lengths below 1000, as the theorems say. -/
import Derived.Test.YtbijefgmleagnaaSFn5
namespace Sug
open Go.Proofs.Ytbijefgmleagnaa
abbrev ze : Ent := ([], 0)
def swp (d : List Ent) (i j : Nat) : List Ent := (d.set i (d.getD j ze)).set j (d.getD i ze)
theorem swp_len (d : List Ent) (i j : Nat) : (swp d i j).length = d.length := by simp [swp]
theorem swp_get {d : List Ent} {i j : Nat} (hi : i < d.length) (hj : j < d.length) (t : Nat) : (swp d i j).getD t ze = if t = j then d.getD i ze else if t = i then d.getD j ze else d.getD t ze := by
  unfold swp
  rw [List.getD_eq_getElem?_getD, List.getElem?_set]
  by_cases h1 : t = j
  · subst h1
    rw [if_pos rfl, if_pos (by simpa using hj), if_pos rfl]
    rfl
  · rw [if_neg (Ne.symm h1), if_neg h1, List.getElem?_set]
    by_cases h2 : t = i
    · subst h2
      rw [if_pos rfl, if_pos hi, if_pos rfl]
      rfl
    · rw [if_neg (Ne.symm h2), if_neg h2, List.getD_eq_getElem?_getD]
theorem swp_perm {d : List Ent} {i j : Nat} (hi : i < d.length) (hj : j < d.length) : (swp d i j).Perm d := by
  have h := (Array.swap_perm (xs := d.toArray) (i := i) (j := j) (by simpa using hi) (by simpa using hj)).toList
  have e : (d.toArray.swap i j (by simpa using hi) (by simpa using hj)).toList = swp d i j := by
    simp [Array.swap, swp, hi, hj]
  rw [e] at h
  exact h
def swapR (d : List Ent) (a b : Nat) : Nat → List Ent
  | 0 => d
  | k + 1 => swp (swapR d a b k) (a + k) (b + k)
theorem swapR_len (d : List Ent) (a b : Nat) : ∀ k, (swapR d a b k).length = d.length
  | 0 => rfl
  | k + 1 => by rw [swapR, swp_len, swapR_len d a b k]
theorem swapR_perm (d : List Ent) (a b : Nat) : ∀ k, a + k ≤ b → b + k ≤ d.length → (swapR d a b k).Perm d
  | 0, _, _ => .refl _
  | k + 1, h1, h2 => by
    rw [swapR]
    exact (swp_perm (by rw [swapR_len]; omega) (by rw [swapR_len]; omega)).trans (swapR_perm d a b k (by omega) (by omega))
theorem swapR_get (d : List Ent) (a b : Nat) : ∀ k, a + k ≤ b → b + k ≤ d.length → ∀ t, (swapR d a b k).getD t ze = if a ≤ t ∧ t < a + k then d.getD (t - a + b) ze else if b ≤ t ∧ t < b + k then d.getD (t - b + a) ze else d.getD t ze
  | 0, _, _, t => by rw [if_neg (by omega), if_neg (by omega)]; rfl
  | k + 1, h1, h2, t => by
    have ih := swapR_get d a b k (by omega) (by omega)
    rw [swapR, swp_get (by rw [swapR_len]; omega) (by rw [swapR_len]; omega)]
    by_cases q1 : t = b + k
    · subst q1
      rw [if_pos rfl, ih, if_neg (by omega), if_neg (by omega), if_neg (by omega), if_pos (by omega)]
      congr 1; omega
    · rw [if_neg q1]
      by_cases q2 : t = a + k
      · subst q2
        rw [if_pos rfl, ih, if_neg (by omega), if_neg (by omega), if_pos (by omega)]
        congr 1; omega
      · rw [if_neg q2, ih]
        by_cases q3 : a ≤ t ∧ t < a + k
        · rw [if_pos q3, if_pos (by omega)]
        · by_cases q4 : b ≤ t ∧ t < b + k
          · rw [if_neg q3, if_pos q4, if_neg (by omega), if_pos (by omega)]
          · rw [if_neg q3, if_neg q4, if_neg (by omega), if_neg (by omega)]

/-- What lies at a place when [a, m) and [m, b) have changed places. -/
def rotAt (d : List Ent) (a m b t : Nat) : Ent := if t < a ∨ b ≤ t then d.getD t ze else if t - a < b - m then d.getD (m + (t - a)) ze else d.getD (t - (b - m)) ze
theorem rotAt_out {d : List Ent} {a m b t : Nat} (h : t < a ∨ b ≤ t) : rotAt d a m b t = d.getD t ze := by rw [rotAt, if_pos h]
theorem rotAt_lo {d : List Ent} {a m b t : Nat} (h1 : a ≤ t) (h2 : t < b) (h3 : t - a < b - m) : rotAt d a m b t = d.getD (m + (t - a)) ze := by rw [rotAt, if_neg (by omega), if_pos h3]
theorem rotAt_hi {d : List Ent} {a m b t : Nat} (h1 : a ≤ t) (h2 : t < b) (h3 : b - m ≤ t - a) : rotAt d a m b t = d.getD (t - (b - m)) ze := by rw [rotAt, if_neg (by omega), if_neg (by omega)]
end Sug
namespace Go.Proofs.Ytbijefgmleagnaa
open Go Go.Am Sug
set_option linter.unusedVariables false

theorem ent_cut {d : List Ent} {k : Nat} (rest : List AV) (h : k < d.length) : ((entAV d ++ rest).drop (k * 2)).take 2 = [.str (d.getD k ze).1, .int .i64 (d.getD k ze).2] := by
  have hl := entAV_len d
  rw [List.drop_append_of_le_length (by omega), List.take_append_of_le_length (by simp; omega)]
  exact entAV_cut d k h
theorem ent_put : ∀ (d : List Ent) (k : Nat) (rest : List AV) (w : Str) (n : Int), k < d.length → ((entAV d ++ rest).set (k * 2) (.str w)).set (k * 2 + 1) (.int .i64 n) = entAV (d.set k (w, n)) ++ rest
  | [], k, _, _, _, h => by simp at h
  | e :: d, 0, rest, w, n, _ => by simp [entAV_cons]
  | e :: d, k + 1, rest, w, n, h => by
    have ih := ent_put d k rest w n (by simpa using h)
    rw [show (k + 1) * 2 = k * 2 + 1 + 1 by omega]
    simp only [entAV_cons, List.cons_append, List.set_cons_succ, ih]

theorem ent_swp (d : List Ent) (i j : Nat) (rest : List AV) (hi : i < d.length) (hj : j < d.length) :
    ((((entAV d ++ rest).set (i * 2) (.str (d.getD j ze).1)).set (i * 2 + 1) (.int .i64 (d.getD j ze).2)).set (j * 2) (.str (d.getD i ze).1)).set (j * 2 + 1) (.int .i64 (d.getD i ze).2) = entAV (swp d i j) ++ rest := by
  rw [ent_put d i rest _ _ hi, ent_put _ j rest _ _ (by simpa using hj)]
  rfl
theorem set_id {H : List Blk} {i : Nat} {x : Blk} (hi : H[i]? = some x) : H.set i x = H := by
  apply List.ext_getElem?
  intro j
  by_cases hj : i = j
  · subst hj; rw [List.getElem?_set_self (List.getElem?_eq_some_iff.1 hi).1, hi]
  · rw [List.getElem?_set_ne hj]

set_option maxRecDepth 100000 in
set_option maxHeartbeats 4000000 in
theorem swapRange_ok (d : List Ent) (rest : List AV) (a b n i : Nat) (hab : a + n ≤ b) (hbl : b + n ≤ d.length) (hl : d.length ≤ 1000) (H : List Blk) (T : Toks) (hi : H[i]? = some (.cells (entAV d ++ rest))) (hr : BelowAll H.length T.length rest) :
    ACall Try.prog 76 [.msl i 0 d.length, .int .i64 (a : Nat), .int .i64 (b : Nat), .int .i64 (n : Nat), .fn 45 [] []] H T (Is (.tup []) (H.set i (.cells (entAV (swapR d a b n) ++ rest))) T) := by
  have hil := (List.getElem?_eq_some_iff.1 hi).1
  have hset0 := set_id hi
  refine acall_enter 11 [] Try.ntmps76 Try.func76 rfl (fun _ _ => Try.call76 _ _) (by simp) (fun HO => ?_)
  refine aw_reg fun K hK => ?_; simp (maxSteps := 1000000) (disch := omega) [-List.getD_eq_getElem?_getD]; refine hK _ ?_; clear hK K
  refine aw_block ?_
  have HO' : ∀ k, HOk (H.set i (.cells (entAV (swapR d a b k) ++ rest))) T := fun k => HO.set (by simp [hr])
  refine aw_loop (X := Nat) (fun k => ⟨[(0, .msl i 0 d.length), (1, .int .i64 (a : Nat)), (2, .int .i64 (b : Nat)), (3, .int .i64 (n : Nat)), (10, .int .i64 (k : Nat))], H.set i (.cells (entAV (swapR d a b k) ++ rest)), T⟩)
    (fun k => k ≤ n) (fun k => n - k) 0 ?_ ?_ ?_
  · exact Nat.zero_le _
  · refine weak_to [] [] ?_ ?_ ?_ ?_ (HO' 0) ?_
    all_goals simp [swapR, hset0, hil]
  · rintro k hk
    refine aw_then fun K2 hK2 => ?_
    refine aw_reg fun K hK => ?_; simp (maxSteps := 1000000) (disch := omega) [-List.getD_eq_getElem?_getD]; refine hK _ ?_; clear hK K
    refine aw_if rfl (fun hk2 => ?_) (fun hk2 => ?_)
    · simp [-List.getD_eq_getElem?_getD] at hk2
      have hln := swapR_len d a b k
      have hc1 := ent_cut (d := swapR d a b k) (k := b + k) rest (by omega)
      have hc2 := ent_cut (d := swapR d a b k) (k := a + k) rest (by omega)
      refine aw_skip ?_; simp (maxSteps := 1000000) (disch := omega) [-List.getD_eq_getElem?_getD]
      refine hK2 _ ?_; clear hK2
      refine aw_then fun K3 hK3 => ?_
      refine aw_block ?_
      refine aw_draw0 [21, 23] [0, 0, 0, 0, 0, 0, 0, 0, 0, 0, 0, 0, 0, 0, 0, 0, 0, 0, 0, 0, 0, 0, 1, 1] [[4, 5, 6, 7], []] drawMixed (by kernel_rfl) (by kernel_rfl) fun K hK => ?_; simp (maxSteps := 1000000) (disch := omega) [-List.getD_eq_getElem?_getD, hc1, hc2, entAV_len, hln, hil]
      rw [ent_swp _ (a + k) (b + k) rest (by omega) (by omega)]
      refine hK _ ?_; clear hK K
      refine hK3 _ ?_; clear hK3
      refine aw_reg0 fun K hK => ?_; simp (maxSteps := 1000000) (disch := omega) [-List.getD_eq_getElem?_getD]
      refine hK _ ?_; clear hK K
      refine ⟨k + 1, by show k + 1 ≤ _; omega, by show n - (k + 1) < n - k; omega, ?_⟩
      refine weak_to [] [] ?_ ?_ ?_ ?_ (HO' (k + 1)) ?_
      all_goals simp [swapR, hil]
    · simp at hk2
      have e : k = n := by omega
      subst e
      refine aw_exit ?_; simp (maxSteps := 1000000) (disch := omega) [-List.getD_eq_getElem?_getD]
      exact ⟨rfl, rfl, rfl⟩

/-- What is asked of a function that turns a box of entries. -/
def TurnQ (i : Nat) (rest : List AV) (H : List Blk) (T : Toks) (R : List Ent → Prop) : AV → List Blk → Toks → Prop := fun r H' T' => r = .tup [] ∧ T' = T ∧ ∃ d', H' = H.set i (.cells (entAV d' ++ rest)) ∧ R d'

/-- [a, m) and [m, b) have changed places. -/
def RotR (d : List Ent) (a m b : Nat) (d' : List Ent) : Prop := d'.Perm d ∧ ∀ t, d'.getD t ze = rotAt d a m b t

set_option maxRecDepth 100000 in
set_option maxHeartbeats 4000000 in
theorem rotate_ok (d : List Ent) (rest : List AV) (a m b i : Nat) (ham : a < m) (hmb : m < b) (hbl : b ≤ d.length) (hl : d.length ≤ 1000) (H : List Blk) (T : Toks) (hi : H[i]? = some (.cells (entAV d ++ rest))) (hr : BelowAll H.length T.length rest) :
    ACall Try.prog 74 [.msl i 0 d.length, .int .i64 (a : Nat), .int .i64 (m : Nat), .int .i64 (b : Nat), .fn 45 [] []] H T (TurnQ i rest H T (RotR d a m b)) := by
  have hil := (List.getElem?_eq_some_iff.1 hi).1
  have hset0 := set_id hi
  refine acall_enter 12 [] Try.ntmps74 Try.func74 rfl (fun _ _ => Try.call74 _ _) (by simp) (fun HO => ?_)
  refine aw_reg fun K hK => ?_; simp (maxSteps := 1000000) (disch := omega) [-List.getD_eq_getElem?_getD]; refine hK _ ?_; clear hK K
  refine aw_reg fun K hK => ?_; simp (maxSteps := 1000000) (disch := omega) [-List.getD_eq_getElem?_getD]; refine hK _ ?_; clear hK K
  refine aw_then fun K1 hK1 => ?_
  refine aw_block ?_
  have HO' : ∀ d2, HOk (H.set i (.cells (entAV d2 ++ rest))) T := fun k => HO.set (by simp [hr])
  refine aw_loop (X := List Ent × Nat × Nat) (fun x => ⟨[(0, .msl i 0 d.length), (2, .int .i64 (m : Nat)), (4, .fn 45 [] []), (10, .int .i64 (x.2.1 : Nat)), (11, .int .i64 (x.2.2 : Nat))], H.set i (.cells (entAV x.1 ++ rest)), T⟩)
    (fun x => x.1.Perm d ∧ 0 < x.2.1 ∧ 0 < x.2.2 ∧ x.2.1 ≤ m - a ∧ x.2.2 ≤ b - m ∧ (∀ t, t < m - x.2.1 ∨ m + x.2.2 ≤ t → x.1.getD t ze = rotAt d a m b t) ∧ ∀ t, m - x.2.1 ≤ t → t < m + x.2.2 → rotAt x.1 (m - x.2.1) m (m + x.2.2) t = rotAt d a m b t) (fun x => x.2.1 + x.2.2) (d, m - a, b - m) ?_ ?_ ?_
  · refine ⟨.refl _, by show 0 < m - a; omega, by show 0 < b - m; omega, Nat.le_refl _, Nat.le_refl _, fun t ht => ?_, fun t h1 h2 => ?_⟩
    · simp only at ht ⊢
      rw [rotAt, if_pos (by omega)]
    · simp only at h1 h2 ⊢
      rw [show m - (m - a) = a by omega, show m + (b - m) = b by omega]
  · refine weak_to [] [] ?_ ?_ ?_ ?_ (HO' d) ?_
    all_goals simp [hset0, hil]
    all_goals omega
  · rintro ⟨d2, p, q⟩ ⟨h0, h1, h2, h3, h4, h5, h6⟩
    simp only at h0 h1 h2 h3 h4 h5 h6
    have hl2 := h0.length_eq
    have c := fun (x y n : Nat) (hab : x + n ≤ y) (hbl : y + n ≤ d2.length) => swapRange_ok d2 rest x y n i hab hbl (by omega) (H.set i (.cells (entAV d2 ++ rest))) T (List.getElem?_set_self hil) (by simpa using hr)
    simp only [hl2, List.set_set] at c
    refine aw_then fun K2 hK2 => ?_
    by_cases hpq : p = q
    · subst hpq
      have bq : ((p : Int) != p) = false := by simp
      have c1 := c (m - p) m p (by omega) (by omega)
      have hget := swapR_get d2 (m - p) m p (by omega) (by omega)
      have hperm := swapR_perm d2 (m - p) m p (by omega) (by omega)
      rw [show ((m - p : Nat) : Int) = (m : Int) - p by omega] at c1
      refine aw_reg fun K hK => ?_; simp (maxSteps := 1000000) (disch := omega) [-List.getD_eq_getElem?_getD, bq]; refine hK _ ?_; clear hK K
      refine aw_if rfl (fun h => absurd h (by simp)) (fun h => ?_)
      refine aw_exit ?_; simp (maxSteps := 1000000) (disch := omega) [-List.getD_eq_getElem?_getD]
      refine hK1 _ ?_; clear hK1
      refine aw_reg0 fun K hK => ?_; simp (maxSteps := 1000000) (disch := omega) [-List.getD_eq_getElem?_getD]
      refine acall_is (c1) ?_; simp (maxSteps := 1000000) (disch := omega) [-List.getD_eq_getElem?_getD]
      refine hK _ ?_; clear hK K
      refine ⟨rfl, rfl, _, rfl, hperm.trans h0, fun t => ?_⟩
      by_cases q1 : t < m - p ∨ m + p ≤ t
      · rw [hget, if_neg (by omega), if_neg (by omega)]
        exact h5 t q1
      · rw [← h6 t (by omega) (by omega), rotAt, if_neg q1, hget]
        by_cases q2 : t - (m - p) < m + p - m
        · rw [if_pos q2, if_pos (by omega)]
          congr 1; omega
        · rw [if_neg q2, if_neg (by omega), if_pos (by omega)]
          congr 1; omega
    · have bq : ((p : Int) != q) = true := by rw [bne_iff_ne]; omega
      have bq' : ¬ (p : Int) = q := by omega
      refine aw_reg fun K hK => ?_; simp (maxSteps := 1000000) (disch := omega) [-List.getD_eq_getElem?_getD, bq, bq']; refine hK _ ?_; clear hK K
      refine aw_if rfl (fun h => ?_) (fun h => absurd h (by simp [hpq]))
      refine aw_skip ?_; simp (maxSteps := 1000000) (disch := omega) [-List.getD_eq_getElem?_getD]
      refine hK2 _ ?_; clear hK2
      refine aw_block ?_
      by_cases hlt : q < p
      · have bl : decide ((q : Int) < p) = true := decide_eq_true (by omega)
        have c1 := c (m - p) m q (by omega) (by omega)
        have hget := swapR_get d2 (m - p) m q (by omega) (by omega)
        have hperm := swapR_perm d2 (m - p) m q (by omega) (by omega)
        rw [show ((m - p : Nat) : Int) = (m : Int) - p by omega] at c1
        refine aw_reg fun K hK => ?_; simp (maxSteps := 1000000) (disch := omega) [-List.getD_eq_getElem?_getD, bl, hlt]; refine hK _ ?_; clear hK K
        refine aw_if rfl (fun h => ?_) (fun h => absurd h (by simp))
        refine aw_reg fun K hK => ?_; simp (maxSteps := 1000000) (disch := omega) [-List.getD_eq_getElem?_getD]
        refine acall_is (c1) ?_; simp (maxSteps := 1000000) (disch := omega) [-List.getD_eq_getElem?_getD]
        refine hK _ ?_; clear hK K
        refine aw_reg0 fun K hK => ?_; simp (maxSteps := 1000000) (disch := omega) [-List.getD_eq_getElem?_getD]
        refine hK _ ?_; clear hK K
        refine ⟨(swapR d2 (m - p) m q, p - q, q), ⟨hperm.trans h0, by show 0 < p - q; omega, h2, by show p - q ≤ m - a; omega, h4, fun t ht => ?_, fun t g1 g2 => ?_⟩, by show p - q + q < p + q; omega, ?_⟩
        · simp only at ht ⊢
          rw [hget]
          by_cases q1 : t < m - p ∨ m + q ≤ t
          · rw [if_neg (by omega), if_neg (by omega)]
            exact h5 t q1
          · rw [← h6 t (by omega) (by omega), rotAt, if_neg q1, if_pos (by omega), if_pos (by omega)]
            congr 1; omega
        · simp only at g1 g2 ⊢
          rw [← h6 t (by omega) (by omega), rotAt_hi (d := d2) (by omega) (by omega) (by omega)]
          by_cases q2 : t - (m - (p - q)) < m + q - m
          · rw [rotAt_lo (by omega) (by omega) q2, hget, if_neg (by omega), if_pos (by omega)]
            congr 1; omega
          · rw [rotAt_hi (by omega) (by omega) (by omega), hget, if_neg (by omega), if_neg (by omega)]
        · refine weak_to [] [] ?_ ?_ ?_ ?_ (HO' _) ?_
          all_goals simp
          all_goals omega
      · have bl : decide ((q : Int) < p) = false := decide_eq_false (by omega)
        have hlt' : p < q := by omega
        have c1 := c (m - p) (m + q - p) p (by omega) (by omega)
        have hget := swapR_get d2 (m - p) (m + q - p) p (by omega) (by omega)
        have hperm := swapR_perm d2 (m - p) (m + q - p) p (by omega) (by omega)
        rw [show ((m - p : Nat) : Int) = (m : Int) - p by omega, show ((m + q - p : Nat) : Int) = (m : Int) + q - p by omega] at c1
        refine aw_reg fun K hK => ?_; simp (maxSteps := 1000000) (disch := omega) [-List.getD_eq_getElem?_getD, bl, hlt]; refine hK _ ?_; clear hK K
        refine aw_if rfl (fun h => absurd h (by simp [hlt])) (fun h => ?_)
        refine aw_reg fun K hK => ?_; simp (maxSteps := 1000000) (disch := omega) [-List.getD_eq_getElem?_getD]
        refine acall_is (c1) ?_; simp (maxSteps := 1000000) (disch := omega) [-List.getD_eq_getElem?_getD]
        refine hK _ ?_; clear hK K
        refine aw_reg0 fun K hK => ?_; simp (maxSteps := 1000000) (disch := omega) [-List.getD_eq_getElem?_getD]
        refine hK _ ?_; clear hK K
        refine ⟨(swapR d2 (m - p) (m + q - p) p, p, q - p), ⟨hperm.trans h0, h1, by show 0 < q - p; omega, h3, by show q - p ≤ b - m; omega, fun t ht => ?_, fun t g1 g2 => ?_⟩, by show p + (q - p) < p + q; omega, ?_⟩
        · simp only at ht ⊢
          rw [hget]
          by_cases q1 : t < m - p ∨ m + q ≤ t
          · rw [if_neg (by omega), if_neg (by omega)]
            exact h5 t q1
          · rw [← h6 t (by omega) (by omega), rotAt, if_neg q1, if_neg (by omega), if_pos (by omega), if_neg (by omega)]
            congr 1; omega
        · simp only at g1 g2 ⊢
          rw [← h6 t (by omega) (by omega), rotAt_lo (d := d2) (by omega) (by omega) (by omega)]
          by_cases q2 : t - (m - p) < m + (q - p) - m
          · rw [rotAt_lo (by omega) (by omega) q2, hget, if_neg (by omega), if_neg (by omega)]
          · rw [rotAt_hi (by omega) (by omega) (by omega), hget, if_pos (by omega)]
            congr 1; omega
        · refine weak_to [] [] ?_ ?_ ?_ ?_ (HO' _) ?_
          all_goals simp
          all_goals omega
end Go.Proofs.Ytbijefgmleagnaa
