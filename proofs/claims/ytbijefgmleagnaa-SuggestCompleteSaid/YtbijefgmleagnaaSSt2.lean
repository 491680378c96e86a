/- Insertion sort (slices' stable sort) on a box of entries.
   Conditions: lengths below 1000, as the theorems say. -/
import Derived.Test.YtbijefgmleagnaaSSt1
namespace Sug
open Go.Proofs.Ytbijefgmleagnaa
/-- Greater counts first, then lesser words. -/
def fb (x y : Ent) : Bool := decide (y.2 < x.2) || (decide (x.2 = y.2) && slt x.1 y.1)
theorem fb_ge {x y : Ent} (h : fb x y = true) : y.2 ≤ x.2 := by
  simp only [fb, Bool.or_eq_true, Bool.and_eq_true, decide_eq_true_eq] at h
  rcases h with h | h <;> omega
theorem fb_gt {x y : Ent} (h : y.2 < x.2) : fb x y = true := by simp [fb, h]
theorem fb_mk {x y : Ent} (h : y.2 ≤ x.2) (hw : slt x.1 y.1 = true) : fb x y = true := by
  rcases Int.lt_or_le y.2 x.2 with h1 | h1
  · exact fb_gt h1
  · have : x.2 = y.2 := by omega
    simp [fb, this, hw]
theorem fb_trans {x y z : Ent} (h1 : fb x y = true) (h2 : fb y z = true) : fb x z = true := by
  simp only [fb, Bool.or_eq_true, Bool.and_eq_true, decide_eq_true_eq] at h1 h2 ⊢
  rcases h1 with h1 | ⟨h1, h3⟩
  · rcases h2 with h2 | ⟨h2, h4⟩
    · left; omega
    · left; omega
  · rcases h2 with h2 | ⟨h2, h4⟩
    · left; omega
    · exact .inr ⟨by omega, slt_trans _ _ _ h3 h4⟩
def Sg (d : List Ent) (a b : Nat) : Prop := ∀ i j, a ≤ i → i < j → j < b → fb (d.getD i ze) (d.getD j ze) = true
def Wg (d : List Ent) (a b : Nat) : Prop := ∀ i j, a ≤ i → i < j → j < b → slt (d.getD i ze).1 (d.getD j ze).1 = true
/-- d' is d, but that the places from a to b have been exchanged among themselves. -/
structure Seg (d d' : List Ent) (a b : Nat) : Prop where
  perm : d'.Perm d
  out : ∀ t, t < a ∨ b ≤ t → d'.getD t ze = d.getD t ze
  frm : ∀ t, a ≤ t → t < b → ∃ u, a ≤ u ∧ u < b ∧ d'.getD t ze = d.getD u ze
theorem Seg.refl (d : List Ent) (a b : Nat) : Seg d d a b := ⟨.refl _, fun _ _ => rfl, fun t h1 h2 => ⟨t, h1, h2, rfl⟩⟩
theorem Seg.trans {d e f : List Ent} {a b : Nat} (h : Seg d e a b) (k : Seg e f a b) : Seg d f a b := by
  refine ⟨k.perm.trans h.perm, fun t ht => (k.out t ht).trans (h.out t ht), fun t h1 h2 => ?_⟩
  obtain ⟨u, g1, g2, g3⟩ := k.frm t h1 h2
  obtain ⟨v, g4, g5, g6⟩ := h.frm u g1 g2
  exact ⟨v, g4, g5, g3.trans g6⟩
theorem Seg.wide {d e : List Ent} {a b a' b' : Nat} (h : Seg d e a b) (ha : a' ≤ a) (hb : b ≤ b') : Seg d e a' b' := by
  refine ⟨h.perm, fun t ht => h.out t (by omega), fun t h1 h2 => ?_⟩
  by_cases hin : a ≤ t ∧ t < b
  · obtain ⟨u, g1, g2, g3⟩ := h.frm t hin.1 hin.2
    exact ⟨u, by omega, by omega, g3⟩
  · exact ⟨t, h1, h2, h.out t (by omega)⟩
theorem Seg.len {d e : List Ent} {a b : Nat} (h : Seg d e a b) : e.length = d.length := h.perm.length_eq

/-- x stands at j, and what was there moved on up to i. -/
def Mov (d d2 : List Ent) (j i : Nat) : Prop := ∀ t, d2.getD t ze = if t = j then d.getD i ze else if j < t ∧ t ≤ i then d.getD (t - 1) ze else d.getD t ze
theorem Mov.zero (d : List Ent) (i : Nat) : Mov d d i i := by
  intro t
  split
  · rename_i h; rw [h]
  · rw [if_neg (by omega)]
theorem Mov.step {d d2 : List Ent} {j i : Nat} (h : Mov d d2 j i) (hj : 0 < j) (hji : j ≤ i) (hl : i < d2.length) : Mov d (swp d2 j (j - 1)) (j - 1) i := by
  intro t
  rw [swp_get (by omega) (by omega)]
  by_cases h1 : t = j - 1
  · rw [if_pos h1, if_pos h1, h j, if_pos rfl]
  · rw [if_neg h1, if_neg h1]
    by_cases h2 : t = j
    · subst h2
      rw [if_pos rfl, if_pos (by omega), h (t - 1), if_neg (by omega), if_neg (by omega)]
    · rw [if_neg h2, h t, if_neg h2]
      by_cases h3 : j < t ∧ t ≤ i
      · rw [if_pos h3, if_pos (by omega)]
      · rw [if_neg h3, if_neg (by omega)]
theorem Mov.seg {d d2 : List Ent} {j i : Nat} (h : Mov d d2 j i) (hji : j ≤ i) (hp : d2.Perm d) : Seg d d2 j (i + 1) := by
  refine ⟨hp, fun t ht => ?_, fun t h1 h2 => ?_⟩
  · rw [h t, if_neg (by omega), if_neg (by omega)]
  · rw [h t]
    split
    · exact ⟨i, by omega, by omega, rfl⟩
    · split
      · exact ⟨t - 1, by omega, by omega, rfl⟩
      · exact ⟨t, h1, h2, rfl⟩
/-- An element put in its place. -/
theorem Mov.sorted {d d2 : List Ent} {a j i : Nat} (h : Mov d d2 j i) (haj : a ≤ j) (hji : j ≤ i) (hs : Sg d a i) (hw : ∀ t, a ≤ t → t < i → slt (d.getD t ze).1 (d.getD i ze).1 = true)
    (hlo : ∀ t, a ≤ t → t < j → (d.getD i ze).2 ≤ (d.getD t ze).2) (hhi : ∀ t, j ≤ t → t < i → (d.getD t ze).2 < (d.getD i ze).2) : Sg d2 a (i + 1) := by
  intro p q h1 h2 h3
  rw [h p, h q]
  by_cases q1 : q = j
  · rw [if_pos q1, if_neg (by omega), if_neg (by omega)]
    exact fb_mk (hlo p h1 (by omega)) (hw p h1 (by omega))
  · rw [if_neg q1]
    by_cases p1 : p = j
    · rw [if_pos p1, if_pos (by omega)]
      exact fb_gt (hhi (q - 1) (by omega) (by omega))
    · rw [if_neg p1]
      by_cases p2 : j < p
      · rw [if_pos (by omega), if_pos (by omega)]
        exact hs _ _ (by omega) (by omega) (by omega)
      · rw [if_neg (by omega)]
        by_cases q2 : j < q
        · rw [if_pos (by omega)]
          exact hs _ _ (by omega) (by omega) (by omega)
        · rw [if_neg (by omega)]
          exact hs _ _ (by omega) (by omega) (by omega)
end Sug
namespace Go.Proofs.Ytbijefgmleagnaa
open Go Go.Am Sug
set_option linter.unusedVariables false

theorem cmpC_ok (x y : Ent) (H : List Blk) (T : Toks) : ACall Try.prog 45 [.agg [.str x.1, .int .i64 x.2], .agg [.str y.1, .int .i64 y.2]] H T (Is (.int .i64 (cmpI y.2 x.2)) H T) := by
  refine ACall.drop' ?_ (by simp)
  have c := fun H T => compI_ok y.2 x.2 H T
  generalize cmpI y.2 x.2 = q at *
  refine acall_enter 5 [] Try.ntmps45 Try.func45 rfl (fun _ _ => Try.call45 _ _) (by simp) (fun HO => ?_)
  refine aw_reg fun K hK => ?_; simp (maxSteps := 1000000) (disch := omega) [-List.getD_eq_getElem?_getD]; refine hK _ ?_; clear hK K
  refine aw_reg fun K hK => ?_; simp (maxSteps := 1000000) (disch := omega) [-List.getD_eq_getElem?_getD]
  refine acall_is (c _ _) ?_; simp (maxSteps := 1000000) (disch := omega) [-List.getD_eq_getElem?_getD]
  refine hK _ ?_; clear hK K
  refine aw_ret ?_; simp (maxSteps := 1000000) (disch := omega) [-List.getD_eq_getElem?_getD]

def cv : AV := .fn 45 [] []

set_option maxRecDepth 100000 in
set_option maxHeartbeats 4000000 in
theorem insert_ok (d : List Ent) (rest : List AV) (a b i : Nat) (hab : a ≤ b) (hbl : b ≤ d.length) (hl : d.length ≤ 1000) (hw : Wg d a b) (H : List Blk) (T : Toks) (hi : H[i]? = some (.cells (entAV d ++ rest))) (hr : BelowAll H.length T.length rest) :
    ACall Try.prog 67 [.msl i 0 d.length, .int .i64 (a : Nat), .int .i64 (b : Nat), .fn 45 [] []] H T (TurnQ i rest H T (fun d' => Seg d d' a b ∧ Sg d' a b)) := by
  have hil := (List.getElem?_eq_some_iff.1 hi).1
  have hset0 := set_id hi
  refine acall_enter 10 [] Try.ntmps67 Try.func67 rfl (fun _ _ => Try.call67 _ _) (by simp) (fun HO => ?_)
  refine aw_reg fun K hK => ?_; simp (maxSteps := 1000000) (disch := omega) [-List.getD_eq_getElem?_getD]; refine hK _ ?_; clear hK K
  refine aw_block ?_
  have HO' : ∀ d2, HOk (H.set i (.cells (entAV d2 ++ rest))) T := fun k => HO.set (by simp [hr])
  refine aw_loop (X := List Ent × Nat) (fun x => ⟨[(0, .msl i 0 d.length), (1, .int .i64 (a : Nat)), (2, .int .i64 (b : Nat)), (3, .fn 45 [] []), (8, .int .i64 ((x.2 : Int) + 1))], H.set i (.cells (entAV x.1 ++ rest)), T⟩)
    (fun x => a ≤ x.2 ∧ (x.2 + 1 ≤ b ∨ (x.1 = d ∧ b = a)) ∧ Seg d x.1 a (x.2 + 1) ∧ Sg x.1 a (x.2 + 1)) (fun x => b - x.2) (d, a) ?_ ?_ ?_
  · exact ⟨Nat.le_refl _, (Nat.eq_or_lt_of_le hab).elim (fun h => .inr ⟨rfl, h.symm⟩) .inl, Seg.refl _ _ _, fun i j h1 h2 h3 => by simp only at h3; omega⟩
  · refine weak_to [] [] ?_ ?_ ?_ ?_ (HO' d) ?_
    all_goals simp [hset0, hil]
  · rintro ⟨d1, k⟩ ⟨h1, h2, h3, h4⟩
    simp only at h1 h2 h3 h4
    have hl1 := h3.len
    refine aw_then fun K2 hK2 => ?_
    by_cases hk : k + 1 < b
    · have bk : decide (((k : Int) + 1) < b) = true := decide_eq_true (by omega)
      have bk' : ((k : Int) + 1) < b := by omega
      refine aw_reg fun K hK => ?_; simp (maxSteps := 1000000) (disch := omega) [-List.getD_eq_getElem?_getD, bk, bk']; refine hK _ ?_; clear hK K
      refine aw_if rfl (fun h => ?_) (fun h => absurd h (by simp))
      refine aw_skip ?_; simp (maxSteps := 1000000) (disch := omega) [-List.getD_eq_getElem?_getD]
      refine hK2 _ ?_; clear hK2
      refine aw_then fun K3 hK3 => ?_
      refine aw_block ?_
      refine aw_reg fun K hK => ?_; simp (maxSteps := 1000000) (disch := omega) [-List.getD_eq_getElem?_getD]; refine hK _ ?_; clear hK K
      refine aw_block ?_
      have hwx : ∀ t, a ≤ t → t < k + 1 → slt (d1.getD t ze).1 (d1.getD (k + 1) ze).1 = true := fun t g1 g2 => by
        obtain ⟨u, u1, u2, u3⟩ := h3.frm t g1 g2
        rw [u3, h3.out (k + 1) (by omega)]
        exact hw u (k + 1) u1 (by omega) hk
      refine aw_loop (X := List Ent × Nat) (fun x => ⟨[(0, .msl i 0 d.length), (1, .int .i64 (a : Nat)), (2, .int .i64 (b : Nat)), (3, .fn 45 [] []), (8, .int .i64 ((k : Int) + 1)), (9, .int .i64 (x.2 : Nat))], H.set i (.cells (entAV x.1 ++ rest)), T⟩)
        (fun x => a ≤ x.2 ∧ x.2 ≤ k + 1 ∧ Mov d1 x.1 x.2 (k + 1) ∧ x.1.Perm d1 ∧ ∀ t, x.2 ≤ t → t < k + 1 → (d1.getD t ze).2 < (d1.getD (k + 1) ze).2) (fun x => x.2) (d1, k + 1) ?_ ?_ ?_
      · exact ⟨by simp only; omega, Nat.le_refl _, Mov.zero _ _, .refl _, fun t g1 g2 => by simp only at g1; omega⟩
      · refine weak_to [] [] ?_ ?_ ?_ ?_ (HO' d1) ?_
        all_goals simp [hil]
      · rintro ⟨d2, j⟩ ⟨g1, g2, g3, g4, g5⟩
        simp only at g1 g2 g3 g4 g5
        have hl2 := g4.length_eq
        have go : (∀ t, a ≤ t → t < j → (d1.getD (k + 1) ze).2 ≤ (d1.getD t ze).2) → ∀ e, envLe H.length T.length e [(0, .msl i 0 d.length), (1, .int .i64 (a : Nat)), (2, .int .i64 (b : Nat)), (3, .fn 45 [] []), (8, .int .i64 ((k : Int) + 1))] → K3 ⟨e, H.set i (.cells (entAV d2 ++ rest)), T⟩ := by
          intro hlo e he
          refine hK3 _ (aw_weak ⟨[(0, .msl i 0 d.length), (1, .int .i64 (a : Nat)), (2, .int .i64 (b : Nat)), (3, .fn 45 [] []), (8, .int .i64 ((k : Int) + 1))], H.set i (.cells (entAV d2 ++ rest)), T⟩ (weak_to [] [] (by simp) (by simp) (by simp) (by simp) (HO' d2) (by simpa using he)) ?_)
          refine aw_reg0 fun K hK => ?_; simp (maxSteps := 1000000) (disch := omega) [-List.getD_eq_getElem?_getD]
          refine hK _ ?_; clear hK K
          refine ⟨(d2, k + 1), ⟨by simp only; omega, .inl (by simp only; omega), (h3.wide (Nat.le_refl _) (by omega)).trans ((g3.seg g2 g4).wide g1 (Nat.le_refl _)), g3.sorted g1 g2 h4 hwx hlo g5⟩, by show b - (k + 1) < b - k; omega, ?_⟩
          refine weak_to [] [] ?_ ?_ ?_ ?_ (HO' d2) ?_
          all_goals simp [hil]
        refine aw_then fun K4 hK4 => ?_
        by_cases hj : a < j
        · have bj : decide ((a : Int) < j) = true := decide_eq_true (by omega)
          have hc1 := ent_cut (d := d2) (k := j) rest (by omega)
          have hc2 := ent_cut (d := d2) (k := j - 1) rest (by omega)
          have ej : ((j : Int) - 1) = ((j - 1 : Nat) : Int) := by omega
          have hx : d2.getD j ze = d1.getD (k + 1) ze := by rw [g3 j, if_pos rfl]
          have hy : d2.getD (j - 1) ze = d1.getD (j - 1) ze := by rw [g3 (j - 1), if_neg (by omega), if_neg (by omega)]
          have c := cmpC_ok (d2.getD j ze) (d2.getD (j - 1) ze) (H.set i (.cells (entAV d2 ++ rest))) T
          have hneg := cmpI_neg (d2.getD (j - 1) ze).2 (d2.getD j ze).2
          generalize cmpI (d2.getD (j - 1) ze).2 (d2.getD j ze).2 = q at *
          rw [hx, hy] at hneg
          by_cases hq : q < 0
          · have bq : decide (q < 0) = true := decide_eq_true hq
            have hsw := ent_swp d2 j (j - 1) rest (by omega) (by omega)
            refine aw_draw [] [] [] drawMixed (by kernel_rfl) (by kernel_rfl) fun K hK => ?_; simp (maxSteps := 1000000) (disch := omega) [-List.getD_eq_getElem?_getD, bj, hj, ej, hc1, hc2, entAV_len, hl2, hil]
            refine dcall_is (c) rfl ?_; simp (maxSteps := 1000000) (disch := omega) [-List.getD_eq_getElem?_getD, bq, hq]
            refine hK _ ?_; clear hK K
            refine aw_if rfl (fun h => ?_) (fun h => absurd h (by simp))
            refine aw_skip ?_; simp (maxSteps := 1000000) (disch := omega) [-List.getD_eq_getElem?_getD]
            refine hK4 _ ?_; clear hK4
            refine aw_then fun K5 hK5 => ?_
            refine aw_block ?_
            refine aw_draw0 [15, 17] [0, 0, 0, 0, 0, 0, 0, 0, 0, 0, 0, 0, 0, 0, 0, 0, 1, 1] [[2, 3, 4], []] drawMixed (by kernel_rfl) (by kernel_rfl) fun K hK => ?_; simp (maxSteps := 1000000) (disch := omega) [-List.getD_eq_getElem?_getD, ej, hc1, hc2, entAV_len, hl2, hil]
            rw [hsw]
            refine hK _ ?_; clear hK K
            refine hK5 _ ?_; clear hK5
            refine aw_reg0 fun K hK => ?_; simp (maxSteps := 1000000) (disch := omega) [-List.getD_eq_getElem?_getD, ej]
            refine hK _ ?_; clear hK K
            refine ⟨(swp d2 j (j - 1), j - 1), ⟨by simp only; omega, by simp only; omega, g3.step (by omega) g2 (by omega), (swp_perm (by omega) (by omega)).trans g4, fun t t1 t2 => ?_⟩, by show j - 1 < j; omega, ?_⟩
            · simp only at t1
              rcases Nat.lt_or_ge t j with e | e
              · have : t = j - 1 := by omega
                subst this; exact hneg.1 hq
              · exact g5 t e t2
            · refine weak_to [] [] ?_ ?_ ?_ ?_ (HO' _) ?_
              all_goals simp [hil]
          · have bq : decide (q < 0) = false := decide_eq_false hq
            refine aw_draw [] [] [] drawMixed (by kernel_rfl) (by kernel_rfl) fun K hK => ?_; simp (maxSteps := 1000000) (disch := omega) [-List.getD_eq_getElem?_getD, bj, hj, ej, hc1, hc2, entAV_len, hl2, hil]
            refine dcall_is (c) rfl ?_; simp (maxSteps := 1000000) (disch := omega) [-List.getD_eq_getElem?_getD, bq, hq]
            refine hK _ ?_; clear hK K
            refine aw_if rfl (fun h => absurd h (by simp)) (fun h => ?_)
            refine aw_exit ?_; simp (maxSteps := 1000000) (disch := omega) [-List.getD_eq_getElem?_getD]
            refine go (fun t t1 t2 => ?_) _ ?_
            · have e1 : (d1.getD (k + 1) ze).2 ≤ (d1.getD (j - 1) ze).2 := by
                rcases Int.lt_or_le (d1.getD (j - 1) ze).2 (d1.getD (k + 1) ze).2 with e | e
                · exact absurd (hneg.2 e) hq
                · exact e
              rcases Nat.lt_or_ge t (j - 1) with e2 | e2
              · have := fb_ge (h4 t (j - 1) t1 e2 (by omega))
                omega
              · have : t = j - 1 := by omega
                subst this; exact e1
            · simp [hil]
        · have bj : decide ((a : Int) < j) = false := decide_eq_false (by omega)
          refine aw_draw [] [] [] drawMixed (by kernel_rfl) (by kernel_rfl) fun K hK => ?_; simp (maxSteps := 1000000) (disch := omega) [-List.getD_eq_getElem?_getD, bj, hj]
          refine hK _ ?_; clear hK K
          refine aw_if rfl (fun h => absurd h (by simp)) (fun h => ?_)
          refine aw_exit ?_; simp (maxSteps := 1000000) (disch := omega) [-List.getD_eq_getElem?_getD]
          refine go (fun t t1 t2 => by omega) _ ?_
          simp [hil]
    · have bk : decide (((k : Int) + 1) < b) = false := decide_eq_false (by omega)
      have bk' : ¬ ((k : Int) + 1) < b := by omega
      refine aw_reg fun K hK => ?_; simp (maxSteps := 1000000) (disch := omega) [-List.getD_eq_getElem?_getD, bk, bk']; refine hK _ ?_; clear hK K
      refine aw_if rfl (fun h => absurd h (by simp)) (fun h => ?_)
      refine aw_exit ?_; simp (maxSteps := 1000000) (disch := omega) [-List.getD_eq_getElem?_getD]
      refine ⟨rfl, rfl, d1, rfl, ?_⟩
      rcases h2 with h2 | ⟨h2, h5⟩
      · have : k + 1 = b := by omega
        rw [← this]; exact ⟨h3, h4⟩
      · subst h2; subst h5
        exact ⟨Seg.refl _ _ _, fun p q q1 q2 q3 => by omega⟩
end Go.Proofs.Ytbijefgmleagnaa
