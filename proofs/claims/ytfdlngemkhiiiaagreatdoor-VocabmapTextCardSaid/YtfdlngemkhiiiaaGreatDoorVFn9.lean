/- The program's number, Index of texts, Clone as a list that is appended to, read (layer 26).
   Conditions: lengths; the library's variables hold values of their types. -/
import Derived.Test.YtfdlngemkhiiiaaGreatDoorVTxt
import Derived.Test.YtfdlngemkhiiiaaGreatDoorLStd
import Derived.Test.YtfdlngemkhiiiaaGreatDoorVFn8
namespace Voc
open Go.Lib Lst
/-- The number that a text spells in its one form, else 0. -/
def numF (s : List UInt8) : Int := match atoiAll s with
  | .ok v => if 0 ≤ v ∧ decDigits v.toNat = s then v else 0
  | _ => 0
theorem numF_dec {u : Nat} (hu : u ≤ 9223372036854775807) : numF (decDigits u) = u := by
  unfold numF
  rw [atoi_dec hu]
  simp
/-- The place of a text among texts. -/
def idxS (l : List (List UInt8)) (t : List UInt8) : Int := if l.idxOf t < l.length then (l.idxOf t : Nat) else -1
theorem idxS_hit {l : List (List UInt8)} {t : List UInt8} : ∀ {i : Nat}, i < l.length → (∀ j, j < i → l.getD j [] ≠ t) → l.getD i [] = t → idxS l t = (i : Nat) := by
  have key : ∀ (l : List (List UInt8)) (i : Nat), i < l.length → (∀ j, j < i → l.getD j [] ≠ t) → l.getD i [] = t → l.idxOf t = i := by
    intro l
    induction l with
    | nil => intro i h; simp at h
    | cons a r ih =>
      intro i h1 h2 h3
      cases i with
      | zero =>
        have : a = t := h3
        subst this
        simp
      | succ i =>
        have h0 : a ≠ t := h2 0 (by omega)
        have := ih i (by simpa using h1) (fun j hj => h2 (j + 1) (by omega)) h3
        rw [List.idxOf_cons, beq_eq_false_iff_ne.2 h0, this]
        rfl
  intro i h1 h2 h3
  unfold idxS
  rw [key l i h1 h2 h3, if_pos h1]
theorem idxS_miss {l : List (List UInt8)} {t : List UInt8} (h : ∀ j, j < l.length → l.getD j [] ≠ t) : idxS l t = -1 := by
  unfold idxS
  rw [if_neg]
  intro hlt
  have := h _ hlt
  apply this
  rw [List.getD_eq_getElem?_getD, List.getElem?_eq_getElem hlt]
  simp
theorem symK_idx {k : Int} (hk : 1 ≤ k ∧ k ≤ 3) : 1 + idxS [[61], [60], [62]] [symK k] = k := by
  have : k = 1 ∨ k = 2 ∨ k = 3 := by omega
  rcases this with rfl | rfl | rfl <;> decide
theorem idxS_le (l : List (List UInt8)) (t : List UInt8) : -1 ≤ idxS l t ∧ idxS l t ≤ l.length := by
  unfold idxS
  split <;> omega
theorem numF_le (s : List UInt8) (hs : ∀ v, atoiAll s = .ok v → v ≤ 9223372036854775807) : 0 ≤ numF s ∧ numF s ≤ 9223372036854775807 := by
  unfold numF
  split
  · rename_i v h
    have := hs v h
    split <;> omega
  · omega
theorem rd_no {s : List UInt8} (h : (splitL 32 s).length ≠ 3) : rdF s = none :=
  rdF_none.2 fun x _ e => h (by rw [← e, lineM_split]; rfl)
theorem rd_key {s w0 w1 w2 : List UInt8} (h : splitL 32 s = [w0, w1, w2]) : (∀ y, rdF s = some y → (numF w0, numF w2, 1 + idxS [[61], [60], [62]] w1) = y) ∧
    (rdF s).isSome = (goodM (numF w0, numF w2, 1 + idxS [[61], [60], [62]] w1) && (lineM (numF w0, numF w2, 1 + idxS [[61], [60], [62]] w1) == s)) := by
  have key : ∀ y, rdF s = some y → (numF w0, numF w2, 1 + idxS [[61], [60], [62]] w1) = y := by
    intro y hy
    obtain ⟨hg, hl⟩ := rdF_some.1 hy
    have g := goodM_iff.1 hg
    rw [← hl, lineM_split] at h
    injection h with a1 h
    injection h with a2 h
    injection h with a3 h
    subst a1
    subst a2
    subst a3
    rw [numF_dec (by omega), numF_dec (by omega), symK_idx (by omega)]
    obtain ⟨y1, y2, y3⟩ := y
    simp only at *
    rw [Int.toNat_of_nonneg (by omega), Int.toNat_of_nonneg (by omega)]
  refine ⟨key, ?_⟩
  cases hr : rdF s with
  | some y =>
    have e := key y hr
    obtain ⟨hg, hl⟩ := rdF_some.1 hr
    rw [e, hg, hl]
    simp
  | none =>
    have h1 := rdF_none.1 hr (numF w0, numF w2, 1 + idxS [[61], [60], [62]] w1)
    cases hg : goodM (numF w0, numF w2, 1 + idxS [[61], [60], [62]] w1) with
    | false => rfl
    | true => rw [beq_eq_false_iff_ne.2 (h1 hg)]; rfl
end Voc
namespace Go.Proofs.YtfdlngemkhiiiaaGreatDoor
open Go Go.Am Go.Shelf Voc Lst
/-- What is asked of the library's variables. -/
structure Lb (H : List Blk) : Prop where
  most : Gl H 0 isOne
  syn : Gl H 1 isErr
  rng : Gl H 2 isErr
  pow : Gl H 3 isPow
theorem Lb.app {H : List Blk} (h : Lb H) (G : List Blk) : Lb (H ++ G) := ⟨h.most.app G, h.syn.app G, h.rng.app G, h.pow.app G⟩
set_option linter.unusedVariables false

set_option maxRecDepth 100000 in
set_option maxHeartbeats 4000000 in
theorem number_ok (s : List UInt8) (hs : s.length ≤ 1000000) (H : List Blk) (T : Toks) (h1 : Gl H 1 isErr) (h2 : Gl H 2 isErr) (hp : Gl H 3 isPow) :
    ACall Tryz.prog 30 [.str s] H T (Is (.int .i64 (numF s)) H T) := by
  have c0 := atoi_ok s (by omega) H T h1 h2
  unfold atoiR at c0
  unfold numF
  cases h : Lib.atoiAll s with
  | «syntax» =>
    rw [h] at c0
    simp only at c0
    refine acall_enter 5 [] Tryz.ntmps30 Tryz.func30 rfl (fun _ _ => Tryz.call30 _ _) (by simp) (fun HO => ?_)
    refine aw_reg fun K hK => ?_; simp (maxSteps := 1000000) (disch := omega) [-List.getD_eq_getElem?_getD]; refine hK _ ?_; clear hK K
    refine aw_reg fun K hK => ?_; simp (maxSteps := 1000000) (disch := omega) [-List.getD_eq_getElem?_getD]
    refine acall_is (c0) ?_; simp (maxSteps := 1000000) (disch := omega) [-List.getD_eq_getElem?_getD]
    refine hK _ ?_; clear hK K
    refine aw_then fun K1 hK1 => ?_
    refine aw_reg fun K hK => ?_; simp (maxSteps := 1000000) (disch := omega) [-List.getD_eq_getElem?_getD]; refine hK _ ?_; clear hK K
    refine aw_if rfl (fun h => ?_) (fun h => absurd h (by simp))
    refine aw_reg fun K hK => ?_; simp (maxSteps := 1000000) (disch := omega) [-List.getD_eq_getElem?_getD]; refine hK _ ?_; clear hK K
    refine aw_ret ?_; simp (maxSteps := 1000000) (disch := omega) [-List.getD_eq_getElem?_getD]
    exact ⟨rfl, rfl, rfl⟩
  | range =>
    rw [h] at c0
    simp only at c0
    refine acall_enter 5 [] Tryz.ntmps30 Tryz.func30 rfl (fun _ _ => Tryz.call30 _ _) (by simp) (fun HO => ?_)
    refine aw_reg fun K hK => ?_; simp (maxSteps := 1000000) (disch := omega) [-List.getD_eq_getElem?_getD]; refine hK _ ?_; clear hK K
    refine aw_reg fun K hK => ?_; simp (maxSteps := 1000000) (disch := omega) [-List.getD_eq_getElem?_getD]
    refine acall_is (c0) ?_; simp (maxSteps := 1000000) (disch := omega) [-List.getD_eq_getElem?_getD]
    refine hK _ ?_; clear hK K
    refine aw_then fun K1 hK1 => ?_
    refine aw_reg fun K hK => ?_; simp (maxSteps := 1000000) (disch := omega) [-List.getD_eq_getElem?_getD]; refine hK _ ?_; clear hK K
    refine aw_if rfl (fun h => ?_) (fun h => absurd h (by simp))
    refine aw_reg fun K hK => ?_; simp (maxSteps := 1000000) (disch := omega) [-List.getD_eq_getElem?_getD]; refine hK _ ?_; clear hK K
    refine aw_ret ?_; simp (maxSteps := 1000000) (disch := omega) [-List.getD_eq_getElem?_getD]
    exact ⟨rfl, rfl, rfl⟩
  | ok v =>
    rw [h] at c0
    simp only at c0
    dsimp only
    obtain ⟨b0, b1⟩ := Lib.atoiAll_bounds h
    by_cases hv : v < 0
    · have bv : decide (v < 0) = true := decide_eq_true hv
      rw [if_neg (by omega)]
      refine acall_enter 5 [] Tryz.ntmps30 Tryz.func30 rfl (fun _ _ => Tryz.call30 _ _) (by simp) (fun HO => ?_)
      refine aw_reg fun K hK => ?_; simp (maxSteps := 1000000) (disch := omega) [-List.getD_eq_getElem?_getD]; refine hK _ ?_; clear hK K
      refine aw_reg fun K hK => ?_; simp (maxSteps := 1000000) (disch := omega) [-List.getD_eq_getElem?_getD]
      refine acall_is (c0) ?_; simp (maxSteps := 1000000) (disch := omega) [-List.getD_eq_getElem?_getD]
      refine hK _ ?_; clear hK K
      refine aw_then fun K1 hK1 => ?_
      refine aw_reg fun K hK => ?_; simp (maxSteps := 1000000) (disch := omega) [-List.getD_eq_getElem?_getD, bv, hv]; refine hK _ ?_; clear hK K
      refine aw_if rfl (fun h => ?_) (fun h => absurd h (by simp))
      refine aw_reg fun K hK => ?_; simp (maxSteps := 1000000) (disch := omega) [-List.getD_eq_getElem?_getD]; refine hK _ ?_; clear hK K
      refine aw_ret ?_; simp (maxSteps := 1000000) (disch := omega) [-List.getD_eq_getElem?_getD]
      exact ⟨rfl, rfl, rfl⟩
    · have bv : decide (v < 0) = false := decide_eq_false hv
      have c1 := itoa_ok v (by omega) (by omega) H T hp
      rw [show Lib.itoa v = Lib.decDigits v.toNat from by unfold Lib.itoa; rw [if_neg (by omega)]] at c1
      generalize Lib.decDigits v.toNat = q at *
      by_cases hq : q = s
      · subst hq
        rw [if_pos ⟨by omega, rfl⟩]
        refine acall_enter 5 [] Tryz.ntmps30 Tryz.func30 rfl (fun _ _ => Tryz.call30 _ _) (by simp) (fun HO => ?_)
        refine aw_reg fun K hK => ?_; simp (maxSteps := 1000000) (disch := omega) [-List.getD_eq_getElem?_getD]; refine hK _ ?_; clear hK K
        refine aw_reg fun K hK => ?_; simp (maxSteps := 1000000) (disch := omega) [-List.getD_eq_getElem?_getD]
        refine acall_is (c0) ?_; simp (maxSteps := 1000000) (disch := omega) [-List.getD_eq_getElem?_getD]
        refine hK _ ?_; clear hK K
        refine aw_then fun K1 hK1 => ?_
        refine aw_reg fun K hK => ?_; simp (maxSteps := 1000000) (disch := omega) [-List.getD_eq_getElem?_getD, bv, hv]
        refine acall_is (c1) ?_; simp (maxSteps := 1000000) (disch := omega) [-List.getD_eq_getElem?_getD]
        refine hK _ ?_; clear hK K
        refine aw_if rfl (fun h => absurd h (by simp)) (fun h => ?_)
        refine aw_skip ?_; simp (maxSteps := 1000000) (disch := omega) [-List.getD_eq_getElem?_getD]
        refine hK1 _ ?_; clear hK1
        refine aw_reg fun K hK => ?_; simp (maxSteps := 1000000) (disch := omega) [-List.getD_eq_getElem?_getD]; refine hK _ ?_; clear hK K
        refine aw_ret ?_; simp (maxSteps := 1000000) (disch := omega) [-List.getD_eq_getElem?_getD]
        exact ⟨rfl, rfl, rfl⟩
      · rw [if_neg (by rintro ⟨_, e⟩; exact hq e)]
        have bq : (q == s) = false := beq_eq_false_iff_ne.2 hq
        have bq2 : (q != s) = true := bne_iff_ne.2 hq
        refine acall_enter 5 [] Tryz.ntmps30 Tryz.func30 rfl (fun _ _ => Tryz.call30 _ _) (by simp) (fun HO => ?_)
        refine aw_reg fun K hK => ?_; simp (maxSteps := 1000000) (disch := omega) [-List.getD_eq_getElem?_getD]; refine hK _ ?_; clear hK K
        refine aw_reg fun K hK => ?_; simp (maxSteps := 1000000) (disch := omega) [-List.getD_eq_getElem?_getD]
        refine acall_is (c0) ?_; simp (maxSteps := 1000000) (disch := omega) [-List.getD_eq_getElem?_getD]
        refine hK _ ?_; clear hK K
        refine aw_then fun K1 hK1 => ?_
        refine aw_reg fun K hK => ?_; simp (maxSteps := 1000000) (disch := omega) [-List.getD_eq_getElem?_getD, bv, hv]
        refine acall_is (c1) ?_; simp (maxSteps := 1000000) (disch := omega) [-List.getD_eq_getElem?_getD, hq, bq, bq2]
        refine hK _ ?_; clear hK K
        refine aw_if rfl (fun h => ?_) (fun h => absurd h (by simp))
        refine aw_reg fun K hK => ?_; simp (maxSteps := 1000000) (disch := omega) [-List.getD_eq_getElem?_getD]; refine hK _ ?_; clear hK K
        refine aw_ret ?_; simp (maxSteps := 1000000) (disch := omega) [-List.getD_eq_getElem?_getD]
        exact ⟨rfl, rfl, rfl⟩

set_option maxRecDepth 100000 in
set_option maxHeartbeats 4000000 in
theorem index_ok (l : List (List UInt8)) (t : List UInt8) (hl : l.length ≤ 1000000) (H : List Blk) (T : Toks) (tg : Tag) :
    ACall Tryz.prog 31 [.sl l.length (strs l) tg, .str t] H T (Is (.int .i64 (idxS l t)) H T) := by
  refine ACall.untag1 ?_
  have hat : ∀ i (h : i < l.length), (strs l)[i]? = some (.str (l.getD i [])) := fun i h => by
    simp [strs, h]
  have hlen : (strs l).length = l.length := by simp [strs]
  have hb : ∀ n t, BelowAll n t (strs l) := fun n t => by simp
  generalize hL : strs l = L at *
  refine acall_enter 9 [] Tryz.ntmps31 Tryz.func31 rfl (fun _ _ => Tryz.call31 _ _) (by simp) (fun HO => ?_)
  refine aw_reg fun K hK => ?_; simp (maxSteps := 1000000) (disch := omega) [-List.getD_eq_getElem?_getD]; refine hK _ ?_; clear hK K
  refine aw_then fun K1 hK1 => ?_
  refine aw_reg fun K hK => ?_; simp (maxSteps := 1000000) (disch := omega) [-List.getD_eq_getElem?_getD]; refine hK _ ?_; clear hK K
  refine aw_block ?_
  refine aw_loop (X := Nat) (fun i => ⟨[(0, .sl l.length L .none), (1, .str t), (4, .int .i64 0), (7, .int .i64 (l.length : Nat)), (8, .int .i64 (i : Nat))], H, T⟩) (fun i => i ≤ l.length ∧ ∀ j, j < i → l.getD j [] ≠ t) (fun i => l.length - i) 0 ?_ ?_ ?_
  · exact ⟨Nat.zero_le _, fun j hj => absurd hj (Nat.not_lt_zero _)⟩
  · refine weak_to [] [] ?_ ?_ ?_ ?_ HO ?_
    all_goals simp [hb]
  · rintro i ⟨h1, h2⟩
    refine aw_reg fun K hK => ?_; simp (maxSteps := 1000000) (disch := omega) [-List.getD_eq_getElem?_getD]; refine hK _ ?_; clear hK K
    refine aw_then fun K2 hK2 => ?_
    refine aw_if rfl (fun hk => ?_) (fun hk => ?_)
    · simp [-List.getD_eq_getElem?_getD] at hk
      have ha := hat i hk
      have hi : i < L.length := by omega
      have ha2 : L.getD i .top = .str (l.getD i []) := by rw [List.getD_eq_getElem?_getD, ha]; rfl
      refine aw_skip ?_; simp (maxSteps := 1000000) (disch := omega) [-List.getD_eq_getElem?_getD]
      refine hK2 _ ?_; clear hK2
      refine aw_then fun K3 hK3 => ?_
      refine aw_block ?_
      refine aw_reg fun K hK => ?_; simp (maxSteps := 1000000) (disch := omega) [-List.getD_eq_getElem?_getD]; refine hK _ ?_; clear hK K
      by_cases he : l.getD i [] = t
      · have hx := idxS_hit hk h2 he
        rw [he] at ha2
        refine aw_reg fun K hK => ?_; simp (maxSteps := 1000000) (disch := omega) [-List.getD_eq_getElem?_getD, ha2, hi, hlen]; refine hK _ ?_; clear hK K
        refine aw_if rfl (fun h => ?_) (fun h => absurd h (by simp))
        refine aw_reg fun K hK => ?_; simp (maxSteps := 1000000) (disch := omega) [-List.getD_eq_getElem?_getD]; refine hK _ ?_; clear hK K
        refine aw_ret ?_; simp (maxSteps := 1000000) (disch := omega) [-List.getD_eq_getElem?_getD]
        rw [hx]
        exact ⟨rfl, rfl, rfl⟩
      · have he2 : ¬ t = l.getD i [] := fun e => he e.symm
        have h2' : ∀ j, j < i + 1 → l.getD j [] ≠ t := fun j hj => by
          by_cases e : j = i
          · subst e; exact he
          · exact h2 j (by omega)
        generalize l.getD i [] = x at *
        have b1 : (t == x) = false := beq_eq_false_iff_ne.2 he2
        refine aw_reg fun K hK => ?_; simp (maxSteps := 1000000) (disch := omega) [-List.getD_eq_getElem?_getD, ha2, hi, hlen, b1, he2]; refine hK _ ?_; clear hK K
        refine aw_if rfl (fun h => absurd h (by simp)) (fun h => ?_)
        refine aw_skip ?_; simp (maxSteps := 1000000) (disch := omega) [-List.getD_eq_getElem?_getD]
        refine hK3 _ ?_; clear hK3
        refine aw_reg0 fun K hK => ?_; simp (maxSteps := 1000000) (disch := omega) [-List.getD_eq_getElem?_getD]
        refine hK _ ?_; clear hK K
        refine ⟨i + 1, ⟨by show i + 1 ≤ _; omega, h2'⟩, by show l.length - (i + 1) < l.length - i; omega, ?_⟩
        refine weak_to [] [] ?_ ?_ ?_ ?_ HO ?_
        all_goals simp [hb]
    · simp [-List.getD_eq_getElem?_getD] at hk
      have e : i = l.length := by omega
      subst e
      have hx := idxS_miss h2
      refine aw_exit ?_; simp (maxSteps := 1000000) (disch := omega) [-List.getD_eq_getElem?_getD]
      refine hK1 _ ?_; clear hK1
      refine aw_reg fun K hK => ?_; simp (maxSteps := 1000000) (disch := omega) [-List.getD_eq_getElem?_getD]; refine hK _ ?_; clear hK K
      refine aw_ret ?_; simp (maxSteps := 1000000) (disch := omega) [-List.getD_eq_getElem?_getD]
      rw [hx]
      exact ⟨rfl, rfl, rfl⟩

set_option maxRecDepth 100000 in
set_option maxHeartbeats 4000000 in
theorem cloneT_ok (l : List Mp) (hl : l.length ≤ 1000000) (H : List Blk) (T : Toks) (tg : Tag) :
    ACall Tryz.prog 14 [.sl l.length (mpAV l) tg] H T (Is (.sl l.length (mpAV l) (.own T.length)) H (T ++ [(l.length * 3, 3)])) := by
  refine ACall.untag1 ?_
  have hml := mpAV_len l
  refine acall_enter 3 [] Tryz.ntmps14 Tryz.func14 rfl (fun _ _ => Tryz.call14 _ _) (by simp) (fun HO => ?_)
  refine aw_reg fun K hK => ?_; simp (maxSteps := 1000000) (disch := omega) [-List.getD_eq_getElem?_getD]; refine hK _ ?_; clear hK K
  refine aw_then fun K1 hK1 => ?_
  refine aw_reg fun K hK => ?_; simp (maxSteps := 1000000) (disch := omega) [-List.getD_eq_getElem?_getD]
  refine ⟨?_, fun he => ?_⟩
  · refine hK _ ?_; clear hK K
    refine aw_if rfl (fun h => absurd h (by simp)) (fun h => ?_)
    refine aw_skip ?_; simp (maxSteps := 1000000) (disch := omega) [-List.getD_eq_getElem?_getD]
    refine hK1 _ ?_; clear hK1
    refine aw_reg fun K hK => ?_; simp (maxSteps := 1000000) (disch := omega) [-List.getD_eq_getElem?_getD, hml, amade_zero]; refine hK _ ?_; clear hK K
    refine aw_ret ?_; simp (maxSteps := 1000000) (disch := omega) [-List.getD_eq_getElem?_getD]
    exact ⟨rfl, rfl, rfl⟩
  · subst he
    refine hK _ ?_; clear hK K
    refine aw_if rfl (fun h => ?_) (fun h => absurd h (by simp))
    refine aw_reg fun K hK => ?_; simp (maxSteps := 1000000) (disch := omega) [-List.getD_eq_getElem?_getD]; refine hK _ ?_; clear hK K
    refine aw_own 2 0 3 [] (by omega) (by simp) ?_
    refine aw_ret ?_; simp (maxSteps := 1000000) (disch := omega) [-List.getD_eq_getElem?_getD]
    exact ⟨rfl, rfl, rfl⟩
end Go.Proofs.YtfdlngemkhiiiaaGreatDoor
