/- The reference's word, run, value (layer 52): the walks; its reading of a text in plain Lean. The reference's reading of a text (layer 52) in plain Lean.
   Conditions: small parts, as each theorem says. -/
import Derived.Test.YtnmlpohhommagaaGreatDoorCG

/- The reference's word, run, value (layer 52): the walks; its reading of a text in plain Lean. -/
namespace Lst
open Go.Lib
theorem take_succ_getD {s : List UInt8} {i : Nat} (h : i < s.length) : s.take (i + 1) = s.take i ++ [s.getD i 0] := by
  rw [List.take_add_one, List.getElem?_eq_getElem h, List.getD_eq_getElem?_getD, List.getElem?_eq_getElem h]; rfl
theorem mem_take_getD {s : List UInt8} {i : Nat} {x : UInt8} (hi : i ≤ s.length) (h : x ∈ s.take i) : ∃ j, j < i ∧ s.getD j 0 = x := by
  obtain ⟨j, hj, e⟩ := List.getElem_of_mem h
  rw [List.length_take] at hj
  refine ⟨j, by omega, ?_⟩
  rw [List.getElem_take] at e
  rw [List.getD_eq_getElem?_getD, List.getElem?_eq_getElem (by omega)]
  exact e
theorem cutT_hit {c : UInt8} {s : List UInt8} {i : Nat} (h : i < s.length) (hn : ∀ j, j < i → s.getD j 0 ≠ c) (he : s.getD i 0 = c) : cutT c s = (s.take i, s.drop (i + 1), true) := by
  have hs : s = s.take i ++ c :: s.drop (i + 1) := by
    conv => lhs; rw [← List.take_append_drop i s, Cn.drop_getD h, he]
  have hno : c ∉ s.take i := fun hm => by
    obtain ⟨j, h1, h2⟩ := mem_take_getD (by omega) hm
    exact hn j h1 h2
  unfold cutT
  conv => lhs; rw [hs]
  rw [cutL_app _ hno]
theorem cutT_miss {c : UInt8} {s : List UInt8} (hn : ∀ j, j < s.length → s.getD j 0 ≠ c) : cutT c s = (s, [], false) := by
  have hno : c ∉ s := fun hm => by
    obtain ⟨j, h1, h2⟩ := mem_take_getD (i := s.length) (Nat.le_refl _) (by rw [List.take_length]; exact hm)
    exact hn j h1 h2
  unfold cutT
  rw [cutL_not hno]
/-- How far a property reaches. -/
theorem tw_len {p : UInt8 → Bool} {s : List UInt8} {i : Nat} (hi : i ≤ s.length) (h : ∀ j, j < i → p (s.getD j 0) = true) (he : i < s.length → p (s.getD i 0) = false) : s.takeWhile p = s.take i ∧ (s.takeWhile p).length = i := by
  have h1 : s.takeWhile p = s.take i := by
    induction s generalizing i with
    | nil => simp
    | cons a r ih =>
      cases i with
      | zero =>
        have := he (by simp)
        rw [List.takeWhile_cons, if_neg]
        · rfl
        · have e : (a :: r).getD 0 0 = a := rfl
          rw [e] at this
          rw [this]; simp
      | succ i =>
        have h0 : p a = true := h 0 (by omega)
        rw [List.takeWhile_cons, if_pos h0, List.take_succ_cons, ih (by simpa using hi) (fun j hj => h (j + 1) (by omega)) (fun hj => he (by simpa using hj))]
  exact ⟨h1, by rw [h1, List.length_take]; omega⟩
end Lst
namespace Cn
open Go.Lib Lst
theorem tw_all {p : UInt8 → Bool} (s : List UInt8) {x : UInt8} (h : x ∈ s.takeWhile p) : p x = true := by
  induction s with
  | nil => simp at h
  | cons a r ih =>
    rw [List.takeWhile_cons] at h
    split at h
    · rename_i ha
      rcases List.mem_cons.1 h with rfl | h
      · exact ha
      · exact ih h
    · simp at h
/-- The length of the digits at the beginning. -/
def runF (s : List UInt8) : Nat := (s.takeWhile isD).length
theorem runF_le (s : List UInt8) : runF s ≤ s.length := (List.takeWhile_prefix isD).length_le
theorem runF_digits (s : List UInt8) : ∀ x ∈ s.take (runF s), isD x = true := by
  intro x hx
  unfold runF at hx
  rw [show s.take (s.takeWhile isD).length = s.takeWhile isD from (List.prefix_iff_eq_take.1 (List.takeWhile_prefix isD)).symm] at hx
  exact tw_all s hx
theorem numV_take {s : List UInt8} {i : Nat} (h : i < s.length) : numV (s.take (i + 1)) = 10 * numV (s.take i) + ((s.getD i 0).toNat - 48) := by
  rw [take_succ_getD h, numV_snoc]
theorem numV_small {s : List UInt8} (h : ∀ x ∈ s, isD x = true) (hl : s.length ≤ 9) : numV s < 1000000000 := by
  have h1 := numV_lt s (fun c hc => (isD_iff.1 (h c hc)).2)
  have h2 : 10 ^ s.length ≤ 10 ^ 9 := Nat.pow_le_pow_right (by omega) hl
  omega
end Cn
namespace Go.Proofs.YtnmlpohhommagaaGreatDoor
open Go Go.Am Cn Lst
open Go.Lib (numV)
set_option linter.unusedVariables false

set_option maxRecDepth 100000 in
set_option maxHeartbeats 4000000 in
theorem wordR_ok (s : List UInt8) (hb : s.length ≤ 100000000) (H : List Blk) (T : Toks) :
    ACall Tryz.prog 56 [.str s] H T (Is (.tup [.str (Lst.cutT 32 s).1, .str (Lst.cutT 32 s).2.1]) H T) := by
  have hh := fun i (h : i < s.length) => cutT_hit (c := 32) (s := s) (i := i) h
  have hm := cutT_miss (c := 32) (s := s)
  generalize Lst.cutT 32 s = U at *
  refine acall_enter 5 [] Tryz.ntmps56 Tryz.func56 rfl (fun _ _ => Tryz.call56 _ _) (by simp) (fun HO => ?_)
  refine aw_reg fun K hK => ?_; simp (maxSteps := 1000000) (disch := omega) [-List.getD_eq_getElem?_getD]; refine hK _ ?_; clear hK K
  refine aw_then fun K1 hK1 => ?_
  refine aw_reg fun K hK => ?_; simp (maxSteps := 1000000) (disch := omega) [-List.getD_eq_getElem?_getD]; refine hK _ ?_; clear hK K
  refine aw_block ?_
  refine aw_loop (X := Nat) (fun i => ⟨[(0, .str s), (4, .int .i64 (i : Nat))], H, T⟩) (fun i => i ≤ s.length ∧ ∀ j, j < i → s.getD j 0 ≠ 32) (fun i => s.length - i) 0 ?_ ?_ ?_
  · exact ⟨Nat.zero_le _, fun j hj => absurd hj (Nat.not_lt_zero _)⟩
  · refine weak_to [] [] ?_ ?_ ?_ ?_ HO ?_
    all_goals simp
  · rintro i ⟨h1, h2⟩
    refine aw_then fun K2 hK2 => ?_
    refine aw_reg fun K hK => ?_; simp (maxSteps := 1000000) (disch := omega) [-List.getD_eq_getElem?_getD]; refine hK _ ?_; clear hK K
    refine aw_if rfl (fun hk => ?_) (fun hk => ?_)
    · simp [-List.getD_eq_getElem?_getD] at hk
      have hh := hh i hk h2
      refine aw_skip ?_; simp (maxSteps := 1000000) (disch := omega) [-List.getD_eq_getElem?_getD]
      refine hK2 _ ?_; clear hK2
      refine aw_then fun K3 hK3 => ?_
      refine aw_block ?_
      by_cases hx : s.getD i 0 = 32
      · have hh := hh hx
        subst hh
        have hx1 : (((s.getD i 0).toNat : Nat) : Int) = 32 := by rw [hx]; rfl
        have n2 : i ≤ s.length := by omega
        have n3 : i + 1 ≤ s.length := by omega
        have l2 : (s.drop (i + 1)).take (s.length - (i + 1)) = s.drop (i + 1) := List.take_of_length_le (by simp)
        refine aw_reg fun K hK => ?_; simp (maxSteps := 1000000) (disch := omega) [-List.getD_eq_getElem?_getD, hx1, hk]; refine hK _ ?_; clear hK K
        refine aw_if rfl (fun h => ?_) (fun h => absurd h (by simp))
        refine aw_draw [] [] [] drawMixed (by kernel_rfl) (by kernel_rfl) fun K hK => ?_; simp (maxSteps := 1000000) (disch := omega) [-List.getD_eq_getElem?_getD, n2, n3, l2]
        refine hK _ ?_; clear hK K
        refine aw_ret ?_; simp (maxSteps := 1000000) (disch := omega) [-List.getD_eq_getElem?_getD]
        exact ⟨rfl, rfl, rfl⟩
      · have hx1 : (((s.getD i 0).toNat : Nat) : Int) ≠ 32 := by
          intro e
          apply hx
          apply UInt8.toNat_inj.1
          show _ = 32
          omega
        have b2 : (s.getD i 0).toNat ≠ 32 := by omega
        have h2' : ∀ j, j < i + 1 → s.getD j 0 ≠ 32 := fun j hj => by
          by_cases e : j = i
          · subst e; exact hx
          · exact h2 j (by omega)
        generalize hz : s.getD i 0 = z at *
        have b1 : (((z.toNat : Nat) : Int) == 32) = false := beq_eq_false_iff_ne.2 hx1
        refine aw_reg fun K hK => ?_; simp (maxSteps := 1000000) (disch := omega) [-List.getD_eq_getElem?_getD, b1, hk, hz]; refine hK _ ?_; clear hK K
        refine aw_if rfl (fun h => absurd h (by simp [b2])) (fun h => ?_)
        refine aw_skip ?_; simp (maxSteps := 1000000) (disch := omega) [-List.getD_eq_getElem?_getD]
        refine hK3 _ ?_; clear hK3
        refine aw_reg0 fun K hK => ?_; simp (maxSteps := 1000000) (disch := omega) [-List.getD_eq_getElem?_getD]
        refine hK _ ?_; clear hK K
        refine ⟨i + 1, ⟨by show i + 1 ≤ _; omega, h2'⟩, by show s.length - (i + 1) < s.length - i; omega, ?_⟩
        refine weak_to [] [] ?_ ?_ ?_ ?_ HO ?_
        all_goals simp
    · simp [-List.getD_eq_getElem?_getD] at hk
      have e : i = s.length := by omega
      subst e
      have hm := hm h2
      subst hm
      refine aw_exit ?_; simp (maxSteps := 1000000) (disch := omega) [-List.getD_eq_getElem?_getD]
      refine hK1 _ ?_; clear hK1
      refine aw_reg fun K hK => ?_; simp (maxSteps := 1000000) (disch := omega) [-List.getD_eq_getElem?_getD]; refine hK _ ?_; clear hK K
      refine aw_ret ?_; simp (maxSteps := 1000000) (disch := omega) [-List.getD_eq_getElem?_getD]
      exact ⟨rfl, rfl, rfl⟩

set_option maxRecDepth 100000 in
set_option maxHeartbeats 4000000 in
theorem runR_ok (s : List UInt8) (hb : s.length ≤ 100000000) (H : List Blk) (T : Toks) :
    ACall Tryz.prog 57 [.str s] H T (Is (.int .i64 (runF s : Nat)) H T) := by
  have hw := fun (i : Nat) h1 h2 h3 => (tw_len (p := isD) (s := s) (i := i) h1 h2 h3).2
  rw [show (s.takeWhile isD).length = runF s from rfl] at hw
  have cd := fun i => digR_ok (s.getD i 0) H T
  generalize runF s = n at *
  refine acall_enter 4 [] Tryz.ntmps57 Tryz.func57 rfl (fun _ _ => Tryz.call57 _ _) (by simp) (fun HO => ?_)
  refine aw_reg fun K hK => ?_; simp (maxSteps := 1000000) (disch := omega) [-List.getD_eq_getElem?_getD]; refine hK _ ?_; clear hK K
  refine aw_reg fun K hK => ?_; simp (maxSteps := 1000000) (disch := omega) [-List.getD_eq_getElem?_getD]; refine hK _ ?_; clear hK K
  refine aw_then fun K1 hK1 => ?_
  refine aw_block ?_
  refine aw_loop (X := Nat) (fun i => ⟨[(0, .str s), (3, .int .i64 (i : Nat))], H, T⟩) (fun i => i ≤ s.length ∧ ∀ j, j < i → isD (s.getD j 0) = true) (fun i => s.length - i) 0 ?_ ?_ ?_
  · exact ⟨Nat.zero_le _, fun j hj => absurd hj (Nat.not_lt_zero _)⟩
  · refine weak_to [] [] ?_ ?_ ?_ ?_ HO ?_
    all_goals simp
  · rintro i ⟨h1, h2⟩
    have hw := hw i h1 h2
    refine aw_then fun K2 hK2 => ?_
    by_cases hk : i < s.length
    · have bk : decide ((i : Int) < (s.length : Nat)) = true := decide_eq_true (by omega)
      have cd := cd i
      cases hd : isD (s.getD i 0) with
      | true =>
        rw [hd] at cd
        have h2' : ∀ j, j < i + 1 → isD (s.getD j 0) = true := fun j hj => by
          by_cases e : j = i
          · subst e; exact hd
          · exact h2 j (by omega)
        generalize hz : s.getD i 0 = z at *
        refine aw_reg fun K hK => ?_; simp (maxSteps := 1000000) (disch := omega) [-List.getD_eq_getElem?_getD, hk, hz]
        refine acall_is (cd) ?_; simp (maxSteps := 1000000) (disch := omega) [-List.getD_eq_getElem?_getD]
        refine hK _ ?_; clear hK K
        refine aw_if rfl (fun h => ?_) (fun h => absurd h (by simp))
        refine aw_skip ?_; simp (maxSteps := 1000000) (disch := omega) [-List.getD_eq_getElem?_getD]
        refine hK2 _ ?_; clear hK2
        refine aw_block ?_
        refine aw_reg0 fun K hK => ?_; simp (maxSteps := 1000000) (disch := omega) [-List.getD_eq_getElem?_getD]
        refine hK _ ?_; clear hK K
        refine ⟨i + 1, ⟨by show i + 1 ≤ _; omega, h2'⟩, by show s.length - (i + 1) < s.length - i; omega, ?_⟩
        refine weak_to [] [] ?_ ?_ ?_ ?_ HO ?_
        all_goals simp
      | false =>
        rw [hd] at cd
        have hw := hw (fun _ => hd)
        subst hw
        generalize hz : s.getD n 0 = z at *
        refine aw_reg fun K hK => ?_; simp (maxSteps := 1000000) (disch := omega) [-List.getD_eq_getElem?_getD, hk, hz]
        refine acall_is (cd) ?_; simp (maxSteps := 1000000) (disch := omega) [-List.getD_eq_getElem?_getD]
        refine hK _ ?_; clear hK K
        refine aw_if rfl (fun h => absurd h (by simp)) (fun h => ?_)
        refine aw_exit ?_; simp (maxSteps := 1000000) (disch := omega) [-List.getD_eq_getElem?_getD]
        refine hK1 _ ?_; clear hK1
        refine aw_reg fun K hK => ?_; simp (maxSteps := 1000000) (disch := omega) [-List.getD_eq_getElem?_getD]; refine hK _ ?_; clear hK K
        refine aw_ret ?_; simp (maxSteps := 1000000) (disch := omega) [-List.getD_eq_getElem?_getD]
        exact ⟨rfl, rfl, rfl⟩
    · have bk : decide ((i : Int) < (s.length : Nat)) = false := decide_eq_false (by omega)
      have hw := hw (fun h => absurd h hk)
      subst hw
      clear cd
      refine aw_reg fun K hK => ?_; simp (maxSteps := 1000000) (disch := omega) [-List.getD_eq_getElem?_getD, hk]; refine hK _ ?_; clear hK K
      refine aw_if rfl (fun h => absurd h (by simp)) (fun h => ?_)
      refine aw_exit ?_; simp (maxSteps := 1000000) (disch := omega) [-List.getD_eq_getElem?_getD]
      refine hK1 _ ?_; clear hK1
      refine aw_reg fun K hK => ?_; simp (maxSteps := 1000000) (disch := omega) [-List.getD_eq_getElem?_getD]; refine hK _ ?_; clear hK K
      refine aw_ret ?_; simp (maxSteps := 1000000) (disch := omega) [-List.getD_eq_getElem?_getD]
      exact ⟨rfl, rfl, rfl⟩

set_option maxRecDepth 100000 in
set_option maxHeartbeats 4000000 in
theorem valueR_ok (s : List UInt8) (hd : ∀ x ∈ s, isD x = true) (hl : s.length ≤ 9) (H : List Blk) (T : Toks) :
    ACall Tryz.prog 58 [.str s] H T (Is (.int .i64 (numV s : Nat)) H T) := by
  have hv0 : numV (s.take 0) = 0 := by simp [numV]
  have hvs := fun i (h : i < s.length) => numV_take h
  have hve : numV (s.take s.length) = numV s := by rw [List.take_length]
  have hvb := fun i => numV_small (s := s.take i) (fun x hx => hd x (List.mem_of_mem_take hx)) (by rw [List.length_take]; omega)
  have hdi := fun i (h : i < s.length) => isD_iff.1 (hd (s.getD i 0) (by rw [List.getD_eq_getElem?_getD, List.getElem?_eq_getElem h]; exact List.getElem_mem h))
  obtain ⟨V, hV⟩ : ∃ f : Nat → Nat, ∀ i, f i = numV (s.take i) := ⟨_, fun _ => rfl⟩
  simp only [← hV] at hv0 hvs hve hvb
  clear hV
  rw [← hve]
  refine acall_enter 5 [] Tryz.ntmps58 Tryz.func58 rfl (fun _ _ => Tryz.call58 _ _) (by simp) (fun HO => ?_)
  refine aw_reg fun K hK => ?_; simp (maxSteps := 1000000) (disch := omega) [-List.getD_eq_getElem?_getD]; refine hK _ ?_; clear hK K
  refine aw_reg fun K hK => ?_; simp (maxSteps := 1000000) (disch := omega) [-List.getD_eq_getElem?_getD]; refine hK _ ?_; clear hK K
  refine aw_then fun K1 hK1 => ?_
  refine aw_reg fun K hK => ?_; simp (maxSteps := 1000000) (disch := omega) [-List.getD_eq_getElem?_getD]; refine hK _ ?_; clear hK K
  refine aw_block ?_
  refine aw_loop (X := Nat) (fun i => ⟨[(0, .str s), (3, .int .i64 (V i : Nat)), (4, .int .i64 (i : Nat))], H, T⟩) (fun i => i ≤ s.length) (fun i => s.length - i) 0 ?_ ?_ ?_
  · exact Nat.zero_le _
  · rw [hv0]
    refine weak_to [] [] ?_ ?_ ?_ ?_ HO ?_
    all_goals simp
  · rintro i h1
    refine aw_then fun K2 hK2 => ?_
    refine aw_reg fun K hK => ?_; simp (maxSteps := 1000000) (disch := omega) [-List.getD_eq_getElem?_getD]; refine hK _ ?_; clear hK K
    refine aw_if rfl (fun hk => ?_) (fun hk => ?_)
    · simp [-List.getD_eq_getElem?_getD] at hk
      have hvs := hvs i hk
      have hvi := hvb i
      have hdi := hdi i hk
      refine aw_skip ?_; simp (maxSteps := 1000000) (disch := omega) [-List.getD_eq_getElem?_getD]
      refine hK2 _ ?_; clear hK2
      refine aw_then fun K3 hK3 => ?_
      refine aw_block ?_
      generalize hz : s.getD i 0 = zz at *
      generalize hz2 : zz.toNat = z at *
      have w1 : IntKind.u8.wrap ((z : Int) - 48) = ((z - 48 : Nat) : Int) := by
        rw [wrapU8 (by omega) (by omega)]; omega
      have w2 : IntKind.i64.wrap ((z - 48 : Nat) : Int) = ((z - 48 : Nat) : Int) := wrap64 (by omega) (by omega)
      have w3 : (10 : Int) * (V i : Nat) + ((z - 48 : Nat) : Int) = (V (i + 1) : Nat) := by rw [hvs]; omega
      refine aw_reg0 fun K hK => ?_; simp (maxSteps := 1000000) (disch := omega) [-List.getD_eq_getElem?_getD, hk, hz, hz2, w1, w2]
      refine hK _ ?_; clear hK K
      refine hK3 _ ?_
      clear hK3
      refine aw_reg0 fun K hK => ?_; simp (maxSteps := 1000000) (disch := omega) [-List.getD_eq_getElem?_getD]
      refine hK _ ?_; clear hK K
      refine ⟨i + 1, by show i + 1 ≤ _; omega, by show s.length - (i + 1) < s.length - i; omega, ?_⟩
      refine weak_to [] [] ?_ ?_ ?_ ?_ HO ?_
      all_goals simp [w3]
    · simp [-List.getD_eq_getElem?_getD] at hk
      have e : i = s.length := by omega
      subst e
      clear hvs hvb hdi
      refine aw_exit ?_; simp (maxSteps := 1000000) (disch := omega) [-List.getD_eq_getElem?_getD]
      refine hK1 _ ?_; clear hK1
      refine aw_reg fun K hK => ?_; simp (maxSteps := 1000000) (disch := omega) [-List.getD_eq_getElem?_getD]; refine hK _ ?_; clear hK K
      refine aw_ret ?_; simp (maxSteps := 1000000) (disch := omega) [-List.getD_eq_getElem?_getD]
      exact ⟨rfl, rfl, rfl⟩
end Go.Proofs.YtnmlpohhommagaaGreatDoor

/- The reference's reading of a text (layer 52) in plain Lean. -/
namespace Lst
open Go.Lib
theorem tw_app {p : UInt8 → Bool} {a : List UInt8} (h : ∀ x ∈ a, p x = true) (b : List UInt8) (hb : ∀ x, b.head? = some x → p x = false) : (a ++ b).takeWhile p = a := by
  induction a with
  | nil =>
    match b with
    | [] => rfl
    | y :: r => rw [List.nil_append, List.takeWhile_cons, if_neg]; rw [hb y rfl]; simp
  | cons x r ih =>
    rw [List.cons_append, List.takeWhile_cons, if_pos (h x (by simp)), ih fun y hy => h y (List.mem_cons_of_mem _ hy)]
theorem cutT_lt {c : UInt8} {s : List UInt8} (h : s ≠ []) : (cutT c s).2.1.length < s.length := by
  have h0 : 0 < s.length := List.length_pos_iff.2 h
  unfold cutT
  cases hc : cutL c s with
  | none => simpa using h0
  | some x =>
    have := congrArg List.length (index1_some hc).2
    simp at this
    simp only
    omega
end Lst
namespace Cn
open Go.Lib Lst
abbrev Tri := List (List UInt8) × Int × List UInt8
/-- What a word tells the reference. -/
def stepR (sch : Int) (t : Tri) (w : List UInt8) : Tri :=
  if sch = 1 ∧ t.1.length = 0 ∧ w ≠ [] ∧ w.getD 0 0 = 46 then (t.1 ++ [w.drop 1], t.2.1, t.2.2)
  else if cutF w = true then (t.1 ++ [w], t.2.1, t.2.2)
  else if w.length = 4 ∧ runF w = 4 then (t.1, (numV w : Nat), t.2.2)
  else (t.1, t.2.1, w)
def loopR (sch : Int) : Nat → List UInt8 → Tri → Tri
  | 0, _, t => t
  | n + 1, left, t => if left = [] then t else loopR sch n (Lst.cutT 32 left).2.1 (stepR sch t (Lst.cutT 32 left).1)
theorem loopR_nil (sch : Int) (n : Nat) (t : Tri) : loopR sch n [] t = t := by cases n <;> simp [loopR]
theorem loopR_same (sch : Int) : ∀ (n m : Nat) (left : List UInt8) (t : Tri), left.length ≤ n → left.length ≤ m → loopR sch n left t = loopR sch m left t := by
  intro n
  induction n with
  | zero =>
    intro m left t h1 h2
    obtain rfl : left = [] := List.length_eq_zero_iff.1 (by omega)
    rw [loopR_nil, loopR_nil]
  | succ n ih =>
    intro m left t h1 h2
    by_cases hl : left = []
    · subst hl; rw [loopR_nil, loopR_nil]
    · have := cutT_lt (c := 32) hl
      have h0 : 0 < left.length := List.length_pos_iff.2 hl
      obtain ⟨m, rfl⟩ : ∃ k, m = k + 1 := ⟨m - 1, by omega⟩
      rw [loopR, loopR, if_neg hl, if_neg hl]
      exact ih m _ _ (by omega) (by omega)
theorem loopR_step {sch : Int} {left : List UInt8} {t R : Tri} (hl : left ≠ []) (h : loopR sch left.length left t = R) : loopR sch (Lst.cutT 32 left).2.1.length (Lst.cutT 32 left).2.1 (stepR sch t (Lst.cutT 32 left).1) = R := by
  have h0 : 0 < left.length := List.length_pos_iff.2 hl
  have h1 := cutT_lt (c := 32) hl
  obtain ⟨n, hn⟩ : ∃ k, left.length = k + 1 := ⟨left.length - 1, by omega⟩
  rw [hn, loopR, if_neg hl] at h
  rw [← h]
  exact loopR_same _ _ _ _ _ (Nat.le_refl _) (by omega)
/-- The reference's candidate. -/
def candR (s : List UInt8) : Option Cl :=
  let head := (Lst.cutT 32 s).1
  let k := (head.takeWhile isC).length
  let n := runF (head.drop k)
  let sch : Int := if 0 < k then 1 else 2
  let t := loopR sch (Lst.cutT 32 s).2.1.length (Lst.cutT 32 s).2.1 ([], 0, [])
  if n < 1 ∨ 4 < n then none else some ⟨sch, head.take k, (numV ((head.drop k).take n) : Nat), head.drop (k + n + 1), t.1, t.2.1, t.2.2⟩
def lft : List (List UInt8) → List UInt8
  | [] => []
  | p :: r => p ++ r.flatMap fun x => 32 :: x
theorem cutT_lft {a : List UInt8} (h : (32 : UInt8) ∉ a) (ps : List (List UInt8)) : (Lst.cutT 32 (a ++ ps.flatMap fun x => 32 :: x)).1 = a ∧ (Lst.cutT 32 (a ++ ps.flatMap fun x => 32 :: x)).2.1 = lft ps := by
  unfold Lst.cutT
  match ps with
  | [] => rw [List.flatMap_nil, List.append_nil, cutL_not h]; exact ⟨rfl, rfl⟩
  | p :: r => rw [List.flatMap_cons, List.cons_append, cutL_app _ h]; exact ⟨rfl, rfl⟩
theorem loopR_parts (sch : Int) : ∀ (ps : List (List UInt8)), (∀ p ∈ ps, p ≠ [] ∧ (32 : UInt8) ∉ p) → ∀ (n : Nat) (t : Tri), (lft ps).length ≤ n → loopR sch n (lft ps) t = ps.foldl (stepR sch) t := by
  intro ps
  induction ps with
  | nil => intro _ n t _; exact loopR_nil _ _ _
  | cons p r ih =>
    intro h n t hn
    have hp := h p (by simp)
    have hne : lft (p :: r) ≠ [] := by
      unfold lft
      intro e
      exact hp.1 (List.append_eq_nil_iff.1 e).1
    have h0 : 0 < (lft (p :: r)).length := List.length_pos_iff.2 hne
    have h1 := cutT_lt (c := 32) hne
    obtain ⟨n, rfl⟩ : ∃ k, n = k + 1 := ⟨n - 1, by omega⟩
    obtain ⟨g1, g2⟩ := cutT_lft hp.2 r
    rw [show p ++ r.flatMap (fun x => 32 :: x) = lft (p :: r) from rfl] at g1 g2
    rw [loopR, if_neg hne, g1, g2, List.foldl_cons]
    rw [g2] at h1
    exact ih (fun q hq => h q (by simp [hq])) n _ (by omega)
theorem runF_all {s : List UInt8} (h : ∀ x ∈ s, isD x = true) (b : List UInt8) (hb : ∀ x, b.head? = some x → isD x = false) : runF (s ++ b) = s.length := by
  unfold runF
  rw [tw_app h b hb]
theorem stepR_cut {c : Cl} {i : Nat} {x : List UInt8} (h : cutF x = true) {t : Tri} (ht : t.1.length = i) (hc : c.sch = 1 ∨ c.sch = 2) : stepR c.sch t (cutT c i x) = (t.1 ++ [x], t.2.1, t.2.2) := by
  unfold stepR cutT
  by_cases h0 : i = 0 ∧ c.sch = 1
  · rw [if_pos h0, if_pos ⟨h0.2, by omega, by simp, rfl⟩]
    rfl
  · rw [if_neg h0, if_neg (fun h1 => h0 ⟨by omega, h1.1⟩), if_pos h]
theorem first_ne {a : UInt8} {r w : List UInt8} (e : w = a :: r) (h1 : a ≠ 46) (h2 : isC a = false) (sch : Int) (t : Tri) : stepR sch t w = if w.length = 4 ∧ runF w = 4 then (t.1, ((numV w : Nat) : Int), t.2.2) else (t.1, t.2.1, w) := by
  subst e
  unfold stepR
  rw [if_neg (fun h => h1 h.2.2.2), if_neg]
  intro h
  obtain ⟨b, q, e, hb, _⟩ := cutF_parts h
  injection e with e _
  subst e
  rw [h2] at hb
  cases hb
theorem dec_four {u : Nat} (h1 : 1000 ≤ u) (h2 : u ≤ 9999) : (decDigits u).length = 4 := by
  have d1 : ∀ v, v < 10 → (decDigits v).length = 1 := fun v hv => by rw [decDigits, dif_pos hv]; rfl
  have d2 : ∀ v, ¬ v < 10 → (decDigits v).length = (decDigits (v / 10)).length + 1 := fun v hv => by rw [decDigits, dif_neg hv, List.length_append]; rfl
  rw [d2 u (by omega), d2 (u / 10) (by omega), d2 (u / 10 / 10) (by omega), d1 _ (by omega)]
theorem stepR_yr {u : Nat} (h1 : 1000 ≤ u) (h2 : u ≤ 9999) (sch : Int) (t : Tri) : stepR sch t (decDigits u) = (t.1, (u : Int), t.2.2) := by
  have h0 := dec_ne u
  obtain ⟨a, r, e⟩ : ∃ a r, decDigits u = a :: r := by
    match decDigits u, h0 with
    | a :: r, _ => exact ⟨a, r, rfl⟩
  have ha : isD a = true := dec_isD (u := u) (by rw [e]; simp)
  have hr : runF (decDigits u) = 4 := by
    have := runF_all (s := decDigits u) (fun x hx => dec_isD hx) [] (fun x hx => by simp at hx)
    rw [List.append_nil, dec_four h1 h2] at this
    exact this
  rw [first_ne e (isD_no ha).2.1 (isD_no ha).2.2, if_pos ⟨dec_four h1 h2, hr⟩, numV_dec]
theorem stepR_rest {x : List UInt8} (h : restF x = true) (h0 : x ≠ []) (sch : Int) (t : Tri) : stepR sch t x = (t.1, t.2.1, x) := by
  obtain ⟨a, r, e⟩ : ∃ a r, x = a :: r := by
    match x, h0 with
    | a :: r, _ => exact ⟨a, r, rfl⟩
  have ha : isS a = true := by
    simp only [restF, Bool.or_eq_true, Bool.and_eq_true, decide_eq_true_eq] at h
    rcases h with h | h
    · exact absurd h h0
    · rw [e] at h; simpa using h.1.2
  have hr : runF x = 0 := by
    unfold runF
    rw [e, List.takeWhile_cons, if_neg (by rw [(isS_no ha).2.2.2]; simp)]
    rfl
  rw [first_ne e (isS_no ha).2.1 (isS_no ha).2.2.1, if_neg (fun h => by rw [hr] at h; exact absurd h.2 (by decide))]
theorem foldR_cuts {c : Cl} (hv : validF c = true) : ∀ n, n ≤ c.cut.length → ((List.range n).map fun i => cutT c i (c.cut.getD i [])).foldl (stepR c.sch) ([], 0, []) = (c.cut.take n, 0, []) := by
  have hsc : c.sch = 1 ∨ c.sch = 2 := by rcases valid_sch hv with h | h <;> simp [h.1]
  intro n
  induction n with
  | zero => intro _; simp
  | succ n ih =>
    intro hn
    rw [List.range_succ, List.map_append, List.foldl_append, ih (by omega)]
    simp only [List.map_cons, List.map_nil, List.foldl_cons, List.foldl_nil]
    rw [stepR_cut (valid_cuts hv _ (memL (by omega))) (by simp; omega) hsc]
    simp only
    rw [List.take_add_one, List.getElem?_eq_getElem (by omega), List.getD_eq_getElem?_getD, List.getElem?_eq_getElem (by omega)]
    rfl
theorem foldR_parts {c : Cl} (hv : validF c = true) : (partsOf c).foldl (stepR c.sch) ([], 0, []) = (c.cut, c.yr, c.rest) := by
  unfold partsOf
  rw [List.foldl_append, foldR_cuts hv c.cut.length (Nat.le_refl _), List.take_length, List.foldl_append]
  have h1 : (if c.yr = 0 then [] else [decDigits c.yr.toNat]).foldl (stepR c.sch) (c.cut, 0, []) = (c.cut, c.yr, []) := by
    split
    · rename_i h; rw [h]; rfl
    · have := valid_yr hv
      simp only [List.foldl_cons, List.foldl_nil]
      rw [stepR_yr (by omega) (by omega), Int.toNat_of_nonneg (by omega)]
  rw [h1]
  split
  · rename_i h; rw [h]; rfl
  · rename_i h
    simp only [List.foldl_cons, List.foldl_nil]
    rw [stepR_rest (valid_rest hv) h]
theorem parts_ne {c : Cl} (hv : validF c = true) : ∀ x ∈ partsOf c, x ≠ [] := by
  intro x hx
  unfold partsOf at hx
  rcases List.mem_append.1 hx with hx | hx
  · obtain ⟨i, hi, rfl⟩ := List.mem_map.1 hx
    have hi := List.mem_range.1 hi
    obtain ⟨a, r, e, _⟩ := cutF_parts (valid_cuts hv _ (memL hi))
    unfold cutT
    split
    · simp
    · rw [e]; simp
  · rcases List.mem_append.1 hx with hx | hx
    · split at hx
      · simp at hx
      · simp only [List.mem_singleton] at hx
        subst hx
        exact dec_ne _
    · split at hx
      · simp at hx
      · rename_i h
        simp only [List.mem_singleton] at hx
        subst hx
        exact h
theorem numF_parts {c : Cl} (hv : validF c = true) : ∃ D, numF c = c.cls ++ D ∧ (∀ x ∈ c.cls, isC x = true) ∧ (∀ x ∈ D, isD x = true) ∧ ((numV D : Nat) : Int) = c.num ∧ 1 ≤ D.length ∧ D.length ≤ 4 ∧ (if 0 < c.cls.length then (1 : Int) else 2) = c.sch := by
  have h0 := valid_num hv
  unfold numF
  rcases valid_sch hv with h | h
  · refine ⟨decDigits c.num.toNat, by rw [if_neg (by omega)], h.2.2.2.1, fun x hx => dec_isD hx, ?_, List.length_pos_iff.2 (dec_ne _), dec_short (by omega), ?_⟩
    · rw [numV_dec]; omega
    · rw [if_pos (by omega), h.1]
  · refine ⟨decN c.num.toNat 3, ?_, ?_, (decN_spec 3 _).2, ?_, ?_, ?_, ?_⟩
    · rw [if_pos h.1, decN_three (by omega), h.2.1]; rfl
    · rw [h.2.1]; simp
    · rw [(decN_spec 3 _).1]; omega
    · rw [decN_len3 (by omega)]; omega
    · rw [decN_len3 (by omega)]; omega
    · rw [h.2.1, h.1]; rfl
theorem candR_text {c : Cl} (hv : validF c = true) : candR (textF c) = some c := by
  obtain ⟨D, e, hC, hD, hn, hl1, hl4, hs⟩ := numF_parts hv
  have hp := fun p hp => (⟨parts_ne hv p hp, parts_no hv p hp⟩ : p ≠ [] ∧ (32 : UInt8) ∉ p)
  obtain ⟨g1, g2⟩ := cutT_lft (head_no hv) (partsOf c)
  rw [← text_parts] at g1 g2
  have hdt : ∀ x, (decT c).head? = some x → isD x = false := by
    intro x hx
    unfold decT at hx
    split at hx
    · simp at hx
    · simp at hx; subst hx; rfl
  have hDn : ∀ x, (D ++ decT c).head? = some x → isC x = false := by
    intro x hx
    match D, hl1 with
    | d :: r, _ =>
      have hx' : d = x := by simpa using hx
      subst hx'
      exact (isD_no (hD d (by simp))).2.2
  have hk : ((numF c ++ decT c).takeWhile isC) = c.cls := by
    rw [e, List.append_assoc]
    exact tw_app hC _ hDn
  have hr := runF_all hD (decT c) hdt
  have hdrop : (numF c ++ decT c).drop c.cls.length = D ++ decT c := by rw [e, List.append_assoc, List.drop_left]
  have hdec : (numF c ++ decT c).drop (c.cls.length + D.length + 1) = c.dec := by
    rw [show c.cls.length + D.length + 1 = c.cls.length + (D.length + 1) by omega, ← List.drop_drop, hdrop, ← List.drop_drop, List.drop_left]
    unfold decT
    split
    · rename_i h; rw [h]; rfl
    · rfl
  unfold candR
  simp only [g1, g2, hk, hdrop, hr, hs, hdec]
  rw [if_neg (by omega), List.take_left, hn, loopR_parts c.sch (partsOf c) hp _ _ (Nat.le_refl _), foldR_parts hv, e, List.append_assoc, List.take_left]
/-- What the reference answers is what the program answers. -/
theorem parseR_eq (s : List UInt8) : (match candR s with | none => (zeroC, (7 : Int)) | some c => if validF c = true ∧ textF c = s then (c, 0) else (zeroC, 7)) = parseF s := by
  have hno : (∀ c, validF c = true → textF c ≠ s) → parseF s = (zeroC, 7) := fun h => by
    unfold parseF
    rw [if_neg (fun hc => h _ hc.1 hc.2)]
    rfl
  cases hc : candR s with
  | none =>
    rw [hno]
    intro c hv e
    rw [← e, candR_text hv] at hc
    cases hc
  | some c =>
    simp only
    by_cases h : validF c = true ∧ textF c = s
    · rw [if_pos h, ← h.2, parseF_text h.1]
    · rw [if_neg h, hno]
      intro d hv e
      rw [← e, candR_text hv] at hc
      injection hc with hc
      subst hc
      exact h ⟨hv, e⟩
end Cn
