/- Merging two neighbouring ranges in their place (slices' stable sort) on a box of entries.
   Conditions: lengths below 1000, as the theorems say. -/
import Derived.Test.YtbijefgmleagnaaSPl4
namespace Go.Proofs.Ytbijefgmleagnaa
open Go Go.Am Sug
set_option linter.unusedVariables false

/-- What symMerge is asked, and answers. -/
def MergeOk (n N : Nat) : Prop := ∀ (d : List Ent) (rest : List AV) (a m b i : Nat), b - a ≤ n → a < m → m < b → b ≤ N → d.length = N → MP d a m b → ∀ (H : List Blk) (T : Toks), H[i]? = some (.cells (entAV d ++ rest)) → BelowAll H.length T.length rest →
  ACall Try.prog 68 [.msl i 0 N, .int .i64 (a : Nat), .int .i64 (m : Nat), .int .i64 (b : Nat), .fn 45 [] []] H T (TurnQ i rest H T (fun d' => Seg d d' a b ∧ Sg d' a b))

set_option maxRecDepth 100000 in
set_option maxHeartbeats 8000000 in
theorem merge1_ok (N : Nat) (hN : N ≤ 1000) (d : List Ent) (rest : List AV) (a m b i : Nat) (ham : m = a + 1) (hmb : m < b) (hbl : b ≤ N) (hd : d.length = N) (hmp : MP d a m b) (H : List Blk) (T : Toks) (hi : H[i]? = some (.cells (entAV d ++ rest))) (hr : BelowAll H.length T.length rest) :
    ACall Try.prog 68 [.msl i 0 N, .int .i64 (a : Nat), .int .i64 (m : Nat), .int .i64 (b : Nat), .fn 45 [] []] H T (TurnQ i rest H T (fun d' => Seg d d' a b ∧ Sg d' a b)) := by
  have hil := (List.getElem?_eq_some_iff.1 hi).1
  have hset0 := set_id hi
  have hgi : ∀ h : i < H.length, H[i]'h = .cells (entAV d ++ rest) := fun h => by rw [List.getElem?_eq_getElem h] at hi; exact Option.some.inj hi
  have HOs : HOk H T → ∀ d2, HOk (H.set i (.cells (entAV d2 ++ rest))) T := fun HO k => HO.set (by simp [hr])
  have bm : (((m : Int) - a) == 1) = true := by rw [beq_iff_eq]; omega
  have bm' : ((m : Int) - a) = 1 := by omega
  have hcl := fun (x y : Ent) => cmpC_ok x y H T
  refine acall_enter 25 [] Try.ntmps68 Try.func68 rfl (fun _ _ => Try.call68 _ _) (by simp) (fun HO => ?_)
  have HO' := HOs HO
  refine aw_then fun K1 hK1 => ?_
  refine aw_reg fun K hK => ?_; simp (maxSteps := 1000000) (disch := omega) [-List.getD_eq_getElem?_getD, bm, bm']; refine hK _ ?_; clear hK K
  refine aw_if rfl (fun h => ?_) (fun h => absurd h (by simp [bm']))
  refine aw_reg fun K hK => ?_; simp (maxSteps := 1000000) (disch := omega) [-List.getD_eq_getElem?_getD]; refine hK _ ?_; clear hK K
  refine aw_reg fun K hK => ?_; simp (maxSteps := 1000000) (disch := omega) [-List.getD_eq_getElem?_getD]; refine hK _ ?_; clear hK K
  refine aw_then fun K2 hK2 => ?_
  refine aw_block ?_
  refine aw_loop (X := Nat × Nat) (fun x => ⟨[(0, .msl i 0 N), (1, .int .i64 (a : Nat)), (2, .int .i64 (m : Nat)), (3, .int .i64 (b : Nat)), (4, .fn 45 [] []), (10, .int .i64 (x.1 : Nat)), (11, .int .i64 (x.2 : Nat))], H, T⟩)
    (fun x => m ≤ x.1 ∧ x.1 ≤ x.2 ∧ x.2 ≤ b ∧ (∀ t, m ≤ t → t < x.1 → (d.getD a ze).2 < (d.getD t ze).2) ∧ ∀ t, x.2 ≤ t → t < b → (d.getD t ze).2 ≤ (d.getD a ze).2) (fun x => x.2 - x.1) (m, b) ?_ ?_ ?_
  · exact ⟨Nat.le_refl _, by simp only; omega, Nat.le_refl _, fun t t1 t2 => by simp only at t2; omega, fun t t1 t2 => by simp only at t1; omega⟩
  · refine weak_to [] [] ?_ ?_ ?_ ?_ HO ?_
    all_goals simp [hil]
  · rintro ⟨lo, hi2⟩ ⟨g1, g2, g3, g4, g5⟩
    simp only at g1 g2 g3 g4 g5
    refine aw_then fun K3 hK3 => ?_
    refine aw_reg fun K hK => ?_; simp (maxSteps := 1000000) (disch := omega) [-List.getD_eq_getElem?_getD]; refine hK _ ?_; clear hK K
    refine aw_if rfl (fun hk => ?_) (fun hk => ?_)
    · simp [-List.getD_eq_getElem?_getD] at hk
      refine aw_skip ?_; simp (maxSteps := 1000000) (disch := omega) [-List.getD_eq_getElem?_getD]
      refine hK3 _ ?_; clear hK3
      refine aw_block ?_
      refine aw_reg fun K hK => ?_; simp (maxSteps := 1000000) (disch := omega) [-List.getD_eq_getElem?_getD]; refine hK _ ?_; clear hK K
      rw [show ((lo : Int) + hi2) / 2 = (((lo + hi2) / 2 : Nat) : Int) by omega]
      have hge : lo ≤ (lo + hi2) / 2 := by omega
      have hlt : (lo + hi2) / 2 < hi2 := by omega
      generalize (lo + hi2) / 2 = c at *
      have hc1 := ent_cut (d := d) (k := c) rest (by omega)
      have hc2 := ent_cut (d := d) (k := a) rest (by omega)
      have cc := hcl (d.getD c ze) (d.getD a ze)
      have hneg := cmpI_neg (d.getD a ze).2 (d.getD c ze).2
      generalize cmpI (d.getD a ze).2 (d.getD c ze).2 = q at *
      by_cases hq : q < 0
      · have bq : decide (q < 0) = true := decide_eq_true hq
        refine aw_draw [] [] [] drawMixed (by kernel_rfl) (by kernel_rfl) fun K hK => ?_; simp (maxSteps := 1000000) (disch := omega) [-List.getD_eq_getElem?_getD, hgi, hc1, hc2, entAV_len, hd]
        refine dcall_is (cc) rfl ?_; simp (maxSteps := 1000000) (disch := omega) [-List.getD_eq_getElem?_getD, bq, hq]
        refine hK _ ?_; clear hK K
        refine aw_if rfl (fun h => ?_) (fun h => absurd h (by simp))
        refine aw_reg0 fun K hK => ?_; simp (maxSteps := 1000000) (disch := omega) [-List.getD_eq_getElem?_getD]
        refine hK _ ?_; clear hK K
        refine ⟨(c + 1, hi2), ⟨by simp only; omega, by simp only; omega, g3, fun t t1 t2 => ?_, g5⟩, by show hi2 - (c + 1) < hi2 - lo; omega, ?_⟩
        · have := hmp.r.ge t1 (by simp only at t2; omega : t ≤ c) (by omega)
          have := hneg.1 hq
          omega
        · refine weak_to [] [] ?_ ?_ ?_ ?_ HO ?_
          all_goals simp [hil]
      · have bq : decide (q < 0) = false := decide_eq_false hq
        refine aw_draw [] [] [] drawMixed (by kernel_rfl) (by kernel_rfl) fun K hK => ?_; simp (maxSteps := 1000000) (disch := omega) [-List.getD_eq_getElem?_getD, hgi, hc1, hc2, entAV_len, hd]
        refine dcall_is (cc) rfl ?_; simp (maxSteps := 1000000) (disch := omega) [-List.getD_eq_getElem?_getD, bq, hq]
        refine hK _ ?_; clear hK K
        refine aw_if rfl (fun h => absurd h (by simp)) (fun h => ?_)
        refine aw_reg0 fun K hK => ?_; simp (maxSteps := 1000000) (disch := omega) [-List.getD_eq_getElem?_getD]
        refine hK _ ?_; clear hK K
        refine ⟨(lo, c), ⟨g1, hge, by simp only; omega, g4, fun t t1 t2 => ?_⟩, by show c - lo < hi2 - lo; omega, ?_⟩
        · have e1 := hmp.r.ge (by omega : m ≤ c) t1 t2
          have e2 : ¬ (d.getD a ze).2 < (d.getD c ze).2 := fun e => hq (hneg.2 e)
          omega
        · refine weak_to [] [] ?_ ?_ ?_ ?_ HO ?_
          all_goals simp [hil]
    · simp [-List.getD_eq_getElem?_getD] at hk
      have e : hi2 = lo := by omega
      subst e
      refine aw_exit ?_; simp (maxSteps := 1000000) (disch := omega) [-List.getD_eq_getElem?_getD]
      refine hK2 _ ?_; clear hK2
      refine aw_then fun K2 hK2 => ?_
      refine aw_reg fun K hK => ?_; simp (maxSteps := 1000000) (disch := omega) [-List.getD_eq_getElem?_getD]; refine hK _ ?_; clear hK K
      refine aw_block ?_
      refine aw_loop (X := List Ent × Nat) (fun x => ⟨[(0, .msl i 0 N), (10, .int .i64 (hi2 : Nat)), (13, .int .i64 (x.2 : Nat))], H.set i (.cells (entAV x.1 ++ rest)), T⟩)
        (fun x => a ≤ x.2 ∧ x.2 + 1 ≤ hi2 ∧ x.1.Perm d ∧ Mvl d x.1 a x.2) (fun x => hi2 - x.2) (d, a) ?_ ?_ ?_
      · exact ⟨Nat.le_refl _, by simp only; omega, .refl _, Mvl.zero _ _⟩
      · refine weak_to [] [] ?_ ?_ ?_ ?_ (HO' d) ?_
        all_goals simp [hil, hset0]
      · rintro ⟨d2, k⟩ ⟨k1, k2, k3, k4⟩
        simp only at k1 k2 k3 k4
        have hl2 := k3.length_eq
        refine aw_then fun K3 hK3 => ?_
        by_cases hk3 : k + 1 < hi2
        · have bk : decide ((k : Int) < (hi2 : Int) - 1) = true := decide_eq_true (by omega)
          have bk' : (k : Int) < (hi2 : Int) - 1 := by omega
          have hc1 := ent_cut (d := d2) (k := k) rest (by omega)
          have hc2 := ent_cut (d := d2) (k := k + 1) rest (by omega)
          have hsw := ent_swp d2 k (k + 1) rest (by omega) (by omega)
          refine aw_reg fun K hK => ?_; simp (maxSteps := 1000000) (disch := omega) [-List.getD_eq_getElem?_getD, bk, bk']; refine hK _ ?_; clear hK K
          refine aw_if rfl (fun h => ?_) (fun h => absurd h (by simp))
          refine aw_skip ?_; simp (maxSteps := 1000000) (disch := omega) [-List.getD_eq_getElem?_getD]
          refine hK3 _ ?_; clear hK3
          refine aw_then fun K4 hK4 => ?_
          refine aw_block ?_
          refine aw_draw0 [15, 17] [0, 0, 0, 0, 0, 0, 0, 0, 0, 0, 0, 0, 0, 0, 0, 0, 1, 1] [[2, 3, 4], []] drawMixed (by kernel_rfl) (by kernel_rfl) fun K hK => ?_; simp (maxSteps := 1000000) (disch := omega) [-List.getD_eq_getElem?_getD, hc1, hc2, entAV_len, hl2, hd, hil]
          rw [hsw]
          refine hK _ ?_; clear hK K
          refine hK4 _ ?_; clear hK4
          refine aw_reg0 fun K hK => ?_; simp (maxSteps := 1000000) (disch := omega) [-List.getD_eq_getElem?_getD]
          refine hK _ ?_; clear hK K
          refine ⟨(swp d2 k (k + 1), k + 1), ⟨by simp only; omega, by simp only; omega, (swp_perm (by omega) (by omega)).trans k3, k4.step k1 (by omega)⟩, by show hi2 - (k + 1) < hi2 - k; omega, ?_⟩
          refine weak_to [] [] ?_ ?_ ?_ ?_ (HO' _) ?_
          all_goals simp [hil]
        · have bk : decide ((k : Int) < (hi2 : Int) - 1) = false := decide_eq_false (by omega)
          have bk' : ¬ (k : Int) < (hi2 : Int) - 1 := by omega
          have e : hi2 = k + 1 := by omega
          subst e
          refine aw_reg fun K hK => ?_; simp (maxSteps := 1000000) (disch := omega) [-List.getD_eq_getElem?_getD, bk, bk']; refine hK _ ?_; clear hK K
          refine aw_if rfl (fun h => absurd h (by simp)) (fun h => ?_)
          refine aw_exit ?_; simp (maxSteps := 1000000) (disch := omega) [-List.getD_eq_getElem?_getD]
          refine hK2 _ ?_; clear hK2
          refine aw_ret ?_; simp (maxSteps := 1000000) (disch := omega) [-List.getD_eq_getElem?_getD]
          refine ⟨rfl, rfl, d2, rfl, (k4.seg k1 k3).wide (Nat.le_refl _) (by omega), ?_⟩
          subst ham
          exact k4.sorted k1 (by omega) hmp g4 g5

set_option maxRecDepth 100000 in
set_option maxHeartbeats 8000000 in
theorem merge2_ok (N : Nat) (hN : N ≤ 1000) (d : List Ent) (rest : List AV) (a m b i : Nat) (ham : a < m) (hma : m ≠ a + 1) (hmb : b = m + 1) (hbl : b ≤ N) (hd : d.length = N) (hmp : MP d a m b) (H : List Blk) (T : Toks) (hi : H[i]? = some (.cells (entAV d ++ rest))) (hr : BelowAll H.length T.length rest) :
    ACall Try.prog 68 [.msl i 0 N, .int .i64 (a : Nat), .int .i64 (m : Nat), .int .i64 (b : Nat), .fn 45 [] []] H T (TurnQ i rest H T (fun d' => Seg d d' a b ∧ Sg d' a b)) := by
  have hil := (List.getElem?_eq_some_iff.1 hi).1
  have hset0 := set_id hi
  have hgi : ∀ h : i < H.length, H[i]'h = .cells (entAV d ++ rest) := fun h => by rw [List.getElem?_eq_getElem h] at hi; exact Option.some.inj hi
  have HOs : HOk H T → ∀ d2, HOk (H.set i (.cells (entAV d2 ++ rest))) T := fun HO k => HO.set (by simp [hr])
  have bm : (((m : Int) - a) == 1) = false := by rw [beq_eq_false_iff_ne]; omega
  have bm' : ¬ ((m : Int) - a) = 1 := by omega
  have bb : (((b : Int) - m) == 1) = true := by rw [beq_iff_eq]; omega
  have bb' : ((b : Int) - m) = 1 := by omega
  have hcl := fun (x y : Ent) => cmpC_ok x y H T
  refine acall_enter 25 [] Try.ntmps68 Try.func68 rfl (fun _ _ => Try.call68 _ _) (by simp) (fun HO => ?_)
  have HO' := HOs HO
  refine aw_then fun K1 hK1 => ?_
  refine aw_reg fun K hK => ?_; simp (maxSteps := 1000000) (disch := omega) [-List.getD_eq_getElem?_getD, bm, bm']; refine hK _ ?_; clear hK K
  refine aw_if rfl (fun h => absurd h (by simp [bm'])) (fun h => ?_)
  refine aw_skip ?_; simp (maxSteps := 1000000) (disch := omega) [-List.getD_eq_getElem?_getD]
  refine hK1 _ ?_; clear hK1
  refine aw_then fun K1 hK1 => ?_
  refine aw_reg fun K hK => ?_; simp (maxSteps := 1000000) (disch := omega) [-List.getD_eq_getElem?_getD, bb, bb']; refine hK _ ?_; clear hK K
  refine aw_if rfl (fun h => ?_) (fun h => absurd h (by simp [bb']))
  refine aw_reg fun K hK => ?_; simp (maxSteps := 1000000) (disch := omega) [-List.getD_eq_getElem?_getD]; refine hK _ ?_; clear hK K
  refine aw_reg fun K hK => ?_; simp (maxSteps := 1000000) (disch := omega) [-List.getD_eq_getElem?_getD]; refine hK _ ?_; clear hK K
  refine aw_then fun K2 hK2 => ?_
  refine aw_block ?_
  refine aw_loop (X := Nat × Nat) (fun x => ⟨[(0, .msl i 0 N), (1, .int .i64 (a : Nat)), (2, .int .i64 (m : Nat)), (3, .int .i64 (b : Nat)), (4, .fn 45 [] []), (14, .int .i64 (x.1 : Nat)), (15, .int .i64 (x.2 : Nat))], H, T⟩)
    (fun x => a ≤ x.1 ∧ x.1 ≤ x.2 ∧ x.2 ≤ m ∧ (∀ t, a ≤ t → t < x.1 → (d.getD m ze).2 ≤ (d.getD t ze).2) ∧ ∀ t, x.2 ≤ t → t < m → (d.getD t ze).2 < (d.getD m ze).2) (fun x => x.2 - x.1) (a, m) ?_ ?_ ?_
  · exact ⟨Nat.le_refl _, by simp only; omega, Nat.le_refl _, fun t t1 t2 => by simp only at t2; omega, fun t t1 t2 => by simp only at t1; omega⟩
  · refine weak_to [] [] ?_ ?_ ?_ ?_ HO ?_
    all_goals simp [hil]
  · rintro ⟨lo, hi2⟩ ⟨g1, g2, g3, g4, g5⟩
    simp only at g1 g2 g3 g4 g5
    refine aw_then fun K3 hK3 => ?_
    refine aw_reg fun K hK => ?_; simp (maxSteps := 1000000) (disch := omega) [-List.getD_eq_getElem?_getD]; refine hK _ ?_; clear hK K
    refine aw_if rfl (fun hk => ?_) (fun hk => ?_)
    · simp [-List.getD_eq_getElem?_getD] at hk
      refine aw_skip ?_; simp (maxSteps := 1000000) (disch := omega) [-List.getD_eq_getElem?_getD]
      refine hK3 _ ?_; clear hK3
      refine aw_block ?_
      refine aw_reg fun K hK => ?_; simp (maxSteps := 1000000) (disch := omega) [-List.getD_eq_getElem?_getD]; refine hK _ ?_; clear hK K
      rw [show ((lo : Int) + hi2) / 2 = (((lo + hi2) / 2 : Nat) : Int) by omega]
      have hge : lo ≤ (lo + hi2) / 2 := by omega
      have hlt : (lo + hi2) / 2 < hi2 := by omega
      generalize (lo + hi2) / 2 = c at *
      have hc1 := ent_cut (d := d) (k := m) rest (by omega)
      have hc2 := ent_cut (d := d) (k := c) rest (by omega)
      have cc := hcl (d.getD m ze) (d.getD c ze)
      have hneg := cmpI_neg (d.getD c ze).2 (d.getD m ze).2
      generalize cmpI (d.getD c ze).2 (d.getD m ze).2 = q at *
      by_cases hq : q < 0
      · have bq : decide (q < 0) = true := decide_eq_true hq
        refine aw_draw [] [] [] drawMixed (by kernel_rfl) (by kernel_rfl) fun K hK => ?_; simp (maxSteps := 1000000) (disch := omega) [-List.getD_eq_getElem?_getD, hgi, hc1, hc2, entAV_len, hd]
        refine dcall_is (cc) rfl ?_; simp (maxSteps := 1000000) (disch := omega) [-List.getD_eq_getElem?_getD, bq, hq]
        refine hK _ ?_; clear hK K
        refine aw_if rfl (fun h => absurd h (by simp)) (fun h => ?_)
        refine aw_reg0 fun K hK => ?_; simp (maxSteps := 1000000) (disch := omega) [-List.getD_eq_getElem?_getD]
        refine hK _ ?_; clear hK K
        refine ⟨(lo, c), ⟨g1, hge, by simp only; omega, g4, fun t t1 t2 => ?_⟩, by show c - lo < hi2 - lo; omega, ?_⟩
        · have e1 := hmp.l.ge (by omega : a ≤ c) t1 t2
          have e2 := hneg.1 hq
          omega
        · refine weak_to [] [] ?_ ?_ ?_ ?_ HO ?_
          all_goals simp [hil]
      · have bq : decide (q < 0) = false := decide_eq_false hq
        refine aw_draw [] [] [] drawMixed (by kernel_rfl) (by kernel_rfl) fun K hK => ?_; simp (maxSteps := 1000000) (disch := omega) [-List.getD_eq_getElem?_getD, hgi, hc1, hc2, entAV_len, hd]
        refine dcall_is (cc) rfl ?_; simp (maxSteps := 1000000) (disch := omega) [-List.getD_eq_getElem?_getD, bq, hq]
        refine hK _ ?_; clear hK K
        refine aw_if rfl (fun h => ?_) (fun h => absurd h (by simp))
        refine aw_reg0 fun K hK => ?_; simp (maxSteps := 1000000) (disch := omega) [-List.getD_eq_getElem?_getD]
        refine hK _ ?_; clear hK K
        refine ⟨(c + 1, hi2), ⟨by simp only; omega, by simp only; omega, g3, fun t t1 t2 => ?_, g5⟩, by show hi2 - (c + 1) < hi2 - lo; omega, ?_⟩
        · have e1 := hmp.l.ge t1 (by simp only at t2; omega : t ≤ c) (by omega)
          have e2 : ¬ (d.getD c ze).2 < (d.getD m ze).2 := fun e => hq (hneg.2 e)
          omega
        · refine weak_to [] [] ?_ ?_ ?_ ?_ HO ?_
          all_goals simp [hil]
    · simp [-List.getD_eq_getElem?_getD] at hk
      have e : hi2 = lo := by omega
      subst e
      refine aw_exit ?_; simp (maxSteps := 1000000) (disch := omega) [-List.getD_eq_getElem?_getD]
      refine hK2 _ ?_; clear hK2
      refine aw_then fun K2 hK2 => ?_
      refine aw_reg fun K hK => ?_; simp (maxSteps := 1000000) (disch := omega) [-List.getD_eq_getElem?_getD]; refine hK _ ?_; clear hK K
      refine aw_block ?_
      refine aw_loop (X := List Ent × Nat) (fun x => ⟨[(0, .msl i 0 N), (14, .int .i64 (hi2 : Nat)), (17, .int .i64 (x.2 : Nat))], H.set i (.cells (entAV x.1 ++ rest)), T⟩)
        (fun x => hi2 ≤ x.2 ∧ x.2 ≤ m ∧ x.1.Perm d ∧ Mov d x.1 x.2 m) (fun x => x.2) (d, m) ?_ ?_ ?_
      · exact ⟨by simp only; omega, Nat.le_refl _, .refl _, Mov.zero _ _⟩
      · refine weak_to [] [] ?_ ?_ ?_ ?_ (HO' d) ?_
        all_goals simp [hil, hset0]
      · rintro ⟨d2, k⟩ ⟨k1, k2, k3, k4⟩
        simp only at k1 k2 k3 k4
        have hl2 := k3.length_eq
        refine aw_then fun K3 hK3 => ?_
        by_cases hk3 : hi2 < k
        · have bk : decide ((hi2 : Int) < k) = true := decide_eq_true (by omega)
          have hc1 := ent_cut (d := d2) (k := k - 1) rest (by omega)
          have hc2 := ent_cut (d := d2) (k := k) rest (by omega)
          have hsw := ent_swp d2 k (k - 1) rest (by omega) (by omega)
          have ej : ((k : Int) - 1) = ((k - 1 : Nat) : Int) := by omega
          refine aw_reg fun K hK => ?_; simp (maxSteps := 1000000) (disch := omega) [-List.getD_eq_getElem?_getD, bk, hk3]; refine hK _ ?_; clear hK K
          refine aw_if rfl (fun h => ?_) (fun h => absurd h (by simp))
          refine aw_skip ?_; simp (maxSteps := 1000000) (disch := omega) [-List.getD_eq_getElem?_getD]
          refine hK3 _ ?_; clear hK3
          refine aw_then fun K4 hK4 => ?_
          refine aw_block ?_
          refine aw_draw0 [15, 17] [0, 0, 0, 0, 0, 0, 0, 0, 0, 0, 0, 0, 0, 0, 0, 0, 1, 1] [[2, 3, 4], []] drawMixed (by kernel_rfl) (by kernel_rfl) fun K hK => ?_; simp (maxSteps := 1000000) (disch := omega) [-List.getD_eq_getElem?_getD, ej, hc1, hc2, entAV_len, hl2, hd, hil]
          rw [hsw]
          refine hK _ ?_; clear hK K
          refine hK4 _ ?_; clear hK4
          refine aw_reg0 fun K hK => ?_; simp (maxSteps := 1000000) (disch := omega) [-List.getD_eq_getElem?_getD, ej]
          refine hK _ ?_; clear hK K
          refine ⟨(swp d2 k (k - 1), k - 1), ⟨by simp only; omega, by simp only; omega, (swp_perm (by omega) (by omega)).trans k3, k4.step (by omega) k2 (by omega)⟩, by show k - 1 < k; omega, ?_⟩
          refine weak_to [] [] ?_ ?_ ?_ ?_ (HO' _) ?_
          all_goals simp [hil]
        · have bk : decide ((hi2 : Int) < k) = false := decide_eq_false (by omega)
          have e : hi2 = k := by omega
          subst e
          refine aw_reg fun K hK => ?_; simp (maxSteps := 1000000) (disch := omega) [-List.getD_eq_getElem?_getD, bk, hk3]; refine hK _ ?_; clear hK K
          refine aw_if rfl (fun h => absurd h (by simp)) (fun h => ?_)
          refine aw_exit ?_; simp (maxSteps := 1000000) (disch := omega) [-List.getD_eq_getElem?_getD]
          refine hK2 _ ?_; clear hK2
          refine aw_ret ?_; simp (maxSteps := 1000000) (disch := omega) [-List.getD_eq_getElem?_getD]
          subst hmb
          exact ⟨rfl, rfl, d2, rfl, (k4.seg k2 k3).wide g1 (Nat.le_refl _), k4.sorted g1 k2 hmp.l (fun t t1 t2 => hmp.w t m t1 t2 (Nat.le_refl _) (by omega)) g4 g5⟩

set_option maxRecDepth 100000 in
set_option maxHeartbeats 8000000 in
theorem merge3_ok (n N : Nat) (hN : N ≤ 1000) (ih : MergeOk n N) (d : List Ent) (rest : List AV) (a m b i : Nat) (hn : b - a ≤ n + 1) (ham : a < m) (hma : m ≠ a + 1) (hmb : m < b) (hmb2 : b ≠ m + 1) (hbl : b ≤ N) (hd : d.length = N) (hmp : MP d a m b) (H : List Blk) (T : Toks) (hi : H[i]? = some (.cells (entAV d ++ rest))) (hr : BelowAll H.length T.length rest) :
    ACall Try.prog 68 [.msl i 0 N, .int .i64 (a : Nat), .int .i64 (m : Nat), .int .i64 (b : Nat), .fn 45 [] []] H T (TurnQ i rest H T (fun d' => Seg d d' a b ∧ Sg d' a b)) := by
  have hil := (List.getElem?_eq_some_iff.1 hi).1
  have hset0 := set_id hi
  have hgi : ∀ h : i < H.length, H[i]'h = .cells (entAV d ++ rest) := fun h => by rw [List.getElem?_eq_getElem h] at hi; exact Option.some.inj hi
  have HOs : HOk H T → ∀ d2, HOk (H.set i (.cells (entAV d2 ++ rest))) T := fun HO k => HO.set (by simp [hr])
  have bm : (((m : Int) - a) == 1) = false := by rw [beq_eq_false_iff_ne]; omega
  have bm' : ¬ ((m : Int) - a) = 1 := by omega
  have bb : (((b : Int) - m) == 1) = false := by rw [beq_eq_false_iff_ne]; omega
  have bb' : ¬ ((b : Int) - m) = 1 := by omega
  have hcl := fun (x y : Ent) => cmpC_ok x y H T
  refine acall_enter 25 [] Try.ntmps68 Try.func68 rfl (fun _ _ => Try.call68 _ _) (by simp) (fun HO => ?_)
  have HO' := HOs HO
  refine aw_then fun K1 hK1 => ?_
  refine aw_reg fun K hK => ?_; simp (maxSteps := 1000000) (disch := omega) [-List.getD_eq_getElem?_getD, bm, bm']; refine hK _ ?_; clear hK K
  refine aw_if rfl (fun h => absurd h (by simp [bm'])) (fun h => ?_)
  refine aw_skip ?_; simp (maxSteps := 1000000) (disch := omega) [-List.getD_eq_getElem?_getD]
  refine hK1 _ ?_; clear hK1
  refine aw_then fun K1 hK1 => ?_
  refine aw_reg fun K hK => ?_; simp (maxSteps := 1000000) (disch := omega) [-List.getD_eq_getElem?_getD, bb, bb']; refine hK _ ?_; clear hK K
  refine aw_if rfl (fun h => absurd h (by simp [bb'])) (fun h => ?_)
  refine aw_skip ?_; simp (maxSteps := 1000000) (disch := omega) [-List.getD_eq_getElem?_getD]
  refine hK1 _ ?_; clear hK1
  refine aw_reg fun K hK => ?_; simp (maxSteps := 1000000) (disch := omega) [-List.getD_eq_getElem?_getD]; refine hK _ ?_; clear hK K
  rw [show ((a : Int) + b) / 2 = (((a + b) / 2 : Nat) : Int) by omega]
  obtain ⟨mid, hmid⟩ : ∃ mid, mid = (a + b) / 2 := ⟨_, rfl⟩
  rw [← hmid]
  refine aw_reg fun K hK => ?_; simp (maxSteps := 1000000) (disch := omega) [-List.getD_eq_getElem?_getD]; refine hK _ ?_; clear hK K
  refine aw_reg fun K hK => ?_; simp (maxSteps := 1000000) (disch := omega) [-List.getD_eq_getElem?_getD]; refine hK _ ?_; clear hK K
  refine aw_then fun K1 hK1 => ?_
  have key : ∀ (s0 r0 : Nat) e, ((m ≤ mid ∧ s0 = a ∧ r0 = m) ∨ (mid < m ∧ s0 = mid + m - b ∧ r0 = mid)) → envLe H.length T.length e [(0, .msl i 0 N), (1, .int .i64 (a : Nat)), (2, .int .i64 (m : Nat)), (3, .int .i64 (b : Nat)), (4, .fn 45 [] []), (18, .int .i64 (mid : Nat)), (19, .int .i64 ((mid : Int) + m)), (20, .int .i64 (s0 : Nat)), (21, .int .i64 (r0 : Nat))] → K1 ⟨e, H, T⟩ := by
    intro s0 r0 e hs he
    refine hK1 _ (aw_weak ⟨[(0, .msl i 0 N), (1, .int .i64 (a : Nat)), (2, .int .i64 (m : Nat)), (3, .int .i64 (b : Nat)), (4, .fn 45 [] []), (18, .int .i64 (mid : Nat)), (19, .int .i64 ((mid : Int) + m)), (20, .int .i64 (s0 : Nat)), (21, .int .i64 (r0 : Nat))], H, T⟩ (weak_to [] [] (by simp) (by simp) (by simp) (by simp) HO he) ?_)
    refine aw_reg fun K hK => ?_; simp (maxSteps := 1000000) (disch := omega) [-List.getD_eq_getElem?_getD]; refine hK _ ?_; clear hK K
    refine aw_then fun K2 hK2 => ?_
    refine aw_block ?_
    refine aw_loop (X := Nat × Nat) (fun x => ⟨[(0, .msl i 0 N), (1, .int .i64 (a : Nat)), (2, .int .i64 (m : Nat)), (3, .int .i64 (b : Nat)), (4, .fn 45 [] []), (18, .int .i64 (mid : Nat)), (19, .int .i64 ((mid : Int) + m)), (20, .int .i64 (x.1 : Nat)), (21, .int .i64 (x.2 : Nat)), (22, .int .i64 ((mid : Int) + m - 1))], H, T⟩)
      (fun x => s0 ≤ x.1 ∧ x.1 ≤ x.2 ∧ x.2 ≤ r0 ∧ (∀ c, s0 ≤ c → c < x.1 → (d.getD (mid + m - 1 - c) ze).2 ≤ (d.getD c ze).2) ∧ ∀ c, x.2 ≤ c → c < r0 → (d.getD c ze).2 < (d.getD (mid + m - 1 - c) ze).2) (fun x => x.2 - x.1) (s0, r0) ?_ ?_ ?_
    · exact ⟨Nat.le_refl _, by simp only; omega, Nat.le_refl _, fun t t1 t2 => by simp only at t2; omega, fun t t1 t2 => by simp only at t1; omega⟩
    · refine weak_to [] [] ?_ ?_ ?_ ?_ HO ?_
      all_goals simp [hil]
    · rintro ⟨lo, hi2⟩ ⟨g1, g2, g3, g4, g5⟩
      simp only at g1 g2 g3 g4 g5
      refine aw_then fun K3 hK3 => ?_
      refine aw_reg fun K hK => ?_; simp (maxSteps := 1000000) (disch := omega) [-List.getD_eq_getElem?_getD]; refine hK _ ?_; clear hK K
      refine aw_if rfl (fun hk => ?_) (fun hk => ?_)
      · simp [-List.getD_eq_getElem?_getD] at hk
        refine aw_skip ?_; simp (maxSteps := 1000000) (disch := omega) [-List.getD_eq_getElem?_getD]
        refine hK3 _ ?_; clear hK3
        refine aw_block ?_
        refine aw_reg fun K hK => ?_; simp (maxSteps := 1000000) (disch := omega) [-List.getD_eq_getElem?_getD]; refine hK _ ?_; clear hK K
        rw [show ((lo : Int) + hi2) / 2 = (((lo + hi2) / 2 : Nat) : Int) by omega]
        have hge : lo ≤ (lo + hi2) / 2 := by omega
        have hlt : (lo + hi2) / 2 < hi2 := by omega
        generalize (lo + hi2) / 2 = c at *
        have ep : ((mid : Int) + m - 1 - c) = ((mid + m - 1 - c : Nat) : Int) := by omega
        have pl : m ≤ mid + m - 1 - c := by omega
        have pb : mid + m - 1 - c < b := by omega
        have ca : a ≤ c := by omega
        have cm : c < m := by omega
        have hc1 := ent_cut (d := d) (k := mid + m - 1 - c) rest (by omega)
        have hc2 := ent_cut (d := d) (k := c) rest (by omega)
        have cc := hcl (d.getD (mid + m - 1 - c) ze) (d.getD c ze)
        have hneg := cmpI_neg (d.getD c ze).2 (d.getD (mid + m - 1 - c) ze).2
        generalize cmpI (d.getD c ze).2 (d.getD (mid + m - 1 - c) ze).2 = q at *
        by_cases hq : q < 0
        · have bq : decide (q < 0) = true := decide_eq_true hq
          refine aw_draw [] [] [] drawMixed (by kernel_rfl) (by kernel_rfl) fun K hK => ?_; simp (maxSteps := 1000000) (disch := omega) [-List.getD_eq_getElem?_getD, hgi, ep, hc1, hc2, entAV_len, hd]
          refine dcall_is (cc) rfl ?_; simp (maxSteps := 1000000) (disch := omega) [-List.getD_eq_getElem?_getD, bq, hq]
          refine hK _ ?_; clear hK K
          refine aw_if rfl (fun h => absurd h (by simp)) (fun h => ?_)
          refine aw_reg0 fun K hK => ?_; simp (maxSteps := 1000000) (disch := omega) [-List.getD_eq_getElem?_getD]
          refine hK _ ?_; clear hK K
          refine ⟨(lo, c), ⟨g1, hge, by simp only; omega, g4, fun t t1 t2 => ?_⟩, by show c - lo < hi2 - lo; omega, ?_⟩
          · have e1 := hmp.l.ge ca t1 (by omega)
            have e3 := hmp.r.ge (by omega : m ≤ mid + m - 1 - t) (by simp only at t1; omega : mid + m - 1 - t ≤ mid + m - 1 - c) pb
            have e2 := hneg.1 hq
            omega
          · refine weak_to [] [] ?_ ?_ ?_ ?_ HO ?_
            all_goals simp [hil]
        · have bq : decide (q < 0) = false := decide_eq_false hq
          refine aw_draw [] [] [] drawMixed (by kernel_rfl) (by kernel_rfl) fun K hK => ?_; simp (maxSteps := 1000000) (disch := omega) [-List.getD_eq_getElem?_getD, hgi, ep, hc1, hc2, entAV_len, hd]
          refine dcall_is (cc) rfl ?_; simp (maxSteps := 1000000) (disch := omega) [-List.getD_eq_getElem?_getD, bq, hq]
          refine hK _ ?_; clear hK K
          refine aw_if rfl (fun h => ?_) (fun h => absurd h (by simp))
          refine aw_reg0 fun K hK => ?_; simp (maxSteps := 1000000) (disch := omega) [-List.getD_eq_getElem?_getD]
          refine hK _ ?_; clear hK K
          refine ⟨(c + 1, hi2), ⟨by simp only; omega, by simp only; omega, g3, fun t t1 t2 => ?_, g5⟩, by show hi2 - (c + 1) < hi2 - lo; omega, ?_⟩
          · have e1 := hmp.l.ge (by omega : a ≤ t) (by simp only at t2; omega : t ≤ c) cm
            have e3 := hmp.r.ge pl (by simp only at t2; omega : mid + m - 1 - c ≤ mid + m - 1 - t) (by omega)
            have e2 : ¬ (d.getD c ze).2 < (d.getD (mid + m - 1 - c) ze).2 := fun e => hq (hneg.2 e)
            omega
          · refine weak_to [] [] ?_ ?_ ?_ ?_ HO ?_
            all_goals simp [hil]
      · simp [-List.getD_eq_getElem?_getD] at hk
        have e : hi2 = lo := by omega
        subst e
        refine aw_exit ?_; simp (maxSteps := 1000000) (disch := omega) [-List.getD_eq_getElem?_getD]
        refine hK2 _ ?_; clear hK2
        refine aw_reg fun K hK => ?_; simp (maxSteps := 1000000) (disch := omega) [-List.getD_eq_getElem?_getD]; refine hK _ ?_; clear hK K
        have hst : hi2 ≤ m := by omega
        have hen : m ≤ mid + m - hi2 := by omega
        have hcut := fun r hp hr => sym_cut (r := r) (st := hi2) hmp hmid ham hmb hs g1 g3 g4 g5 hp hr
        rw [show ((mid : Int) + m - hi2) = ((mid + m - hi2 : Nat) : Int) by omega]
        obtain ⟨en, hen2⟩ : ∃ en, en = mid + m - hi2 := ⟨_, rfl⟩
        rw [← hen2] at hcut hen ⊢
        have hmb3 : mid < b := by omega
        have ham3 : a < mid := by omega
        refine aw_then fun K3 hK3 => ?_
        have key2 : ∀ r e, Cut d r a m b hi2 en mid → envLe H.length T.length e [(0, .msl i 0 N), (1, .int .i64 (a : Nat)), (3, .int .i64 (b : Nat)), (4, .fn 45 [] []), (18, .int .i64 (mid : Nat)), (20, .int .i64 (hi2 : Nat)), (24, .int .i64 (en : Nat))] → K3 ⟨e, H.set i (.cells (entAV r ++ rest)), T⟩ := by
          intro r e hc he
          have hlr : r.length = N := by rw [hc.perm.length_eq, hd]
          have q1 := hc.h1; have q2 := hc.h2; have q3 := hc.h3; have q4 := hc.h4; have q5 := hc.hm
          refine hK3 _ (aw_weak ⟨[(0, .msl i 0 N), (1, .int .i64 (a : Nat)), (3, .int .i64 (b : Nat)), (4, .fn 45 [] []), (18, .int .i64 (mid : Nat)), (20, .int .i64 (hi2 : Nat)), (24, .int .i64 (en : Nat))], H.set i (.cells (entAV r ++ rest)), T⟩ (weak_to [] [] (by simp) (by simp) (by simp) (by simp) (HO' r) (by simpa using he)) ?_)
          refine aw_then fun K4 hK4 => ?_
          have key3 : ∀ r1 e, Seg r r1 a mid → Sg r1 a mid → envLe H.length T.length e [(0, .msl i 0 N), (3, .int .i64 (b : Nat)), (4, .fn 45 [] []), (18, .int .i64 (mid : Nat)), (24, .int .i64 (en : Nat))] → K4 ⟨e, H.set i (.cells (entAV r1 ++ rest)), T⟩ := by
            intro r1 e k1 k2 he
            refine hK4 _ (aw_weak ⟨[(0, .msl i 0 N), (3, .int .i64 (b : Nat)), (4, .fn 45 [] []), (18, .int .i64 (mid : Nat)), (24, .int .i64 (en : Nat))], H.set i (.cells (entAV r1 ++ rest)), T⟩ (weak_to [] [] (by simp) (by simp) (by simp) (by simp) (HO' r1) (by simpa using he)) ?_)
            by_cases w1 : mid < en
            · have v1 : decide ((mid : Int) < en) = true := decide_eq_true (by omega)
              by_cases w2 : en < b
              · have v2 : decide ((en : Int) < b) = true := decide_eq_true (by omega)
                have c2 := ih r1 rest mid en b i (by omega) w1 w2 hbl (by rw [k1.len, hlr]) (hc.mp2' hmp k1) (H.set i (.cells (entAV r1 ++ rest))) T (List.getElem?_set_self hil) (by simpa using hr)
                refine aw_reg fun K hK => ?_; simp (maxSteps := 1000000) (disch := omega) [-List.getD_eq_getElem?_getD, v1, v2, w1, w2]; refine hK _ ?_; clear hK K
                refine aw_if rfl (fun h => ?_) (fun h => absurd h (by simp [w1, w2]))
                refine aw_reg0 fun K hK => ?_; simp (maxSteps := 1000000) (disch := omega) [-List.getD_eq_getElem?_getD]
                refine ⟨_, c2, ?_⟩
                rintro v H' T' ⟨rfl, rfl, r2, rfl, k3, k4⟩
                simp (maxSteps := 1000000) (disch := omega) [-List.getD_eq_getElem?_getD]
                refine hK _ ?_; clear hK K
                exact ⟨rfl, rfl, r2, rfl, hc.done hmp k1 k2 k3 k4⟩
              · have v2 : decide ((en : Int) < b) = false := decide_eq_false (by omega)
                refine aw_reg fun K hK => ?_; simp (maxSteps := 1000000) (disch := omega) [-List.getD_eq_getElem?_getD, v1, v2, w1, w2]; refine hK _ ?_; clear hK K
                refine aw_if rfl (fun h => absurd h (by simp [w2])) (fun h => ?_)
                refine aw_skip ?_; simp (maxSteps := 1000000) (disch := omega) [-List.getD_eq_getElem?_getD]
                have e1 : en = b := by omega
                exact ⟨rfl, rfl, r1, rfl, hc.done hmp k1 k2 (Seg.refl _ _ _) (by have := (hc.mp2' hmp k1).l; rw [e1] at this; exact this)⟩
            · have v1 : decide ((mid : Int) < en) = false := decide_eq_false (by omega)
              refine aw_reg fun K hK => ?_; simp (maxSteps := 1000000) (disch := omega) [-List.getD_eq_getElem?_getD, v1, w1]; refine hK _ ?_; clear hK K
              refine aw_if rfl (fun h => absurd h (by simp [w1])) (fun h => ?_)
              refine aw_skip ?_; simp (maxSteps := 1000000) (disch := omega) [-List.getD_eq_getElem?_getD]
              have e1 : mid = en := by omega
              exact ⟨rfl, rfl, r1, rfl, hc.done hmp k1 k2 (Seg.refl _ _ _) (by have := (hc.mp2' hmp k1).r; rw [← e1] at this; exact this)⟩
          clear hK4
          by_cases w1 : a < hi2
          · have v1 : decide ((a : Int) < hi2) = true := decide_eq_true (by omega)
            by_cases w2 : hi2 < mid
            · have v2 : decide ((hi2 : Int) < mid) = true := decide_eq_true (by omega)
              have c2 := ih r rest a hi2 mid i (by omega) w1 w2 (by omega) hlr (hc.mp1 hmp) (H.set i (.cells (entAV r ++ rest))) T (List.getElem?_set_self hil) (by simpa using hr)
              refine aw_reg fun K hK => ?_; simp (maxSteps := 1000000) (disch := omega) [-List.getD_eq_getElem?_getD, v1, v2, w1, w2]; refine hK _ ?_; clear hK K
              refine aw_if rfl (fun h => ?_) (fun h => absurd h (by simp [w1, w2]))
              refine aw_reg0 fun K hK => ?_; simp (maxSteps := 1000000) (disch := omega) [-List.getD_eq_getElem?_getD]
              refine ⟨_, c2, ?_⟩
              rintro v H' T' ⟨rfl, rfl, r1, rfl, k3, k4⟩
              simp (maxSteps := 1000000) (disch := omega) [-List.getD_eq_getElem?_getD]
              refine hK _ ?_; clear hK K
              refine key3 r1 _ k3 k4 ?_
              simp [hil]
            · have v2 : decide ((hi2 : Int) < mid) = false := decide_eq_false (by omega)
              refine aw_reg fun K hK => ?_; simp (maxSteps := 1000000) (disch := omega) [-List.getD_eq_getElem?_getD, v1, v2, w1, w2]; refine hK _ ?_; clear hK K
              refine aw_if rfl (fun h => absurd h (by simp [w2])) (fun h => ?_)
              refine aw_skip ?_; simp (maxSteps := 1000000) (disch := omega) [-List.getD_eq_getElem?_getD]
              have e1 : hi2 = mid := by omega
              refine key3 r _ (Seg.refl _ _ _) (by have := (hc.mp1 hmp).l; rw [e1] at this; exact this) ?_
              simp [hil]
          · have v1 : decide ((a : Int) < hi2) = false := decide_eq_false (by omega)
            refine aw_reg fun K hK => ?_; simp (maxSteps := 1000000) (disch := omega) [-List.getD_eq_getElem?_getD, v1, w1]; refine hK _ ?_; clear hK K
            refine aw_if rfl (fun h => absurd h (by simp [w1])) (fun h => ?_)
            refine aw_skip ?_; simp (maxSteps := 1000000) (disch := omega) [-List.getD_eq_getElem?_getD]
            have e1 : a = hi2 := by omega
            refine key3 r _ (Seg.refl _ _ _) (by have := (hc.mp1 hmp).r; rw [← e1] at this; exact this) ?_
            simp [hil]
        clear hK3
        by_cases w1 : hi2 < m
        · have v1 : decide ((hi2 : Int) < m) = true := decide_eq_true (by omega)
          by_cases w2 : m < en
          · have v2 : decide ((m : Int) < en) = true := decide_eq_true (by omega)
            have c2 := rotate_ok d rest hi2 m en i w1 w2 (by omega) (by omega) H T hi hr
            rw [hd] at c2
            refine aw_reg fun K hK => ?_; simp (maxSteps := 1000000) (disch := omega) [-List.getD_eq_getElem?_getD, v1, v2, w1, w2]; refine hK _ ?_; clear hK K
            refine aw_if rfl (fun h => ?_) (fun h => absurd h (by simp [w1, w2]))
            refine aw_reg0 fun K hK => ?_; simp (maxSteps := 1000000) (disch := omega) [-List.getD_eq_getElem?_getD]
            refine ⟨_, c2, ?_⟩
            rintro v H' T' ⟨rfl, rfl, r1, rfl, k3, k4⟩
            simp (maxSteps := 1000000) (disch := omega) [-List.getD_eq_getElem?_getD]
            refine hK _ ?_; clear hK K
            refine key2 r1 _ (hcut r1 k3 k4) ?_
            simp [hil]
          · have v2 : decide ((m : Int) < en) = false := decide_eq_false (by omega)
            refine aw_reg fun K hK => ?_; simp (maxSteps := 1000000) (disch := omega) [-List.getD_eq_getElem?_getD, v1, v2, w1, w2]; refine hK _ ?_; clear hK K
            refine aw_if rfl (fun h => absurd h (by simp [w2])) (fun h => ?_)
            refine aw_skip ?_; simp (maxSteps := 1000000) (disch := omega) [-List.getD_eq_getElem?_getD]
            have := key2 d
            rw [hset0] at this
            refine this _ (hcut d (.refl _) (fun t => (rotAt_triv hst hen (.inr (by omega))).symm)) ?_
            simp [hil]
        · have v1 : decide ((hi2 : Int) < m) = false := decide_eq_false (by omega)
          refine aw_reg fun K hK => ?_; simp (maxSteps := 1000000) (disch := omega) [-List.getD_eq_getElem?_getD, v1, w1]; refine hK _ ?_; clear hK K
          refine aw_if rfl (fun h => absurd h (by simp [w1])) (fun h => ?_)
          refine aw_skip ?_; simp (maxSteps := 1000000) (disch := omega) [-List.getD_eq_getElem?_getD]
          have := key2 d
          rw [hset0] at this
          refine this _ (hcut d (.refl _) (fun t => (rotAt_triv hst hen (.inl (by omega))).symm)) ?_
          simp [hil]
  clear hK1
  by_cases hmm : mid < m
  · have bl : decide ((mid : Int) < m) = true := decide_eq_true (by omega)
    have en : ((mid : Int) + m - b) = ((mid + m - b : Nat) : Int) := by omega
    refine aw_reg fun K hK => ?_; simp (maxSteps := 1000000) (disch := omega) [-List.getD_eq_getElem?_getD, bl, hmm]; refine hK _ ?_; clear hK K
    refine aw_if rfl (fun h => ?_) (fun h => absurd h (by simp [hmm]))
    refine aw_reg fun K hK => ?_; simp (maxSteps := 1000000) (disch := omega) [-List.getD_eq_getElem?_getD]; refine hK _ ?_; clear hK K
    refine aw_reg0 fun K hK => ?_; simp (maxSteps := 1000000) (disch := omega) [-List.getD_eq_getElem?_getD]
    refine hK _ ?_; clear hK K
    refine key (mid + m - b) mid _ (.inr ⟨hmm, rfl, rfl⟩) ?_
    simp [hil, en]
  · have bl : decide ((mid : Int) < m) = false := decide_eq_false (by omega)
    refine aw_reg fun K hK => ?_; simp (maxSteps := 1000000) (disch := omega) [-List.getD_eq_getElem?_getD, bl, hmm]; refine hK _ ?_; clear hK K
    refine aw_if rfl (fun h => absurd h (by simp [hmm])) (fun h => ?_)
    refine aw_reg fun K hK => ?_; simp (maxSteps := 1000000) (disch := omega) [-List.getD_eq_getElem?_getD]; refine hK _ ?_; clear hK K
    refine aw_reg0 fun K hK => ?_; simp (maxSteps := 1000000) (disch := omega) [-List.getD_eq_getElem?_getD]
    refine hK _ ?_; clear hK K
    refine key a m _ (.inl ⟨by omega, rfl, rfl⟩) ?_
    simp [hil]

theorem merge_ok (N : Nat) (hN : N ≤ 1000) : ∀ n, MergeOk n N
  | 0 => fun d rest a m b i hn ham hmb => by omega
  | n + 1 => fun d rest a m b i hn ham hmb hbl hd hmp H T hi hr => by
    by_cases h1 : m = a + 1
    · exact merge1_ok N hN d rest a m b i h1 hmb hbl hd hmp H T hi hr
    · by_cases h2 : b = m + 1
      · exact merge2_ok N hN d rest a m b i ham h1 h2 hbl hd hmp H T hi hr
      · exact merge3_ok n N hN (merge_ok N hN n) d rest a m b i hn ham h1 hmb h2 hbl hd hmp H T hi hr
end Go.Proofs.Ytbijefgmleagnaa
