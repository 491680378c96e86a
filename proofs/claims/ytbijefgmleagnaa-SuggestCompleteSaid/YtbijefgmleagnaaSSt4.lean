/- slices.SortStableFunc on a box of at most 40 entries.
   Conditions: as the theorems say. -/
import Derived.Test.YtbijefgmleagnaaSSt3
namespace Sug
open Go.Proofs.Ytbijefgmleagnaa
/-- Blocks of twenty, each in order. -/
structure Bs (d d1 : List Ent) (N : Nat) : Prop where
  seg : Seg d d1 0 N
  one : N ≤ 20 → Sg d1 0 N
  two : 20 < N → MP d1 0 20 N
end Sug
namespace Go.Proofs.Ytbijefgmleagnaa
open Go Go.Am Sug
set_option linter.unusedVariables false

set_option maxRecDepth 100000 in
set_option maxHeartbeats 8000000 in
theorem stable_ok (N : Nat) (hN : N ≤ 40) (d : List Ent) (rest : List AV) (i : Nat) (hd : d.length = N) (hw : Wg d 0 N) (H : List Blk) (T : Toks) (hi : H[i]? = some (.cells (entAV d ++ rest))) (hr : BelowAll H.length T.length rest) :
    ACall Try.prog 55 [.msl i 0 N, .int .i64 (N : Nat), .fn 45 [] []] H T (TurnQ i rest H T (fun d' => Seg d d' 0 N ∧ Sg d' 0 N)) := by
  have hil := (List.getElem?_eq_some_iff.1 hi).1
  have hset0 := set_id hi
  have HOs : HOk H T → ∀ d2, HOk (H.set i (.cells (entAV d2 ++ rest))) T := fun HO k => HO.set (by simp [hr])
  refine acall_enter 10 [] Try.ntmps55 Try.func55 rfl (fun _ _ => Try.call55 _ _) (by simp) (fun HO => ?_)
  have HO' := HOs HO
  refine aw_reg fun K hK => ?_; simp (maxSteps := 1000000) (disch := omega) [-List.getD_eq_getElem?_getD]; refine hK _ ?_; clear hK K
  refine aw_reg fun K hK => ?_; simp (maxSteps := 1000000) (disch := omega) [-List.getD_eq_getElem?_getD]; refine hK _ ?_; clear hK K
  refine aw_then fun K1 hK1 => ?_
  refine aw_block ?_
  refine aw_loop (X := List Ent × Nat) (fun x => ⟨[(0, .msl i 0 N), (1, .int .i64 (N : Nat)), (2, .fn 45 [] []), (6, .int .i64 20), (7, .int .i64 ((x.2 * 20 : Nat) : Int)), (8, .int .i64 ((x.2 * 20 : Nat) + 20 : Int))], H.set i (.cells (entAV x.1 ++ rest)), T⟩)
    (fun x => x.2 * 20 ≤ N ∧ x.1.Perm d ∧ (∀ t, x.2 * 20 ≤ t → x.1.getD t ze = d.getD t ze) ∧ (∀ c, c < x.2 → Sg x.1 (c * 20) (c * 20 + 20)) ∧ ∀ t, t < x.2 * 20 → ∃ u, u / 20 = t / 20 ∧ x.1.getD t ze = d.getD u ze) (fun x => N - x.2 * 20) (d, 0) ?_ ?_ ?_
  · exact ⟨by simp only; omega, .refl _, fun _ _ => rfl, fun c hc => by simp only at hc; omega, fun t ht => by simp only at ht; omega⟩
  · refine weak_to [] [] ?_ ?_ ?_ ?_ (HO' d) ?_
    all_goals simp [hil, hset0]
  · rintro ⟨d1, k⟩ ⟨g1, g2, g3, g4, g5⟩
    simp only at g1 g2 g3 g4 g5
    have hl1 : d1.length = N := by rw [g2.length_eq, hd]
    obtain ⟨a, ha⟩ : ∃ a, a = k * 20 := ⟨_, rfl⟩
    rw [← ha] at g1 g3 g5
    have hwa : Wg d1 a N := fun p q p1 p2 p3 => by
      rw [g3 p p1, g3 q (by omega)]
      exact hw p q (by omega) p2 p3
    simp only [← ha]
    refine aw_then fun K2 hK2 => ?_
    by_cases hk : a + 20 ≤ N
    · have bk : decide ((a : Int) + 20 ≤ N) = true := decide_eq_true (by omega)
      have bk' : ((a : Int) + 20 ≤ N) := by omega
      have c := insert_ok d1 rest a (a + 20) i (by omega) (by omega) (by omega) (fun p q p1 p2 p3 => hwa p q p1 p2 (by omega)) (H.set i (.cells (entAV d1 ++ rest))) T (List.getElem?_set_self hil) (by simpa using hr)
      rw [hl1, show ((a + 20 : Nat) : Int) = (a : Int) + 20 by omega] at c
      refine aw_reg fun K hK => ?_; simp (maxSteps := 1000000) (disch := omega) [-List.getD_eq_getElem?_getD, bk, bk']; refine hK _ ?_; clear hK K
      refine aw_if rfl (fun h => ?_) (fun h => absurd h (by simp [bk']))
      refine aw_skip ?_; simp (maxSteps := 1000000) (disch := omega) [-List.getD_eq_getElem?_getD]
      refine hK2 _ ?_; clear hK2
      refine aw_block ?_
      refine aw_reg fun K hK => ?_; simp (maxSteps := 1000000) (disch := omega) [-List.getD_eq_getElem?_getD]
      refine ⟨_, c, ?_⟩
      rintro v H' T' ⟨rfl, rfl, d2, rfl, k1, k2⟩
      simp (maxSteps := 1000000) (disch := omega) [-List.getD_eq_getElem?_getD]
      refine hK _ ?_; clear hK K
      refine aw_reg fun K hK => ?_; simp (maxSteps := 1000000) (disch := omega) [-List.getD_eq_getElem?_getD]; refine hK _ ?_; clear hK K
      refine aw_reg0 fun K hK => ?_; simp (maxSteps := 1000000) (disch := omega) [-List.getD_eq_getElem?_getD]
      refine hK _ ?_; clear hK K
      refine ⟨(d2, k + 1), ⟨by simp only; omega, k1.perm.trans g2, fun t ht => ?_, fun c hc => ?_, fun t ht => ?_⟩, by show N - (k + 1) * 20 < N - a; omega, ?_⟩
      · simp only at ht
        rw [k1.out t (by omega)]; exact g3 t (by omega)
      · simp only at hc
        rcases Nat.lt_or_ge c k with e | e
        · intro p q p1 p2 p3
          rw [k1.out p (by omega), k1.out q (by omega)]
          exact g4 c e p q p1 p2 p3
        · have : c = k := by omega
          subst this
          rw [← ha]; exact k2
      · simp only at ht
        rcases Nat.lt_or_ge t a with e | e
        · rw [k1.out t (by omega)]; exact g5 t e
        · obtain ⟨u, u1, u2, u3⟩ := k1.frm t e (by omega)
          exact ⟨u, by omega, by rw [u3]; exact g3 u u1⟩
      · refine weak_to [] [] ?_ ?_ ?_ ?_ (HO' d2) ?_
        all_goals simp [hil]
        all_goals omega
    · have bk : decide ((a : Int) + 20 ≤ N) = false := decide_eq_false (by omega)
      have bk' : ¬ ((a : Int) + 20 ≤ N) := by omega
      have c := insert_ok d1 rest a N i (by omega) (by omega) (by omega) hwa (H.set i (.cells (entAV d1 ++ rest))) T (List.getElem?_set_self hil) (by simpa using hr)
      rw [hl1] at c
      refine aw_reg fun K hK => ?_; simp (maxSteps := 1000000) (disch := omega) [-List.getD_eq_getElem?_getD, bk, bk']; refine hK _ ?_; clear hK K
      refine aw_if rfl (fun h => absurd h (by simp [bk'])) (fun h => ?_)
      refine aw_exit ?_; simp (maxSteps := 1000000) (disch := omega) [-List.getD_eq_getElem?_getD]
      refine hK1 _ ?_; clear hK1
      refine aw_reg fun K hK => ?_; simp (maxSteps := 1000000) (disch := omega) [-List.getD_eq_getElem?_getD]
      refine ⟨_, c, ?_⟩
      rintro v H' T' ⟨rfl, rfl, d2, rfl, k1, k2⟩
      simp (maxSteps := 1000000) (disch := omega) [-List.getD_eq_getElem?_getD]
      refine hK _ ?_; clear hK K
      have hbs : Bs d d2 N := by
        have hfr : ∀ t, t < N → ∃ u, u / 20 = t / 20 ∧ u < N ∧ d2.getD t ze = d.getD u ze := fun t ht => by
          rcases Nat.lt_or_ge t a with e | e
          · obtain ⟨u, u1, u2⟩ := g5 t e
            exact ⟨u, u1, by omega, by rw [k1.out t (by omega)]; exact u2⟩
          · obtain ⟨u, u1, u2, u3⟩ := k1.frm t e ht
            exact ⟨u, by omega, u2, by rw [u3]; exact g3 u u1⟩
        have hs : ∀ c, c < k → Sg d2 (c * 20) (c * 20 + 20) := fun c e p q p1 p2 p3 => by
          rw [k1.out p (by omega), k1.out q (by omega)]
          exact g4 c e p q p1 p2 p3
        refine ⟨⟨k1.perm.trans g2, fun t ht => ?_, fun t t1 t2 => ?_⟩, fun h20 => ?_, fun h20 => ⟨?_, ?_, fun p q p1 p2 p3 p4 => ?_⟩⟩
        · rw [k1.out t (by omega)]; exact g3 t (by omega)
        · obtain ⟨u, u1, u2, u3⟩ := hfr t t2
          exact ⟨u, by omega, u2, u3⟩
        · rcases Nat.eq_zero_or_pos k with e | e
          · subst e
            have : a = 0 := by omega
            rw [this] at k2; exact k2
          · have hk1 : k = 1 := by omega
            subst hk1
            have : N = 20 := by omega
            subst this
            exact hs 0 (by omega)
        · exact hs 0 (by omega)
        · rcases Nat.eq_or_lt_of_le (show 1 ≤ k by omega) with e | e
          · have : a = 20 := by omega
            rw [this] at k2; exact k2
          · have hk2 : k = 2 := by omega
            have : N = 40 := by omega
            rw [this]
            exact hs 1 (by omega)
        · obtain ⟨u, u1, u2, u3⟩ := hfr p (by omega)
          obtain ⟨v, v1, v2, v3⟩ := hfr q p4
          rw [u3, v3]
          exact hw u v (by omega) (by omega) v2
      clear k1 k2 g2 g3 g4 g5 c hwa
      refine aw_block ?_
      refine aw_loop (X := List Ent × Nat) (fun x => ⟨[(0, .msl i 0 N), (1, .int .i64 (N : Nat)), (2, .fn 45 [] []), (6, .int .i64 (x.2 : Nat))], H.set i (.cells (entAV x.1 ++ rest)), T'⟩)
        (fun x => (x.2 = 20 ∧ x.1 = d2) ∨ (x.2 = 40 ∧ Seg d x.1 0 N ∧ Sg x.1 0 N)) (fun x => 40 - x.2) (d2, 20) ?_ ?_ ?_
      · exact .inl ⟨rfl, rfl⟩
      · refine weak_to [] [] ?_ ?_ ?_ ?_ (HO' d2) ?_
        all_goals simp [hil]
      · rintro ⟨d3, z⟩ hz
        simp only at hz
        refine aw_then fun K2 hK2 => ?_
        rcases hz with ⟨rfl, rfl⟩ | ⟨rfl, z1, z2⟩
        · by_cases h20 : 20 < N
          · have b20 : decide ((20 : Int) < N) = true := decide_eq_true (by omega)
            have b20' : (20 : Int) < N := by omega
            have hmp := hbs.two h20
            have hl3 : d3.length = N := by rw [hbs.seg.len, hd]
            refine aw_reg fun K hK => ?_; simp (maxSteps := 1000000) (disch := omega) [-List.getD_eq_getElem?_getD, b20, b20']; refine hK _ ?_; clear hK K
            refine aw_if rfl (fun h => ?_) (fun h => absurd h (by simp [h20]))
            refine aw_skip ?_; simp (maxSteps := 1000000) (disch := omega) [-List.getD_eq_getElem?_getD]
            refine hK2 _ ?_; clear hK2
            refine aw_block ?_
            refine aw_reg fun K hK => ?_; simp (maxSteps := 1000000) (disch := omega) [-List.getD_eq_getElem?_getD]; refine hK _ ?_; clear hK K
            refine aw_then fun K3 hK3 => ?_
            refine aw_block ?_
            refine aw_loop (X := List Ent × Nat) (fun x => ⟨[(0, .msl i 0 N), (1, .int .i64 (N : Nat)), (2, .fn 45 [] []), (6, .int .i64 20), (7, .int .i64 ((x.2 * 40 : Nat) : Int)), (8, .int .i64 (((x.2 * 40 : Nat) : Int) + 40))], H.set i (.cells (entAV x.1 ++ rest)), T'⟩)
              (fun x => (x.2 = 0 ∧ x.1 = d3) ∨ (x.2 = 1 ∧ N = 40 ∧ Seg d x.1 0 N ∧ Sg x.1 0 N)) (fun x => 1 - x.2) (d3, 0) ?_ ?_ ?_
            · exact .inl ⟨rfl, rfl⟩
            · refine weak_to [] [] ?_ ?_ ?_ ?_ (HO' d3) ?_
              all_goals simp [hil]
            · rintro ⟨d4, j⟩ hz
              simp only at hz
              refine aw_then fun K4 hK4 => ?_
              rcases hz with ⟨rfl, rfl⟩ | ⟨rfl, z0, z1, z2⟩
              · by_cases h40 : N = 40
                · subst h40
                  have c : ACall Try.prog 68 [.msl i 0 40, .int .i64 0, .int .i64 20, .int .i64 40, .fn 45 [] []] (H.set i (.cells (entAV d4 ++ rest))) T' (TurnQ i rest (H.set i (.cells (entAV d4 ++ rest))) T' (fun d' => Seg d4 d' 0 40 ∧ Sg d' 0 40)) :=
                    merge_ok 40 (by decide) 40 d4 rest 0 20 40 i (by omega) (by omega) (by omega) (by omega) hl3 hmp (H.set i (.cells (entAV d4 ++ rest))) T' (List.getElem?_set_self hil) (by simpa using hr)
                  refine aw_reg fun K hK => ?_; simp (maxSteps := 1000000) (disch := omega) [-List.getD_eq_getElem?_getD]; refine hK _ ?_; clear hK K
                  refine aw_if rfl (fun h => ?_) (fun h => absurd h (by simp))
                  refine aw_skip ?_; simp (maxSteps := 1000000) (disch := omega) [-List.getD_eq_getElem?_getD]
                  refine hK4 _ ?_; clear hK4
                  refine aw_block ?_
                  refine aw_reg fun K hK => ?_; simp (maxSteps := 1000000) (disch := omega) [-List.getD_eq_getElem?_getD]
                  refine ⟨_, c, ?_⟩
                  rintro v H' T'' ⟨rfl, rfl, d5, rfl, k1, k2⟩
                  simp (maxSteps := 1000000) (disch := omega) [-List.getD_eq_getElem?_getD]
                  refine hK _ ?_; clear hK K
                  refine aw_reg fun K hK => ?_; simp (maxSteps := 1000000) (disch := omega) [-List.getD_eq_getElem?_getD]; refine hK _ ?_; clear hK K
                  refine aw_reg0 fun K hK => ?_; simp (maxSteps := 1000000) (disch := omega) [-List.getD_eq_getElem?_getD]
                  refine hK _ ?_; clear hK K
                  refine ⟨(d5, 1), .inr ⟨rfl, rfl, hbs.seg.trans k1, k2⟩, by show 1 - 1 < 1 - 0; omega, ?_⟩
                  refine weak_to [] [] ?_ ?_ ?_ ?_ (HO' d5) ?_
                  all_goals simp [hil]
                · have b40 : decide ((40 : Int) ≤ N) = false := decide_eq_false (by omega)
                  have b40' : ¬ (40 : Int) ≤ N := by omega
                  have c : ACall Try.prog 68 [.msl i 0 N, .int .i64 0, .int .i64 20, .int .i64 (N : Nat), .fn 45 [] []] (H.set i (.cells (entAV d4 ++ rest))) T' (TurnQ i rest (H.set i (.cells (entAV d4 ++ rest))) T' (fun d' => Seg d4 d' 0 N ∧ Sg d' 0 N)) :=
                    merge_ok N (by omega) 40 d4 rest 0 20 N i (by omega) (by omega) h20 (by omega) hl3 hmp (H.set i (.cells (entAV d4 ++ rest))) T' (List.getElem?_set_self hil) (by simpa using hr)
                  refine aw_reg fun K hK => ?_; simp (maxSteps := 1000000) (disch := omega) [-List.getD_eq_getElem?_getD, b40, b40']; refine hK _ ?_; clear hK K
                  refine aw_if rfl (fun h => absurd h (by simp)) (fun h => ?_)
                  refine aw_exit ?_; simp (maxSteps := 1000000) (disch := omega) [-List.getD_eq_getElem?_getD]
                  refine hK3 _ ?_; clear hK3
                  refine aw_then fun K4 hK4 => ?_
                  refine aw_reg fun K hK => ?_; simp (maxSteps := 1000000) (disch := omega) [-List.getD_eq_getElem?_getD]; refine hK _ ?_; clear hK K
                  refine aw_reg fun K hK => ?_; simp (maxSteps := 1000000) (disch := omega) [-List.getD_eq_getElem?_getD, b20, b20']; refine hK _ ?_; clear hK K
                  refine aw_if rfl (fun h => ?_) (fun h => absurd h (by simp [h20]))
                  refine aw_reg0 fun K hK => ?_; simp (maxSteps := 1000000) (disch := omega) [-List.getD_eq_getElem?_getD]
                  refine ⟨_, c, ?_⟩
                  rintro v H' T'' ⟨rfl, rfl, d5, rfl, k1, k2⟩
                  simp (maxSteps := 1000000) (disch := omega) [-List.getD_eq_getElem?_getD]
                  refine hK _ ?_; clear hK K
                  refine hK4 _ ?_; clear hK4
                  refine aw_reg0 fun K hK => ?_; simp (maxSteps := 1000000) (disch := omega) [-List.getD_eq_getElem?_getD]
                  refine hK _ ?_; clear hK K
                  refine ⟨(d5, 40), .inr ⟨rfl, hbs.seg.trans k1, k2⟩, by show 40 - 40 < 40 - 20; omega, ?_⟩
                  refine weak_to [] [] ?_ ?_ ?_ ?_ (HO' d5) ?_
                  all_goals simp [hil]
              · subst z0
                refine aw_reg fun K hK => ?_; simp (maxSteps := 1000000) (disch := omega) [-List.getD_eq_getElem?_getD]; refine hK _ ?_; clear hK K
                refine aw_if rfl (fun h => absurd h (by simp)) (fun h => ?_)
                refine aw_exit ?_; simp (maxSteps := 1000000) (disch := omega) [-List.getD_eq_getElem?_getD]
                refine hK3 _ ?_; clear hK3
                refine aw_then fun K4 hK4 => ?_
                refine aw_reg fun K hK => ?_; simp (maxSteps := 1000000) (disch := omega) [-List.getD_eq_getElem?_getD]; refine hK _ ?_; clear hK K
                refine aw_reg fun K hK => ?_; simp (maxSteps := 1000000) (disch := omega) [-List.getD_eq_getElem?_getD]; refine hK _ ?_; clear hK K
                refine aw_if rfl (fun h => absurd h (by simp)) (fun h => ?_)
                refine aw_skip ?_; simp (maxSteps := 1000000) (disch := omega) [-List.getD_eq_getElem?_getD]
                refine hK4 _ ?_; clear hK4
                refine aw_reg0 fun K hK => ?_; simp (maxSteps := 1000000) (disch := omega) [-List.getD_eq_getElem?_getD]
                refine hK _ ?_; clear hK K
                refine ⟨(d4, 40), .inr ⟨rfl, z1, z2⟩, by show 40 - 40 < 40 - 20; omega, ?_⟩
                refine weak_to [] [] ?_ ?_ ?_ ?_ (HO' d4) ?_
                all_goals simp [hil]
          · have b20 : decide ((20 : Int) < N) = false := decide_eq_false (by omega)
            have b20' : ¬ (20 : Int) < N := by omega
            refine aw_reg fun K hK => ?_; simp (maxSteps := 1000000) (disch := omega) [-List.getD_eq_getElem?_getD, b20, b20']; refine hK _ ?_; clear hK K
            refine aw_if rfl (fun h => absurd h (by simp [h20])) (fun h => ?_)
            refine aw_exit ?_; simp (maxSteps := 1000000) (disch := omega) [-List.getD_eq_getElem?_getD]
            exact ⟨rfl, rfl, d3, rfl, hbs.seg, hbs.one (by omega)⟩
        · have b20 : decide ((40 : Int) < N) = false := decide_eq_false (by omega)
          have b20' : ¬ (40 : Int) < N := by omega
          refine aw_reg fun K hK => ?_; simp (maxSteps := 1000000) (disch := omega) [-List.getD_eq_getElem?_getD, b20, b20']; refine hK _ ?_; clear hK K
          refine aw_if rfl (fun h => absurd h (by simp)) (fun h => ?_)
          refine aw_exit ?_; simp (maxSteps := 1000000) (disch := omega) [-List.getD_eq_getElem?_getD]
          exact ⟨rfl, rfl, d3, rfl, z1, z2⟩
end Go.Proofs.Ytbijefgmleagnaa
