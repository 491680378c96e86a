/- At and Near of the reference of layer 38. Phrase of the reference of layer 38.
   Conditions: lengths below 400 or 1000, as each theorem says. -/
import Derived.Test.YtlijaamjcpefoaaPC
import Derived.Test.YtlijaamjcpefoaaPB

/- At and Near of the reference of layer 38. -/
namespace Go.Proofs.Ytlijaamjcpefoaa
open Go Go.Am Post
set_option linter.unusedVariables false

theorem posOf_first : ∀ (l : PL) (k : Nat) (d : Int), k < l.length → (∀ j, j < k → (l.getD j (0, [])).1 ≠ d) → (l.getD k (0, [])).1 = d → posOf l d = (l.getD k (0, [])).2 := by
  intro l
  induction l with
  | nil => intro k d h; simp at h
  | cons p l ih =>
    intro k d h h1 h2
    cases k with
    | zero => simp at h2; subst h2; exact posOf_cons_eq
    | succ k =>
      have h0 : p.1 ≠ d := by have := h1 0 (by omega); simpa using this
      rw [posOf_cons_ne h0]
      exact ih k d (by simpa using h) (fun j hj => by have := h1 (j + 1) (by omega); simpa using this) (by simpa using h2)
theorem posOf_len {l : PL} {m : Nat} (h : ∀ p ∈ l, p.2.length ≤ m) (d : Int) : (posOf l d).length ≤ m := by
  induction l with
  | nil => simp [posOf]
  | cons p l ih =>
    unfold posOf
    split
    · exact h p (by simp)
    · exact ih (fun q hq => h q (by simp [hq]))
theorem posOf_sub {l : PL} {d : Int} : ∀ q, q ∈ posOf l d → ∃ p ∈ l, q ∈ p.2 := by
  induction l with
  | nil => intro q h; simp [posOf] at h
  | cons p l ih =>
    intro q h
    unfold posOf at h
    split at h
    · exact ⟨p, by simp, h⟩
    · obtain ⟨p', h1, h2⟩ := ih q h
      exact ⟨p', by simp [h1], h2⟩

theorem atR_ok (l : PL) (d : Int) (hl : l.length ≤ 1000) (H : List Blk) (T : Toks) (tg : Tag) : ACall Try.prog 35 [.sl l.length (psAV l) tg, .int .i64 d] H T (Is (.sl (posOf l d).length (ints (posOf l d)) .none) H T) := by
  refine ACall.untag1 ?_
  refine ACall.drop' ?_ (by simp)
  refine acall_enter 6 [] Try.ntmps35 Try.func35 rfl (fun _ _ => Try.call35 _ _) (by simp) (fun HO => ?_)
  refine aw_reg fun K hK => ?_; simp (maxSteps := 1000000) (disch := omega) [-List.getD_eq_getElem?_getD]; refine hK _ ?_; clear hK K
  refine aw_then fun K1 hK1 => ?_
  refine aw_reg fun K hK => ?_; simp (maxSteps := 1000000) (disch := omega) [-List.getD_eq_getElem?_getD]; refine hK _ ?_; clear hK K
  refine aw_block ?_
  refine aw_loop (X := Nat) (fun k => ⟨[(0, .sl l.length (psAV l) .none), (1, .int .i64 d), (5, .int .i64 (k : Nat))], H, T⟩) (fun k => k ≤ l.length ∧ ∀ j, j < k → (l.getD j (0, [])).1 ≠ d) (fun k => l.length - k) 0 ?_ ?_ ?_
  · exact ⟨Nat.zero_le _, fun j hj => absurd hj (Nat.not_lt_zero _)⟩
  · refine weak_to [] [] ?_ ?_ ?_ ?_ HO ?_
    all_goals simp
  · rintro k ⟨h1, h2⟩
    refine aw_then fun K2 hK2 => ?_
    refine aw_reg fun K hK => ?_; simp (maxSteps := 1000000) (disch := omega) [-List.getD_eq_getElem?_getD]; refine hK _ ?_; clear hK K
    refine aw_if rfl (fun hk => ?_) (fun hk => ?_)
    · simp [-List.getD_eq_getElem?_getD] at hk
      have hat := psAV_at l k hk
      refine aw_skip ?_; simp (maxSteps := 1000000) (disch := omega) [-List.getD_eq_getElem?_getD]
      refine hK2 _ ?_; clear hK2
      refine aw_then fun K3 hK3 => ?_
      refine aw_block ?_
      by_cases hc : (l.getD k (0, [])).1 = d
      · have b : ((l.getD k (0, [])).1 == d) = true := by simpa using hc
        have hf := posOf_first l k d hk h2 hc
        refine aw_reg fun K hK => ?_; simp (maxSteps := 1000000) (disch := omega) [-List.getD_eq_getElem?_getD, hat.1, psAV_len, b]; refine hK _ ?_; clear hK K
        refine aw_if rfl (fun h => ?_) (fun h => absurd h (by simp))
        refine aw_reg fun K hK => ?_; simp (maxSteps := 1000000) (disch := omega) [-List.getD_eq_getElem?_getD, hat.2, psAV_len]; refine hK _ ?_; clear hK K
        refine aw_ret ?_; simp (maxSteps := 1000000) (disch := omega) [-List.getD_eq_getElem?_getD]
        rw [hf]
        simp
      · have b : ((l.getD k (0, [])).1 == d) = false := by simpa using hc
        refine aw_reg fun K hK => ?_; simp (maxSteps := 1000000) (disch := omega) [-List.getD_eq_getElem?_getD, hat.1, psAV_len, b]; refine hK _ ?_; clear hK K
        refine aw_if rfl (fun h => absurd h (by simp)) (fun h => ?_)
        refine aw_skip ?_; simp (maxSteps := 1000000) (disch := omega) [-List.getD_eq_getElem?_getD]
        refine hK3 _ ?_; clear hK3
        refine aw_reg0 fun K hK => ?_; simp (maxSteps := 1000000) (disch := omega) [-List.getD_eq_getElem?_getD]
        refine hK _ ?_; clear hK K
        refine ⟨k + 1, ⟨by show k + 1 ≤ _; omega, fun j hj => ?_⟩, by show l.length - (k + 1) < l.length - k; omega, ?_⟩
        · rcases Nat.lt_or_ge j k with h3 | h3
          · exact h2 j h3
          · have : j = k := by omega
            subst this; exact hc
        · refine weak_to [] [] ?_ ?_ ?_ ?_ HO ?_
          all_goals simp
    · simp [-List.getD_eq_getElem?_getD] at hk
      have hm : posOf l d = [] := posOf_none fun p hp e => by
        obtain ⟨j, hj, e2⟩ := memD_inv (0, []) hp
        have := h2 j (by omega)
        rw [e2] at this
        exact this e
      refine aw_exit ?_; simp (maxSteps := 1000000) (disch := omega) [-List.getD_eq_getElem?_getD]
      refine hK1 _ ?_; clear hK1
      refine aw_reg fun K hK => ?_; simp (maxSteps := 1000000) (disch := omega) [-List.getD_eq_getElem?_getD]; refine hK _ ?_; clear hK K
      refine aw_ret ?_; simp (maxSteps := 1000000) (disch := omega) [-List.getD_eq_getElem?_getD]
      rw [hm]
      simp

theorem near_flt (a b : PL) (n : Int) : flt (fltB (fun p at_ => at_.any (nearQ p n)) b) a = flt (fun d p => (posOf b d).any (nearQ p n)) a := by
  refine flt_congr fun p _ x _ => ?_
  by_cases h : p.1 ∈ b.map (·.1)
  · unfold fltB
    rw [decide_eq_true h, Bool.true_and]
  · have : posOf b p.1 = [] := posOf_none fun q hq e => h (List.mem_map.2 ⟨q, hq, e⟩)
    unfold fltB
    rw [this]
    simp

theorem flt_take (f : Int → Int → Bool) (a : PL) (i : Nat) (h : i < a.length) : flt f (a.take (i + 1)) = flt f (a.take i) ++ fl1 f (a.getD i (0, [])) := by
  rw [take_succD a i (0, []) h, flt_snoc]
theorem any_take (l : List Int) (f : Int → Bool) (m : Nat) (h : m < l.length) : (l.take (m + 1)).any f = ((l.take m).any f || f (l.getD m 0)) := by
  rw [take_succD l m 0 h]
  simp

set_option maxRecDepth 100000 in
set_option maxHeartbeats 2000000 in
theorem nearR_ok (a b : PL) (n : Int) (ha : a.length ≤ 400) (hb : b.length ≤ 400) (hpa : ∀ p ∈ a, p.2.length ≤ 400) (hpb : ∀ p ∈ b, p.2.length ≤ 400) (H : List Blk) (T : Toks) (ta tb : Tag) :
    ACall Try.prog 30 [.sl a.length (psAV a) ta, .sl b.length (psAV b) tb, .int .i64 n] H T (Is (.sl (nearL a b n).length (psAV (nearL a b n)) .none) H T) := by
  refine ACall.untag1 (ACall.untag2 ?_)
  refine ACall.drop' ?_ (by simp)
  have hml : 400 ≤ maxLen := by decide
  have c1 := validR_ok a (by omega) (fun p h => Nat.le_trans (hpa p h) hml) H T .none
  have c2 := validR_ok b (by omega) (fun p h => Nat.le_trans (hpb p h) hml) H T .none
  refine acall_enter 15 [] Try.ntmps30 Try.func30 rfl (fun _ _ => Try.call30 _ _) (by simp) (fun HO => ?_)
  refine aw_reg fun K hK => ?_; simp (maxSteps := 1000000) (disch := omega) [-List.getD_eq_getElem?_getD]; refine hK _ ?_; clear hK K
  refine aw_then fun K1 hK1 => ?_
  cases hva : validL a with
  | false =>
    rw [hva] at c1
    refine aw_reg fun K hK => ?_; simp (maxSteps := 1000000) (disch := omega) [-List.getD_eq_getElem?_getD]
    refine acall_is (c1) ?_; simp (maxSteps := 1000000) (disch := omega) [-List.getD_eq_getElem?_getD]
    refine hK _ ?_; clear hK K
    refine aw_if rfl (fun h => ?_) (fun h => absurd h (by simp))
    refine aw_reg fun K hK => ?_; simp (maxSteps := 1000000) (disch := omega) [-List.getD_eq_getElem?_getD]; refine hK _ ?_; clear hK K
    refine aw_ret ?_; simp (maxSteps := 1000000) (disch := omega) [-List.getD_eq_getElem?_getD]
    simp [nearL, hva, psAV]
  | true =>
    rw [hva] at c1
    cases hvb : validL b with
    | false =>
      rw [hvb] at c2
      refine aw_reg fun K hK => ?_; simp (maxSteps := 1000000) (disch := omega) [-List.getD_eq_getElem?_getD]
      refine acall_is (c1) ?_; simp (maxSteps := 1000000) (disch := omega) [-List.getD_eq_getElem?_getD]
      refine acall_is (c2) ?_; simp (maxSteps := 1000000) (disch := omega) [-List.getD_eq_getElem?_getD]
      refine hK _ ?_; clear hK K
      refine aw_if rfl (fun h => ?_) (fun h => absurd h (by simp))
      refine aw_reg fun K hK => ?_; simp (maxSteps := 1000000) (disch := omega) [-List.getD_eq_getElem?_getD]; refine hK _ ?_; clear hK K
      refine aw_ret ?_; simp (maxSteps := 1000000) (disch := omega) [-List.getD_eq_getElem?_getD]
      simp [nearL, hvb, psAV]
    | true =>
      rw [hvb] at c2
      by_cases hn : n < 1
      · have b1 : decide (n < 1) = true := by simpa using hn
        have hn2 : ¬ 1 ≤ n := by omega
        refine aw_reg fun K hK => ?_; simp (maxSteps := 1000000) (disch := omega) [-List.getD_eq_getElem?_getD]
        refine acall_is (c1) ?_; simp (maxSteps := 1000000) (disch := omega) [-List.getD_eq_getElem?_getD]
        refine acall_is (c2) ?_; simp (maxSteps := 1000000) (disch := omega) [-List.getD_eq_getElem?_getD]
        (try simp (maxSteps := 1000000) (disch := omega) [-List.getD_eq_getElem?_getD, b1, hn])
        refine hK _ ?_; clear hK K
        refine aw_if rfl (fun h => ?_) (fun h => absurd h (by simp))
        refine aw_reg fun K hK => ?_; simp (maxSteps := 1000000) (disch := omega) [-List.getD_eq_getElem?_getD]; refine hK _ ?_; clear hK K
        refine aw_ret ?_; simp (maxSteps := 1000000) (disch := omega) [-List.getD_eq_getElem?_getD]
        simp [nearL, hn2, psAV]
      · have b1 : decide (n < 1) = false := by simpa using hn
        have hn2 : 1 ≤ n := by omega
        obtain ⟨a1, a2, a3⟩ := validL_iff hva
        obtain ⟨e1, e2, e3⟩ := validL_iff hvb
        have hr : nearL a b n = flt (fun d p => (posOf b d).any (nearQ p n)) a := by unfold nearL; rw [if_pos ⟨hva, hvb, hn2⟩, near_flt]
        refine aw_reg fun K hK => ?_; simp (maxSteps := 1000000) (disch := omega) [-List.getD_eq_getElem?_getD]
        refine acall_is (c1) ?_; simp (maxSteps := 1000000) (disch := omega) [-List.getD_eq_getElem?_getD]
        refine acall_is (c2) ?_; simp (maxSteps := 1000000) (disch := omega) [-List.getD_eq_getElem?_getD]
        (try simp (maxSteps := 1000000) (disch := omega) [-List.getD_eq_getElem?_getD, b1, hn])
        refine hK _ ?_; clear hK K
        refine aw_if rfl (fun h => absurd h (by simp)) (fun h => ?_)
        refine aw_skip ?_; simp (maxSteps := 1000000) (disch := omega) [-List.getD_eq_getElem?_getD]
        refine hK1 _ ?_; clear hK1
        refine aw_reg fun K hK => ?_; simp (maxSteps := 1000000) (disch := omega) [-List.getD_eq_getElem?_getD]; refine hK _ ?_; clear hK K
        refine aw_then fun K1 hK1 => ?_
        refine aw_reg fun K hK => ?_; simp (maxSteps := 1000000) (disch := omega) [-List.getD_eq_getElem?_getD]; refine hK _ ?_; clear hK K
        refine aw_block ?_
        refine aw_own 7 0 2 [] (by omega) (by simp) ?_
        refine aw_loop (X := Nat) (fun i => ⟨[(0, .sl a.length (psAV a) .none), (1, .sl b.length (psAV b) .none), (2, .int .i64 n), (7, .sl (flt (fun d p => (posOf b d).any (nearQ p n)) (a.take i)).length (psAV (flt (fun d p => (posOf b d).any (nearQ p n)) (a.take i))) (.own T.length)), (8, .int .i64 (i : Nat))], H, T ++ [((flt (fun d p => (posOf b d).any (nearQ p n)) (a.take i)).length * 2, 2)]⟩) (fun i => i ≤ a.length) (fun i => a.length - i) 0 ?_ ?_ ?_
        · exact Nat.zero_le _
        · refine weak_to [] [] ?_ ?_ ?_ ?_ (HO.toks (by simp)) ?_
          all_goals simp [flt_nil, psAV_nil]
        · intro i hi0
          have hlen := flt_len (f := fun d p => (posOf b d).any (nearQ p n)) (a.take i)
          rw [List.length_take] at hlen
          refine aw_then fun K2 hK2 => ?_
          refine aw_reg fun K hK => ?_; simp (maxSteps := 1000000) (disch := omega) [-List.getD_eq_getElem?_getD]; refine hK _ ?_; clear hK K
          refine aw_if rfl (fun hi => ?_) (fun hi => ?_)
          · simp [-List.getD_eq_getElem?_getD] at hi
            have hia := psAV_at a i hi
            have hst := flt_take (fun d p => (posOf b d).any (nearQ p n)) a i hi
            have hmx := memD a i (0, []) hi
            have hx := hpa _ hmx
            have hx3 := (a3 _ hmx).2.2
            generalize flt (fun d p => (posOf b d).any (nearQ p n)) (a.take i) = out at *
            generalize a.getD i (0, []) = x at *
            have c3 := atR_ok b x.1 (by omega) H (T ++ [(out.length * 2, 2)]) .none
            have hol := posOf_len hpb x.1
            have hob : ∀ q, q ∈ posOf b x.1 → 0 ≤ q ∧ q ≤ 1000000 := fun q hq => by
              obtain ⟨p, h1, h2⟩ := posOf_sub q hq
              exact (e3 p h1).2.2 q h2
            have hf1 : fl1 (fun d p => (posOf b d).any (nearQ p n)) x = if x.2.filter (fun p => (posOf b x.1).any (nearQ p n)) = [] then [] else [(x.1, x.2.filter (fun p => (posOf b x.1).any (nearQ p n)))] := rfl
            rw [hf1] at hst
            generalize posOf b x.1 = oth at *
            refine aw_skip ?_; simp (maxSteps := 1000000) (disch := omega) [-List.getD_eq_getElem?_getD]
            refine hK2 _ ?_; clear hK2
            refine aw_then fun K3 hK3 => ?_
            refine aw_block ?_
            refine aw_reg fun K hK => ?_; simp (maxSteps := 1000000) (disch := omega) [-List.getD_eq_getElem?_getD]; refine hK _ ?_; clear hK K
            refine aw_reg fun K hK => ?_; simp (maxSteps := 1000000) (disch := omega) [-List.getD_eq_getElem?_getD, hia.1, psAV_len]
            refine acall_is (c3) ?_; simp (maxSteps := 1000000) (disch := omega) [-List.getD_eq_getElem?_getD]
            refine hK _ ?_; clear hK K
            refine aw_then fun K4 hK4 => ?_
            refine aw_reg fun K hK => ?_; simp (maxSteps := 1000000) (disch := omega) [-List.getD_eq_getElem?_getD]; refine hK _ ?_; clear hK K
            refine aw_block ?_
            refine aw_own 9 0 1 [] (by omega) (by simp) ?_
            refine aw_loop (X := Nat) (fun k => ⟨[(0, .sl a.length (psAV a) .none), (1, .sl b.length (psAV b) .none), (2, .int .i64 n), (7, .sl out.length (psAV out) (.own T.length)), (8, .int .i64 (i : Nat)), (9, .sl ((x.2.take k).filter (fun p => oth.any (nearQ p n))).length (ints ((x.2.take k).filter (fun p => oth.any (nearQ p n)))) (.own (T.length + 1))), (10, .sl oth.length (ints oth) .none), (11, .int .i64 (k : Nat))], H, T ++ [(out.length * 2, 2)] ++ [(((x.2.take k).filter (fun p => oth.any (nearQ p n))).length, 1)]⟩) (fun k => k ≤ x.2.length) (fun k => x.2.length - k) 0 ?_ ?_ ?_
            · exact Nat.zero_le _
            · refine weak_to [] [] ?_ ?_ ?_ ?_ (HO.toks (by simp)) ?_
              all_goals simp
            · intro k hk0
              have hlen2 : ((x.2.take k).filter (fun p => oth.any (nearQ p n))).length ≤ k := by
                refine Nat.le_trans (List.length_filter_le _ _) ?_
                rw [List.length_take]; omega
              refine aw_then fun K5 hK5 => ?_
              refine aw_reg fun K hK => ?_; simp (maxSteps := 1000000) (disch := omega) [-List.getD_eq_getElem?_getD, hia.2, psAV_len]; refine hK _ ?_; clear hK K
              refine aw_if rfl (fun hk => ?_) (fun hk => ?_)
              · simp [-List.getD_eq_getElem?_getD] at hk
                have hst2 := filter_step x.2 k (fun p => oth.any (nearQ p n)) hk
                have hpk := hx3 _ (memD x.2 k 0 hk)
                have hgk := getD_ints (xs := x.2) (k := k) hk
                generalize (x.2.take k).filter (fun p => oth.any (nearQ p n)) = lk at *
                generalize x.2.getD k 0 = p at *
                refine aw_skip ?_; simp (maxSteps := 1000000) (disch := omega) [-List.getD_eq_getElem?_getD]
                refine hK5 _ ?_; clear hK5
                refine aw_then fun K6 hK6 => ?_
                refine aw_block ?_
                refine aw_reg fun K hK => ?_; simp (maxSteps := 1000000) (disch := omega) [-List.getD_eq_getElem?_getD, hia.2, psAV_len, hgk]; refine hK _ ?_; clear hK K
                refine aw_reg fun K hK => ?_; simp (maxSteps := 1000000) (disch := omega) [-List.getD_eq_getElem?_getD]; refine hK _ ?_; clear hK K
                refine aw_then fun K7 hK7 => ?_
                refine aw_reg fun K hK => ?_; simp (maxSteps := 1000000) (disch := omega) [-List.getD_eq_getElem?_getD]; refine hK _ ?_; clear hK K
                refine aw_block ?_
                refine aw_loop (X := Nat) (fun m => ⟨[(0, .sl a.length (psAV a) .none), (1, .sl b.length (psAV b) .none), (2, .int .i64 n), (7, .sl out.length (psAV out) (.own T.length)), (8, .int .i64 (i : Nat)), (9, .sl lk.length (ints lk) (.own (T.length + 1))), (10, .sl oth.length (ints oth) .none), (11, .int .i64 (k : Nat)), (12, .int .i64 p), (13, .bool ((oth.take m).any (nearQ p n))), (14, .int .i64 (m : Nat))], H, T ++ [(out.length * 2, 2)] ++ [(lk.length, 1)]⟩) (fun m => m ≤ oth.length) (fun m => oth.length - m) 0 ?_ ?_ ?_
                · exact Nat.zero_le _
                · refine weak_to [] [] ?_ ?_ ?_ ?_ (HO.toks (by simp)) ?_
                  all_goals simp
                · intro m hm0
                  refine aw_then fun K8 hK8 => ?_
                  refine aw_reg fun K hK => ?_; simp (maxSteps := 1000000) (disch := omega) [-List.getD_eq_getElem?_getD]; refine hK _ ?_; clear hK K
                  refine aw_if rfl (fun hm => ?_) (fun hm => ?_)
                  · simp [-List.getD_eq_getElem?_getD] at hm
                    have hany := any_take oth (nearQ p n) m hm
                    have hqb := hob _ (memD oth m 0 hm)
                    have hgm := getD_ints (xs := oth) (k := m) hm
                    generalize oth.getD m 0 = q at *
                    generalize hfl : (oth.take m).any (nearQ p n) = fl at *
                    refine aw_skip ?_; simp (maxSteps := 1000000) (disch := omega) [-List.getD_eq_getElem?_getD]
                    refine hK8 _ ?_; clear hK8
                    refine aw_then fun K9 hK9 => ?_
                    refine aw_block ?_
                    cases fl with
                    | true =>
                      refine aw_draw0 [] [] [] drawMixed (by kernel_rfl) (by kernel_rfl) fun K hK => ?_; simp (maxSteps := 1000000) (disch := omega) [-List.getD_eq_getElem?_getD]
                      refine hK _ ?_; clear hK K
                      refine hK9 _ ?_; clear hK9
                      refine aw_reg0 fun K hK => ?_; simp (maxSteps := 1000000) (disch := omega) [-List.getD_eq_getElem?_getD]
                      refine hK _ ?_; clear hK K
                      refine ⟨m + 1, by show m + 1 ≤ _; omega, by show oth.length - (m + 1) < oth.length - m; omega, ?_⟩
                      rw [hany, Bool.true_or]
                      refine weak_to [] [] ?_ ?_ ?_ ?_ (HO.toks (by simp)) ?_
                      all_goals simp
                    | false =>
                      by_cases hq : q = p
                      · have b2 : (q != p) = false := by simp [hq]
                        have hnq : nearQ p n q = false := by simp [nearQ, hq]
                        refine aw_draw0 [] [] [] drawMixed (by kernel_rfl) (by kernel_rfl) fun K hK => ?_; simp (maxSteps := 1000000) (disch := omega) [-List.getD_eq_getElem?_getD, hgm, b2, hq]
                        refine hK _ ?_; clear hK K
                        refine hK9 _ ?_; clear hK9
                        refine aw_reg0 fun K hK => ?_; simp (maxSteps := 1000000) (disch := omega) [-List.getD_eq_getElem?_getD]
                        refine hK _ ?_; clear hK K
                        refine ⟨m + 1, by show m + 1 ≤ _; omega, by show oth.length - (m + 1) < oth.length - m; omega, ?_⟩
                        rw [hany, hnq]
                        refine weak_to [] [] ?_ ?_ ?_ ?_ (HO.toks (by simp)) ?_
                        all_goals simp
                      · have b2 : (q != p) = true := by simp [hq]
                        have hnq : nearQ p n q = decide (max (q - p) (p - q) ≤ n) := by simp [nearQ, hq]
                        refine aw_draw0 [] [] [] drawMixed (by kernel_rfl) (by kernel_rfl) fun K hK => ?_; simp (maxSteps := 1000000) (disch := omega) [-List.getD_eq_getElem?_getD, hgm, b2, hq]
                        refine hK _ ?_; clear hK K
                        refine hK9 _ ?_; clear hK9
                        refine aw_reg0 fun K hK => ?_; simp (maxSteps := 1000000) (disch := omega) [-List.getD_eq_getElem?_getD]
                        refine hK _ ?_; clear hK K
                        refine ⟨m + 1, by show m + 1 ≤ _; omega, by show oth.length - (m + 1) < oth.length - m; omega, ?_⟩
                        rw [hany, hnq]
                        refine weak_to [] [] ?_ ?_ ?_ ?_ (HO.toks (by simp)) ?_
                        all_goals simp
                  · simp at hm
                    have : m = oth.length := by omega
                    subst this
                    rw [List.take_length]
                    refine aw_exit ?_; simp (maxSteps := 1000000) (disch := omega) [-List.getD_eq_getElem?_getD]
                    refine hK7 _ ?_; clear hK7
                    refine aw_reg fun K hK => ?_; simp (maxSteps := 1000000) (disch := omega) [-List.getD_eq_getElem?_getD]; refine hK _ ?_; clear hK K
                    cases hk : oth.any (nearQ p n) with
                    | true =>
                      rw [hk] at hst2
                      refine aw_if rfl (fun h => ?_) (fun h => absurd h (by simp))
                      refine aw_reg0 fun K hK => ?_; simp (maxSteps := 1000000) (disch := omega) [-List.getD_eq_getElem?_getD]
                      refine hK _ ?_; clear hK K
                      refine hK6 _ ?_; clear hK6
                      refine aw_reg0 fun K hK => ?_; simp (maxSteps := 1000000) (disch := omega) [-List.getD_eq_getElem?_getD]
                      refine hK _ ?_; clear hK K
                      refine ⟨k + 1, by show k + 1 ≤ _; omega, by show x.2.length - (k + 1) < x.2.length - k; omega, ?_⟩
                      rw [hst2]
                      refine weak_to [] [] ?_ ?_ ?_ ?_ (HO.toks (by simp)) ?_
                      all_goals simp [-List.getD_eq_getElem?_getD, ints_snoc]
                    | false =>
                      rw [hk] at hst2
                      refine aw_if rfl (fun h => absurd h (by simp)) (fun h => ?_)
                      refine aw_skip ?_; simp (maxSteps := 1000000) (disch := omega) [-List.getD_eq_getElem?_getD]
                      refine hK6 _ ?_; clear hK6
                      refine aw_reg0 fun K hK => ?_; simp (maxSteps := 1000000) (disch := omega) [-List.getD_eq_getElem?_getD]
                      refine hK _ ?_; clear hK K
                      refine ⟨k + 1, by show k + 1 ≤ _; omega, by show x.2.length - (k + 1) < x.2.length - k; omega, ?_⟩
                      rw [hst2]
                      refine weak_to [] [] ?_ ?_ ?_ ?_ (HO.toks (by simp)) ?_
                      all_goals simp
              · simp at hk
                have : k = x.2.length := by omega
                subst this
                rw [List.take_length] at hlen2 ⊢
                generalize x.2.filter (fun p => oth.any (nearQ p n)) = lk at *
                refine aw_exit ?_; simp (maxSteps := 1000000) (disch := omega) [-List.getD_eq_getElem?_getD]
                refine hK4 _ ?_; clear hK4
                refine aw_weak ⟨[(0, .sl a.length (psAV a) .none), (1, .sl b.length (psAV b) .none), (2, .int .i64 n), (7, .sl out.length (psAV out) (.own T.length)), (8, .int .i64 (i : Nat)), (9, .sl lk.length (ints lk) .none)], H, T ++ [(out.length * 2, 2)]⟩ (weak_to [] [(lk.length, 1)] ?_ (by simp) ?_ ?_ (HO.toks (by simp)) ?_) ?_
                · simp
                · simp
                · simp
                · simp
                refine aw_reg fun K hK => ?_; simp (maxSteps := 1000000) (disch := omega) [-List.getD_eq_getElem?_getD]; refine hK _ ?_; clear hK K
                by_cases h0 : lk = []
                · subst h0
                  refine aw_if rfl (fun h => absurd h (by simp)) (fun h => ?_)
                  refine aw_skip ?_; simp (maxSteps := 1000000) (disch := omega) [-List.getD_eq_getElem?_getD]
                  refine hK3 _ ?_; clear hK3
                  refine aw_reg0 fun K hK => ?_; simp (maxSteps := 1000000) (disch := omega) [-List.getD_eq_getElem?_getD]
                  refine hK _ ?_; clear hK K
                  refine ⟨i + 1, by show i + 1 ≤ _; omega, by show a.length - (i + 1) < a.length - i; omega, ?_⟩
                  rw [hst]
                  refine weak_to [] [] ?_ ?_ ?_ ?_ (HO.toks (by simp)) ?_
                  all_goals simp
                · have b2 : 0 < lk.length := List.length_pos_iff.2 h0
                  rw [if_neg h0] at hst
                  have hps := psAV_snoc out x.1 lk
                  refine aw_if rfl (fun h => ?_) (fun h => absurd h (by simp; omega))
                  refine aw_reg0 fun K hK => ?_; simp (maxSteps := 1000000) (disch := omega) [-List.getD_eq_getElem?_getD, hia.1, psAV_len, hps, hi]
                  refine hK _ ?_; clear hK K
                  refine hK3 _ ?_; clear hK3
                  refine aw_reg0 fun K hK => ?_; simp (maxSteps := 1000000) (disch := omega) [-List.getD_eq_getElem?_getD]
                  refine hK _ ?_; clear hK K
                  refine ⟨i + 1, by show i + 1 ≤ _; omega, by show a.length - (i + 1) < a.length - i; omega, ?_⟩
                  rw [hst]
                  refine weak_to [] [] ?_ ?_ ?_ ?_ (HO.toks (by simp)) ?_
                  all_goals simp
          · simp at hi
            have : i = a.length := by omega
            subst this
            rw [List.take_length]
            refine aw_exit ?_; simp (maxSteps := 1000000) (disch := omega) [-List.getD_eq_getElem?_getD]
            refine hK1 _ ?_; clear hK1
            refine aw_reg fun K hK => ?_; simp (maxSteps := 1000000) (disch := omega) [-List.getD_eq_getElem?_getD]; refine hK _ ?_; clear hK K
            refine aw_ret ?_; simp (maxSteps := 1000000) (disch := omega) [-List.getD_eq_getElem?_getD]
            rw [hr]
            exact ⟨rfl, rfl⟩
end Go.Proofs.Ytlijaamjcpefoaa

/- Phrase of the reference of layer 38. -/
namespace Go.Proofs.Ytlijaamjcpefoaa
open Go Go.Am Post
set_option linter.unusedVariables false

theorem goesOn_succ (r : List PL) (k : Nat) (d p : Int) : goesOn r (k + 1) d p = (goesOn r k d p && decide (p + k + 1 ∈ posOf (r.getD k []) d)) := by
  unfold goesOn
  rw [List.range_succ, List.all_append, List.all_cons, List.all_nil, Bool.and_true]
theorem goesOn_false {r : List PL} {k m : Nat} {d p : Int} (h : goesOn r k d p = false) (hk : k ≤ m) : goesOn r m d p = false := by
  induction m with
  | zero => obtain rfl : k = 0 := by omega
            exact h
  | succ m ih =>
    rcases Nat.lt_or_ge m k with h1 | h1
    · obtain rfl : k = m + 1 := by omega
      exact h
    · rw [goesOn_succ, ih h1, Bool.false_and]

set_option maxRecDepth 100000 in
set_option maxHeartbeats 2000000 in
theorem phraseR_ok (l : List PL) (hl : l.length ≤ 400) (hl2 : ∀ x ∈ l, x.length ≤ 400) (hp : ∀ x ∈ l, ∀ p ∈ x, p.2.length ≤ 400) (H : List Blk) (T : Toks) (tg : Tag) :
    ACall Try.prog 16 [.sl l.length (plsAV l) tg] H T (Is (.sl (phraseL l).length (psAV (phraseL l)) .none) H T) := by
  refine ACall.untag1 ?_
  refine ACall.drop' ?_ (by simp)
  have hml : 400 ≤ maxLen := by decide
  refine acall_enter 11 [] Try.ntmps16 Try.func16 rfl (fun _ _ => Try.call16 _ _) (by simp) (fun HO => ?_)
  refine aw_reg fun K hK => ?_; simp (maxSteps := 1000000) (disch := omega) [-List.getD_eq_getElem?_getD]; refine hK _ ?_; clear hK K
  refine aw_then fun K1 hK1 => ?_
  by_cases h0 : l.length = 0
  · have b : ((l.length : Int) == 0) = true := by simp [h0]
    have hn : l = [] := List.eq_nil_of_length_eq_zero h0
    refine aw_reg fun K hK => ?_; simp (maxSteps := 1000000) (disch := omega) [-List.getD_eq_getElem?_getD, b, h0, hn]; refine hK _ ?_; clear hK K
    refine aw_if rfl (fun h => ?_) (fun h => absurd h (by simp))
    refine aw_reg fun K hK => ?_; simp (maxSteps := 1000000) (disch := omega) [-List.getD_eq_getElem?_getD]; refine hK _ ?_; clear hK K
    refine aw_ret ?_; simp (maxSteps := 1000000) (disch := omega) [-List.getD_eq_getElem?_getD]
    simp [phraseL, h0, psAV]
  · have b : ((l.length : Int) == 0) = false := by rw [beq_eq_false_iff_ne]; omega
    have hn : ¬ l = [] := fun e => h0 (by rw [e]; rfl)
    by_cases h1 : 100 < l.length
    · have b1 : decide ((100 : Int) < (l.length : Int)) = true := by simp; omega
      refine aw_reg fun K hK => ?_; simp (maxSteps := 1000000) (disch := omega) [-List.getD_eq_getElem?_getD, b, b1, hn, h1]; refine hK _ ?_; clear hK K
      refine aw_if rfl (fun h => ?_) (fun h => absurd h (by simp))
      refine aw_reg fun K hK => ?_; simp (maxSteps := 1000000) (disch := omega) [-List.getD_eq_getElem?_getD]; refine hK _ ?_; clear hK K
      refine aw_ret ?_; simp (maxSteps := 1000000) (disch := omega) [-List.getD_eq_getElem?_getD]
      simp [phraseL, h1, psAV]
    · have b1 : decide ((100 : Int) < (l.length : Int)) = false := by simp; omega
      refine aw_reg fun K hK => ?_; simp (maxSteps := 1000000) (disch := omega) [-List.getD_eq_getElem?_getD, b, b1, hn, h1]; refine hK _ ?_; clear hK K
      refine aw_if rfl (fun h => absurd h (by simp)) (fun h => ?_)
      refine aw_skip ?_; simp (maxSteps := 1000000) (disch := omega) [-List.getD_eq_getElem?_getD]
      refine hK1 _ ?_; clear hK1
      refine aw_then fun K1 hK1 => ?_
      refine aw_reg fun K hK => ?_; simp (maxSteps := 1000000) (disch := omega) [-List.getD_eq_getElem?_getD]; refine hK _ ?_; clear hK K
      refine aw_block ?_
      refine aw_loop (X := Nat) (fun k => ⟨[(0, .sl l.length (plsAV l) .none), (3, .int .i64 (k : Nat))], H, T⟩) (fun k => k ≤ l.length ∧ ∀ j, j < k → validL (l.getD j []) = true) (fun k => l.length - k) 0 ?_ ?_ ?_
      · exact ⟨Nat.zero_le _, fun j hj => absurd hj (Nat.not_lt_zero _)⟩
      · refine weak_to [] [] ?_ ?_ ?_ ?_ HO ?_
        all_goals simp
      · rintro k ⟨g1, g2⟩
        refine aw_then fun K2 hK2 => ?_
        refine aw_reg fun K hK => ?_; simp (maxSteps := 1000000) (disch := omega) [-List.getD_eq_getElem?_getD]; refine hK _ ?_; clear hK K
        refine aw_if rfl (fun hk => ?_) (fun hk => ?_)
        · simp [-List.getD_eq_getElem?_getD] at hk
          have hm := memD l k [] hk
          have hat := plsAV_at l k hk
          have c := validR_ok (l.getD k []) (Nat.le_trans (hl2 _ hm) (by decide)) (fun p h => Nat.le_trans (hp _ hm p h) hml) H T .none
          refine aw_skip ?_; simp (maxSteps := 1000000) (disch := omega) [-List.getD_eq_getElem?_getD]
          refine hK2 _ ?_; clear hK2
          refine aw_then fun K3 hK3 => ?_
          refine aw_block ?_
          cases hf : validL (l.getD k []) with
          | false =>
            rw [hf] at c
            refine aw_reg fun K hK => ?_; simp (maxSteps := 1000000) (disch := omega) [-List.getD_eq_getElem?_getD, hat, plsAV_len]
            refine acall_is (c) ?_; simp (maxSteps := 1000000) (disch := omega) [-List.getD_eq_getElem?_getD]
            refine hK _ ?_; clear hK K
            refine aw_if rfl (fun h => ?_) (fun h => absurd h (by simp))
            refine aw_reg fun K hK => ?_; simp (maxSteps := 1000000) (disch := omega) [-List.getD_eq_getElem?_getD]; refine hK _ ?_; clear hK K
            refine aw_ret ?_; simp (maxSteps := 1000000) (disch := omega) [-List.getD_eq_getElem?_getD]
            have : l.any (fun x => !validL x) = true := List.any_eq_true.2 ⟨_, hm, by rw [hf]; rfl⟩
            simp [phraseL, this, psAV]
          | true =>
            rw [hf] at c
            refine aw_reg fun K hK => ?_; simp (maxSteps := 1000000) (disch := omega) [-List.getD_eq_getElem?_getD, hat, plsAV_len]
            refine acall_is (c) ?_; simp (maxSteps := 1000000) (disch := omega) [-List.getD_eq_getElem?_getD]
            refine hK _ ?_; clear hK K
            refine aw_if rfl (fun h => absurd h (by simp)) (fun h => ?_)
            refine aw_skip ?_; simp (maxSteps := 1000000) (disch := omega) [-List.getD_eq_getElem?_getD]
            refine hK3 _ ?_; clear hK3
            refine aw_reg0 fun K hK => ?_; simp (maxSteps := 1000000) (disch := omega) [-List.getD_eq_getElem?_getD]
            refine hK _ ?_; clear hK K
            refine ⟨k + 1, ⟨by show k + 1 ≤ _; omega, fun j hj => ?_⟩, by show l.length - (k + 1) < l.length - k; omega, ?_⟩
            · rcases Nat.lt_or_ge j k with h3 | h3
              · exact g2 j h3
              · have : j = k := by omega
                subst this; exact hf
            · refine weak_to [] [] ?_ ?_ ?_ ?_ HO ?_
              all_goals simp
        · simp [-List.getD_eq_getElem?_getD] at hk
          have hvl : ∀ x ∈ l, validL x = true := fun x hx => by
            obtain ⟨j, hj, e⟩ := memD_inv [] hx
            rw [← e]; exact g2 j (by omega)
          have hv : l.any (fun x => !validL x) = false := by
            rw [List.any_eq_false]
            intro x hx
            rw [hvl x hx]
            simp
          have hr : phraseL l = phK (l.getD 0 []) (l.drop 1) (l.length - 1) := by unfold phraseL; rw [if_neg (by rintro (h | h | h); exact h0 h; exact h1 h; rw [hv] at h; cases h)]
          refine aw_exit ?_; simp (maxSteps := 1000000) (disch := omega) [-List.getD_eq_getElem?_getD]
          refine hK1 _ ?_; clear hK1
          clear g2 hv hn
          obtain ⟨a, r, rfl⟩ := List.exists_cons_of_ne_nil (fun e => h0 (by rw [e]; rfl) : l ≠ [])
          have hr' : phraseL (a :: r) = flt (goesOn r r.length) a := hr
          have hcons : plsAV (a :: r) = .sl a.length (psAV a) .none :: plsAV r := rfl
          have ma : a ∈ a :: r := by simp
          obtain ⟨a1, a2, a3⟩ := validL_iff (hvl _ ma)
          have hla := hl2 _ ma
          have hpa := hp _ ma
          rw [hcons, show (a :: r).length = r.length + 1 from rfl]
          simp only [List.length_cons] at hl
          refine aw_reg fun K hK => ?_; simp (maxSteps := 1000000) (disch := omega) [-List.getD_eq_getElem?_getD]; refine hK _ ?_; clear hK K
          refine aw_then fun K1 hK1 => ?_
          refine aw_reg fun K hK => ?_; simp (maxSteps := 1000000) (disch := omega) [-List.getD_eq_getElem?_getD]; refine hK _ ?_; clear hK K
          refine aw_block ?_
          refine aw_own 4 0 2 [] (by omega) (by simp) ?_
          refine aw_loop (X := Nat) (fun i => ⟨[(0, .sl (r.length + 1) (.sl a.length (psAV a) .none :: plsAV r) .none), (4, .sl (flt (goesOn r r.length) (a.take i)).length (psAV (flt (goesOn r r.length) (a.take i))) (.own T.length)), (5, .int .i64 (i : Nat))], H, T ++ [((flt (goesOn r r.length) (a.take i)).length * 2, 2)]⟩) (fun i => i ≤ a.length) (fun i => a.length - i) 0 ?_ ?_ ?_
          · exact Nat.zero_le _
          · refine weak_to [] [] ?_ ?_ ?_ ?_ (HO.toks (by simp)) ?_
            all_goals simp [flt_nil, psAV_nil]
          · intro i hi0
            have hlen := flt_len (f := goesOn r r.length) (a.take i)
            rw [List.length_take] at hlen
            refine aw_then fun K2 hK2 => ?_
            refine aw_reg fun K hK => ?_; simp (maxSteps := 1000000) (disch := omega) [-List.getD_eq_getElem?_getD, plsAV_len]; refine hK _ ?_; clear hK K
            refine aw_if rfl (fun hi => ?_) (fun hi => ?_)
            · simp [-List.getD_eq_getElem?_getD] at hi
              have hia := psAV_at a i hi
              have hst := flt_take (goesOn r r.length) a i hi
              have hmx := memD a i (0, []) hi
              have hx := hpa _ hmx
              have hx3 := (a3 _ hmx).2.2
              generalize flt (goesOn r r.length) (a.take i) = out at *
              generalize a.getD i (0, []) = x at *
              have hf1 : fl1 (goesOn r r.length) x = if x.2.filter (goesOn r r.length x.1) = [] then [] else [(x.1, x.2.filter (goesOn r r.length x.1))] := rfl
              rw [hf1] at hst
              refine aw_skip ?_; simp (maxSteps := 1000000) (disch := omega) [-List.getD_eq_getElem?_getD]
              refine hK2 _ ?_; clear hK2
              refine aw_then fun K3 hK3 => ?_
              refine aw_block ?_
              refine aw_reg fun K hK => ?_; simp (maxSteps := 1000000) (disch := omega) [-List.getD_eq_getElem?_getD]; refine hK _ ?_; clear hK K
              refine aw_then fun K4 hK4 => ?_
              refine aw_reg fun K hK => ?_; simp (maxSteps := 1000000) (disch := omega) [-List.getD_eq_getElem?_getD]; refine hK _ ?_; clear hK K
              refine aw_block ?_
              refine aw_own 6 0 1 [] (by omega) (by simp) ?_
              refine aw_loop (X := Nat) (fun k => ⟨[(0, .sl (r.length + 1) (.sl a.length (psAV a) .none :: plsAV r) .none), (4, .sl out.length (psAV out) (.own T.length)), (5, .int .i64 (i : Nat)), (6, .sl ((x.2.take k).filter (goesOn r r.length x.1)).length (ints ((x.2.take k).filter (goesOn r r.length x.1))) (.own (T.length + 1))), (7, .int .i64 (k : Nat))], H, T ++ [(out.length * 2, 2)] ++ [(((x.2.take k).filter (goesOn r r.length x.1)).length, 1)]⟩) (fun k => k ≤ x.2.length) (fun k => x.2.length - k) 0 ?_ ?_ ?_
              · exact Nat.zero_le _
              · refine weak_to [] [] ?_ ?_ ?_ ?_ (HO.toks (by simp)) ?_
                all_goals simp
              · intro k hk0
                have hlen2 : ((x.2.take k).filter (goesOn r r.length x.1)).length ≤ k := by
                  refine Nat.le_trans (List.length_filter_le _ _) ?_
                  rw [List.length_take]; omega
                refine aw_then fun K5 hK5 => ?_
                refine aw_reg fun K hK => ?_; simp (maxSteps := 1000000) (disch := omega) [-List.getD_eq_getElem?_getD, hia.2, psAV_len, plsAV_len]; refine hK _ ?_; clear hK K
                refine aw_if rfl (fun hk => ?_) (fun hk => ?_)
                · simp [-List.getD_eq_getElem?_getD] at hk
                  have hst2 := filter_step x.2 k (goesOn r r.length x.1) hk
                  have hpk := hx3 _ (memD x.2 k 0 hk)
                  have hgk := getD_ints (xs := x.2) (k := k) hk
                  generalize (x.2.take k).filter (goesOn r r.length x.1) = lk at *
                  generalize x.2.getD k 0 = p at *
                  refine aw_skip ?_; simp (maxSteps := 1000000) (disch := omega) [-List.getD_eq_getElem?_getD]
                  refine hK5 _ ?_; clear hK5
                  refine aw_then fun K6 hK6 => ?_
                  refine aw_block ?_
                  refine aw_reg fun K hK => ?_; simp (maxSteps := 1000000) (disch := omega) [-List.getD_eq_getElem?_getD, hia.2, psAV_len, plsAV_len, hgk]; refine hK _ ?_; clear hK K
                  refine aw_reg fun K hK => ?_; simp (maxSteps := 1000000) (disch := omega) [-List.getD_eq_getElem?_getD]; refine hK _ ?_; clear hK K
                  refine aw_then fun K7 hK7 => ?_
                  refine aw_reg fun K hK => ?_; simp (maxSteps := 1000000) (disch := omega) [-List.getD_eq_getElem?_getD]; refine hK _ ?_; clear hK K
                  refine aw_block ?_
                  refine aw_loop (X := Nat) (fun m => ⟨[(0, .sl (r.length + 1) (.sl a.length (psAV a) .none :: plsAV r) .none), (4, .sl out.length (psAV out) (.own T.length)), (5, .int .i64 (i : Nat)), (6, .sl lk.length (ints lk) (.own (T.length + 1))), (7, .int .i64 (k : Nat)), (8, .int .i64 p), (9, .bool (goesOn r m x.1 p)), (10, .int .i64 ((m + 1 : Nat) : Int))], H, T ++ [(out.length * 2, 2)] ++ [(lk.length, 1)]⟩) (fun m => m ≤ r.length) (fun m => r.length - m) 0 ?_ ?_ ?_
                  · exact Nat.zero_le _
                  · refine weak_to [] [] ?_ ?_ ?_ ?_ (HO.toks (by simp)) ?_
                    all_goals simp [goesOn]
                  · intro m hm0
                    have fin : goesOn r m x.1 p = goesOn r r.length x.1 p → ∀ e, envLe H.length (T ++ [(out.length * 2, 2), (lk.length, 1)]).length e [(0, .sl (r.length + 1) (.sl a.length (psAV a) .none :: plsAV r) .none), (4, .sl out.length (psAV out) (.own T.length)), (5, .int .i64 (i : Nat)), (6, .sl lk.length (ints lk) (.own (T.length + 1))), (7, .int .i64 (k : Nat)), (8, .int .i64 p), (9, .bool (goesOn r m x.1 p)), (10, .int .i64 ((m + 1 : Nat) : Int))] → K7 ⟨e, H, T ++ [(out.length * 2, 2), (lk.length, 1)]⟩ := fun hg e he => by
                      refine hK7 _ (aw_weak ⟨[(0, .sl (r.length + 1) (.sl a.length (psAV a) .none :: plsAV r) .none), (4, .sl out.length (psAV out) (.own T.length)), (5, .int .i64 (i : Nat)), (6, .sl lk.length (ints lk) (.own (T.length + 1))), (7, .int .i64 (k : Nat)), (8, .int .i64 p), (9, .bool (goesOn r m x.1 p)), (10, .int .i64 ((m + 1 : Nat) : Int))], H, T ++ [(out.length * 2, 2), (lk.length, 1)]⟩ (weak_to [] [] (by simp) (by simp) (by simp) (by simp) (HO.toks (by simp)) he) ?_)
                      rw [hg]
                      refine aw_reg fun K hK => ?_; simp (maxSteps := 1000000) (disch := omega) [-List.getD_eq_getElem?_getD]; refine hK _ ?_; clear hK K
                      cases hk : goesOn r r.length x.1 p with
                      | true =>
                        rw [hk] at hst2
                        refine aw_if rfl (fun h => ?_) (fun h => absurd h (by simp))
                        refine aw_reg0 fun K hK => ?_; simp (maxSteps := 1000000) (disch := omega) [-List.getD_eq_getElem?_getD]
                        refine hK _ ?_; clear hK K
                        refine hK6 _ ?_; clear hK6
                        refine aw_reg0 fun K hK => ?_; simp (maxSteps := 1000000) (disch := omega) [-List.getD_eq_getElem?_getD]
                        refine hK _ ?_; clear hK K
                        refine ⟨k + 1, by show k + 1 ≤ _; omega, by show x.2.length - (k + 1) < x.2.length - k; omega, ?_⟩
                        rw [hst2]
                        refine weak_to [] [] ?_ ?_ ?_ ?_ (HO.toks (by simp)) ?_
                        all_goals simp [-List.getD_eq_getElem?_getD, ints_snoc]
                      | false =>
                        rw [hk] at hst2
                        refine aw_if rfl (fun h => absurd h (by simp)) (fun h => ?_)
                        refine aw_skip ?_; simp (maxSteps := 1000000) (disch := omega) [-List.getD_eq_getElem?_getD]
                        refine hK6 _ ?_; clear hK6
                        refine aw_reg0 fun K hK => ?_; simp (maxSteps := 1000000) (disch := omega) [-List.getD_eq_getElem?_getD]
                        refine hK _ ?_; clear hK K
                        refine ⟨k + 1, by show k + 1 ≤ _; omega, by show x.2.length - (k + 1) < x.2.length - k; omega, ?_⟩
                        rw [hst2]
                        refine weak_to [] [] ?_ ?_ ?_ ?_ (HO.toks (by simp)) ?_
                        all_goals simp
                    clear hK7
                    refine aw_then fun K8 hK8 => ?_
                    by_cases hm : m < r.length
                    · cases hg : goesOn r m x.1 p with
                      | false =>
                        have hh := goesOn_false hg hm0
                        rw [hg] at fin
                        refine aw_reg fun K hK => ?_; simp (maxSteps := 1000000) (disch := omega) [-List.getD_eq_getElem?_getD, hm]; refine hK _ ?_; clear hK K
                        refine aw_if rfl (fun h => absurd h (by simp)) (fun h => ?_)
                        refine aw_exit ?_; simp (maxSteps := 1000000) (disch := omega) [-List.getD_eq_getElem?_getD]
                        refine fin hh.symm _ ?_
                        simp
                      | true =>
                        have hat := plsAV_at r m hm
                        have mr : r.getD m [] ∈ a :: r := List.mem_cons_of_mem _ (memD r m [] hm)
                        have hlr := hl2 _ mr
                        have hpr := hp _ mr
                        have hsucc := goesOn_succ r m x.1 p
                        rw [hg, Bool.true_and] at hsucc
                        have c1 := atR_ok (r.getD m []) x.1 (by omega) H (T ++ [(out.length * 2, 2), (lk.length, 1)]) .none
                        have hpl := posOf_len hpr x.1
                        generalize r.getD m [] = b at *
                        generalize posOf b x.1 = oth at *
                        have c2 := has_ok oth (p + ((m + 1 : Nat) : Int)) (Nat.le_trans hpl (by decide)) H (T ++ [(out.length * 2, 2), (lk.length, 1)]) .none
                        rw [Int.natCast_add, ← Int.add_assoc, show ((1 : Nat) : Int) = 1 from rfl, ← hsucc, Int.add_assoc] at c2
                        refine aw_reg fun K hK => ?_; simp (maxSteps := 1000000) (disch := omega) [-List.getD_eq_getElem?_getD, hm]; refine hK _ ?_; clear hK K
                        refine aw_if rfl (fun h => ?_) (fun h => absurd h (by simp))
                        refine aw_skip ?_; simp (maxSteps := 1000000) (disch := omega) [-List.getD_eq_getElem?_getD]
                        refine hK8 _ ?_; clear hK8
                        refine aw_then fun K9 hK9 => ?_
                        refine aw_block ?_
                        refine aw_draw0 [] [] [] drawMixed (by kernel_rfl) (by kernel_rfl) fun K hK => ?_; simp (maxSteps := 1000000) (disch := omega) [-List.getD_eq_getElem?_getD, hat, hia.1, psAV_len, plsAV_len, hm, hi]
                        refine dcall_is (c1) rfl ?_; simp (maxSteps := 1000000) (disch := omega) [-List.getD_eq_getElem?_getD]
                        refine dcall_is (c2) rfl ?_; simp (maxSteps := 1000000) (disch := omega) [-List.getD_eq_getElem?_getD]
                        refine hK _ ?_; clear hK K
                        refine hK9 _ ?_; clear hK9
                        refine aw_reg0 fun K hK => ?_; simp (maxSteps := 1000000) (disch := omega) [-List.getD_eq_getElem?_getD]
                        refine hK _ ?_; clear hK K
                        refine ⟨m + 1, by show m + 1 ≤ _; omega, by show r.length - (m + 1) < r.length - m; omega, ?_⟩
                        refine weak_to [] [] ?_ ?_ ?_ ?_ (HO.toks (by simp)) ?_
                        all_goals simp
                    · have hme : m = r.length := by omega
                      subst hme
                      refine aw_reg fun K hK => ?_; simp (maxSteps := 1000000) (disch := omega) [-List.getD_eq_getElem?_getD]; refine hK _ ?_; clear hK K
                      refine aw_if rfl (fun h => absurd h (by simp)) (fun h => ?_)
                      refine aw_exit ?_; simp (maxSteps := 1000000) (disch := omega) [-List.getD_eq_getElem?_getD]
                      refine fin rfl _ ?_
                      simp
                · simp at hk
                  have : k = x.2.length := by omega
                  subst this
                  rw [List.take_length] at hlen2 ⊢
                  generalize x.2.filter (goesOn r r.length x.1) = lk at *
                  refine aw_exit ?_; simp (maxSteps := 1000000) (disch := omega) [-List.getD_eq_getElem?_getD]
                  refine hK4 _ ?_; clear hK4
                  refine aw_weak ⟨[(0, .sl (r.length + 1) (.sl a.length (psAV a) .none :: plsAV r) .none), (4, .sl out.length (psAV out) (.own T.length)), (5, .int .i64 (i : Nat)), (6, .sl lk.length (ints lk) .none)], H, T ++ [(out.length * 2, 2)]⟩ (weak_to [] [(lk.length, 1)] ?_ (by simp) ?_ ?_ (HO.toks (by simp)) ?_) ?_
                  · simp
                  · simp
                  · simp
                  · simp
                  refine aw_reg fun K hK => ?_; simp (maxSteps := 1000000) (disch := omega) [-List.getD_eq_getElem?_getD]; refine hK _ ?_; clear hK K
                  by_cases h0 : lk = []
                  · subst h0
                    refine aw_if rfl (fun h => absurd h (by simp)) (fun h => ?_)
                    refine aw_skip ?_; simp (maxSteps := 1000000) (disch := omega) [-List.getD_eq_getElem?_getD]
                    refine hK3 _ ?_; clear hK3
                    refine aw_reg0 fun K hK => ?_; simp (maxSteps := 1000000) (disch := omega) [-List.getD_eq_getElem?_getD]
                    refine hK _ ?_; clear hK K
                    refine ⟨i + 1, by show i + 1 ≤ _; omega, by show a.length - (i + 1) < a.length - i; omega, ?_⟩
                    rw [hst]
                    refine weak_to [] [] ?_ ?_ ?_ ?_ (HO.toks (by simp)) ?_
                    all_goals simp
                  · have b2 : 0 < lk.length := List.length_pos_iff.2 h0
                    rw [if_neg h0] at hst
                    have hps := psAV_snoc out x.1 lk
                    refine aw_if rfl (fun h => ?_) (fun h => absurd h (by simp; omega))
                    refine aw_reg0 fun K hK => ?_; simp (maxSteps := 1000000) (disch := omega) [-List.getD_eq_getElem?_getD, hia.1, psAV_len, hps, hi, plsAV_len]
                    refine hK _ ?_; clear hK K
                    refine hK3 _ ?_; clear hK3
                    refine aw_reg0 fun K hK => ?_; simp (maxSteps := 1000000) (disch := omega) [-List.getD_eq_getElem?_getD]
                    refine hK _ ?_; clear hK K
                    refine ⟨i + 1, by show i + 1 ≤ _; omega, by show a.length - (i + 1) < a.length - i; omega, ?_⟩
                    rw [hst]
                    refine weak_to [] [] ?_ ?_ ?_ ?_ (HO.toks (by simp)) ?_
                    all_goals simp
            · simp at hi
              have : i = a.length := by omega
              subst this
              rw [List.take_length]
              refine aw_exit ?_; simp (maxSteps := 1000000) (disch := omega) [-List.getD_eq_getElem?_getD]
              refine hK1 _ ?_; clear hK1
              refine aw_reg fun K hK => ?_; simp (maxSteps := 1000000) (disch := omega) [-List.getD_eq_getElem?_getD]; refine hK _ ?_; clear hK K
              refine aw_ret ?_; simp (maxSteps := 1000000) (disch := omega) [-List.getD_eq_getElem?_getD]
              rw [hr']
              exact ⟨rfl, rfl⟩
end Go.Proofs.Ytlijaamjcpefoaa
