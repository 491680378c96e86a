/- Compacting a box of mappings; the program's Of (layer 26).
   Conditions: lengths below 2^40, as each theorem says. -/
import Derived.Test.YtfdlngemkhiiiaaDoorVFn4
namespace Go.Proofs.YtfdlngemkhiiiaaDoor
open Go Go.Am Voc
set_option linter.unusedVariables false

theorem box_cut (u : List Mp) (rest : List AV) (i : Nat) (hi : i < u.length) : ((mpAV u ++ rest).drop (i * 3)).take 3 = [.int .i64 (u.getD i d0).1, .int .i64 (u.getD i d0).2.1, .int .i64 (u.getD i d0).2.2] := by
  have hl := mpAV_len u
  rw [List.drop_append_of_le_length (by omega), List.take_append_of_le_length (by rw [List.length_drop]; omega)]
  exact mpAV_cut u i hi
theorem box_len (u : List Mp) (rest : List AV) : (mpAV u ++ rest).length = u.length * 3 + rest.length := by rw [List.length_append, mpAV_len]
theorem mpAV_set3 : ∀ (u : List Mp) (i : Nat) (x : Mp), i < u.length → (((mpAV u).set (i * 3) (.int .i64 x.1)).set (i * 3 + 1) (.int .i64 x.2.1)).set (i * 3 + 1 + 1) (.int .i64 x.2.2) = mpAV (u.set i x) := by
  intro u
  induction u with
  | nil => intro i x h; simp at h
  | cons p u ih =>
    intro i x h
    cases i with
    | zero =>
      rw [mpAV_cons]
      show _ = mpAV (x :: u)
      rw [mpAV_cons]
      rfl
    | succ i =>
      have := ih i x (by simpa using h)
      rw [mpAV_cons, List.set_cons_succ, mpAV_cons, show (i + 1) * 3 = i * 3 + 1 + 1 + 1 by omega, ← this]
      rfl
theorem box_set3 (u : List Mp) (rest : List AV) (i : Nat) (x : Mp) (h : i < u.length) : (((mpAV u ++ rest).set (i * 3) (.int .i64 x.1)).set (i * 3 + 1) (.int .i64 x.2.1)).set (i * 3 + 1 + 1) (.int .i64 x.2.2) = mpAV (u.set i x) ++ rest := by
  have hl := mpAV_len u
  rw [List.set_append_left _ _ (by omega), List.set_append_left _ _ (by rw [List.length_set]; omega), List.set_append_left _ _ (by rw [List.length_set, List.length_set]; omega), mpAV_set3 u i x h]
theorem setMany_app (a : List AV) : ∀ (xs b : List AV) (o : Nat), setMany (a ++ b) (a.length + o) xs = a ++ setMany b o xs := by
  intro xs
  induction xs with
  | nil => intro b o; rfl
  | cons x r ih =>
    intro b o
    rw [setMany, setMany, List.set_append_right _ _ (by omega), Nat.add_sub_cancel_left, Nat.add_assoc, ih]
theorem HOk.reset {H : List Blk} {T : Toks} {b : Blk} {vs : List AV} (h : HOk (H ++ [b]) T) (hv : BelowAll (H.length + 1) T.length vs) : HOk (H ++ [.cells vs]) T := by
  have := h.set (k := H.length) (vs := vs) (by rw [List.length_append]; exact hv)
  simpa using this

/-- The list while it is compacted: what is done, and the rest as it was. -/
def wv (s : List Mp) (i : Nat) : List Mp := cpt (s.take i) ++ s.drop (cpt (s.take i)).length
theorem cpt_le (s : List Mp) (i : Nat) : (cpt (s.take i)).length ≤ i := by
  have := cpt_len (s.take i)
  rw [List.length_take] at this
  omega
theorem wv_len (s : List Mp) (i : Nat) : (wv s i).length = s.length := by
  have := cpt_len (s.take i)
  rw [List.length_take] at this
  rw [wv, List.length_append, List.length_drop]
  omega
theorem wv_get {s : List Mp} {i j : Nat} (h : (cpt (s.take i)).length ≤ j) : (wv s i).getD j d0 = s.getD j d0 := by
  rw [wv, List.getD_eq_getElem?_getD, List.getElem?_append_right h, List.getElem?_drop, show (cpt (s.take i)).length + (j - (cpt (s.take i)).length) = j by omega, ← List.getD_eq_getElem?_getD]
theorem wv_same {s : List Mp} {i : Nat} (h0 : 0 < i) (hi : i < s.length) (h : s.getD (i - 1) d0 = s.getD i d0) : cpt (s.take (i + 1)) = cpt (s.take i) ∧ wv s (i + 1) = wv s i := by
  have e := cpt_step h0 hi
  rw [if_pos h] at e
  exact ⟨e, by rw [wv, wv, e]⟩
theorem wv_next {s : List Mp} {i : Nat} (h0 : 0 < i) (hi : i < s.length) (h : ¬ s.getD (i - 1) d0 = s.getD i d0) :
    (cpt (s.take (i + 1))).length = (cpt (s.take i)).length + 1 ∧ wv s (i + 1) = (wv s i).set (cpt (s.take i)).length (s.getD i d0) := by
  have e := cpt_step h0 hi
  rw [if_neg h] at e
  have hl := cpt_le s i
  refine ⟨by rw [e, List.length_append]; rfl, ?_⟩
  rw [wv, wv, e, List.set_append_right _ _ (Nat.le_refl _), Nat.sub_self, List.length_append, List.append_assoc]
  congr 1
  rw [List.drop_eq_getElem_cons (by omega : (cpt (s.take i)).length < s.length)]
  rfl

set_option maxRecDepth 100000 in
set_option maxHeartbeats 8000000 in
theorem compact_ok (s : List Mp) (rest : List AV) (hl : s.length ≤ 1099511627776) (H : List Blk) (T : Toks) :
    ACall Tryd.prog 21 [.msl H.length 0 s.length] (H ++ [.cells (mpAV s ++ rest)]) T
      (fun r H' T' => T' = T ∧ ∃ rest', H' = H ++ [.cells (mpAV (cpt s) ++ rest')] ∧ r = .msl H.length 0 (cpt s).length) := by
  refine acall_enter 6 [] Tryd.ntmps21 Tryd.func21 rfl (fun _ _ => Tryd.call21 _ _) (by simp) (fun HO => ?_)
  have hrest : BelowAll (H.length + 1) T.length rest := by
    have := HO H.length (.cells (mpAV s ++ rest)) (by simp)
    simp only [List.length_append, List.length_cons, List.length_nil] at this
    exact fun v hv => this v (List.mem_append.2 (.inr hv))
  refine aw_reg fun K hK => ?_; simp (maxSteps := 1000000) (disch := omega) [-List.getD_eq_getElem?_getD]; refine hK _ ?_; clear hK K
  refine aw_then fun K1 hK1 => ?_
  by_cases h2 : s.length < 2
  · have b2 : decide ((s.length : Int) < 2) = true := decide_eq_true (by omega)
    have n2 : (s.length : Int) < 2 := by omega
    have e : cpt s = s := by
      match s, h2 with
      | [], _ => rfl
      | [x], _ => rfl
      | _ :: _ :: _, h => simp at h; omega
    refine aw_reg fun K hK => ?_; simp (maxSteps := 1000000) (disch := omega) [-List.getD_eq_getElem?_getD, b2, n2, h2]; refine hK _ ?_; clear hK K
    refine aw_if rfl (fun h => ?_) (fun h => absurd h (by simp))
    refine aw_reg fun K hK => ?_; simp (maxSteps := 1000000) (disch := omega) [-List.getD_eq_getElem?_getD]; refine hK _ ?_; clear hK K
    refine aw_ret ?_; simp (maxSteps := 1000000) (disch := omega) [-List.getD_eq_getElem?_getD]
    rw [e]
    exact ⟨⟨rest, rfl⟩, rfl⟩
  have b2 : decide ((s.length : Int) < 2) = false := decide_eq_false (by omega)
  have n2 : ¬ (s.length : Int) < 2 := by omega
  refine aw_reg fun K hK => ?_; simp (maxSteps := 1000000) (disch := omega) [-List.getD_eq_getElem?_getD, b2, n2, h2]; refine hK _ ?_; clear hK K
  refine aw_if rfl (fun h => absurd h (by simp)) (fun h => ?_)
  refine aw_skip ?_; simp (maxSteps := 1000000) (disch := omega) [-List.getD_eq_getElem?_getD]
  refine hK1 _ ?_; clear hK1
  refine aw_then fun K1 hK1 => ?_
  refine aw_reg fun K hK => ?_; simp (maxSteps := 1000000) (disch := omega) [-List.getD_eq_getElem?_getD]; refine hK _ ?_; clear hK K
  refine aw_block ?_
  refine aw_loop (X := Nat) (fun k => ⟨[(0, .msl H.length 0 s.length), (3, .int .i64 (k : Nat))], H ++ [.cells (mpAV s ++ rest)], T⟩) (fun k => 1 ≤ k ∧ k ≤ s.length ∧ cpt (s.take k) = s.take k) (fun k => s.length - k) 1 ?_ ?_ ?_
  · refine ⟨Nat.le_refl _, by omega, ?_⟩
    match s, h2 with
    | x :: r, _ => rfl
    | [], h => simp at h
  · refine weak_to [] [] ?_ ?_ ?_ ?_ HO ?_
    all_goals simp
  · rintro k ⟨h3, h4, h5⟩
    obtain ⟨k, rfl⟩ : ∃ j, k = j + 1 := ⟨k - 1, by omega⟩
    refine aw_then fun K2 hK2 => ?_
    refine aw_reg fun K hK => ?_; simp (maxSteps := 1000000) (disch := omega) [-List.getD_eq_getElem?_getD]; refine hK _ ?_; clear hK K
    refine aw_if rfl (fun hk => ?_) (fun hk => ?_)
    · simp [-List.getD_eq_getElem?_getD] at hk
      have hk' : k + 1 < s.length := by omega
      have hc1 := box_cut s rest (k + 1) hk'
      have hc2 := box_cut s rest k (by omega)
      have hlen := box_len s rest
      have hst := cpt_step (l := s) (i := k + 1) (by omega) hk'
      rw [show k + 1 - 1 = k from rfl, h5] at hst
      refine aw_skip ?_; simp (maxSteps := 1000000) (disch := omega) [-List.getD_eq_getElem?_getD]
      refine hK2 _ ?_; clear hK2
      refine aw_then fun K3 hK3 => ?_
      refine aw_block ?_
      refine aw_draw [] [] [] drawMixed (by kernel_rfl) (by kernel_rfl) fun K hK => ?_
      have key : ∀ e b, b = decide (s.getD k d0 = s.getD (k + 1) d0) → envLe (H.length + 1) T.length e [(0, .msl H.length 0 s.length), (3, .int .i64 ((k + 1 : Nat) : Int)), (25, .bool b)] → K ⟨e, H ++ [.cells (mpAV s ++ rest)], T⟩ := by
        intro e b hb he
        refine hK _ (aw_weak ⟨[(0, .msl H.length 0 s.length), (3, .int .i64 ((k + 1 : Nat) : Int)), (25, .bool b)], H ++ [.cells (mpAV s ++ rest)], T⟩ (weak_to [] [] (by simp) (by simp) (by simp) (by simp) HO (by simpa using he)) ?_)
        cases b with
        | true =>
          have hxy : s.getD k d0 = s.getD (k + 1) d0 := of_decide_eq_true hb.symm
          rw [if_pos hxy] at hst
          refine aw_if rfl (fun h => ?_) (fun h => absurd h (by simp))
          refine aw_reg fun K hK => ?_; simp (maxSteps := 1000000) (disch := omega) [-List.getD_eq_getElem?_getD, hk']; refine hK _ ?_; clear hK K
          refine aw_then fun K4 hK4 => ?_
          refine aw_reg fun K hK => ?_; simp (maxSteps := 1000000) (disch := omega) [-List.getD_eq_getElem?_getD]; refine hK _ ?_; clear hK K
          have hOKw : ∀ i, HOk (H ++ [.cells (mpAV (wv s i) ++ rest)]) T := fun i => HOk.reset HO (belowAll_append.2 ⟨below_mp _ _ _, hrest⟩)
          have w0 : cpt (s.take (k + 1 + 1)) = s.take (k + 1) := hst
          have w1 : (s.take (k + 1)).length = k + 1 := by rw [List.length_take]; omega
          have w2 : wv s (k + 1 + 1) = s := by rw [wv, w0, w1, List.take_append_drop]
          refine aw_block ?_
          refine aw_loop (X := Nat) (fun j => ⟨[(0, .msl H.length 0 s.length), (3, .int .i64 ((cpt (s.take (k + 1 + 1 + j))).length : Nat)), (4, .msl H.length ((k + 1) * 3) (s.length - (k + 1))), (5, .int .i64 ((j + 1 : Nat) : Int))], H ++ [.cells (mpAV (wv s (k + 1 + 1 + j)) ++ rest)], T⟩)
            (fun j => k + 1 + 1 + j ≤ s.length ∧ (cpt (s.take (k + 1 + 1 + j))).length ≤ k + 1 + j) (fun j => s.length - (k + 1 + 1 + j)) 0 ?_ ?_ ?_
          · exact ⟨hk', by rw [Nat.add_zero, w0, w1]; exact Nat.le_refl _⟩
          · refine weak_to [] [] ?_ ?_ ?_ ?_ (hOKw _) ?_
            all_goals simp [w0, w1, w2]
            all_goals omega
          · rintro j ⟨g1, g2⟩
            have hwl := wv_len s (k + 1 + 1 + j)
            have hlen2 := box_len (wv s (k + 1 + 1 + j)) rest
            rw [hwl] at hlen2
            refine aw_then fun K5 hK5 => ?_
            refine aw_reg fun K hK => ?_; simp (maxSteps := 1000000) (disch := omega) [-List.getD_eq_getElem?_getD]; refine hK _ ?_; clear hK K
            refine aw_if rfl (fun hj => ?_) (fun hj => ?_)
            · simp [-List.getD_eq_getElem?_getD] at hj
              have hi : k + 1 + 1 + j < s.length := by omega
              have hc3 := box_cut (wv s (k + 1 + 1 + j)) rest (k + 1 + 1 + j) (by omega)
              have hc4 := box_cut (wv s (k + 1 + 1 + j)) rest (k + 1 + j) (by omega)
              have hset := fun x => box_set3 (wv s (k + 1 + 1 + j)) rest (cpt (s.take (k + 1 + 1 + j))).length x (by omega)
              rw [wv_get (by omega)] at hc3 hc4
              rw [show (k + 1 + 1 + j) * 3 = (k + 1) * 3 + (j + 1) * 3 by omega] at hc3
              rw [show (k + 1 + j) * 3 = (k + 1) * 3 + j * 3 by omega] at hc4
              have hsame := wv_same (s := s) (i := k + 1 + 1 + j) (by omega) hi
              have hnext := wv_next (s := s) (i := k + 1 + 1 + j) (by omega) hi
              rw [show k + 1 + 1 + j - 1 = k + 1 + j by omega] at hsame hnext
              refine aw_skip ?_; simp (maxSteps := 1000000) (disch := omega) [-List.getD_eq_getElem?_getD]
              refine hK5 _ ?_; clear hK5
              refine aw_then fun K6 hK6 => ?_
              refine aw_block ?_
              have out : ∀ e, envLe (H.length + 1) T.length e [(0, .msl H.length 0 s.length), (3, .int .i64 ((cpt (s.take (k + 1 + 1 + (j + 1)))).length : Nat)), (4, .msl H.length ((k + 1) * 3) (s.length - (k + 1))), (5, .int .i64 ((j + 1 : Nat) : Int))] → (cpt (s.take (k + 1 + 1 + (j + 1)))).length ≤ k + 1 + (j + 1) → K6 ⟨e, H ++ [.cells (mpAV (wv s (k + 1 + 1 + (j + 1))) ++ rest)], T⟩ := by
                intro e he h3
                refine hK6 _ (aw_weak ⟨[(0, .msl H.length 0 s.length), (3, .int .i64 ((cpt (s.take (k + 1 + 1 + (j + 1)))).length : Nat)), (4, .msl H.length ((k + 1) * 3) (s.length - (k + 1))), (5, .int .i64 ((j + 1 : Nat) : Int))], H ++ [.cells (mpAV (wv s (k + 1 + 1 + (j + 1))) ++ rest)], T⟩ (weak_to [] [] (by simp) (by simp) (by simp) (by simp) (hOKw _) (by simpa using he)) ?_)
                refine aw_reg0 fun K hK => ?_; simp (maxSteps := 1000000) (disch := omega) [-List.getD_eq_getElem?_getD]
                refine hK _ ?_; clear hK K
                refine ⟨j + 1, ⟨by show k + 1 + 1 + (j + 1) ≤ _; omega, h3⟩, by show s.length - (k + 1 + 1 + (j + 1)) < s.length - (k + 1 + 1 + j); omega, ?_⟩
                refine weak_to [] [] ?_ ?_ ?_ ?_ (hOKw _) ?_
                all_goals simp
              clear hK6
              refine aw_draw [] [] [] drawMixed (by kernel_rfl) (by kernel_rfl) fun K hK => ?_
              have key2 : ∀ e b, b = decide (s.getD (k + 1 + j) d0 = s.getD (k + 1 + 1 + j) d0) → envLe (H.length + 1) T.length e [(0, .msl H.length 0 s.length), (3, .int .i64 ((cpt (s.take (k + 1 + 1 + j))).length : Nat)), (4, .msl H.length ((k + 1) * 3) (s.length - (k + 1))), (5, .int .i64 ((j + 1 : Nat) : Int)), (44, .bool (!b))] → K ⟨e, H ++ [.cells (mpAV (wv s (k + 1 + 1 + j)) ++ rest)], T⟩ := by
                intro e b hb he
                refine hK _ (aw_weak ⟨[(0, .msl H.length 0 s.length), (3, .int .i64 ((cpt (s.take (k + 1 + 1 + j))).length : Nat)), (4, .msl H.length ((k + 1) * 3) (s.length - (k + 1))), (5, .int .i64 ((j + 1 : Nat) : Int)), (44, .bool (!b))], H ++ [.cells (mpAV (wv s (k + 1 + 1 + j)) ++ rest)], T⟩ (weak_to [] [] (by simp) (by simp) (by simp) (by simp) (hOKw _) (by simpa using he)) ?_)
                cases b with
                | true =>
                  obtain ⟨h3, h4⟩ := hsame (of_decide_eq_true hb.symm)
                  refine aw_if rfl (fun h => absurd h (by simp)) (fun h => ?_)
                  refine aw_skip ?_; simp (maxSteps := 1000000) (disch := omega) [-List.getD_eq_getElem?_getD]
                  rw [show k + 1 + 1 + (j + 1) = k + 1 + 1 + j + 1 by omega, h3, h4] at out
                  refine out _ ?_ (by omega)
                  simp
                | false =>
                  obtain ⟨h3, h4⟩ := hnext (of_decide_eq_false hb.symm)
                  refine aw_if rfl (fun h => ?_) (fun h => absurd h (by simp))
                  rw [show k + 1 + 1 + (j + 1) = k + 1 + 1 + j + 1 by omega, h3, h4] at out
                  have hcl := cpt_le s (k + 1 + 1 + j)
                  rw [← hset] at out
                  have hlt3 : (cpt (s.take (k + 1 + 1 + j))).length < s.length := by omega
                  generalize s.getD (k + 1 + 1 + j) d0 = y at *
                  obtain ⟨y1, y2, y3⟩ := y
                  simp only at hc3 out
                  generalize mpAV (wv s (k + 1 + 1 + j)) ++ rest = B at *
                  generalize (cpt (s.take (k + 1 + 1 + j))).length = c at *
                  refine aw_reg fun K hK => ?_; simp (maxSteps := 1000000) (disch := omega) [-List.getD_eq_getElem?_getD, hj, hc3, hlen2, hlt3]; refine hK _ ?_; clear hK K
                  refine aw_reg0 fun K hK => ?_; simp (maxSteps := 1000000) (disch := omega) [-List.getD_eq_getElem?_getD]
                  refine hK _ ?_; clear hK K
                  refine out _ ?_ (by omega)
                  simp
              clear hK out
              generalize mpAV (wv s (k + 1 + 1 + j)) ++ rest = B at *
              generalize s.getD (k + 1 + j) d0 = x at *
              generalize s.getD (k + 1 + 1 + j) d0 = y at *
              obtain ⟨x1, x2, x3⟩ := x
              obtain ⟨y1, y2, y3⟩ := y
              simp only at hc3 hc4
              by_cases e1 : y1 = x1
              rotate_left
              · have b1 : (y1 != x1) = true := bne_iff_ne.2 e1
                have b2 : (y1 == x1) = false := beq_eq_false_iff_ne.2 e1
                simp (maxSteps := 1000000) (disch := omega) [-List.getD_eq_getElem?_getD, hj, hc3, hc4, hlen2, b1, b2, e1]
                refine key2 _ false (by simp [Ne.symm e1]) (by simp)
              subst e1
              by_cases e2 : y2 = x2
              rotate_left
              · have b2 : (y2 == x2) = false := beq_eq_false_iff_ne.2 e2
                simp (maxSteps := 1000000) (disch := omega) [-List.getD_eq_getElem?_getD, hj, hc3, hc4, hlen2, b2, e2]
                refine key2 _ false (by simp [Ne.symm e2]) (by simp)
              subst e2
              by_cases e3 : y3 = x3
              rotate_left
              · have b2 : (y3 == x3) = false := beq_eq_false_iff_ne.2 e3
                simp (maxSteps := 1000000) (disch := omega) [-List.getD_eq_getElem?_getD, hj, hc3, hc4, hlen2, b2, e3]
                refine key2 _ false (by simp [Ne.symm e3]) (by simp)
              subst e3
              simp (maxSteps := 1000000) (disch := omega) [-List.getD_eq_getElem?_getD, hj, hc3, hc4, hlen2]
              refine key2 _ true (by simp) (by simp)
            · simp [-List.getD_eq_getElem?_getD] at hj
              have e : k + 1 + 1 + j = s.length := by omega
              rw [e] at hlen2 hwl g2
              rw [e, List.take_length]
              rw [List.take_length] at g2
              have hcl : (cpt s).length < s.length := by omega
              have hw : wv s s.length = cpt s ++ s.drop (cpt s).length := by rw [wv, List.take_length]
              rw [hw, ← mpAV_app, List.append_assoc]
              rw [hw, ← mpAV_app, List.append_assoc] at hlen2
              have hcm := mpAV_len (cpt s)
              have hset := fun xs => setMany_app (mpAV (cpt s)) xs (mpAV (s.drop (cpt s).length) ++ rest) 0
              rw [hcm, Nat.add_zero] at hset
              generalize cpt s = c at *
              generalize mpAV (s.drop c.length) ++ rest = R at *
              refine aw_exit ?_; simp (maxSteps := 1000000) (disch := omega) [-List.getD_eq_getElem?_getD]
              refine hK4 _ ?_; clear hK4
              have hle : c.length ≤ s.length := by omega
              refine aw_reg fun K hK => ?_; simp (maxSteps := 1000000) (disch := omega) [-List.getD_eq_getElem?_getD, hcl, hlen2]; refine hK _ ?_; clear hK K
              rw [hset]
              refine aw_reg fun K hK => ?_; simp (maxSteps := 1000000) (disch := omega) [-List.getD_eq_getElem?_getD, hle]; refine hK _ ?_; clear hK K
              refine aw_ret ?_; simp (maxSteps := 1000000) (disch := omega) [-List.getD_eq_getElem?_getD]
        | false =>
          have hxy : ¬ s.getD k d0 = s.getD (k + 1) d0 := of_decide_eq_false hb.symm
          rw [if_neg hxy] at hst
          refine aw_if rfl (fun h => absurd h (by simp)) (fun h => ?_)
          refine aw_skip ?_; simp (maxSteps := 1000000) (disch := omega) [-List.getD_eq_getElem?_getD]
          refine hK3 _ ?_; clear hK3
          refine aw_reg0 fun K hK => ?_; simp (maxSteps := 1000000) (disch := omega) [-List.getD_eq_getElem?_getD]
          refine hK _ ?_; clear hK K
          refine ⟨k + 1 + 1, ⟨by show 1 ≤ k + 1 + 1; omega, by show k + 1 + 1 ≤ _; omega, ?_⟩, by show s.length - (k + 1 + 1) < s.length - (k + 1); omega, ?_⟩
          · rw [hst, takeD s (k + 1) d0 hk']
          · refine weak_to [] [] ?_ ?_ ?_ ?_ HO ?_
            all_goals simp
      clear hK
      generalize hB : mpAV s ++ rest = B at *
      generalize s.getD k d0 = x at *
      generalize s.getD (k + 1) d0 = y at *
      obtain ⟨x1, x2, x3⟩ := x
      obtain ⟨y1, y2, y3⟩ := y
      simp only at hc1 hc2
      by_cases e1 : y1 = x1
      rotate_left
      · have b1 : (y1 == x1) = false := beq_eq_false_iff_ne.2 e1
        simp (maxSteps := 1000000) (disch := omega) [-List.getD_eq_getElem?_getD, hk', hc1, hc2, hlen, b1, e1]
        refine key _ false (by simp [Ne.symm e1]) (by simp)
      subst e1
      by_cases e2 : y2 = x2
      rotate_left
      · have b1 : (y2 == x2) = false := beq_eq_false_iff_ne.2 e2
        simp (maxSteps := 1000000) (disch := omega) [-List.getD_eq_getElem?_getD, hk', hc1, hc2, hlen, b1, e2]
        refine key _ false (by simp [Ne.symm e2]) (by simp)
      subst e2
      by_cases e3 : y3 = x3
      rotate_left
      · have b1 : (y3 == x3) = false := beq_eq_false_iff_ne.2 e3
        simp (maxSteps := 1000000) (disch := omega) [-List.getD_eq_getElem?_getD, hk', hc1, hc2, hlen, b1, e3]
        refine key _ false (by simp [Ne.symm e3]) (by simp)
      subst e3
      simp (maxSteps := 1000000) (disch := omega) [-List.getD_eq_getElem?_getD, hk', hc1, hc2, hlen]
      refine key _ true (by simp) (by simp)
    · simp [-List.getD_eq_getElem?_getD] at hk
      have e : k + 1 = s.length := by omega
      have e2 : cpt s = s := by
        rw [e, List.take_length] at h5
        exact h5
      refine aw_exit ?_; simp (maxSteps := 1000000) (disch := omega) [-List.getD_eq_getElem?_getD]
      refine hK1 _ ?_; clear hK1
      refine aw_reg fun K hK => ?_; simp (maxSteps := 1000000) (disch := omega) [-List.getD_eq_getElem?_getD]; refine hK _ ?_; clear hK K
      refine aw_ret ?_; simp (maxSteps := 1000000) (disch := omega) [-List.getD_eq_getElem?_getD]
      rw [e2]
      exact ⟨⟨rest, rfl⟩, rfl⟩
end Go.Proofs.YtfdlngemkhiiiaaDoor
