/- The valid list of some mappings: the reference's Of (layer 26).
   Conditions: at most 2^20 mappings. -/
import Derived.Test.YtfdlngemkhiiiaaDoorVFn3
import Derived.Test.YtfdlngemkhiiiaaDoorVPl3
namespace Voc
theorem ofF_bad {l : List Mp} {x : Mp} (hx : x ∈ l) (h : goodM x = false) : ofF l = ([], 1) :=
  if_neg fun hh => by rw [List.all_eq_true.1 hh x hx] at h; cases h
theorem ofF_conf {l : List Mp} {x y : Mp} (hg : l.all goodM = true) (hx : x ∈ l) (hy : y ∈ l) (he : ends x = ends y) (hn : x ≠ y) : ofF l = ([], 13) := by
  rw [ofF, if_pos hg, if_neg fun hh => hn (hh x hx y hy he)]
theorem ofF_asc {l out : List Mp} (hg : l.all goodM = true) (ha : Asc out) (hm : ∀ x, x ∈ out ↔ x ∈ l) : ofF l = if out.length ≤ 500 then (out, 0) else ([], 3) := by
  obtain ⟨h1, h2⟩ := dd_of ha hm
  rw [ofF, if_pos hg, if_pos h1, h2]
end Voc
namespace Go.Proofs.YtfdlngemkhiiiaaDoor
open Go Go.Am Voc
set_option linter.unusedVariables false

set_option maxRecDepth 100000 in
set_option maxHeartbeats 8000000 in
theorem ofR_ok (l : List Mp) (hl : l.length ≤ 1000000) (H : List Blk) (T : Toks) (tg : Tag) :
    ACall Tryd.prog 7 [.sl l.length (mpAV l) tg] H T (Is (.tup [.sl (ofF l).1.length (mpAV (ofF l).1) .none, .int .i64 (ofF l).2]) H T) := by
  refine ACall.untag1 ?_
  refine ACall.dropT ?_ (by simp)
  refine acall_enter 8 [] Tryd.ntmps7 Tryd.func7 rfl (fun _ _ => Tryd.call7 _ _) (by simp) (fun HO => ?_)
  refine aw_reg fun K hK => ?_; simp (maxSteps := 1000000) (disch := omega) [-List.getD_eq_getElem?_getD]; refine hK _ ?_; clear hK K
  refine aw_then fun K1 hK1 => ?_
  refine aw_reg fun K hK => ?_; simp (maxSteps := 1000000) (disch := omega) [-List.getD_eq_getElem?_getD]; refine hK _ ?_; clear hK K
  refine aw_block ?_
  refine aw_loop (X := Nat) (fun i => ⟨[(0, .sl l.length (mpAV l) .none), (4, .int .i64 (i : Nat))], H, T⟩)
    (fun i => i ≤ l.length ∧ ∀ j, j < i → goodM (l.getD j d0) = true) (fun i => l.length - i) 0 ?_ ?_ ?_
  · exact ⟨Nat.zero_le _, fun j hj => absurd hj (Nat.not_lt_zero _)⟩
  · refine weak_to [] [] ?_ ?_ ?_ ?_ HO ?_
    all_goals simp
  · rintro i ⟨h1, h2⟩
    refine aw_then fun K2 hK2 => ?_
    refine aw_reg fun K hK => ?_; simp (maxSteps := 1000000) (disch := omega) [-List.getD_eq_getElem?_getD]; refine hK _ ?_; clear hK K
    refine aw_if rfl (fun hk => ?_) (fun hk => ?_)
    · simp [-List.getD_eq_getElem?_getD] at hk
      have hcut := mpAV_cut l i hk
      have c := fun H T => one_ok (l.getD i d0) H T
      simp only [mcD] at c
      refine aw_skip ?_; simp (maxSteps := 1000000) (disch := omega) [-List.getD_eq_getElem?_getD]
      refine hK2 _ ?_; clear hK2
      refine aw_then fun K3 hK3 => ?_
      refine aw_block ?_
      cases hg : goodM (l.getD i d0) with
      | false =>
        simp only [hg] at c
        refine aw_reg fun K hK => ?_; simp (maxSteps := 1000000) (disch := omega) [-List.getD_eq_getElem?_getD, hcut, mpAV_len]
        refine acall_is (c _ _) ?_; simp (maxSteps := 1000000) (disch := omega) [-List.getD_eq_getElem?_getD]
        refine hK _ ?_; clear hK K
        refine aw_if rfl (fun h => ?_) (fun h => absurd h (by simp))
        refine aw_reg fun K hK => ?_; simp (maxSteps := 1000000) (disch := omega) [-List.getD_eq_getElem?_getD]; refine hK _ ?_; clear hK K
        refine aw_ret ?_; simp (maxSteps := 1000000) (disch := omega) [-List.getD_eq_getElem?_getD]
        simp [ofF_bad (memD l i d0 hk) hg, mpAV_nil]
      | true =>
        simp only [hg] at c
        refine aw_reg fun K hK => ?_; simp (maxSteps := 1000000) (disch := omega) [-List.getD_eq_getElem?_getD, hcut, mpAV_len]
        refine acall_is (c _ _) ?_; simp (maxSteps := 1000000) (disch := omega) [-List.getD_eq_getElem?_getD]
        refine hK _ ?_; clear hK K
        refine aw_if rfl (fun h => absurd h (by simp)) (fun h => ?_)
        refine aw_skip ?_; simp (maxSteps := 1000000) (disch := omega) [-List.getD_eq_getElem?_getD]
        refine hK3 _ ?_; clear hK3
        refine aw_reg0 fun K hK => ?_; simp (maxSteps := 1000000) (disch := omega) [-List.getD_eq_getElem?_getD]
        refine hK _ ?_; clear hK K
        refine ⟨i + 1, ⟨by show i + 1 ≤ _; omega, fun j hj => ?_⟩, by show l.length - (i + 1) < l.length - i; omega, ?_⟩
        · rcases Nat.lt_or_ge j i with h3 | h3
          · exact h2 j h3
          · have : j = i := by omega
            subst this; exact hg
        · refine weak_to [] [] ?_ ?_ ?_ ?_ HO ?_
          all_goals simp
    · simp [-List.getD_eq_getElem?_getD] at hk
      have hall : l.all goodM = true := by
        rw [List.all_eq_true]
        intro x hx
        obtain ⟨j, hj, e⟩ := memD_inv d0 hx
        rw [← e]; exact h2 j (by omega)
      refine aw_exit ?_; simp (maxSteps := 1000000) (disch := omega) [-List.getD_eq_getElem?_getD]
      refine hK1 _ (aw_weak ⟨[(0, .sl l.length (mpAV l) .none)], H, T⟩ (weak_to [] [] (by simp) (by simp) (by simp) (by simp) HO (by simp)) ?_)
      refine aw_reg fun K hK => ?_; simp (maxSteps := 1000000) (disch := omega) [-List.getD_eq_getElem?_getD]; refine hK _ ?_; clear hK K
      refine aw_then fun K1 hK1 => ?_
      refine aw_reg fun K hK => ?_; simp (maxSteps := 1000000) (disch := omega) [-List.getD_eq_getElem?_getD]; refine hK _ ?_; clear hK K
      refine aw_block ?_
      refine aw_loop (X := Nat × List Mp) (fun x => ⟨[(0, .sl l.length (mpAV l) .none), (5, .sl x.2.length (mpAV x.2) .none), (6, .int .i64 (x.1 : Nat))], H, T⟩)
        (fun x => x.1 ≤ l.length ∧ Asc x.2 ∧ (∀ y, y ∈ x.2 ↔ y ∈ l.take x.1) ∧ x.2.length ≤ x.1) (fun x => l.length - x.1) (0, []) ?_ ?_ ?_
      · exact ⟨Nat.zero_le _, List.Pairwise.nil, fun y => by simp, Nat.le_refl _⟩
      · refine weak_to [] [] ?_ ?_ ?_ ?_ HO ?_
        all_goals simp [mpAV_nil]
      · rintro ⟨i, out⟩ ⟨h1, h2, h3, h4⟩
        simp only at h1 h2 h3 h4
        refine aw_then fun K2 hK2 => ?_
        refine aw_reg fun K hK => ?_; simp (maxSteps := 1000000) (disch := omega) [-List.getD_eq_getElem?_getD]; refine hK _ ?_; clear hK K
        refine aw_if rfl (fun hk => ?_) (fun hk => ?_)
        · simp [-List.getD_eq_getElem?_getD] at hk
          have hcut := mpAV_cut l i hk
          have hat := mpAV_at l i hk
          have hmx := memD l i d0 hk
          have htk := takeD l i d0 hk
          generalize hx : l.getD i d0 = x at *
          refine aw_skip ?_; simp (maxSteps := 1000000) (disch := omega) [-List.getD_eq_getElem?_getD]
          refine hK2 _ ?_; clear hK2
          refine aw_then fun K3 hK3 => ?_
          refine aw_block ?_
          refine aw_reg fun K hK => ?_; simp (maxSteps := 1000000) (disch := omega) [-List.getD_eq_getElem?_getD]; refine hK _ ?_; clear hK K
          refine aw_then fun K4 hK4 => ?_
          refine aw_block ?_
          refine aw_loop (X := Nat) (fun k => ⟨[(0, .sl l.length (mpAV l) .none), (5, .sl out.length (mpAV out) .none), (6, .int .i64 (i : Nat)), (7, .int .i64 (k : Nat))], H, T⟩)
            (fun k => k ≤ out.length ∧ ∀ j, j < k → lt2 (out.getD j d0) x = true) (fun k => out.length - k) 0 ?_ ?_ ?_
          · exact ⟨Nat.zero_le _, fun j hj => absurd hj (Nat.not_lt_zero _)⟩
          · refine weak_to [] [] ?_ ?_ ?_ ?_ HO ?_
            all_goals simp
          · rintro k ⟨g1, g2⟩
            have next : ∀ out' e rT, Asc out' → (∀ y, y ∈ out' ↔ y ∈ l.take (i + 1)) → out'.length ≤ i + 1 → envLe H.length T.length e [(0, .sl l.length (mpAV l) .none), (5, .sl out'.length (mpAV out') .none), (6, .int .i64 (i : Nat))] → K3 ⟨e, H, T ++ rT⟩ := by
              intro out' e rT a1 a2 a3 a4
              refine hK3 _ (aw_weak ⟨[(0, .sl l.length (mpAV l) .none), (5, .sl out'.length (mpAV out') .none), (6, .int .i64 (i : Nat))], H, T⟩ (weak_to [] rT (by simp) (by simp) (by simp) (by simp) HO a4) ?_)
              refine aw_reg0 fun K hK => ?_; simp (maxSteps := 1000000) (disch := omega) [-List.getD_eq_getElem?_getD]
              refine hK _ ?_; clear hK K
              refine ⟨(i + 1, out'), ⟨by show i + 1 ≤ _; omega, a1, a2, a3⟩, by show l.length - (i + 1) < l.length - i; omega, ?_⟩
              refine weak_to [] [] ?_ ?_ ?_ ?_ HO ?_
              all_goals simp
            have go : (k < out.length → lt2 (out.getD k d0) x = false) → ∀ e, envLe H.length T.length e [(0, .sl l.length (mpAV l) .none), (5, .sl out.length (mpAV out) .none), (6, .int .i64 (i : Nat)), (7, .int .i64 (k : Nat))] → K4 ⟨e, H, T⟩ := by
              intro g3 e he
              refine hK4 _ (aw_weak ⟨[(0, .sl l.length (mpAV l) .none), (5, .sl out.length (mpAV out) .none), (6, .int .i64 (i : Nat)), (7, .int .i64 (k : Nat))], H, T⟩ (weak_to [] [] (by simp) (by simp) (by simp) (by simp) HO he) ?_)
              refine aw_then fun K5 hK5 => ?_
              have ins : (k < out.length → lt2 x (out.getD k d0) = true) → ∀ e, envLe H.length T.length e [(0, .sl l.length (mpAV l) .none), (5, .sl out.length (mpAV out) .none), (6, .int .i64 (i : Nat)), (7, .int .i64 (k : Nat))] → K5 ⟨e, H, T⟩ := by
                intro g4 e he
                refine hK5 _ (aw_weak ⟨[(0, .sl l.length (mpAV l) .none), (5, .sl out.length (mpAV out) .none), (6, .int .i64 (i : Nat)), (7, .int .i64 (k : Nat))], H, T⟩ (weak_to [] [] (by simp) (by simp) (by simp) (by simp) HO he) ?_)
                have ha := insK h2 (fun j hj _ => g2 j hj) g4
                have ht := mpAV_takeN out k
                have hdr := mpAV_dropN out k
                have hlt : (mpAV (out.take k)).length = k * 3 := by rw [mpAV_len, List.length_take]; omega
                have hld : (mpAV (out.drop k)).length = (out.length - k) * 3 := by rw [mpAV_len, List.length_drop]
                have htk2 : (mpAV (out.drop k)).take ((out.length - k) * 3) = mpAV (out.drop k) := by rw [← hld, List.take_length]
                have hres : mpAV (out.take k) ++ .int .i64 x.1 :: .int .i64 x.2.1 :: .int .i64 x.2.2 :: mpAV (out.drop k) = mpAV (out.take k ++ x :: out.drop k) := by simp [mpAV]
                have hlen : k + 1 + (out.length - k) = (out.take k ++ x :: out.drop k).length := by simp; omega
                have hmem : ∀ y, y ∈ out.take k ++ x :: out.drop k ↔ y ∈ l.take (i + 1) := by
                  intro y
                  rw [htk, List.mem_append, List.mem_append, List.mem_cons, List.mem_singleton, ← h3 y]
                  have : y ∈ out ↔ y ∈ out.take k ∨ y ∈ out.drop k := by rw [← List.mem_append, List.take_append_drop]
                  rw [this]
                  constructor
                  · rintro (h | h | h)
                    · exact .inl (.inl h)
                    · exact .inr h
                    · exact .inl (.inr h)
                  · rintro ((h | h) | h)
                    · exact .inl h
                    · exact .inr (.inr h)
                    · exact .inr (.inl h)
                have hl2 : (out.take k ++ x :: out.drop k).length ≤ i + 1 := by rw [← hlen]; omega
                refine aw_draw0 [4, 10, 14] [0, 0, 0, 0, 0, 0, 0, 0, 0, 0, 1, 0, 0, 0, 2, 3] [[], [], []] drawMixed (by kernel_rfl) (by kernel_rfl) fun K hK => ?_; simp (maxSteps := 1000000) (disch := omega) [-List.getD_eq_getElem?_getD, amade_zero, mpAV_len, ht, hdr, hlt, hld, htk2, hcut]
                rw [hres, hlen]
                refine hK _ ?_; clear hK K
                refine next _ _ _ ha hmem hl2 ?_
                simp
              clear hK5
              by_cases gk : k < out.length
              · have hcut2 := mpAV_cut out k gk
                have hat2 := mpAV_at out k gk
                have b4 : decide ((k : Int) < out.length) = true := decide_eq_true (by omega)
                have c := fun H T => less_ok x (out.getD k d0) H T
                simp only [mc] at c
                have hmy := memD out k d0 gk
                cases hb : lt2 x (out.getD k d0) with
                | true =>
                  simp only [hb] at c
                  refine aw_draw [] [] [] drawMixed (by kernel_rfl) (by kernel_rfl) fun K hK => ?_; simp (maxSteps := 1000000) (disch := omega) [-List.getD_eq_getElem?_getD, b4, gk, hcut, hcut2, mpAV_len]
                  refine dcall_is (c _ _) rfl ?_; simp (maxSteps := 1000000) (disch := omega) [-List.getD_eq_getElem?_getD]
                  refine hK _ ?_; clear hK K
                  refine aw_if rfl (fun h => absurd h (by simp)) (fun h => ?_)
                  refine aw_skip ?_; simp (maxSteps := 1000000) (disch := omega) [-List.getD_eq_getElem?_getD]
                  refine ins (fun _ => hb) _ ?_
                  simp
                | false =>
                  have he2 := ends_of hb (g3 gk)
                  simp only [hb] at c
                  refine aw_draw [] [] [] drawMixed (by kernel_rfl) (by kernel_rfl) fun K hK => ?_; simp (maxSteps := 1000000) (disch := omega) [-List.getD_eq_getElem?_getD, b4, gk, hcut, hcut2, mpAV_len]
                  refine dcall_is (c _ _) rfl ?_; simp (maxSteps := 1000000) (disch := omega) [-List.getD_eq_getElem?_getD]
                  refine hK _ ?_; clear hK K
                  refine aw_if rfl (fun h => ?_) (fun h => absurd h (by simp))
                  by_cases hkk : (out.getD k d0).2.2 = x.2.2
                  · have hxy : out.getD k d0 = x := by
                      simp only [ends, Prod.mk.injEq] at he2
                      exact Prod.ext he2.1.symm (Prod.ext he2.2.symm hkk)
                    have b6 : ((out.getD k d0).2.2 != x.2.2) = false := bne_eq_false_iff_eq.2 hkk
                    have b7 : ((out.getD k d0).2.2 == x.2.2) = true := beq_iff_eq.2 hkk
                    refine aw_then fun K6 hK6 => ?_
                    refine aw_draw [] [] [] drawMixed (by kernel_rfl) (by kernel_rfl) fun K hK => ?_; simp (maxSteps := 1000000) (disch := omega) [-List.getD_eq_getElem?_getD, b4, gk, hat.1, hat.2.1, hat.2.2, hat2.1, hat2.2.1, hat2.2.2, mpAV_len, b6, b7]
                    refine hK _ ?_; clear hK K
                    refine aw_if rfl (fun h => absurd h (by simp)) (fun h => ?_)
                    refine aw_skip ?_; simp (maxSteps := 1000000) (disch := omega) [-List.getD_eq_getElem?_getD]
                    refine hK6 _ ?_; clear hK6
                    refine aw_exit ?_; simp (maxSteps := 1000000) (disch := omega) [-List.getD_eq_getElem?_getD]
                    rw [← List.append_nil T]
                    refine next out _ [] h2 (fun y => ?_) (by omega) ?_
                    · rw [htk, List.mem_append, List.mem_singleton, ← h3 y]
                      exact ⟨.inl, fun h => h.elim id fun h => by rw [h, ← hxy]; exact hmy⟩
                    · simp
                  · have b6 : ((out.getD k d0).2.2 != x.2.2) = true := bne_iff_ne.2 hkk
                    have b7 : ((out.getD k d0).2.2 == x.2.2) = false := beq_eq_false_iff_ne.2 hkk
                    have hbad := ofF_conf hall hmx (List.mem_of_mem_take ((h3 _).1 hmy)) he2 fun e => hkk (by rw [← e])
                    refine aw_then fun K6 hK6 => ?_
                    refine aw_draw [] [] [] drawMixed (by kernel_rfl) (by kernel_rfl) fun K hK => ?_; simp (maxSteps := 1000000) (disch := omega) [-List.getD_eq_getElem?_getD, b4, gk, hat.1, hat.2.1, hat.2.2, hat2.1, hat2.2.1, hat2.2.2, mpAV_len, b6, b7]
                    refine hK _ ?_; clear hK K
                    refine aw_if rfl (fun h => ?_) (fun h => absurd h (by simp))
                    refine aw_reg fun K hK => ?_; simp (maxSteps := 1000000) (disch := omega) [-List.getD_eq_getElem?_getD]; refine hK _ ?_; clear hK K
                    refine aw_ret ?_; simp (maxSteps := 1000000) (disch := omega) [-List.getD_eq_getElem?_getD]
                    simp [hbad, mpAV_nil]
              · have b4 : decide ((k : Int) < out.length) = false := decide_eq_false (by omega)
                refine aw_draw [] [] [] drawMixed (by kernel_rfl) (by kernel_rfl) fun K hK => ?_; simp (maxSteps := 1000000) (disch := omega) [-List.getD_eq_getElem?_getD, b4, gk]
                refine hK _ ?_; clear hK K
                refine aw_if rfl (fun h => absurd h (by simp)) (fun h => ?_)
                refine aw_skip ?_; simp (maxSteps := 1000000) (disch := omega) [-List.getD_eq_getElem?_getD]
                refine ins (fun h => absurd h gk) _ ?_
                simp
            clear hK4
            refine aw_then fun K5 hK5 => ?_
            by_cases gk : k < out.length
            · have hcut2 := mpAV_cut out k gk
              have b4 : decide ((k : Int) < out.length) = true := decide_eq_true (by omega)
              have c := fun H T => less_ok (out.getD k d0) x H T
              simp only [mc] at c
              cases hb : lt2 (out.getD k d0) x with
              | true =>
                simp only [hb] at c
                refine aw_draw [] [] [] drawMixed (by kernel_rfl) (by kernel_rfl) fun K hK => ?_; simp (maxSteps := 1000000) (disch := omega) [-List.getD_eq_getElem?_getD, b4, gk, hcut, hcut2, mpAV_len]
                refine dcall_is (c _ _) rfl ?_; simp (maxSteps := 1000000) (disch := omega) [-List.getD_eq_getElem?_getD]
                refine hK _ ?_; clear hK K
                refine aw_if rfl (fun h => ?_) (fun h => absurd h (by simp))
                refine aw_skip ?_; simp (maxSteps := 1000000) (disch := omega) [-List.getD_eq_getElem?_getD]
                refine hK5 _ ?_; clear hK5
                refine aw_block ?_
                refine aw_reg0 fun K hK => ?_; simp (maxSteps := 1000000) (disch := omega) [-List.getD_eq_getElem?_getD]
                refine hK _ ?_; clear hK K
                refine ⟨k + 1, ⟨by show k + 1 ≤ _; omega, fun j hj => ?_⟩, by show out.length - (k + 1) < out.length - k; omega, ?_⟩
                · rcases Nat.lt_or_ge j k with h5 | h5
                  · exact g2 j h5
                  · have : j = k := by omega
                    subst this; exact hb
                · refine weak_to [] [] ?_ ?_ ?_ ?_ HO ?_
                  all_goals simp
              | false =>
                simp only [hb] at c
                refine aw_draw [] [] [] drawMixed (by kernel_rfl) (by kernel_rfl) fun K hK => ?_; simp (maxSteps := 1000000) (disch := omega) [-List.getD_eq_getElem?_getD, b4, gk, hcut, hcut2, mpAV_len]
                refine dcall_is (c _ _) rfl ?_; simp (maxSteps := 1000000) (disch := omega) [-List.getD_eq_getElem?_getD]
                refine hK _ ?_; clear hK K
                refine aw_if rfl (fun h => absurd h (by simp)) (fun h => ?_)
                refine aw_exit ?_; simp (maxSteps := 1000000) (disch := omega) [-List.getD_eq_getElem?_getD]
                refine go (fun _ => hb) _ ?_
                simp
            · have b4 : decide ((k : Int) < out.length) = false := decide_eq_false (by omega)
              refine aw_draw [] [] [] drawMixed (by kernel_rfl) (by kernel_rfl) fun K hK => ?_; simp (maxSteps := 1000000) (disch := omega) [-List.getD_eq_getElem?_getD, b4, gk]
              refine hK _ ?_; clear hK K
              refine aw_if rfl (fun h => absurd h (by simp)) (fun h => ?_)
              refine aw_exit ?_; simp (maxSteps := 1000000) (disch := omega) [-List.getD_eq_getElem?_getD]
              refine go (fun h => absurd h gk) _ ?_
              simp
        · simp [-List.getD_eq_getElem?_getD] at hk
          have e : i = l.length := by omega
          subst e
          rw [List.take_length] at h3
          have hF := ofF_asc hall h2 h3
          refine aw_exit ?_; simp (maxSteps := 1000000) (disch := omega) [-List.getD_eq_getElem?_getD]
          refine hK1 _ ?_; clear hK1
          by_cases h5 : out.length ≤ 500
          · rw [if_pos h5] at hF
            have b5 : decide ((500 : Int) < out.length) = false := decide_eq_false (by omega)
            have n5 : ¬ (500 : Int) < out.length := by omega
            refine aw_then fun K3 hK3 => ?_
            refine aw_reg fun K hK => ?_; simp (maxSteps := 1000000) (disch := omega) [-List.getD_eq_getElem?_getD, b5, n5]; refine hK _ ?_; clear hK K
            refine aw_if rfl (fun h => absurd h (by simp)) (fun h => ?_)
            refine aw_skip ?_; simp (maxSteps := 1000000) (disch := omega) [-List.getD_eq_getElem?_getD]
            refine hK3 _ ?_; clear hK3
            refine aw_reg fun K hK => ?_; simp (maxSteps := 1000000) (disch := omega) [-List.getD_eq_getElem?_getD]; refine hK _ ?_; clear hK K
            refine aw_ret ?_; simp (maxSteps := 1000000) (disch := omega) [-List.getD_eq_getElem?_getD]
            simp [hF]
          · rw [if_neg h5] at hF
            have b5 : decide ((500 : Int) < out.length) = true := decide_eq_true (by omega)
            have n5 : (500 : Int) < out.length := by omega
            refine aw_then fun K3 hK3 => ?_
            refine aw_reg fun K hK => ?_; simp (maxSteps := 1000000) (disch := omega) [-List.getD_eq_getElem?_getD, b5, n5]; refine hK _ ?_; clear hK K
            refine aw_if rfl (fun h => ?_) (fun h => absurd h (by simp))
            refine aw_reg fun K hK => ?_; simp (maxSteps := 1000000) (disch := omega) [-List.getD_eq_getElem?_getD]; refine hK _ ?_; clear hK K
            refine aw_ret ?_; simp (maxSteps := 1000000) (disch := omega) [-List.getD_eq_getElem?_getD]
            simp [hF, mpAV_nil]
end Go.Proofs.YtfdlngemkhiiiaaDoor
