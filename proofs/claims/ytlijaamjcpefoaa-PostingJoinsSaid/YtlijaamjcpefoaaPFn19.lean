/- Merging of posting lists in layer 38.
   Conditions: lengths below 400. -/
import Derived.Test.YtlijaamjcpefoaaPFn17
namespace Go.Proofs.Ytlijaamjcpefoaa
open Go Go.Am Post
set_option linter.unusedVariables false

theorem drop_consP (l : PL) (i : Nat) (h : i < l.length) : l.drop i = l.getD i (0, []) :: l.drop (i + 1) := by
  rw [List.drop_eq_getElem_cons h, List.getD_eq_getElem?_getD, List.getElem?_eq_getElem h]
  rfl

/-- What is left of the walk through two posting lists. -/
def MP {β : Type} (fA fB : β → (Int × List Int) → β) (fAB : β → (Int × List Int) → (Int × List Int) → β) (a b : PL) (n i j : Nat) (o : β) : β := mgP fA fB fAB n (a.drop i) (b.drop j) o

section
variable {β : Type} {fA fB : β → (Int × List Int) → β} {fAB : β → (Int × List Int) → (Int × List Int) → β} {a b : PL} {o : β} {n i j : Nat}
theorem MP_A (hn : 0 < n) (hi : i < a.length) (hj : j < b.length) (h : (a.getD i (0, [])).1 < (b.getD j (0, [])).1) : MP fA fB fAB a b n i j o = MP fA fB fAB a b (n - 1) (i + 1) j (fA o (a.getD i (0, []))) := by
  obtain ⟨m, rfl⟩ : ∃ m, n = m + 1 := ⟨n - 1, by omega⟩
  unfold MP
  rw [drop_consP a i hi, drop_consP b j hj, mgP, if_pos h]
  rfl
theorem MP_B (hn : 0 < n) (hi : i < a.length) (hj : j < b.length) (h : ¬ (a.getD i (0, [])).1 < (b.getD j (0, [])).1) (h2 : (b.getD j (0, [])).1 < (a.getD i (0, [])).1) : MP fA fB fAB a b n i j o = MP fA fB fAB a b (n - 1) i (j + 1) (fB o (b.getD j (0, []))) := by
  obtain ⟨m, rfl⟩ : ∃ m, n = m + 1 := ⟨n - 1, by omega⟩
  unfold MP
  rw [drop_consP a i hi, drop_consP b j hj, mgP, if_neg h, if_pos h2]
  rfl
theorem MP_AB (hn : 0 < n) (hi : i < a.length) (hj : j < b.length) (h : ¬ (a.getD i (0, [])).1 < (b.getD j (0, [])).1) (h2 : ¬ (b.getD j (0, [])).1 < (a.getD i (0, [])).1) : MP fA fB fAB a b n i j o = MP fA fB fAB a b (n - 1) (i + 1) (j + 1) (fAB o (a.getD i (0, [])) (b.getD j (0, []))) := by
  obtain ⟨m, rfl⟩ : ∃ m, n = m + 1 := ⟨n - 1, by omega⟩
  unfold MP
  rw [drop_consP a i hi, drop_consP b j hj, mgP, if_neg h, if_neg h2]
  rfl
theorem MP_A0 (hn : 0 < n) (hi : i < a.length) (hj : j = b.length) : MP fA fB fAB a b n i j o = MP fA fB fAB a b (n - 1) (i + 1) j (fA o (a.getD i (0, []))) := by
  obtain ⟨m, rfl⟩ : ∃ m, n = m + 1 := ⟨n - 1, by omega⟩
  unfold MP
  rw [drop_consP a i hi, hj, List.drop_length, mgP]
  rfl
theorem MP_B0 (hn : 0 < n) (hi : i = a.length) (hj : j < b.length) : MP fA fB fAB a b n i j o = MP fA fB fAB a b (n - 1) i (j + 1) (fB o (b.getD j (0, []))) := by
  obtain ⟨m, rfl⟩ : ∃ m, n = m + 1 := ⟨n - 1, by omega⟩
  unfold MP
  rw [drop_consP b j hj, hi, List.drop_length, mgP]
  rfl
theorem MP_end (hi : i = a.length) (hj : j = b.length) : MP fA fB fAB a b n i j o = o := by
  unfold MP
  rw [hi, hj, List.drop_length, List.drop_length]
  cases n <;> rfl
end

set_option maxRecDepth 100000 in
set_option maxHeartbeats 4000000 in
theorem mergeP_ok {β : Type} (g : Nat) (caps : List AV) (fA fB : β → (Int × List Int) → β) (fAB : β → (Int × List Int) → (Int × List Int) → β) (S : β → List Blk) (U : β → Toks) (I : Nat → β → Prop) (N M : Nat) (o0 : β)
    (a b : PL) (ha : a.length ≤ 400) (hb : b.length ≤ 400) (hS : ∀ o, (S o).length = N) (hU : ∀ o, (U o).length = M) (hbc : BelowAll N M caps) (hok : ∀ n o, I n o → HOk (S o) (U o)) (h0 : I 0 o0)
    (cA : ∀ n i o, i < a.length → n ≤ 800 → I n o → ACall Try.prog g ([.vptr (psAV a) (i * 2), .nilp] ++ caps) (S o) (U o) (Is (.tup []) (S (fA o (a.getD i (0, [])))) (U (fA o (a.getD i (0, []))))))
    (cB : ∀ n j o, j < b.length → n ≤ 800 → I n o → ACall Try.prog g ([.nilp, .vptr (psAV b) (j * 2)] ++ caps) (S o) (U o) (Is (.tup []) (S (fB o (b.getD j (0, [])))) (U (fB o (b.getD j (0, []))))))
    (cAB : ∀ n i j o, i < a.length → j < b.length → n ≤ 800 → I n o → ACall Try.prog g ([.vptr (psAV a) (i * 2), .vptr (psAV b) (j * 2)] ++ caps) (S o) (U o) (Is (.tup []) (S (fAB o (a.getD i (0, [])) (b.getD j (0, [])))) (U (fAB o (a.getD i (0, [])) (b.getD j (0, []))))))
    (iA : ∀ n i o, i < a.length → I n o → I (n + 1) (fA o (a.getD i (0, [])))) (iB : ∀ n j o, j < b.length → I n o → I (n + 1) (fB o (b.getD j (0, [])))) (iAB : ∀ n i j o, i < a.length → j < b.length → I n o → I (n + 2) (fAB o (a.getD i (0, [])) (b.getD j (0, [])))) :
    ACall Try.prog 64 [.sl a.length (psAV a) .none, .sl b.length (psAV b) .none, .fn 65 [] [], .fn g [] caps] (S o0) (U o0)
      (Is (.tup []) (S (MP fA fB fAB a b (a.length + b.length) 0 0 o0)) (U (MP fA fB fAB a b (a.length + b.length) 0 0 o0))) := by
  refine acall_enter 11 [] Try.ntmps64 Try.func64 rfl (fun _ _ => Try.call64 _ _) (by simp) (fun HO => ?_)
  refine aw_reg fun K hK => ?_; simp (maxSteps := 200000) (disch := omega) [-List.getD_eq_getElem?_getD]; refine hK _ ?_; clear hK K
  refine aw_block ?_
  refine aw_loop (X := Nat × Nat × Nat × β) (fun x => ⟨[(0, .sl a.length (psAV a) .none), (1, .sl b.length (psAV b) .none), (2, .fn 65 [] []), (3, .fn g [] caps), (8, .int .i64 (x.2.1 : Nat)), (9, .int .i64 (x.2.2.1 : Nat))], S x.2.2.2, U x.2.2.2⟩)
    (fun x => x.2.1 ≤ a.length ∧ x.2.2.1 ≤ b.length ∧ (a.length - x.2.1) + (b.length - x.2.2.1) ≤ x.1 ∧ MP fA fB fAB a b (a.length + b.length) 0 0 o0 = MP fA fB fAB a b x.1 x.2.1 x.2.2.1 x.2.2.2 ∧ I (x.2.1 + x.2.2.1) x.2.2.2) (fun x => x.1) (a.length + b.length, 0, 0, o0) ?_ ?_ ?_
  · exact ⟨Nat.zero_le _, Nat.zero_le _, by simp only; omega, rfl, h0⟩
  · refine weak_to [] [] ?_ ?_ ?_ ?_ HO ?_
    · simp
    · simp
    · simp
    · simp
    · simp [hS, hU, hbc]
  · rintro ⟨n, i, j, out⟩ ⟨h1, h2, h3, h4, h5⟩
    simp only at h1 h2 h3 h4 h5
    by_cases hi : i < a.length
    · have bi : decide ((i : Int) < a.length) = true := by simp; omega
      have ni : ((i : Int) == a.length) = false := by rw [beq_eq_false_iff_ne]; omega
      have ni2 : ¬ i = a.length := by omega
      have hca := psAV_cut a i hi
      by_cases hj : j < b.length
      · have bj : decide ((j : Int) < b.length) = true := by simp; omega
        have nj : ((j : Int) == b.length) = false := by rw [beq_eq_false_iff_ne]; omega
        have nj2 : ¬ j = b.length := by omega
        have hcb := psAV_cut b j hj
        have hn : 0 < n := by omega
        refine aw_then fun K2 hK2 => ?_
        refine aw_reg fun K hK => ?_; simp (maxSteps := 200000) (disch := omega) [-List.getD_eq_getElem?_getD, bi, bj, hi, hj]; refine hK _ ?_; clear hK K
        refine aw_if rfl (fun h => ?_) (fun h => absurd h (by simp))
        refine aw_skip ?_; simp (maxSteps := 200000) (disch := omega) [-List.getD_eq_getElem?_getD]
        refine hK2 _ ?_; clear hK2
        refine aw_block ?_
        refine aw_block ?_
        by_cases c1 : (a.getD i (0, [])).1 < (b.getD j (0, [])).1
        · have b1 : decide ((a.getD i (0, [])).1 < (b.getD j (0, [])).1) = true := by simpa using c1
          have hst := MP_A (fA := fA) (fB := fB) (fAB := fAB) (o := out) hn hi hj c1
          refine aw_draw [] [] [] drawMixed (by kernel_rfl) (by kernel_rfl) fun K hK => ?_; simp (maxSteps := 200000) (disch := omega) [-List.getD_eq_getElem?_getD, bi, hi, nj, nj2, hca, psAV_len]
          refine dcall_is (doc_ok _ _ _) rfl ?_; simp (maxSteps := 200000) (disch := omega) [-List.getD_eq_getElem?_getD, hcb, psAV_len]
          refine dcall_is (doc_ok _ _ _) rfl ?_; simp (maxSteps := 200000) (disch := omega) [-List.getD_eq_getElem?_getD, b1, c1]
          refine hK _ ?_; clear hK K
          refine aw_if rfl (fun h => ?_) (fun h => absurd h (by simp))
          refine aw_reg fun K hK => ?_; simp (maxSteps := 200000) (disch := omega) [-List.getD_eq_getElem?_getD, psAV_len]
          refine acall_is (cA (i + j) i out hi (by omega) h5) ?_; simp (maxSteps := 200000) (disch := omega) [-List.getD_eq_getElem?_getD]
          refine hK _ ?_; clear hK K
          refine aw_reg0 fun K hK => ?_; simp (maxSteps := 200000) (disch := omega) [-List.getD_eq_getElem?_getD]
          refine hK _ ?_; clear hK K
          refine ⟨(n - 1, i + 1, j, fA out (a.getD i (0, []))), ⟨by show i + 1 ≤ a.length; omega, by show j ≤ b.length; omega, by show (a.length - (i + 1)) + (b.length - (j)) ≤ n - 1; omega, h4.trans hst, (show I (i + 1 + j) _ by rw [show i + 1 + j = i + j + 1 by omega]; exact iA _ i out hi h5)⟩, by show n - 1 < n; omega, ?_⟩
          refine weak_to [] [] ?_ ?_ ?_ ?_ (hok _ _ ((show I (i + 1 + j) _ by rw [show i + 1 + j = i + j + 1 by omega]; exact iA _ i out hi h5))) ?_
          · simp
          · simp
          · simp [hS]
          · simp [hU]
          · simp [hS, hU, hbc]
            try omega
        · have b1 : decide ((a.getD i (0, [])).1 < (b.getD j (0, [])).1) = false := by simpa using c1
          refine aw_draw [] [] [] drawMixed (by kernel_rfl) (by kernel_rfl) fun K hK => ?_; simp (maxSteps := 200000) (disch := omega) [-List.getD_eq_getElem?_getD, bi, hi, nj, nj2, hca, psAV_len]
          refine dcall_is (doc_ok _ _ _) rfl ?_; simp (maxSteps := 200000) (disch := omega) [-List.getD_eq_getElem?_getD, hcb, psAV_len]
          refine dcall_is (doc_ok _ _ _) rfl ?_; simp (maxSteps := 200000) (disch := omega) [-List.getD_eq_getElem?_getD, b1, c1]
          refine hK _ ?_; clear hK K
          refine aw_if rfl (fun h => absurd h (by simp)) (fun h => ?_)
          by_cases c2 : (b.getD j (0, [])).1 < (a.getD i (0, [])).1
          · have b2 : decide ((b.getD j (0, [])).1 < (a.getD i (0, [])).1) = true := by simpa using c2
            have hst := MP_B (fA := fA) (fB := fB) (fAB := fAB) (o := out) hn hi hj c1 c2
            refine aw_draw [] [] [] drawMixed (by kernel_rfl) (by kernel_rfl) fun K hK => ?_; simp (maxSteps := 200000) (disch := omega) [-List.getD_eq_getElem?_getD, ni, ni2, hcb, psAV_len, hj]
            refine dcall_is (doc_ok _ _ _) rfl ?_; simp (maxSteps := 200000) (disch := omega) [-List.getD_eq_getElem?_getD, hca, psAV_len]
            refine dcall_is (doc_ok _ _ _) rfl ?_; simp (maxSteps := 200000) (disch := omega) [-List.getD_eq_getElem?_getD, b2, c2]
            refine hK _ ?_; clear hK K
            refine aw_if rfl (fun h => ?_) (fun h => absurd h (by simp))
            refine aw_reg fun K hK => ?_; simp (maxSteps := 200000) (disch := omega) [-List.getD_eq_getElem?_getD, psAV_len]
            refine acall_is (cB (i + j) j out hj (by omega) h5) ?_; simp (maxSteps := 200000) (disch := omega) [-List.getD_eq_getElem?_getD]
            refine hK _ ?_; clear hK K
            refine aw_reg0 fun K hK => ?_; simp (maxSteps := 200000) (disch := omega) [-List.getD_eq_getElem?_getD]
            refine hK _ ?_; clear hK K
            refine ⟨(n - 1, i, j + 1, fB out (b.getD j (0, []))), ⟨by show i ≤ a.length; omega, by show j + 1 ≤ b.length; omega, by show (a.length - (i)) + (b.length - (j + 1)) ≤ n - 1; omega, h4.trans hst, (show I (i + (j + 1)) _ from iB _ j out hj h5)⟩, by show n - 1 < n; omega, ?_⟩
            refine weak_to [] [] ?_ ?_ ?_ ?_ (hok _ _ ((show I (i + (j + 1)) _ from iB _ j out hj h5))) ?_
            · simp
            · simp
            · simp [hS]
            · simp [hU]
            · simp [hS, hU, hbc]
              try omega
          · have b2 : decide ((b.getD j (0, [])).1 < (a.getD i (0, [])).1) = false := by simpa using c2
            have hst := MP_AB (fA := fA) (fB := fB) (fAB := fAB) (o := out) hn hi hj c1 c2
            refine aw_draw [] [] [] drawMixed (by kernel_rfl) (by kernel_rfl) fun K hK => ?_; simp (maxSteps := 200000) (disch := omega) [-List.getD_eq_getElem?_getD, ni, ni2, hcb, psAV_len, hj]
            refine dcall_is (doc_ok _ _ _) rfl ?_; simp (maxSteps := 200000) (disch := omega) [-List.getD_eq_getElem?_getD, hca, psAV_len]
            refine dcall_is (doc_ok _ _ _) rfl ?_; simp (maxSteps := 200000) (disch := omega) [-List.getD_eq_getElem?_getD, b2, c2]
            refine hK _ ?_; clear hK K
            refine aw_if rfl (fun h => absurd h (by simp)) (fun h => ?_)
            refine aw_draw [7] [0, 0, 0, 0, 0, 0, 0, 0] [[]] drawMixed (by kernel_rfl) (by kernel_rfl) fun K hK => ?_; simp (maxSteps := 200000) (disch := omega) [-List.getD_eq_getElem?_getD, psAV_len, hi, hj]
            refine dcall_eff (cAB (i + j) i j out hi hj (by omega) h5) rfl ?_; simp (maxSteps := 200000) (disch := omega) [-List.getD_eq_getElem?_getD]
            refine hK _ ?_; clear hK K
            refine aw_reg0 fun K hK => ?_; simp (maxSteps := 200000) (disch := omega) [-List.getD_eq_getElem?_getD]
            refine hK _ ?_; clear hK K
            refine ⟨(n - 1, i + 1, j + 1, fAB out (a.getD i (0, [])) (b.getD j (0, []))), ⟨by show i + 1 ≤ a.length; omega, by show j + 1 ≤ b.length; omega, by show (a.length - (i + 1)) + (b.length - (j + 1)) ≤ n - 1; omega, h4.trans hst, (show I (i + 1 + (j + 1)) _ by rw [show i + 1 + (j + 1) = i + j + 2 by omega]; exact iAB _ i j out hi hj h5)⟩, by show n - 1 < n; omega, ?_⟩
            refine weak_to [] [] ?_ ?_ ?_ ?_ (hok _ _ ((show I (i + 1 + (j + 1)) _ by rw [show i + 1 + (j + 1) = i + j + 2 by omega]; exact iAB _ i j out hi hj h5))) ?_
            · simp
            · simp
            · simp [hS]
            · simp [hU]
            · simp [hS, hU, hbc]
              try omega
      · have bj : decide ((j : Int) < b.length) = false := by simp; omega
        have hjb : j = b.length := by omega
        have nj : ((j : Int) == b.length) = true := by simp; omega
        have hn : 0 < n := by omega
        have hst := MP_A0 (fA := fA) (fB := fB) (fAB := fAB) (o := out) hn hi hjb
        refine aw_then fun K2 hK2 => ?_
        refine aw_reg fun K hK => ?_; simp (maxSteps := 200000) (disch := omega) [-List.getD_eq_getElem?_getD, bi, bj, hi, hj]; refine hK _ ?_; clear hK K
        refine aw_if rfl (fun h => ?_) (fun h => absurd h (by simp))
        refine aw_skip ?_; simp (maxSteps := 200000) (disch := omega) [-List.getD_eq_getElem?_getD]
        refine hK2 _ ?_; clear hK2
        refine aw_block ?_
        refine aw_block ?_
        have hjz : (j : Int) = (b.length : Int) := by omega
        refine aw_draw [] [] [] drawMixed (by kernel_rfl) (by kernel_rfl) fun K hK => ?_; simp (maxSteps := 200000) (disch := omega) [-List.getD_eq_getElem?_getD, nj, hjz]
        refine hK _ ?_; clear hK K
        refine aw_if rfl (fun h => ?_) (fun h => absurd h (by simp))
        refine aw_reg fun K hK => ?_; simp (maxSteps := 200000) (disch := omega) [-List.getD_eq_getElem?_getD, psAV_len]
        refine acall_is (cA (i + j) i out hi (by omega) h5) ?_; simp (maxSteps := 200000) (disch := omega) [-List.getD_eq_getElem?_getD]
        refine hK _ ?_; clear hK K
        refine aw_reg0 fun K hK => ?_; simp (maxSteps := 200000) (disch := omega) [-List.getD_eq_getElem?_getD]
        refine hK _ ?_; clear hK K
        refine ⟨(n - 1, i + 1, j, fA out (a.getD i (0, []))), ⟨by show i + 1 ≤ a.length; omega, by show j ≤ b.length; omega, by show (a.length - (i + 1)) + (b.length - (j)) ≤ n - 1; omega, h4.trans hst, (show I (i + 1 + j) _ by rw [show i + 1 + j = i + j + 1 by omega]; exact iA _ i out hi h5)⟩, by show n - 1 < n; omega, ?_⟩
        refine weak_to [] [] ?_ ?_ ?_ ?_ (hok _ _ ((show I (i + 1 + j) _ by rw [show i + 1 + j = i + j + 1 by omega]; exact iA _ i out hi h5))) ?_
        · simp
        · simp
        · simp [hS]
        · simp [hU]
        · simp [hS, hU, hbc]
          try omega
    · have bi : decide ((i : Int) < a.length) = false := by simp; omega
      have hia : i = a.length := by omega
      by_cases hj : j < b.length
      · have bj : decide ((j : Int) < b.length) = true := by simp; omega
        have nj : ((j : Int) == b.length) = false := by rw [beq_eq_false_iff_ne]; omega
        have nj2 : ¬ j = b.length := by omega
        have ni : ((i : Int) == a.length) = true := by simp; omega
        have hn : 0 < n := by omega
        have hst := MP_B0 (fA := fA) (fB := fB) (fAB := fAB) (o := out) hn hia hj
        refine aw_then fun K2 hK2 => ?_
        refine aw_reg fun K hK => ?_; simp (maxSteps := 200000) (disch := omega) [-List.getD_eq_getElem?_getD, bi, bj, hi, hj]; refine hK _ ?_; clear hK K
        refine aw_if rfl (fun h => ?_) (fun h => absurd h (by simp))
        refine aw_skip ?_; simp (maxSteps := 200000) (disch := omega) [-List.getD_eq_getElem?_getD]
        refine hK2 _ ?_; clear hK2
        refine aw_block ?_
        refine aw_block ?_
        refine aw_draw [] [] [] drawMixed (by kernel_rfl) (by kernel_rfl) fun K hK => ?_; simp (maxSteps := 200000) (disch := omega) [-List.getD_eq_getElem?_getD, nj, nj2, bi, hi]
        refine hK _ ?_; clear hK K
        refine aw_if rfl (fun h => absurd h (by simp)) (fun h => ?_)
        have hiz : (i : Int) = (a.length : Int) := by omega
        refine aw_draw [] [] [] drawMixed (by kernel_rfl) (by kernel_rfl) fun K hK => ?_; simp (maxSteps := 200000) (disch := omega) [-List.getD_eq_getElem?_getD, ni, hiz]
        refine hK _ ?_; clear hK K
        refine aw_if rfl (fun h => ?_) (fun h => absurd h (by simp))
        refine aw_reg fun K hK => ?_; simp (maxSteps := 200000) (disch := omega) [-List.getD_eq_getElem?_getD, psAV_len]
        refine acall_is (cB (i + j) j out hj (by omega) h5) ?_; simp (maxSteps := 200000) (disch := omega) [-List.getD_eq_getElem?_getD]
        refine hK _ ?_; clear hK K
        refine aw_reg0 fun K hK => ?_; simp (maxSteps := 200000) (disch := omega) [-List.getD_eq_getElem?_getD]
        refine hK _ ?_; clear hK K
        refine ⟨(n - 1, i, j + 1, fB out (b.getD j (0, []))), ⟨by show i ≤ a.length; omega, by show j + 1 ≤ b.length; omega, by show (a.length - (i)) + (b.length - (j + 1)) ≤ n - 1; omega, h4.trans hst, (show I (i + (j + 1)) _ from iB _ j out hj h5)⟩, by show n - 1 < n; omega, ?_⟩
        refine weak_to [] [] ?_ ?_ ?_ ?_ (hok _ _ ((show I (i + (j + 1)) _ from iB _ j out hj h5))) ?_
        · simp
        · simp
        · simp [hS]
        · simp [hU]
        · simp [hS, hU, hbc]
          try omega
      · have bj : decide ((j : Int) < b.length) = false := by simp; omega
        have hend := MP_end (fA := fA) (fB := fB) (fAB := fAB) (a := a) (b := b) (o := out) (n := n) hia (show j = b.length by omega)
        rw [hend] at h4
        refine aw_then fun K2 hK2 => ?_
        refine aw_reg fun K hK => ?_; simp (maxSteps := 200000) (disch := omega) [-List.getD_eq_getElem?_getD, bi, bj, hi, hj]; refine hK _ ?_; clear hK K
        refine aw_if rfl (fun h => absurd h (by simp)) (fun h => ?_)
        refine aw_exit ?_; simp (maxSteps := 200000) (disch := omega) [-List.getD_eq_getElem?_getD]
        rw [h4]
        exact ⟨rfl, rfl, rfl⟩
end Go.Proofs.Ytlijaamjcpefoaa
