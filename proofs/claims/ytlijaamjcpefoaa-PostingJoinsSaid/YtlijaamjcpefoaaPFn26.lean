/- Merging of lists of numbers in layer 38, for any function that takes the numbers.
   Conditions: lengths below 400. -/
import Derived.Test.YtlijaamjcpefoaaPFn20
namespace Go.Proofs.Ytlijaamjcpefoaa
open Go Go.Am Post
set_option linter.unusedVariables false

/-- The walk through two lists of numbers, with a function for what is in both. -/
def mgI {β : Type} (fA fB : β → Int → β) (fAB : β → Int → Int → β) : Nat → List Int → List Int → β → β
  | 0, _, _, o => o
  | n + 1, x :: a, y :: b, o => if x < y then mgI fA fB fAB n a (y :: b) (fA o x) else if y < x then mgI fA fB fAB n (x :: a) b (fB o y) else mgI fA fB fAB n a b (fAB o x y)
  | n + 1, x :: a, [], o => mgI fA fB fAB n a [] (fA o x)
  | n + 1, [], y :: b, o => mgI fA fB fAB n [] b (fB o y)
  | _ + 1, [], [], o => o
@[simp] theorem ints_len (l : List Int) : (ints l).length = l.length := by simp [ints]

/-- What is left of the walk through two posting lists. -/
def MI {β : Type} (fA fB : β → Int → β) (fAB : β → Int → Int → β) (a b : List Int) (n i j : Nat) (o : β) : β := mgI fA fB fAB n (a.drop i) (b.drop j) o

section
variable {β : Type} {fA fB : β → Int → β} {fAB : β → Int → Int → β} {a b : List Int} {o : β} {n i j : Nat}
theorem MI_A (hn : 0 < n) (hi : i < a.length) (hj : j < b.length) (h : a.getD i 0 < b.getD j 0) : MI fA fB fAB a b n i j o = MI fA fB fAB a b (n - 1) (i + 1) j (fA o (a.getD i 0)) := by
  obtain ⟨m, rfl⟩ : ∃ m, n = m + 1 := ⟨n - 1, by omega⟩
  unfold MI
  rw [drop_cons0 a i hi, drop_cons0 b j hj, mgI, if_pos h]
  rfl
theorem MI_B (hn : 0 < n) (hi : i < a.length) (hj : j < b.length) (h : ¬ a.getD i 0 < b.getD j 0) (h2 : b.getD j 0 < a.getD i 0) : MI fA fB fAB a b n i j o = MI fA fB fAB a b (n - 1) i (j + 1) (fB o (b.getD j 0)) := by
  obtain ⟨m, rfl⟩ : ∃ m, n = m + 1 := ⟨n - 1, by omega⟩
  unfold MI
  rw [drop_cons0 a i hi, drop_cons0 b j hj, mgI, if_neg h, if_pos h2]
  rfl
theorem MI_AB (hn : 0 < n) (hi : i < a.length) (hj : j < b.length) (h : ¬ a.getD i 0 < b.getD j 0) (h2 : ¬ b.getD j 0 < a.getD i 0) : MI fA fB fAB a b n i j o = MI fA fB fAB a b (n - 1) (i + 1) (j + 1) (fAB o (a.getD i 0) (b.getD j 0)) := by
  obtain ⟨m, rfl⟩ : ∃ m, n = m + 1 := ⟨n - 1, by omega⟩
  unfold MI
  rw [drop_cons0 a i hi, drop_cons0 b j hj, mgI, if_neg h, if_neg h2]
  rfl
theorem MI_A0 (hn : 0 < n) (hi : i < a.length) (hj : j = b.length) : MI fA fB fAB a b n i j o = MI fA fB fAB a b (n - 1) (i + 1) j (fA o (a.getD i 0)) := by
  obtain ⟨m, rfl⟩ : ∃ m, n = m + 1 := ⟨n - 1, by omega⟩
  unfold MI
  rw [drop_cons0 a i hi, hj, List.drop_length, mgI]
  rfl
theorem MI_B0 (hn : 0 < n) (hi : i = a.length) (hj : j < b.length) : MI fA fB fAB a b n i j o = MI fA fB fAB a b (n - 1) i (j + 1) (fB o (b.getD j 0)) := by
  obtain ⟨m, rfl⟩ : ∃ m, n = m + 1 := ⟨n - 1, by omega⟩
  unfold MI
  rw [drop_cons0 b j hj, hi, List.drop_length, mgI]
  rfl
theorem MI_end (hi : i = a.length) (hj : j = b.length) : MI fA fB fAB a b n i j o = o := by
  unfold MI
  rw [hi, hj, List.drop_length, List.drop_length]
  cases n <;> rfl
end

set_option maxRecDepth 100000 in
set_option maxHeartbeats 4000000 in
theorem mergeI_ok {β : Type} (g : Nat) (caps : List AV) (fA fB : β → Int → β) (fAB : β → Int → Int → β) (S : β → List Blk) (U : β → Toks) (I : Nat → β → Prop) (N M : Nat) (o0 : β)
    (a b : List Int) (ha : a.length ≤ 400) (hb : b.length ≤ 400) (hS : ∀ o, (S o).length = N) (hU : ∀ o, (U o).length = M) (hbc : BelowAll N M caps) (hok : ∀ n o, I n o → HOk (S o) (U o)) (h0 : I 0 o0)
    (cA : ∀ n i o, i < a.length → n ≤ 800 → I n o → ACall Try.prog g ([.vptr (ints a) i, .nilp] ++ caps) (S o) (U o) (Is (.tup []) (S (fA o (a.getD i 0))) (U (fA o (a.getD i 0)))))
    (cB : ∀ n j o, j < b.length → n ≤ 800 → I n o → ACall Try.prog g ([.nilp, .vptr (ints b) j] ++ caps) (S o) (U o) (Is (.tup []) (S (fB o (b.getD j 0))) (U (fB o (b.getD j 0)))))
    (cAB : ∀ n i j o, i < a.length → j < b.length → n ≤ 800 → I n o → ACall Try.prog g ([.vptr (ints a) i, .vptr (ints b) j] ++ caps) (S o) (U o) (Is (.tup []) (S (fAB o (a.getD i 0) (b.getD j 0))) (U (fAB o (a.getD i 0) (b.getD j 0)))))
    (iA : ∀ n i o, i < a.length → I n o → I (n + 1) (fA o (a.getD i 0))) (iB : ∀ n j o, j < b.length → I n o → I (n + 1) (fB o (b.getD j 0))) (iAB : ∀ n i j o, i < a.length → j < b.length → I n o → I (n + 2) (fAB o (a.getD i 0) (b.getD j 0))) :
    ACall Try.prog 89 [.sl a.length (ints a) .none, .sl b.length (ints b) .none, .fn 90 [] [], .fn g [] caps] (S o0) (U o0)
      (Is (.tup []) (S (MI fA fB fAB a b (a.length + b.length) 0 0 o0)) (U (MI fA fB fAB a b (a.length + b.length) 0 0 o0))) := by
  refine acall_enter 11 [] Try.ntmps89 Try.func89 rfl (fun _ _ => Try.call89 _ _) (by simp) (fun HO => ?_)
  refine aw_reg fun K hK => ?_; simp (maxSteps := 1000000) (disch := omega) [-List.getD_eq_getElem?_getD]; refine hK _ ?_; clear hK K
  refine aw_block ?_
  refine aw_loop (X := Nat × Nat × Nat × β) (fun x => ⟨[(0, .sl a.length (ints a) .none), (1, .sl b.length (ints b) .none), (2, .fn 90 [] []), (3, .fn g [] caps), (8, .int .i64 (x.2.1 : Nat)), (9, .int .i64 (x.2.2.1 : Nat))], S x.2.2.2, U x.2.2.2⟩)
    (fun x => x.2.1 ≤ a.length ∧ x.2.2.1 ≤ b.length ∧ (a.length - x.2.1) + (b.length - x.2.2.1) ≤ x.1 ∧ MI fA fB fAB a b (a.length + b.length) 0 0 o0 = MI fA fB fAB a b x.1 x.2.1 x.2.2.1 x.2.2.2 ∧ I (x.2.1 + x.2.2.1) x.2.2.2) (fun x => x.1) (a.length + b.length, 0, 0, o0) ?_ ?_ ?_
  · exact ⟨Nat.zero_le _, Nat.zero_le _, by simp only; omega, rfl, h0⟩
  · refine weak_to [] [] ?_ ?_ ?_ ?_ HO ?_
    · simp
    · simp
    · simp
    · simp
    · simp [hS, hU, hbc]
  · rintro ⟨n, i, j, out⟩ ⟨h1, h2, h3, h4, h5⟩
    simp only at h1 h2 h3 h4 h5
    by_cases hi : i < a.length
    · have bi : decide ((i : Int) < a.length) = true := by simp; omega
      have ni : ((i : Int) == a.length) = false := by rw [beq_eq_false_iff_ne]; omega
      have ni2 : ¬ i = a.length := by omega
      have hca := getD_ints (xs := a) (k := i) hi
      by_cases hj : j < b.length
      · have bj : decide ((j : Int) < b.length) = true := by simp; omega
        have nj : ((j : Int) == b.length) = false := by rw [beq_eq_false_iff_ne]; omega
        have nj2 : ¬ j = b.length := by omega
        have hcb := getD_ints (xs := b) (k := j) hj
        have hn : 0 < n := by omega
        refine aw_then fun K2 hK2 => ?_
        refine aw_reg fun K hK => ?_; simp (maxSteps := 1000000) (disch := omega) [-List.getD_eq_getElem?_getD, bi, bj, hi, hj]; refine hK _ ?_; clear hK K
        refine aw_if rfl (fun h => ?_) (fun h => absurd h (by simp))
        refine aw_skip ?_; simp (maxSteps := 1000000) (disch := omega) [-List.getD_eq_getElem?_getD]
        refine hK2 _ ?_; clear hK2
        refine aw_block ?_
        refine aw_block ?_
        by_cases c1 : a.getD i 0 < b.getD j 0
        · have b1 : decide (a.getD i 0 < b.getD j 0) = true := by simpa using c1
          have hst := MI_A (fA := fA) (fB := fB) (fAB := fAB) (o := out) hn hi hj c1
          refine aw_draw [] [] [] drawMixed (by kernel_rfl) (by kernel_rfl) fun K hK => ?_; simp (maxSteps := 1000000) (disch := omega) [-List.getD_eq_getElem?_getD, bi, hi, nj, nj2, hca, ints_len]
          refine dcall_is (itself_ok _ _ _) rfl ?_; simp (maxSteps := 1000000) (disch := omega) [-List.getD_eq_getElem?_getD, hcb, ints_len]
          refine dcall_is (itself_ok _ _ _) rfl ?_; simp (maxSteps := 1000000) (disch := omega) [-List.getD_eq_getElem?_getD, b1, c1]
          refine hK _ ?_; clear hK K
          refine aw_if rfl (fun h => ?_) (fun h => absurd h (by simp))
          refine aw_reg fun K hK => ?_; simp (maxSteps := 1000000) (disch := omega) [-List.getD_eq_getElem?_getD, ints_len]
          refine acall_is (cA (i + j) i out hi (by omega) h5) ?_; simp (maxSteps := 1000000) (disch := omega) [-List.getD_eq_getElem?_getD]
          refine hK _ ?_; clear hK K
          refine aw_reg0 fun K hK => ?_; simp (maxSteps := 1000000) (disch := omega) [-List.getD_eq_getElem?_getD]
          refine hK _ ?_; clear hK K
          refine ⟨(n - 1, i + 1, j, fA out (a.getD i 0)), ⟨by show i + 1 ≤ a.length; omega, by show j ≤ b.length; omega, by show (a.length - (i + 1)) + (b.length - (j)) ≤ n - 1; omega, h4.trans hst, (show I (i + 1 + j) _ by rw [show i + 1 + j = i + j + 1 by omega]; exact iA _ i out hi h5)⟩, by show n - 1 < n; omega, ?_⟩
          refine weak_to [] [] ?_ ?_ ?_ ?_ (hok _ _ ((show I (i + 1 + j) _ by rw [show i + 1 + j = i + j + 1 by omega]; exact iA _ i out hi h5))) ?_
          · simp
          · simp
          · simp [hS]
          · simp [hU]
          · simp [hS, hU, hbc]
            try omega
        · have b1 : decide (a.getD i 0 < b.getD j 0) = false := by simpa using c1
          refine aw_draw [] [] [] drawMixed (by kernel_rfl) (by kernel_rfl) fun K hK => ?_; simp (maxSteps := 1000000) (disch := omega) [-List.getD_eq_getElem?_getD, bi, hi, nj, nj2, hca, ints_len]
          refine dcall_is (itself_ok _ _ _) rfl ?_; simp (maxSteps := 1000000) (disch := omega) [-List.getD_eq_getElem?_getD, hcb, ints_len]
          refine dcall_is (itself_ok _ _ _) rfl ?_; simp (maxSteps := 1000000) (disch := omega) [-List.getD_eq_getElem?_getD, b1, c1]
          refine hK _ ?_; clear hK K
          refine aw_if rfl (fun h => absurd h (by simp)) (fun h => ?_)
          by_cases c2 : b.getD j 0 < a.getD i 0
          · have b2 : decide (b.getD j 0 < a.getD i 0) = true := by simpa using c2
            have hst := MI_B (fA := fA) (fB := fB) (fAB := fAB) (o := out) hn hi hj c1 c2
            refine aw_draw [] [] [] drawMixed (by kernel_rfl) (by kernel_rfl) fun K hK => ?_; simp (maxSteps := 1000000) (disch := omega) [-List.getD_eq_getElem?_getD, ni, ni2, hcb, ints_len, hj]
            refine dcall_is (itself_ok _ _ _) rfl ?_; simp (maxSteps := 1000000) (disch := omega) [-List.getD_eq_getElem?_getD, hca, ints_len]
            refine dcall_is (itself_ok _ _ _) rfl ?_; simp (maxSteps := 1000000) (disch := omega) [-List.getD_eq_getElem?_getD, b2, c2]
            refine hK _ ?_; clear hK K
            refine aw_if rfl (fun h => ?_) (fun h => absurd h (by simp))
            refine aw_reg fun K hK => ?_; simp (maxSteps := 1000000) (disch := omega) [-List.getD_eq_getElem?_getD, ints_len]
            refine acall_is (cB (i + j) j out hj (by omega) h5) ?_; simp (maxSteps := 1000000) (disch := omega) [-List.getD_eq_getElem?_getD]
            refine hK _ ?_; clear hK K
            refine aw_reg0 fun K hK => ?_; simp (maxSteps := 1000000) (disch := omega) [-List.getD_eq_getElem?_getD]
            refine hK _ ?_; clear hK K
            refine ⟨(n - 1, i, j + 1, fB out (b.getD j 0)), ⟨by show i ≤ a.length; omega, by show j + 1 ≤ b.length; omega, by show (a.length - (i)) + (b.length - (j + 1)) ≤ n - 1; omega, h4.trans hst, (show I (i + (j + 1)) _ from iB _ j out hj h5)⟩, by show n - 1 < n; omega, ?_⟩
            refine weak_to [] [] ?_ ?_ ?_ ?_ (hok _ _ ((show I (i + (j + 1)) _ from iB _ j out hj h5))) ?_
            · simp
            · simp
            · simp [hS]
            · simp [hU]
            · simp [hS, hU, hbc]
              try omega
          · have b2 : decide (b.getD j 0 < a.getD i 0) = false := by simpa using c2
            have hst := MI_AB (fA := fA) (fB := fB) (fAB := fAB) (o := out) hn hi hj c1 c2
            refine aw_draw [] [] [] drawMixed (by kernel_rfl) (by kernel_rfl) fun K hK => ?_; simp (maxSteps := 1000000) (disch := omega) [-List.getD_eq_getElem?_getD, ni, ni2, hcb, ints_len, hj]
            refine dcall_is (itself_ok _ _ _) rfl ?_; simp (maxSteps := 1000000) (disch := omega) [-List.getD_eq_getElem?_getD, hca, ints_len]
            refine dcall_is (itself_ok _ _ _) rfl ?_; simp (maxSteps := 1000000) (disch := omega) [-List.getD_eq_getElem?_getD, b2, c2]
            refine hK _ ?_; clear hK K
            refine aw_if rfl (fun h => absurd h (by simp)) (fun h => ?_)
            refine aw_draw [7] [0, 0, 0, 0, 0, 0, 0, 0] [[]] drawMixed (by kernel_rfl) (by kernel_rfl) fun K hK => ?_; simp (maxSteps := 1000000) (disch := omega) [-List.getD_eq_getElem?_getD, ints_len, hi, hj]
            refine dcall_eff (cAB (i + j) i j out hi hj (by omega) h5) rfl ?_; simp (maxSteps := 1000000) (disch := omega) [-List.getD_eq_getElem?_getD]
            refine hK _ ?_; clear hK K
            refine aw_reg0 fun K hK => ?_; simp (maxSteps := 1000000) (disch := omega) [-List.getD_eq_getElem?_getD]
            refine hK _ ?_; clear hK K
            refine ⟨(n - 1, i + 1, j + 1, fAB out (a.getD i 0) (b.getD j 0)), ⟨by show i + 1 ≤ a.length; omega, by show j + 1 ≤ b.length; omega, by show (a.length - (i + 1)) + (b.length - (j + 1)) ≤ n - 1; omega, h4.trans hst, (show I (i + 1 + (j + 1)) _ by rw [show i + 1 + (j + 1) = i + j + 2 by omega]; exact iAB _ i j out hi hj h5)⟩, by show n - 1 < n; omega, ?_⟩
            refine weak_to [] [] ?_ ?_ ?_ ?_ (hok _ _ ((show I (i + 1 + (j + 1)) _ by rw [show i + 1 + (j + 1) = i + j + 2 by omega]; exact iAB _ i j out hi hj h5))) ?_
            · simp
            · simp
            · simp [hS]
            · simp [hU]
            · simp [hS, hU, hbc]
              try omega
      · have bj : decide ((j : Int) < b.length) = false := by simp; omega
        have hjb : j = b.length := by omega
        have nj : ((j : Int) == b.length) = true := by simp; omega
        have hn : 0 < n := by omega
        have hst := MI_A0 (fA := fA) (fB := fB) (fAB := fAB) (o := out) hn hi hjb
        refine aw_then fun K2 hK2 => ?_
        refine aw_reg fun K hK => ?_; simp (maxSteps := 1000000) (disch := omega) [-List.getD_eq_getElem?_getD, bi, bj, hi, hj]; refine hK _ ?_; clear hK K
        refine aw_if rfl (fun h => ?_) (fun h => absurd h (by simp))
        refine aw_skip ?_; simp (maxSteps := 1000000) (disch := omega) [-List.getD_eq_getElem?_getD]
        refine hK2 _ ?_; clear hK2
        refine aw_block ?_
        refine aw_block ?_
        have hjz : (j : Int) = (b.length : Int) := by omega
        refine aw_draw [] [] [] drawMixed (by kernel_rfl) (by kernel_rfl) fun K hK => ?_; simp (maxSteps := 1000000) (disch := omega) [-List.getD_eq_getElem?_getD, nj, hjz]
        refine hK _ ?_; clear hK K
        refine aw_if rfl (fun h => ?_) (fun h => absurd h (by simp))
        refine aw_reg fun K hK => ?_; simp (maxSteps := 1000000) (disch := omega) [-List.getD_eq_getElem?_getD, ints_len]
        refine acall_is (cA (i + j) i out hi (by omega) h5) ?_; simp (maxSteps := 1000000) (disch := omega) [-List.getD_eq_getElem?_getD]
        refine hK _ ?_; clear hK K
        refine aw_reg0 fun K hK => ?_; simp (maxSteps := 1000000) (disch := omega) [-List.getD_eq_getElem?_getD]
        refine hK _ ?_; clear hK K
        refine ⟨(n - 1, i + 1, j, fA out (a.getD i 0)), ⟨by show i + 1 ≤ a.length; omega, by show j ≤ b.length; omega, by show (a.length - (i + 1)) + (b.length - (j)) ≤ n - 1; omega, h4.trans hst, (show I (i + 1 + j) _ by rw [show i + 1 + j = i + j + 1 by omega]; exact iA _ i out hi h5)⟩, by show n - 1 < n; omega, ?_⟩
        refine weak_to [] [] ?_ ?_ ?_ ?_ (hok _ _ ((show I (i + 1 + j) _ by rw [show i + 1 + j = i + j + 1 by omega]; exact iA _ i out hi h5))) ?_
        · simp
        · simp
        · simp [hS]
        · simp [hU]
        · simp [hS, hU, hbc]
          try omega
    · have bi : decide ((i : Int) < a.length) = false := by simp; omega
      have hia : i = a.length := by omega
      by_cases hj : j < b.length
      · have bj : decide ((j : Int) < b.length) = true := by simp; omega
        have nj : ((j : Int) == b.length) = false := by rw [beq_eq_false_iff_ne]; omega
        have nj2 : ¬ j = b.length := by omega
        have ni : ((i : Int) == a.length) = true := by simp; omega
        have hn : 0 < n := by omega
        have hst := MI_B0 (fA := fA) (fB := fB) (fAB := fAB) (o := out) hn hia hj
        refine aw_then fun K2 hK2 => ?_
        refine aw_reg fun K hK => ?_; simp (maxSteps := 1000000) (disch := omega) [-List.getD_eq_getElem?_getD, bi, bj, hi, hj]; refine hK _ ?_; clear hK K
        refine aw_if rfl (fun h => ?_) (fun h => absurd h (by simp))
        refine aw_skip ?_; simp (maxSteps := 1000000) (disch := omega) [-List.getD_eq_getElem?_getD]
        refine hK2 _ ?_; clear hK2
        refine aw_block ?_
        refine aw_block ?_
        refine aw_draw [] [] [] drawMixed (by kernel_rfl) (by kernel_rfl) fun K hK => ?_; simp (maxSteps := 1000000) (disch := omega) [-List.getD_eq_getElem?_getD, nj, nj2, bi, hi]
        refine hK _ ?_; clear hK K
        refine aw_if rfl (fun h => absurd h (by simp)) (fun h => ?_)
        have hiz : (i : Int) = (a.length : Int) := by omega
        refine aw_draw [] [] [] drawMixed (by kernel_rfl) (by kernel_rfl) fun K hK => ?_; simp (maxSteps := 1000000) (disch := omega) [-List.getD_eq_getElem?_getD, ni, hiz]
        refine hK _ ?_; clear hK K
        refine aw_if rfl (fun h => ?_) (fun h => absurd h (by simp))
        refine aw_reg fun K hK => ?_; simp (maxSteps := 1000000) (disch := omega) [-List.getD_eq_getElem?_getD, ints_len]
        refine acall_is (cB (i + j) j out hj (by omega) h5) ?_; simp (maxSteps := 1000000) (disch := omega) [-List.getD_eq_getElem?_getD]
        refine hK _ ?_; clear hK K
        refine aw_reg0 fun K hK => ?_; simp (maxSteps := 1000000) (disch := omega) [-List.getD_eq_getElem?_getD]
        refine hK _ ?_; clear hK K
        refine ⟨(n - 1, i, j + 1, fB out (b.getD j 0)), ⟨by show i ≤ a.length; omega, by show j + 1 ≤ b.length; omega, by show (a.length - (i)) + (b.length - (j + 1)) ≤ n - 1; omega, h4.trans hst, (show I (i + (j + 1)) _ from iB _ j out hj h5)⟩, by show n - 1 < n; omega, ?_⟩
        refine weak_to [] [] ?_ ?_ ?_ ?_ (hok _ _ ((show I (i + (j + 1)) _ from iB _ j out hj h5))) ?_
        · simp
        · simp
        · simp [hS]
        · simp [hU]
        · simp [hS, hU, hbc]
          try omega
      · have bj : decide ((j : Int) < b.length) = false := by simp; omega
        have hend := MI_end (fA := fA) (fB := fB) (fAB := fAB) (a := a) (b := b) (o := out) (n := n) hia (show j = b.length by omega)
        rw [hend] at h4
        refine aw_then fun K2 hK2 => ?_
        refine aw_reg fun K hK => ?_; simp (maxSteps := 1000000) (disch := omega) [-List.getD_eq_getElem?_getD, bi, bj, hi, hj]; refine hK _ ?_; clear hK K
        refine aw_if rfl (fun h => absurd h (by simp)) (fun h => ?_)
        refine aw_exit ?_; simp (maxSteps := 1000000) (disch := omega) [-List.getD_eq_getElem?_getD]
        rw [h4]
        exact ⟨rfl, rfl, rfl⟩
end Go.Proofs.Ytlijaamjcpefoaa
