/- Completing a prefix: the reference's; equal lists of entries (layer 43).
   Conditions: lengths below 1000, as the theorem says. -/
import Derived.Test.YtbijefgmleagnaaSFn12
import Derived.Test.YtbijefgmleagnaaSFn9
namespace Sug
open Go.Proofs.Ytbijefgmleagnaa
/-- An entry behind all whose counts are not less. -/
def insC (x : Ent) : List Ent → List Ent
  | [] => [x]
  | y :: r => if x.2 ≤ y.2 then y :: insC x r else x :: y :: r
def insCs (l : List Ent) : List Ent := l.foldl (fun d x => insC x d) []
theorem insC_perm (x : Ent) : ∀ d, (insC x d).Perm (x :: d)
  | [] => .refl _
  | y :: r => by
    rw [insC]
    split
    · exact ((insC_perm x r).cons y).trans (List.Perm.swap x y r)
    · exact .refl _
theorem insC_mem {x z : Ent} {d : List Ent} (h : z ∈ insC x d) : z = x ∨ z ∈ d := by
  have := (insC_perm x d).mem_iff.1 h
  simpa using this
theorem insC_sorted (x : Ent) : ∀ d, SrC d → (∀ z ∈ d, slt z.1 x.1 = true) → SrC (insC x d)
  | [], _, _ => List.pairwise_singleton _ _
  | y :: r, h, hw => by
    rw [insC]
    have h1 := List.pairwise_cons.1 h
    split
    · rename_i hy
      refine List.pairwise_cons.2 ⟨fun z hz => ?_, insC_sorted x r h1.2 (fun z hz => hw z (by simp [hz]))⟩
      rcases insC_mem hz with rfl | hz
      · rw [fb_asymm (fb_mk hy (hw y (by simp)))]; rfl
      · exact h1.1 z hz
    · rename_i hy
      refine List.pairwise_cons.2 ⟨fun z hz => ?_, h⟩
      have hxy : fb x y = true := fb_gt (by omega)
      rcases List.mem_cons.1 hz with rfl | hz
      · rw [fb_asymm hxy]; rfl
      · have := h1.1 z hz
        rw [Bool.not_eq_true'] at this ⊢
        exact fb_ntrans this (fb_asymm hxy)
theorem fold_insC : ∀ (l d : List Ent), SrC d → (d ++ l).Pairwise (fun a b => slt a.1 b.1 = true) ∨ (∀ z ∈ d, ∀ x ∈ l, slt z.1 x.1 = true) ∧ l.Pairwise (fun a b => slt a.1 b.1 = true) → SrC (l.foldl (fun d x => insC x d) d) ∧ (l.foldl (fun d x => insC x d) d).Perm (d ++ l)
  | [], d, h, _ => ⟨h, by simp⟩
  | x :: r, d, h, hw => by
    have hw2 : (∀ z ∈ d, ∀ y ∈ x :: r, slt z.1 y.1 = true) ∧ (x :: r).Pairwise (fun a b => slt a.1 b.1 = true) := by
      rcases hw with hw | hw
      · have := List.pairwise_append.1 hw
        exact ⟨this.2.2, this.2.1⟩
      · exact hw
    have hp := List.pairwise_cons.1 hw2.2
    obtain ⟨h1, h2⟩ := fold_insC r (insC x d) (insC_sorted x d h (fun z hz => hw2.1 z hz x (by simp))) (.inr ⟨fun z hz y hy => by
      rcases insC_mem hz with rfl | hz
      · exact hp.1 y hy
      · exact hw2.1 z hz y (by simp [hy]), hp.2⟩)
    refine ⟨h1, h2.trans ?_⟩
    refine ((insC_perm x d).append_right r).trans ?_
    simpa using (List.perm_middle (a := x) (l₁ := d) (l₂ := r)).symm
theorem insCs_sort {l : List Ent} (hw : Wg l 0 l.length) : insCs l = sortC l := by
  have hp : l.Pairwise (fun a b => slt a.1 b.1 = true) := by
    rw [List.pairwise_iff_getElem]
    intro i j hi hj hij
    have := hw i j (Nat.zero_le _) hij hj
    rwa [List.getD_eq_getElem?_getD, List.getD_eq_getElem?_getD, List.getElem?_eq_getElem hi, List.getElem?_eq_getElem hj] at this
  obtain ⟨h1, h2⟩ := fold_insC l [] List.Pairwise.nil (.inl (by simpa using hp))
  exact srC_unique ((by simpa [insCs] using h2 : (insCs l).Perm l).trans (List.mergeSort_perm l _).symm) h1 (sortC_sorted l)
theorem insC_at (x : Ent) : ∀ (d : List Ent) (n : Nat), n ≤ d.length → (∀ j, j < n → x.2 ≤ (d.getD j ([], 0)).2) → (n < d.length → ¬ x.2 ≤ (d.getD n ([], 0)).2) → insC x d = d.take n ++ x :: d.drop n
  | [], n, h, _, _ => by
    have : n = 0 := by simpa using h
    subst this; rfl
  | y :: r, 0, _, _, h => by
    have := h (by simp)
    rw [insC, if_neg (by simpa using this)]
    rfl
  | y :: r, n + 1, h0, h1, h2 => by
    have hy : x.2 ≤ y.2 := h1 0 (by omega)
    rw [insC, if_pos hy, insC_at x r n (by simpa using h0) (fun j hj => h1 (j + 1) (by omega)) (fun hn => h2 (by simpa using hn))]
    rfl
theorem insCs_snoc (l : List Ent) (x : Ent) : insCs (l ++ [x]) = insC x (insCs l) := by simp [insCs]
theorem insC_len (x : Ent) (d : List Ent) : (insC x d).length = d.length + 1 := by rw [(insC_perm x d).length_eq]; rfl
theorem insCs_len : ∀ (l : List Ent), (insCs l).length = l.length := by
  have : ∀ (l d : List Ent), (l.foldl (fun d x => insC x d) d).length = d.length + l.length := by
    intro l
    induction l with
    | nil => intro d; simp
    | cons x r ih => intro d; rw [List.foldl_cons, ih, insC_len, List.length_cons]; omega
  intro l
  rw [insCs, this]
  simp
end Sug
namespace Go.Proofs.Ytbijefgmleagnaa
open Go Go.Am Sug
set_option linter.unusedVariables false

theorem sameE_ok (n : Nat) (a : List Ent) (hn : n = a.length) (ha : a.length ≤ 1000) (H : List Blk) (T : Toks) (ta tb_ : Tag) :
    ACall Try.prog 26 [.sl n (entAV a) ta, .sl n (entAV a) tb_] H T (Is (.bool true) H T) := by
  refine ACall.untag1 (ACall.untag2 ?_)
  subst hn
  refine acall_enter 6 [] Try.ntmps26 Try.func26 rfl (fun _ _ => Try.call26 _ _) (by simp) (fun HO => ?_)
  refine aw_reg fun K hK => ?_; simp (maxSteps := 1000000) (disch := omega) [-List.getD_eq_getElem?_getD]; refine hK _ ?_; clear hK K
  refine aw_then fun K1 hK1 => ?_
  refine aw_reg fun K hK => ?_; simp (maxSteps := 1000000) (disch := omega) [-List.getD_eq_getElem?_getD]; refine hK _ ?_; clear hK K
  refine aw_if rfl (fun h => absurd h (by simp)) (fun h => ?_)
  refine aw_skip ?_; simp (maxSteps := 1000000) (disch := omega) [-List.getD_eq_getElem?_getD]
  refine hK1 _ ?_; clear hK1
  refine aw_then fun K1 hK1 => ?_
  refine aw_reg fun K hK => ?_; simp (maxSteps := 1000000) (disch := omega) [-List.getD_eq_getElem?_getD]; refine hK _ ?_; clear hK K
  refine aw_block ?_
  refine aw_loop (X := Nat) (fun k => ⟨[(0, .sl a.length (entAV a) .none), (1, .sl a.length (entAV a) .none), (5, .int .i64 (k : Nat))], H, T⟩) (fun k => k ≤ a.length) (fun k => a.length - k) 0 ?_ ?_ ?_
  · exact Nat.zero_le _
  · refine weak_to [] [] ?_ ?_ ?_ ?_ HO ?_
    all_goals simp
  · rintro k h1
    refine aw_then fun K2 hK2 => ?_
    refine aw_reg fun K hK => ?_; simp (maxSteps := 1000000) (disch := omega) [-List.getD_eq_getElem?_getD]; refine hK _ ?_; clear hK K
    refine aw_if rfl (fun hk => ?_) (fun hk => ?_)
    · simp [-List.getD_eq_getElem?_getD] at hk
      have hcut := entAV_cut a k hk
      refine aw_skip ?_; simp (maxSteps := 1000000) (disch := omega) [-List.getD_eq_getElem?_getD]
      refine hK2 _ ?_; clear hK2
      refine aw_then fun K3 hK3 => ?_
      refine aw_block ?_
      refine aw_draw [] [] [] drawMixed (by kernel_rfl) (by kernel_rfl) fun K hK => ?_; simp (maxSteps := 1000000) (disch := omega) [-List.getD_eq_getElem?_getD, hcut, entAV_len]
      refine hK _ ?_; clear hK K
      refine aw_if rfl (fun h => absurd h (by simp)) (fun h => ?_)
      refine aw_skip ?_; simp (maxSteps := 1000000) (disch := omega) [-List.getD_eq_getElem?_getD]
      refine hK3 _ ?_; clear hK3
      refine aw_reg0 fun K hK => ?_; simp (maxSteps := 1000000) (disch := omega) [-List.getD_eq_getElem?_getD]
      refine hK _ ?_; clear hK K
      refine ⟨k + 1, by show k + 1 ≤ _; omega, by show a.length - (k + 1) < a.length - k; omega, ?_⟩
      refine weak_to [] [] ?_ ?_ ?_ ?_ HO ?_
      all_goals simp
    · simp [-List.getD_eq_getElem?_getD] at hk
      refine aw_exit ?_; simp (maxSteps := 1000000) (disch := omega) [-List.getD_eq_getElem?_getD]
      refine hK1 _ ?_; clear hK1
      refine aw_reg fun K hK => ?_; simp (maxSteps := 1000000) (disch := omega) [-List.getD_eq_getElem?_getD]; refine hK _ ?_; clear hK K
      refine aw_ret ?_; simp (maxSteps := 1000000) (disch := omega) [-List.getD_eq_getElem?_getD]
      exact ⟨rfl, rfl, rfl⟩
end Go.Proofs.Ytbijefgmleagnaa
