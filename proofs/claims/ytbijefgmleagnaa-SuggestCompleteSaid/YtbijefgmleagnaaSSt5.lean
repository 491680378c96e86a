/- slices.SortStableFunc on a box of at most 40 entries: the one list in order.
   Conditions: as the theorems say. -/
import Derived.Test.YtbijefgmleagnaaSSt4
namespace Sug
open Go.Proofs.Ytbijefgmleagnaa
def sortC (l : List Ent) : List Ent := l.mergeSort fun x y => !(fb y x)
theorem fb_irrefl (x : Ent) : fb x x = false := by simp [fb, slt_irrefl]
theorem fb_asymm {x y : Ent} (h : fb x y = true) : fb y x = false := by
  cases h2 : fb y x with
  | false => rfl
  | true => have := fb_trans h h2; rw [fb_irrefl] at this; cases this
theorem fb_total {x y : Ent} (h1 : fb x y = false) (h2 : fb y x = false) : x = y := by
  obtain ⟨s, a⟩ := x
  obtain ⟨t, b⟩ := y
  simp only [fb, Bool.or_eq_false_iff, Bool.and_eq_false_iff, decide_eq_false_iff_not] at h1 h2
  have e : a = b := by omega
  subst e
  have g1 : slt s t = false := by rcases h1.2 with h | h; exact absurd rfl h; exact h
  have g2 : slt t s = false := by rcases h2.2 with h | h; exact absurd rfl h; exact h
  rw [slt_total _ _ g1 g2]
theorem fb_ntrans {x y z : Ent} (h1 : fb x y = false) (h2 : fb y z = false) : fb x z = false := by
  cases h3 : fb x z with
  | false => rfl
  | true =>
    cases h4 : fb y x with
    | true => rw [fb_trans h4 h3] at h2; cases h2
    | false => rw [fb_total h1 h4] at h3; rw [h3] at h2; cases h2
abbrev SrC (d : List Ent) : Prop := d.Pairwise fun x y => (!(fb y x)) = true
theorem sortC_sorted (l : List Ent) : SrC (sortC l) :=
  List.pairwise_mergeSort (le := fun x y => !(fb y x)) (fun a b c h1 h2 => by
    rw [Bool.not_eq_true'] at h1 h2 ⊢
    exact fb_ntrans h2 h1) (fun a b => by
    cases h : fb b a with
    | false => rfl
    | true => rw [fb_asymm h]; rfl) l
theorem srC_unique {a b : List Ent} (h : a.Perm b) (ha : SrC a) (hb : SrC b) : a = b := by
  refine List.Perm.eq_of_pairwise (le := fun x y => (!(fb y x)) = true) ?_ ha hb h
  intro x y _ _ h1 h2
  rw [Bool.not_eq_true'] at h1 h2
  exact fb_total h2 h1
theorem sortC_len (l : List Ent) : (sortC l).length = l.length := List.length_mergeSort _
theorem seg_sortC {d d' : List Ent} (h : Seg d d' 0 d.length) (hs : Sg d' 0 d.length) : d' = sortC d := by
  refine srC_unique (h.perm.trans (List.mergeSort_perm d _).symm) ?_ (sortC_sorted d)
  rw [SrC, List.pairwise_iff_getElem]
  intro i j hi hj hij
  have hl := h.len
  have := hs i j (Nat.zero_le _) hij (by omega)
  rw [List.getD_eq_getElem?_getD, List.getD_eq_getElem?_getD, List.getElem?_eq_getElem hi, List.getElem?_eq_getElem hj] at this
  rw [Bool.not_eq_true']
  exact fb_asymm this
end Sug
namespace Go.Proofs.Ytbijefgmleagnaa
open Go Go.Am Sug
set_option linter.unusedVariables false

theorem stableF_ok (d : List Ent) (rest : List AV) (i : Nat) (hd : d.length ≤ 40) (hw : Wg d 0 d.length) (H : List Blk) (T : Toks) (hi : H[i]? = some (.cells (entAV d ++ rest))) (hr : BelowAll H.length T.length rest) :
    ACall Try.prog 44 [.msl i 0 d.length, .fn 45 [] []] H T (Is (.tup []) (H.set i (.cells (entAV (sortC d) ++ rest))) T) := by
  have c := stable_ok d.length hd d rest i rfl hw H T hi hr
  refine acall_enter 3 [] Try.ntmps44 Try.func44 rfl (fun _ _ => Try.call44 _ _) (by simp) (fun HO => ?_)
  refine aw_reg0 fun K hK => ?_; simp (maxSteps := 1000000) (disch := omega) [-List.getD_eq_getElem?_getD]
  refine ⟨_, c, ?_⟩
  rintro v H' T' ⟨rfl, rfl, d', rfl, k1, k2⟩
  simp (maxSteps := 1000000) (disch := omega) [-List.getD_eq_getElem?_getD]
  refine hK _ ?_; clear hK K
  rw [seg_sortC k1 k2]
  exact ⟨rfl, rfl, rfl⟩

theorem stableF0_ok (H : List Blk) (T : Toks) (tg : Tag) :
    ACall Try.prog 44 [.sl 0 [] tg, .fn 45 [] []] H T (Is (.tup []) H T) := by
  refine ACall.untag1 ?_
  have c1 : ACall Try.prog 67 [.sl 0 [] .none, .int .i64 0, .int .i64 0, .fn 45 [] []] H T (Is (.tup []) H T) := by
    refine acall_enter 10 [] Try.ntmps67 Try.func67 rfl (fun _ _ => Try.call67 _ _) (by simp) (fun HO => ?_)
    refine aw_reg fun K hK => ?_; simp (maxSteps := 1000000) (disch := omega) [-List.getD_eq_getElem?_getD]; refine hK _ ?_; clear hK K
    refine aw_block ?_
    refine aw_loop (X := Unit) (fun _ => ⟨[(2, .int .i64 0), (8, .int .i64 1)], H, T⟩) (fun _ => True) (fun _ => 0) () trivial ?_ ?_
    · refine weak_to [] [] ?_ ?_ ?_ ?_ HO ?_
      all_goals simp
    · rintro _ _
      refine aw_then fun K2 hK2 => ?_
      refine aw_reg fun K hK => ?_; simp (maxSteps := 1000000) (disch := omega) [-List.getD_eq_getElem?_getD]; refine hK _ ?_; clear hK K
      refine aw_if rfl (fun h => absurd h (by simp)) (fun h => ?_)
      refine aw_exit ?_; simp (maxSteps := 1000000) (disch := omega) [-List.getD_eq_getElem?_getD]
      exact ⟨rfl, rfl, rfl⟩
  have c : ACall Try.prog 55 [.sl 0 [] .none, .int .i64 0, .fn 45 [] []] H T (Is (.tup []) H T) := by
    refine acall_enter 10 [] Try.ntmps55 Try.func55 rfl (fun _ _ => Try.call55 _ _) (by simp) (fun HO => ?_)
    refine aw_reg fun K hK => ?_; simp (maxSteps := 1000000) (disch := omega) [-List.getD_eq_getElem?_getD]; refine hK _ ?_; clear hK K
    refine aw_reg fun K hK => ?_; simp (maxSteps := 1000000) (disch := omega) [-List.getD_eq_getElem?_getD]; refine hK _ ?_; clear hK K
    refine aw_then fun K1 hK1 => ?_
    refine aw_block ?_
    refine aw_loop (X := Unit) (fun _ => ⟨[(0, .sl 0 [] .none), (1, .int .i64 0), (2, .fn 45 [] []), (6, .int .i64 20), (7, .int .i64 0), (8, .int .i64 20)], H, T⟩) (fun _ => True) (fun _ => 0) () trivial ?_ ?_
    · refine weak_to [] [] ?_ ?_ ?_ ?_ HO ?_
      all_goals simp
    · rintro _ _
      refine aw_then fun K2 hK2 => ?_
      refine aw_reg fun K hK => ?_; simp (maxSteps := 1000000) (disch := omega) [-List.getD_eq_getElem?_getD]; refine hK _ ?_; clear hK K
      refine aw_if rfl (fun h => absurd h (by simp)) (fun h => ?_)
      refine aw_exit ?_; simp (maxSteps := 1000000) (disch := omega) [-List.getD_eq_getElem?_getD]
      refine hK1 _ ?_; clear hK1
      refine aw_reg fun K hK => ?_; simp (maxSteps := 1000000) (disch := omega) [-List.getD_eq_getElem?_getD]
      refine acall_is (c1) ?_; simp (maxSteps := 1000000) (disch := omega) [-List.getD_eq_getElem?_getD]
      refine hK _ ?_; clear hK K
      refine aw_block ?_
      refine aw_loop (X := Unit) (fun _ => ⟨[(1, .int .i64 0), (6, .int .i64 20)], H, T⟩) (fun _ => True) (fun _ => 0) () trivial ?_ ?_
      · refine weak_to [] [] ?_ ?_ ?_ ?_ HO ?_
        all_goals simp
      · rintro _ _
        refine aw_then fun K3 hK3 => ?_
        refine aw_reg fun K hK => ?_; simp (maxSteps := 1000000) (disch := omega) [-List.getD_eq_getElem?_getD]; refine hK _ ?_; clear hK K
        refine aw_if rfl (fun h => absurd h (by simp)) (fun h => ?_)
        refine aw_exit ?_; simp (maxSteps := 1000000) (disch := omega) [-List.getD_eq_getElem?_getD]
        exact ⟨rfl, rfl, rfl⟩
  refine acall_enter 3 [] Try.ntmps44 Try.func44 rfl (fun _ _ => Try.call44 _ _) (by simp) (fun HO => ?_)
  refine aw_reg0 fun K hK => ?_; simp (maxSteps := 1000000) (disch := omega) [-List.getD_eq_getElem?_getD]
  refine acall_is (c) ?_; simp (maxSteps := 1000000) (disch := omega) [-List.getD_eq_getElem?_getD]
  refine hK _ ?_; clear hK K
  exact ⟨rfl, rfl, rfl⟩
end Go.Proofs.Ytbijefgmleagnaa
