/- Near words of a dictionary: each once, in order, those of a lesser distance first (layer 43).
   Conditions: none. -/
import Derived.Test.YtbijefgmleagnaaSFn7
namespace Sug
open Go.Proofs.Ytbijefgmleagnaa

def hit (x : Fnd) (k : Int) (y : Fnd) : Bool := (y.1 == x.1) && (y.2.1 == x.2.1) && (y.2.2 == x.2.2) && decide (x.2.1 ≤ k)

theorem hit_iff (x : Fnd) (k : Int) (y : Fnd) (h : x.2.1 ≤ k) : hit x k y = (y == x) := by
  obtain ⟨a, b, c⟩ := x
  obtain ⟨d, e, f⟩ := y
  simp only [hit, decide_eq_true h, Bool.and_true]
  rw [Bool.eq_iff_iff]
  simp [Prod.ext_iff, and_assoc]

theorem valid_words {l : List Ent} (h : validE l = true) : l.Pairwise fun a b => a.1 ≠ b.1 := by
  rw [List.pairwise_iff_getElem]
  intro i j hi hj hij
  have := validE_lt h hij hj
  rw [List.getD_eq_getElem?_getD, List.getD_eq_getElem?_getD, List.getElem?_eq_getElem hi, List.getElem?_eq_getElem hj] at this
  exact slt_ne this

theorem nearOf_some {w : Str} {k : Int} {e : Ent} {x : Fnd} (h : nearOf w k e = some x) : x = (e.1, distE e.1 w, e.2) ∧ distE e.1 w ≤ k := by
  unfold nearOf at h
  split at h
  · rename_i hd
    cases h
    exact ⟨rfl, hd⟩
  · cases h

theorem found_nodup {l : List Ent} (h : validE l = true) (w : Str) (k : Int) : (foundE l w k).Nodup := by
  have hw := valid_words h
  clear h
  induction l with
  | nil => simp [foundE]
  | cons e r ih =>
    have h1 := List.pairwise_cons.1 hw
    have ih := ih h1.2
    unfold foundE at ih ⊢
    rw [List.filterMap_cons]
    split
    · exact ih
    · rename_i x hx
      refine List.nodup_cons.2 ⟨fun hm => ?_, ih⟩
      obtain ⟨e2, he2, hx2⟩ := List.mem_filterMap.1 hm
      have a1 := (nearOf_some hx).1
      have a2 := (nearOf_some hx2).1
      rw [a1] at a2
      exact h1.1 e2 he2 (Prod.mk.inj a2).1

theorem found_mem {l : List Ent} {w : Str} {k : Int} {x : Fnd} (h : x ∈ foundE l w k) : ∃ e ∈ l, x = (e.1, distE e.1 w, e.2) ∧ distE e.1 w ≤ k := by
  obtain ⟨e, he, hx⟩ := List.mem_filterMap.1 h
  exact ⟨e, he, nearOf_some hx⟩

theorem sort_mem {l : List Fnd} {x : Fnd} : x ∈ sortF l ↔ x ∈ l := (List.mergeSort_perm l _).mem_iff
theorem sort_nodup {l : List Fnd} (h : l.Nodup) : (sortF l).Nodup := (List.mergeSort_perm l _).nodup_iff.2 h

theorem sort_ahead {l : List Fnd} (h : l.Nodup) {i j : Nat} (hij : i < j) (hj : j < (sortF l).length) : aheadF ((sortF l).getD i ([], 0, 0)) ((sortF l).getD j ([], 0, 0)) = true := by
  have h1 := List.pairwise_iff_getElem.1 (sortF_sorted l) i j (by omega) hj hij
  have h2 := List.pairwise_iff_getElem.1 (sort_nodup h) i j (by omega) hj hij
  rw [List.getD_eq_getElem?_getD, List.getD_eq_getElem?_getD, List.getElem?_eq_getElem (by omega : i < (sortF l).length), List.getElem?_eq_getElem hj]
  simp only [Option.getD_some]
  cases ha : aheadF (sortF l)[i] (sortF l)[j] with
  | true => rfl
  | false =>
    rw [Bool.not_eq_true'] at h1
    exact absurd (aheadF_total _ _ ha h1) h2

theorem count_hit {l : List Ent} (h : validE l = true) (w : Str) (k : Int) {e : Ent} (he : e ∈ l) : (sortF (foundE l w k)).countP (hit (e.1, distE e.1 w, e.2) k) = if distE e.1 w ≤ k then 1 else 0 := by
  split
  · rename_i hd
    have hf : hit (e.1, distE e.1 w, e.2) k = fun y => y == (e.1, distE e.1 w, e.2) := by
      funext y
      exact hit_iff _ _ _ hd
    have hm : (e.1, distE e.1 w, e.2) ∈ sortF (foundE l w k) := sort_mem.2 (List.mem_filterMap.2 ⟨e, he, by rw [nearOf, if_pos hd]⟩)
    rw [hf]
    show List.count _ _ = 1
    have hnd := sort_nodup (found_nodup h w k)
    have h1 := List.nodup_iff_count.1 hnd (e.1, distE e.1 w, e.2)
    have h2 := List.count_pos_iff.2 hm
    omega
  · rename_i hd
    rw [List.countP_eq_zero]
    intro y _
    simp [hit, hd]

theorem found_less (l : List Ent) (w : Str) (k : Int) : foundE l w (k - 1) = (foundE l w k).filter fun x => decide (x.2.1 ≤ k - 1) := by
  induction l with
  | nil => rfl
  | cons e r ih =>
    unfold foundE at ih ⊢
    rw [List.filterMap_cons, List.filterMap_cons]
    by_cases h1 : distE e.1 w ≤ k - 1
    · have e1 : nearOf w (k - 1) e = some (e.1, distE e.1 w, e.2) := by rw [nearOf, if_pos h1]
      have e2 : nearOf w k e = some (e.1, distE e.1 w, e.2) := by rw [nearOf, if_pos (by omega)]
      rw [e1, e2]
      simp only
      rw [List.filter_cons, if_pos (show decide (((e.1, distE e.1 w, e.2) : Fnd).2.1 ≤ k - 1) = true from decide_eq_true h1), ih]
    · have e1 : nearOf w (k - 1) e = none := by rw [nearOf, if_neg h1]
      rw [e1]
      by_cases h2 : distE e.1 w ≤ k
      · have e2 : nearOf w k e = some (e.1, distE e.1 w, e.2) := by rw [nearOf, if_pos h2]
        rw [e2]
        simp only
        rw [List.filter_cons, if_neg (show ¬ decide (((e.1, distE e.1 w, e.2) : Fnd).2.1 ≤ k - 1) = true from by simpa using h1), ih]
      · have e2 : nearOf w k e = none := by rw [nearOf, if_neg h2]
        rw [e2]
        exact ih

theorem sort_split (A : List Fnd) (k : Int) : sortF A = sortF (A.filter fun x => decide (x.2.1 ≤ k - 1)) ++ sortF (A.filter fun x => !decide (x.2.1 ≤ k - 1)) := by
  refine srt_unique ?_ (sortF_sorted A) ?_
  · refine (List.mergeSort_perm A _).trans ?_
    refine (List.filter_append_perm (fun x : Fnd => decide (x.2.1 ≤ k - 1)) A).symm.trans ?_
    exact List.Perm.append (List.mergeSort_perm _ _).symm (List.mergeSort_perm _ _).symm
  · refine List.pairwise_append.2 ⟨sortF_sorted _, sortF_sorted _, fun x hx y hy => ?_⟩
    have hx := of_decide_eq_true (List.mem_filter.1 (sort_mem.1 hx)).2
    have hy := (List.mem_filter.1 (sort_mem.1 hy)).2
    have hy : ¬ y.2.1 ≤ k - 1 := by simpa using hy
    rw [Bool.not_eq_true', aheadF, if_pos (by omega)]
    exact decide_eq_false (by omega)

theorem within_split {l : List Ent} {w : Str} {k : Int} (hv : validE l = true) (h0 : 0 ≤ k) (h3 : k ≤ 3) : ∃ rest, withinE l w k = withinE l w (k - 1) ++ rest ∧ ∀ x ∈ rest, x.2.1 = k := by
  refine ⟨sortF ((foundE l w k).filter fun x => !decide (x.2.1 ≤ k - 1)), ?_, fun x hx => ?_⟩
  · have e : withinE l w (k - 1) = sortF (foundE l w (k - 1)) := by
      unfold withinE
      split
      · rfl
      · rename_i hn
        have hk : k = 0 := by
          rcases Int.lt_or_le 0 k with h | h
          · exact absurd ⟨hv, by omega, by omega⟩ hn
          · omega
        subst hk
        have : foundE l w (0 - 1) = [] := by
          unfold foundE
          rw [List.filterMap_eq_nil_iff]
          intro e he
          have := distE_nonneg e.1 w
          rw [nearOf, if_neg (by omega)]
        rw [this]
        simp [sortF]
    rw [e, found_less, withinE, if_pos ⟨hv, h0, h3⟩, ← sort_split]
  · have hm := List.mem_filter.1 (sort_mem.1 hx)
    obtain ⟨e, _, rfl, hd⟩ := found_mem hm.1
    have h2 : ¬ distE e.1 w ≤ k - 1 := by simpa using hm.2
    show distE e.1 w = k
    omega
end Sug
