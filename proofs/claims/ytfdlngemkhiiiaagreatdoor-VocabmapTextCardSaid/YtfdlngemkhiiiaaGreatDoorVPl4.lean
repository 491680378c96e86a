/- The ways as the reference collects them, step by step (layer 26), in plain Lean.
   Conditions: none. -/
import Derived.Test.YtfdlngemkhiiiaaGreatDoorVPl3
namespace Voc
def onePairs (x : Mp) (m : List Mp) : List (Pr × Nat) := (m.filter fun y => decide (y.1 = x.2.1)).map fun y => ((x.1, y.2.1), (joinK x.2.2 y.2.2).toNat)
def refT (l m : List Mp) (i k : Nat) : Wy := wall (nz (pairs (l.take i) m ++ onePairs (l.getD i d0) (m.take k)))
theorem take_succD {α : Type} {l : List α} {i : Nat} (d : α) (h : i < l.length) : l.take (i + 1) = l.take i ++ [l.getD i d] := by
  rw [List.take_succ_eq_append_getElem h, List.getD_eq_getElem?_getD, List.getElem?_eq_getElem h]
  rfl
theorem refT_zero (l m : List Mp) : refT l m 0 0 = [] := by simp [refT, pairs, onePairs, nz, wall]
theorem nz_app (a b : List (Pr × Nat)) : nz (a ++ b) = nz a ++ nz b := by simp [nz]
theorem onePairs_snoc (x : Mp) (a : List Mp) (y : Mp) : onePairs x (a ++ [y]) = onePairs x a ++ (if y.1 = x.2.1 then [((x.1, y.2.1), (joinK x.2.2 y.2.2).toNat)] else []) := by
  unfold onePairs
  rw [List.filter_append, List.map_append]
  congr 1
  by_cases h : y.1 = x.2.1 <;> simp [h]
theorem refT_row {l m : List Mp} {i : Nat} (hi : i < l.length) : refT l m i m.length = refT l m (i + 1) 0 := by
  unfold refT
  rw [take_succD d0 hi, List.take_length]
  congr 2
  simp [pairs, onePairs]
theorem refT_all {l m : List Mp} : refT l m l.length 0 = refW l m := by
  unfold refT refW
  rw [List.take_length]
  simp [onePairs]
theorem refT_skip {l m : List Mp} {i k : Nat} (hk : k < m.length) (h : (m.getD k d0).1 ≠ (l.getD i d0).2.1 ∨ (joinK (l.getD i d0).2.2 (m.getD k d0).2.2).toNat = 0) : refT l m i (k + 1) = refT l m i k := by
  unfold refT
  rw [take_succD d0 hk, onePairs_snoc, nz_app, nz_app, nz_app]
  rcases h with h | h
  · rw [if_neg h]; simp [nz]
  · split
    · rw [h]; simp [nz]
    · simp [nz]
theorem refT_add {l m : List Mp} {i k : Nat} (hk : k < m.length) (h : (m.getD k d0).1 = (l.getD i d0).2.1) (h2 : (joinK (l.getD i d0).2.2 (m.getD k d0).2.2).toNat ≠ 0) :
    refT l m i (k + 1) = wadd (refT l m i k) ((l.getD i d0).1, (m.getD k d0).2.1) (joinK (l.getD i d0).2.2 (m.getD k d0).2.2).toNat := by
  unfold refT
  rw [take_succD d0 hk, onePairs_snoc, if_pos h, ← List.append_assoc, nz_app]
  have : nz [(((l.getD i d0).1, (m.getD k d0).2.1), (joinK (l.getD i d0).2.2 (m.getD k d0).2.2).toNat)] = [(((l.getD i d0).1, (m.getD k d0).2.1), (joinK (l.getD i d0).2.2 (m.getD k d0).2.2).toNat)] := by exact List.filter_eq_self.2 (by simp only [List.mem_singleton, forall_eq, decide_eq_true_eq]; exact h2)
  rw [this, wall_snoc]
theorem onePairs_lt {x : Mp} {m : List Mp} (hx : 1 ≤ x.2.2 ∧ x.2.2 ≤ 3) (hm : kOk m) : ∀ p ∈ onePairs x m, p.2 < 4 := by
  intro p hp
  unfold onePairs at hp
  obtain ⟨y, hy, rfl⟩ := List.mem_map.1 hp
  have := joinK_lt hx (hm y (List.mem_filter.1 hy).1)
  simp only; omega
theorem refT_ks {l m : List Mp} (hl : kOk l) (hm : kOk m) {i k : Nat} (hi : i < l.length ∨ k = 0) : ∀ x ∈ refT l m i k, x.2.length = 4 := by
  rintro ⟨e, ks⟩ hx
  refine ((wall_ok _ fun p hp => ?_).ks e ks hx).1
  rcases List.mem_append.1 (mem_nz.1 hp).1 with h | h
  · exact pairs_lt (fun x hx => hl x (List.mem_of_mem_take hx)) hm p h
  · rcases hi with hi | rfl
    · exact onePairs_lt (hl _ (getD_mem hi)) (fun x hx => hm x (List.mem_of_mem_take hx)) p h
    · simp [onePairs] at h
/-- The ends of the ways, without kinds. -/
def endsL (w : Wy) : List Mp := w.map fun x => (x.1.1, x.1.2, 0)
theorem endsL_len (w : Wy) : (endsL w).length = w.length := List.length_map _
theorem wadd_at : ∀ {w : Wy} {e : Pr} {n : Nat} {a : Nat} {ks : List Bool}, (∀ j, j < a → (w.map (·.1))[j]? ≠ some e) → w[a]? = some (e, ks) → wadd w e n = w.set a (e, ks.set n true) := by
  intro w
  induction w with
  | nil => intro e n a ks _ h; simp at h
  | cons x r ih =>
    obtain ⟨e', ks'⟩ := x
    intro e n a ks h1 h2
    cases a with
    | zero =>
      simp at h2
      simp [wadd, h2.1, h2.2]
    | succ a =>
      have h3 := h1 0 (by omega)
      simp at h3
      rw [wadd, if_neg h3, ih (a := a) (ks := ks) (fun j hj => by have := h1 (j + 1) (by omega); simpa using this) (by simpa using h2)]
      rfl
theorem wadd_new : ∀ {w : Wy} {e : Pr} {n : Nat}, (∀ j, j < w.length → (w.map (·.1))[j]? ≠ some e) → wadd w e n = (w ++ [(e, zs4)]).set w.length (e, zs4.set n true) := by
  intro w
  induction w with
  | nil => intro e n _; rfl
  | cons x r ih =>
    obtain ⟨e', ks'⟩ := x
    intro e n h1
    have h3 := h1 0 (by simp)
    simp at h3
    rw [wadd, if_neg h3, ih (fun j hj => by simpa using h1 (j + 1) (by simpa using hj))]
    rfl
theorem endsL_getD {w : Wy} {a : Nat} {e : Pr} {ks : List Bool} (h : w[a]? = some (e, ks)) : (endsL w).getD a d0 = (e.1, e.2, 0) := by
  rw [List.getD_eq_getElem?_getD, endsL, List.getElem?_map, h]; rfl
theorem key_at {w : Wy} {a : Nat} {e : Pr} (ha : a < w.length) : (w.map (·.1))[a]? = some e ↔ ((endsL w).getD a d0).1 = e.1 ∧ ((endsL w).getD a d0).2.1 = e.2 := by
  obtain ⟨f, t⟩ := e
  rw [List.getElem?_map, List.getElem?_eq_getElem ha, endsL_getD (e := w[a].1) (ks := w[a].2) (by rw [List.getElem?_eq_getElem ha])]
  simp [Prod.ext_iff]
theorem endsL_set {w : Wy} {a : Nat} {e : Pr} {ks ks' : List Bool} (h : w[a]? = some (e, ks)) : endsL (w.set a (e, ks')) = endsL w := by
  rw [endsL, List.map_set]
  have hl := (List.getElem?_eq_some_iff.1 h).1
  have : (w.map fun x => ((x.1.1, x.1.2, 0) : Mp))[a]? = some (e.1, e.2, 0) := by rw [List.getElem?_map, h]; rfl
  rw [endsL]
  refine List.ext_getElem? fun j => ?_
  rw [List.getElem?_set]
  split
  · rename_i hj
    subst hj
    rw [this]
    simp [hl]
  · rfl
theorem filterMap_take {w : Wy} {i : Nat} {x : Pr × List Bool} (h : w[i]? = some x) (f : Pr × List Bool → Option Mp) : (w.take (i + 1)).filterMap f = (w.take i).filterMap f ++ (f x).toList := by
  obtain ⟨hi, e⟩ := List.getElem?_eq_some_iff.1 h
  rw [List.take_succ_eq_append_getElem hi, List.filterMap_append, e]
  congr 1
end Voc
