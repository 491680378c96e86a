/- The table of layer 11.
   Conditions: lengths below 1000. -/
import Derived.Test.YtgndlhfnenlhkaaEFn2
namespace Go.Proofs.Ytgndlhfnenlhkaa
open Go Go.Am Edit
set_option linter.unusedVariables false

/-- A table: its rows, and the slices that point to them. -/
def ptrs (base m n : Nat) : List AV := (List.range n).map fun i => .msl (base + i) 0 m
def tb (R : List (List Int)) : List Blk := R.map fun r => .cells (ints r)

theorem ptrs_len (base m n : Nat) : (ptrs base m n).length = n := by simp [ptrs]
theorem ptrs_at {base m n i : Nat} (h : i < n) : (ptrs base m n).getD i .top = .msl (base + i) 0 m := by
  rw [List.getD_eq_getElem?_getD]
  simp [ptrs, h]
theorem ptrs_snoc (base m n : Nat) : ptrs base m (n + 1) = ptrs base m n ++ [.msl (base + n) 0 m] := by simp [ptrs, List.range_succ]
theorem ptrs_set (base m n k : Nat) (h : k < n) (v : AV) : (ptrs base m k ++ List.replicate (n - k) v).set k (.msl (base + k) 0 m) = ptrs base m (k + 1) ++ List.replicate (n - (k + 1)) v := by
  rw [List.set_append_right _ _ (by rw [ptrs_len]; exact Nat.le_refl _), ptrs_len, Nat.sub_self, ptrs_snoc, show n - k = (n - (k + 1)) + 1 by omega, List.replicate_succ, List.set_cons_zero]
  simp
theorem tb_len (R : List (List Int)) : (tb R).length = R.length := by simp [tb]
theorem tb_at {R : List (List Int)} {i : Nat} (h : i < R.length) : (tb R)[i]? = some (.cells (ints (R.getD i []))) := by
  rw [List.getD_eq_getElem?_getD]
  simp [tb, h]
theorem tb_set (R : List (List Int)) (i : Nat) (r : List Int) : (tb R).set i (.cells (ints r)) = tb (R.set i r) := by simp [tb, List.map_set]
theorem tb_snoc (R : List (List Int)) (r : List Int) : tb R ++ [.cells (ints r)] = tb (R ++ [r]) := by simp [tb]
section
variable {α : Type} (H l : List α) (i : Nat) (x y : α)
theorem new_at1 : (H ++ x :: l)[H.length + 1 + i]? = l[i]? := by
  rw [List.getElem?_append_right (by omega), show H.length + 1 + i - H.length = i + 1 by omega, List.getElem?_cons_succ]
theorem new_set1 : (H ++ x :: l).set (H.length + 1 + i) y = H ++ x :: l.set i y := by
  rw [List.set_append_right _ _ (by omega), show H.length + 1 + i - H.length = i + 1 by omega, List.set_cons_succ]
end

theorem hok_tb {H : List Blk} {T : Toks} (h : HOk H T) (vs : List AV) (R : List (List Int)) (hv : BelowAll (H.length + 1 + R.length) T.length vs) : HOk (H ++ .cells vs :: tb R) T := by
  intro i us hi v hm
  have hlen : (H ++ Blk.cells vs :: tb R).length = H.length + 1 + R.length := by simp [tb]; omega
  rw [hlen]
  rcases Nat.lt_or_ge i H.length with h1 | h1
  · rw [List.getElem?_append_left h1] at hi
    exact (h i us hi v hm).more (by omega) (Nat.le_refl _)
  · rw [List.getElem?_append_right h1] at hi
    cases hq : i - H.length with
    | zero =>
      rw [hq] at hi
      simp at hi
      subst hi
      exact hv v hm
    | succ q =>
      rw [hq] at hi
      simp only [List.getElem?_cons_succ, tb, List.getElem?_map] at hi
      cases hr : R[q]? with
      | none => rw [hr] at hi; simp at hi
      | some r =>
        rw [hr] at hi
        simp at hi
        subst hi
        obtain ⟨x, _, rfl⟩ := List.mem_map.1 hm
        exact .int _ _

theorem below_ptrs {base m n N t : Nat} (h : base + n ≤ N) : BelowAll N t (ptrs base m n) := by
  intro v hv
  obtain ⟨i, hi, rfl⟩ := List.mem_map.1 hv
  rw [List.mem_range] at hi
  exact .msl _ _ _ (by omega)

/-- The distance of two ends. -/
def D (a b : List Int) (i j : Nat) : Int := (ed (a.drop i) (b.drop j) : Nat)

theorem drop_cons0 (l : List Int) (i : Nat) (h : i < l.length) : l.drop i = l.getD i 0 :: l.drop (i + 1) := by
  rw [List.drop_eq_getElem_cons h, List.getD_eq_getElem?_getD, List.getElem?_eq_getElem h]
  rfl
theorem D_eq {a b : List Int} {i j : Nat} (hi : i < a.length) (hj : j < b.length) (h : a.getD i 0 = b.getD j 0) : D a b i j = D a b (i + 1) (j + 1) := by
  unfold D
  rw [drop_cons0 a i hi, drop_cons0 b j hj, h, ed_eq]
theorem D_ne {a b : List Int} {i j : Nat} (hi : i < a.length) (hj : j < b.length) (h : a.getD i 0 ≠ b.getD j 0) : D a b i j = 1 + min (min (D a b (i + 1) (j + 1)) (D a b (i + 1) j)) (D a b i (j + 1)) := by
  unfold D
  rw [drop_cons0 a i hi, drop_cons0 b j hj, ed_ne h]
  omega
theorem D_row (a b : List Int) (j : Nat) (hj : j ≤ b.length) : D a b a.length j = (b.length : Int) - j := by
  unfold D
  rw [List.drop_length, ed_nil, List.length_drop]; omega
theorem D_col (a b : List Int) (i : Nat) (hi : i ≤ a.length) : D a b i b.length = (a.length : Int) - i := by
  unfold D
  rw [List.drop_length, ed_nil2, List.length_drop]; omega
theorem D_le (a b : List Int) (i j : Nat) : 0 ≤ D a b i j ∧ D a b i j ≤ max a.length b.length := by
  unfold D
  have := ed_max (a.drop i) (b.drop j)
  rw [List.length_drop, List.length_drop] at this
  omega

/-- A table of la + 1 rows of lb + 1 numbers. -/
def Shape (n m : Nat) (R : List (List Int)) : Prop := R.length = n ∧ ∀ i, i < n → (R.getD i []).length = m
def at2 (R : List (List Int)) (i j : Nat) : Int := (R.getD i []).getD j 0
def put2 (R : List (List Int)) (i j : Nat) (x : Int) : List (List Int) := R.set i ((R.getD i []).set j x)

theorem getD_set' {α : Type} (l : List α) (k j : Nat) (x d : α) : (l.set k x).getD j d = if k = j ∧ k < l.length then x else l.getD j d := by
  rw [List.getD_eq_getElem?_getD, List.getD_eq_getElem?_getD, List.getElem?_set]
  by_cases h : k = j
  · subst h
    by_cases hl : k < l.length
    · simp [hl]
    · simp [hl]
  · simp [h]

theorem Shape.put {n m : Nat} {R : List (List Int)} (h : Shape n m R) (i j : Nat) (x : Int) : Shape n m (put2 R i j x) := by
  refine ⟨by simp [put2, h.1], fun q hq => ?_⟩
  unfold put2
  rw [getD_set']
  split
  · rename_i hh
    rw [List.length_set]
    exact h.2 i (by omega)
  · exact h.2 q hq

theorem at2_put {n m : Nat} {R : List (List Int)} (h : Shape n m R) {i j : Nat} (hi : i < n) (hj : j < m) (x : Int) (p q : Nat) : at2 (put2 R i j x) p q = if p = i ∧ q = j then x else at2 R p q := by
  unfold at2 put2
  rw [getD_set']
  by_cases hp : i = p
  · subst hp
    rw [if_pos ⟨rfl, by rw [h.1]; exact hi⟩, getD_set']
    by_cases hq : j = q
    · subst hq
      rw [if_pos ⟨rfl, by rw [h.2 i hi]; exact hj⟩, if_pos ⟨rfl, rfl⟩]
    · rw [if_neg (fun hh => hq hh.1), if_neg (fun hh => hq hh.2.symm)]
  · rw [if_neg (fun hh => hp hh.1), if_neg (fun hh => hp hh.1.symm)]

end Go.Proofs.Ytgndlhfnenlhkaa
