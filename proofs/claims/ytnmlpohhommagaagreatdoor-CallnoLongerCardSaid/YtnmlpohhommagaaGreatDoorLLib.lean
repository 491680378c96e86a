/- One-byte separators: where a text is cut, and how it is split.
   Conditions: none. -/
import Derived.Lib.Split
import Derived.Lib.CountLaws
import Derived.Lib.IndexMore
namespace Lst
open Go.Lib
/-- What stands before and behind the first such byte. -/
def cutL (c : UInt8) : List UInt8 → Option (List UInt8 × List UInt8)
  | [] => none
  | b :: l => if b = c then some ([], l) else (cutL c l).map fun x => (b :: x.1, x.2)
/-- The parts between such bytes. -/
def splitL (c : UInt8) : List UInt8 → List (List UInt8)
  | [] => [[]]
  | b :: l => if b = c then [] :: splitL c l else match splitL c l with | [] => [[b]] | x :: r => (b :: x) :: r
/-- What Cut answers. -/
def cutT (c : UInt8) (s : List UInt8) : List UInt8 × List UInt8 × Bool := match cutL c s with | none => (s, [], false) | some x => (x.1, x.2, true)

theorem cutL_cons {c b : UInt8} {l : List UInt8} : cutL c (b :: l) = if b = c then some ([], l) else (cutL c l).map fun x => (b :: x.1, x.2) := rfl
theorem index_none {c : UInt8} : ∀ {s : List UInt8}, cutL c s = none → index s [c] = -1
  | [], _ => rfl
  | b :: l, h => by
    rw [cutL_cons] at h
    split at h
    · cases h
    · rename_i hb
      rw [Option.map_eq_none_iff] at h
      have hp : List.isPrefixOf [c] (b :: l) = false := by simp [List.isPrefixOf, Ne.symm hb]
      rw [index, hp, index_none h]
      rfl
theorem index_some {c : UInt8} : ∀ {s : List UInt8} {x : List UInt8 × List UInt8}, cutL c s = some x → index s [c] = x.1.length ∧ s = x.1 ++ c :: x.2
  | [], x, h => by cases h
  | b :: l, x, h => by
    rw [cutL_cons] at h
    split at h
    · rename_i hb
      subst hb
      cases h
      refine ⟨?_, rfl⟩
      have hp : List.isPrefixOf [b] (b :: l) = true := by simp [List.isPrefixOf]
      rw [index, hp]
      rfl
    · rename_i hb
      rw [Option.map_eq_some_iff] at h
      obtain ⟨y, hy, rfl⟩ := h
      obtain ⟨h1, h2⟩ := index_some hy
      have hp : List.isPrefixOf [c] (b :: l) = false := by simp [List.isPrefixOf, Ne.symm hb]
      have hne : ((y.1.length : Int) == -1) = false := beq_eq_false_iff_ne.2 (by omega)
      refine ⟨?_, by rw [List.cons_append, ← h2]⟩
      rw [index, hp, h1, hne]
      simp
theorem cut_one (c : UInt8) (s : List UInt8) : cut s [c] = cutT c s := by
  unfold cut cutT
  cases h : cutL c s with
  | none =>
    rw [index_none h]
    rfl
  | some x =>
    obtain ⟨a, r⟩ := x
    obtain ⟨h1, h2⟩ := index_some h
    rw [h1, if_pos (by omega)]
    clear h h1
    subst h2
    simp
theorem splitL_cut (c : UInt8) : ∀ (s : List UInt8), splitL c s = match cutL c s with | none => [s] | some x => x.1 :: splitL c x.2
  | [] => rfl
  | b :: l => by
    rw [splitL, cutL_cons]
    split
    · rfl
    · have ih := splitL_cut c l
      cases h : cutL c l with
      | none => rw [h] at ih; rw [ih]; rfl
      | some x => rw [h] at ih; rw [ih]; rfl
theorem split_one (c : UInt8) : ∀ (n : Nat) (s : List UInt8), s.length ≤ n → splitK [c] 0 (count s [c]) s = splitL c s := by
  intro n
  induction n with
  | zero =>
    intro s hs
    have : s = [] := List.length_eq_zero_iff.1 (by omega)
    subst this
    rfl
  | succ n ih =>
    intro s hs
    rw [splitL_cut]
    cases h : cutL c s with
    | none =>
      have h1 := index_none h
      rw [count_miss h1]
      rfl
    | some x =>
      obtain ⟨h1, h2⟩ := index_some h
      have hne : ¬ ((x.1.length : Int) == -1) = true := fun e => by have := beq_iff_eq.1 e; omega
      have hd : s.drop (x.1.length + 1) = x.2 := by
        generalize x.1 = a at *
        generalize x.2 = r at *
        subst h2
        simp
      have ht : s.take x.1.length = x.1 := by
        generalize x.1 = a at *
        generalize x.2 = r at *
        subst h2
        simp
      have hl : s.length = x.1.length + (x.2.length + 1) := by
        have := congrArg List.length h2
        rw [List.length_append, List.length_cons] at this
        exact this
      rw [count_hit (by simp) h1, Nat.add_comm 1, splitK, h1, if_neg hne]
      simp only [List.length_cons, List.length_nil, Nat.zero_add, Nat.add_zero, Int.toNat_natCast]
      rw [hd, ht, ih x.2 (by omega)]
theorem splitL_len {c : UInt8} : ∀ {s t : List UInt8}, t ∈ splitL c s → t.length ≤ s.length
  | [], t, h => by simp [splitL] at h; subst h; simp
  | b :: l, t, h => by
    rw [splitL] at h
    split at h
    · rcases List.mem_cons.1 h with rfl | h
      · simp
      · have := splitL_len h
        simp; omega
    · revert h
      have ih := fun t (h : t ∈ splitL c l) => splitL_len h
      cases hs : splitL c l with
      | nil => intro h; simp at h; subst h; simp
      | cons x r =>
        rw [hs] at ih
        intro h
        rcases List.mem_cons.1 h with rfl | h
        · have := ih x (by simp)
          simp; omega
        · have := ih t (by simp [h])
          simp; omega
theorem splitL_ne (c : UInt8) (s : List UInt8) : splitL c s ≠ [] := by
  rw [splitL_cut]
  split <;> simp
theorem cutL_app {c : UInt8} : ∀ {a : List UInt8} (r : List UInt8), c ∉ a → cutL c (a ++ c :: r) = some (a, r)
  | [], r, _ => by simp [cutL]
  | b :: l, r, h => by
    rw [List.cons_append, cutL_cons, if_neg (fun e => h (by simp [e])), cutL_app r (fun e => h (List.mem_cons_of_mem _ e))]
    rfl
theorem cutL_not {c : UInt8} : ∀ {a : List UInt8}, c ∉ a → cutL c a = none
  | [], _ => rfl
  | b :: l, h => by
    rw [cutL_cons, if_neg (fun e => h (by simp [e])), cutL_not (fun e => h (List.mem_cons_of_mem _ e))]
    rfl
theorem cutL_mem {c : UInt8} {s : List UInt8} {x : List UInt8 × List UInt8} (h : cutL c s = some x) : c ∉ x.1 := by
  induction s generalizing x with
  | nil => cases h
  | cons b l ih =>
    rw [cutL_cons] at h
    split at h
    · cases h; simp
    · rename_i hb
      rw [Option.map_eq_some_iff] at h
      obtain ⟨y, hy, rfl⟩ := h
      have := ih hy
      simp [this, Ne.symm hb]
theorem cutL_none {c : UInt8} {s : List UInt8} (h : cutL c s = none) : c ∉ s := by
  induction s with
  | nil => simp
  | cons b l ih =>
    rw [cutL_cons] at h
    split at h
    · cases h
    · rename_i hb
      rw [Option.map_eq_none_iff] at h
      simp [ih h, Ne.symm hb]
/-- What is split is joined again. -/
theorem splitL_app {c : UInt8} {a : List UInt8} (r : List UInt8) (h : c ∉ a) : splitL c (a ++ c :: r) = a :: splitL c r := by
  rw [splitL_cut, cutL_app r h]
theorem splitL_not {c : UInt8} {a : List UInt8} (h : c ∉ a) : splitL c a = [a] := by
  rw [splitL_cut, cutL_not h]
end Lst
