/- Merging in layer 38: the walk over two lists of numbers.
   Conditions: lengths below 400. -/
import Derived.Test.YtlijaamjcpefoaaPFn3
namespace Go.Proofs.Ytlijaamjcpefoaa
open Go Go.Am Post
set_option linter.unusedVariables false

theorem drop_cons0 (l : List Int) (i : Nat) (h : i < l.length) : l.drop i = l.getD i 0 :: l.drop (i + 1) := by
  rw [List.drop_eq_getElem_cons h, List.getD_eq_getElem?_getD, List.getElem?_eq_getElem h]
  rfl

/-- What is left of the merging, with a keep function. -/
def MG (kf : Bool → Bool → Bool) (a b : List Int) (n i j : Nat) (o : List Int) : List Int :=
  mgN (fun o x => if kf true false then o ++ [x] else o) (fun o x => if kf false true then o ++ [x] else o) (fun o x => if kf true true then o ++ [x] else o) n (a.drop i) (b.drop j) o

section
variable {kf : Bool → Bool → Bool} {a b o : List Int} {n i j : Nat}
theorem MG_A (hn : 0 < n) (hi : i < a.length) (hj : j < b.length) (h : a.getD i 0 < b.getD j 0) : MG kf a b n i j o = MG kf a b (n - 1) (i + 1) j (if kf true false then o ++ [a.getD i 0] else o) := by
  obtain ⟨m, rfl⟩ : ∃ m, n = m + 1 := ⟨n - 1, by omega⟩
  unfold MG
  rw [drop_cons0 a i hi, drop_cons0 b j hj, mgN, if_pos h]
  rfl
theorem MG_B (hn : 0 < n) (hi : i < a.length) (hj : j < b.length) (h : ¬ a.getD i 0 < b.getD j 0) (h2 : b.getD j 0 < a.getD i 0) : MG kf a b n i j o = MG kf a b (n - 1) i (j + 1) (if kf false true then o ++ [b.getD j 0] else o) := by
  obtain ⟨m, rfl⟩ : ∃ m, n = m + 1 := ⟨n - 1, by omega⟩
  unfold MG
  rw [drop_cons0 a i hi, drop_cons0 b j hj, mgN, if_neg h, if_pos h2]
  rfl
theorem MG_AB (hn : 0 < n) (hi : i < a.length) (hj : j < b.length) (h : ¬ a.getD i 0 < b.getD j 0) (h2 : ¬ b.getD j 0 < a.getD i 0) : MG kf a b n i j o = MG kf a b (n - 1) (i + 1) (j + 1) (if kf true true then o ++ [a.getD i 0] else o) := by
  obtain ⟨m, rfl⟩ : ∃ m, n = m + 1 := ⟨n - 1, by omega⟩
  unfold MG
  rw [drop_cons0 a i hi, drop_cons0 b j hj, mgN, if_neg h, if_neg h2]
  rfl
theorem MG_A0 (hn : 0 < n) (hi : i < a.length) (hj : j = b.length) : MG kf a b n i j o = MG kf a b (n - 1) (i + 1) j (if kf true false then o ++ [a.getD i 0] else o) := by
  obtain ⟨m, rfl⟩ : ∃ m, n = m + 1 := ⟨n - 1, by omega⟩
  unfold MG
  rw [drop_cons0 a i hi, hj, List.drop_length, mgN]
  rfl
theorem MG_B0 (hn : 0 < n) (hi : i = a.length) (hj : j < b.length) : MG kf a b n i j o = MG kf a b (n - 1) i (j + 1) (if kf false true then o ++ [b.getD j 0] else o) := by
  obtain ⟨m, rfl⟩ : ∃ m, n = m + 1 := ⟨n - 1, by omega⟩
  unfold MG
  rw [drop_cons0 b j hj, hi, List.drop_length, mgN]
  rfl
theorem MG_end (hi : i = a.length) (hj : j = b.length) : MG kf a b n i j o = o := by
  unfold MG
  rw [hi, hj, List.drop_length, List.drop_length]
  cases n <;> rfl
end

theorem SH_len (H : List Blk) (g : Nat) (out : List Int) (tk : Nat) : (SH H g out tk).length = H.length + 2 := by simp [SH]
theorem ST_len (T : Toks) (out : List Int) : T.length ≤ (ST T out).length := by unfold ST; split <;> simp
theorem hok_SH {H : List Blk} {T : Toks} (h : HOk H T) (g : Nat) (out : List Int) : HOk (SH H g out T.length) (ST T out) := by
  have e : SH H g out T.length = (H ++ [.cells [.fn g [] []]]) ++ [.cells [outB out T.length]] := by simp [SH]
  rw [e]
  refine HOk.snoc (HOk.snoc (h.toks (ST_len T out)) (by simp)) ?_
  unfold outB ST
  split
  · simp
  · simp
end Go.Proofs.Ytlijaamjcpefoaa
