/- Entries and near words of layer 43 as cells; the order of strings.
   Conditions: none. -/
import Derived.Test.YtbijefgmleagnaaAmFacts
import Derived.Test.YtbijefgmleagnaaAmTup
import GoSem.Op.String
namespace Sug
open Go
abbrev Str := List UInt8
abbrev Ent := Str × Int
abbrev Fnd := Str × Int × Int

abbrev slt (a b : Str) : Bool := Op.bytesLess a b
theorem slt_irrefl (a : Str) : slt a a = false := by
  induction a with
  | nil => rfl
  | cons x r ih => simp only [slt] at ih; simp [slt, Op.bytesLess, ih]
theorem slt_asymm : ∀ (a b : Str), slt a b = true → slt b a = false := by
  intro a
  induction a with
  | nil => intro b _; cases b <;> rfl
  | cons x r ih =>
    intro b h
    cases b with
    | nil => exact absurd h (by simp [slt, Op.bytesLess])
    | cons y s =>
      simp only [slt, Op.bytesLess, Bool.or_eq_true, Bool.and_eq_true, decide_eq_true_eq, beq_iff_eq] at h
      simp only [slt, Op.bytesLess, Bool.or_eq_false_iff, Bool.and_eq_false_iff, decide_eq_false_iff_not]
      rcases h with h | ⟨rfl, h⟩
      · refine ⟨fun h2 => ?_, .inl ?_⟩
        · rw [UInt8.lt_iff_toNat_lt] at h h2; omega
        · rw [beq_eq_false_iff_ne]; rintro rfl; rw [UInt8.lt_iff_toNat_lt] at h; omega
      · exact ⟨fun h2 => by rw [UInt8.lt_iff_toNat_lt] at h2; omega, .inr (ih s h)⟩
theorem slt_total : ∀ (a b : Str), slt a b = false → slt b a = false → a = b := by
  intro a
  induction a with
  | nil => intro b h _; cases b with
    | nil => rfl
    | cons _ _ => exact absurd h (by simp [slt, Op.bytesLess])
  | cons x r ih =>
    intro b h1 h2
    cases b with
    | nil => exact absurd h2 (by simp [slt, Op.bytesLess])
    | cons y s =>
      simp only [slt, Op.bytesLess, Bool.or_eq_false_iff, Bool.and_eq_false_iff, decide_eq_false_iff_not] at h1 h2
      have e : x = y := by
        have a1 := h1.1; have a2 := h2.1
        rw [UInt8.lt_iff_toNat_lt] at a1 a2
        exact UInt8.toNat_inj.1 (by omega)
      subst e
      have g1 : Op.bytesLess r s = false := by rcases h1.2 with h | h; exact absurd h (by simp); exact h
      have g2 : Op.bytesLess s r = false := by rcases h2.2 with h | h; exact absurd h (by simp); exact h
      rw [ih s g1 g2]
theorem slt_trans : ∀ (a b c : Str), slt a b = true → slt b c = true → slt a c = true := by
  intro a
  induction a with
  | nil => intro b c h1 h2; cases c with
    | nil => cases b <;> exact absurd h2 (by simp [slt, Op.bytesLess])
    | cons _ _ => rfl
  | cons x r ih =>
    intro b c h1 h2
    cases b with
    | nil => exact absurd h1 (by simp [slt, Op.bytesLess])
    | cons y s =>
      cases c with
      | nil => exact absurd h2 (by simp [slt, Op.bytesLess])
      | cons z t =>
        simp only [slt, Op.bytesLess, Bool.or_eq_true, Bool.and_eq_true, decide_eq_true_eq, beq_iff_eq] at h1 h2 ⊢
        rcases h1 with h1 | ⟨rfl, h1⟩
        · rcases h2 with h2 | ⟨rfl, h2⟩
          · refine .inl ?_; rw [UInt8.lt_iff_toNat_lt] at h1 h2 ⊢; omega
          · exact .inl h1
        · rcases h2 with h2 | ⟨rfl, h2⟩
          · exact .inl h2
          · exact .inr ⟨rfl, ih s t h1 h2⟩
theorem slt_ne {a b : Str} (h : slt a b = true) : a ≠ b := fun e => by rw [e, slt_irrefl] at h; cases h

/-- Words of an index. -/
def okW (s : Str) : Bool := s.all (fun c => decide (32 < c.toNat)) && decide (1 ≤ s.length ∧ s.length ≤ 100)
def okC (n : Int) : Bool := decide (1 ≤ n ∧ n ≤ 2000)
def okE (e : Ent) : Bool := okW e.1 && okC e.2
/-- Dictionaries. -/
def upE (l : List Ent) (j : Nat) : Bool := decide (j = 0) || slt (l.getD (j - 1) ([], 0)).1 (l.getD j ([], 0)).1
def validE (l : List Ent) : Bool := (List.range l.length).all (fun j => okE (l.getD j ([], 0)) && upE l j) && decide (l.length ≤ 100000)
theorem validE_iff (l : List Ent) : validE l = true ↔ (∀ j, j < l.length → okE (l.getD j ([], 0)) = true ∧ upE l j = true) ∧ l.length ≤ 100000 := by
  simp [validE]
theorem validE_bad {l : List Ent} {j : Nat} (hj : j < l.length) (h : (okE (l.getD j ([], 0)) && upE l j) = false) : validE l = false := by
  cases hv : validE l with
  | false => rfl
  | true => rw [((validE_iff l).1 hv).1 j hj |>.1, ((validE_iff l).1 hv).1 j hj |>.2] at h; cases h
theorem validE_good {l : List Ent} (hl : l.length ≤ 1000) (h : ∀ j, j < l.length → (okE (l.getD j ([], 0)) && upE l j) = true) : validE l = true :=
  (validE_iff l).2 ⟨fun j hj => by simpa using h j hj, by omega⟩
/-- Few entries with short words. -/
def fewE (l : List Ent) : Bool := decide (l.length ≤ 40 ∧ ∀ e ∈ l, e.1.length ≤ 120)
end Sug

namespace Go.Proofs.Ytbijefgmleagnaa
open Go Go.Am Sug
set_option linter.unusedVariables false

@[simp] theorem amade_two (v w : AV) : amade [v, w] 2 = [v, w] := rfl
@[simp] theorem amade_three (u v w : AV) : amade [u, v, w] 3 = [u, v, w] := rfl

/-- The cells of entries. -/
def entAV (l : List Ent) : List AV := l.flatMap fun p => [.str p.1, .int .i64 p.2]
theorem entAV_nil : entAV [] = [] := rfl
theorem entAV_len (l : List Ent) : (entAV l).length = l.length * 2 := by
  induction l with
  | nil => rfl
  | cons p l ih => simp only [entAV, List.flatMap_cons, List.length_append, List.length_cons, List.length_nil] at ih ⊢; omega
@[simp] theorem below_ent (n t : Nat) (l : List Ent) : BelowAll n t (entAV l) := by
  intro v hv
  obtain ⟨p, _, hv⟩ := List.mem_flatMap.1 hv
  simp at hv
  rcases hv with rfl | rfl <;> simp
theorem entAV_cons (p : Ent) (l : List Ent) : entAV (p :: l) = .str p.1 :: .int .i64 p.2 :: entAV l := by simp [entAV]
theorem entAV_snoc (l : List Ent) (d : Str) (n : Int) : entAV l ++ [.str d, .int .i64 n] = entAV (l ++ [(d, n)]) := by simp [entAV]
theorem entAV_at : ∀ (l : List Ent) (i : Nat), i < l.length → (entAV l).getD (i * 2) .top = .str (l.getD i ([], 0)).1 ∧ (entAV l).getD (i * 2 + 1) .top = .int .i64 (l.getD i ([], 0)).2 := by
  intro l
  induction l with
  | nil => intro i h; simp at h
  | cons p l ih =>
    intro i h
    cases i with
    | zero => rw [entAV_cons]; exact ⟨rfl, rfl⟩
    | succ i =>
      have := ih i (by simpa using h)
      rw [entAV_cons, show (i + 1) * 2 = i * 2 + 1 + 1 by omega]
      exact this
theorem entAV_cut : ∀ (l : List Ent) (i : Nat), i < l.length → ((entAV l).drop (i * 2)).take 2 = [.str (l.getD i ([], 0)).1, .int .i64 (l.getD i ([], 0)).2] := by
  intro l
  induction l with
  | nil => intro i h; simp at h
  | cons p l ih =>
    intro i h
    cases i with
    | zero => rw [entAV_cons]; rfl
    | succ i =>
      have := ih i (by simpa using h)
      rw [entAV_cons, show (i + 1) * 2 = i * 2 + 1 + 1 by omega]
      exact this
theorem entAV_take (l : List Ent) (k : Nat) (h : k < l.length) : entAV (l.take k) ++ [.str (l.getD k ([], 0)).1, .int .i64 (l.getD k ([], 0)).2] = entAV (l.take (k + 1)) := by
  rw [entAV_snoc, show ((l.getD k ([], 0)).1, (l.getD k ([], 0)).2) = l.getD k ([], 0) from rfl]
  congr 1
  rw [List.take_succ_eq_append_getElem h]
  simp [h]

/-- The cells of near words. -/
def fndAV (l : List Fnd) : List AV := l.flatMap fun p => [.str p.1, .int .i64 p.2.1, .int .i64 p.2.2]
theorem fndAV_nil : fndAV [] = [] := rfl
theorem fndAV_len (l : List Fnd) : (fndAV l).length = l.length * 3 := by
  induction l with
  | nil => rfl
  | cons p l ih => simp only [fndAV, List.flatMap_cons, List.length_append, List.length_cons, List.length_nil] at ih ⊢; omega
@[simp] theorem below_fnd (n t : Nat) (l : List Fnd) : BelowAll n t (fndAV l) := by
  intro v hv
  obtain ⟨p, _, hv⟩ := List.mem_flatMap.1 hv
  simp at hv
  rcases hv with rfl | rfl | rfl <;> simp
theorem fndAV_cons (p : Fnd) (l : List Fnd) : fndAV (p :: l) = .str p.1 :: .int .i64 p.2.1 :: .int .i64 p.2.2 :: fndAV l := by simp [fndAV]
theorem fndAV_snoc (l : List Fnd) (d : Str) (n m : Int) : fndAV l ++ [.str d, .int .i64 n, .int .i64 m] = fndAV (l ++ [(d, n, m)]) := by simp [fndAV]
theorem fndAV_app (a b : List Fnd) : fndAV a ++ fndAV b = fndAV (a ++ b) := by simp [fndAV]
theorem fndAV_at : ∀ (l : List Fnd) (i : Nat), i < l.length → (fndAV l).getD (i * 3) .top = .str (l.getD i ([], 0, 0)).1 ∧ (fndAV l).getD (i * 3 + 1) .top = .int .i64 (l.getD i ([], 0, 0)).2.1 ∧ (fndAV l).getD (i * 3 + 2) .top = .int .i64 (l.getD i ([], 0, 0)).2.2 := by
  intro l
  induction l with
  | nil => intro i h; simp at h
  | cons p l ih =>
    intro i h
    cases i with
    | zero => rw [fndAV_cons]; exact ⟨rfl, rfl, rfl⟩
    | succ i =>
      have := ih i (by simpa using h)
      rw [fndAV_cons, show (i + 1) * 3 = i * 3 + 1 + 1 + 1 by omega]
      exact this
theorem fndAV_cut : ∀ (l : List Fnd) (i : Nat), i < l.length → ((fndAV l).drop (i * 3)).take 3 = [.str (l.getD i ([], 0, 0)).1, .int .i64 (l.getD i ([], 0, 0)).2.1, .int .i64 (l.getD i ([], 0, 0)).2.2] := by
  intro l
  induction l with
  | nil => intro i h; simp at h
  | cons p l ih =>
    intro i h
    cases i with
    | zero => rw [fndAV_cons]; rfl
    | succ i =>
      have := ih i (by simpa using h)
      rw [fndAV_cons, show (i + 1) * 3 = i * 3 + 1 + 1 + 1 by omega]
      exact this
theorem fndAV_take (l : List Fnd) (k : Nat) (h : k < l.length) : fndAV (l.take k) ++ [.str (l.getD k ([], 0, 0)).1, .int .i64 (l.getD k ([], 0, 0)).2.1, .int .i64 (l.getD k ([], 0, 0)).2.2] = fndAV (l.take (k + 1)) := by
  rw [fndAV_snoc, show ((l.getD k ([], 0, 0)).1, (l.getD k ([], 0, 0)).2.1, (l.getD k ([], 0, 0)).2.2) = l.getD k ([], 0, 0) from rfl]
  congr 1
  rw [List.take_succ_eq_append_getElem h]
  simp [h]
theorem fndAV_takeN : ∀ (l : List Fnd) (k : Nat), (fndAV l).take (k * 3) = fndAV (l.take k) := by
  intro l
  induction l with
  | nil => intro k; simp [fndAV]
  | cons p l ih =>
    intro k
    cases k with
    | zero => simp [fndAV]
    | succ k => rw [fndAV_cons, show (k + 1) * 3 = k * 3 + 1 + 1 + 1 by omega, List.take_succ_cons, List.take_succ_cons, List.take_succ_cons, ih, List.take_succ_cons, fndAV_cons]
theorem fndAV_dropN : ∀ (l : List Fnd) (k : Nat), (fndAV l).drop (k * 3) = fndAV (l.drop k) := by
  intro l
  induction l with
  | nil => intro k; simp [fndAV]
  | cons p l ih =>
    intro k
    cases k with
    | zero => simp
    | succ k => rw [fndAV_cons, show (k + 1) * 3 = k * 3 + 1 + 1 + 1 by omega, List.drop_succ_cons, List.drop_succ_cons, List.drop_succ_cons, ih, List.drop_succ_cons]
theorem memD {α : Type} (l : List α) (k : Nat) (d : α) (h : k < l.length) : l.getD k d ∈ l := by
  rw [List.getD_eq_getElem?_getD, List.getElem?_eq_getElem h]
  exact List.getElem_mem h
theorem memD_inv {α : Type} {l : List α} {x : α} (d : α) (h : x ∈ l) : ∃ j, j < l.length ∧ l.getD j d = x := by
  obtain ⟨j, hj, e⟩ := List.mem_iff_getElem.1 h
  exact ⟨j, hj, by rw [List.getD_eq_getElem?_getD, List.getElem?_eq_getElem hj]; exact e⟩
end Go.Proofs.Ytbijefgmleagnaa
