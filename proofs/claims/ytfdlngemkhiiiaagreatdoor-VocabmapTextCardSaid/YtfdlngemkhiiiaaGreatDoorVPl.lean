/- Mappings of layer 26 as cells; their order.
   Conditions: none. -/
import Derived.Test.YtfdlngemkhiiiaaGreatDoorAmFacts
import Derived.Test.YtfdlngemkhiiiaaGreatDoorAmTup
namespace Voc
open Go
abbrev Mp := Int × Int × Int
abbrev d0 : Mp := (0, 0, 0)

/-- What is permitted. -/
def goodM (x : Mp) : Bool := decide (1 ≤ x.1 ∧ x.1 ≤ 1000000000 ∧ 1 ≤ x.2.1 ∧ x.2.1 ≤ 1000000000 ∧ 1 ≤ x.2.2 ∧ x.2.2 ≤ 3)
/-- The order by the ends. -/
def lt2 (a b : Mp) : Bool := decide (a.1 < b.1 ∨ a.1 = b.1 ∧ a.2.1 < b.2.1)
def upM (l : List Mp) (j : Nat) : Bool := decide (j = 0) || lt2 (l.getD (j - 1) d0) (l.getD j d0)
def validM (l : List Mp) : Bool := (List.range l.length).all (fun j => goodM (l.getD j d0) && upM l j) && decide (l.length ≤ 500)
theorem validM_iff (l : List Mp) : validM l = true ↔ (∀ j, j < l.length → goodM (l.getD j d0) = true ∧ upM l j = true) ∧ l.length ≤ 500 := by
  simp [validM]
theorem validM_bad {l : List Mp} {j : Nat} (hj : j < l.length) (h : (goodM (l.getD j d0) && upM l j) = false) : validM l = false := by
  cases hv : validM l with
  | false => rfl
  | true => rw [((validM_iff l).1 hv).1 j hj |>.1, ((validM_iff l).1 hv).1 j hj |>.2] at h; cases h
theorem validM_rest {l : List Mp} (h : ∀ j, j < l.length → (goodM (l.getD j d0) && upM l j) = true) : validM l = decide (l.length ≤ 500) := by
  have : (List.range l.length).all (fun j => goodM (l.getD j d0) && upM l j) = true := by
    rw [List.all_eq_true]
    intro j hj
    exact h j (List.mem_range.1 hj)
  rw [validM, this, Bool.true_and]

/-- Comparing. -/
def cmpI (x y : Int) : Int := if x < y then -1 else if y < x then 1 else 0
theorem cmpI_zero (x y : Int) : cmpI x y = 0 ↔ x = y := by unfold cmpI; split <;> (try split) <;> omega
theorem cmpI_neg (x y : Int) : cmpI x y < 0 ↔ x < y := by unfold cmpI; split <;> (try split) <;> omega
def orI : List Int → Int
  | [] => 0
  | x :: r => if x = 0 then orI r else x
theorem orI_skip : ∀ (l : List Int) (k : Nat), (∀ j, j < k → l.getD j 0 = 0) → k ≤ l.length → orI l = orI (l.drop k) := by
  intro l
  induction l with
  | nil => intro k _ _; simp
  | cons x r ih =>
    intro k h hk
    cases k with
    | zero => rfl
    | succ k =>
      have h0 : x = 0 := h 0 (by omega)
      rw [orI, if_pos h0, ih k (fun j hj => h (j + 1) (by omega)) (by simpa using hk)]
      rfl
def ordM (a b : Mp) : Int := orI [cmpI a.1 b.1, cmpI a.2.1 b.2.1]
theorem ordM_neg (a b : Mp) : ordM a b < 0 ↔ lt2 a b = true := by
  unfold ordM lt2 orI orI orI cmpI
  simp only [decide_eq_true_eq]
  (repeat' split) <;> omega
theorem ordM_zero (a b : Mp) : ordM a b = 0 ↔ a.1 = b.1 ∧ a.2.1 = b.2.1 := by
  unfold ordM orI orI orI cmpI
  (repeat' split) <;> omega
def cf3 (a b : Mp) : Int := orI [ordM a b, cmpI a.2.2 b.2.2]
/-- The order of all parts. -/
def lt3 (a b : Mp) : Bool := decide (a.1 < b.1 ∨ a.1 = b.1 ∧ (a.2.1 < b.2.1 ∨ a.2.1 = b.2.1 ∧ a.2.2 < b.2.2))
theorem cf3_neg (a b : Mp) : decide (cf3 a b < 0) = lt3 a b := by
  unfold cf3 lt3 orI orI orI ordM orI orI orI cmpI
  rw [decide_eq_decide]
  (repeat' split) <;> omega
theorem lt3_irrefl (x : Mp) : lt3 x x = false := by simp [lt3]
theorem lt3_total (x y : Mp) (h1 : lt3 x y = false) (h2 : lt3 y x = false) : x = y := by
  obtain ⟨a, b, c⟩ := x
  obtain ⟨d, e, f⟩ := y
  simp only [lt3, decide_eq_false_iff_not] at h1 h2
  have e1 : a = d := by omega
  have e2 : b = e := by omega
  have e3 : c = f := by omega
  rw [e1, e2, e3]
theorem lt3_trans (x y z : Mp) (h1 : lt3 x y = true) (h2 : lt3 y z = true) : lt3 x z = true := by
  simp only [lt3, decide_eq_true_eq] at h1 h2 ⊢
  omega
theorem lt3_ntrans (x y z : Mp) (h1 : lt3 x y = false) (h2 : lt3 y z = false) : lt3 x z = false := by
  simp only [lt3, decide_eq_false_iff_not] at h1 h2 ⊢
  omega
theorem lt2_trans {x y z : Mp} (h1 : lt2 x y = true) (h2 : lt2 y z = true) : lt2 x z = true := by
  simp only [lt2, decide_eq_true_eq] at h1 h2 ⊢
  omega
theorem lt2_irrefl (x : Mp) : lt2 x x = false := by simp [lt2]
/-- In order. -/
def sortM (l : List Mp) : List Mp := l.mergeSort fun x y => !(lt3 y x)
theorem sortM_len (l : List Mp) : (sortM l).length = l.length := List.length_mergeSort _
end Voc

namespace Go.Proofs.YtfdlngemkhiiiaaGreatDoor
open Go Go.Am Voc
set_option linter.unusedVariables false

@[simp] theorem amade_two (v w : AV) : amade [v, w] 2 = [v, w] := rfl
@[simp] theorem amade_three (u v w : AV) : amade [u, v, w] 3 = [u, v, w] := rfl
theorem memD {α : Type} (l : List α) (k : Nat) (d : α) (h : k < l.length) : l.getD k d ∈ l := by
  rw [List.getD_eq_getElem?_getD, List.getElem?_eq_getElem h]
  exact List.getElem_mem h
theorem memD_inv {α : Type} {l : List α} {x : α} (d : α) (h : x ∈ l) : ∃ j, j < l.length ∧ l.getD j d = x := by
  obtain ⟨j, hj, e⟩ := List.mem_iff_getElem.1 h
  exact ⟨j, hj, by rw [List.getD_eq_getElem?_getD, List.getElem?_eq_getElem hj]; exact e⟩
theorem takeD {α : Type} (l : List α) (k : Nat) (d : α) (h : k < l.length) : l.take (k + 1) = l.take k ++ [l.getD k d] := by
  rw [List.take_succ_eq_append_getElem h, List.getD_eq_getElem?_getD, List.getElem?_eq_getElem h]
  rfl

/-- A mapping's cells. -/
def mc (p : Mp) : List AV := [.int .i64 p.1, .int .i64 p.2.1, .int .i64 p.2.2]
/-- The cells of mappings. -/
def mpAV (l : List Mp) : List AV := l.flatMap fun p => [.int .i64 p.1, .int .i64 p.2.1, .int .i64 p.2.2]
theorem mpAV_nil : mpAV [] = [] := rfl
theorem mpAV_len (l : List Mp) : (mpAV l).length = l.length * 3 := by
  induction l with
  | nil => rfl
  | cons p l ih => simp only [mpAV, List.flatMap_cons, List.length_append, List.length_cons, List.length_nil] at ih ⊢; omega
@[simp] theorem below_mp (n t : Nat) (l : List Mp) : BelowAll n t (mpAV l) := by
  intro v hv
  obtain ⟨p, _, hv⟩ := List.mem_flatMap.1 hv
  simp at hv
  rcases hv with rfl | rfl | rfl <;> simp
theorem mpAV_cons (p : Mp) (l : List Mp) : mpAV (p :: l) = .int .i64 p.1 :: .int .i64 p.2.1 :: .int .i64 p.2.2 :: mpAV l := by simp [mpAV]
theorem mpAV_snoc (l : List Mp) (d n m : Int) : mpAV l ++ [.int .i64 d, .int .i64 n, .int .i64 m] = mpAV (l ++ [(d, n, m)]) := by simp [mpAV]
theorem mpAV_app (a b : List Mp) : mpAV a ++ mpAV b = mpAV (a ++ b) := by simp [mpAV]
theorem mpAV_at : ∀ (l : List Mp) (i : Nat), i < l.length → (mpAV l).getD (i * 3) .top = .int .i64 (l.getD i d0).1 ∧ (mpAV l).getD (i * 3 + 1) .top = .int .i64 (l.getD i d0).2.1 ∧ (mpAV l).getD (i * 3 + 2) .top = .int .i64 (l.getD i d0).2.2 := by
  intro l
  induction l with
  | nil => intro i h; simp at h
  | cons p l ih =>
    intro i h
    cases i with
    | zero => rw [mpAV_cons]; exact ⟨rfl, rfl, rfl⟩
    | succ i =>
      have := ih i (by simpa using h)
      rw [mpAV_cons, show (i + 1) * 3 = i * 3 + 1 + 1 + 1 by omega]
      exact this
theorem mpAV_cut : ∀ (l : List Mp) (i : Nat), i < l.length → ((mpAV l).drop (i * 3)).take 3 = [.int .i64 (l.getD i d0).1, .int .i64 (l.getD i d0).2.1, .int .i64 (l.getD i d0).2.2] := by
  intro l
  induction l with
  | nil => intro i h; simp at h
  | cons p l ih =>
    intro i h
    cases i with
    | zero => rw [mpAV_cons]; rfl
    | succ i =>
      have := ih i (by simpa using h)
      rw [mpAV_cons, show (i + 1) * 3 = i * 3 + 1 + 1 + 1 by omega]
      exact this
theorem mpAV_take (l : List Mp) (k : Nat) (h : k < l.length) : mpAV (l.take k) ++ [.int .i64 (l.getD k d0).1, .int .i64 (l.getD k d0).2.1, .int .i64 (l.getD k d0).2.2] = mpAV (l.take (k + 1)) := by
  rw [mpAV_snoc, show ((l.getD k d0).1, (l.getD k d0).2.1, (l.getD k d0).2.2) = l.getD k d0 from rfl, ← takeD l k d0 h]
theorem mpAV_takeN : ∀ (l : List Mp) (k : Nat), (mpAV l).take (k * 3) = mpAV (l.take k) := by
  intro l
  induction l with
  | nil => intro k; simp [mpAV]
  | cons p l ih =>
    intro k
    cases k with
    | zero => simp [mpAV]
    | succ k => rw [mpAV_cons, show (k + 1) * 3 = k * 3 + 1 + 1 + 1 by omega, List.take_succ_cons, List.take_succ_cons, List.take_succ_cons, ih, List.take_succ_cons, mpAV_cons]
theorem mpAV_dropN : ∀ (l : List Mp) (k : Nat), (mpAV l).drop (k * 3) = mpAV (l.drop k) := by
  intro l
  induction l with
  | nil => intro k; simp [mpAV]
  | cons p l ih =>
    intro k
    cases k with
    | zero => simp
    | succ k => rw [mpAV_cons, show (k + 1) * 3 = k * 3 + 1 + 1 + 1 by omega, List.drop_succ_cons, List.drop_succ_cons, List.drop_succ_cons, ih, List.drop_succ_cons]
end Go.Proofs.YtfdlngemkhiiiaaGreatDoor
