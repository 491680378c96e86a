/- Standard numbers: sums with weights, digits of strings; laws on lists.
   Conditions: none. -/
import Derived.Test.YtlemepdiegacbaaAmTac
namespace Ident

/-- The sum of the first n numbers, each with its weight. -/
def wsum (f w : Nat → Int) : Nat → Int
  | 0 => 0
  | n + 1 => wsum f w n + f n * w n

theorem wsum_congr {f g w : Nat → Int} : ∀ n, (∀ i, i < n → f i = g i) → wsum f w n = wsum g w n := by
  intro n
  induction n with
  | zero => intro _; rfl
  | succ n ih => intro h; rw [wsum, wsum, ih (fun i hi => h i (by omega)), h n (by omega)]
theorem wsum_diff {f g w : Nat → Int} {k : Nat} : ∀ n, k < n → (∀ i, i < n → i ≠ k → f i = g i) → wsum f w n = wsum g w n + (f k - g k) * w k := by
  intro n
  induction n with
  | zero => intro h; omega
  | succ n ih =>
    intro hk h
    rw [wsum, wsum]
    by_cases e : k = n
    · subst e
      rw [wsum_congr k (fun i hi => h i (by omega) (by omega)), Int.sub_mul]
      omega
    · rw [ih (by omega) (fun i hi hne => h i (by omega) hne), h n (by omega) (fun e' => e e'.symm)]
      omega
theorem wsum_swap {f g w : Nat → Int} {k n : Nat} (hk : k + 1 < n) (h1 : g k = f (k + 1)) (h2 : g (k + 1) = f k) (h : ∀ i, i < n → i ≠ k → i ≠ k + 1 → f i = g i) :
    wsum f w n = wsum g w n + (f k - f (k + 1)) * (w k - w (k + 1)) := by
  have e1 := wsum_diff (f := f) (g := fun i => if i = k then g k else f i) (w := w) (k := k) n (by omega) (fun i _ hne => by simp [hne])
  have e2 := wsum_diff (f := fun i => if i = k then g k else f i) (g := g) (w := w) (k := k + 1) n hk (fun i hi hne => by
    by_cases e : i = k
    · simp [e]
    · simp only [e, if_false]; exact h i hi e hne)
  have c1 : ¬ k + 1 = k := by omega
  simp only [if_true, c1, if_false] at e1 e2
  rw [e1, e2, h1, h2, Int.mul_sub]
  have : (f (k + 1) - f k) * w (k + 1) = -((f k - f (k + 1)) * w (k + 1)) := by rw [← Int.neg_mul]; congr 1; omega
  omega
theorem wsum_bounds {f w : Nat → Int} {a b : Int} (ha : 0 ≤ a) (hb : 0 ≤ b) : ∀ n : Nat, (∀ i, i < n → 0 ≤ f i ∧ f i ≤ a) → (∀ i, i < n → 0 ≤ w i ∧ w i ≤ b) → 0 ≤ wsum f w n ∧ wsum f w n ≤ n * (a * b) := by
  intro n
  induction n with
  | zero => intro _ _; simp [wsum]
  | succ n ih =>
    intro h1 h2
    obtain ⟨g1, g2⟩ := ih (fun i hi => h1 i (by omega)) (fun i hi => h2 i (by omega))
    obtain ⟨f1, f2⟩ := h1 n (by omega)
    obtain ⟨w1, w2⟩ := h2 n (by omega)
    have p1 : 0 ≤ f n * w n := Int.mul_nonneg f1 w1
    have p2 : f n * w n ≤ a * b := Int.mul_le_mul f2 w2 w1 ha
    rw [wsum]
    refine ⟨by omega, ?_⟩
    have : ((n + 1 : Nat) : Int) * (a * b) = n * (a * b) + a * b := by rw [Int.natCast_add, Int.add_mul]; simp
    omega

/-- 11 is prime: a difference with a weight is no multiple of it. -/
theorem mod11 (x y : Nat) (w : Nat) (hx : x ≤ 10) (hy : y ≤ 10) (h1 : 1 ≤ w) (h2 : w ≤ 10) (h : (((x : Int) - y) * w) % 11 = 0) : x = y := by
  have key : ∀ x : Fin 11, ∀ y : Fin 11, ∀ w : Fin 11, (((x.1 : Int) - y.1) * w.1) % 11 = 0 → x = y ∨ w = 0 := by decide +kernel
  rcases key ⟨x, by omega⟩ ⟨y, by omega⟩ ⟨w, by omega⟩ h with e | e
  · exact congrArg Fin.val e
  · have := congrArg Fin.val e; simp at this; omega
theorem mod10 (x y : Nat) (w : Nat) (hx : x ≤ 9) (hy : y ≤ 9) (hw : w = 1 ∨ w = 3) (h : (((x : Int) - y) * w) % 10 = 0) : x = y := by
  rcases hw with rfl | rfl <;> omega

def dig (c : UInt8) : Bool := decide (48 ≤ c.toNat ∧ c.toNat ≤ 57)
def isX (c : UInt8) : Bool := decide (c = 88 ∨ c = 120)
def sep (c : UInt8) : Bool := decide (c = 45 ∨ c = 32)
def valN (c : UInt8) : Nat := if c = 88 then 10 else c.toNat - 48

/-- A string as far as a blank and a bracket. -/
def cut : List UInt8 → List UInt8
  | [] => []
  | [c] => [c]
  | c :: d :: r => if c = 32 ∧ d = 40 then [] else c :: cut (d :: r)

/-- One character of a string: the digits so far, or none. -/
def dstep (s out : List UInt8) (i : Nat) : Option (List UInt8) :=
  if dig (s.getD i 0) = true then some (out ++ [s.getD i 0])
  else if isX (s.getD i 0) = true ∧ i + 1 = s.length ∧ 0 < i then some (out ++ [88])
  else if sep (s.getD i 0) = true ∧ 0 < i ∧ i + 1 < s.length ∧ ¬ sep (s.getD (i - 1) 0) = true then some out
  else none
def drun (s : List UInt8) : Nat → Option (List UInt8)
  | 0 => some []
  | k + 1 => (drun s k).bind fun out => dstep s out k
/-- The digits of a string. -/
def digs (s : List UInt8) : List UInt8 := (drun (cut s) (cut s).length).getD []

theorem drun_none {s : List UInt8} {k m : Nat} (h : drun s k = none) (hk : k ≤ m) : drun s m = none := by
  induction m with
  | zero => obtain rfl : k = 0 := by omega
            exact h
  | succ m ih =>
    rcases Nat.lt_or_ge m k with h1 | h1
    · obtain rfl : k = m + 1 := by omega
      exact h
    · rw [drun, ih h1]; rfl
theorem drun_len {s : List UInt8} : ∀ k out, drun s k = some out → out.length ≤ k := by
  intro k
  induction k with
  | zero => intro out h; simp [drun] at h; simp [← h]
  | succ k ih =>
    intro out h
    rw [drun] at h
    obtain ⟨o, h1, h2⟩ := Option.bind_eq_some_iff.1 h
    have := ih o h1
    unfold dstep at h2
    split at h2
    · simp at h2; simp [← h2]; omega
    · split at h2
      · simp at h2; simp [← h2]; omega
      · split at h2
        · simp at h2; rw [← h2]; omega
        · simp at h2

theorem cut_len : ∀ s : List UInt8, (cut s).length ≤ s.length
  | [] => Nat.le_refl _
  | [c] => Nat.le_refl _
  | c :: d :: r => by
    unfold cut
    split
    · exact Nat.zero_le _
    · have := cut_len (d :: r); simp at this ⊢; omega
theorem digs_len (s : List UInt8) : (digs s).length ≤ s.length := by
  unfold digs
  have := cut_len s
  cases h : drun (cut s) (cut s).length with
  | none => simp
  | some out => have := drun_len _ _ h; simp; omega

/-- Plain digits, the last of which may be X. -/
def plainX (s : List UInt8) : Prop := 2 ≤ s.length ∧ ∀ i, i < s.length → dig (s.getD i 0) = true ∨ (s.getD i 0 = 88 ∧ i + 1 = s.length)
theorem cut_plain : ∀ s : List UInt8, (∀ c ∈ s, c ≠ 32) → cut s = s
  | [], _ => rfl
  | [c], _ => rfl
  | c :: d :: r, h => by
    unfold cut
    rw [if_neg (fun hh => h c (by simp) hh.1), cut_plain (d :: r) (fun x hx => h x (by simp [hx]))]
theorem memI {s : List UInt8} {c : UInt8} (h : c ∈ s) : ∃ i, i < s.length ∧ s.getD i 0 = c := by
  obtain ⟨j, hj, e⟩ := List.mem_iff_getElem.1 h
  refine ⟨j, hj, ?_⟩
  rw [List.getD_eq_getElem?_getD, List.getElem?_eq_getElem hj]
  exact e
theorem takeI (s : List UInt8) (k : Nat) (h : k < s.length) : s.take (k + 1) = s.take k ++ [s.getD k 0] := by
  rw [List.take_succ_eq_append_getElem h]
  simp [h]
theorem digs_plain {s : List UInt8} (h : plainX s) : digs s = s := by
  have hc : cut s = s := cut_plain s fun c hc e => by
    obtain ⟨i, hi, e2⟩ := memI hc
    rcases h.2 i hi with h1 | h1
    · rw [e2, e] at h1; exact absurd h1 (by decide)
    · rw [e2, e] at h1; exact absurd h1.1 (by decide)
  have key : ∀ k, k ≤ s.length → drun s k = some (s.take k) := by
    intro k
    induction k with
    | zero => intro _; simp [drun]
    | succ k ih =>
      intro hk
      rw [drun, ih (by omega), takeI s k (by omega)]
      show dstep s (s.take k) k = _
      unfold dstep
      rcases h.2 k (by omega) with h1 | h1
      · rw [if_pos h1]
      · have hd : ¬ dig (s.getD k 0) = true := by rw [h1.1]; decide
        have h2 := h.1
        rw [if_neg hd, if_pos ⟨by rw [h1.1]; decide, h1.2, by omega⟩, h1.1]
  unfold digs
  rw [hc, key _ (Nat.le_refl _), List.take_length]
  rfl
end Ident
