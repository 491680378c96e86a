/- Scripts between two lists, and common subsequences: laws on lists.
   Conditions: none. -/
import Derived.Test.YtgndlhfnenlhkaaEPl
namespace Edit

/-- The script that the table gives. -/
def scN : Nat → List Int → List Int → List (Int × Int)
  | 0, _, _ => []
  | n + 1, x :: a, y :: b =>
    if x = y then (1, 0) :: scN n a b
    else if ed (x :: a) (y :: b) = 1 + ed a b then (2, y) :: scN n a b
    else if ed (x :: a) (y :: b) = 1 + ed a (y :: b) then (3, 0) :: scN n a (y :: b)
    else (4, y) :: scN n (x :: a) b
  | n + 1, _ :: a, [] => (3, 0) :: scN n a []
  | n + 1, [], y :: b => (4, y) :: scN n [] b
  | _ + 1, [], [] => []
def sc (a b : List Int) : List (Int × Int) := scN (a.length + b.length) a b

/-- The greatest number of characters that two lists have in common, in their order. -/
def lcRow (x : Int) (f : List Int → Nat) : List Int → Nat
  | [] => 0
  | y :: b => if x = y then 1 + f b else max (f (y :: b)) (lcRow x f b)
def lc : List Int → List Int → Nat
  | [] => fun _ => 0
  | x :: a => lcRow x (lc a)

theorem lc_nil (b : List Int) : lc [] b = 0 := rfl
theorem lc_nil2 (a : List Int) : lc a [] = 0 := by cases a <;> rfl
theorem lc_eq (x : Int) (a b : List Int) : lc (x :: a) (x :: b) = 1 + lc a b := by
  show lcRow x (lc a) (x :: b) = _
  rw [lcRow, if_pos rfl]
theorem lc_ne {x y : Int} (h : x ≠ y) (a b : List Int) : lc (x :: a) (y :: b) = max (lc a (y :: b)) (lc (x :: a) b) := by
  show lcRow x (lc a) (y :: b) = _
  rw [lcRow, if_neg h]
  rfl

theorem lc_lip : ∀ (k : Nat) (a b : List Int), a.length + b.length ≤ k →
    (∀ x, lc a b ≤ lc (x :: a) b ∧ lc (x :: a) b ≤ lc a b + 1) ∧ (∀ y, lc a b ≤ lc a (y :: b) ∧ lc a (y :: b) ≤ lc a b + 1) := by
  intro k
  induction k with
  | zero =>
    intro a b h
    have ha : a = [] := List.eq_nil_of_length_eq_zero (by omega)
    have hb : b = [] := List.eq_nil_of_length_eq_zero (by omega)
    subst ha; subst hb
    refine ⟨fun x => ?_, fun y => ?_⟩
    · rw [lc_nil2, lc_nil2]; omega
    · rw [lc_nil, lc_nil]; omega
  | succ k ih =>
    intro a b h
    refine ⟨fun x => ?_, fun y => ?_⟩
    · cases b with
      | nil => rw [lc_nil2, lc_nil2]; omega
      | cons y b =>
        obtain ⟨g1, g2⟩ := ih a b (by simp at h; omega)
        have g1 := g1 x
        have g2 := g2 y
        by_cases hxy : x = y
        · subst hxy; rw [lc_eq]; omega
        · rw [lc_ne hxy]; omega
    · cases a with
      | nil => rw [lc_nil, lc_nil]; omega
      | cons x a =>
        obtain ⟨g1, g2⟩ := ih a b (by simp at h; omega)
        have g1 := g1 x
        have g2 := g2 y
        by_cases hxy : x = y
        · subst hxy; rw [lc_eq]; omega
        · rw [lc_ne hxy]; omega

theorem lc_del (x : Int) (a b : List Int) : lc a b ≤ lc (x :: a) b ∧ lc (x :: a) b ≤ lc a b + 1 := (lc_lip _ a b (Nat.le_refl _)).1 x
theorem lc_ins (y : Int) (a b : List Int) : lc a b ≤ lc a (y :: b) ∧ lc a (y :: b) ≤ lc a b + 1 := (lc_lip _ a b (Nat.le_refl _)).2 y

theorem lc_le : ∀ (a b : List Int), lc a b ≤ a.length ∧ lc a b ≤ b.length := by
  intro a
  induction a with
  | nil => intro b; rw [lc_nil]; omega
  | cons x a ih =>
    intro b
    induction b with
    | nil => rw [lc_nil2]; omega
    | cons y b ihb =>
      have h1 := ih b
      have h2 := ih (y :: b)
      simp only [List.length_cons] at h2 ihb ⊢
      by_cases hxy : x = y
      · subst hxy; rw [lc_eq]; omega
      · rw [lc_ne hxy]; omega

/-- The common subsequence that the table gives. -/
def ssN : Nat → List Int → List Int → List Int
  | 0, _, _ => []
  | n + 1, x :: a, y :: b =>
    if x = y then x :: ssN n a b
    else if lc a (y :: b) ≥ lc (x :: a) b then ssN n a (y :: b)
    else ssN n (x :: a) b
  | _ + 1, _, _ => []
def ss (a b : List Int) : List Int := ssN (a.length + b.length) a b

theorem ssN_nil (n : Nat) (a : List Int) : ssN n a [] = [] := by
  cases n <;> cases a <;> rfl
theorem ssN_nil1 (n : Nat) (b : List Int) : ssN n [] b = [] := by
  cases n <;> cases b <;> rfl

theorem ssN_sub : ∀ (n : Nat) (a b : List Int), (ssN n a b).Sublist a ∧ (ssN n a b).Sublist b := by
  intro n
  induction n with
  | zero => intro a b; exact ⟨List.nil_sublist _, List.nil_sublist _⟩
  | succ n ih =>
    intro a b
    cases a with
    | nil => rw [ssN_nil1]; exact ⟨List.nil_sublist _, List.nil_sublist _⟩
    | cons x a =>
      cases b with
      | nil => rw [ssN_nil]; exact ⟨List.nil_sublist _, List.nil_sublist _⟩
      | cons y b =>
        rw [ssN]
        split
        · rename_i h
          subst h
          exact ⟨(ih a b).1.cons_cons x, (ih a b).2.cons_cons x⟩
        · split
          · exact ⟨(ih a (y :: b)).1.cons x, (ih a (y :: b)).2⟩
          · exact ⟨(ih (x :: a) b).1, (ih (x :: a) b).2.cons y⟩

theorem ssN_len : ∀ (n : Nat) (a b : List Int), a.length + b.length ≤ n → (ssN n a b).length = lc a b := by
  intro n
  induction n with
  | zero =>
    intro a b h
    have ha : a = [] := List.eq_nil_of_length_eq_zero (by omega)
    subst ha
    rfl
  | succ n ih =>
    intro a b h
    cases a with
    | nil => rw [ssN_nil1, lc_nil]; rfl
    | cons x a =>
      cases b with
      | nil => rw [ssN_nil, lc_nil2]; rfl
      | cons y b =>
        simp only [List.length_cons] at h
        rw [ssN]
        split
        · rename_i hxy
          subst hxy
          rw [lc_eq, List.length_cons, ih a b (by omega)]; omega
        · rename_i hxy
          rw [lc_ne hxy]
          split
          · rw [ih a (y :: b) (by simp; omega)]; omega
          · rw [ih (x :: a) b (by simp; omega)]; omega

theorem lc_sub : ∀ (a b l : List Int), l.Sublist a → l.Sublist b → l.length ≤ lc a b := by
  intro a
  induction a with
  | nil => intro b l h _; rw [List.sublist_nil.1 h]; exact Nat.zero_le _
  | cons x a ih =>
    intro b
    induction b with
    | nil => intro l _ h; rw [List.sublist_nil.1 h]; exact Nat.zero_le _
    | cons y b ihb =>
      intro l h1 h2
      cases h1 with
      | cons _ h1 => exact Nat.le_trans (ih (y :: b) l h1 h2) (lc_del x a (y :: b)).1
      | @cons_cons l' _ _ h1 =>
        cases h2 with
        | cons _ h2 => exact Nat.le_trans (ihb (x :: l') (h1.cons_cons x) h2) (lc_ins y (x :: a) b).1
        | cons_cons _ h2 =>
          rw [lc_eq, List.length_cons]
          have := ih b l' h1 h2
          omega

theorem Al.lc {n : Nat} {a b : List Int} (h : Al n a b) : a.length ≤ lc a b + n ∧ b.length ≤ lc a b + n := by
  induction h with
  | nil => simp
  | keep x _ ih => rw [lc_eq]; simp only [List.length_cons]; omega
  | @rep x y n a b _ ih =>
    have h1 := lc_del x a (y :: b)
    have h2 := lc_ins y a b
    simp only [List.length_cons]; omega
  | @del x n a b _ ih => have h1 := lc_del x a b; simp only [List.length_cons]; omega
  | @ins y n a b _ ih => have h1 := lc_ins y a b; simp only [List.length_cons]; omega

theorem al_sub : ∀ (a b l : List Int), l.Sublist a → l.Sublist b → Al (a.length + b.length - 2 * l.length) a b := by
  intro a
  induction a with
  | nil => intro b l h _; rw [List.sublist_nil.1 h]; simpa using al_ins b
  | cons x a ih =>
    intro b
    induction b with
    | nil => intro l _ h; rw [List.sublist_nil.1 h]; simpa using al_del (x :: a)
    | cons y b ihb =>
      intro l h1 h2
      cases h1 with
      | cons _ h1 =>
        have := ih (y :: b) l h1 h2
        have e1 := h1.length_le
        have e2 := h2.length_le
        have e : (x :: a).length + (y :: b).length - 2 * l.length = (a.length + (y :: b).length - 2 * l.length) + 1 := by simp only [List.length_cons] at *; omega
        rw [e]
        exact .del x this
      | @cons_cons l' _ _ h1 =>
        cases h2 with
        | cons _ h2 =>
          have := ihb (x :: l') (h1.cons_cons x) h2
          have e1 := h1.length_le
          have e2 := h2.length_le
          have e : (x :: a).length + (y :: b).length - 2 * (x :: l').length = ((x :: a).length + b.length - 2 * (x :: l').length) + 1 := by simp only [List.length_cons] at *; omega
          rw [e]
          exact .ins y this
        | cons_cons _ h2 =>
          have := ih b l' h1 h2
          have e : (x :: a).length + (x :: b).length - 2 * (x :: l').length = a.length + b.length - 2 * l'.length := by simp only [List.length_cons]; omega
          rw [e]
          exact .keep x this

/-- What a script makes of a list; nothing where it doesn't fit. -/
def apply : List Int → List (Int × Int) → Option (List Int)
  | [], [] => some []
  | _ :: _, [] => none
  | a, (k, c) :: l =>
    if k = 4 then (apply a l).map (c :: ·)
    else match a with
      | [] => none
      | x :: a => if k = 1 then (apply a l).map (x :: ·) else if k = 2 then (apply a l).map (c :: ·) else apply a l
def cost (l : List (Int × Int)) : Nat := (l.filter fun p => p.1 != 1).length

theorem cost_cons (p : Int × Int) (l : List (Int × Int)) : cost (p :: l) = (if p.1 = 1 then 0 else 1) + cost l := by
  unfold cost
  rw [List.filter_cons]
  by_cases h : p.1 = 1
  · simp [h]
  · simp [h]; omega

theorem apply_ins (a : List Int) (c : Int) (l : List (Int × Int)) : apply a ((4, c) :: l) = (apply a l).map (c :: ·) := by
  cases a <;> simp [apply]

theorem apply_al : ∀ (l : List (Int × Int)) (a y : List Int), (∀ p ∈ l, p.1 = 1 ∨ p.1 = 2 ∨ p.1 = 3 ∨ p.1 = 4) → apply a l = some y → Al (cost l) a y := by
  intro l
  induction l with
  | nil =>
    intro a y _ h
    cases a with
    | nil => simp [apply] at h; subst h; exact .nil
    | cons x a => simp [apply] at h
  | cons p l ih =>
    intro a y hk h
    obtain ⟨k, c⟩ := p
    have hk0 := hk (k, c) (by simp)
    have hk' := fun q (hq : q ∈ l) => hk q (by simp [hq])
    rw [cost_cons]
    by_cases h4 : k = 4
    · subst h4
      rw [apply_ins] at h
      obtain ⟨y', h1, rfl⟩ := Option.map_eq_some_iff.1 h
      have := Al.ins c (ih a y' hk' h1)
      rwa [Nat.add_comm] at this
    · cases a with
      | nil => simp [apply, h4] at h
      | cons x a =>
        simp only [apply, if_neg h4] at h
        by_cases h1 : k = 1
        · rw [if_pos h1] at h
          obtain ⟨y', h2, rfl⟩ := Option.map_eq_some_iff.1 h
          simp only [h1, if_true, Nat.zero_add]
          exact .keep x (ih a y' hk' h2)
        · rw [if_neg h1] at h
          simp only [h1, if_false]
          rw [Nat.add_comm]
          by_cases h3 : k = 2
          · rw [if_pos h3] at h
            obtain ⟨y', h2, rfl⟩ := Option.map_eq_some_iff.1 h
            exact .rep x c (ih a y' hk' h2)
          · rw [if_neg h3] at h
            exact .del x (ih a y hk' h)

theorem scN_apply : ∀ (n : Nat) (a b : List Int), a.length + b.length ≤ n → apply a (scN n a b) = some b ∧ cost (scN n a b) = ed a b ∧ (scN n a b).length ≤ n ∧ ∀ p ∈ scN n a b, (p.1 = 1 ∨ p.1 = 2 ∨ p.1 = 3 ∨ p.1 = 4) ∧ ((p.1 = 1 ∨ p.1 = 3) → p.2 = 0) := by
  intro n
  induction n with
  | zero =>
    intro a b h
    have ha : a = [] := List.eq_nil_of_length_eq_zero (by omega)
    have hb : b = [] := List.eq_nil_of_length_eq_zero (by omega)
    subst ha; subst hb
    exact ⟨rfl, rfl, Nat.le_refl _, fun p hp => by simp [scN] at hp⟩
  | succ n ih =>
    intro a b h
    have step : ∀ (p : Int × Int) (l : List (Int × Int)) (Q : Int × Int → Prop), Q p → (∀ q ∈ l, Q q) → ∀ q ∈ p :: l, Q q := by
      intro p l Q h1 h2 q hq
      rcases List.mem_cons.1 hq with rfl | hq
      · exact h1
      · exact h2 q hq
    cases a with
    | nil =>
      cases b with
      | nil => exact ⟨rfl, rfl, Nat.zero_le _, fun p hp => by simp [scN] at hp⟩
      | cons y b =>
        simp only [List.length_cons] at h
        obtain ⟨h1, h2, h3, h4⟩ := ih [] b (by omega)
        refine ⟨by rw [scN, apply_ins, h1]; rfl, by rw [scN, cost_cons, h2, ed_nil, ed_nil]; simp; omega, by rw [scN, List.length_cons]; omega, ?_⟩
        rw [scN]
        exact step _ _ _ (by simp) h4
    | cons x a =>
      cases b with
      | nil =>
        simp only [List.length_cons] at h
        obtain ⟨h1, h2, h3, h4⟩ := ih a [] (by omega)
        refine ⟨by rw [scN]; simpa [apply] using h1, by rw [scN, cost_cons, h2, ed_nil2, ed_nil2]; simp; omega, by rw [scN, List.length_cons]; omega, ?_⟩
        rw [scN]
        exact step _ _ _ (by simp) h4
      | cons y b =>
        simp only [List.length_cons] at h
        rw [scN]
        split
        · rename_i hxy
          subst hxy
          obtain ⟨h1, h2, h3, h4⟩ := ih a b (by omega)
          exact ⟨by simp [apply, h1], by rw [cost_cons, h2, ed_eq]; simp, by rw [List.length_cons]; omega, step _ _ _ (by simp) h4⟩
        · rename_i hxy
          split
          · rename_i e1
            obtain ⟨h1, h2, h3, h4⟩ := ih a b (by omega)
            exact ⟨by simp [apply, h1], by rw [cost_cons, h2, e1]; simp, by rw [List.length_cons]; omega, step _ _ _ (by simp) h4⟩
          · rename_i e1
            split
            · rename_i e2
              obtain ⟨h1, h2, h3, h4⟩ := ih a (y :: b) (by simp; omega)
              exact ⟨by simp [apply, h1], by rw [cost_cons, h2, e2]; simp, by rw [List.length_cons]; omega, step _ _ _ (by simp) h4⟩
            · rename_i e2
              obtain ⟨h1, h2, h3, h4⟩ := ih (x :: a) b (by simp; omega)
              have := ed_ne hxy a b
              refine ⟨by rw [apply_ins, h1]; rfl, ?_, by rw [List.length_cons]; omega, step _ _ _ (by simp) h4⟩
              rw [cost_cons, h2]
              simp
              omega

end Edit
