/- The distance of two lists, and alignments: laws on lists.
   Conditions: none. -/
import Derived.Test.YtgndlhfnenlhkaaAmTac
namespace Edit

def edRow (x : Int) (f : List Int → Nat) : List Int → Nat
  | [] => f [] + 1
  | y :: b => if x = y then f b else 1 + min (min (f b) (f (y :: b))) (edRow x f b)
/-- The number of single changes between two lists. -/
def ed : List Int → List Int → Nat
  | [] => fun b => b.length
  | x :: a => edRow x (ed a)

theorem ed_nil (b : List Int) : ed [] b = b.length := rfl
theorem ed_nil2 (a : List Int) : ed a [] = a.length := by
  induction a with
  | nil => rfl
  | cons x a ih => show ed a [] + 1 = _; rw [ih]; rfl
theorem ed_eq (x : Int) (a b : List Int) : ed (x :: a) (x :: b) = ed a b := by
  show edRow x (ed a) (x :: b) = _
  rw [edRow, if_pos rfl]
theorem ed_ne {x y : Int} (h : x ≠ y) (a b : List Int) : ed (x :: a) (y :: b) = 1 + min (min (ed a b) (ed a (y :: b))) (ed (x :: a) b) := by
  show edRow x (ed a) (y :: b) = _
  rw [edRow, if_neg h]
  rfl

theorem ed_lip : ∀ (k : Nat) (a b : List Int), a.length + b.length ≤ k →
    (∀ x, ed (x :: a) b ≤ ed a b + 1 ∧ ed a b ≤ ed (x :: a) b + 1) ∧ (∀ y, ed a (y :: b) ≤ ed a b + 1 ∧ ed a b ≤ ed a (y :: b) + 1) := by
  intro k
  induction k with
  | zero =>
    intro a b h
    have ha : a = [] := List.eq_nil_of_length_eq_zero (by omega)
    have hb : b = [] := List.eq_nil_of_length_eq_zero (by omega)
    subst ha; subst hb
    refine ⟨fun x => ?_, fun y => ?_⟩
    · rw [ed_nil2, ed_nil]; simp
    · rw [ed_nil, ed_nil]; simp
  | succ k ih =>
    intro a b h
    refine ⟨fun x => ?_, fun y => ?_⟩
    · cases b with
      | nil => rw [ed_nil2, ed_nil2]; simp only [List.length_cons]; omega
      | cons y b =>
        obtain ⟨g1, g2⟩ := ih a b (by simp at h; omega)
        have g1 := g1 x
        have g2 := g2 y
        by_cases hxy : x = y
        · subst hxy; rw [ed_eq]; omega
        · rw [ed_ne hxy]; omega
    · cases a with
      | nil => rw [ed_nil, ed_nil]; simp only [List.length_cons]; omega
      | cons x a =>
        obtain ⟨g1, g2⟩ := ih a b (by simp at h; omega)
        have g1 := g1 x
        have g2 := g2 y
        by_cases hxy : x = y
        · subst hxy; rw [ed_eq]; omega
        · rw [ed_ne hxy]; omega

theorem ed_del (x : Int) (a b : List Int) : ed (x :: a) b ≤ ed a b + 1 := ((ed_lip _ a b (Nat.le_refl _)).1 x).1
theorem ed_ins (y : Int) (a b : List Int) : ed a (y :: b) ≤ ed a b + 1 := ((ed_lip _ a b (Nat.le_refl _)).2 y).1

/-- An alignment of two lists, with its cost. -/
inductive Al : Nat → List Int → List Int → Prop
  | nil : Al 0 [] []
  | keep (x : Int) {n : Nat} {a b : List Int} : Al n a b → Al n (x :: a) (x :: b)
  | rep (x y : Int) {n : Nat} {a b : List Int} : Al n a b → Al (n + 1) (x :: a) (y :: b)
  | del (x : Int) {n : Nat} {a b : List Int} : Al n a b → Al (n + 1) (x :: a) b
  | ins (y : Int) {n : Nat} {a b : List Int} : Al n a b → Al (n + 1) a (y :: b)

theorem Al.le {n : Nat} {a b : List Int} (h : Al n a b) : ed a b ≤ n := by
  induction h with
  | nil => exact Nat.le_refl _
  | keep x _ ih => rw [ed_eq]; exact ih
  | @rep x y n a b _ ih =>
    by_cases hxy : x = y
    · subst hxy; rw [ed_eq]; omega
    · rw [ed_ne hxy]; omega
  | @del x n a b _ ih => have := ed_del x a b; omega
  | @ins y n a b _ ih => have := ed_ins y a b; omega

theorem al_ins : ∀ b : List Int, Al b.length [] b := by
  intro b
  induction b with
  | nil => exact .nil
  | cons y b ih => exact .ins y ih
theorem al_del : ∀ b : List Int, Al b.length b [] := by
  intro b
  induction b with
  | nil => exact .nil
  | cons y b ih => exact .del y ih

theorem ed_al : ∀ (k : Nat) (a b : List Int), a.length + b.length ≤ k → Al (ed a b) a b := by
  intro k
  induction k with
  | zero =>
    intro a b h
    have ha : a = [] := List.eq_nil_of_length_eq_zero (by omega)
    have hb : b = [] := List.eq_nil_of_length_eq_zero (by omega)
    subst ha; subst hb
    exact .nil
  | succ k ih =>
    intro a b h
    cases a with
    | nil => rw [ed_nil]; exact al_ins b
    | cons x a =>
      cases b with
      | nil => rw [ed_nil2]; exact al_del _
      | cons y b =>
        simp only [List.length_cons] at h
        by_cases hxy : x = y
        · subst hxy; rw [ed_eq]; exact .keep x (ih a b (by omega))
        · have e := ed_ne hxy a b
          rcases Nat.le_total (min (ed a b) (ed a (y :: b))) (ed (x :: a) b) with h1 | h1
          · rcases Nat.le_total (ed a b) (ed a (y :: b)) with h2 | h2
            · have e2 : ed (x :: a) (y :: b) = ed a b + 1 := by omega
              rw [e2]; exact .rep x y (ih a b (by omega))
            · have e2 : ed (x :: a) (y :: b) = ed a (y :: b) + 1 := by omega
              rw [e2]; exact .del x (ih a (y :: b) (by simp; omega))
          · have e2 : ed (x :: a) (y :: b) = ed (x :: a) b + 1 := by omega
            rw [e2]; exact .ins y (ih (x :: a) b (by simp; omega))

theorem edAl (a b : List Int) : Al (ed a b) a b := ed_al _ a b (Nat.le_refl _)

theorem Al.symm {n : Nat} {a b : List Int} (h : Al n a b) : Al n b a := by
  induction h with
  | nil => exact .nil
  | keep x _ ih => exact .keep x ih
  | rep x y _ ih => exact .rep y x ih
  | del x _ ih => exact .ins x ih
  | ins y _ ih => exact .del y ih

theorem ed_symm (a b : List Int) : ed a b = ed b a := Nat.le_antisymm (edAl b a).symm.le (edAl a b).symm.le

theorem Al.app {n m : Nat} {a b c d : List Int} (h : Al n a b) (k : Al m c d) : Al (n + m) (a ++ c) (b ++ d) := by
  induction h with
  | nil => simpa using k
  | keep x _ ih => exact .keep x ih
  | rep x y _ ih => rw [Nat.add_right_comm]; exact .rep x y ih
  | del x _ ih => rw [Nat.add_right_comm]; exact .del x ih
  | ins y _ ih => rw [Nat.add_right_comm]; exact .ins y ih

theorem Al.rev {n : Nat} {a b : List Int} (h : Al n a b) : Al n a.reverse b.reverse := by
  induction h with
  | nil => exact .nil
  | keep x _ ih => simpa using ih.app (.keep x .nil)
  | rep x y _ ih => simpa using ih.app (.rep x y .nil)
  | del x _ ih => simpa using ih.app (.del x .nil)
  | ins y _ ih => simpa using ih.app (.ins y .nil)

theorem ed_rev (a b : List Int) : ed a.reverse b.reverse = ed a b := by
  refine Nat.le_antisymm (edAl a b).rev.le ?_
  have := (edAl a.reverse b.reverse).rev.le
  simpa using this

theorem ed_snoc_eq (x : Int) (a b : List Int) : ed (a ++ [x]) (b ++ [x]) = ed a b := by
  rw [← ed_rev, ← ed_rev a b]; simp [ed_eq]
theorem ed_snoc_ne {x y : Int} (h : x ≠ y) (a b : List Int) : ed (a ++ [x]) (b ++ [y]) = 1 + min (min (ed a b) (ed a (b ++ [y]))) (ed (a ++ [x]) b) := by
  rw [← ed_rev, ← ed_rev a b, ← ed_rev a (b ++ [y]), ← ed_rev (a ++ [x]) b]; simp [ed_ne h]

theorem Al.trans : ∀ (k n m : Nat) (a b c : List Int), a.length + b.length + c.length ≤ k → Al n a b → Al m b c → ∃ p, p ≤ n + m ∧ Al p a c := by
  intro k
  induction k with
  | zero =>
    intro n m a b c h h1 h2
    have ha : a = [] := List.eq_nil_of_length_eq_zero (by omega)
    have hb : c = [] := List.eq_nil_of_length_eq_zero (by omega)
    subst ha; subst hb
    exact ⟨0, Nat.zero_le _, .nil⟩
  | succ k ih =>
    intro n m a b c h h1 h2
    cases h2 with
    | nil =>
      exact ⟨n, by omega, h1⟩
    | @ins z m b c h2 =>
      obtain ⟨p, hp, hal⟩ := ih n m a b c (by simp at h; omega) h1 h2
      exact ⟨p + 1, by omega, .ins z hal⟩
    | @keep y m b c h2 =>
      cases h1 with
      | keep _ h1 =>
        obtain ⟨p, hp, hal⟩ := ih _ _ _ _ _ (by simp at h; omega) h1 h2
        exact ⟨p, hp, .keep y hal⟩
      | @rep x _ n a _ h1 =>
        obtain ⟨p, hp, hal⟩ := ih _ _ _ _ _ (by simp at h; omega) h1 h2
        exact ⟨p + 1, by omega, .rep x y hal⟩
      | @del x n a _ h1 =>
        obtain ⟨p, hp, hal⟩ := ih _ _ _ _ _ (by simp at h ⊢; omega) h1 (.keep y h2)
        exact ⟨p + 1, by omega, .del x hal⟩
      | ins _ h1 =>
        obtain ⟨p, hp, hal⟩ := ih _ _ _ _ _ (by simp at h; omega) h1 h2
        exact ⟨p + 1, by omega, .ins y hal⟩
    | @rep y z m b c h2 =>
      cases h1 with
      | keep _ h1 =>
        obtain ⟨p, hp, hal⟩ := ih _ _ _ _ _ (by simp at h; omega) h1 h2
        exact ⟨p + 1, by omega, .rep y z hal⟩
      | @rep x _ n a _ h1 =>
        obtain ⟨p, hp, hal⟩ := ih _ _ _ _ _ (by simp at h; omega) h1 h2
        exact ⟨p + 1, by omega, .rep x z hal⟩
      | @del x n a _ h1 =>
        obtain ⟨p, hp, hal⟩ := ih _ _ _ _ _ (by simp at h ⊢; omega) h1 (.rep y z h2)
        exact ⟨p + 1, by omega, .del x hal⟩
      | ins _ h1 =>
        obtain ⟨p, hp, hal⟩ := ih _ _ _ _ _ (by simp at h; omega) h1 h2
        exact ⟨p + 1, by omega, .ins z hal⟩
    | @del y m b c h2 =>
      cases h1 with
      | keep _ h1 =>
        obtain ⟨p, hp, hal⟩ := ih _ _ _ _ _ (by simp at h; omega) h1 h2
        exact ⟨p + 1, by omega, .del y hal⟩
      | @rep x _ n a _ h1 =>
        obtain ⟨p, hp, hal⟩ := ih _ _ _ _ _ (by simp at h; omega) h1 h2
        exact ⟨p + 1, by omega, .del x hal⟩
      | @del x n a _ h1 =>
        obtain ⟨p, hp, hal⟩ := ih _ _ _ _ _ (by simp at h ⊢; omega) h1 (.del y h2)
        exact ⟨p + 1, by omega, .del x hal⟩
      | ins _ h1 =>
        obtain ⟨p, hp, hal⟩ := ih _ _ _ _ _ (by simp at h; omega) h1 h2
        exact ⟨p, by omega, hal⟩

theorem ed_tri (a b c : List Int) : ed a c ≤ ed a b + ed b c := by
  obtain ⟨p, hp, h⟩ := Al.trans _ _ _ a b c (Nat.le_refl _) (edAl a b) (edAl b c)
  have := h.le
  omega

theorem ed_self (a : List Int) : ed a a = 0 := by
  induction a with
  | nil => rfl
  | cons x a ih => rw [ed_eq]; exact ih

theorem Al.zero {n : Nat} {a b : List Int} (h : Al n a b) (h0 : n = 0) : a = b := by
  induction h with
  | nil => rfl
  | keep x _ ih => rw [ih h0]
  | rep => omega
  | del => omega
  | ins => omega

theorem ed_zero (a b : List Int) : ed a b = 0 ↔ a = b := ⟨fun h => (edAl a b).zero h, fun h => by rw [h]; exact ed_self b⟩

theorem Al.len {n : Nat} {a b : List Int} (h : Al n a b) : a.length ≤ b.length + n ∧ b.length ≤ a.length + n := by
  induction h with
  | nil => simp
  | keep x _ ih => simp only [List.length_cons]; omega
  | rep x y _ ih => simp only [List.length_cons]; omega
  | del x _ ih => simp only [List.length_cons]; omega
  | ins y _ ih => simp only [List.length_cons]; omega

theorem ed_len (a b : List Int) : a.length ≤ b.length + ed a b ∧ b.length ≤ a.length + ed a b := (edAl a b).len

theorem ed_max : ∀ (a b : List Int), ed a b ≤ max a.length b.length := by
  intro a
  induction a with
  | nil => intro b; rw [ed_nil]; simp
  | cons x a ih =>
    intro b
    cases b with
    | nil => rw [ed_nil2]; simp
    | cons y b =>
      have := ih b
      simp only [List.length_cons]
      by_cases hxy : x = y
      · subst hxy; rw [ed_eq]; omega
      · rw [ed_ne hxy]; omega

theorem ed_pre (c a b : List Int) : ed (c ++ a) (c ++ b) = ed a b := by
  induction c with
  | nil => rfl
  | cons x c ih => rw [List.cons_append, List.cons_append, ed_eq, ih]
theorem ed_suf (a b c : List Int) : ed (a ++ c) (b ++ c) = ed a b := by
  rw [← ed_rev, List.reverse_append, List.reverse_append, ed_pre, ed_rev]
theorem ed_app (a b c d : List Int) : ed (a ++ c) (b ++ d) ≤ ed a b + ed c d := ((edAl a b).app (edAl c d)).le

end Edit
