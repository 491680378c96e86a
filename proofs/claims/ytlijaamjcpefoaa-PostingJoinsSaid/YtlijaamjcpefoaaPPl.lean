/- The merging of two ascending lists: laws on lists.
   Conditions: none. -/
import Derived.Test.YtlijaamjcpefoaaAmTac
namespace Post

/-- The merging of two lists: what is done with an element of the first alone, of the second alone, of both. -/
def mgN {β : Type} (fA fB fAB : β → Int → β) : Nat → List Int → List Int → β → β
  | 0, _, _, o => o
  | n + 1, x :: a, y :: b, o => if x < y then mgN fA fB fAB n a (y :: b) (fA o x) else if y < x then mgN fA fB fAB n (x :: a) b (fB o y) else mgN fA fB fAB n a b (fAB o x)
  | n + 1, x :: a, [], o => mgN fA fB fAB n a [] (fA o x)
  | n + 1, [], y :: b, o => mgN fA fB fAB n [] b (fB o y)
  | _ + 1, [], [], o => o

def Asc (l : List Int) : Prop := l.Pairwise (· < ·)

theorem asc_tail {x : Int} {l : List Int} (h : Asc (x :: l)) : Asc l ∧ ∀ y ∈ l, x < y := ⟨(List.pairwise_cons.1 h).2, (List.pairwise_cons.1 h).1⟩

def snoc (o : List Int) (x : Int) : List Int := o ++ [x]
def drop_ (o : List Int) (_ : Int) : List Int := o

/-- Merging keeps what a test on membership keeps. -/
theorem mg_keep (kA kB kAB : Bool) : ∀ (n : Nat) (a b o : List Int), a.length + b.length ≤ n → Asc a → Asc b →
    mgN (fun o x => if kA then o ++ [x] else o) (fun o x => if kB then o ++ [x] else o) (fun o x => if kAB then o ++ [x] else o) n a b o =
      o ++ mgN (fun o x => if kA then o ++ [x] else o) (fun o x => if kB then o ++ [x] else o) (fun o x => if kAB then o ++ [x] else o) n a b [] ∧
    (∀ z, z ∈ mgN (fun o x => if kA then o ++ [x] else o) (fun o x => if kB then o ++ [x] else o) (fun o x => if kAB then o ++ [x] else o) n a b [] ↔
      (z ∈ a ∧ z ∉ b ∧ kA = true) ∨ (z ∈ b ∧ z ∉ a ∧ kB = true) ∨ (z ∈ a ∧ z ∈ b ∧ kAB = true)) ∧
    Asc (mgN (fun o x => if kA then o ++ [x] else o) (fun o x => if kB then o ++ [x] else o) (fun o x => if kAB then o ++ [x] else o) n a b []) := by
  intro n
  induction n with
  | zero =>
    intro a b o h _ _
    have ha : a = [] := List.eq_nil_of_length_eq_zero (by omega)
    have hb : b = [] := List.eq_nil_of_length_eq_zero (by omega)
    subst ha; subst hb
    exact ⟨by simp [mgN], by simp [mgN], List.Pairwise.nil⟩
  | succ n ih =>
    intro a b o h ha hb
    -- one element ahead of a rest all of whose elements are greater
    have put : ∀ (k : Bool) (x : Int) (a' b' o : List Int), a'.length + b'.length ≤ n → Asc a' → Asc b' → (∀ z, z ∈ a' → x < z) → (∀ z, z ∈ b' → x < z) →
        mgN (fun o x => if kA then o ++ [x] else o) (fun o x => if kB then o ++ [x] else o) (fun o x => if kAB then o ++ [x] else o) n a' b' (if k then o ++ [x] else o) =
          o ++ mgN (fun o x => if kA then o ++ [x] else o) (fun o x => if kB then o ++ [x] else o) (fun o x => if kAB then o ++ [x] else o) n a' b' (if k then ([] : List Int) ++ [x] else []) ∧
        (∀ z, z ∈ mgN (fun o x => if kA then o ++ [x] else o) (fun o x => if kB then o ++ [x] else o) (fun o x => if kAB then o ++ [x] else o) n a' b' (if k then ([] : List Int) ++ [x] else []) ↔
          (z = x ∧ k = true) ∨ (z ∈ a' ∧ z ∉ b' ∧ kA = true) ∨ (z ∈ b' ∧ z ∉ a' ∧ kB = true) ∨ (z ∈ a' ∧ z ∈ b' ∧ kAB = true)) ∧
        Asc (mgN (fun o x => if kA then o ++ [x] else o) (fun o x => if kB then o ++ [x] else o) (fun o x => if kAB then o ++ [x] else o) n a' b' (if k then ([] : List Int) ++ [x] else [])) := by
      intro k x a' b' o h' ha' hb' hxa hxb
      obtain ⟨i1, i2, i3⟩ := ih a' b' [] h' ha' hb'
      have j1 := fun o => (ih a' b' o h' ha' hb').1
      rw [j1 (if k then o ++ [x] else o), j1 (if k then ([] : List Int) ++ [x] else [])]
      generalize mgN (fun o x => if kA then o ++ [x] else o) (fun o x => if kB then o ++ [x] else o) (fun o x => if kAB then o ++ [x] else o) n a' b' [] = m at *
      refine ⟨?_, fun z => ?_, ?_⟩
      · cases k <;> simp
      · rw [List.mem_append, i2]
        cases k <;> simp
      · cases k
        · simpa using i3
        · simp only [if_true, List.nil_append, List.cons_append]
          refine List.pairwise_cons.2 ⟨fun z hz => ?_, i3⟩
          rcases (i2 z).1 hz with ⟨h1, _⟩ | ⟨h1, _⟩ | ⟨h1, _⟩
          · exact hxa z h1
          · exact hxb z h1
          · exact hxa z h1
    cases a with
    | nil =>
      cases b with
      | nil => exact ⟨by simp [mgN], by simp [mgN], List.Pairwise.nil⟩
      | cons y b =>
        obtain ⟨h1, h2⟩ := asc_tail hb
        obtain ⟨p1, p2, p3⟩ := put kB y [] b o (by simp at h ⊢; omega) List.Pairwise.nil h1 (fun z hz => by simp at hz) h2
        refine ⟨p1, fun z => ?_, p3⟩
        rw [mgN, p2]
        simp
        by_cases e : z = y <;> simp [e]
    | cons x a =>
      obtain ⟨h1, h2⟩ := asc_tail ha
      cases b with
      | nil =>
        obtain ⟨p1, p2, p3⟩ := put kA x a [] o (by simp at h ⊢; omega) h1 List.Pairwise.nil h2 (fun z hz => by simp at hz)
        refine ⟨p1, fun z => ?_, p3⟩
        rw [mgN, p2]
        simp
        by_cases e : z = x <;> simp [e]
      | cons y b =>
        obtain ⟨h3, h4⟩ := asc_tail hb
        simp only [List.length_cons] at h
        by_cases c1 : x < y
        · have hyb : ∀ z, z ∈ y :: b → x < z := fun z hz => by
            rcases List.mem_cons.1 hz with rfl | hz
            · exact c1
            · have := h4 z hz; omega
          obtain ⟨p1, p2, p3⟩ := put kA x a (y :: b) o (by simp; omega) h1 hb h2 hyb
          rw [mgN, if_pos c1, mgN, if_pos c1]
          refine ⟨p1, fun z => ?_, p3⟩
          rw [p2]
          by_cases e : z = x
          · subst e
            have n1 : z ∉ a := fun hz => by have := h2 z hz; omega
            have n2 : z ∉ y :: b := fun hz => by have := hyb z hz; omega
            simp [n1, n2]
          · simp [e]
        · by_cases c2 : y < x
          · have hxa : ∀ z, z ∈ x :: a → y < z := fun z hz => by
              rcases List.mem_cons.1 hz with rfl | hz
              · exact c2
              · have := h2 z hz; omega
            obtain ⟨p1, p2, p3⟩ := put kB y (x :: a) b o (by simp; omega) ha h3 hxa h4
            rw [mgN, if_neg c1, if_pos c2, mgN, if_neg c1, if_pos c2]
            refine ⟨p1, fun z => ?_, p3⟩
            rw [p2]
            by_cases e : z = y
            · subst e
              have n1 : z ∉ b := fun hz => by have := h4 z hz; omega
              have n2 : z ∉ x :: a := fun hz => by have := hxa z hz; omega
              simp [n1, n2]
            · simp [e]
          · have e0 : x = y := by omega
            subst e0
            obtain ⟨p1, p2, p3⟩ := put kAB x a b o (by omega) h1 h3 h2 h4
            rw [mgN, if_neg c1, if_neg c2, mgN, if_neg c1, if_neg c2]
            refine ⟨p1, fun z => ?_, p3⟩
            rw [p2]
            by_cases e : z = x
            · subst e
              have n1 : z ∉ a := fun hz => by have := h2 z hz; omega
              have n2 : z ∉ b := fun hz => by have := h4 z hz; omega
              simp [n1, n2]
            · simp [e]

/-- Ascending lists with the same elements are equal. -/
theorem asc_ext : ∀ (a b : List Int), Asc a → Asc b → (∀ z, z ∈ a ↔ z ∈ b) → a = b := by
  intro a
  induction a with
  | nil =>
    intro b _ _ h
    cases b with
    | nil => rfl
    | cons y b => have := (h y).2 (by simp); simp at this
  | cons x a ih =>
    intro b ha hb h
    cases b with
    | nil => have := (h x).1 (by simp); simp at this
    | cons y b =>
      obtain ⟨h1, h2⟩ := asc_tail ha
      obtain ⟨h3, h4⟩ := asc_tail hb
      have e : x = y := by
        have g1 := (h x).1 (by simp)
        have g2 := (h y).2 (by simp)
        rcases List.mem_cons.1 g1 with g1 | g1
        · exact g1
        · rcases List.mem_cons.1 g2 with g2 | g2
          · exact g2.symm
          · have := h4 x g1
            have := h2 y g2
            omega
      subst e
      congr 1
      refine ih b h1 h3 (fun z => ?_)
      have := h z
      constructor
      · intro hz
        have hne : z ≠ x := by have := h2 z hz; omega
        rcases List.mem_cons.1 (this.1 (by simp [hz])) with e | e
        · exact absurd e hne
        · exact e
      · intro hz
        have hne : z ≠ x := by have := h4 z hz; omega
        rcases List.mem_cons.1 (this.2 (by simp [hz])) with e | e
        · exact absurd e hne
        · exact e
end Post
