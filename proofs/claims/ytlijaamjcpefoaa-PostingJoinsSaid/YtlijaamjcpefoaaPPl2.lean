/- Posting lists: what is kept of them by a test on positions; laws on lists.
   Conditions: none. -/
import Derived.Test.YtlijaamjcpefoaaPPl
namespace Post

abbrev PL := List (Int × List Int)

/-- The positions of a document. -/
def posOf : PL → Int → List Int
  | [], _ => []
  | p :: l, d => if p.1 = d then p.2 else posOf l d

/-- What is left of a posting. -/
def fl1 (f : Int → Int → Bool) (p : Int × List Int) : PL := if p.2.filter (f p.1) = [] then [] else [(p.1, p.2.filter (f p.1))]
/-- The postings with the positions that a test keeps. -/
def flt (f : Int → Int → Bool) (l : PL) : PL := l.flatMap (fl1 f)

theorem flt_nil (f : Int → Int → Bool) : flt f [] = [] := rfl
theorem flt_cons (f : Int → Int → Bool) (p : Int × List Int) (l : PL) : flt f (p :: l) = fl1 f p ++ flt f l := by simp [flt]
theorem flt_append (f : Int → Int → Bool) (a b : PL) : flt f (a ++ b) = flt f a ++ flt f b := by simp [flt]
theorem flt_snoc (f : Int → Int → Bool) (a : PL) (p : Int × List Int) : flt f (a ++ [p]) = flt f a ++ fl1 f p := by simp [flt]

theorem fl1_congr {f g : Int → Int → Bool} {p : Int × List Int} (h : ∀ x ∈ p.2, f p.1 x = g p.1 x) : fl1 f p = fl1 g p := by
  have : p.2.filter (f p.1) = p.2.filter (g p.1) := List.filter_congr h
  simp [fl1, this]
theorem flt_congr {f g : Int → Int → Bool} : ∀ {l : PL}, (∀ p ∈ l, ∀ x ∈ p.2, f p.1 x = g p.1 x) → flt f l = flt g l := by
  intro l
  induction l with
  | nil => intro _; rfl
  | cons p l ih =>
    intro h
    rw [flt_cons, flt_cons, ih (fun q hq => h q (by simp [hq])), fl1_congr (h p (by simp))]
theorem flt_fl1 (f g : Int → Int → Bool) (p : Int × List Int) : flt g (fl1 f p) = fl1 (fun d x => f d x && g d x) p := by
  unfold fl1
  by_cases h : p.2.filter (f p.1) = []
  · have h2 : p.2.filter (fun x => f p.1 x && g p.1 x) = [] := by
      rw [List.filter_eq_nil_iff] at h ⊢
      intro x hx
      simp [h x hx]
    simp only [h, h2, if_true]
    rfl
  · simp only [h, if_false, flt, List.flatMap_cons, List.flatMap_nil, List.append_nil, fl1, List.filter_filter]
    rw [List.filter_congr (fun x _ => Bool.and_comm (g p.1 x) (f p.1 x))]
theorem flt_flt (f g : Int → Int → Bool) (l : PL) : flt g (flt f l) = flt (fun d x => f d x && g d x) l := by
  induction l with
  | nil => rfl
  | cons p l ih => rw [flt_cons, flt_append, ih, flt_fl1, flt_cons]
theorem flt_true {l : PL} (h : ∀ p ∈ l, p.2 ≠ []) : flt (fun _ _ => true) l = l := by
  induction l with
  | nil => rfl
  | cons p l ih =>
    rw [flt_cons, ih (fun q hq => h q (by simp [hq]))]
    have e : p.2.filter (fun _ => true) = p.2 := by simp
    have h1 := h p (by simp)
    simp only [fl1, e, h1, if_false, List.cons_append, List.nil_append]
theorem flt_mem {f : Int → Int → Bool} {l : PL} {q : Int × List Int} (h : q ∈ flt f l) : ∃ p ∈ l, q.1 = p.1 ∧ q.2 = p.2.filter (f p.1) ∧ q.2 ≠ [] := by
  obtain ⟨p, hp, hq⟩ := List.mem_flatMap.1 h
  unfold fl1 at hq
  split at hq
  · simp at hq
  · rename_i hne
    simp at hq
    subst hq
    exact ⟨p, hp, rfl, rfl, hne⟩
theorem flt_docs {f : Int → Int → Bool} (l : PL) : ((flt f l).map (·.1)).Sublist (l.map (·.1)) := by
  induction l with
  | nil => exact List.Sublist.refl _
  | cons p l ih =>
    rw [flt_cons, List.map_append, List.map_cons]
    unfold fl1
    split
    · exact ih.cons _
    · exact ih.cons_cons _
theorem flt_len {f : Int → Int → Bool} (l : PL) : (flt f l).length ≤ l.length := by
  have := (flt_docs (f := f) l).length_le
  simpa using this
theorem flt_pos {f : Int → Int → Bool} {l : PL} {m : Nat} (h : ∀ p ∈ l, p.2.length ≤ m) : ∀ p ∈ flt f l, p.2.length ≤ m := by
  intro q hq
  obtain ⟨p, hp, _, e, _⟩ := flt_mem hq
  rw [e]
  exact Nat.le_trans (List.length_filter_le _ _) (h p hp)

/-- The walk that goes through two posting lists. -/
def mgP {β : Type} (fA fB : β → (Int × List Int) → β) (fAB : β → (Int × List Int) → (Int × List Int) → β) : Nat → PL → PL → β → β
  | 0, _, _, o => o
  | n + 1, x :: a, y :: b, o => if x.1 < y.1 then mgP fA fB fAB n a (y :: b) (fA o x) else if y.1 < x.1 then mgP fA fB fAB n (x :: a) b (fB o y) else mgP fA fB fAB n a b (fAB o x y)
  | n + 1, x :: a, [], o => mgP fA fB fAB n a [] (fA o x)
  | n + 1, [], y :: b, o => mgP fA fB fAB n [] b (fB o y)
  | _ + 1, [], [], o => o

def Asc' (l : PL) : Prop := Asc (l.map (·.1))
theorem asc'_tail {x : Int × List Int} {l : PL} (h : Asc' (x :: l)) : Asc' l ∧ ∀ y ∈ l, x.1 < y.1 := by
  obtain ⟨h1, h2⟩ := asc_tail h
  exact ⟨h1, fun y hy => h2 _ (List.mem_map.2 ⟨y, hy, rfl⟩)⟩

theorem posOf_cons_ne {p : Int × List Int} {l : PL} {d : Int} (h : p.1 ≠ d) : posOf (p :: l) d = posOf l d := by simp [posOf, h]
theorem posOf_cons_eq {p : Int × List Int} {l : PL} : posOf (p :: l) p.1 = p.2 := by simp [posOf]
theorem posOf_none {l : PL} {d : Int} (h : ∀ p ∈ l, p.1 ≠ d) : posOf l d = [] := by
  induction l with
  | nil => rfl
  | cons p l ih => rw [posOf_cons_ne (h p (by simp)), ih (fun q hq => h q (by simp [hq]))]

/-- What is kept of a list by a test on its positions and those of another list. -/
def fltB (kf : Int → List Int → Bool) (b : PL) (d x : Int) : Bool := decide (d ∈ b.map (·.1)) && kf x (posOf b d)

/-- Going through two lists keeps what a test on both keeps. -/
theorem mgP_flt (kf : Int → List Int → Bool) : ∀ (n : Nat) (a b o : PL), a.length + b.length ≤ n → Asc' a → Asc' b →
    mgP (fun o _ => o) (fun o _ => o) (fun o x y => o ++ fl1 (fun _ z => kf z y.2) x) n a b o = o ++ flt (fltB kf b) a := by
  intro n
  induction n with
  | zero =>
    intro a b o h _ _
    have ha : a = [] := List.eq_nil_of_length_eq_zero (by omega)
    subst ha
    simp [mgP, flt]
  | succ n ih =>
    intro a b o h ha hb
    cases a with
    | nil =>
      cases b with
      | nil => simp [mgP, flt]
      | cons y b =>
        rw [mgP, ih [] b o (by simp at h ⊢; omega) ha (asc'_tail hb).1]
        rfl
    | cons x a =>
      obtain ⟨h1, h2⟩ := asc'_tail ha
      have drop1 : ∀ b' : PL, (∀ y ∈ b', y.1 ≠ x.1) → fl1 (fltB kf b') x = [] := fun b' hb' => by
        unfold fl1
        rw [if_pos]
        rw [List.filter_eq_nil_iff]
        intro z _
        have : ¬ x.1 ∈ b'.map (·.1) := fun hm => by
          obtain ⟨y, hy, e⟩ := List.mem_map.1 hm
          exact hb' y hy e
        simp [fltB, this]
      cases b with
      | nil =>
        rw [mgP, ih a [] o (by simp at h ⊢; omega) h1 hb, flt_cons, drop1 [] (by simp)]
        rfl
      | cons y b =>
        obtain ⟨h3, h4⟩ := asc'_tail hb
        simp only [List.length_cons] at h
        by_cases c1 : x.1 < y.1
        · rw [mgP, if_pos c1, ih a (y :: b) o (by simp; omega) h1 hb, flt_cons, drop1 (y :: b) (fun z hz => by
            rcases List.mem_cons.1 hz with rfl | hz
            · omega
            · have := h4 z hz; omega)]
          rfl
        · have keep : ∀ l : PL, (∀ z ∈ l, y.1 < z.1) → flt (fltB kf b) l = flt (fltB kf (y :: b)) l := fun l hl => by
            refine flt_congr fun p hp z _ => ?_
            have := hl p hp
            have hne : y.1 ≠ p.1 := by omega
            have hne' : p.1 ≠ y.1 := by omega
            have e1 : decide (p.1 ∈ b.map (·.1)) = decide (p.1 ∈ (y :: b).map (·.1)) := by
              rw [decide_eq_decide, List.map_cons, List.mem_cons]
              exact ⟨fun h => .inr h, fun h => h.resolve_left hne'⟩
            show (decide (p.1 ∈ b.map (·.1)) && kf z (posOf b p.1)) = (decide (p.1 ∈ (y :: b).map (·.1)) && kf z (posOf (y :: b) p.1))
            rw [posOf_cons_ne hne, e1]
          by_cases c2 : y.1 < x.1
          · rw [mgP, if_neg c1, if_pos c2, ih (x :: a) b o (by simp; omega) ha h3, keep (x :: a) (fun z hz => by
              rcases List.mem_cons.1 hz with rfl | hz
              · exact c2
              · have := h2 z hz; omega)]
          · have e : x.1 = y.1 := by omega
            have hx : fl1 (fltB kf (y :: b)) x = fl1 (fun _ z => kf z y.2) x := fl1_congr fun z _ => by
              unfold fltB
              rw [e, posOf_cons_eq]
              simp
            rw [mgP, if_neg c1, if_neg c2, ih a b _ (by omega) h1 h3, keep a (fun z hz => by have := h2 z hz; omega), flt_cons, hx, List.append_assoc]
end Post
