/- Distances and characters (layer 11), for another seat.
   Conditions: lengths below 1000. -/
import Derived.Test.YtbijefgmleagnaaAmFacts
import Derived.Test.YtbijefgmleagnaaAmGhost
import Derived.Test.YtbijefgmleagnaaAmTup
namespace Edit

def edRow (x : Int) (f : List Int → Nat) : List Int → Nat
  | [] => f [] + 1
  | y :: b => if x = y then f b else 1 + min (min (f b) (f (y :: b))) (edRow x f b)
/-- The number of single changes between two lists. -/
def ed : List Int → List Int → Nat
  | [] => fun b => b.length
  | x :: a => edRow x (ed a)

theorem ed_nil (b : List Int) : ed [] b = b.length := rfl
theorem ed_nil2 (a : List Int) : ed a [] = a.length := by
  induction a with
  | nil => rfl
  | cons x a ih => show ed a [] + 1 = _; rw [ih]; rfl
theorem ed_eq (x : Int) (a b : List Int) : ed (x :: a) (x :: b) = ed a b := by
  show edRow x (ed a) (x :: b) = _
  rw [edRow, if_pos rfl]
theorem ed_ne {x y : Int} (h : x ≠ y) (a b : List Int) : ed (x :: a) (y :: b) = 1 + min (min (ed a b) (ed a (y :: b))) (ed (x :: a) b) := by
  show edRow x (ed a) (y :: b) = _
  rw [edRow, if_neg h]
  rfl

theorem ed_lip : ∀ (k : Nat) (a b : List Int), a.length + b.length ≤ k →
    (∀ x, ed (x :: a) b ≤ ed a b + 1 ∧ ed a b ≤ ed (x :: a) b + 1) ∧ (∀ y, ed a (y :: b) ≤ ed a b + 1 ∧ ed a b ≤ ed a (y :: b) + 1) := by
  intro k
  induction k with
  | zero =>
    intro a b h
    have ha : a = [] := List.eq_nil_of_length_eq_zero (by omega)
    have hb : b = [] := List.eq_nil_of_length_eq_zero (by omega)
    subst ha; subst hb
    refine ⟨fun x => ?_, fun y => ?_⟩
    · rw [ed_nil2, ed_nil]; simp
    · rw [ed_nil, ed_nil]; simp
  | succ k ih =>
    intro a b h
    refine ⟨fun x => ?_, fun y => ?_⟩
    · cases b with
      | nil => rw [ed_nil2, ed_nil2]; simp only [List.length_cons]; omega
      | cons y b =>
        obtain ⟨g1, g2⟩ := ih a b (by simp at h; omega)
        have g1 := g1 x
        have g2 := g2 y
        by_cases hxy : x = y
        · subst hxy; rw [ed_eq]; omega
        · rw [ed_ne hxy]; omega
    · cases a with
      | nil => rw [ed_nil, ed_nil]; simp only [List.length_cons]; omega
      | cons x a =>
        obtain ⟨g1, g2⟩ := ih a b (by simp at h; omega)
        have g1 := g1 x
        have g2 := g2 y
        by_cases hxy : x = y
        · subst hxy; rw [ed_eq]; omega
        · rw [ed_ne hxy]; omega

theorem ed_del (x : Int) (a b : List Int) : ed (x :: a) b ≤ ed a b + 1 := ((ed_lip _ a b (Nat.le_refl _)).1 x).1
theorem ed_ins (y : Int) (a b : List Int) : ed a (y :: b) ≤ ed a b + 1 := ((ed_lip _ a b (Nat.le_refl _)).2 y).1

/-- An alignment of two lists, with its cost. -/
inductive Al : Nat → List Int → List Int → Prop
  | nil : Al 0 [] []
  | keep (x : Int) {n : Nat} {a b : List Int} : Al n a b → Al n (x :: a) (x :: b)
  | rep (x y : Int) {n : Nat} {a b : List Int} : Al n a b → Al (n + 1) (x :: a) (y :: b)
  | del (x : Int) {n : Nat} {a b : List Int} : Al n a b → Al (n + 1) (x :: a) b
  | ins (y : Int) {n : Nat} {a b : List Int} : Al n a b → Al (n + 1) a (y :: b)

theorem Al.le {n : Nat} {a b : List Int} (h : Al n a b) : ed a b ≤ n := by
  induction h with
  | nil => exact Nat.le_refl _
  | keep x _ ih => rw [ed_eq]; exact ih
  | @rep x y n a b _ ih =>
    by_cases hxy : x = y
    · subst hxy; rw [ed_eq]; omega
    · rw [ed_ne hxy]; omega
  | @del x n a b _ ih => have := ed_del x a b; omega
  | @ins y n a b _ ih => have := ed_ins y a b; omega

theorem al_ins : ∀ b : List Int, Al b.length [] b := by
  intro b
  induction b with
  | nil => exact .nil
  | cons y b ih => exact .ins y ih
theorem al_del : ∀ b : List Int, Al b.length b [] := by
  intro b
  induction b with
  | nil => exact .nil
  | cons y b ih => exact .del y ih

theorem ed_al : ∀ (k : Nat) (a b : List Int), a.length + b.length ≤ k → Al (ed a b) a b := by
  intro k
  induction k with
  | zero =>
    intro a b h
    have ha : a = [] := List.eq_nil_of_length_eq_zero (by omega)
    have hb : b = [] := List.eq_nil_of_length_eq_zero (by omega)
    subst ha; subst hb
    exact .nil
  | succ k ih =>
    intro a b h
    cases a with
    | nil => rw [ed_nil]; exact al_ins b
    | cons x a =>
      cases b with
      | nil => rw [ed_nil2]; exact al_del _
      | cons y b =>
        simp only [List.length_cons] at h
        by_cases hxy : x = y
        · subst hxy; rw [ed_eq]; exact .keep x (ih a b (by omega))
        · have e := ed_ne hxy a b
          rcases Nat.le_total (min (ed a b) (ed a (y :: b))) (ed (x :: a) b) with h1 | h1
          · rcases Nat.le_total (ed a b) (ed a (y :: b)) with h2 | h2
            · have e2 : ed (x :: a) (y :: b) = ed a b + 1 := by omega
              rw [e2]; exact .rep x y (ih a b (by omega))
            · have e2 : ed (x :: a) (y :: b) = ed a (y :: b) + 1 := by omega
              rw [e2]; exact .del x (ih a (y :: b) (by simp; omega))
          · have e2 : ed (x :: a) (y :: b) = ed (x :: a) b + 1 := by omega
            rw [e2]; exact .ins y (ih (x :: a) b (by simp; omega))

theorem edAl (a b : List Int) : Al (ed a b) a b := ed_al _ a b (Nat.le_refl _)

theorem Al.symm {n : Nat} {a b : List Int} (h : Al n a b) : Al n b a := by
  induction h with
  | nil => exact .nil
  | keep x _ ih => exact .keep x ih
  | rep x y _ ih => exact .rep y x ih
  | del x _ ih => exact .ins x ih
  | ins y _ ih => exact .del y ih

theorem ed_symm (a b : List Int) : ed a b = ed b a := Nat.le_antisymm (edAl b a).symm.le (edAl a b).symm.le

theorem Al.app {n m : Nat} {a b c d : List Int} (h : Al n a b) (k : Al m c d) : Al (n + m) (a ++ c) (b ++ d) := by
  induction h with
  | nil => simpa using k
  | keep x _ ih => exact .keep x ih
  | rep x y _ ih => rw [Nat.add_right_comm]; exact .rep x y ih
  | del x _ ih => rw [Nat.add_right_comm]; exact .del x ih
  | ins y _ ih => rw [Nat.add_right_comm]; exact .ins y ih

theorem Al.rev {n : Nat} {a b : List Int} (h : Al n a b) : Al n a.reverse b.reverse := by
  induction h with
  | nil => exact .nil
  | keep x _ ih => simpa using ih.app (.keep x .nil)
  | rep x y _ ih => simpa using ih.app (.rep x y .nil)
  | del x _ ih => simpa using ih.app (.del x .nil)
  | ins y _ ih => simpa using ih.app (.ins y .nil)

theorem ed_rev (a b : List Int) : ed a.reverse b.reverse = ed a b := by
  refine Nat.le_antisymm (edAl a b).rev.le ?_
  have := (edAl a.reverse b.reverse).rev.le
  simpa using this

theorem ed_snoc_eq (x : Int) (a b : List Int) : ed (a ++ [x]) (b ++ [x]) = ed a b := by
  rw [← ed_rev, ← ed_rev a b]; simp [ed_eq]
theorem ed_snoc_ne {x y : Int} (h : x ≠ y) (a b : List Int) : ed (a ++ [x]) (b ++ [y]) = 1 + min (min (ed a b) (ed a (b ++ [y]))) (ed (a ++ [x]) b) := by
  rw [← ed_rev, ← ed_rev a b, ← ed_rev a (b ++ [y]), ← ed_rev (a ++ [x]) b]; simp [ed_ne h]

theorem Al.trans : ∀ (k n m : Nat) (a b c : List Int), a.length + b.length + c.length ≤ k → Al n a b → Al m b c → ∃ p, p ≤ n + m ∧ Al p a c := by
  intro k
  induction k with
  | zero =>
    intro n m a b c h h1 h2
    have ha : a = [] := List.eq_nil_of_length_eq_zero (by omega)
    have hb : c = [] := List.eq_nil_of_length_eq_zero (by omega)
    subst ha; subst hb
    exact ⟨0, Nat.zero_le _, .nil⟩
  | succ k ih =>
    intro n m a b c h h1 h2
    cases h2 with
    | nil =>
      exact ⟨n, by omega, h1⟩
    | @ins z m b c h2 =>
      obtain ⟨p, hp, hal⟩ := ih n m a b c (by simp at h; omega) h1 h2
      exact ⟨p + 1, by omega, .ins z hal⟩
    | @keep y m b c h2 =>
      cases h1 with
      | keep _ h1 =>
        obtain ⟨p, hp, hal⟩ := ih _ _ _ _ _ (by simp at h; omega) h1 h2
        exact ⟨p, hp, .keep y hal⟩
      | @rep x _ n a _ h1 =>
        obtain ⟨p, hp, hal⟩ := ih _ _ _ _ _ (by simp at h; omega) h1 h2
        exact ⟨p + 1, by omega, .rep x y hal⟩
      | @del x n a _ h1 =>
        obtain ⟨p, hp, hal⟩ := ih _ _ _ _ _ (by simp at h ⊢; omega) h1 (.keep y h2)
        exact ⟨p + 1, by omega, .del x hal⟩
      | ins _ h1 =>
        obtain ⟨p, hp, hal⟩ := ih _ _ _ _ _ (by simp at h; omega) h1 h2
        exact ⟨p + 1, by omega, .ins y hal⟩
    | @rep y z m b c h2 =>
      cases h1 with
      | keep _ h1 =>
        obtain ⟨p, hp, hal⟩ := ih _ _ _ _ _ (by simp at h; omega) h1 h2
        exact ⟨p + 1, by omega, .rep y z hal⟩
      | @rep x _ n a _ h1 =>
        obtain ⟨p, hp, hal⟩ := ih _ _ _ _ _ (by simp at h; omega) h1 h2
        exact ⟨p + 1, by omega, .rep x z hal⟩
      | @del x n a _ h1 =>
        obtain ⟨p, hp, hal⟩ := ih _ _ _ _ _ (by simp at h ⊢; omega) h1 (.rep y z h2)
        exact ⟨p + 1, by omega, .del x hal⟩
      | ins _ h1 =>
        obtain ⟨p, hp, hal⟩ := ih _ _ _ _ _ (by simp at h; omega) h1 h2
        exact ⟨p + 1, by omega, .ins z hal⟩
    | @del y m b c h2 =>
      cases h1 with
      | keep _ h1 =>
        obtain ⟨p, hp, hal⟩ := ih _ _ _ _ _ (by simp at h; omega) h1 h2
        exact ⟨p + 1, by omega, .del y hal⟩
      | @rep x _ n a _ h1 =>
        obtain ⟨p, hp, hal⟩ := ih _ _ _ _ _ (by simp at h; omega) h1 h2
        exact ⟨p + 1, by omega, .del x hal⟩
      | @del x n a _ h1 =>
        obtain ⟨p, hp, hal⟩ := ih _ _ _ _ _ (by simp at h ⊢; omega) h1 (.del y h2)
        exact ⟨p + 1, by omega, .del x hal⟩
      | ins _ h1 =>
        obtain ⟨p, hp, hal⟩ := ih _ _ _ _ _ (by simp at h; omega) h1 h2
        exact ⟨p, by omega, hal⟩

theorem ed_tri (a b c : List Int) : ed a c ≤ ed a b + ed b c := by
  obtain ⟨p, hp, h⟩ := Al.trans _ _ _ a b c (Nat.le_refl _) (edAl a b) (edAl b c)
  have := h.le
  omega

theorem ed_self (a : List Int) : ed a a = 0 := by
  induction a with
  | nil => rfl
  | cons x a ih => rw [ed_eq]; exact ih

theorem Al.zero {n : Nat} {a b : List Int} (h : Al n a b) (h0 : n = 0) : a = b := by
  induction h with
  | nil => rfl
  | keep x _ ih => rw [ih h0]
  | rep => omega
  | del => omega
  | ins => omega

theorem ed_zero (a b : List Int) : ed a b = 0 ↔ a = b := ⟨fun h => (edAl a b).zero h, fun h => by rw [h]; exact ed_self b⟩

theorem Al.len {n : Nat} {a b : List Int} (h : Al n a b) : a.length ≤ b.length + n ∧ b.length ≤ a.length + n := by
  induction h with
  | nil => simp
  | keep x _ ih => simp only [List.length_cons]; omega
  | rep x y _ ih => simp only [List.length_cons]; omega
  | del x _ ih => simp only [List.length_cons]; omega
  | ins y _ ih => simp only [List.length_cons]; omega

theorem ed_len (a b : List Int) : a.length ≤ b.length + ed a b ∧ b.length ≤ a.length + ed a b := (edAl a b).len

theorem ed_max : ∀ (a b : List Int), ed a b ≤ max a.length b.length := by
  intro a
  induction a with
  | nil => intro b; rw [ed_nil]; simp
  | cons x a ih =>
    intro b
    cases b with
    | nil => rw [ed_nil2]; simp
    | cons y b =>
      have := ih b
      simp only [List.length_cons]
      by_cases hxy : x = y
      · subst hxy; rw [ed_eq]; omega
      · rw [ed_ne hxy]; omega

theorem ed_pre (c a b : List Int) : ed (c ++ a) (c ++ b) = ed a b := by
  induction c with
  | nil => rfl
  | cons x c ih => rw [List.cons_append, List.cons_append, ed_eq, ih]
theorem ed_suf (a b c : List Int) : ed (a ++ c) (b ++ c) = ed a b := by
  rw [← ed_rev, List.reverse_append, List.reverse_append, ed_pre, ed_rev]
theorem ed_app (a b c d : List Int) : ed (a ++ c) (b ++ d) ≤ ed a b + ed c d := ((edAl a b).app (edAl c d)).le

end Edit

namespace Go.Proofs.Ytbijefgmleagnaa
open Go Go.Am Edit
set_option linter.unusedVariables false

theorem drawMixed : Try.prog.follows .mixedOrders = true := by kernel_rfl

theorem decode_facts (s : ByteArray) (i : Nat) : (Utf8.decode s i).1 < 2097152 ∧ 1 ≤ (Utf8.decode s i).2 := by
  unfold Utf8.decode
  simp only [Utf8.runeError]
  split
  · constructor <;> omega
  · split
    · split
      · constructor <;> omega
      · constructor <;> omega
    · split
      · split
        · constructor <;> omega
        · constructor <;> omega
      · split
        · split
          · constructor <;> omega
          · constructor <;> omega
        · constructor <;> omega

/-- The characters from a place on. -/
def chN (s : List UInt8) : Nat → Nat → List Int
  | 0, _ => []
  | n + 1, p => if p < s.length then ((Utf8.decode ⟨s.toArray⟩ p).1 : Int) :: chN s n (p + (Utf8.decode ⟨s.toArray⟩ p).2) else []
def chars (s : List UInt8) : List Int := chN s s.length 0

theorem chN_end (s : List UInt8) (n p : Nat) (h : ¬ p < s.length) : chN s n p = [] := by
  cases n with
  | zero => rfl
  | succ n => simp [chN, h]
theorem chN_step (s : List UInt8) (n p : Nat) (h : p < s.length) (hn : s.length ≤ p + n) : chN s n p = ((Utf8.decode ⟨s.toArray⟩ p).1 : Int) :: chN s (n - 1) (p + (Utf8.decode ⟨s.toArray⟩ p).2) := by
  cases n with
  | zero => omega
  | succ n => simp [chN, h]
theorem chN_len (s : List UInt8) : ∀ n p, (chN s n p).length ≤ n := by
  intro n
  induction n with
  | zero => intro p; simp [chN]
  | succ n ih =>
    intro p
    unfold chN
    split
    · simp; exact ih _
    · simp
theorem chars_len (s : List UInt8) : (chars s).length ≤ s.length := chN_len s _ _

theorem chars_ok (s : List UInt8) (hs : s.length ≤ 1099511627776) (H : List Blk) (T : Toks) : ACall Try.prog 33 [.str s] H T (Is (.sl (chars s).length (ints (chars s)) .none) H T) := by
  refine ACall.drop' ?_ (by simp)
  refine acall_enter 10 [] Try.ntmps33 Try.func33 rfl (fun _ _ => Try.call33 _ _) (by simp) (fun HO => ?_)
  refine aw_reg fun K hK => ?_; simp (maxSteps := 1000000) (disch := omega) [-List.getD_eq_getElem?_getD]; refine hK _ ?_; clear hK K
  refine aw_reg fun K hK => ?_; simp (maxSteps := 1000000) (disch := omega) [-List.getD_eq_getElem?_getD]; refine hK _ ?_; clear hK K
  refine aw_then fun K1 hK1 => ?_
  refine aw_reg fun K hK => ?_; simp (maxSteps := 1000000) (disch := omega) [-List.getD_eq_getElem?_getD]; refine hK _ ?_; clear hK K
  refine aw_block ?_
  refine aw_own 3 0 1 [] (by omega) (by simp) ?_
  refine aw_loop (X := Nat × Nat × List Int) (fun x => ⟨[(3, .sl x.2.2.length (ints x.2.2) (.own T.length)), (7, .ptr H.length 0)], H ++ [.iter s x.2.1], T ++ [(x.2.2.length, 1)]⟩)
    (fun x => s.length ≤ x.2.1 + x.1 ∧ chars s = x.2.2 ++ chN s x.1 x.2.1 ∧ x.2.2.length + x.1 ≤ s.length) (fun x => x.1) (s.length, 0, []) ?_ ?_ ?_
  · exact ⟨by simp, rfl, by simp⟩
  · refine weak_to [] [] ?_ ?_ ?_ ?_ (HO.snocIter.toks (by simp)) ?_
    all_goals simp
  · rintro ⟨n, p, out⟩ ⟨h1, h2, h3⟩
    simp only at h1 h2 h3
    obtain ⟨d1, d2⟩ := decode_facts ⟨s.toArray⟩ p
    by_cases hp : p < s.length
    · have hst := chN_step s n p hp h1
      have hn : 0 < n := by
        rcases Nat.eq_zero_or_pos n with h0 | h0
        · omega
        · exact h0
      have hw : IntKind.i64.wrap ((Utf8.decode ⟨s.toArray⟩ p).1 : Int) = ((Utf8.decode ⟨s.toArray⟩ p).1 : Int) := by rw [IntKind.wrap_i64]; omega
      refine aw_reg fun K hK => ?_; simp (maxSteps := 1000000) (disch := omega) [-List.getD_eq_getElem?_getD, hp]; refine hK _ ?_; clear hK K
      refine aw_then fun K2 hK2 => ?_
      refine aw_if rfl (fun h => ?_) (fun h => absurd h (by simp))
      refine aw_skip ?_; simp (maxSteps := 1000000) (disch := omega) [-List.getD_eq_getElem?_getD]
      refine hK2 _ ?_; clear hK2
      refine aw_block ?_
      refine aw_reg fun K hK => ?_; simp (maxSteps := 1000000) (disch := omega) [-List.getD_eq_getElem?_getD]; refine hK _ ?_; clear hK K
      refine aw_reg0 fun K hK => ?_; simp (maxSteps := 1000000) (disch := omega) [-List.getD_eq_getElem?_getD, hw]
      refine hK _ ?_; clear hK K
      refine ⟨(n - 1, p + (Utf8.decode ⟨s.toArray⟩ p).2, out ++ [((Utf8.decode ⟨s.toArray⟩ p).1 : Int)]), ⟨by show s.length ≤ (p + (Utf8.decode ⟨s.toArray⟩ p).2) + (n - 1); omega, by rw [h2, hst]; simp, by simp; omega⟩, by show n - 1 < n; omega, ?_⟩
      refine weak_to [] [] ?_ ?_ ?_ ?_ (HO.snocIter.toks (by simp)) ?_
      · simp
      · simp
      · simp
      · simp
      · simp [ints_snoc]
    · have he := chN_end s n p hp
      refine aw_reg fun K hK => ?_; simp (maxSteps := 1000000) (disch := omega) [-List.getD_eq_getElem?_getD, hp]; refine hK _ ?_; clear hK K
      refine aw_then fun K2 hK2 => ?_
      refine aw_if rfl (fun h => absurd h (by simp)) (fun h => ?_)
      refine aw_exit ?_; simp (maxSteps := 1000000) (disch := omega) [-List.getD_eq_getElem?_getD]
      refine hK1 _ ?_; clear hK1
      refine aw_reg fun K hK => ?_; simp (maxSteps := 1000000) (disch := omega) [-List.getD_eq_getElem?_getD]; refine hK _ ?_; clear hK K
      refine aw_ret ?_; simp (maxSteps := 1000000) (disch := omega) [-List.getD_eq_getElem?_getD]
      rw [h2, he]
      simp
end Go.Proofs.Ytbijefgmleagnaa

namespace Go.Proofs.Ytbijefgmleagnaa
open Go Go.Am Edit
set_option linter.unusedVariables false

theorem take_snoc (l : List Int) (k : Nat) (h : k < l.length) : l.take (k + 1) = l.take k ++ [l.getD k 0] := by
  rw [List.take_succ_eq_append_getElem h]
  simp [h]

/-- The distance of two beginnings. -/
def E (a b : List Int) (i j : Nat) : Int := (ed (a.take i) (b.take j) : Nat)

theorem E_eq {a b : List Int} {i j : Nat} (hi : i < a.length) (hj : j < b.length) (h : a.getD i 0 = b.getD j 0) : E a b (i + 1) (j + 1) = E a b i j := by
  unfold E
  rw [take_snoc a i hi, take_snoc b j hj, h, ed_snoc_eq]
theorem E_ne {a b : List Int} {i j : Nat} (hi : i < a.length) (hj : j < b.length) (h : a.getD i 0 ≠ b.getD j 0) : E a b (i + 1) (j + 1) = 1 + min (min (E a b i j) (E a b (i + 1) j)) (E a b i (j + 1)) := by
  unfold E
  have := ed_snoc_ne h (a.take i) (b.take j)
  rw [← take_snoc a i hi, ← take_snoc b j hj] at this
  rw [this]
  omega
theorem E_zero (a b : List Int) (j : Nat) (hj : j ≤ b.length) : E a b 0 j = j := by
  unfold E
  rw [List.take_zero, ed_nil, List.length_take]; omega
theorem E_col (a b : List Int) (i : Nat) (hi : i ≤ a.length) : E a b i 0 = i := by
  unfold E
  rw [List.take_zero, ed_nil2, List.length_take]; omega
theorem E_le (a b : List Int) (i j : Nat) : 0 ≤ E a b i j ∧ E a b i j ≤ max a.length b.length := by
  unfold E
  have := ed_max (a.take i) (b.take j)
  rw [List.length_take, List.length_take] at this
  omega

theorem getD_set (l : List Int) (k j : Nat) (x : Int) : (l.set k x).getD j 0 = if k = j ∧ k < l.length then x else l.getD j 0 := by
  rw [List.getD_eq_getElem?_getD, List.getD_eq_getElem?_getD, List.getElem?_set]
  by_cases h : k = j
  · subst h
    by_cases hl : k < l.length
    · simp [hl]
    · simp [hl]
  · simp [h]

end Go.Proofs.Ytbijefgmleagnaa

namespace Go.Proofs.Ytbijefgmleagnaa
open Go Go.Am Edit
set_option linter.unusedVariables false

/-- A table: its rows, and the slices that point to them. -/
def ptrs (base m n : Nat) : List AV := (List.range n).map fun i => .msl (base + i) 0 m
def tb (R : List (List Int)) : List Blk := R.map fun r => .cells (ints r)

theorem ptrs_len (base m n : Nat) : (ptrs base m n).length = n := by simp [ptrs]
theorem ptrs_at {base m n i : Nat} (h : i < n) : (ptrs base m n).getD i .top = .msl (base + i) 0 m := by
  rw [List.getD_eq_getElem?_getD]
  simp [ptrs, h]
theorem ptrs_snoc (base m n : Nat) : ptrs base m (n + 1) = ptrs base m n ++ [.msl (base + n) 0 m] := by simp [ptrs, List.range_succ]
theorem ptrs_set (base m n k : Nat) (h : k < n) (v : AV) : (ptrs base m k ++ List.replicate (n - k) v).set k (.msl (base + k) 0 m) = ptrs base m (k + 1) ++ List.replicate (n - (k + 1)) v := by
  rw [List.set_append_right _ _ (by rw [ptrs_len]; exact Nat.le_refl _), ptrs_len, Nat.sub_self, ptrs_snoc, show n - k = (n - (k + 1)) + 1 by omega, List.replicate_succ, List.set_cons_zero]
  simp
theorem tb_len (R : List (List Int)) : (tb R).length = R.length := by simp [tb]
theorem tb_at {R : List (List Int)} {i : Nat} (h : i < R.length) : (tb R)[i]? = some (.cells (ints (R.getD i []))) := by
  rw [List.getD_eq_getElem?_getD]
  simp [tb, h]
theorem tb_set (R : List (List Int)) (i : Nat) (r : List Int) : (tb R).set i (.cells (ints r)) = tb (R.set i r) := by simp [tb, List.map_set]
theorem tb_snoc (R : List (List Int)) (r : List Int) : tb R ++ [.cells (ints r)] = tb (R ++ [r]) := by simp [tb]
section
variable {α : Type} (H l : List α) (i : Nat) (x y : α)
theorem new_at1 : (H ++ x :: l)[H.length + 1 + i]? = l[i]? := by
  rw [List.getElem?_append_right (by omega), show H.length + 1 + i - H.length = i + 1 by omega, List.getElem?_cons_succ]
theorem new_set1 : (H ++ x :: l).set (H.length + 1 + i) y = H ++ x :: l.set i y := by
  rw [List.set_append_right _ _ (by omega), show H.length + 1 + i - H.length = i + 1 by omega, List.set_cons_succ]
end

theorem hok_tb {H : List Blk} {T : Toks} (h : HOk H T) (vs : List AV) (R : List (List Int)) (hv : BelowAll (H.length + 1 + R.length) T.length vs) : HOk (H ++ .cells vs :: tb R) T := by
  intro i us hi v hm
  have hlen : (H ++ Blk.cells vs :: tb R).length = H.length + 1 + R.length := by simp [tb]; omega
  rw [hlen]
  rcases Nat.lt_or_ge i H.length with h1 | h1
  · rw [List.getElem?_append_left h1] at hi
    exact (h i us hi v hm).more (by omega) (Nat.le_refl _)
  · rw [List.getElem?_append_right h1] at hi
    cases hq : i - H.length with
    | zero =>
      rw [hq] at hi
      simp at hi
      subst hi
      exact hv v hm
    | succ q =>
      rw [hq] at hi
      simp only [List.getElem?_cons_succ, tb, List.getElem?_map] at hi
      cases hr : R[q]? with
      | none => rw [hr] at hi; simp at hi
      | some r =>
        rw [hr] at hi
        simp at hi
        subst hi
        obtain ⟨x, _, rfl⟩ := List.mem_map.1 hm
        exact .int _ _

theorem below_ptrs {base m n N t : Nat} (h : base + n ≤ N) : BelowAll N t (ptrs base m n) := by
  intro v hv
  obtain ⟨i, hi, rfl⟩ := List.mem_map.1 hv
  rw [List.mem_range] at hi
  exact .msl _ _ _ (by omega)

/-- The distance of two ends. -/
def D (a b : List Int) (i j : Nat) : Int := (ed (a.drop i) (b.drop j) : Nat)

theorem drop_cons0 (l : List Int) (i : Nat) (h : i < l.length) : l.drop i = l.getD i 0 :: l.drop (i + 1) := by
  rw [List.drop_eq_getElem_cons h, List.getD_eq_getElem?_getD, List.getElem?_eq_getElem h]
  rfl
theorem D_eq {a b : List Int} {i j : Nat} (hi : i < a.length) (hj : j < b.length) (h : a.getD i 0 = b.getD j 0) : D a b i j = D a b (i + 1) (j + 1) := by
  unfold D
  rw [drop_cons0 a i hi, drop_cons0 b j hj, h, ed_eq]
theorem D_ne {a b : List Int} {i j : Nat} (hi : i < a.length) (hj : j < b.length) (h : a.getD i 0 ≠ b.getD j 0) : D a b i j = 1 + min (min (D a b (i + 1) (j + 1)) (D a b (i + 1) j)) (D a b i (j + 1)) := by
  unfold D
  rw [drop_cons0 a i hi, drop_cons0 b j hj, ed_ne h]
  omega
theorem D_row (a b : List Int) (j : Nat) (hj : j ≤ b.length) : D a b a.length j = (b.length : Int) - j := by
  unfold D
  rw [List.drop_length, ed_nil, List.length_drop]; omega
theorem D_col (a b : List Int) (i : Nat) (hi : i ≤ a.length) : D a b i b.length = (a.length : Int) - i := by
  unfold D
  rw [List.drop_length, ed_nil2, List.length_drop]; omega
theorem D_le (a b : List Int) (i j : Nat) : 0 ≤ D a b i j ∧ D a b i j ≤ max a.length b.length := by
  unfold D
  have := ed_max (a.drop i) (b.drop j)
  rw [List.length_drop, List.length_drop] at this
  omega

/-- A table of la + 1 rows of lb + 1 numbers. -/
def Shape (n m : Nat) (R : List (List Int)) : Prop := R.length = n ∧ ∀ i, i < n → (R.getD i []).length = m
def at2 (R : List (List Int)) (i j : Nat) : Int := (R.getD i []).getD j 0
def put2 (R : List (List Int)) (i j : Nat) (x : Int) : List (List Int) := R.set i ((R.getD i []).set j x)

theorem getD_set' {α : Type} (l : List α) (k j : Nat) (x d : α) : (l.set k x).getD j d = if k = j ∧ k < l.length then x else l.getD j d := by
  rw [List.getD_eq_getElem?_getD, List.getD_eq_getElem?_getD, List.getElem?_set]
  by_cases h : k = j
  · subst h
    by_cases hl : k < l.length
    · simp [hl]
    · simp [hl]
  · simp [h]

theorem Shape.put {n m : Nat} {R : List (List Int)} (h : Shape n m R) (i j : Nat) (x : Int) : Shape n m (put2 R i j x) := by
  refine ⟨by simp [put2, h.1], fun q hq => ?_⟩
  unfold put2
  rw [getD_set']
  split
  · rename_i hh
    rw [List.length_set]
    exact h.2 i (by omega)
  · exact h.2 q hq

theorem at2_put {n m : Nat} {R : List (List Int)} (h : Shape n m R) {i j : Nat} (hi : i < n) (hj : j < m) (x : Int) (p q : Nat) : at2 (put2 R i j x) p q = if p = i ∧ q = j then x else at2 R p q := by
  unfold at2 put2
  rw [getD_set']
  by_cases hp : i = p
  · subst hp
    rw [if_pos ⟨rfl, by rw [h.1]; exact hi⟩, getD_set']
    by_cases hq : j = q
    · subst hq
      rw [if_pos ⟨rfl, by rw [h.2 i hi]; exact hj⟩, if_pos ⟨rfl, rfl⟩]
    · rw [if_neg (fun hh => hq hh.1), if_neg (fun hh => hq hh.2.symm)]
  · rw [if_neg (fun hh => hp hh.1), if_neg (fun hh => hp hh.1.symm)]

end Go.Proofs.Ytbijefgmleagnaa

namespace Go.Proofs.Ytbijefgmleagnaa
open Go Go.Am Edit
set_option linter.unusedVariables false

/-- The rows stand in the opposite order; those before c are not made yet. -/
def ptrR (base m n c : Nat) : List AV := (List.range (n + 1)).map fun q => if c ≤ q then .msl (base + (n - q)) 0 m else .sl 0 [] .full

theorem ptrR_len (base m n c : Nat) : (ptrR base m n c).length = n + 1 := by simp [ptrR]
theorem ptrR_at {base m n c q : Nat} (h : c ≤ q) (hq : q < n + 1) : (ptrR base m n c).getD q .top = .msl (base + (n - q)) 0 m := by
  rw [List.getD_eq_getElem?_getD]
  simp [ptrR, h, hq]
theorem ptrR_zero (base m n : Nat) : ptrR base m n (n + 1) = List.replicate (n + 1) (.sl 0 [] .full) := by
  apply List.ext_getElem
  · simp [ptrR]
  · intro j h1 h2
    have : ¬ n + 1 ≤ j := by simp [ptrR] at h1; omega
    simp [ptrR, this]
theorem ptrR_set (base m n i : Nat) (h : i ≤ n) : (ptrR base m n (i + 1)).set i (.msl (base + (n - i)) 0 m) = ptrR base m n i := by
  apply List.ext_getElem
  · simp [ptrR]
  · intro j h1 h2
    rw [List.getElem_set]
    by_cases hj : i = j
    · subst hj; simp [ptrR]
    · rw [if_neg hj]
      have : (i + 1 ≤ j) ↔ (i ≤ j) := by omega
      simp [ptrR, this]
theorem below_ptrR {base m n c N t : Nat} (h : base + (n + 1 - c) ≤ N) : BelowAll N t (ptrR base m n c) := by
  intro v hv
  obtain ⟨q, hq, rfl⟩ := List.mem_map.1 hv
  rw [List.mem_range] at hq
  show Below N t (if c ≤ q then _ else _)
  split
  · exact .msl _ _ _ (by omega)
  · simp

theorem Shape.more {n m : Nat} {R : List (List Int)} (h : Shape n m R) (r : List Int) (hr : r.length = m) : Shape (n + 1) m (R ++ [r]) := by
  refine ⟨by simp [h.1], fun i hi => ?_⟩
  rcases Nat.lt_or_ge i n with h1 | h1
  · have := h.2 i h1
    rwa [List.getD_eq_getElem?_getD, List.getElem?_append_left (by rw [h.1]; exact h1), ← List.getD_eq_getElem?_getD]
  · have : i = n := by omega
    subst this
    rw [List.getD_eq_getElem?_getD, List.getElem?_append_right (by rw [h.1]; exact Nat.le_refl _), h.1, Nat.sub_self]
    simpa using hr
theorem at2_more {R : List (List Int)} (r : List Int) {p : Nat} (h : p < R.length) (q : Nat) : at2 (R ++ [r]) p q = at2 R p q := by
  have e : (R ++ [r]).getD p [] = R.getD p [] := by rw [List.getD_eq_getElem?_getD, List.getElem?_append_left h, ← List.getD_eq_getElem?_getD]
  unfold at2
  rw [e]

/-- All of the reference's table. -/
def fullR (a b : List Int) (R : List (List Int)) : Prop := Shape (a.length + 1) (b.length + 1) R ∧ ∀ i j, i ≤ a.length → j ≤ b.length → at2 R (a.length - i) j = D a b i j

set_option maxRecDepth 100000 in
set_option maxHeartbeats 4000000 in
theorem tableR_ok (a b : List Int) (ha : a.length ≤ 1000) (hb : b.length ≤ 1000) (H : List Blk) (T : Toks) :
    ACall Try.prog 66 [.sl a.length (ints a) .none, .sl b.length (ints b) .none] H T (fun r H' T' => T' = T ∧ r = .msl H.length 0 (a.length + 1) ∧ ∃ R, fullR a b R ∧ H' = H ++ .cells (ptrR (H.length + 1) (b.length + 1) a.length 0) :: tb R) := by
  refine acall_enter 36 [] Try.ntmps66 Try.func66 rfl (fun _ _ => Try.call66 _ _) (by simp) (fun HO => ?_)
  refine aw_reg fun K hK => ?_; simp (maxSteps := 1000000) (disch := omega) [-List.getD_eq_getElem?_getD]; refine hK _ ?_; clear hK K
  refine aw_reg fun K hK => ?_; simp (maxSteps := 1000000) (disch := omega) [-List.getD_eq_getElem?_getD, ← ptrR_zero (H.length + 1) (b.length + 1) a.length]; refine hK _ ?_; clear hK K
  refine aw_then fun K1 hK1 => ?_
  refine aw_reg fun K hK => ?_; simp (maxSteps := 1000000) (disch := omega) [-List.getD_eq_getElem?_getD]; refine hK _ ?_; clear hK K
  refine aw_block ?_
  refine aw_loop (X := Nat × List (List Int)) (fun x => ⟨[(0, .sl a.length (ints a) .none), (1, .sl b.length (ints b) .none), (5, .msl H.length 0 (a.length + 1)), (6, .int .i64 ((x.1 : Nat) - 1 : Int))],
      H ++ .cells (ptrR (H.length + 1) (b.length + 1) a.length x.1) :: tb x.2, T⟩)
    (fun x => x.1 ≤ a.length + 1 ∧ Shape (a.length + 1 - x.1) (b.length + 1) x.2 ∧ ∀ i j, x.1 ≤ i → i ≤ a.length → j ≤ b.length → at2 x.2 (a.length - i) j = D a b i j) (fun x => x.1) (a.length + 1, []) ?_ ?_ ?_
  · exact ⟨Nat.le_refl _, ⟨by simp, fun i hi => by simp at hi⟩, fun i j h1 h2 => by simp only at h1; omega⟩
  · refine weak_to [] [] ?_ ?_ ?_ ?_ (hok_tb HO _ _ (below_ptrR (by simp))) ?_
    all_goals simp [tb]
  · rintro ⟨c, R⟩ ⟨h1, h2, h3⟩
    simp only at h1 h2 h3
    cases c with
    | zero =>
      refine aw_then fun K3 hK3 => ?_
      refine aw_reg fun K hK => ?_; simp (maxSteps := 1000000) (disch := omega) [-List.getD_eq_getElem?_getD]; refine hK _ ?_; clear hK K
      refine aw_if rfl (fun h => absurd h (by simp)) (fun h => ?_)
      refine aw_exit ?_; simp (maxSteps := 1000000) (disch := omega) [-List.getD_eq_getElem?_getD]
      refine hK1 _ ?_; clear hK1
      refine aw_reg fun K hK => ?_; simp (maxSteps := 1000000) (disch := omega) [-List.getD_eq_getElem?_getD]; refine hK _ ?_; clear hK K
      refine aw_ret ?_; simp (maxSteps := 1000000) (disch := omega) [-List.getD_eq_getElem?_getD]
      exact ⟨R, ⟨h2, fun i j hi hj => h3 i j (by omega) hi hj⟩, rfl⟩
    | succ i =>
      obtain ⟨s, hs0⟩ : ∃ s, a.length = i + s := ⟨a.length - i, by omega⟩
      have hs : a.length - i = s := by omega
      have hl : R.length = s := by rw [h2.1]; omega
      have hset := ptrR_set (H.length + 1) (b.length + 1) a.length i (by omega)
      rw [hs] at hset
      refine aw_then fun K3 hK3 => ?_
      refine aw_reg fun K hK => ?_; simp (maxSteps := 1000000) (disch := omega) [-List.getD_eq_getElem?_getD]; refine hK _ ?_; clear hK K
      refine aw_if rfl (fun h => ?_) (fun h => absurd h (by simp))
      refine aw_skip ?_; simp (maxSteps := 1000000) (disch := omega) [-List.getD_eq_getElem?_getD]
      refine hK3 _ ?_; clear hK3
      refine aw_then fun K4 hK4 => ?_
      refine aw_block ?_
      refine aw_reg fun K hK => ?_; simp (maxSteps := 1000000) (disch := omega) [-List.getD_eq_getElem?_getD, tb_len, ints_rep, ptrR_len, hl]; refine hK _ ?_; clear hK K
      rw [show H.length + (s + 1) = H.length + 1 + s by omega, hset, tb_snoc]
      refine aw_reg fun K hK => ?_; simp (maxSteps := 1000000) (disch := omega) [-List.getD_eq_getElem?_getD]; refine hK _ ?_; clear hK K
      refine aw_block ?_
      have h2' : Shape (s + 1) (b.length + 1) (R ++ [List.replicate (b.length + 1) 0]) := by
        have := Shape.more (n := s) (m := b.length + 1) (R := R) ⟨hl, fun q hq => h2.2 q (by omega)⟩ (List.replicate (b.length + 1) 0) (by simp)
        exact this
      refine aw_loop (X := Nat × List (List Int)) (fun x => ⟨[(0, .sl a.length (ints a) .none), (1, .sl b.length (ints b) .none), (5, .msl H.length 0 (a.length + 1)), (6, .int .i64 (i : Nat)), (7, .int .i64 ((x.1 : Nat) - 1 : Int))], H ++ .cells (ptrR (H.length + 1) (b.length + 1) a.length i) :: tb x.2, T⟩)
        (fun x => x.1 ≤ b.length + 1 ∧ Shape (s + 1) (b.length + 1) x.2 ∧ (∀ p q, i + 1 ≤ p → p ≤ a.length → q ≤ b.length → at2 x.2 (a.length - p) q = D a b p q) ∧ (∀ q, x.1 ≤ q → q ≤ b.length → at2 x.2 s q = D a b i q)) (fun x => x.1) (b.length + 1, R ++ [List.replicate (b.length + 1) 0]) ?_ ?_ ?_
      · exact ⟨Nat.le_refl _, h2', fun p q hp hp2 hq => by rw [at2_more _ (by omega)]; exact h3 p q hp hp2 hq, fun q hq hq2 => by simp only at hq; omega⟩
      · refine weak_to [] [] ?_ ?_ ?_ ?_ (hok_tb HO _ _ (below_ptrR (by simp; try omega))) ?_
        all_goals simp
      · rintro ⟨d, R'⟩ ⟨g1, g2, g3, g4⟩
        simp only at g1 g2 g3 g4
        have hl' : R'.length = s + 1 := g2.1
        have hri := g2.2 s (by omega)
        cases d with
        | zero =>
          refine aw_then fun K5 hK5 => ?_
          refine aw_reg fun K hK => ?_; simp (maxSteps := 1000000) (disch := omega) [-List.getD_eq_getElem?_getD]; refine hK _ ?_; clear hK K
          refine aw_if rfl (fun h => absurd h (by simp)) (fun h => ?_)
          refine aw_exit ?_; simp (maxSteps := 1000000) (disch := omega) [-List.getD_eq_getElem?_getD]
          refine hK4 _ ?_; clear hK4
          refine aw_reg0 fun K hK => ?_; simp (maxSteps := 1000000) (disch := omega) [-List.getD_eq_getElem?_getD]
          refine hK _ ?_; clear hK K
          refine ⟨(i, R'), ⟨by show i ≤ _; omega, by show Shape (a.length + 1 - i) _ _; rw [show a.length + 1 - i = s + 1 by omega]; exact g2, fun p q hp hp2 hq => ?_⟩, by show i < i + 1; omega, ?_⟩
          · rcases Nat.lt_or_ge i p with hip | hip
            · exact g3 p q hip hp2 hq
            · have : p = i := by simp only at hp; omega
              subst this
              rw [hs]
              exact g4 q (Nat.zero_le _) hq
          · refine weak_to [] [] ?_ ?_ ?_ ?_ (hok_tb HO _ _ (below_ptrR (by simp; try omega))) ?_
            all_goals simp
        | succ j =>
          refine aw_then fun K5 hK5 => ?_
          refine aw_reg fun K hK => ?_; simp (maxSteps := 1000000) (disch := omega) [-List.getD_eq_getElem?_getD]; refine hK _ ?_; clear hK K
          refine aw_if rfl (fun h => ?_) (fun h => absurd h (by simp))
          refine aw_skip ?_; simp (maxSteps := 1000000) (disch := omega) [-List.getD_eq_getElem?_getD]
          refine hK5 _ ?_; clear hK5
          refine aw_then fun K6 hK6 => ?_
          refine aw_block ?_
          refine aw_block ?_
          have key : ∀ e v, v = D a b i j → envLe (H.length + (s + 1 + 1)) T.length e [(0, .sl a.length (ints a) .none), (1, .sl b.length (ints b) .none), (5, .msl H.length 0 (a.length + 1)), (6, .int .i64 (i : Nat)), (7, .int .i64 (j : Nat))] → K6 ⟨e, H ++ .cells (ptrR (H.length + 1) (b.length + 1) a.length i) :: tb (put2 R' s j v), T⟩ := by
            intro e v hv he
            have gs := g2.put s j v
            have hb1 := below_ptrR (base := H.length + 1) (m := b.length + 1) (n := a.length) (c := i) (N := H.length + 1 + (put2 R' s j v).length) (t := T.length) (by rw [gs.1]; omega)
            have hb2 : (H ++ Blk.cells (ptrR (H.length + 1) (b.length + 1) a.length i) :: tb (put2 R' s j v)).length = H.length + (s + 1 + 1) := by rw [List.length_append, List.length_cons, tb_len, gs.1]
            refine hK6 _ (aw_weak ⟨[(0, .sl a.length (ints a) .none), (1, .sl b.length (ints b) .none), (5, .msl H.length 0 (a.length + 1)), (6, .int .i64 (i : Nat)), (7, .int .i64 (j : Nat))], H ++ .cells (ptrR (H.length + 1) (b.length + 1) a.length i) :: tb (put2 R' s j v), T⟩ (weak_to [] [] (by simp) (by simp) (by simp) (by simp) (hok_tb HO _ _ hb1) (by rw [hb2]; exact he)) ?_)
            refine aw_reg0 fun K hK => ?_; simp (maxSteps := 1000000) (disch := omega) [-List.getD_eq_getElem?_getD]
            refine hK _ ?_; clear hK K
            refine ⟨(j, put2 R' s j v), ⟨by show j ≤ _; omega, gs, fun p q hp hp2 hq => ?_, fun q hq hq2 => ?_⟩, by show j < j + 1; omega, ?_⟩
            · rw [at2_put g2 (by omega) (by omega), if_neg (by omega)]
              exact g3 p q hp hp2 hq
            · rw [at2_put g2 (by omega) (by omega)]
              by_cases hqj : q = j
              · rw [if_pos ⟨rfl, hqj⟩, hv, hqj]
              · rw [if_neg (fun hh => hqj hh.2)]
                exact g4 q (by simp only at hq; omega) hq2
            · refine weak_to [] [] ?_ ?_ ?_ ?_ (hok_tb HO _ _ hb1) ?_
              all_goals simp
          clear hK6
          by_cases hi : i = a.length
          · have b1 : ((i : Int) == (a.length : Int)) = true := by simp; omega
            have hv : (b.length : Int) - j = D a b i j := by rw [hi, D_row a b j (by omega)]
            refine aw_reg fun K hK => ?_; simp (maxSteps := 1000000) (disch := omega) [-List.getD_eq_getElem?_getD, b1]; refine hK _ ?_; clear hK K
            refine aw_if rfl (fun h => ?_) (fun h => absurd h (by simp))
            refine aw_reg0 fun K hK => ?_; simp (maxSteps := 1000000) (disch := omega) [-List.getD_eq_getElem?_getD, -List.set_append_right, ptrR_at, ptrR_len, tb_at, tb_set, new_at1, new_set1, tb_len, getD_ints, ints_set, hl', hri, hs]
            refine hK _ ?_; clear hK K
            refine key _ _ hv ?_; simp; try omega
          · have b1 : ((i : Int) == (a.length : Int)) = false := by simp; omega
            have hri1 := g2.2 (s - 1) (by omega)
            have hs1 : a.length - (i + 1) = s - 1 := by omega
            refine aw_reg fun K hK => ?_; simp (maxSteps := 1000000) (disch := omega) [-List.getD_eq_getElem?_getD, b1]; refine hK _ ?_; clear hK K
            refine aw_if rfl (fun h => absurd h (by simp)) (fun h => ?_)
            by_cases hj : j = b.length
            · have b2 : ((j : Int) == (b.length : Int)) = true := by simp; omega
              have hv : (a.length : Int) - i = D a b i j := by rw [hj, D_col a b i (by omega)]
              refine aw_reg fun K hK => ?_; simp (maxSteps := 1000000) (disch := omega) [-List.getD_eq_getElem?_getD, b2]; refine hK _ ?_; clear hK K
              refine aw_if rfl (fun h => ?_) (fun h => absurd h (by simp))
              refine aw_reg0 fun K hK => ?_; simp (maxSteps := 1000000) (disch := omega) [-List.getD_eq_getElem?_getD, -List.set_append_right, ptrR_at, ptrR_len, tb_at, tb_set, new_at1, new_set1, tb_len, getD_ints, ints_set, hl', hri, hs]
              refine hK _ ?_; clear hK K
              refine key _ _ hv ?_; simp; try omega
            · have b2 : ((j : Int) == (b.length : Int)) = false := by simp; omega
              have r1 : (R'.getD (s - 1) []).getD (j + 1) 0 = D a b (i + 1) (j + 1) := by have := g3 (i + 1) (j + 1) (by omega) (by omega) (by omega); rwa [hs1] at this
              have r2 : (R'.getD (s - 1) []).getD j 0 = D a b (i + 1) j := by have := g3 (i + 1) j (by omega) (by omega) (by omega); rwa [hs1] at this
              have r3 : (R'.getD s []).getD (j + 1) 0 = D a b i (j + 1) := g4 (j + 1) (by omega) (by omega)
              have l1 := D_le a b (i + 1) (j + 1)
              have l2 := D_le a b (i + 1) j
              have l3 := D_le a b i (j + 1)
              refine aw_reg fun K hK => ?_; simp (maxSteps := 1000000) (disch := omega) [-List.getD_eq_getElem?_getD, b2]; refine hK _ ?_; clear hK K
              refine aw_if rfl (fun h => absurd h (by simp)) (fun h => ?_)
              by_cases hc : a.getD i 0 = b.getD j 0
              · have b3 : (a.getD i 0 == b.getD j 0) = true := by simpa using hc
                refine aw_draw [] [] [] drawMixed (by kernel_rfl) (by kernel_rfl) fun K hK => ?_; simp (maxSteps := 1000000) (disch := omega) [-List.getD_eq_getElem?_getD, getD_ints, b3]
                refine hK _ ?_; clear hK K
                refine aw_if rfl (fun h => ?_) (fun h => absurd h (by simp))
                refine aw_draw0 [15] [0, 0, 0, 0, 0, 0, 0, 0, 0, 0, 0, 0, 0, 0, 0, 0] [[]] drawMixed (by kernel_rfl) (by kernel_rfl) fun K hK => ?_; simp (maxSteps := 1000000) (disch := omega) [-List.getD_eq_getElem?_getD, -List.set_append_right, ptrR_at, ptrR_len, tb_at, tb_set, new_at1, new_set1, tb_len, getD_ints, ints_set, hl', hri, hs, hri1, hs1, r1]
                refine hK _ ?_; clear hK K
                refine key _ _ (D_eq (by omega) (by omega) hc).symm ?_; simp; try omega
              · have b3 : (a.getD i 0 == b.getD j 0) = false := by simpa using hc
                refine aw_draw [] [] [] drawMixed (by kernel_rfl) (by kernel_rfl) fun K hK => ?_; simp (maxSteps := 1000000) (disch := omega) [-List.getD_eq_getElem?_getD, getD_ints, b3]
                refine hK _ ?_; clear hK K
                refine aw_if rfl (fun h => absurd h (by simp)) (fun h => ?_)
                refine aw_draw0 [33] [0, 0, 0, 0, 0, 0, 0, 0, 0, 0, 0, 0, 0, 0, 0, 0, 0, 0, 0, 0, 0, 0, 0, 0, 0, 0, 0, 0, 0, 0, 0, 0, 0, 0] [[]] drawMixed (by kernel_rfl) (by kernel_rfl) fun K hK => ?_; simp (maxSteps := 1000000) (disch := omega) [-List.getD_eq_getElem?_getD, -List.set_append_right, ptrR_at, ptrR_len, tb_at, tb_set, new_at1, new_set1, tb_len, getD_ints, ints_set, hl', hri, hs, hri1, hs1, r1, r2, r3]
                refine hK _ ?_; clear hK K
                refine key _ _ ?_ ?_; rotate_left 1; simp; try omega
                rw [D_ne (by omega) (by omega) hc]
                omega

theorem distR_ok (a b : List Int) (ha : a.length ≤ 1000) (hb : b.length ≤ 1000) (H : List Blk) (T : Toks) : ACall Try.prog 52 [.sl a.length (ints a) .none, .sl b.length (ints b) .none] H T (Is (.int .i64 (ed a b : Nat)) H T) := by
  refine ACall.drop' ?_ (by simp)
  refine acall_enter 5 [] Try.ntmps52 Try.func52 rfl (fun _ _ => Try.call52 _ _) (by simp) (fun HO => ?_)
  refine aw_reg fun K hK => ?_; simp (maxSteps := 1000000) (disch := omega) [-List.getD_eq_getElem?_getD]; refine hK _ ?_; clear hK K
  refine aw_reg fun K hK => ?_; simp (maxSteps := 1000000) (disch := omega) [-List.getD_eq_getElem?_getD]
  refine ⟨_, tableR_ok a b ha hb _ _, ?_⟩
  rintro v H' T' ⟨rfl, rfl, R, hR, rfl⟩
  have hl : R.length = a.length + 1 := hR.1.1
  have hr := hR.1.2 a.length (by omega)
  have hv := hR.2 0 0 (Nat.zero_le _) (Nat.zero_le _)
  rw [Nat.sub_zero] at hv
  have hv' : (R.getD a.length []).getD 0 0 = (ed a b : Nat) := hv
  simp (maxSteps := 1000000) (disch := omega) [-List.getD_eq_getElem?_getD, ptrR_at, ptrR_len, tb_at, new_at1, getD_ints, hr, hv', hl]
  refine hK _ ?_; clear hK K
  refine aw_ret ?_; simp (maxSteps := 1000000) (disch := omega) [-List.getD_eq_getElem?_getD]
end Go.Proofs.Ytbijefgmleagnaa

namespace Go.Proofs.Ytbijefgmleagnaa
open Go Go.Am Edit
set_option linter.unusedVariables false

theorem charsR_ok (s : List UInt8) (hs : s.length ≤ 1099511627776) (H : List Blk) (T : Toks) : ACall Try.prog 53 [.str s] H T (Is (.sl (chars s).length (ints (chars s)) .none) H T) := by
  refine ACall.drop' ?_ (by simp)
  refine acall_enter 10 [] Try.ntmps53 Try.func53 rfl (fun _ _ => Try.call53 _ _) (by simp) (fun HO => ?_)
  refine aw_reg fun K hK => ?_; simp (maxSteps := 1000000) (disch := omega) [-List.getD_eq_getElem?_getD]; refine hK _ ?_; clear hK K
  refine aw_reg fun K hK => ?_; simp (maxSteps := 1000000) (disch := omega) [-List.getD_eq_getElem?_getD]; refine hK _ ?_; clear hK K
  refine aw_then fun K1 hK1 => ?_
  refine aw_reg fun K hK => ?_; simp (maxSteps := 1000000) (disch := omega) [-List.getD_eq_getElem?_getD]; refine hK _ ?_; clear hK K
  refine aw_block ?_
  refine aw_own 3 0 1 [] (by omega) (by simp) ?_
  refine aw_loop (X := Nat × Nat × List Int) (fun x => ⟨[(3, .sl x.2.2.length (ints x.2.2) (.own T.length)), (7, .ptr H.length 0)], H ++ [.iter s x.2.1], T ++ [(x.2.2.length, 1)]⟩)
    (fun x => s.length ≤ x.2.1 + x.1 ∧ chars s = x.2.2 ++ chN s x.1 x.2.1 ∧ x.2.2.length + x.1 ≤ s.length) (fun x => x.1) (s.length, 0, []) ?_ ?_ ?_
  · exact ⟨by simp, rfl, by simp⟩
  · refine weak_to [] [] ?_ ?_ ?_ ?_ (HO.snocIter.toks (by simp)) ?_
    all_goals simp
  · rintro ⟨n, p, out⟩ ⟨h1, h2, h3⟩
    simp only at h1 h2 h3
    obtain ⟨d1, d2⟩ := decode_facts ⟨s.toArray⟩ p
    by_cases hp : p < s.length
    · have hst := chN_step s n p hp h1
      have hn : 0 < n := by
        rcases Nat.eq_zero_or_pos n with h0 | h0
        · omega
        · exact h0
      have hw : IntKind.i64.wrap ((Utf8.decode ⟨s.toArray⟩ p).1 : Int) = ((Utf8.decode ⟨s.toArray⟩ p).1 : Int) := by rw [IntKind.wrap_i64]; omega
      refine aw_reg fun K hK => ?_; simp (maxSteps := 1000000) (disch := omega) [-List.getD_eq_getElem?_getD, hp]; refine hK _ ?_; clear hK K
      refine aw_then fun K2 hK2 => ?_
      refine aw_if rfl (fun h => ?_) (fun h => absurd h (by simp))
      refine aw_skip ?_; simp (maxSteps := 1000000) (disch := omega) [-List.getD_eq_getElem?_getD]
      refine hK2 _ ?_; clear hK2
      refine aw_block ?_
      refine aw_reg fun K hK => ?_; simp (maxSteps := 1000000) (disch := omega) [-List.getD_eq_getElem?_getD]; refine hK _ ?_; clear hK K
      refine aw_reg0 fun K hK => ?_; simp (maxSteps := 1000000) (disch := omega) [-List.getD_eq_getElem?_getD, hw]
      refine hK _ ?_; clear hK K
      refine ⟨(n - 1, p + (Utf8.decode ⟨s.toArray⟩ p).2, out ++ [((Utf8.decode ⟨s.toArray⟩ p).1 : Int)]), ⟨by show s.length ≤ (p + (Utf8.decode ⟨s.toArray⟩ p).2) + (n - 1); omega, by rw [h2, hst]; simp, by simp; omega⟩, by show n - 1 < n; omega, ?_⟩
      refine weak_to [] [] ?_ ?_ ?_ ?_ (HO.snocIter.toks (by simp)) ?_
      · simp
      · simp
      · simp
      · simp
      · simp [ints_snoc]
    · have he := chN_end s n p hp
      refine aw_reg fun K hK => ?_; simp (maxSteps := 1000000) (disch := omega) [-List.getD_eq_getElem?_getD, hp]; refine hK _ ?_; clear hK K
      refine aw_then fun K2 hK2 => ?_
      refine aw_if rfl (fun h => absurd h (by simp)) (fun h => ?_)
      refine aw_exit ?_; simp (maxSteps := 1000000) (disch := omega) [-List.getD_eq_getElem?_getD]
      refine hK1 _ ?_; clear hK1
      refine aw_reg fun K hK => ?_; simp (maxSteps := 1000000) (disch := omega) [-List.getD_eq_getElem?_getD]; refine hK _ ?_; clear hK K
      refine aw_ret ?_; simp (maxSteps := 1000000) (disch := omega) [-List.getD_eq_getElem?_getD]
      rw [h2, he]
      simp

theorem eq_getD {α : Type} [DecidableEq α] {a b : List α} (d : α) (h : a.length = b.length) (hj : ∀ j, j < a.length → a.getD j d = b.getD j d) : a = b := by
  apply List.ext_getElem h
  intro i h1 h2
  have := hj i h1
  rwa [List.getD_eq_getElem?_getD, List.getD_eq_getElem?_getD, List.getElem?_eq_getElem h1, List.getElem?_eq_getElem h2] at this


theorem textR_ok (s t : List UInt8) (hs : s.length ≤ 1000) (ht : t.length ≤ 1000) (H : List Blk) (T : Toks) : ACall Try.prog 41 [.str s, .str t] H T (Is (.int .i64 (ed (chars s) (chars t) : Nat)) H T) := by
  have l1 := chars_len s
  have l2 := chars_len t
  refine acall_enter 5 [] Try.ntmps41 Try.func41 rfl (fun _ _ => Try.call41 _ _) (by simp) (fun HO => ?_)
  refine aw_reg fun K hK => ?_; simp (maxSteps := 1000000) (disch := omega) [-List.getD_eq_getElem?_getD]; refine hK _ ?_; clear hK K
  refine aw_reg fun K hK => ?_; simp (maxSteps := 1000000) (disch := omega) [-List.getD_eq_getElem?_getD]
  refine acall_is (charsR_ok s (by omega) H T) ?_; simp (maxSteps := 1000000) (disch := omega) [-List.getD_eq_getElem?_getD]
  refine acall_is (charsR_ok t (by omega) H T) ?_; simp (maxSteps := 1000000) (disch := omega) [-List.getD_eq_getElem?_getD]
  refine acall_is (distR_ok (chars s) (chars t) (by omega) (by omega) H T) ?_; simp (maxSteps := 1000000) (disch := omega) [-List.getD_eq_getElem?_getD]
  refine hK _ ?_; clear hK K
  refine aw_ret ?_; simp (maxSteps := 1000000) (disch := omega) [-List.getD_eq_getElem?_getD]
  exact ⟨rfl, rfl, rfl⟩

end Go.Proofs.Ytbijefgmleagnaa

namespace Go.Proofs.Ytbijefgmleagnaa
open Go Go.Am Edit
set_option linter.unusedVariables false

@[simp] theorem ite_maxN1 (m n : Nat) : (if m < n then (n : Int) else (m : Int)) = max (m : Int) n := by split <;> omega
@[simp] theorem ite_minN1 (m n : Nat) : (if n < m then (n : Int) else (m : Int)) = min (m : Int) n := by split <;> omega

/-- The distance of two beginnings, no more than far. -/
def M (a b : List Int) (far i j : Nat) : Int := min (E a b i j) far

theorem M_far {a b : List Int} {far i j : Nat} (hi : i ≤ a.length) (hj : j ≤ b.length) (h : i + far ≤ j ∨ j + far ≤ i) : M a b far i j = far := by
  unfold M E
  have := ed_len (a.take i) (b.take j)
  rw [List.length_take, List.length_take] at this
  omega
theorem M_le (a b : List Int) (far i j : Nat) : 0 ≤ M a b far i j ∧ M a b far i j ≤ far := by
  have := (E_le a b i j).1
  unfold M
  omega

set_option maxRecDepth 100000 in
set_option maxHeartbeats 4000000 in
theorem within_ok (a b : List Int) (k : Int) (hk : -9223372036854775808 ≤ k ∧ k ≤ 9223372036854775807) (ha : a.length ≤ 1000) (hb : b.length ≤ 1000) (H : List Blk) (T : Toks) (ta tb_ : Tag) :
    ACall Try.prog 34 [.sl a.length (ints a) ta, .sl b.length (ints b) tb_, .int .i64 k] H T (Is (.tup [.int .i64 (if (ed a b : Int) ≤ k then (ed a b : Int) else 0), .bool (decide ((ed a b : Int) ≤ k))]) H T) := by
  refine ACall.untag1 (ACall.untag2 ?_)
  refine ACall.dropT ?_ (by simp)
  have hmax := ed_max a b
  have hlen := ed_len a b
  refine acall_enter 55 [] Try.ntmps34 Try.func34 rfl (fun _ _ => Try.call34 _ _) (by simp) (fun HO => ?_)
  refine aw_reg fun K hK => ?_; simp (maxSteps := 1000000) (disch := omega) [-List.getD_eq_getElem?_getD]; refine hK _ ?_; clear hK K
  refine aw_reg fun K hK => ?_; simp (maxSteps := 1000000) (disch := omega) [-List.getD_eq_getElem?_getD]; refine hK _ ?_; clear hK K
  refine aw_then fun K1 hK1 => ?_
  generalize hk' : min k (max (a.length : Int) (b.length : Int)) = k' at *
  by_cases g1 : k' < 0
  · have b1 : decide (k' < 0) = true := by simpa using g1
    have hn : ¬ (ed a b : Int) ≤ k := by omega
    refine aw_reg fun K hK => ?_; simp (maxSteps := 1000000) (disch := omega) [-List.getD_eq_getElem?_getD, b1, g1, hk']; refine hK _ ?_; clear hK K
    refine aw_if rfl (fun h => ?_) (fun h => absurd h (by simp))
    refine aw_reg fun K hK => ?_; simp (maxSteps := 1000000) (disch := omega) [-List.getD_eq_getElem?_getD]; refine hK _ ?_; clear hK K
    refine aw_ret ?_; simp (maxSteps := 1000000) (disch := omega) [-List.getD_eq_getElem?_getD]
    omega
  · have b1 : decide (k' < 0) = false := by simp; omega
    obtain ⟨kk, rfl⟩ : ∃ kk : Nat, k' = kk := ⟨k'.toNat, by omega⟩
    by_cases g2 : (kk : Int) < (a.length : Int) - b.length
    · have b2 : decide ((kk : Int) < (a.length : Int) - b.length) = true := by simpa using g2
      have hn : ¬ (ed a b : Int) ≤ k := by omega
      refine aw_reg fun K hK => ?_; simp (maxSteps := 1000000) (disch := omega) [-List.getD_eq_getElem?_getD, b1, g1, b2, g2, hk']; refine hK _ ?_; clear hK K
      refine aw_if rfl (fun h => ?_) (fun h => absurd h (by simp))
      refine aw_reg fun K hK => ?_; simp (maxSteps := 1000000) (disch := omega) [-List.getD_eq_getElem?_getD]; refine hK _ ?_; clear hK K
      refine aw_ret ?_; simp (maxSteps := 1000000) (disch := omega) [-List.getD_eq_getElem?_getD]
      omega
    · have b2 : decide ((kk : Int) < (a.length : Int) - b.length) = false := by simpa using g2
      by_cases g3 : (kk : Int) < (b.length : Int) - a.length
      · have b3 : decide ((kk : Int) < (b.length : Int) - a.length) = true := by simpa using g3
        have hn : ¬ (ed a b : Int) ≤ k := by omega
        refine aw_reg fun K hK => ?_; simp (maxSteps := 1000000) (disch := omega) [-List.getD_eq_getElem?_getD, b1, g1, b2, g2, b3, g3, hk']; refine hK _ ?_; clear hK K
        refine aw_if rfl (fun h => ?_) (fun h => absurd h (by simp))
        refine aw_reg fun K hK => ?_; simp (maxSteps := 1000000) (disch := omega) [-List.getD_eq_getElem?_getD]; refine hK _ ?_; clear hK K
        refine aw_ret ?_; simp (maxSteps := 1000000) (disch := omega) [-List.getD_eq_getElem?_getD]
        omega
      · have b3 : decide ((kk : Int) < (b.length : Int) - a.length) = false := by simpa using g3
        have hkk : kk ≤ 1000 := by omega
        refine aw_reg fun K hK => ?_; simp (maxSteps := 1000000) (disch := omega) [-List.getD_eq_getElem?_getD, b1, g1, b2, g2, b3, g3, hk']; refine hK _ ?_; clear hK K
        refine aw_if rfl (fun h => absurd h (by simp)) (fun h => ?_)
        refine aw_skip ?_; simp (maxSteps := 1000000) (disch := omega) [-List.getD_eq_getElem?_getD]
        refine hK1 _ ?_; clear hK1
        refine aw_reg fun K hK => ?_; simp (maxSteps := 1000000) (disch := omega) [-List.getD_eq_getElem?_getD]; refine hK _ ?_; clear hK K
        refine aw_reg fun K hK => ?_; simp (maxSteps := 1000000) (disch := omega) [-List.getD_eq_getElem?_getD, ints_rep]; refine hK _ ?_; clear hK K
        refine aw_then fun K1 hK1 => ?_
        refine aw_reg fun K hK => ?_; simp (maxSteps := 1000000) (disch := omega) [-List.getD_eq_getElem?_getD]; refine hK _ ?_; clear hK K
        refine aw_block ?_
        refine aw_loop (X := Nat × List Int) (fun x => ⟨[(0, .sl a.length (ints a) .none), (1, .sl b.length (ints b) .none), (2, .int .i64 (kk : Nat)), (8, .int .i64 (kk + 1 : Nat)), (9, .msl H.length 0 (b.length + 1)), (52, .msl H.length 0 (b.length + 1)), (53, .int .i64 (b.length + 1 : Nat)), (54, .int .i64 (x.1 : Nat))], H ++ [.cells (ints x.2)], T⟩)
          (fun x => x.1 ≤ b.length + 1 ∧ x.2.length = b.length + 1 ∧ ∀ j, j < x.1 → x.2.getD j 0 = M a b (kk + 1) 0 j) (fun x => b.length + 1 - x.1) (0, List.replicate (b.length + 1) 0) ?_ ?_ ?_
        · exact ⟨by simp only; omega, by simp, fun j hj => absurd hj (Nat.not_lt_zero _)⟩
        · refine weak_to [] [] ?_ ?_ ?_ ?_ (HO.snoc ?_) ?_
          all_goals simp
        · rintro ⟨q, r⟩ ⟨h1, h2, h3⟩
          simp only at h1 h2 h3
          refine aw_reg fun K hK => ?_; simp (maxSteps := 1000000) (disch := omega) [-List.getD_eq_getElem?_getD]; refine hK _ ?_; clear hK K
          refine aw_then fun K2 hK2 => ?_
          refine aw_if rfl (fun hq => ?_) (fun hq => ?_)
          · simp [-List.getD_eq_getElem?_getD] at hq
            refine aw_skip ?_; simp (maxSteps := 1000000) (disch := omega) [-List.getD_eq_getElem?_getD]
            refine hK2 _ ?_; clear hK2
            refine aw_then fun K3 hK3 => ?_
            refine aw_block ?_
            refine aw_reg fun K hK => ?_; simp (maxSteps := 1000000) (disch := omega) [-List.getD_eq_getElem?_getD]; refine hK _ ?_; clear hK K
            refine aw_reg0 fun K hK => ?_; simp (maxSteps := 1000000) (disch := omega) [-List.getD_eq_getElem?_getD, ints_set]
            refine hK _ ?_; clear hK K
            refine hK3 _ ?_; clear hK3
            refine aw_reg0 fun K hK => ?_; simp (maxSteps := 1000000) (disch := omega) [-List.getD_eq_getElem?_getD]
            refine hK _ ?_; clear hK K
            refine ⟨(q + 1, r.set q (min (q : Int) ((kk : Int) + 1))), ⟨by show q + 1 ≤ _; omega, by simpa using h2, fun j hj => ?_⟩, by show b.length + 1 - (q + 1) < b.length + 1 - q; omega, ?_⟩
            · rw [getD_set]
              by_cases hqj : q = j
              · subst hqj
                rw [if_pos ⟨rfl, by omega⟩]
                unfold M
                rw [E_zero a b q (by omega)]
                omega
              · rw [if_neg (fun hh => hqj hh.1)]
                exact h3 j (by simp only at hj; omega)
            · refine weak_to [] [] ?_ ?_ ?_ ?_ (HO.snoc ?_) ?_
              all_goals simp
          · simp [-List.getD_eq_getElem?_getD] at hq
            refine aw_exit ?_; simp (maxSteps := 1000000) (disch := omega) [-List.getD_eq_getElem?_getD]
            refine hK1 _ ?_; clear hK1
            have hq2 : q = b.length + 1 := by omega
            subst hq2
            refine aw_then fun K2 hK2 => ?_
            refine aw_reg fun K hK => ?_; simp (maxSteps := 1000000) (disch := omega) [-List.getD_eq_getElem?_getD]; refine hK _ ?_; clear hK K
            refine aw_block ?_
            refine aw_loop (X := Nat × List Int) (fun x => ⟨[(0, .sl a.length (ints a) .none), (1, .sl b.length (ints b) .none), (2, .int .i64 (kk : Nat)), (8, .int .i64 (kk + 1 : Nat)), (9, .msl H.length 0 (b.length + 1)), (11, .int .i64 (x.1 + 1 : Nat))], H ++ [.cells (ints x.2)], T⟩)
              (fun x => x.1 ≤ a.length ∧ x.2.length = b.length + 1 ∧ ∀ j, j ≤ b.length → x.1 ≤ j + kk → x.2.getD j 0 = M a b (kk + 1) x.1 j) (fun x => a.length - x.1) (0, r) ?_ ?_ ?_
            · exact ⟨Nat.zero_le _, h2, fun j hj _ => h3 j (by omega)⟩
            · refine weak_to [] [] ?_ ?_ ?_ ?_ (HO.snoc ?_) ?_
              all_goals simp
            · rintro ⟨i, r⟩ ⟨h1, h2, h3⟩
              simp only at h1 h2 h3
              refine aw_then fun K3 hK3 => ?_
              refine aw_reg fun K hK => ?_; simp (maxSteps := 1000000) (disch := omega) [-List.getD_eq_getElem?_getD]; refine hK _ ?_; clear hK K
              refine aw_if rfl (fun hi => ?_) (fun hi => ?_)
              · simp [-List.getD_eq_getElem?_getD] at hi
                have hi2 : i < a.length := by omega
                refine aw_skip ?_; simp (maxSteps := 1000000) (disch := omega) [-List.getD_eq_getElem?_getD]
                refine hK3 _ ?_; clear hK3
                refine aw_then fun K4 hK4 => ?_
                refine aw_block ?_
                have elo : max 1 ((i : Int) + 1 - kk) = ((i - kk + 1 : Nat) : Int) := by omega
                have ehi : min (b.length : Int) ((i : Int) + 1 + kk) = ((min b.length (i + 1 + kk) : Nat) : Int) := by omega
                have hlo : i - kk ≤ b.length := by omega
                generalize hlo' : i - kk = lo at *
                generalize hhi' : min b.length (i + 1 + kk) = hi3 at *
                have r0 := h3 lo hlo (by omega)
                refine aw_reg fun K hK => ?_; simp (maxSteps := 1000000) (disch := omega) [-List.getD_eq_getElem?_getD, elo, ehi]; refine hK _ ?_; clear hK K
                refine aw_reg fun K hK => ?_; simp (maxSteps := 1000000) (disch := omega) [-List.getD_eq_getElem?_getD, getD_ints, r0]; refine hK _ ?_; clear hK K
                refine aw_reg fun K hK => ?_; simp (maxSteps := 1000000) (disch := omega) [-List.getD_eq_getElem?_getD, ints_set]; refine hK _ ?_; clear hK K
                refine aw_then fun K5 hK5 => ?_
                have key : ∀ e r', r'.length = b.length + 1 → r'.getD lo 0 = M a b (kk + 1) (i + 1) lo → (∀ j, lo < j → j ≤ b.length → r'.getD j 0 = M a b (kk + 1) i j) → envLe (H.length + 1) T.length e [(0, .sl a.length (ints a) .none), (1, .sl b.length (ints b) .none), (2, .int .i64 (kk : Nat)), (8, .int .i64 (kk + 1 : Nat)), (9, .msl H.length 0 (b.length + 1)), (11, .int .i64 (i + 1 : Nat)), (12, .int .i64 (lo + 1 : Nat)), (13, .int .i64 (hi3 : Nat)), (14, .int .i64 (M a b (kk + 1) i lo))] → K5 ⟨e, H ++ [.cells (ints r')], T⟩ := by
                  intro e r' q1 q2 q3 he
                  refine hK5 _ (aw_weak ⟨[(0, .sl a.length (ints a) .none), (1, .sl b.length (ints b) .none), (2, .int .i64 (kk : Nat)), (8, .int .i64 (kk + 1 : Nat)), (9, .msl H.length 0 (b.length + 1)), (11, .int .i64 (i + 1 : Nat)), (12, .int .i64 (lo + 1 : Nat)), (13, .int .i64 (hi3 : Nat)), (14, .int .i64 (M a b (kk + 1) i lo))], H ++ [.cells (ints r')], T⟩ (weak_to [] [] (by simp) (by simp) (by simp) (by simp) (HO.snoc (by simp)) (by simpa using he)) ?_)
                  refine aw_reg fun K hK => ?_; simp (maxSteps := 1000000) (disch := omega) [-List.getD_eq_getElem?_getD]; refine hK _ ?_; clear hK K
                  refine aw_block ?_
                  refine aw_loop (X := Nat × List Int) (fun x => ⟨[(0, .sl a.length (ints a) .none), (1, .sl b.length (ints b) .none), (2, .int .i64 (kk : Nat)), (8, .int .i64 (kk + 1 : Nat)), (9, .msl H.length 0 (b.length + 1)), (11, .int .i64 (i + 1 : Nat)), (13, .int .i64 (hi3 : Nat)), (14, .int .i64 (M a b (kk + 1) i x.1)), (15, .int .i64 (x.1 + 1 : Nat))], H ++ [.cells (ints x.2)], T⟩)
                    (fun x => lo ≤ x.1 ∧ x.1 ≤ max lo hi3 ∧ x.2.length = b.length + 1 ∧ (∀ j, lo ≤ j → j ≤ x.1 → x.2.getD j 0 = M a b (kk + 1) (i + 1) j) ∧ (∀ j, x.1 < j → j ≤ b.length → x.2.getD j 0 = M a b (kk + 1) i j)) (fun x => b.length - x.1) (lo, r') ?_ ?_ ?_
                  · refine ⟨Nat.le_refl _, by simp only; omega, q1, fun j hj1 hj2 => ?_, q3⟩
                    have : j = lo := by simp only at hj2; omega
                    rw [this]; exact q2
                  · refine weak_to [] [] ?_ ?_ ?_ ?_ (HO.snoc ?_) ?_
                    all_goals simp
                  · clear q1 q2 q3 he
                    rintro ⟨j, r'⟩ ⟨f1, f2, f3, f4, f5⟩
                    simp only at f1 f2 f3 f4 f5
                    refine aw_then fun K6 hK6 => ?_
                    refine aw_reg fun K hK => ?_; simp (maxSteps := 1000000) (disch := omega) [-List.getD_eq_getElem?_getD]; refine hK _ ?_; clear hK K
                    refine aw_if rfl (fun hj => ?_) (fun hj => ?_)
                    · simp [-List.getD_eq_getElem?_getD] at hj
                      have hjb : j < b.length := by omega
                      have s1 := f5 (j + 1) (by omega) (by omega)
                      have s2 := f4 j f1 (Nat.le_refl _)
                      have t1 := M_le a b (kk + 1) i (j + 1)
                      have t2 := M_le a b (kk + 1) i j
                      have t3 := M_le a b (kk + 1) (i + 1) j
                      refine aw_skip ?_; simp (maxSteps := 1000000) (disch := omega) [-List.getD_eq_getElem?_getD]
                      refine hK6 _ ?_; clear hK6
                      refine aw_then fun K7 hK7 => ?_
                      refine aw_block ?_
                      refine aw_reg fun K hK => ?_; simp (maxSteps := 1000000) (disch := omega) [-List.getD_eq_getElem?_getD, getD_ints, s1]; refine hK _ ?_; clear hK K
                      refine aw_then fun K8 hK8 => ?_
                      have key8 : ∀ e, envLe (H.length + 1) T.length e [(0, .sl a.length (ints a) .none), (1, .sl b.length (ints b) .none), (2, .int .i64 (kk : Nat)), (8, .int .i64 (kk + 1 : Nat)), (9, .msl H.length 0 (b.length + 1)), (11, .int .i64 (i + 1 : Nat)), (13, .int .i64 (hi3 : Nat)), (14, .int .i64 (M a b (kk + 1) i j)), (15, .int .i64 (j + 1 : Nat)), (16, .int .i64 (M a b (kk + 1) i (j + 1)))] → K8 ⟨e, H ++ [.cells (ints r')], T⟩ := by
                        intro e he
                        refine hK8 _ (aw_weak ⟨[(0, .sl a.length (ints a) .none), (1, .sl b.length (ints b) .none), (2, .int .i64 (kk : Nat)), (8, .int .i64 (kk + 1 : Nat)), (9, .msl H.length 0 (b.length + 1)), (11, .int .i64 (i + 1 : Nat)), (13, .int .i64 (hi3 : Nat)), (14, .int .i64 (M a b (kk + 1) i j)), (15, .int .i64 (j + 1 : Nat)), (16, .int .i64 (M a b (kk + 1) i (j + 1)))], H ++ [.cells (ints r')], T⟩ (weak_to [] [] (by simp) (by simp) (by simp) (by simp) (HO.snoc (by simp)) (by simpa using he)) ?_)
                        refine aw_reg fun K hK => ?_; simp (maxSteps := 1000000) (disch := omega) [-List.getD_eq_getElem?_getD]; refine hK _ ?_; clear hK K
                        refine aw_then fun K9 hK9 => ?_
                        have key9 : ∀ e n, min n ((kk : Int) + 1) = M a b (kk + 1) (i + 1) (j + 1) → envLe (H.length + 1) T.length e [(0, .sl a.length (ints a) .none), (1, .sl b.length (ints b) .none), (2, .int .i64 (kk : Nat)), (8, .int .i64 (kk + 1 : Nat)), (9, .msl H.length 0 (b.length + 1)), (11, .int .i64 (i + 1 : Nat)), (13, .int .i64 (hi3 : Nat)), (15, .int .i64 (j + 1 : Nat)), (17, .int .i64 n)] → K9 ⟨e, H ++ [.cells (ints r')], T⟩ := by
                          intro e n hn he
                          refine hK9 _ (aw_weak ⟨[(0, .sl a.length (ints a) .none), (1, .sl b.length (ints b) .none), (2, .int .i64 (kk : Nat)), (8, .int .i64 (kk + 1 : Nat)), (9, .msl H.length 0 (b.length + 1)), (11, .int .i64 (i + 1 : Nat)), (13, .int .i64 (hi3 : Nat)), (15, .int .i64 (j + 1 : Nat)), (17, .int .i64 n)], H ++ [.cells (ints r')], T⟩ (weak_to [] [] (by simp) (by simp) (by simp) (by simp) (HO.snoc (by simp)) (by simpa using he)) ?_)
                          refine aw_reg0 fun K hK => ?_; simp (maxSteps := 1000000) (disch := omega) [-List.getD_eq_getElem?_getD, getD_ints, s1, ints_set, hn]
                          refine hK _ ?_; clear hK K
                          refine hK7 _ ?_; clear hK7
                          refine aw_reg0 fun K hK => ?_; simp (maxSteps := 1000000) (disch := omega) [-List.getD_eq_getElem?_getD]
                          refine hK _ ?_; clear hK K
                          refine ⟨(j + 1, r'.set (j + 1) (M a b (kk + 1) (i + 1) (j + 1))), ⟨by show lo ≤ j + 1; omega, by show j + 1 ≤ _; omega, by simpa using f3, fun q q1 q2 => ?_, fun q q1 q2 => ?_⟩, by show b.length - (j + 1) < b.length - j; omega, ?_⟩
                          · rw [getD_set]
                            by_cases hqj : j + 1 = q
                            · subst hqj; rw [if_pos ⟨rfl, by omega⟩]
                            · rw [if_neg (fun hh => hqj hh.1)]
                              exact f4 q q1 (by simp only at q2; omega)
                          · have q1' : j + 1 < q := q1
                            rw [getD_set, if_neg (by omega)]
                            exact f5 q (by omega) q2
                          · refine weak_to [] [] ?_ ?_ ?_ ?_ (HO.snoc ?_) ?_
                            all_goals simp
                        by_cases hc : a.getD i 0 = b.getD j 0
                        · have b3 : (a.getD i 0 != b.getD j 0) = false := by simpa using hc
                          refine aw_draw [] [] [] drawMixed (by kernel_rfl) (by kernel_rfl) fun K hK => ?_; simp (maxSteps := 1000000) (disch := omega) [-List.getD_eq_getElem?_getD, getD_ints, b3]
                          refine hK _ ?_; clear hK K
                          refine aw_if rfl (fun h => absurd h (by simp)) (fun h => ?_)
                          refine aw_skip ?_; simp (maxSteps := 1000000) (disch := omega) [-List.getD_eq_getElem?_getD]
                          refine key9 _ (M a b (kk + 1) i j) ?_ ?_
                          · unfold M
                            rw [E_eq hi2 hjb hc]
                            omega
                          · simp
                        · have b3 : (a.getD i 0 != b.getD j 0) = true := by simpa using hc
                          refine aw_draw [] [] [] drawMixed (by kernel_rfl) (by kernel_rfl) fun K hK => ?_; simp (maxSteps := 1000000) (disch := omega) [-List.getD_eq_getElem?_getD, getD_ints, b3]
                          refine hK _ ?_; clear hK K
                          refine aw_if rfl (fun h => ?_) (fun h => absurd h (by simp))
                          refine aw_reg0 fun K hK => ?_; simp (maxSteps := 1000000) (disch := omega) [-List.getD_eq_getElem?_getD, getD_ints, s2]
                          refine hK _ ?_; clear hK K
                          refine key9 _ (1 + min (M a b (kk + 1) i j) (min (M a b (kk + 1) i (j + 1)) (M a b (kk + 1) (i + 1) j))) ?_ ?_
                          · unfold M
                            rw [E_ne hi2 hjb hc]
                            omega
                          · simp
                      by_cases hd : j + 1 = i + 1 + kk
                      · have b4 : ((j : Int) + 1 == (i : Int) + 1 + kk) = true := by simp; omega
                        have hf := M_far (a := a) (b := b) (far := kk + 1) (i := i) (j := j + 1) (by omega) (by omega) (by omega)
                        refine aw_reg fun K hK => ?_; simp (maxSteps := 1000000) (disch := omega) [-List.getD_eq_getElem?_getD, b4]; refine hK _ ?_; clear hK K
                        refine aw_if rfl (fun h => ?_) (fun h => absurd h (by simp))
                        refine aw_reg0 fun K hK => ?_; simp (maxSteps := 1000000) (disch := omega) [-List.getD_eq_getElem?_getD]
                        refine hK _ ?_; clear hK K
                        refine key8 _ ?_
                        simp [hf]
                      · have b4 : ((j : Int) + 1 == (i : Int) + 1 + kk) = false := by rw [beq_eq_false_iff_ne]; omega
                        have hd2 : ¬ (j : Int) = (i : Int) + kk := by omega
                        have hd3 : ¬ (j : Int) + 1 = (i : Int) + 1 + kk := by omega
                        refine aw_reg fun K hK => ?_; simp (maxSteps := 1000000) (disch := omega) [-List.getD_eq_getElem?_getD, b4, hd, hd2, hd3]; refine hK _ ?_; clear hK K
                        refine aw_if rfl (fun h => absurd h (by simp)) (fun h => ?_)
                        refine aw_skip ?_; simp (maxSteps := 1000000) (disch := omega) [-List.getD_eq_getElem?_getD]
                        refine key8 _ ?_
                        simp
                    · simp [-List.getD_eq_getElem?_getD] at hj
                      refine aw_exit ?_; simp (maxSteps := 1000000) (disch := omega) [-List.getD_eq_getElem?_getD]
                      refine hK4 _ ?_; clear hK4
                      refine aw_reg0 fun K hK => ?_; simp (maxSteps := 1000000) (disch := omega) [-List.getD_eq_getElem?_getD]
                      refine hK _ ?_; clear hK K
                      refine ⟨(i + 1, r'), ⟨by show i + 1 ≤ _; omega, f3, fun q q1 q2 => ?_⟩, by show a.length - (i + 1) < a.length - i; omega, ?_⟩
                      · have q2' : i + 1 ≤ q + kk := q2
                        rcases Nat.lt_or_ge j q with hq | hq
                        · rw [f5 q hq q1, M_far (by omega) q1 (by omega), M_far (by omega) q1 (by omega)]
                        · exact f4 q (by omega) hq
                      · refine weak_to [] [] ?_ ?_ ?_ ?_ (HO.snoc ?_) ?_
                        all_goals simp
                by_cases hl0 : lo = 0
                · subst hl0
                  refine aw_reg fun K hK => ?_; simp (maxSteps := 1000000) (disch := omega) [-List.getD_eq_getElem?_getD]; refine hK _ ?_; clear hK K
                  refine aw_if rfl (fun h => ?_) (fun h => absurd h (by simp))
                  refine aw_reg0 fun K hK => ?_; simp (maxSteps := 1000000) (disch := omega) [-List.getD_eq_getElem?_getD, ints_set]
                  refine hK _ ?_; clear hK K
                  refine key _ (r.set 0 ((i : Int) + 1)) (by simpa using h2) ?_ (fun j hj1 hj2 => ?_) ?_
                  · rw [getD_set, if_pos ⟨rfl, by omega⟩]
                    unfold M
                    rw [E_col a b _ (by omega)]
                    omega
                  · rw [getD_set, if_neg (by omega)]
                    exact h3 j hj2 (by omega)
                  · simp
                · have hl1 : ¬ (lo : Int) = 0 := by omega
                  have hl2 : ((lo : Int) + 1 == 1) = false := by rw [beq_eq_false_iff_ne]; omega
                  refine aw_reg fun K hK => ?_; simp (maxSteps := 1000000) (disch := omega) [-List.getD_eq_getElem?_getD, hl0, hl1, hl2]; refine hK _ ?_; clear hK K
                  refine aw_if rfl (fun h => absurd h (by simp)) (fun h => ?_)
                  refine aw_skip ?_; simp (maxSteps := 1000000) (disch := omega) [-List.getD_eq_getElem?_getD]
                  refine key _ (r.set lo ((kk : Int) + 1)) (by simpa using h2) ?_ (fun j hj1 hj2 => ?_) ?_
                  · rw [getD_set, if_pos ⟨rfl, by omega⟩, M_far (by omega) (by omega) (by omega)]
                    omega
                  · rw [getD_set, if_neg (by omega)]
                    exact h3 j hj2 (by omega)
                  · simp
              · simp [-List.getD_eq_getElem?_getD] at hi
                have hia : i = a.length := by omega
                subst hia
                have hfin := h3 b.length (Nat.le_refl _) (by omega)
                have hM : M a b (kk + 1) a.length b.length = min (ed a b : Int) ((kk + 1 : Nat) : Int) := by
                  unfold M E
                  rw [List.take_length, List.take_length]
                rw [hM] at hfin
                refine aw_exit ?_; simp (maxSteps := 1000000) (disch := omega) [-List.getD_eq_getElem?_getD]
                refine hK2 _ ?_; clear hK2
                refine aw_then fun K3 hK3 => ?_
                refine aw_reg fun K hK => ?_; simp (maxSteps := 1000000) (disch := omega) [-List.getD_eq_getElem?_getD, getD_ints, hfin]; refine hK _ ?_; clear hK K
                by_cases hd : (ed a b : Int) ≤ k
                · have e1 : min (ed a b : Int) ((kk : Int) + 1) = ed a b := by omega
                  have e2 : (ed a b : Int) ≤ kk := by omega
                  have e3 : ed a b ≤ kk := by omega
                  refine aw_reg fun K hK => ?_; simp (maxSteps := 1000000) (disch := omega) [-List.getD_eq_getElem?_getD, e1, e2, e3]; refine hK _ ?_; clear hK K
                  refine aw_if rfl (fun h => ?_) (fun h => absurd h (by simp))
                  refine aw_reg fun K hK => ?_; simp (maxSteps := 1000000) (disch := omega) [-List.getD_eq_getElem?_getD, e1]; refine hK _ ?_; clear hK K
                  refine aw_ret ?_; simp (maxSteps := 1000000) (disch := omega) [-List.getD_eq_getElem?_getD]
                  first | omega | simp [hd]
                · have e1 : min (ed a b : Int) ((kk : Int) + 1) = (kk : Int) + 1 := by omega
                  have e2 : ¬ (kk : Int) + 1 ≤ kk := by omega
                  refine aw_reg fun K hK => ?_; simp (maxSteps := 1000000) (disch := omega) [-List.getD_eq_getElem?_getD, e1, e2]; refine hK _ ?_; clear hK K
                  refine aw_if rfl (fun h => absurd h (by simp)) (fun h => ?_)
                  refine aw_skip ?_; simp (maxSteps := 1000000) (disch := omega) [-List.getD_eq_getElem?_getD]
                  refine hK3 _ ?_; clear hK3
                  refine aw_reg fun K hK => ?_; simp (maxSteps := 1000000) (disch := omega) [-List.getD_eq_getElem?_getD]; refine hK _ ?_; clear hK K
                  refine aw_ret ?_; simp (maxSteps := 1000000) (disch := omega) [-List.getD_eq_getElem?_getD]
                  first | omega | simp [hd]
end Go.Proofs.Ytbijefgmleagnaa
