/- The reading of integers, as a function on lists of bytes.
   Conditions: none. -/
import Derived.Test.YtlijaamjcpefoaaWEnc
namespace Wire

/-- One number: its value and how many bytes it takes. -/
def gl (first : Bool) (u : Nat) : List UInt8 → Option (Nat × Nat)
  | [] => none
  | c :: r => if (first = true ∧ c = 128) ∨ 144115188075855872 ≤ u then none
    else if c < 128 then some (u * 128 + c.toNat % 128, 1)
    else (gl false (u * 128 + c.toNat % 128) r).map fun x => (x.1, x.2 + 1)

def addk (k : Nat) (o : Option (Nat × Nat)) : Option (Nat × Nat) := o.map fun x => (x.1, x.2 + k)
def gnum : Option (Nat × Nat) → Int
  | none => 0
  | some x => unf x.1
def glen : Option (Nat × Nat) → Nat
  | none => 0
  | some x => x.2
def rnum (bs : List UInt8) (at_ : Nat) : Option (Nat × Nat) := gl true 0 (bs.drop at_)

theorem addk_zero (o : Option (Nat × Nat)) : addk 0 o = o := by cases o <;> rfl
theorem addk_none (k : Nat) : addk k none = none := rfl
theorem addk_map (k : Nat) (o : Option (Nat × Nat)) : addk k (o.map fun x => (x.1, x.2 + 1)) = addk (k + 1) o := by
  cases o with
  | none => rfl
  | some x => simp [addk]; omega

theorem drop_cons' (bs : List UInt8) (i : Nat) (h : i < bs.length) : bs.drop i = bs.getD i 0 :: bs.drop (i + 1) := by
  rw [List.drop_eq_getElem_cons h, List.getD_eq_getElem?_getD, List.getElem?_eq_getElem h]
  rfl

theorem gl_end (f : Bool) (u : Nat) (bs : List UInt8) (i : Nat) (h : bs.length ≤ i) : gl f u (bs.drop i) = none := by
  rw [List.drop_eq_nil_of_le h]; rfl
theorem gl_bad (f : Bool) (u : Nat) (bs : List UInt8) (i : Nat) (h : i < bs.length) (hb : (f = true ∧ bs.getD i 0 = 128) ∨ 144115188075855872 ≤ u) : gl f u (bs.drop i) = none := by
  rw [drop_cons' bs i h, gl, if_pos hb]
theorem gl_last (f : Bool) (u : Nat) (bs : List UInt8) (i : Nat) (h : i < bs.length) (hb : ¬ ((f = true ∧ bs.getD i 0 = 128) ∨ 144115188075855872 ≤ u)) (hc : bs.getD i 0 < 128) :
    gl f u (bs.drop i) = some (u * 128 + (bs.getD i 0).toNat % 128, 1) := by
  rw [drop_cons' bs i h, gl, if_neg hb, if_pos hc]
theorem gl_more (f : Bool) (u : Nat) (bs : List UInt8) (i : Nat) (h : i < bs.length) (hb : ¬ ((f = true ∧ bs.getD i 0 = 128) ∨ 144115188075855872 ≤ u)) (hc : ¬ bs.getD i 0 < 128) :
    gl f u (bs.drop i) = (gl false (u * 128 + (bs.getD i 0).toNat % 128) (bs.drop (i + 1))).map fun x => (x.1, x.2 + 1) := by
  rw [drop_cons' bs i h, gl, if_neg hb, if_neg hc]

theorem gl_facts : ∀ (bs : List UInt8) (f : Bool) (u : Nat) (v n : Nat), gl f u bs = some (v, n) → v < 18446744073709551616 ∧ 1 ≤ n ∧ n ≤ bs.length := by
  intro bs
  induction bs with
  | nil => intro f u v n h; simp [gl] at h
  | cons c r ih =>
    intro f u v n h
    rw [gl] at h
    split at h
    · simp at h
    · rename_i hn
      split at h
      · simp at h
        obtain ⟨h1, h2⟩ := h
        have : c.toNat % 128 < 128 := Nat.mod_lt _ (by omega)
        simp only [not_or] at hn
        simp only [List.length_cons]
        omega
      · obtain ⟨⟨v', n'⟩, h1, h2⟩ := Option.map_eq_some_iff.1 h
        simp at h2
        have := ih _ _ _ _ h1
        simp only [List.length_cons]
        omega

theorem rnum_facts {bs : List UInt8} {i v n : Nat} (h : rnum bs i = some (v, n)) : v < 18446744073709551616 ∧ 1 ≤ n ∧ i + n ≤ bs.length := by
  have := gl_facts _ _ _ _ _ h
  simp at this
  omega

theorem glen_le (bs : List UInt8) (i : Nat) (h : i ≤ bs.length) : i + glen (rnum bs i) ≤ bs.length := by
  cases hg : rnum bs i with
  | none => simpa [glen] using h
  | some x => exact (rnum_facts (v := x.1) (n := x.2) hg).2.2

theorem unf_bounds {u : Nat} (h : u < 18446744073709551616) : -9223372036854775808 ≤ unf u ∧ unf u ≤ 9223372036854775807 := by
  unfold unf; split <;> omega

theorem gnum_bounds (bs : List UInt8) (i : Nat) : -9223372036854775808 ≤ gnum (rnum bs i) ∧ gnum (rnum bs i) ≤ 9223372036854775807 := by
  cases hg : rnum bs i with
  | none => simp [gnum]
  | some x => exact unf_bounds (rnum_facts (v := x.1) (n := x.2) hg).1

theorem glen_pos {bs : List UInt8} {i : Nat} (h : glen (rnum bs i) ≠ 0) : ∃ v, rnum bs i = some (v, glen (rnum bs i)) := by
  cases hg : rnum bs i with
  | none => rw [hg] at h; simp [glen] at h
  | some x => exact ⟨x.1, rfl⟩

/-- A reader's place and whether it has failed. -/
structure Rd where
  at_ : Nat
  bad : Bool

/-- An integer between lo and hi. -/
def rInt (bs : List UInt8) (lo hi : Int) (s : Rd) : Int × Rd :=
  if s.bad = true then (0, s)
  else if glen (rnum bs s.at_) = 0 ∨ gnum (rnum bs s.at_) < lo ∨ gnum (rnum bs s.at_) > hi then (0, ⟨s.at_, true⟩)
  else (gnum (rnum bs s.at_), ⟨s.at_ + glen (rnum bs s.at_), s.bad⟩)

theorem rInt_le (bs : List UInt8) (lo hi : Int) (s : Rd) (h : s.at_ ≤ bs.length) : (rInt bs lo hi s).2.at_ ≤ bs.length := by
  unfold rInt
  split
  · exact h
  · split
    · exact h
    · exact glen_le bs _ h

theorem rInt_nonneg (bs : List UInt8) (hi : Int) (s : Rd) : 0 ≤ (rInt bs 0 hi s).1 := by
  unfold rInt
  split
  · exact Int.le_refl _
  · split
    · exact Int.le_refl _
    · rename_i h
      simp only [not_or] at h
      simp only
      omega

theorem rInt_hi (bs : List UInt8) (hi : Int) (s : Rd) (h : 0 ≤ hi) : (rInt bs 0 hi s).1 ≤ hi := by
  unfold rInt
  split
  · exact h
  · split
    · exact h
    · rename_i h
      simp only [not_or] at h
      simp only
      omega

theorem rInt_i64 (bs : List UInt8) (lo hi : Int) (s : Rd) : -9223372036854775808 ≤ (rInt bs lo hi s).1 ∧ (rInt bs lo hi s).1 ≤ 9223372036854775807 := by
  have := gnum_bounds bs s.at_
  unfold rInt
  split
  · simp
  · split
    · simp
    · exact this
theorem rInt_adv {bs : List UInt8} {lo hi : Int} {s : Rd} (hs : s.bad = false) (h : (rInt bs lo hi s).2.bad = false) : s.at_ + 1 ≤ (rInt bs lo hi s).2.at_ := by
  unfold rInt at h ⊢
  rw [if_neg (by rw [hs]; decide)] at h ⊢
  split at h
  · cases h
  · rename_i h1
    rw [if_neg h1]
    simp only [not_or] at h1
    simp only
    omega

/-- A text of at most mx bytes. -/
def rText (bs : List UInt8) (mx : Int) (s : Rd) : List UInt8 × Rd :=
  if (rInt bs 0 mx s).2.bad = true ∨ (rInt bs 0 mx s).1 > (bs.length : Int) - (rInt bs 0 mx s).2.at_ then ([], ⟨s.at_, true⟩)
  else ((bs.drop (rInt bs 0 mx s).2.at_).take (rInt bs 0 mx s).1.toNat, ⟨(rInt bs 0 mx s).2.at_ + (rInt bs 0 mx s).1.toNat, (rInt bs 0 mx s).2.bad⟩)

theorem rText_le (bs : List UInt8) (mx : Int) (s : Rd) (h : s.at_ ≤ bs.length) : (rText bs mx s).2.at_ ≤ bs.length := by
  unfold rText
  have h1 := rInt_le bs 0 mx s h
  have h2 := rInt_nonneg bs mx s
  split
  · exact h
  · rename_i hn
    simp only [not_or] at hn
    simp only
    omega

theorem rText_adv {bs : List UInt8} {mx : Int} {s : Rd} (hs : s.bad = false) (h : (rText bs mx s).2.bad = false) : s.at_ + 1 ≤ (rText bs mx s).2.at_ := by
  unfold rText at h ⊢
  split at h
  · cases h
  · rename_i h1
    rw [if_neg h1]
    have := rInt_adv hs h
    simp only
    omega

/-- n elements, as long as the reader has not failed. -/
def rLoop {α : Type} (f : Rd → α × Rd) : Nat → Rd → List α → List α × Rd
  | 0, q, out => (out, q)
  | n + 1, q, out => if q.bad = true then (out, q) else rLoop f n (f q).2 (out ++ [(f q).1])

/-- A list: its length, its elements; where it fails nothing is read. -/
def rList {α : Type} (bs : List UInt8) (mx : Int) (f : Rd → α × Rd) (s : Rd) : List α × Rd :=
  if (rLoop f (rInt bs 0 mx s).1.toNat (rInt bs 0 mx s).2 []).2.bad = true then ([], ⟨s.at_, true⟩)
  else rLoop f (rInt bs 0 mx s).1.toNat (rInt bs 0 mx s).2 []

theorem rLoop_bad {α : Type} (f : Rd → α × Rd) (n : Nat) (q : Rd) (out : List α) (h : q.bad = true) : rLoop f n q out = (out, q) := by
  cases n with
  | zero => rfl
  | succ n => simp [rLoop, h]
theorem rLoop_step {α : Type} (f : Rd → α × Rd) (n : Nat) (q : Rd) (out : List α) (hn : 0 < n) (h : q.bad = false) : rLoop f n q out = rLoop f (n - 1) (f q).2 (out ++ [(f q).1]) := by
  cases n with
  | zero => omega
  | succ n => simp [rLoop, h]

end Wire
