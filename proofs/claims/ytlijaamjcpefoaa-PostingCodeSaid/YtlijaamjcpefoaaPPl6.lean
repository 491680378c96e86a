/- Valid posting lists: they are their documents and positions; the laws of Union, Phrase, Near.
   Conditions: none. -/
import Derived.Test.YtlijaamjcpefoaaPE
import Derived.Test.YtlijaamjcpefoaaPF
namespace Go.Proofs.Ytlijaamjcpefoaa
open Go Go.Am Post
set_option linter.unusedVariables false

def VL (l : PL) : Prop := validL l = true

theorem validL_of {l : PL} (h1 : Asc' l) (h2 : ∀ p ∈ l, 1 ≤ p.1 ∧ p.1 ≤ 1000000000) (h3 : ∀ p ∈ l, p.2 ≠ [] ∧ Asc p.2 ∧ ∀ q ∈ p.2, 0 ≤ q ∧ q ≤ 1000000) : VL l := by
  unfold VL validL
  rw [Bool.and_eq_true]
  refine ⟨asc_of h1 fun q hq => ?_, ?_⟩
  · obtain ⟨p, hp, rfl⟩ := List.mem_map.1 hq
    exact h2 p hp
  · have : l.any badP = false := by
      rw [List.any_eq_false]
      intro p hp
      obtain ⟨g1, g2, g3⟩ := h3 p hp
      have e : asc p.2 0 1000000 = true := asc_of g2 g3
      simp [badP, e, g1]
    rw [this]
    rfl

theorem pos_in {l : PL} {d z : Int} (h : z ∈ posOf l d) : ∃ p ∈ l, p.1 = d ∧ posOf l d = p.2 := by
  induction l with
  | nil => simp [posOf] at h
  | cons p l ih =>
    by_cases e : p.1 = d
    · subst e
      exact ⟨p, by simp, rfl, posOf_cons_eq⟩
    · rw [posOf_cons_ne e] at h ⊢
      obtain ⟨q, g1, g2, g3⟩ := ih h
      exact ⟨q, by simp [g1], g2, g3⟩
theorem posOf_asc {l : PL} (h : VL l) (d : Int) : Asc (posOf l d) := by
  cases e : posOf l d with
  | nil => exact List.Pairwise.nil
  | cons z r =>
    obtain ⟨p, h1, _, h3⟩ := pos_in (l := l) (d := d) (z := z) (by rw [e]; simp)
    rw [← e, h3]
    exact ((validL_iff h).2.2 p h1).2.1
theorem doc_pos {l : PL} (h : VL l) (d : Int) : d ∈ docs l ↔ ∃ z, z ∈ posOf l d := by
  obtain ⟨a1, a2, a3⟩ := validL_iff h
  constructor
  · intro hd
    obtain ⟨p, hp, rfl⟩ := List.mem_map.1 hd
    rw [posOf_mem a1 hp]
    exact List.exists_mem_of_ne_nil _ (a3 p hp).1
  · rintro ⟨z, hz⟩
    obtain ⟨p, h1, h2, _⟩ := pos_in hz
    exact List.mem_map.2 ⟨p, h1, h2⟩
/-- Valid lists with the same positions are equal. -/
theorem vext {a b : PL} (ha : VL a) (hb : VL b) (h : ∀ d z, z ∈ posOf a d ↔ z ∈ posOf b d) : a = b := by
  refine ascP_ext (validL_iff ha).1 (validL_iff hb).1 (fun d => ?_) fun d _ => asc_ext _ _ (posOf_asc ha d) (posOf_asc hb d) (h d)
  rw [doc_pos ha, doc_pos hb]
  exact exists_congr (h d)

theorem unionL_eq {a b : PL} (ha : VL a) (hb : VL b) : unionL a b = unL a b := by unfold unionL; rw [if_pos ⟨ha, hb⟩]
theorem docs_unL (a b : PL) : docs (unL a b) = jn (docs a) (docs b) := docs_map (fun d => jn (posOf a d) (posOf b d)) _
theorem posOf_unL {a b : PL} (ha : VL a) (hb : VL b) (d : Int) : posOf (unL a b) d = jn (posOf a d) (posOf b d) := by
  by_cases h : d ∈ jn (docs a) (docs b)
  · exact posOf_map (fun d => jn (posOf a d) (posOf b d)) _ d h
  · have e : posOf (unL a b) d = [] := posOf_no (by rw [show (unL a b).map (·.1) = docs (unL a b) from rfl, docs_unL]; exact h)
    rw [jn_mem (a := docs a) (b := docs b) (validL_iff ha).1 (validL_iff hb).1] at h
    have e1 : posOf a d = [] := posOf_no (fun hh => h (.inl hh))
    have e2 : posOf b d = [] := posOf_no (fun hh => h (.inr hh))
    rw [e, e1, e2]
    rfl
theorem un_mem {a b : PL} (ha : VL a) (hb : VL b) (d z : Int) : z ∈ posOf (unionL a b) d ↔ z ∈ posOf a d ∨ z ∈ posOf b d := by
  rw [unionL_eq ha hb, posOf_unL ha hb, jn_mem (posOf_asc ha d) (posOf_asc hb d)]
theorem un_V {a b : PL} (ha : VL a) (hb : VL b) : VL (unionL a b) := by
  obtain ⟨a1, a2, a3⟩ := validL_iff ha
  obtain ⟨b1, b2, b3⟩ := validL_iff hb
  rw [unionL_eq ha hb]
  have key : ∀ d, d ∈ jn (docs a) (docs b) → d ∈ docs a ∨ d ∈ docs b := fun d hd => (jn_mem a1 b1 d).1 hd
  refine validL_of ?_ (fun p hp => ?_) fun p hp => ?_
  · show Asc (docs (unL a b))
    rw [docs_unL]
    exact jn_asc a1 b1
  · obtain ⟨d, hd, rfl⟩ := List.mem_map.1 hp
    rcases key d hd with h | h
    · obtain ⟨q, hq, e⟩ := List.mem_map.1 h
      have := a2 q hq
      rw [e] at this
      exact this
    · obtain ⟨q, hq, e⟩ := List.mem_map.1 h
      have := b2 q hq
      rw [e] at this
      exact this
  · obtain ⟨d, hd, rfl⟩ := List.mem_map.1 hp
    refine ⟨fun e => ?_, jn_asc (posOf_asc ha d) (posOf_asc hb d), fun q hq => ?_⟩
    · have e' : jn (posOf a d) (posOf b d) = [] := e
      have hno : ∀ z, ¬ (z ∈ posOf a d ∨ z ∈ posOf b d) := fun z hz => by
        rw [← jn_mem (posOf_asc ha d) (posOf_asc hb d), e'] at hz
        simp at hz
      rcases key d hd with h | h
      · obtain ⟨z, hz⟩ := (doc_pos ha d).1 h
        exact hno z (.inl hz)
      · obtain ⟨z, hz⟩ := (doc_pos hb d).1 h
        exact hno z (.inr hz)
    · rcases (jn_mem (posOf_asc ha d) (posOf_asc hb d) q).1 hq with h | h
      · obtain ⟨p, h1, _, h3⟩ := pos_in h
        rw [h3] at h
        exact (a3 p h1).2.2 q h
      · obtain ⟨p, h1, _, h3⟩ := pos_in h
        rw [h3] at h
        exact (b3 p h1).2.2 q h

section
variable {a b c : PL} (ha : VL a) (hb : VL b) (hc : VL c)
include ha
theorem ul3 : unionL a a = a := vext (un_V ha ha) ha fun d z => by rw [un_mem ha ha, or_self]
include hb
theorem ul2 : unionL b a = unionL a b := vext (un_V hb ha) (un_V ha hb) fun d z => by rw [un_mem hb ha, un_mem ha hb]; exact Or.comm
include hc
theorem ul4 : unionL a (unionL b c) = unionL (unionL a b) c := vext (un_V ha (un_V hb hc)) (un_V (un_V ha hb) hc) fun d z => by
  rw [un_mem ha (un_V hb hc), un_mem (un_V ha hb) hc, un_mem ha hb, un_mem hb hc]
  exact or_assoc.symm
end
theorem un_sub {a b : PL} (ha : VL a) (hb : VL b) (h : ∀ d z, z ∈ posOf b d → z ∈ posOf a d) : unionL a b = a := vext (un_V ha hb) ha fun d z => by
  rw [un_mem ha hb]
  exact ⟨fun hh => hh.elim id (h d z), .inl⟩

theorem fl_V {a : PL} (ha : VL a) (f : Int → Int → Bool) : VL (flt f a) := by
  obtain ⟨a1, a2, a3⟩ := validL_iff ha
  refine validL_of (flt_asc a1) (fun p hp => ?_) fun p hp => ?_
  · obtain ⟨q, hq, e, _⟩ := flt_mem hp
    rw [e]; exact a2 q hq
  · obtain ⟨q, hq, _, e2, e3⟩ := flt_mem hp
    refine ⟨e3, ?_, fun x hx => ?_⟩
    · rw [e2]; exact (a3 q hq).2.1.filter _
    · rw [e2] at hx; exact (a3 q hq).2.2 x (List.mem_filter.1 hx).1
theorem fl_mem {a : PL} (ha : Asc' a) (f : Int → Int → Bool) (d z : Int) : z ∈ posOf (flt f a) d ↔ z ∈ posOf a d ∧ f d z = true := by
  induction a with
  | nil => simp [flt, posOf]
  | cons p a ih =>
    obtain ⟨h1, h2⟩ := asc'_tail ha
    have hrest : ∀ q ∈ flt f a, p.1 < q.1 := fun q hq => by
      obtain ⟨x, hx, e, _⟩ := flt_mem hq
      rw [e]; exact h2 x hx
    rw [flt_cons]
    by_cases e : p.1 = d
    · subst e
      have hz : ∀ z, ¬ z ∈ posOf (flt f a) p.1 := fun z hz => by
        obtain ⟨q, g1, g2, _⟩ := pos_in hz
        have := hrest q g1
        omega
      rw [posOf_cons_eq]
      unfold fl1
      split
      · rename_i hn
        rw [List.nil_append]
        refine ⟨fun h => absurd h (hz z), fun h => ?_⟩
        have : z ∈ p.2.filter (f p.1) := List.mem_filter.2 h
        rw [hn] at this
        simp at this
      · rw [List.cons_append, List.nil_append]
        show z ∈ posOf ((p.1, p.2.filter (f p.1)) :: flt f a) p.1 ↔ _
        rw [show posOf ((p.1, p.2.filter (f p.1)) :: flt f a) p.1 = p.2.filter (f p.1) from posOf_cons_eq (p := (p.1, p.2.filter (f p.1))), List.mem_filter]
    · rw [posOf_cons_ne e, ← ih h1]
      unfold fl1
      split
      · rw [List.nil_append]
      · rw [List.cons_append, List.nil_append, posOf_cons_ne (p := (p.1, p.2.filter (f p.1))) e]

theorem nearL_eq {a b : PL} {n : Int} (ha : VL a) (hb : VL b) (hn : 1 ≤ n) : nearL a b n = flt (fun d p => (posOf b d).any (nearQ p n)) a := by
  unfold nearL
  rw [if_pos ⟨ha, hb, hn⟩, near_flt]
theorem near_V {a b : PL} {n : Int} (ha : VL a) (hb : VL b) (hn : 1 ≤ n) : VL (nearL a b n) := by rw [nearL_eq ha hb hn]; exact fl_V ha _
theorem near_mem {a b : PL} {n : Int} (ha : VL a) (hb : VL b) (hn : 1 ≤ n) (d z : Int) : z ∈ posOf (nearL a b n) d ↔ z ∈ posOf a d ∧ ∃ q ∈ posOf b d, q ≠ z ∧ q - z ≤ n ∧ z - q ≤ n := by
  rw [nearL_eq ha hb hn, fl_mem (validL_iff ha).1, List.any_eq_true]
  refine and_congr_right fun _ => exists_congr fun q => and_congr_right fun _ => ?_
  unfold nearQ
  rw [Bool.and_eq_true, decide_eq_true_eq, decide_eq_true_eq]
  refine and_congr_right fun _ => ?_
  exact Int.max_le
theorem near_sym {a b : PL} {n : Int} (ha : VL a) (hb : VL b) (hn : 1 ≤ n) : docsL (nearL b a n) = docsL (nearL a b n) := by
  have v1 := near_V hb ha hn
  have v2 := near_V ha hb hn
  have e1 : docsL (nearL b a n) = docs (nearL b a n) := if_pos v1
  have e2 : docsL (nearL a b n) = docs (nearL a b n) := if_pos v2
  rw [e1, e2]
  refine asc_ext _ _ (validL_iff v1).1 (validL_iff v2).1 fun d => ?_
  rw [doc_pos v1, doc_pos v2]
  constructor
  · rintro ⟨z, hz⟩
    obtain ⟨h1, q, h2, h3, h4, h5⟩ := (near_mem hb ha hn d z).1 hz
    exact ⟨q, (near_mem ha hb hn d q).2 ⟨h2, z, h1, fun e => h3 e.symm, h5, h4⟩⟩
  · rintro ⟨z, hz⟩
    obtain ⟨h1, q, h2, h3, h4, h5⟩ := (near_mem ha hb hn d z).1 hz
    exact ⟨q, (near_mem hb ha hn d q).2 ⟨h2, z, h1, fun e => h3 e.symm, h5, h4⟩⟩
theorem near_more {a b : PL} {n m : Int} (ha : VL a) (hb : VL b) (hn : 1 ≤ n) (hm : n ≤ m) : unionL (nearL a b m) (nearL a b n) = nearL a b m :=
  un_sub (near_V ha hb (by omega)) (near_V ha hb hn) fun d z hz => by
    obtain ⟨h1, q, h2, h3, h4, h5⟩ := (near_mem ha hb hn d z).1 hz
    exact (near_mem ha hb (by omega) d z).2 ⟨h1, q, h2, h3, by omega, by omega⟩

theorem phr_eq {a : PL} {r : List PL} (hr : r.length < 100) (ha : VL a) (h : ∀ x ∈ r, VL x) : phraseL (a :: r) = flt (goesOn r r.length) a := by
  unfold phraseL
  rw [if_neg]
  · rfl
  · rintro (h1 | h1 | h1)
    · simp at h1
    · simp at h1; omega
    · obtain ⟨x, hx, e⟩ := List.any_eq_true.1 h1
      have hv : VL x := by
        rcases List.mem_cons.1 hx with rfl | hx
        · exact ha
        · exact h x hx
      unfold VL at hv
      rw [hv] at e
      simp at e
theorem ph1 {a : PL} (ha : VL a) : phraseL [a] = a := by
  rw [phr_eq (by simp) ha (by simp)]
  exact flt_true (fun p hp => ((validL_iff ha).2.2 p hp).1)
theorem ph2_V {a b : PL} (ha : VL a) (hb : VL b) : VL (phraseL [a, b]) := by
  rw [phr_eq (by simp) ha (by simpa using hb)]
  exact fl_V ha _
theorem ph2_mem {a b : PL} (ha : VL a) (hb : VL b) (d z : Int) : z ∈ posOf (phraseL [a, b]) d ↔ z ∈ posOf a d ∧ z + 1 ∈ posOf b d := by
  rw [phr_eq (by simp) ha (by simpa using hb), fl_mem (validL_iff ha).1]
  refine and_congr_right fun _ => ?_
  show goesOn [b] 1 d z = true ↔ _
  rw [goesOn_succ]
  have : z + ((0 : Nat) : Int) + 1 = z + 1 := by omega
  rw [this]
  simp [goesOn]
theorem ph3_mem {a b c : PL} (ha : VL a) (hb : VL b) (hc : VL c) (d z : Int) : z ∈ posOf (phraseL [a, b, c]) d ↔ z ∈ posOf a d ∧ z + 1 ∈ posOf b d ∧ z + 1 + 1 ∈ posOf c d := by
  rw [phr_eq (by simp) ha (by intro x hx; simp at hx; rcases hx with rfl | rfl; exact hb; exact hc), fl_mem (validL_iff ha).1]
  refine and_congr_right fun _ => ?_
  show goesOn [b, c] 2 d z = true ↔ _
  rw [goesOn_succ, goesOn_succ]
  have e1 : z + ((0 : Nat) : Int) + 1 = z + 1 := by omega
  have e2 : z + ((1 : Nat) : Int) + 1 = z + 1 + 1 := by omega
  rw [e1, e2]
  simp [goesOn]
theorem ph3_V {a b c : PL} (ha : VL a) (hb : VL b) (hc : VL c) : VL (phraseL [a, b, c]) := by
  rw [phr_eq (by simp) ha (by intro x hx; simp at hx; rcases hx with rfl | rfl; exact hb; exact hc)]
  exact fl_V ha _
theorem ph3 {a b c : PL} (ha : VL a) (hb : VL b) (hc : VL c) : phraseL [a, phraseL [b, c]] = phraseL [a, b, c] :=
  vext (ph2_V ha (ph2_V hb hc)) (ph3_V ha hb hc) fun d z => by
    rw [ph2_mem ha (ph2_V hb hc), ph2_mem hb hc, ph3_mem ha hb hc]
theorem ph_near {a b : PL} {n : Int} (ha : VL a) (hb : VL b) (hn : 1 ≤ n) : unionL (nearL a b n) (phraseL [a, b]) = nearL a b n :=
  un_sub (near_V ha hb hn) (ph2_V ha hb) fun d z hz => by
    obtain ⟨h1, h2⟩ := (ph2_mem ha hb d z).1 hz
    exact (near_mem ha hb hn d z).2 ⟨h1, z + 1, h2, by omega, by omega, by omega⟩
end Go.Proofs.Ytlijaamjcpefoaa
