/- Reading posting lists: what is read is the encoding, and what is encoded is read back; laws on lists of bytes.
   Conditions: none. -/
import Derived.Test.YtlijaamjcpefoaaPEnc
import Derived.Test.YtlijaamjcpefoaaPW4
import Derived.Test.YtlijaamjcpefoaaPPl6
import Derived.Test.YtlijaamjcpefoaaWPl
namespace Go.Proofs.Ytlijaamjcpefoaa
open Go Go.Am Post Wire
set_option linter.unusedVariables false

/-- One position: the reader, the last position, the positions. -/
def pStep (bs : List UInt8) (x : Rd × Int × List Int) : Rd × Int × List Int := ((rInt bs 1 1000001 x.1).2, x.2.1 + (rInt bs 1 1000001 x.1).1, x.2.2 ++ [x.2.1 + (rInt bs 1 1000001 x.1).1])
def pIt (bs : List UInt8) : Nat → Rd × Int × List Int → Rd × Int × List Int
  | 0, x => x
  | n + 1, x => pIt bs n (pStep bs x)
theorem pIt_succ (bs : List UInt8) : ∀ (n : Nat) (x : Rd × Int × List Int), pIt bs (n + 1) x = pStep bs (pIt bs n x) := by
  intro n
  induction n with
  | zero => intro x; rfl
  | succ n ih => intro x; rw [pIt, ih (pStep bs x)]; rfl
/-- One posting: the reader, the last document, the postings; limM bounds the number of positions. -/
def oStep (bs : List UInt8) (limM : Rd → Int) (x : Rd × Int × PL) : Rd × Int × PL :=
  let a := rInt bs 1 1000000000 x.1
  let m := rInt bs 1 (limM a.2) a.2
  let q := pIt bs m.1.toNat (m.2, -1, [])
  (q.1, x.2.1 + a.1, x.2.2 ++ [(x.2.1 + a.1, q.2.2)])
def oIt (bs : List UInt8) (limM : Rd → Int) : Nat → Rd × Int × PL → Rd × Int × PL
  | 0, x => x
  | n + 1, x => oIt bs limM n (oStep bs limM x)
theorem oIt_succ (bs : List UInt8) (limM : Rd → Int) : ∀ (n : Nat) (x : Rd × Int × PL), oIt bs limM (n + 1) x = oStep bs limM (oIt bs limM n x) := by
  intro n
  induction n with
  | zero => intro x; rfl
  | succ n ih => intro x; rw [oIt, ih (oStep bs limM x)]; rfl
def fin (bs : List UInt8) (x : Rd × Int × PL) : PL × Int := if rDone bs x.1 ≠ 0 ∨ validL x.2.2 = false then ([], 5) else (x.2.2, 0)
def dec (bs : List UInt8) (limN limM : Rd → Int) : PL × Int :=
  let n := rInt bs 0 (limN ⟨0, false⟩) ⟨0, false⟩
  fin bs (oIt bs limM n.1.toNat (n.2, 0, []))

theorem rInt_stay {bs : List UInt8} {lo hi : Int} {s : Rd} (h : s.bad = true) : rInt bs lo hi s = (0, s) := by unfold rInt; rw [if_pos h]
theorem rInt_was {bs : List UInt8} {lo hi : Int} {s : Rd} (h : (rInt bs lo hi s).2.bad = false) : s.bad = false := by
  cases hb : s.bad with
  | false => rfl
  | true => rw [rInt_stay hb, hb] at h; cases h
theorem pIt_bad {bs : List UInt8} : ∀ (n : Nat) (x : Rd × Int × List Int), x.1.bad = true → (pIt bs n x).1 = x.1 := by
  intro n
  induction n with
  | zero => intro x _; rfl
  | succ n ih =>
    intro x h
    have e : (pStep bs x).1 = x.1 := by unfold pStep; rw [rInt_stay h]
    rw [pIt, ih _ (by rw [e]; exact h), e]
theorem oStep_bad {bs : List UInt8} {limM : Rd → Int} {x : Rd × Int × PL} (h : x.1.bad = true) : (oStep bs limM x).1 = x.1 := by
  unfold oStep
  simp only
  rw [rInt_stay (lo := 1) (hi := 1000000000) h]
  simp only
  rw [rInt_stay h]
  exact pIt_bad _ _ h
theorem oIt_bad {bs : List UInt8} {limM : Rd → Int} : ∀ (n : Nat) (x : Rd × Int × PL), x.1.bad = true → (oIt bs limM n x).1 = x.1 := by
  intro n
  induction n with
  | zero => intro x _; rfl
  | succ n ih =>
    intro x h
    have e := oStep_bad (bs := bs) (limM := limM) h
    rw [oIt, ih _ (by rw [e]; exact h), e]

/-- The bytes of positions behind the position q. -/
def ePos : Int → List Int → List UInt8
  | _, [] => []
  | q, x :: l => enc (x - q) ++ ePos x l
/-- Positions that may stand behind the position q. -/
def okPos : Int → List Int → Prop
  | _, [] => True
  | q, x :: l => 1 ≤ x - q ∧ x - q ≤ 1000001 ∧ okPos x l
def lastP : Int → List Int → Int
  | q, [] => q
  | _, x :: l => lastP x l
def ePosts : Int → PL → List UInt8
  | _, [] => []
  | d, p :: l => enc (p.1 - d) ++ (enc (p.2.length : Int) ++ (ePos (-1) p.2 ++ ePosts p.1 l))
def okPosts : Int → PL → Prop
  | _, [] => True
  | d, p :: l => (1 ≤ p.1 - d ∧ p.1 - d ≤ 1000000000 ∧ 1 ≤ p.2.length ∧ (p.2.length : Int) ≤ 1000000000 ∧ okPos (-1) p.2) ∧ okPosts p.1 l
def lastD : Int → PL → Int
  | d, [] => d
  | _, p :: l => lastD p.1 l

theorem stP_eq : ∀ (l : List Int) (b : List UInt8) (q : Int), (l.foldl stP (b, q)).1 = b ++ ePos q l := by
  intro l
  induction l with
  | nil => intro b q; simp [ePos]
  | cons x l ih =>
    intro b q
    rw [List.foldl_cons]
    show (l.foldl stP (b ++ enc (x - q), x)).1 = _
    rw [ih, ePos, List.append_assoc]
theorem stL_eq : ∀ (l : PL) (b : List UInt8) (d : Int), (l.foldl stL (b, d)).1 = b ++ ePosts d l := by
  intro l
  induction l with
  | nil => intro b q; simp [ePosts]
  | cons p l ih =>
    intro b d
    rw [List.foldl_cons]
    show (l.foldl stL ((p.2.foldl stP (b ++ enc (p.1 - d) ++ enc (p.2.length : Int), -1)).1, p.1)).1 = _
    rw [ih, stP_eq, ePosts]
    simp only [List.append_assoc]
theorem eL_eq (l : PL) : eL l = enc (l.length : Int) ++ ePosts 0 l := stL_eq l _ 0

theorem pIt_round {bs : List UInt8} : ∀ (l : List Int) (at_ : Nat) (q : Int) (acc : List Int) (rest : List UInt8), okPos q l → bs.drop at_ = ePos q l ++ rest →
    pIt bs l.length (⟨at_, false⟩, q, acc) = (⟨at_ + (ePos q l).length, false⟩, lastP q l, acc ++ l) := by
  intro l
  induction l with
  | nil => intro at_ q acc rest _ _; simp [pIt, ePos, lastP]
  | cons x l ih =>
    intro at_ q acc rest ⟨h1, h2, h3⟩ hd
    rw [ePos, List.append_assoc] at hd
    have hr := (intCodec 1 1000001).round bs at_ _ (x - q) ⟨h1, h2, by constructor <;> omega⟩ hd
    have hst : pStep bs (⟨at_, false⟩, q, acc) = (⟨at_ + (enc (x - q)).length, false⟩, x, acc ++ [x]) := by
      unfold pStep
      rw [hr, show q + (x - q) = x by omega]
    rw [List.length_cons, pIt, hst, ih _ x _ rest h3 (by rw [← List.drop_drop, hd, List.drop_left])]
    simp [ePos, lastP, Nat.add_assoc]

theorem pIt_canon {bs : List UInt8} : ∀ (n at_ : Nat) (q : Int) (acc : List Int), at_ ≤ bs.length → (pIt bs n (⟨at_, false⟩, q, acc)).1.bad = false →
    ∃ l, l.length = n ∧ okPos q l ∧ (pIt bs n (⟨at_, false⟩, q, acc)).2.2 = acc ++ l ∧ (pIt bs n (⟨at_, false⟩, q, acc)).1.at_ ≤ bs.length ∧ bs.drop at_ = ePos q l ++ bs.drop (pIt bs n (⟨at_, false⟩, q, acc)).1.at_ := by
  intro n
  induction n with
  | zero => intro at_ q acc hle _; exact ⟨[], rfl, trivial, by simp [pIt], hle, by simp [pIt, ePos]⟩
  | succ n ih =>
    intro at_ q acc hle hb
    rw [pIt] at hb ⊢
    have hgood : (pStep bs (⟨at_, false⟩, q, acc)).1.bad = false := by
      cases h : (pStep bs (⟨at_, false⟩, q, acc)).1.bad with
      | false => rfl
      | true => rw [pIt_bad _ _ h, h] at hb; cases hb
    obtain ⟨⟨g1, g2, _⟩, g3, g4⟩ := (intCodec 1 1000001).canon bs at_ hle hgood
    have hst : pStep bs (⟨at_, false⟩, q, acc) = ((rInt bs 1 1000001 ⟨at_, false⟩).2, q + (rInt bs 1 1000001 ⟨at_, false⟩).1, acc ++ [q + (rInt bs 1 1000001 ⟨at_, false⟩).1]) := rfl
    rw [hst] at hb hgood ⊢
    simp only at g1 g2 g3 g4 hgood
    generalize rInt bs 1 1000001 ⟨at_, false⟩ = r at *
    obtain ⟨v, ⟨ra, rb⟩⟩ := r
    simp only at hgood g1 g2 g3 g4
    subst hgood
    simp only at hb ⊢
    obtain ⟨l, k1, k2, k3, k4, k5⟩ := ih ra (q + v) (acc ++ [q + v]) g3 hb
    refine ⟨(q + v) :: l, by simp [k1], ⟨by omega, by omega, k2⟩, by rw [k3]; simp, k4, ?_⟩
    rw [g4, k5, ePos, show q + v - q = v by omega, List.append_assoc]

theorem enc_pos (n : Int) (h : inI n) : 0 < (enc n).length := (enc_len h.1 h.2).1
theorem ePos_len : ∀ (l : List Int) (q : Int), okPos q l → l.length ≤ (ePos q l).length := by
  intro l
  induction l with
  | nil => intro q _; exact Nat.le_refl _
  | cons x l ih =>
    intro q ⟨h1, h2, h3⟩
    have := ih x h3
    have := enc_pos (x - q) (by constructor <;> omega)
    rw [ePos, List.length_append, List.length_cons]
    omega
theorem ePosts_len : ∀ (l : PL) (d : Int), okPosts d l → l.length ≤ (ePosts d l).length := by
  intro l
  induction l with
  | nil => intro q _; exact Nat.le_refl _
  | cons p l ih =>
    intro d ⟨⟨h1, h2, h3, h4, h5⟩, h6⟩
    have := ih p.1 h6
    have := enc_pos (p.1 - d) (by constructor <;> omega)
    rw [ePosts]
    simp only [List.length_append, List.length_cons]
    omega

theorem oIt_round {bs : List UInt8} {limM : Rd → Int} (hM : ∀ s (k : Nat), k ≤ bs.length - s.at_ → (k : Int) ≤ limM s) : ∀ (l : PL) (at_ : Nat) (d : Int) (out : PL) (rest : List UInt8), okPosts d l → bs.drop at_ = ePosts d l ++ rest →
    oIt bs limM l.length (⟨at_, false⟩, d, out) = (⟨at_ + (ePosts d l).length, false⟩, lastD d l, out ++ l) := by
  intro l
  induction l with
  | nil => intro at_ q acc rest _ _; simp [oIt, ePosts, lastD]
  | cons p l ih =>
    intro at_ d out rest ⟨⟨h1, h2, h3, h4, h5⟩, h6⟩ hd
    rw [ePosts] at hd
    simp only [List.append_assoc] at hd
    have hr := (intCodec 1 1000000000).round bs at_ _ (p.1 - d) ⟨h1, h2, by constructor <;> omega⟩ hd
    have hd2 : bs.drop (at_ + (enc (p.1 - d)).length) = enc (p.2.length : Int) ++ (ePos (-1) p.2 ++ (ePosts p.1 l ++ rest)) := by rw [← List.drop_drop, hd, List.drop_left]
    have hml : (p.2.length : Int) ≤ limM ⟨at_ + (enc (p.1 - d)).length, false⟩ := hM _ _ (by
      have := congrArg List.length hd2
      simp only [List.length_drop, List.length_append] at this
      have := ePos_len p.2 (-1) h5
      show p.2.length ≤ bs.length - (at_ + (enc (p.1 - d)).length)
      omega)
    have hr2 := (intCodec 1 (limM ⟨at_ + (enc (p.1 - d)).length, false⟩)).round bs (at_ + (enc (p.1 - d)).length) _ (p.2.length : Int) ⟨by omega, hml, by constructor <;> omega⟩ hd2
    have hd3 : bs.drop (at_ + (enc (p.1 - d)).length + (enc (p.2.length : Int)).length) = ePos (-1) p.2 ++ (ePosts p.1 l ++ rest) := by rw [← List.drop_drop, hd2, List.drop_left]
    have hr3 := pIt_round p.2 _ (-1) [] _ h5 hd3
    have hst : oStep bs limM (⟨at_, false⟩, d, out) = (⟨at_ + (enc (p.1 - d)).length + (enc (p.2.length : Int)).length + (ePos (-1) p.2).length, false⟩, p.1, out ++ [p]) := by
      unfold oStep
      simp only
      rw [hr]
      simp only
      rw [hr2]
      simp only [Int.toNat_natCast]
      rw [hr3, show d + (p.1 - d) = p.1 by omega]
      simp
    rw [List.length_cons, oIt, hst, ih _ p.1 _ rest h6 (by rw [← List.drop_drop, hd3, List.drop_left])]
    simp only [ePosts, lastD, List.length_append]
    congr 2
    · simp only [Nat.add_assoc]
    · simp

theorem oIt_canon {bs : List UInt8} {limM : Rd → Int} (hM2 : ∀ s, limM s ≤ 1000000000) : ∀ (n at_ : Nat) (d : Int) (out : PL), at_ ≤ bs.length → (oIt bs limM n (⟨at_, false⟩, d, out)).1.bad = false →
    ∃ l, l.length = n ∧ okPosts d l ∧ (oIt bs limM n (⟨at_, false⟩, d, out)).2.2 = out ++ l ∧ (oIt bs limM n (⟨at_, false⟩, d, out)).1.at_ ≤ bs.length ∧ bs.drop at_ = ePosts d l ++ bs.drop (oIt bs limM n (⟨at_, false⟩, d, out)).1.at_ := by
  intro n
  induction n with
  | zero => intro at_ q acc hle _; exact ⟨[], rfl, trivial, by simp [oIt], hle, by simp [oIt, ePosts]⟩
  | succ n ih =>
    intro at_ d out hle hb
    rw [oIt] at hb ⊢
    have hgood : (oStep bs limM (⟨at_, false⟩, d, out)).1.bad = false := by
      cases h : (oStep bs limM (⟨at_, false⟩, d, out)).1.bad with
      | false => rfl
      | true => rw [oIt_bad _ _ h, h] at hb; cases hb
    have hst : oStep bs limM (⟨at_, false⟩, d, out) = (let a := rInt bs 1 1000000000 ⟨at_, false⟩; let m := rInt bs 1 (limM a.2) a.2; let q := pIt bs m.1.toNat (m.2, -1, []); (q.1, d + a.1, out ++ [(d + a.1, q.2.2)])) := rfl
    simp only at hst
    rw [hst] at hb hgood ⊢
    simp only at hgood
    have hq : (rInt bs 1 (limM (rInt bs 1 1000000000 ⟨at_, false⟩).2) (rInt bs 1 1000000000 ⟨at_, false⟩).2).2.bad = false := by
      cases h : (rInt bs 1 (limM (rInt bs 1 1000000000 ⟨at_, false⟩).2) (rInt bs 1 1000000000 ⟨at_, false⟩).2).2.bad with
      | false => rfl
      | true => rw [pIt_bad _ _ h] at hgood; rw [h] at hgood; cases hgood
    have ha := rInt_was hq
    obtain ⟨⟨g1, g2, _⟩, g3, g4⟩ := (intCodec 1 1000000000).canon bs at_ hle ha
    generalize rInt bs 1 1000000000 ⟨at_, false⟩ = a at *
    obtain ⟨v, ⟨ra, rb⟩⟩ := a
    simp only at ha g1 g2 g3 g4 hq hb hgood
    subst ha
    obtain ⟨⟨m1, m2, _⟩, m3, m4⟩ := (intCodec 1 (limM ⟨ra, false⟩)).canon bs ra g3 hq
    have hlim := hM2 ⟨ra, false⟩
    generalize rInt bs 1 (limM ⟨ra, false⟩) ⟨ra, false⟩ = m at *
    obtain ⟨w, ⟨sa, sb⟩⟩ := m
    simp only at hq m1 m2 m3 m4 hb hgood ⊢
    subst hq
    obtain ⟨pl, p1, p2, p3, p4, p5⟩ := pIt_canon w.toNat sa (-1) [] m3 hgood
    generalize pIt bs w.toNat (⟨sa, false⟩, -1, []) = q at *
    obtain ⟨⟨qa, qb⟩, ql, qacc⟩ := q
    simp only at hgood p3 p4 p5 hb ⊢
    subst hgood
    rw [List.nil_append] at p3
    subst p3
    obtain ⟨l, k1, k2, k3, k4, k5⟩ := ih qa (d + v) (out ++ [(d + v, qacc)]) p4 hb
    have hw : (qacc.length : Int) = w := by omega
    refine ⟨(d + v, qacc) :: l, by simp [k1], ⟨⟨by show 1 ≤ d + v - d; omega, by show d + v - d ≤ _; omega, by show 1 ≤ qacc.length; omega, by show (qacc.length : Int) ≤ _; omega, p2⟩, k2⟩, by rw [k3]; simp, k4, ?_⟩
    rw [g4, m4, p5, k5, ePosts]
    simp only [show d + v - d = v by omega, hw, List.append_assoc]

/-- What is valid may be written. -/
theorem okPos_of {l : List Int} : ∀ {q : Int}, -1 ≤ q → Asc l → (∀ x ∈ l, q < x ∧ x ≤ 1000000) → okPos q l := by
  induction l with
  | nil => intro q _ _ _; trivial
  | cons x l ih =>
    intro q hq hs hl
    obtain ⟨h1, h2⟩ := asc_tail hs
    have hx := hl x (by simp)
    exact ⟨by omega, by omega, ih (by omega) h1 fun y hy => ⟨h2 y hy, (hl y (by simp [hy])).2⟩⟩
theorem okPosts_of {l : PL} : ∀ {d : Int}, 0 ≤ d → Asc' l → (∀ p ∈ l, d < p.1 ∧ p.1 ≤ 1000000000 ∧ p.2.length ≤ 1000000000 ∧ p.2 ≠ [] ∧ Asc p.2 ∧ ∀ q ∈ p.2, 0 ≤ q ∧ q ≤ 1000000) → okPosts d l := by
  induction l with
  | nil => intro q _ _ _; trivial
  | cons p l ih =>
    intro d hd hs hl
    obtain ⟨h1, h2⟩ := asc'_tail hs
    obtain ⟨g1, g2, g3, g4, g5, g6⟩ := hl p (by simp)
    have hlen := List.length_pos_iff.2 g4
    exact ⟨⟨by omega, by omega, by omega, by omega, okPos_of (by omega) g5 fun x hx => ⟨by have := g6 x hx; omega, (g6 x hx).2⟩⟩, ih (by omega) h1 fun y hy => ⟨h2 y hy, (hl y (by simp [hy])).2⟩⟩

theorem fin_zero {bs : List UInt8} {x : Rd × Int × PL} : (fin bs x = (x.2.2, 0) ∧ rDone bs x.1 = 0 ∧ validL x.2.2 = true) ∨ fin bs x = ([], 5) := by
  unfold fin
  by_cases h1 : rDone bs x.1 = 0
  · cases h2 : validL x.2.2 with
    | true => exact .inl ⟨by rw [if_neg (by rintro (h | h); exact h h1; cases h)], h1, rfl⟩
    | false => exact .inr (by rw [if_pos (.inr rfl)])
  · exact .inr (by rw [if_pos (.inl h1)])
theorem rDone0 {bs : List UInt8} {s : Rd} : rDone bs s = 0 ↔ s.bad = false ∧ ¬ s.at_ < bs.length := by
  unfold rDone
  cases s.bad <;> by_cases h : s.at_ < bs.length <;> simp [h]

/-- What is read is valid, and its encoding is what was read. -/
theorem dec_inv {bs : List UInt8} {limN limM : Rd → Int} (hM2 : ∀ s, limM s ≤ 1000000000) : (∃ l, dec bs limN limM = (l, 0) ∧ validL l = true ∧ bs = eL l) ∨ dec bs limN limM = ([], 5) := by
  unfold dec
  simp only
  rcases fin_zero (bs := bs) (x := oIt bs limM (rInt bs 0 (limN ⟨0, false⟩) ⟨0, false⟩).1.toNat ((rInt bs 0 (limN ⟨0, false⟩) ⟨0, false⟩).2, 0, [])) with ⟨h1, h2, h3⟩ | h
  · refine .inl ⟨_, h1, h3, ?_⟩
    rw [rDone0] at h2
    obtain ⟨h4, h5⟩ := h2
    clear h1 h3
    have ha : (rInt bs 0 (limN ⟨0, false⟩) ⟨0, false⟩).2.bad = false := by
      cases h : (rInt bs 0 (limN ⟨0, false⟩) ⟨0, false⟩).2.bad with
      | false => rfl
      | true => rw [oIt_bad _ _ h] at h4; rw [h] at h4; cases h4
    obtain ⟨⟨g1, g2, _⟩, g3, g4⟩ := (intCodec 0 (limN ⟨0, false⟩)).canon bs 0 (Nat.zero_le _) ha
    generalize rInt bs 0 (limN ⟨0, false⟩) ⟨0, false⟩ = a at *
    obtain ⟨v, ⟨ra, rb⟩⟩ := a
    simp only at ha g1 g2 g3 g4 h4 h5 ⊢
    subst ha
    obtain ⟨l, k1, k2, k3, k4, k5⟩ := oIt_canon hM2 v.toNat ra 0 [] g3 h4
    rw [k3, List.nil_append, eL_eq]
    rw [List.drop_zero] at g4
    have hv : (l.length : Int) = v := by omega
    have hnil : bs.drop (oIt bs limM v.toNat (⟨ra, false⟩, 0, [])).1.at_ = [] := List.drop_eq_nil_of_le (by omega)
    rw [hnil, List.append_nil] at k5
    rw [g4, k5, hv]
  · exact .inr h

/-- What is valid is read back from its encoding. -/
theorem dec_valid {l : PL} {limN limM : Rd → Int} (hv : validL l = true) (hl : l.length ≤ 1000000) (hp : ∀ p ∈ l, p.2.length ≤ 1000000000) (hN : (l.length : Int) ≤ limN ⟨0, false⟩) (hM : ∀ s (k : Nat), k ≤ (eL l).length - s.at_ → (k : Int) ≤ limM s) : dec (eL l) limN limM = (l, 0) := by
  obtain ⟨a1, a2, a3⟩ := validL_iff hv
  have hok : okPosts 0 l := okPosts_of (by omega) a1 fun p h => ⟨by have := a2 p h; omega, (a2 p h).2, hp p h, (a3 p h).1, (a3 p h).2.1, (a3 p h).2.2⟩
  have hd : (eL l).drop 0 = enc (l.length : Int) ++ ePosts 0 l := by rw [List.drop_zero]; exact eL_eq l
  have hr := (intCodec 0 (limN ⟨0, false⟩)).round (eL l) 0 _ (l.length : Int) ⟨by omega, hN, by constructor <;> omega⟩ hd
  have hd2 : (eL l).drop (0 + (enc (l.length : Int)).length) = ePosts 0 l ++ [] := by rw [← List.drop_drop, hd, List.drop_left, List.append_nil]
  have ho := oIt_round hM l _ 0 [] [] hok hd2
  unfold dec
  rw [hr]
  simp only [Int.toNat_natCast]
  rw [ho]
  unfold fin
  rw [if_neg]
  · simp
  · rintro (h | h)
    · apply h
      rw [rDone0]
      refine ⟨rfl, ?_⟩
      have := congrArg List.length (eL_eq l)
      rw [List.length_append] at this
      show ¬ 0 + (enc (l.length : Int)).length + (ePosts 0 l).length < (eL l).length
      omega
    · rw [List.nil_append] at h
      rw [hv] at h
      cases h
end Go.Proofs.Ytlijaamjcpefoaa
