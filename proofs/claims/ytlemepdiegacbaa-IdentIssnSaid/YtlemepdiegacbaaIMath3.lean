/- Digits with separators; eight digits with a check digit.
   Conditions: none. -/
import Derived.Test.YtlemepdiegacbaaIMath2
namespace Go.Proofs.Ytlemepdiegacbaa
open Go Go.Am Ident
set_option linter.unusedVariables false

theorem cut_none : ∀ s : List UInt8, (∀ c ∈ s, c ≠ 40) → cut s = s
  | [], _ => rfl
  | [c], _ => rfl
  | c :: d :: r, h => by
    unfold cut
    rw [if_neg (fun hh => h d (by simp) hh.2), cut_none (d :: r) (fun x hx => h x (by simp [hx]))]
theorem cut_app (r : List UInt8) : ∀ s : List UInt8, (∀ c ∈ s, c ≠ 40) → cut (s ++ 32 :: 40 :: r) = s
  | [], _ => by simp [cut]
  | [c], _ => by
    show cut (c :: 32 :: 40 :: r) = [c]
    unfold cut
    rw [if_neg (fun hh => absurd hh.2 (by decide))]
    simp [cut]
  | c :: d :: s, h => by
    show cut (c :: d :: (s ++ 32 :: 40 :: r)) = _
    unfold cut
    rw [if_neg (fun hh => h d (by simp) hh.2)]
    have := cut_app r (d :: s) (fun x hx => h x (by simp [hx]))
    rw [List.cons_append] at this
    rw [this]

/-- Digits, behind some of which a separator stands. -/
def weave (t : List UInt8) (f : Nat → List UInt8) : Nat → List UInt8
  | 0 => []
  | k + 1 => weave t f k ++ t.getD k 0 :: f k
def okSep (m : Nat) (f : Nat → List UInt8) : Prop := ∀ k, k < m → f k = [] ∨ (k + 1 < m ∧ ∃ c, f k = [c] ∧ sep c = true)
theorem weave_pre (t : List UInt8) (f : Nat → List UInt8) (k : Nat) : ∀ m, k ≤ m → ∃ r, weave t f m = weave t f k ++ r := by
  intro m
  induction m with
  | zero => intro h; obtain rfl : k = 0 := by omega
            exact ⟨[], by simp⟩
  | succ m ih =>
    intro h
    by_cases e : k = m + 1
    · subst e; exact ⟨[], by simp⟩
    · obtain ⟨r, hr⟩ := ih (by omega)
      exact ⟨r ++ t.getD m 0 :: f m, by rw [weave, hr, List.append_assoc]⟩
theorem weave_len (t : List UInt8) (f : Nat → List UInt8) {m : Nat} (hf : okSep m f) : ∀ k, k ≤ m → k ≤ (weave t f k).length ∧ (weave t f k).length ≤ 2 * k := by
  intro k
  induction k with
  | zero => intro _; simp [weave]
  | succ k ih =>
    intro hk
    have := ih (by omega)
    rcases hf k (by omega) with h | ⟨_, c, h, _⟩ <;> rw [weave, h] <;> simp <;> omega
theorem at_app (a r : List UInt8) (c : UInt8) : (a ++ c :: r).getD a.length 0 = c := by
  rw [List.getD_eq_getElem?_getD, List.getElem?_append_right (Nat.le_refl _)]
  simp
theorem at_app1 (a r : List UInt8) (c d : UInt8) : (a ++ c :: d :: r).getD (a.length + 1) 0 = d := by
  rw [List.getD_eq_getElem?_getD, List.getElem?_append_right (by omega)]
  simp
theorem dig_nosep {c : UInt8} (h : dig c = true) : ¬ sep c = true ∧ c ≠ 40 := by
  have h1 : 48 ≤ c.toNat ∧ c.toNat ≤ 57 := by simpa [dig] using h
  refine ⟨fun e => ?_, fun e => by rw [e] at h1; exact absurd h1.1 (by decide)⟩
  have : c = 45 ∨ c = 32 := by simpa [sep] using e
  rcases this with rfl | rfl
  · exact absurd h1.1 (by decide)
  · exact absurd h1.1 (by decide)
theorem sep_nodig {c : UInt8} (h : sep c = true) : ¬ dig c = true ∧ ¬ isX c = true ∧ c ≠ 40 := by
  have : c = 45 ∨ c = 32 := by simpa [sep] using h
  rcases this with rfl | rfl <;> exact ⟨by decide, by decide, by decide⟩
theorem weave_no40 {t : List UInt8} (ht : plainX t) {f : Nat → List UInt8} (hf : okSep t.length f) : ∀ k, k ≤ t.length → ∀ c ∈ weave t f k, c ≠ 40 := by
  intro k
  induction k with
  | zero => intro _ c hc; simp [weave] at hc
  | succ k ih =>
    intro hk c hc
    rw [weave, List.mem_append] at hc
    rcases hc with hc | hc
    · exact ih (by omega) c hc
    · rcases List.mem_cons.1 hc with rfl | hc
      · rcases ht.2 k (by omega) with h | h
        · exact (dig_nosep h).2
        · rw [h.1]; decide
      · rcases hf k (by omega) with h | ⟨_, d, h, hs⟩ <;> rw [h] at hc
        · simp at hc
        · obtain rfl : c = d := by simpa using hc
          exact (sep_nodig hs).2.2
theorem weave_run {t : List UInt8} (ht : plainX t) {f : Nat → List UInt8} (hf : okSep t.length f) : ∀ k, k ≤ t.length → drun (weave t f t.length) (weave t f k).length = some (t.take k) := by
  intro k
  induction k with
  | zero => intro _; simp [weave, drun]
  | succ k ih =>
    intro hk
    have hr := ih (by omega)
    have hlk := weave_len t f hf k (by omega)
    obtain ⟨r, hpre⟩ := weave_pre t f (k + 1) t.length hk
    have hat : (weave t f t.length).getD (weave t f k).length 0 = t.getD k 0 := by
      rw [hpre, weave, List.append_assoc]; exact at_app _ _ _
    have h2 := ht.1
    have one : drun (weave t f t.length) ((weave t f k).length + 1) = some (t.take (k + 1)) := by
      rw [drun, hr, takeI t k (by omega)]
      show dstep _ _ _ = _
      unfold dstep
      rw [hat]
      rcases ht.2 k (by omega) with h | h
      · rw [if_pos h]
      · have hd : ¬ dig (t.getD k 0) = true := by rw [h.1]; decide
        have hfk : f k = [] := by
          rcases hf k (by omega) with g | ⟨g, _⟩
          · exact g
          · omega
        have hwl : (weave t f k).length + 1 = (weave t f t.length).length := by
          rw [← h.2, weave, hfk]; simp
        rw [if_neg hd, if_pos ⟨by rw [h.1]; decide, hwl, by omega⟩, h.1]
    rcases hf k (by omega) with h | ⟨hlast, c, h, hs⟩
    · have e : (weave t f (k + 1)).length = (weave t f k).length + 1 := by rw [weave, h]; simp
      rw [e, one]
    · have e : (weave t f (k + 1)).length = (weave t f k).length + 1 + 1 := by rw [weave, h]; simp
      have hat1 : (weave t f t.length).getD ((weave t f k).length + 1) 0 = c := by
        rw [hpre, weave, h, List.append_assoc]; exact at_app1 _ _ _ _
      obtain ⟨r2, hpre2⟩ := weave_pre t f (k + 2) t.length (by omega)
      have hlong : (weave t f k).length + 1 + 1 < (weave t f t.length).length := by
        rw [hpre2, weave, List.length_append, List.length_append, e]; simp
        omega
      have hdk : dig (t.getD k 0) = true := by
        rcases ht.2 k (by omega) with h | h
        · exact h
        · omega
      obtain ⟨s1, s2, _⟩ := sep_nodig hs
      rw [e, drun, one]
      show dstep _ _ _ = _
      unfold dstep
      rw [hat1, if_neg s1, if_neg (fun hh => s2 hh.1), if_pos ⟨hs, by omega, hlong, by rw [show (weave t f k).length + 1 - 1 = (weave t f k).length by omega, hat]; exact (dig_nosep hdk).1⟩]
theorem weave_digs {t : List UInt8} (ht : plainX t) {f : Nat → List UInt8} (hf : okSep t.length f) (r : List UInt8) (hr : r = [] ∨ ∃ r', r = 32 :: 40 :: r') : digs (weave t f t.length ++ r) = t := by
  have hc : cut (weave t f t.length ++ r) = weave t f t.length := by
    have h40 := weave_no40 ht hf _ (Nat.le_refl _)
    rcases hr with rfl | ⟨r', rfl⟩
    · rw [List.append_nil]; exact cut_none _ h40
    · exact cut_app r' _ h40
  unfold digs
  rw [hc, weave_run ht hf _ (Nat.le_refl _), List.take_length]
  rfl
theorem digs_none {s : List UInt8} (hc : cut s = s) {k : Nat} (hk : k < s.length) (h : ∀ out, dstep s out k = none) : digs s = [] := by
  unfold digs
  rw [hc]
  have h1 : drun s (k + 1) = none := by
    rw [drun]
    cases drun s k with
    | none => rfl
    | some o => exact h o
  rw [drun_none h1 (by omega)]
  rfl
theorem plainX_no40 {t : List UInt8} (h : plainX t) : ∀ c ∈ t, c ≠ 40 := fun c hc e => by
  obtain ⟨i, hi, e2⟩ := memI hc
  rcases h.2 i hi with h1 | h1
  · rw [e2, e] at h1; exact absurd h1 (by decide)
  · rw [e2, e] at h1; exact absurd h1.1 (by decide)

/-! ### Eight digits -/
theorem fall_set {l : List UInt8} {k : Nat} (hk : k < l.length) (c : UInt8) : fall (l.set k c) = fall l + (((valN c : Nat) : Int) - ((valN (l.getD k 0) : Nat) : Int)) * wF l.length k := by
  unfold fall
  rw [List.length_set, wsum_diff (f := fV (l.set k c)) (g := fV l) (k := k) l.length hk (fun i _ hne => by unfold fV; rw [getD_set_ne _ _ hne])]
  unfold fV
  rw [getD_set_eq _ _ hk]
theorem plainX_set {t : List UInt8} (h : plainX t) (k : Nat) {x : UInt8} (hx : dig x = true) : plainX (t.set k x) := by
  refine ⟨by rw [List.length_set]; exact h.1, fun i hi => ?_⟩
  rw [List.length_set] at hi ⊢
  by_cases e : i = k
  · subst e; rw [getD_set_eq _ _ hi]; exact .inl hx
  · rw [getD_set_ne _ _ e]; exact h.2 i hi
theorem issn_8 {t : List UInt8} (h : plainX t) (hl : t.length = 8) : issnR t = if fall t % 11 ≠ 0 then ([], 6) else (t.take 4 ++ 45 :: t.drop 4, 0) := by
  unfold issnR
  rw [digs_plain h, if_neg (by omega)]
theorem plainX_val {t : List UInt8} (h : plainX t) {i : Nat} (hi : i < t.length) : valN (t.getD i 0) ≤ 10 := valN_le _ ((h.2 i hi).elim .inl (fun g => .inr g.1))
theorem issn_set {t : List UInt8} (h : plainX t) (hl : t.length = 8) (h0 : fall t % 11 = 0) {k : Nat} (hk : k < 8) {x : UInt8} (hx : dig x = true) : ((issnR (t.set k x)).2 = 0 ↔ t.getD k 0 = x) := by
  rw [issn_8 (plainX_set h k hx) (by rw [List.length_set]; exact hl), fall_set (by omega) x]
  have v1 := (dig_val hx).1
  have v2 := plainX_val h (i := k) (by omega)
  have hw : wF t.length k = ((8 - k : Nat) : Int) := by unfold wF; rw [hl]; omega
  constructor
  · intro hh
    by_cases hc : (fall t + (((valN x : Nat) : Int) - ((valN (t.getD k 0) : Nat) : Int)) * wF t.length k) % 11 ≠ 0
    · rw [if_pos hc] at hh; cases hh
    · have e : ((((valN x : Nat) : Int) - ((valN (t.getD k 0) : Nat) : Int)) * ((8 - k : Nat) : Int)) % 11 = 0 := by rw [hw] at hc; omega
      have e2 := mod11 (valN x) (valN (t.getD k 0)) (8 - k) (by omega) v2 (by omega) (by omega) e
      exact val_inj ((h.2 k (by omega)).elim .inl (fun g => .inr g.1)) (.inl hx) e2.symm
  · intro hh
    rw [hh, Int.sub_self, Int.zero_mul, if_neg (by omega)]
theorem list8 {α : Type} (l : List α) (h : l.length = 8) : ∃ a b c d e f g i, l = [a, b, c, d, e, f, g, i] := by
  match l, h with
  | [a, b, c, d, e, f, g, i], _ => exact ⟨_, _, _, _, _, _, _, _, rfl⟩
theorem swap_eq {t : List UInt8} (hl : t.length = 8) {j : Nat} (hj : j < 6) : t.take j ++ t.getD (j + 1) 0 :: t.getD j 0 :: t.drop (j + 2) = (t.set j (t.getD (j + 1) 0)).set (j + 1) (t.getD j 0) := by
  obtain ⟨a, b, c, d, e, f, g, i, rfl⟩ := list8 t hl
  match j, hj with
  | 0, _ => rfl
  | 1, _ => rfl
  | 2, _ => rfl
  | 3, _ => rfl
  | 4, _ => rfl
  | 5, _ => rfl
theorem issn_swap {t : List UInt8} (h : plainX t) (hl : t.length = 8) (h0 : fall t % 11 = 0) {j : Nat} (hj : j < 6) : ((issnR (t.take j ++ t.getD (j + 1) 0 :: t.getD j 0 :: t.drop (j + 2))).2 = 0 ↔ t.getD j 0 = t.getD (j + 1) 0) := by
  have dj : ∀ i, i < 7 → dig (t.getD i 0) = true := fun i hi => by
    rcases h.2 i (by omega) with g | g
    · exact g
    · omega
  have d1 := dj j (by omega)
  have d2 := dj (j + 1) (by omega)
  rw [swap_eq hl hj]
  have p1 := plainX_set h j d2
  have p2 := plainX_set p1 (j + 1) d1
  have l1 : (t.set j (t.getD (j + 1) 0)).length = 8 := by rw [List.length_set]; exact hl
  have l2 : ((t.set j (t.getD (j + 1) 0)).set (j + 1) (t.getD j 0)).length = 8 := by rw [List.length_set]; exact l1
  rw [issn_8 p2 l2, fall_set (by omega), fall_set (by omega), getD_set_ne _ _ (by omega : j + 1 ≠ j), l1, hl]
  have v1 := (dig_val d1).1
  have v2 := (dig_val d2).1
  have e : fall t + (((valN (t.getD (j + 1) 0) : Nat) : Int) - ((valN (t.getD j 0) : Nat) : Int)) * wF 8 j + (((valN (t.getD j 0) : Nat) : Int) - ((valN (t.getD (j + 1) 0) : Nat) : Int)) * wF 8 (j + 1) = fall t + (((valN (t.getD (j + 1) 0) : Nat) : Int) - ((valN (t.getD j 0) : Nat) : Int)) := by
    have hw : wF 8 j = wF 8 (j + 1) + 1 := by unfold wF; omega
    rw [hw, Int.mul_add, Int.mul_one]
    have : (((valN (t.getD j 0) : Nat) : Int) - ((valN (t.getD (j + 1) 0) : Nat) : Int)) * wF 8 (j + 1) = -((((valN (t.getD (j + 1) 0) : Nat) : Int) - ((valN (t.getD j 0) : Nat) : Int)) * wF 8 (j + 1)) := by rw [← Int.neg_mul]; congr 1; omega
    omega
  rw [e]
  constructor
  · intro hh
    by_cases hc : (fall t + (((valN (t.getD (j + 1) 0) : Nat) : Int) - ((valN (t.getD j 0) : Nat) : Int))) % 11 ≠ 0
    · rw [if_pos hc] at hh; cases hh
    · exact dig_inj d1 d2 (by omega)
  · intro hh
    rw [hh, Int.sub_self, if_neg (by omega)]

/-- The place of the check digit of seven digits. -/
def ck8 (s : List UInt8) : Nat := ((11 - fall (s ++ [48]) % 11) % 11).toNat
theorem ck8_lt (s : List UInt8) : ck8 s < 11 := by unfold ck8; omega
def eight (s : List UInt8) : List UInt8 := s ++ [tabX.getD (ck8 s) 0]
theorem cand_plain {s : List UInt8} (hl : s.length = 7) (hd : allDig s) {i : Nat} (hi : i < 11) : plainX (s ++ [tabX.getD i 0]) := snoc_plain (by omega) hd (tab_val ⟨i, hi⟩).2
theorem cand_fall (s : List UInt8) {i : Nat} (hi : i < 11) : fall (s ++ [tabX.getD i 0]) % 11 = 0 ↔ i = ck8 s := by
  have e := fall_snoc s (tabX.getD i 0) 48
  have e0 : valN 48 = 0 := by decide
  have e1 : valN (tabX.getD i 0) = i := (tab_val ⟨i, hi⟩).1
  rw [e0, e1] at e
  unfold ck8
  omega
theorem cand_bad {s : List UInt8} (hl : s.length = 7) (hd : allDig s) {i : Nat} (hi : i < 11) (hne : i ≠ ck8 s) : issnR (s ++ [tabX.getD i 0]) = ([], 6) := by
  rw [issn_8 (cand_plain hl hd hi) (by simp [hl]), if_pos (fun h => hne ((cand_fall s hi).1 h))]
theorem eight_ok {s : List UInt8} (hl : s.length = 7) (hd : allDig s) : plainX (eight s) ∧ (eight s).length = 8 ∧ fall (eight s) % 11 = 0 := ⟨cand_plain hl hd (ck8_lt s), by simp [eight, hl], (cand_fall s (ck8_lt s)).2 rfl⟩
/-- The normal form of eight digits. -/
def nf8 (t : List UInt8) : List UInt8 := t.take 4 ++ 45 :: t.drop 4
theorem eight_issn {t : List UInt8} (h : plainX t) (hl : t.length = 8) (h0 : fall t % 11 = 0) : issnR t = (nf8 t, 0) := by
  rw [issn_8 h hl, if_neg (by omega)]
  rfl
theorem nf8_issn {t : List UInt8} (h : plainX t) (hl : t.length = 8) (h0 : fall t % 11 = 0) : issnR (nf8 t) = (nf8 t, 0) := by
  have hf : okSep t.length (fun k => if k = 3 then [45] else []) := fun k hk => by
    by_cases e : k = 3
    · exact .inr ⟨by omega, 45, by simp [e], by decide⟩
    · exact .inl (by simp [e])
  have hw : weave t (fun k => if k = 3 then [45] else []) t.length ++ [] = nf8 t := by
    obtain ⟨a, b, c, d, e, f, g, i, rfl⟩ := list8 t hl
    rfl
  have hd := weave_digs h hf [] (.inl rfl)
  rw [hw] at hd
  unfold issnR
  rw [hd, if_neg (by omega), if_neg (by omega)]
  rfl
end Go.Proofs.Ytlemepdiegacbaa
