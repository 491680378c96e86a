/- Numerals and lines read back (layer 26), in plain Lean.
   Conditions: none. -/
import Derived.Test.YtfdlngemkhiiiaaGreatDoorVLn
import Derived.Test.YtfdlngemkhiiiaaGreatDoorLLib
import Derived.Lib.AtoiAll
import Derived.Lib.Itoa
namespace Go.Lib
theorem dec_ne (u : Nat) : decDigits u ≠ [] := by
  rw [decDigits]
  split <;> simp
theorem dec_mem : ∀ (u : Nat) {c : UInt8}, c ∈ decDigits u → 48 ≤ c.toNat ∧ c.toNat ≤ 57 := by
  intro u
  induction u using Nat.strongRecOn with
  | ind u ih =>
    intro c h
    rw [decDigits] at h
    split at h
    · rename_i h1
      rw [List.mem_singleton] at h
      subst h
      rw [UInt8.toNat_ofNat']
      omega
    · rename_i h1
      rw [List.mem_append] at h
      rcases h with h | h
      · exact ih (u / 10) (by omega) h
      · rw [List.mem_singleton] at h
        subst h
        rw [UInt8.toNat_ofNat']
        omega
theorem parse_app (a b : List UInt8) : ∀ (acc u : Nat), parseUint10 acc a = .ok u → parseUint10 acc (a ++ b) = parseUint10 u b := by
  induction a with
  | nil => intro acc u h; simp only [parseUint10] at h; injection h with h; subst h; rfl
  | cons c r ih =>
    intro acc u h
    rw [List.cons_append]
    simp only [parseUint10] at h ⊢
    split at h
    · rename_i h1
      rw [if_pos h1]
      split at h
      · cases h
      · rename_i h2
        rw [if_neg h2]
        split at h
        · cases h
        · rename_i h3
          rw [if_neg h3]
          exact ih _ _ h
    · cases h
theorem parse_one {acc d : Nat} (hd : d < 10) (ha : acc ≤ 922337203685477580) : parseUint10 acc [UInt8.ofNat (48 + d)] = .ok (acc * 10 + d) := by
  have e : (UInt8.ofNat (48 + d)).toNat = 48 + d := by rw [UInt8.toNat_ofNat']; omega
  simp only [parseUint10, e]
  rw [if_pos (by omega), if_neg (by omega), if_neg (by omega)]
  congr 1
  omega
theorem parse_dec : ∀ (u : Nat), u ≤ 9223372036854775807 → parseUint10 0 (decDigits u) = .ok u := by
  intro u
  induction u using Nat.strongRecOn with
  | ind u ih =>
    intro hu
    rw [decDigits]
    split
    · rename_i h1
      rw [parse_one h1 (by omega)]
      congr 1
      omega
    · rename_i h1
      rw [parse_app _ _ _ _ (ih (u / 10) (by omega) (by omega)), parse_one (by omega) (by omega)]
      congr 1
      omega
theorem atoi_dec {u : Nat} (hu : u ≤ 9223372036854775807) : atoiAll (decDigits u) = .ok (u : Int) := by
  have h1 := parse_dec u hu
  have h2 := dec_ne u
  have h3 := fun c (h : c ∈ decDigits u) => dec_mem u h
  generalize decDigits u = l at *
  match l, h2 with
  | c :: r, _ =>
    have h4 := h3 c (by simp)
    unfold atoiAll
    simp only
    rw [if_neg (by omega)]
    unfold parseMag
    rw [if_neg (by simp), h1]
    simp only
    rw [if_neg (by omega), if_neg (by omega), if_neg (by omega)]
theorem dec_inj {u v : Nat} (hu : u ≤ 9223372036854775807) (hv : v ≤ 9223372036854775807) (h : decDigits u = decDigits v) : u = v := by
  have h1 := atoi_dec hu
  rw [h, atoi_dec hv] at h1
  injection h1 with h1
  omega
/-- The first digit is no zero, but for the number zero. -/
theorem dec_head : ∀ (u : Nat), (decDigits u).head? ≠ some 48 ∨ decDigits u = [48] := by
  intro u
  induction u using Nat.strongRecOn with
  | ind u ih =>
    rw [decDigits]
    split
    · rename_i h1
      by_cases h0 : u = 0
      · subst h0; exact .inr rfl
      · refine .inl (fun h => ?_)
        have h := Option.some.inj h
        have := congrArg UInt8.toNat h
        rw [UInt8.toNat_ofNat'] at this
        have e : (48 : UInt8).toNat = 48 := rfl
        omega
    · rename_i h1
      refine .inl ?_
      have h2 := dec_ne (u / 10)
      rcases ih (u / 10) (by omega) with h | h
      · generalize decDigits (u / 10) = l at *
        match l, h2 with
        | c :: r, _ => simpa using h
      · exfalso
        have h3 : u / 10 = 0 := by
          rcases Nat.lt_or_ge (u / 10) 10 with hlt | hge
          · rw [decDigits, dif_pos hlt] at h
            have h := (List.cons.inj h).1
            have := congrArg UInt8.toNat h
            rw [UInt8.toNat_ofNat'] at this
            have e : (48 : UInt8).toNat = 48 := rfl
            omega
          · rw [decDigits, dif_neg (by omega)] at h
            have := congrArg List.length h
            have h4 := List.length_pos_iff.2 (dec_ne (u / 10 / 10))
            rw [List.length_append] at this
            simp only [List.length_singleton] at this
            omega
        omega
/-- The number that digits spell. -/
def numV (l : List UInt8) : Nat := l.foldl (fun n c => 10 * n + (c.toNat - 48)) 0
theorem numV_snoc (l : List UInt8) (c : UInt8) : numV (l ++ [c]) = 10 * numV l + (c.toNat - 48) := by simp [numV]
theorem numV_dec : ∀ (u : Nat), numV (decDigits u) = u := by
  intro u
  induction u using Nat.strongRecOn with
  | ind u ih =>
    rw [decDigits]
    split
    · rename_i h1
      show 10 * 0 + ((UInt8.ofNat (48 + u)).toNat - 48) = u
      rw [UInt8.toNat_ofNat']
      omega
    · rename_i h1
      rw [numV_snoc, ih (u / 10) (by omega), UInt8.toNat_ofNat']
      omega
theorem numV_lt : ∀ (l : List UInt8), (∀ c ∈ l, c.toNat ≤ 57) → numV l < 10 ^ l.length := by
  intro l
  generalize hn : l.length = n
  induction n generalizing l with
  | zero => intro h; have : l = [] := List.length_eq_zero_iff.1 hn; subst this; simp [numV]
  | succ n ih =>
    intro h
    rcases List.eq_nil_or_concat l with rfl | ⟨r, c, rfl⟩
    · simp at hn
    · rw [List.concat_eq_append] at *
      rw [numV_snoc, Nat.pow_succ]
      have := ih r (by simpa using hn) fun x hx => h x (by simp [hx])
      have := h c (by simp)
      omega
end Go.Lib
namespace Voc
open Go.Lib Lst
theorem symK_inj {a b : Int} (ha : 1 ≤ a ∧ a ≤ 3) (hb : 1 ≤ b ∧ b ≤ 3) (h : symK a = symK b) : a = b := by
  have h1 : a = 1 ∨ a = 2 ∨ a = 3 := by omega
  have h2 : b = 1 ∨ b = 2 ∨ b = 3 := by omega
  rcases h1 with rfl | rfl | rfl <;> rcases h2 with rfl | rfl | rfl <;> first | rfl | (exact absurd h (by decide))
theorem dec_no32 (u : Nat) : (32 : UInt8) ∉ decDigits u := fun h => by
  have := dec_mem u h
  have e : (32 : UInt8).toNat = 32 := rfl
  omega
theorem dec_no10 (u : Nat) : (10 : UInt8) ∉ decDigits u := fun h => by
  have := dec_mem u h
  have e : (10 : UInt8).toNat = 10 := rfl
  omega
theorem symK_ne (k : Int) : symK k ≠ 32 ∧ symK k ≠ 10 := by unfold symK; (repeat' split) <;> decide
theorem lineM_split (x : Mp) : splitL 32 (lineM x) = [decDigits x.1.toNat, [symK x.2.2], decDigits x.2.1.toNat] := by
  have e : lineM x = decDigits x.1.toNat ++ 32 :: ([symK x.2.2] ++ 32 :: decDigits x.2.1.toNat) := by simp [lineM]
  rw [e, splitL_app _ (dec_no32 _), splitL_app _ (by simp [Ne.symm (symK_ne x.2.2).1]), splitL_not (dec_no32 _)]
theorem lineM_no10 (x : Mp) : (10 : UInt8) ∉ lineM x := by
  simp only [lineM, List.mem_append, List.mem_singleton, not_or]
  exact ⟨⟨⟨⟨dec_no10 _, by decide⟩, Ne.symm (symK_ne _).2⟩, by decide⟩, dec_no10 _⟩
theorem lineM_inj {x y : Mp} (hx : goodM x = true) (hy : goodM y = true) (h : lineM x = lineM y) : x = y := by
  have h1 := lineM_split x
  rw [h, lineM_split y] at h1
  have gx := goodM_iff.1 hx
  have gy := goodM_iff.1 hy
  injection h1 with a1 h1
  injection h1 with a2 h1
  injection h1 with a3 h1
  injection a2 with a2
  have e1 := dec_inj (by omega) (by omega) a1
  have e3 := dec_inj (by omega) (by omega) a3
  have e2 := symK_inj (by omega) (by omega) a2
  obtain ⟨x1, x2, x3⟩ := x
  obtain ⟨y1, y2, y3⟩ := y
  simp only at *
  rw [show x1 = y1 by omega, show x2 = y2 by omega, e2]

open Classical in
/-- The mapping that a line tells, if it tells one. -/
noncomputable def rdF (s : List UInt8) : Option Mp := if h : ∃ x : Mp, goodM x = true ∧ lineM x = s then some (Classical.choose h) else none
theorem rdF_some {s : List UInt8} {x : Mp} : rdF s = some x ↔ goodM x = true ∧ lineM x = s := by
  unfold rdF
  split
  · rename_i h
    have hs := Classical.choose_spec h
    constructor
    · intro e; cases e; exact hs
    · rintro ⟨h1, h2⟩
      rw [lineM_inj hs.1 h1 (hs.2.trans h2.symm)]
  · rename_i h
    constructor
    · intro e; cases e
    · intro e; exact absurd ⟨x, e⟩ h
theorem rdF_none {s : List UInt8} : rdF s = none ↔ ∀ x, goodM x = true → lineM x ≠ s := by
  constructor
  · intro h x h1 h2
    have := rdF_some.2 ⟨h1, h2⟩
    rw [h] at this
    cases this
  · intro h
    cases h1 : rdF s with
    | none => rfl
    | some x => exact absurd (rdF_some.1 h1).2 (h x (rdF_some.1 h1).1)

/-- The mappings that lines tell; what stands behind the last line end must be empty. -/
noncomputable def parseG : List (List UInt8) → List Mp → Int → List Mp × Int × Int
  | [], l, i => (l, 0, 0)
  | t :: ls, l, i => match ls with
    | [] => if t = [] then (l, 0, 0) else ([], i, 7)
    | _ :: _ => match rdF t with
      | some x => if validM (l ++ [x]) = true then parseG ls (l ++ [x]) (i + 1) else ([], i, 7)
      | none => ([], i, 7)
noncomputable def parseF (s : List UInt8) : List Mp × Int × Int := parseG (splitL 10 s) [] 0

theorem parseG_last (t : List UInt8) (l : List Mp) (i : Int) : parseG [t] l i = if t = [] then (l, 0, 0) else ([], i, 7) := by rw [parseG]
theorem parseG_cons {t : List UInt8} {ls : List (List UInt8)} (h : ls ≠ []) (l : List Mp) (i : Int) : parseG (t :: ls) l i = match rdF t with
      | some x => if validM (l ++ [x]) = true then parseG ls (l ++ [x]) (i + 1) else ([], i, 7)
      | none => ([], i, 7) := by
  match ls, h with
  | _ :: _, _ => rw [parseG]
theorem parseG_step {s t r : List UInt8} (h : cutL 10 s = some (t, r)) (l : List Mp) (i : Int) : parseG (splitL 10 s) l i = match rdF t with
      | some x => if validM (l ++ [x]) = true then parseG (splitL 10 r) (l ++ [x]) (i + 1) else ([], i, 7)
      | none => ([], i, 7) := by
  rw [splitL_cut, h]
  exact parseG_cons (splitL_ne _ _) l i
theorem parseG_no {s : List UInt8} (h : cutL 10 s = none) (l : List Mp) (i : Int) : parseG (splitL 10 s) l i = if s = [] then (l, 0, 0) else ([], i, 7) := by
  rw [splitL_cut, h]
  exact parseG_last s l i

theorem validM_pre {a b : List Mp} (h : validM (a ++ b) = true) : validM a = true := by
  rw [validM_iff] at h ⊢
  have hg : ∀ j, j < a.length → (a ++ b).getD j d0 = a.getD j d0 := fun j hj => by
    rw [List.getD_eq_getElem?_getD, List.getD_eq_getElem?_getD, List.getElem?_append_left hj]
  refine ⟨fun j hj => ?_, by have := h.2; rw [List.length_append] at this; omega⟩
  have h1 := h.1 j (by rw [List.length_append]; omega)
  rw [hg j hj] at h1
  refine ⟨h1.1, ?_⟩
  have h2 := h1.2
  unfold upM at h2 ⊢
  rw [hg j hj] at h2
  by_cases h0 : j = 0
  · subst h0; simp
  · rw [hg (j - 1) (by omega)] at h2
    exact h2

/-- What is printed is read back. -/
theorem parseG_print (l : List Mp) : ∀ (a : List Mp) (i : Int), validM (a ++ l) = true → parseG (splitL 10 (printM l)) a i = (a ++ l, 0, 0) := by
  induction l with
  | nil => intro a i h; show parseG [[]] a i = _; rw [parseG_last, if_pos rfl, List.append_nil]
  | cons x r ih =>
    intro a i h
    have hx : goodM x = true := validM_mem h (by simp)
    have e : printM (x :: r) = lineM x ++ 10 :: printM r := by simp [printM]
    have h2 : validM ((a ++ [x]) ++ r) = true := by simpa using h
    rw [e, splitL_app _ (lineM_no10 x), parseG_cons (splitL_ne _ _), rdF_some.2 ⟨hx, rfl⟩]
    simp only
    rw [if_pos (validM_pre h2), ih (a ++ [x]) (i + 1) h2]
    simp
/-- What is accepted is the text of the result. -/
theorem parseG_text (n : Nat) : ∀ (s : List UInt8) (l a : List Mp) (i j : Int), s.length ≤ n → validM l = true → parseG (splitL 10 s) l i = (a, j, 0) → validM a = true ∧ printM a = printM l ++ s := by
  induction n with
  | zero =>
    intro s l a i j hs hv h
    have : s = [] := List.length_eq_zero_iff.1 (by omega)
    subst this
    rw [show splitL 10 [] = [[]] from rfl, parseG_last, if_pos rfl] at h
    cases h
    exact ⟨hv, by simp⟩
  | succ n ih =>
    intro s l a i j hs hv h
    cases hc : cutL 10 s with
    | none =>
      rw [parseG_no hc] at h
      split at h
      · rename_i e
        cases h
        subst e
        exact ⟨hv, by simp⟩
      · cases h
    | some p =>
      obtain ⟨t, r⟩ := p
      rw [parseG_step hc] at h
      have hsp := (index_some hc).2
      simp only at hsp
      have hl : s.length = t.length + (r.length + 1) := by
        have := congrArg List.length hsp
        rw [List.length_append, List.length_cons] at this
        exact this
      cases hr : rdF t with
      | none => rw [hr] at h; cases h
      | some x =>
        rw [hr] at h
        simp only at h
        split at h
        · rename_i hv2
          obtain ⟨h1, h2⟩ := ih r (l ++ [x]) a (i + 1) j (by omega) hv2 h
          refine ⟨h1, ?_⟩
          rw [h2, hsp, ← (rdF_some.1 hr).2]
          simp [printM]
        · cases h
theorem parseG_len (n : Nat) : ∀ (s : List UInt8) (l : List Mp) (i : Int), s.length ≤ n → (parseG (splitL 10 s) l i).1.length ≤ l.length + s.length := by
  induction n with
  | zero =>
    intro s l i hs
    have : s = [] := List.length_eq_zero_iff.1 (by omega)
    subst this
    rw [show splitL 10 [] = [[]] from rfl, parseG_last, if_pos rfl]
    simp
  | succ n ih =>
    intro s l i hs
    cases hc : cutL 10 s with
    | none =>
      rw [parseG_no hc]
      split <;> simp
    | some p =>
      obtain ⟨t, r⟩ := p
      rw [parseG_step hc]
      have hsp := (index_some hc).2
      simp only at hsp
      have hl : s.length = t.length + (r.length + 1) := by
        have := congrArg List.length hsp
        rw [List.length_append, List.length_cons] at this
        exact this
      cases hr : rdF t with
      | none => simp
      | some x =>
        simp only
        split
        · have := ih r (l ++ [x]) (i + 1) (by omega)
          rw [List.length_append, List.length_singleton] at this
          omega
        · simp
/-- Lines as they are gathered. -/
def lstep (p : List (List UInt8) × List UInt8) (b : UInt8) : List (List UInt8) × List UInt8 := if b = 10 then (p.1 ++ [p.2], []) else (p.1, p.2 ++ [b])
def linesF (s : List UInt8) : List (List UInt8) × List UInt8 := s.foldl lstep ([], [])
theorem linesF_snoc (s : List UInt8) (b : UInt8) : linesF (s ++ [b]) = lstep (linesF s) b := by simp [linesF]
theorem lines_gen : ∀ (s : List UInt8) (l : List (List UInt8)) (r : List UInt8), (s.foldl lstep (l, r)).1 ++ [(s.foldl lstep (l, r)).2] = l ++ (match splitL 10 s with | [] => [r] | x :: xs => (r ++ x) :: xs)
  | [], l, r => by simp [splitL]
  | b :: t, l, r => by
    rw [List.foldl_cons, splitL]
    unfold lstep
    by_cases hb : b = 10
    · rw [if_pos hb, if_pos hb]
      have := lines_gen t (l ++ [r]) []
      rw [show (t.foldl lstep (l ++ [r], [])) = (t.foldl lstep (l ++ [(l, r).2], [])) from rfl] at this
      refine this.trans ?_
      have hne := splitL_ne 10 t
      revert hne
      cases splitL 10 t with
      | nil => intro h; exact absurd rfl h
      | cons x xs => intro _; simp
    · rw [if_neg hb, if_neg hb]
      refine (lines_gen t l (r ++ [b])).trans ?_
      have hne := splitL_ne 10 t
      revert hne
      cases splitL 10 t with
      | nil => intro h; exact absurd rfl h
      | cons x xs => intro _; simp
theorem linesF_split (s : List UInt8) : (linesF s).1 ++ [(linesF s).2] = splitL 10 s := by
  have := lines_gen s [] []
  unfold linesF
  rw [this]
  have hne := splitL_ne 10 s
  revert hne
  cases splitL 10 s with
  | nil => intro h; exact absurd rfl h
  | cons x xs => intro _; simp
end Voc
