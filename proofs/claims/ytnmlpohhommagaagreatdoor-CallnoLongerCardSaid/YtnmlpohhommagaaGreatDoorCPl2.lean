/- Reading a call number's text (layer 52): the program's way and the reference's, in plain Lean.
   Conditions: none. -/
import Derived.Test.YtnmlpohhommagaaGreatDoorCC
import Derived.Test.YtnmlpohhommagaaGreatDoorLNum
namespace Lst
theorem splitL_parts {c : UInt8} : ∀ (L : List (List UInt8)) (a : List UInt8), c ∉ a → (∀ x ∈ L, c ∉ x) → splitL c (a ++ L.flatMap fun x => c :: x) = a :: L
  | [], a, ha, _ => by
    rw [List.flatMap_nil, List.append_nil, splitL_not ha]
  | x :: L, a, ha, h => by
    rw [List.flatMap_cons, List.cons_append, splitL_app _ ha, splitL_parts L x (h x (by simp)) fun y hy => h y (List.mem_cons_of_mem _ hy)]
end Lst
namespace Cn
open Go.Lib Lst
/-- The parts behind the first. -/
def partsOf (c : Cl) : List (List UInt8) := ((List.range c.cut.length).map fun i => cutT c i (c.cut.getD i [])) ++ ((if c.yr = 0 then [] else [decDigits c.yr.toNat]) ++ (if c.rest = [] then [] else [c.rest]))
theorem text_parts (c : Cl) : textF c = (numF c ++ decT c) ++ (partsOf c).flatMap fun x => 32 :: x := by
  unfold textF partsOf cutsT yrT restT
  rw [List.flatMap_append, List.flatMap_append, List.flatMap_map]
  simp only [List.append_assoc]
  congr 3
  split <;> split <;> simp
theorem isC_no {x : UInt8} (h : isC x = true) : x ≠ 32 ∧ x ≠ 46 ∧ isD x = false := by
  have h := isC_iff.1 h
  refine ⟨?_, ?_, ?_⟩
  · rintro rfl; exact absurd h (by decide)
  · rintro rfl; exact absurd h (by decide)
  · cases hd : isD x with
    | false => rfl
    | true => have := isD_iff.1 hd; omega
theorem isD_no {x : UInt8} (h : isD x = true) : x ≠ 32 ∧ x ≠ 46 ∧ isC x = false := by
  have h := isD_iff.1 h
  refine ⟨?_, ?_, ?_⟩
  · rintro rfl; exact absurd h (by decide)
  · rintro rfl; exact absurd h (by decide)
  · cases hd : isC x with
    | false => rfl
    | true => have := isC_iff.1 hd; omega
theorem isS_no {x : UInt8} (h : isS x = true) : x ≠ 32 ∧ x ≠ 46 ∧ isC x = false ∧ isD x = false := by
  have h := isS_iff.1 h
  refine ⟨?_, ?_, ?_, ?_⟩
  · rintro rfl; exact absurd h (by decide)
  · rintro rfl; exact absurd h (by decide)
  · cases hd : isC x with
    | false => rfl
    | true => have := isC_iff.1 hd; omega
  · cases hd : isD x with
    | false => rfl
    | true => have := isD_iff.1 hd; omega
theorem isR_no {x : UInt8} (h : isR x = true) : x ≠ 32 := by
  simp only [isR, Bool.or_eq_true, decide_eq_true_eq] at h
  rcases h with (h | h) | rfl
  · exact (isS_no h).1
  · exact (isD_no h).1
  · decide
theorem dec_isD {u : Nat} {x : UInt8} (h : x ∈ decDigits u) : isD x = true := isD_iff.2 (dec_mem u h)
theorem numF_mem {c : Cl} (hv : validF c = true) : ∀ x ∈ numF c, isC x = true ∨ isD x = true := by
  intro x hx
  unfold numF at hx
  rcases valid_sch hv with h | h
  · rw [if_neg (by omega), List.mem_append] at hx
    exact hx.imp (fun hx => h.2.2.2.1 x hx) dec_isD
  · rw [if_pos h.1] at hx
    exact .inr (dec_isD (List.mem_of_mem_drop hx))
theorem numF_no {c : Cl} (hv : validF c = true) : (46 : UInt8) ∉ numF c ∧ (32 : UInt8) ∉ numF c := by
  constructor
  · intro h
    rcases numF_mem hv _ h with h | h
    · exact (isC_no h).2.1 rfl
    · exact (isD_no h).2.1 rfl
  · intro h
    rcases numF_mem hv _ h with h | h
    · exact (isC_no h).1 rfl
    · exact (isD_no h).1 rfl
theorem head_no {c : Cl} (hv : validF c = true) : (32 : UInt8) ∉ numF c ++ decT c := by
  rw [List.mem_append]
  rintro (h | h)
  · exact (numF_no hv).2 h
  · unfold decT at h
    split at h
    · simp at h
    · rcases List.mem_cons.1 h with h | h
      · exact absurd h (by decide)
      · exact (isD_no ((fracF_iff.1 (valid_dec hv)).2.1 _ h)).1 rfl
theorem cutF_parts {x : List UInt8} (h : cutF x = true) : ∃ a r, x = a :: r ∧ isC a = true ∧ ∀ y ∈ r, isD y = true := by
  simp only [cutF, Bool.and_eq_true, decide_eq_true_eq] at h
  match x, h with
  | a :: r, h => exact ⟨a, r, rfl, by simpa using h.1.2, fun y hy => (fracF_iff.1 h.2).2.1 y (by simpa using hy)⟩
theorem cutF_no {x : List UInt8} (h : cutF x = true) : (32 : UInt8) ∉ x := by
  obtain ⟨a, r, rfl, h1, h2⟩ := cutF_parts h
  intro h
  rcases List.mem_cons.1 h with h | h
  · exact (isC_no h1).1 h.symm
  · exact (isD_no (h2 _ h)).1 rfl
theorem restF_no {x : List UInt8} (h : restF x = true) : (32 : UInt8) ∉ x := by
  simp only [restF, Bool.or_eq_true, Bool.and_eq_true, decide_eq_true_eq, List.all_eq_true] at h
  rcases h with rfl | h
  · simp
  · intro hx
    exact isR_no (h.2 _ hx) rfl
theorem parts_no {c : Cl} (hv : validF c = true) : ∀ x ∈ partsOf c, (32 : UInt8) ∉ x := by
  intro x hx
  unfold partsOf at hx
  rcases List.mem_append.1 hx with hx | hx
  · obtain ⟨i, hi, rfl⟩ := List.mem_map.1 hx
    have hi := List.mem_range.1 hi
    have := cutF_no (valid_cuts hv _ (memL hi))
    unfold cutT
    split
    · intro h
      rcases List.mem_cons.1 h with h | h
      · exact absurd h (by decide)
      · exact this h
    · exact this
  · rcases List.mem_append.1 hx with hx | hx
    · split at hx
      · simp at hx
      · simp only [List.mem_singleton] at hx
        subst hx
        intro h
        exact (isD_no (dec_isD h)).1 rfl
    · split at hx
      · simp at hx
      · simp only [List.mem_singleton] at hx
        subst hx
        exact restF_no (valid_rest hv)
theorem text_split {c : Cl} (hv : validF c = true) : splitL 32 (textF c) = (numF c ++ decT c) :: partsOf c := by
  rw [text_parts]
  exact splitL_parts _ _ (head_no hv) (parts_no hv)
theorem head_cut {c : Cl} (hv : validF c = true) : Lst.cutT 46 (numF c ++ decT c) = (numF c, c.dec, decide (c.dec ≠ [])) := by
  unfold Lst.cutT decT
  by_cases h : c.dec = []
  · rw [if_pos h, List.append_nil, cutL_not (numF_no hv).1, h]
    simp
  · rw [if_neg h, cutL_app _ (numF_no hv).1]
    simp [h]

/-- The program's number. -/
def numP (s : List UInt8) : Int := match atoiAll s with
  | .ok n => if s.length ≤ 4 ∧ s.all isD = true then n else -1
  | _ => -1
theorem numP_digits {s : List UInt8} (h0 : s ≠ []) (hl : s.length ≤ 4) (hd : ∀ x ∈ s, isD x = true) : numP s = (numV s : Int) := by
  unfold numP
  rw [atoi_all h0 (by omega) fun x hx => isD_iff.1 (hd x hx)]
  simp only
  rw [if_pos ⟨hl, List.all_eq_true.2 hd⟩]
theorem dec_short {u : Nat} (hu : u ≤ 9999) : (decDigits u).length ≤ 4 := by
  have d1 : ∀ v, v < 10 → (decDigits v).length = 1 := fun v hv => by rw [decDigits, dif_pos hv]; rfl
  have d2 : ∀ v, ¬ v < 10 → (decDigits v).length = (decDigits (v / 10)).length + 1 := fun v hv => by rw [decDigits, dif_neg hv, List.length_append]; rfl
  by_cases h1 : u < 10
  · rw [d1 u h1]; omega
  · rw [d2 u h1]
    by_cases h2 : u / 10 < 10
    · rw [d1 _ h2]; omega
    · rw [d2 _ h2]
      by_cases h3 : u / 10 / 10 < 10
      · rw [d1 _ h3]; omega
      · rw [d2 _ h3, d1 _ (by omega)]; omega
theorem numP_dec {u : Nat} (hu : u ≤ 9999) : numP (decDigits u) = u := by
  rw [numP_digits (dec_ne u) (dec_short hu) fun x hx => dec_isD hx, numV_dec]
theorem decN_spec : ∀ (n u : Nat), numV (decN u n) = u ∧ (∀ x ∈ decN u n, isD x = true) := by
  intro n
  induction n with
  | zero =>
    intro u
    rw [decN]
    split
    · rename_i h; subst h; exact ⟨rfl, fun x hx => by simp at hx⟩
    · exact ⟨numV_dec u, fun x hx => dec_isD hx⟩
  | succ n ih =>
    intro u
    obtain ⟨h1, h2⟩ := ih (u / 10)
    rw [decN]
    refine ⟨?_, fun x hx => ?_⟩
    · rw [numV_snoc, h1, UInt8.toNat_ofNat']; omega
    · rcases List.mem_append.1 hx with hx | hx
      · exact h2 x hx
      · rw [List.mem_singleton] at hx
        subst hx
        rw [isD_iff, UInt8.toNat_ofNat']; omega
theorem decN_len3 {u : Nat} (hu : u ≤ 999) : (decN u 3).length = 3 := by
  rw [decN, decN, decN, decN, if_pos (by omega)]; rfl
theorem numP_three {u : Nat} (hu : u ≤ 999) : numP (decN u 3) = u := by
  obtain ⟨h1, h2⟩ := decN_spec 3 u
  have h3 := decN_len3 hu
  rw [numP_digits (by intro e; rw [e] at h3; simp at h3) (by omega) h2, h1]
/-- What a part tells the program. -/
def stepP (p : List (List UInt8) × Int × List UInt8) (x : List UInt8) : List (List UInt8) × Int × List UInt8 :=
  let name := trimPrefix x [46]
  if name ≠ [] ∧ isC (name.getD 0 0) = true then (p.1 ++ [name], p.2.1, p.2.2)
  else if name ≠ [] ∧ isD (name.getD 0 0) = true then (p.1, numP name, p.2.2)
  else (p.1, p.2.1, x)
/-- The program's candidate. -/
def candP (s : List UInt8) : Cl :=
  let f := Lst.cutT 46 ((splitL 32 s).getD 0 [])
  let digits := f.1.dropWhile isC
  let cls := f.1.take (f.1.length - digits.length)
  let t := ((splitL 32 s).drop 1).foldl stepP ([], 0, [])
  ⟨if cls = [] then 2 else 1, cls, numP digits, f.2.1, t.1, t.2.1, t.2.2⟩
theorem trim_no {x : List UInt8} {a : UInt8} {r : List UInt8} (h : x = a :: r) (ha : a ≠ 46) : trimPrefix x [46] = x := by
  subst h
  unfold trimPrefix hasPrefix
  rw [if_neg]
  simp [List.isPrefixOf, Ne.symm ha]
theorem trim_dot (x : List UInt8) : trimPrefix (46 :: x) [46] = x := by
  unfold trimPrefix hasPrefix
  simp [List.isPrefixOf]
theorem stepP_cut {c : Cl} {i : Nat} {x : List UInt8} (h : cutF x = true) (p : List (List UInt8) × Int × List UInt8) : stepP p (cutT c i x) = (p.1 ++ [x], p.2.1, p.2.2) := by
  obtain ⟨a, r, rfl, h1, h2⟩ := cutF_parts h
  have e : trimPrefix (cutT c i (a :: r)) [46] = a :: r := by
    unfold cutT
    split
    · exact trim_dot _
    · exact trim_no rfl (isC_no h1).2.1
  unfold stepP
  simp only [e]
  rw [if_pos ⟨by simp, by simpa using h1⟩]
theorem stepP_yr {u : Nat} (hu : u ≤ 9999) (p : List (List UInt8) × Int × List UInt8) : stepP p (decDigits u) = (p.1, (u : Int), p.2.2) := by
  have h0 := dec_ne u
  obtain ⟨a, r, e⟩ : ∃ a r, decDigits u = a :: r := by
    match decDigits u, h0 with
    | a :: r, _ => exact ⟨a, r, rfl⟩
  have ha : isD a = true := dec_isD (u := u) (by rw [e]; simp)
  have h2 : trimPrefix (decDigits u) [46] = decDigits u := trim_no e (isD_no ha).2.1
  have h3 := numP_dec hu
  unfold stepP
  simp only [h2]
  rw [if_neg, if_pos, h3]
  · exact ⟨h0, by rw [e]; simpa using ha⟩
  · rintro ⟨_, h⟩
    rw [e] at h
    have : isC a = true := by simpa using h
    rw [(isD_no ha).2.2] at this
    cases this
theorem stepP_rest {x : List UInt8} (h : restF x = true) (h0 : x ≠ []) (p : List (List UInt8) × Int × List UInt8) : stepP p x = (p.1, p.2.1, x) := by
  obtain ⟨a, r, e⟩ : ∃ a r, x = a :: r := by
    match x, h0 with
    | a :: r, _ => exact ⟨a, r, rfl⟩
  have ha : isS a = true := by
    simp only [restF, Bool.or_eq_true, Bool.and_eq_true, decide_eq_true_eq] at h
    rcases h with h | h
    · exact absurd h h0
    · rw [e] at h; simpa using h.1.2
  have h2 : trimPrefix x [46] = x := trim_no e (isS_no ha).2.1
  unfold stepP
  simp only [h2]
  rw [if_neg, if_neg]
  · rintro ⟨_, h⟩
    rw [e] at h
    have : isD a = true := by simpa using h
    rw [(isS_no ha).2.2.2] at this
    cases this
  · rintro ⟨_, h⟩
    rw [e] at h
    have : isC a = true := by simpa using h
    rw [(isS_no ha).2.2.1] at this
    cases this
theorem fold_cuts {c : Cl} (hv : validF c = true) : ∀ n, n ≤ c.cut.length → ((List.range n).map fun i => cutT c i (c.cut.getD i [])).foldl stepP ([], 0, []) = (c.cut.take n, 0, []) := by
  intro n
  induction n with
  | zero => intro _; simp
  | succ n ih =>
    intro hn
    rw [List.range_succ, List.map_append, List.foldl_append, ih (by omega)]
    simp only [List.map_cons, List.map_nil, List.foldl_cons, List.foldl_nil]
    rw [stepP_cut (valid_cuts hv _ (memL (by omega)))]
    simp only
    rw [List.take_add_one, List.getElem?_eq_getElem (by omega), List.getD_eq_getElem?_getD, List.getElem?_eq_getElem (by omega)]
    rfl
theorem fold_parts {c : Cl} (hv : validF c = true) : (partsOf c).foldl stepP ([], 0, []) = (c.cut, c.yr, c.rest) := by
  unfold partsOf
  rw [List.foldl_append, fold_cuts hv c.cut.length (Nat.le_refl _), List.take_length, List.foldl_append]
  have h1 : (if c.yr = 0 then [] else [decDigits c.yr.toNat]).foldl stepP (c.cut, 0, []) = (c.cut, c.yr, []) := by
    split
    · rename_i h; rw [h]; rfl
    · have := valid_yr hv
      simp only [List.foldl_cons, List.foldl_nil]
      rw [stepP_yr (by omega), Int.toNat_of_nonneg (by omega)]
  rw [h1]
  split
  · rename_i h; rw [h]; rfl
  · rename_i h
    simp only [List.foldl_cons, List.foldl_nil]
    rw [stepP_rest (valid_rest hv) h]
theorem dropWhile_app {p : UInt8 → Bool} {a : List UInt8} (h : ∀ x ∈ a, p x = true) (b : List UInt8) (hb : ∀ x, b.head? = some x → p x = false) : (a ++ b).dropWhile p = b := by
  induction a with
  | nil =>
    match b with
    | [] => rfl
    | y :: r => rw [List.nil_append, List.dropWhile_cons, if_neg]; rw [hb y rfl]; simp
  | cons x r ih =>
    rw [List.cons_append, List.dropWhile_cons, if_pos (h x (by simp))]
    exact ih fun y hy => h y (List.mem_cons_of_mem _ hy)
theorem numF_class {c : Cl} (hv : validF c = true) : (numF c).dropWhile isC = (if c.sch = 2 then decN c.num.toNat 3 else decDigits c.num.toNat) ∧
    (numF c).take ((numF c).length - ((numF c).dropWhile isC).length) = c.cls ∧ numP ((numF c).dropWhile isC) = c.num := by
  have h0 := valid_num hv
  rcases valid_sch hv with h | h
  · have e : numF c = c.cls ++ decDigits c.num.toNat := by unfold numF; rw [if_neg (by omega)]
    have hd : (numF c).dropWhile isC = decDigits c.num.toNat := by
      rw [e]
      refine dropWhile_app h.2.2.2.1 _ fun x hx => (isD_no (dec_isD (List.mem_of_mem_head? hx))).2.2
    rw [hd, if_neg (by omega), e]
    refine ⟨rfl, ?_, ?_⟩
    · rw [List.length_append, Nat.add_sub_cancel, List.take_left]
    · rw [numP_dec (by omega), Int.toNat_of_nonneg (by omega)]
  · have e : numF c = decN c.num.toNat 3 := by unfold numF; rw [if_pos h.1, decN_three (by omega)]
    have hd : (numF c).dropWhile isC = decN c.num.toNat 3 := by
      rw [e]
      have := dropWhile_app (p := isC) (a := []) (fun x hx => by simp at hx) (decN c.num.toNat 3) fun x hx => (isD_no ((decN_spec 3 _).2 x (List.mem_of_mem_head? hx))).2.2
      simpa using this
    rw [hd, if_pos h.1, e]
    refine ⟨rfl, ?_, ?_⟩
    · rw [Nat.sub_self, List.take_zero, h.2.1]
    · rw [numP_three (by omega), Int.toNat_of_nonneg (by omega)]
/-- The program reads what is printed. -/
theorem candP_text {c : Cl} (hv : validF c = true) : candP (textF c) = c := by
  obtain ⟨h1, h2, h3⟩ := numF_class hv
  unfold candP
  rw [text_split hv]
  simp only [List.getD_cons_zero, List.drop_succ_cons, List.drop_zero]
  rw [head_cut hv, fold_parts hv]
  simp only
  rw [h2, h3]
  have hs : (if c.cls = [] then (2 : Int) else 1) = c.sch := by
    rcases valid_sch hv with h | h
    · rw [if_neg (by intro e; rw [e] at h; simp at h), h.1]
    · rw [if_pos h.2.1, h.1]
  rw [hs]
/-- The call number with a text. -/
def parseF (s : List UInt8) : Cl × Int := if validF (candP s) = true ∧ textF (candP s) = s then (candP s, 0) else (⟨0, [], 0, [], [], 0, []⟩, 7)
theorem parseF_text {c : Cl} (hv : validF c = true) : parseF (textF c) = (c, 0) := by
  unfold parseF
  rw [candP_text hv, if_pos ⟨hv, rfl⟩]
end Cn
