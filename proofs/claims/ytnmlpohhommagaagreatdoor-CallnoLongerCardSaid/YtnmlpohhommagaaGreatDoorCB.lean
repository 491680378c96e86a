/- The order of call numbers (layer 52) in plain Lean: antisymmetric, transitive, zero for equal ones. The text of a call number is short (layer 52). Keys of call numbers (layer 52) in plain Lean: their order, and what lies between the ends of a class.
   Conditions: small parts, as each theorem says. -/
import Derived.Test.YtnmlpohhommagaaGreatDoorCE
import Derived.Test.YtnmlpohhommagaaGreatDoorCD
import Derived.Test.YtnmlpohhommagaaGreatDoorCPl2

/- The order of call numbers (layer 52) in plain Lean: antisymmetric, transitive, zero for equal ones. -/
namespace Lst
open Go.Lib
/-- Three answers of an order that fit. -/
def Tr (x y z : Int) : Prop := (x = 0 → z = y) ∧ (y = 0 → z = x) ∧ (x < 0 → y < 0 → z < 0) ∧ (0 < x → 0 < y → 0 < z)
/-- One answer, and what decides when it is zero. -/
def lex (x x' : Int) : Int := if x = 0 then x' else x
theorem Tr.lex {x y z x' y' z' : Int} (h : Tr x y z) (h' : Tr x' y' z') : Tr (lex x x') (lex y y') (lex z z') := by
  obtain ⟨h1, h2, h3, h4⟩ := h
  obtain ⟨g1, g2, g3, g4⟩ := h'
  unfold Tr Lst.lex
  by_cases hx : x = 0
  · have := h1 hx
    subst this
    rw [if_pos hx]
    by_cases hz : z = 0
    · simp only [if_pos hz]; exact ⟨g1, g2, g3, g4⟩
    · simp only [if_neg hz]
      refine ⟨fun _ => trivial, fun h => absurd h hz, fun _ h => h, fun _ h => h⟩
  · by_cases hy : y = 0
    · have := h2 hy
      subst this
      simp only [if_neg hx, if_pos hy]
      refine ⟨fun h => absurd h hx, fun _ => trivial, fun h _ => h, fun h _ => h⟩
    · rw [if_neg hx, if_neg hy]
      refine ⟨fun h => absurd h hx, fun h => absurd h hy, fun a b => ?_, fun a b => ?_⟩
      · have := h3 a b
        rw [if_neg (by omega)]; exact this
      · have := h4 a b
        rw [if_neg (by omega)]; exact this
def cmpU (a b : UInt8) : Int := if a < b then -1 else if b < a then 1 else 0
theorem Tr.u8 (a b c : UInt8) : Tr (cmpU a b) (cmpU b c) (cmpU a c) := by
  unfold Tr cmpU
  simp only [UInt8.lt_iff_toNat_lt]
  generalize a.toNat = x
  generalize b.toNat = y
  generalize c.toNat = z
  by_cases h1 : x < y <;> by_cases h2 : y < x <;> by_cases h3 : y < z <;> by_cases h4 : z < y <;> by_cases h5 : x < z <;> by_cases h6 : z < x <;> simp [h1, h2, h3, h4, h5, h6] <;> omega
theorem cb_cons (a b : UInt8) (r q : List UInt8) : compareBytes (a :: r) (b :: q) = lex (cmpU a b) (compareBytes r q) := by
  rw [compareBytes]
  unfold lex cmpU
  by_cases h1 : a < b
  · rw [if_pos h1, if_pos h1, if_neg (by decide)]
  · rw [if_neg h1, if_neg h1]
    by_cases h2 : b < a
    · rw [if_pos h2, if_pos h2, if_neg (by decide)]
    · rw [if_neg h2, if_neg h2, if_pos rfl]
theorem Tr.bytes : ∀ a b c : List UInt8, Tr (compareBytes a b) (compareBytes b c) (compareBytes a c)
  | a :: r, b :: q, c :: p => by
    rw [cb_cons, cb_cons, cb_cons]
    exact (Tr.u8 a b c).lex (Tr.bytes r q p)
  | [], [], [] => by simp [Tr, compareBytes]
  | [], [], _ :: _ => by simp [Tr, compareBytes]
  | [], _ :: _, [] => by simp [Tr, compareBytes]
  | _ :: _, [], [] => by simp [Tr, compareBytes]
  | [], b :: q, c :: p => by
    have := compareBytes_vals (b :: q) (c :: p)
    simp [Tr, compareBytes.eq_2]
  | a :: r, [], c :: p => by simp [Tr, compareBytes.eq_2, compareBytes.eq_3]
  | a :: r, b :: q, [] => by
    have := compareBytes_vals (a :: r) (b :: q)
    simp [Tr, compareBytes.eq_3]
theorem Tr.int (a b c : Int) : Tr (cmpI a b) (cmpI b c) (cmpI a c) := by
  unfold Tr cmpI
  by_cases h1 : a < b <;> by_cases h2 : b < a <;> by_cases h3 : b < c <;> by_cases h4 : c < b <;> by_cases h5 : a < c <;> by_cases h6 : c < a <;> simp [h1, h2, h3, h4, h5, h6] <;> omega
theorem orI_cons (x : Int) (l : List Int) : orI (x :: l) = lex x (orI l) := rfl
end Lst
namespace Cn
open Go.Lib Lst
theorem compL_cons (a b : List UInt8) (r q : List (List UInt8)) : compL (a :: r) (b :: q) = lex (compareBytes a b) (compL r q) := rfl
theorem compL_vals : ∀ a b, compL a b = -1 ∨ compL a b = 0 ∨ compL a b = 1
  | [], [] => .inr (.inl rfl)
  | [], _ :: _ => .inl rfl
  | _ :: _, [] => .inr (.inr rfl)
  | a :: r, b :: q => by
    rw [compL_cons]
    unfold lex
    split
    · exact compL_vals r q
    · exact compareBytes_vals a b
theorem Tr.texts : ∀ a b c : List (List UInt8), Tr (compL a b) (compL b c) (compL a c)
  | a :: r, b :: q, c :: p => by
    rw [compL_cons, compL_cons, compL_cons]
    exact (Lst.Tr.bytes a b c).lex (Tr.texts r q p)
  | [], [], [] => by simp [Tr, compL]
  | [], [], _ :: _ => by simp [Tr, compL]
  | [], _ :: _, [] => by simp [Tr, compL]
  | _ :: _, [], [] => by simp [Tr, compL]
  | [], b :: q, c :: p => by
    have h1 : compL [] (b :: q) = -1 := rfl
    have h2 : compL [] (c :: p) = -1 := rfl
    have := compL_vals (b :: q) (c :: p)
    rw [h1, h2]
    generalize compL (b :: q) (c :: p) = y at *
    unfold Tr
    omega
  | a :: r, [], c :: p => by
    have h1 : compL (a :: r) [] = 1 := rfl
    have h2 : compL [] (c :: p) = -1 := rfl
    rw [h1, h2]
    unfold Tr
    omega
  | a :: r, b :: q, [] => by
    have h1 : compL (b :: q) [] = 1 := rfl
    have h2 : compL (a :: r) [] = 1 := rfl
    have := compL_vals (a :: r) (b :: q)
    rw [h1, h2]
    generalize compL (a :: r) (b :: q) = y at *
    unfold Tr
    omega
theorem compF_tr (a b c : Cl) : Tr (compF a b) (compF b c) (compF a c) := by
  unfold compF
  simp only [orI_cons]
  exact (Lst.Tr.int _ _ _).lex ((Lst.Tr.bytes _ _ _).lex ((Lst.Tr.int _ _ _).lex ((Lst.Tr.bytes _ _ _).lex ((Tr.texts _ _ _).lex ((Lst.Tr.int _ _ _).lex ((Lst.Tr.bytes _ _ _).lex (by unfold Tr orI; omega)))))))
theorem lex_neg (x x' : Int) : lex (-x) (-x') = - lex x x' := by
  unfold lex
  by_cases h : x = 0
  · rw [if_pos h, if_pos (by omega)]
  · rw [if_neg h, if_neg (by omega)]
theorem compL_anti : ∀ a b, compL b a = - compL a b
  | [], [] => rfl
  | [], _ :: _ => rfl
  | _ :: _, [] => rfl
  | a :: r, b :: q => by rw [compL_cons, compL_cons, compareBytes_anti a b, compL_anti r q, lex_neg]
theorem compF_anti (a b : Cl) : compF b a = - compF a b := by
  unfold compF
  simp only [orI_cons]
  rw [cmpI_anti a.sch, compareBytes_anti a.cls, cmpI_anti a.num, compareBytes_anti a.dec, compL_anti a.cut, cmpI_anti a.yr, compareBytes_anti a.rest]
  simp only [← lex_neg]
  rfl
theorem lex_zero (x x' : Int) : lex x x' = 0 ↔ x = 0 ∧ x' = 0 := by
  unfold lex
  split <;> omega
theorem compL_zero : ∀ a b, compL a b = 0 ↔ a = b
  | [], [] => by simp [compL]
  | [], _ :: _ => by simp [compL]
  | _ :: _, [] => by simp [compL]
  | a :: r, b :: q => by rw [compL_cons, lex_zero, compareBytes_zero, compL_zero r q]; simp
theorem lex_vals {x x' : Int} (h : x = -1 ∨ x = 0 ∨ x = 1) (h' : x' = -1 ∨ x' = 0 ∨ x' = 1) : lex x x' = -1 ∨ lex x x' = 0 ∨ lex x x' = 1 := by
  unfold lex
  split <;> omega
theorem cmpI_vals (x y : Int) : cmpI x y = -1 ∨ cmpI x y = 0 ∨ cmpI x y = 1 := by
  unfold cmpI
  (repeat' split) <;> omega
theorem compF_vals (a b : Cl) : compF a b = -1 ∨ compF a b = 0 ∨ compF a b = 1 := by
  unfold compF
  simp only [orI_cons]
  exact lex_vals (cmpI_vals _ _) (lex_vals (compareBytes_vals _ _) (lex_vals (cmpI_vals _ _) (lex_vals (compareBytes_vals _ _) (lex_vals (compL_vals _ _) (lex_vals (cmpI_vals _ _) (lex_vals (compareBytes_vals _ _) (.inr (.inl rfl))))))))
theorem compF_zero (a b : Cl) : compF a b = 0 ↔ a = b := by
  unfold compF
  simp only [orI_cons, lex_zero, cmpI_zero, compareBytes_zero, compL_zero]
  obtain ⟨a1, a2, a3, a4, a5, a6, a7⟩ := a
  obtain ⟨b1, b2, b3, b4, b5, b6, b7⟩ := b
  simp [orI]
end Cn

/- The text of a call number is short (layer 52). -/
namespace Cn
open Go.Lib Lst Go.Proofs.YtnmlpohhommagaaGreatDoor
theorem text_len {c : Cl} (hv : validF c = true) : (textF c).length ≤ 200 := by
  have h1 := numF_len hv
  have h2 := cutsT_len (valid_cuts hv) c.cut.length (Nat.le_refl _)
  have hck : c.cut.length ≤ 3 := by rcases valid_sch hv with h | h <;> omega
  have h3 : (decT c).length ≤ 9 := by
    have := (fracF_iff.1 (valid_dec hv)).1
    unfold decT
    split <;> simp <;> omega
  have h4 : (yrT c).length ≤ 5 := by
    have := valid_yr hv
    have := dec_short (u := c.yr.toNat) (by omega)
    unfold yrT
    split <;> simp <;> omega
  have h5 : (restT c).length ≤ 21 := by
    have := restF_len (valid_rest hv)
    unfold restT
    split <;> simp <;> omega
  unfold textF
  simp only [List.length_append]
  omega
theorem print_len (c : Cl) : (printF c).1.length ≤ 200 := by
  unfold printF
  split
  · rename_i h; exact text_len h
  · simp
end Cn

/- Keys of call numbers (layer 52) in plain Lean: their order, and what lies between the ends of a class. -/
namespace Lst
open Go.Lib
theorem cb_same : ∀ (x y r q : List UInt8), x.length = y.length → compareBytes (x ++ r) (y ++ q) = lex (compareBytes x y) (compareBytes r q)
  | [], [], r, q, _ => by simp [compareBytes, lex]
  | a :: x, b :: y, r, q, h => by
    rw [List.cons_append, List.cons_append, cb_cons, cb_cons, cb_same x y r q (by simpa using h)]
    unfold lex
    split <;> (try split) <;> rfl
theorem cb_pair (a b c d : UInt8) (r q : List UInt8) : compareBytes ([a, b] ++ r) ([c, d] ++ q) = lex (compareBytes [a, b] [c, d]) (compareBytes r q) := cb_same _ _ _ _ rfl
theorem cmpU_lt {a b : UInt8} (h : a.toNat < b.toNat) : cmpU a b = -1 := by
  unfold cmpU
  rw [if_pos (UInt8.lt_iff_toNat_lt.2 h)]
theorem cmpU_gt {a b : UInt8} (h : b.toNat < a.toNat) : cmpU a b = 1 := by
  unfold cmpU
  rw [if_neg (by rw [UInt8.lt_iff_toNat_lt]; omega), if_pos (UInt8.lt_iff_toNat_lt.2 h)]
theorem cmpU_self (a : UInt8) : cmpU a a = 0 := by
  unfold cmpU
  rw [if_neg (by rw [UInt8.lt_iff_toNat_lt]; omega), if_neg (by rw [UInt8.lt_iff_toNat_lt]; omega)]
theorem cmpU_zero {a b : UInt8} : cmpU a b = 0 ↔ a = b := by
  constructor
  · intro h
    unfold cmpU at h
    split at h
    · omega
    · split at h
      · omega
      · rename_i h1 h2; exact u8_tri h1 h2
  · rintro rfl; exact cmpU_self a
theorem lex_assoc (x y z : Int) : lex (lex x y) z = lex x (lex y z) := by
  unfold lex
  by_cases h : x = 0
  · rw [if_pos h, if_pos h]
  · rw [if_neg h, if_neg h, if_neg h]
theorem lex_ne {x y : Int} (h : x ≠ 0) : lex x y = x := if_neg h
theorem lex_0 (y : Int) : lex 0 y = y := if_pos rfl
/-- Texts of greater bytes, ended by a byte. -/
theorem cb_end (t : UInt8) : ∀ (x y r q : List UInt8), (∀ a ∈ x, t.toNat < a.toNat) → (∀ a ∈ y, t.toNat < a.toNat) → compareBytes (x ++ t :: r) (y ++ t :: q) = lex (compareBytes x y) (compareBytes r q)
  | [], [], r, q, _, _ => by
    rw [List.nil_append, List.nil_append, cb_cons, cmpU_self, lex_0]
    simp [compareBytes, lex]
  | [], b :: y, r, q, _, hy => by
    rw [List.nil_append, List.cons_append, cb_cons, cmpU_lt (hy b (by simp)), lex_ne (by decide)]
    simp [compareBytes, lex]
  | a :: x, [], r, q, hx, _ => by
    rw [List.nil_append, List.cons_append, cb_cons, cmpU_gt (hx a (by simp)), lex_ne (by decide)]
    simp [compareBytes, lex]
  | a :: x, b :: y, r, q, hx, hy => by
    rw [List.cons_append, List.cons_append, cb_cons, cb_cons, cb_end t x y r q (fun c h => hx c (by simp [h])) (fun c h => hy c (by simp [h])), lex_assoc]
theorem cb_one (a b : UInt8) : compareBytes [a] [b] = cmpU a b := by
  rw [cb_cons]
  have : compareBytes ([] : List UInt8) [] = 0 := rfl
  rw [this]
  unfold lex
  split
  · rename_i h; exact h.symm
  · rfl
theorem cb_two {n m : Nat} (hn : n ≤ 65535) (hm : m ≤ 65535) : compareBytes [UInt8.ofNat (n / 256), UInt8.ofNat (n % 256)] [UInt8.ofNat (m / 256), UInt8.ofNat (m % 256)] = cmpI n m := by
  rw [cb_cons, cb_one]
  have e1 : (UInt8.ofNat (n / 256)).toNat = n / 256 := by rw [UInt8.toNat_ofNat']; omega
  have e2 : (UInt8.ofNat (m / 256)).toNat = m / 256 := by rw [UInt8.toNat_ofNat']; omega
  have e3 : (UInt8.ofNat (n % 256)).toNat = n % 256 := by rw [UInt8.toNat_ofNat']; omega
  have e4 : (UInt8.ofNat (m % 256)).toNat = m % 256 := by rw [UInt8.toNat_ofNat']; omega
  unfold cmpI
  by_cases h1 : n / 256 < m / 256
  · rw [cmpU_lt (by omega), lex_ne (by decide), if_pos (by omega)]
  · by_cases h2 : m / 256 < n / 256
    · rw [cmpU_gt (by omega), lex_ne (by decide), if_neg (by omega), if_pos (by omega)]
    · have h3 : n / 256 = m / 256 := by omega
      rw [h3, cmpU_self, lex_0]
      by_cases h4 : n % 256 < m % 256
      · rw [cmpU_lt (by omega), if_pos (by omega)]
      · by_cases h5 : m % 256 < n % 256
        · rw [cmpU_gt (by omega), if_neg (by omega), if_pos (by omega)]
        · have h6 : n % 256 = m % 256 := by omega
          rw [h6, cmpU_self, if_neg (by omega), if_neg (by omega)]
end Lst
namespace Cn
open Go.Lib Lst
theorem keyC_cons (x : List UInt8) (l : List (List UInt8)) : keyC (x :: l) = 3 :: (x ++ 1 :: keyC l) := by
  unfold keyC
  rw [List.flatMap_cons]
  simp
theorem cb_cuts : ∀ (l m : List (List UInt8)) (r q : List UInt8), (∀ x ∈ l, ∀ a ∈ x, 1 < a.toNat) → (∀ x ∈ m, ∀ a ∈ x, 1 < a.toNat) →
    compareBytes (keyC l ++ 2 :: r) (keyC m ++ 2 :: q) = lex (compL l m) (compareBytes r q)
  | [], [], r, q, _, _ => by
    show compareBytes (2 :: r) (2 :: q) = _
    rw [cb_cons, cmpU_self, lex_0, show compL [] [] = 0 from rfl, lex_0]
  | [], y :: m, r, q, _, _ => by
    rw [keyC_cons]
    show compareBytes (2 :: r) (3 :: _) = _
    rw [cb_cons, show cmpU 2 3 = -1 from by decide, lex_ne (by decide), show compL [] (y :: m) = -1 from rfl, lex_ne (by decide)]
  | x :: l, [], r, q, _, _ => by
    rw [keyC_cons]
    show compareBytes (3 :: _) (2 :: q) = _
    rw [cb_cons, show cmpU 3 2 = 1 from by decide, lex_ne (by decide), show compL (x :: l) [] = 1 from rfl, lex_ne (by decide)]
  | x :: l, y :: m, r, q, hx, hy => by
    rw [keyC_cons, keyC_cons, List.cons_append, List.cons_append, List.append_assoc, List.append_assoc, cb_cons, cmpU_self, lex_0, List.cons_append, List.cons_append,
      cb_end 1 x y _ _ (fun a h => hx x (by simp) a h) (fun a h => hy y (by simp) a h), cb_cuts l m r q (fun z h => hx z (by simp [h])) (fun z h => hy z (by simp [h])), compL_cons, lex_assoc]
theorem dig_gt {s : List UInt8} (h : ∀ x ∈ s, isD x = true) : ∀ x ∈ s, (1 : UInt8).toNat < x.toNat := fun x hx => by
  have := isD_iff.1 (h x hx)
  show 1 < _
  omega
theorem cut_gt {x : List UInt8} (h : cutF x = true) : ∀ a ∈ x, 1 < a.toNat := by
  obtain ⟨a, r, rfl, h1, h2⟩ := cutF_parts h
  intro b hb
  rcases List.mem_cons.1 hb with rfl | hb
  · have := isC_iff.1 h1; omega
  · have := isD_iff.1 (h2 b hb); omega
theorem cls_gt {c : Cl} (hv : validF c = true) : ∀ x ∈ c.cls, (1 : UInt8).toNat < x.toNat := by
  rcases valid_sch hv with h | h
  · intro x hx
    have := isC_iff.1 (h.2.2.2.1 x hx)
    show 1 < _
    omega
  · rw [h.2.1]; simp
/-- What stands ahead of the decimals. -/
def hd (c : Cl) (r : List UInt8) : List UInt8 := UInt8.ofNat c.sch.toNat :: (c.cls ++ 1 :: ([UInt8.ofNat (c.num.toNat / 256), UInt8.ofNat (c.num.toNat % 256)] ++ r))
def cmpH (a b : Cl) : Int := lex (cmpI a.sch b.sch) (lex (compareBytes a.cls b.cls) (cmpI a.num b.num))
theorem cb_hd {a b : Cl} (ha : validF a = true) (hb : validF b = true) (r q : List UInt8) : compareBytes (hd a r) (hd b q) = lex (cmpH a b) (compareBytes r q) := by
  have n1 := valid_num ha
  have n2 := valid_num hb
  have s1 : a.sch = 1 ∨ a.sch = 2 := by rcases valid_sch ha with h | h <;> simp [h.1]
  have s2 : b.sch = 1 ∨ b.sch = 2 := by rcases valid_sch hb with h | h <;> simp [h.1]
  have e1 : cmpU (UInt8.ofNat a.sch.toNat) (UInt8.ofNat b.sch.toNat) = cmpI a.sch b.sch := by
    rcases s1 with h | h <;> rcases s2 with h' | h' <;> rw [h, h'] <;> decide
  unfold hd
  rw [cb_cons, e1, cb_end 1 _ _ _ _ (cls_gt ha) (cls_gt hb), cb_pair, cb_two (by omega) (by omega), show ((a.num.toNat : Nat) : Int) = a.num by omega, show ((b.num.toNat : Nat) : Int) = b.num by omega]
  unfold cmpH
  rw [lex_assoc, lex_assoc]
theorem begF_hd (c : Cl) (r : List UInt8) : begF c ++ r = hd c (c.dec ++ r) := by
  unfold begF hd
  simp
/-- What stands behind the decimals. -/
def tl (c : Cl) : List UInt8 := keyC c.cut ++ 2 :: ([UInt8.ofNat (c.yr.toNat / 256), UInt8.ofNat (c.yr.toNat % 256)] ++ c.rest)
theorem keyF_hd {c : Cl} (hv : validF c = true) : keyF c = hd c (c.dec ++ 1 :: tl c) := by
  unfold keyF
  rw [if_pos hv]
  simp only [List.append_assoc]
  rw [begF_hd]
  unfold tl
  simp
theorem cb_tl {a b : Cl} (ha : validF a = true) (hb : validF b = true) : compareBytes (tl a) (tl b) = lex (compL a.cut b.cut) (lex (cmpI a.yr b.yr) (compareBytes a.rest b.rest)) := by
  have n1 := valid_yr ha
  have n2 := valid_yr hb
  unfold tl
  rw [cb_cuts _ _ _ _ (fun x h => cut_gt (valid_cuts ha x h)) (fun x h => cut_gt (valid_cuts hb x h)), cb_pair, cb_two (by omega) (by omega), show ((a.yr.toNat : Nat) : Int) = a.yr by omega, show ((b.yr.toNat : Nat) : Int) = b.yr by omega]
theorem lex_00 (x : Int) : lex x 0 = x := by unfold lex; split <;> omega
/-- The keys are in the order of the call numbers. -/
theorem key_order {a b : Cl} (ha : validF a = true) (hb : validF b = true) : compareBytes (keyF a) (keyF b) = compF a b := by
  rw [keyF_hd ha, keyF_hd hb, cb_hd ha hb, cb_end 1 _ _ _ _ (dig_gt (fracF_iff.1 (valid_dec ha)).2.1) (dig_gt (fracF_iff.1 (valid_dec hb)).2.1), cb_tl ha hb]
  unfold compF cmpH
  simp only [orI_cons, show orI [] = 0 from rfl, lex_00, lex_assoc]
/-- The ends of a class. -/
def endsF (d : Cl) : List UInt8 × List UInt8 × Int := if classF d = true then (keyF d, begF d ++ [58], 0) else ([], [], 1)
theorem class_parts {d : Cl} (h : classF d = true) : validF d = true ∧ d.cut = [] ∧ d.yr = 0 ∧ d.rest = [] := by
  simp only [classF, Bool.and_eq_true, decide_eq_true_eq] at h
  exact ⟨h.1.1.1, List.eq_nil_of_length_eq_zero h.1.1.2, h.1.2, h.2⟩
theorem tl_least {c : Cl} (hv : validF c = true) : compareBytes [2, 0, 0] (tl c) ≤ 0 := by
  have n1 := valid_yr hv
  unfold tl
  match hc : c.cut with
  | [] =>
    show compareBytes (2 :: ([0, 0] ++ [])) (2 :: ([UInt8.ofNat (c.yr.toNat / 256), UInt8.ofNat (c.yr.toNat % 256)] ++ c.rest)) ≤ 0
    rw [cb_cons, cmpU_self, lex_0, cb_pair]
    have := cb_two (n := 0) (m := c.yr.toNat) (by omega) (by omega)
    rw [show compareBytes [0, 0] [UInt8.ofNat (c.yr.toNat / 256), UInt8.ofNat (c.yr.toNat % 256)] = _ from this]
    have hn : compareBytes [] c.rest ≤ 0 := by
      cases c.rest with
      | nil => decide
      | cons x r => show (-1 : Int) ≤ 0; omega
    unfold cmpI
    by_cases h : 0 < c.yr.toNat
    · rw [if_pos (by omega), lex_ne (by decide)]; omega
    · rw [if_neg (by omega), if_neg (by omega), lex_0]; exact hn
  | x :: l =>
    rw [keyC_cons]
    show compareBytes (2 :: _) (3 :: _) ≤ 0
    rw [cb_cons, show cmpU 2 3 = -1 from by decide, lex_ne (by decide)]
    omega
theorem dec_between {t : List UInt8} (ht : compareBytes [2, 0, 0] t ≤ 0) : ∀ (d c : List UInt8), (∀ x ∈ d, isD x = true) → (∀ x ∈ c, isD x = true) →
    (decide (compareBytes (d ++ 1 :: [2, 0, 0]) (c ++ 1 :: t) ≤ 0) && decide (compareBytes (c ++ 1 :: t) (d ++ [58]) < 0)) = d.isPrefixOf c
  | [], [], _, _ => by
    show (decide (compareBytes (1 :: [2, 0, 0]) (1 :: t) ≤ 0) && decide (compareBytes (1 :: t) (58 :: []) < 0)) = true
    rw [cb_cons, cb_cons, cmpU_self, lex_0, show cmpU 1 58 = -1 from by decide, lex_ne (by decide), decide_eq_true ht]
    rfl
  | [], b :: c, _, hc => by
    have hb := isD_iff.1 (hc b (by simp))
    show (decide (compareBytes (1 :: [2, 0, 0]) (b :: (c ++ 1 :: t)) ≤ 0) && decide (compareBytes (b :: (c ++ 1 :: t)) (58 :: []) < 0)) = true
    rw [cb_cons, cb_cons, cmpU_lt (a := 1) (b := b) (by show 1 < _; omega), cmpU_lt (a := b) (b := 58) (by show _ < 58; omega), lex_ne (by decide), lex_ne (by decide)]
    rfl
  | a :: d, [], hd, _ => by
    have ha := isD_iff.1 (hd a (by simp))
    show (decide (compareBytes (a :: (d ++ 1 :: [2, 0, 0])) (1 :: t) ≤ 0) && _) = false
    rw [cb_cons, cmpU_gt (a := a) (b := 1) (by show 1 < _; omega), lex_ne (by decide)]
    rfl
  | a :: d, b :: c, hd, hc => by
    have ih := dec_between ht d c (fun x h => hd x (by simp [h])) (fun x h => hc x (by simp [h]))
    rw [List.cons_append, List.cons_append, List.cons_append, cb_cons, cb_cons, List.isPrefixOf_cons_cons]
    rcases Nat.lt_trichotomy a.toNat b.toNat with h | h | h
    · rw [cmpU_gt (a := b) (b := a) h, lex_ne (x := 1) (by decide)]
      have : (a == b) = false := beq_eq_false_iff_ne.2 (by rintro rfl; omega)
      rw [this, Bool.false_and]
      simp
    · obtain rfl := UInt8.toNat_inj.1 h
      rw [cmpU_self, lex_0, lex_0, ih]
      simp
    · rw [cmpU_gt (a := a) (b := b) h, lex_ne (x := 1) (by decide)]
      have : (a == b) = false := beq_eq_false_iff_ne.2 (by rintro rfl; omega)
      rw [this, Bool.false_and]
      simp
theorem cmpH_zero {a b : Cl} : cmpH a b = 0 ↔ a.sch = b.sch ∧ a.cls = b.cls ∧ a.num = b.num := by
  unfold cmpH
  rw [lex_zero, lex_zero, cmpI_zero, compareBytes_zero, cmpI_zero]
theorem cmpH_anti (a b : Cl) : cmpH b a = - cmpH a b := by
  unfold cmpH
  rw [cmpI_anti a.sch, compareBytes_anti a.cls, cmpI_anti a.num, lex_neg, lex_neg]
/-- What lies within a class is what lies between its ends. -/
theorem within_ends {c d : Cl} (hc : validF c = true) (hd : classF d = true) : (decide (compareBytes (keyF d) (keyF c) ≤ 0) && decide (compareBytes (keyF c) (begF d ++ [58]) < 0)) = withinF c d := by
  obtain ⟨hv, h1, h2, h3⟩ := class_parts hd
  have ht : tl d = [2, 0, 0] := by unfold tl; rw [h1, h2, h3]; rfl
  have hw : withinF c d = (decide (cmpH c d = 0) && d.dec.isPrefixOf c.dec) := by
    unfold withinF
    rw [hc, hd]
    simp only [cmpH_zero, Bool.decide_and, Bool.true_and, Bool.and_assoc]
  rw [hw, keyF_hd hv, keyF_hd hc, begF_hd, cb_hd hv hc, cb_hd hc hv, cmpH_anti c d, ht]
  have hb := dec_between (tl_least hc) d.dec c.dec (fracF_iff.1 (valid_dec hv)).2.1 (fracF_iff.1 (valid_dec hc)).2.1
  generalize cmpH c d = x at *
  by_cases h : x = 0
  · subst h
    rw [show (-0 : Int) = 0 from rfl, lex_0, lex_0, hb]
    simp
  · rw [lex_ne (x := -x) (by omega), lex_ne h, decide_eq_false h, Bool.false_and]
    by_cases h2 : -x ≤ 0
    · rw [decide_eq_false (by omega : ¬ x < 0), Bool.and_false]
    · rw [decide_eq_false h2, Bool.false_and]
theorem within_le {c d : Cl} (hc : validF c = true) (h : withinF c d = true) : compF d c ≤ 0 := by
  have hd : classF d = true := by
    unfold withinF at h
    simp only [Bool.and_eq_true] at h
    exact h.1.1.1.1.2
  have hv := (class_parts hd).1
  rw [← within_ends hc hd, Bool.and_eq_true, decide_eq_true_eq, key_order hv hc] at h
  exact h.1
end Cn
