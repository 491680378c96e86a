/- Call numbers (layer 52) in plain Lean: valid ones, their text.
   Conditions: none. -/
import Derived.Test.YtnmlpohhommagaaGreatDoorLLib
import Derived.Lib.ItoaNum
import Derived.Lib.AtoiAll
namespace Cn
open Go.Lib Lst
/-- A call number. -/
structure Cl where
  sch : Int
  cls : List UInt8
  num : Int
  dec : List UInt8
  cut : List (List UInt8)
  yr : Int
  rest : List UInt8
  deriving DecidableEq
def isD (c : UInt8) : Bool := decide (48 ≤ c.toNat) && decide (c.toNat ≤ 57)
def isC (c : UInt8) : Bool := decide (65 ≤ c.toNat) && decide (c.toNat ≤ 90)
def isS (c : UInt8) : Bool := decide (97 ≤ c.toNat) && decide (c.toNat ≤ 122)
/-- What may stand in a rest. -/
def isR (c : UInt8) : Bool := isS c || isD c || decide (c = 46)
/-- Does a text end so? -/
def endsZ (s : List UInt8) : Bool := decide (s.getLast? = some 48)
/-- Decimals. -/
def fracF (s : List UInt8) (n : Nat) : Bool := decide (s.length ≤ n) && s.all isD && !endsZ s
/-- A cutter. -/
def cutF (s : List UInt8) : Bool := decide (2 ≤ s.length) && isC (s.getD 0 0) && fracF (s.drop 1) 6
/-- A rest. -/
def restF (s : List UInt8) : Bool := decide (s = []) || decide (s.length ≤ 20) && isS (s.getD 0 0) && s.all isR
/-- What hangs on the scheme. -/
def schF (c : Cl) : Bool :=
  if c.sch = 1 then decide (1 ≤ c.cls.length) && decide (c.cls.length ≤ 3) && c.cls.all isC && decide (1 ≤ c.num) && decide (c.num ≤ 9999) && decide (c.cut.length ≤ 3)
  else if c.sch = 2 then decide (c.cls = []) && decide (0 ≤ c.num) && decide (c.num ≤ 999) && decide (c.cut.length ≤ 1)
  else false
def yrF (y : Int) : Bool := decide (y = 0) || decide (1000 ≤ y) && decide (y ≤ 2999)
def validF (c : Cl) : Bool := c.cut.all cutF && schF c && fracF c.dec 8 && restF c.rest && yrF c.yr
/-- The number in front. -/
def numF (c : Cl) : List UInt8 := if c.sch = 2 then (decDigits (1000 + c.num.toNat)).drop 1 else c.cls ++ decDigits c.num.toNat
/-- A cutter as it is written. -/
def cutT (c : Cl) (i : Nat) (x : List UInt8) : List UInt8 := if i = 0 ∧ c.sch = 1 then 46 :: x else x
def cutsT (c : Cl) (n : Nat) : List UInt8 := (List.range n).flatMap fun i => 32 :: cutT c i (c.cut.getD i [])
def decT (c : Cl) : List UInt8 := if c.dec = [] then [] else 46 :: c.dec
def yrT (c : Cl) : List UInt8 := if c.yr = 0 then [] else 32 :: decDigits c.yr.toNat
def restT (c : Cl) : List UInt8 := if c.rest = [] then [] else 32 :: c.rest
/-- The text. -/
def textF (c : Cl) : List UInt8 := numF c ++ decT c ++ cutsT c c.cut.length ++ yrT c ++ restT c
def printF (c : Cl) : List UInt8 × Int := if validF c = true then (textF c, 0) else ([], 1)
theorem cutsT_succ (c : Cl) (n : Nat) : cutsT c (n + 1) = cutsT c n ++ 32 :: cutT c n (c.cut.getD n []) := by
  unfold cutsT
  rw [List.range_succ, List.flatMap_append]
  simp
theorem fracF_iff {s : List UInt8} {n : Nat} : fracF s n = true ↔ s.length ≤ n ∧ (∀ c ∈ s, isD c = true) ∧ s.getLast? ≠ some 48 := by
  simp [fracF, endsZ, and_assoc]
theorem isD_iff {c : UInt8} : isD c = true ↔ 48 ≤ c.toNat ∧ c.toNat ≤ 57 := by simp [isD]
theorem isC_iff {c : UInt8} : isC c = true ↔ 65 ≤ c.toNat ∧ c.toNat ≤ 90 := by simp [isC]
theorem isS_iff {c : UInt8} : isS c = true ↔ 97 ≤ c.toNat ∧ c.toNat ≤ 122 := by simp [isS]
theorem valid_cuts {c : Cl} (h : validF c = true) : ∀ x ∈ c.cut, cutF x = true := by
  simp only [validF, Bool.and_eq_true, List.all_eq_true] at h
  exact h.1.1.1.1
theorem valid_sch {c : Cl} (h : validF c = true) : (c.sch = 1 ∧ 1 ≤ c.cls.length ∧ c.cls.length ≤ 3 ∧ (∀ x ∈ c.cls, isC x = true) ∧ 1 ≤ c.num ∧ c.num ≤ 9999 ∧ c.cut.length ≤ 3) ∨
    (c.sch = 2 ∧ c.cls = [] ∧ 0 ≤ c.num ∧ c.num ≤ 999 ∧ c.cut.length ≤ 1) := by
  simp only [validF, Bool.and_eq_true] at h
  have h := h.1.1.1.2
  unfold schF at h
  split at h
  · rename_i e
    simp only [Bool.and_eq_true, decide_eq_true_eq, List.all_eq_true] at h
    exact .inl ⟨e, h.1.1.1.1.1, h.1.1.1.1.2, h.1.1.1.2, h.1.1.2, h.1.2, h.2⟩
  · split at h
    · rename_i e
      simp only [Bool.and_eq_true, decide_eq_true_eq] at h
      exact .inr ⟨e, h.1.1.1, h.1.1.2, h.1.2, h.2⟩
    · cases h
theorem valid_num {c : Cl} (h : validF c = true) : 0 ≤ c.num ∧ c.num ≤ 9999 := by
  rcases valid_sch h with h | h <;> omega
theorem valid_dec {c : Cl} (h : validF c = true) : fracF c.dec 8 = true := by
  simp only [validF, Bool.and_eq_true] at h
  exact h.1.1.2
theorem valid_rest {c : Cl} (h : validF c = true) : restF c.rest = true := by
  simp only [validF, Bool.and_eq_true] at h
  exact h.1.2
theorem valid_yr {c : Cl} (h : validF c = true) : c.yr = 0 ∨ 1000 ≤ c.yr ∧ c.yr ≤ 2999 := by
  simp only [validF, Bool.and_eq_true, yrF, Bool.or_eq_true, decide_eq_true_eq] at h
  exact h.2
theorem cutF_len {x : List UInt8} (h : cutF x = true) : x.length ≤ 7 := by
  simp only [cutF, Bool.and_eq_true, decide_eq_true_eq] at h
  have := (fracF_iff.1 h.2).1
  rw [List.length_drop] at this
  omega
theorem restF_len {x : List UInt8} (h : restF x = true) : x.length ≤ 20 := by
  simp only [restF, Bool.or_eq_true, Bool.and_eq_true, decide_eq_true_eq] at h
  rcases h with rfl | h
  · simp
  · exact h.1.1
end Cn
