/- Kinds of bytes; decimals; cutters; rests (layer 52): the program's and the reference's. Decimals, cutters, rests (layer 52): the program's and the reference's. The reference's rest; the parts that hang on the scheme; whether a call number is small (layer 52). Call numbers among the cells; whether one is small; the parts that hang on the scheme; the program's Valid (layer 52).
   Conditions: small parts, as each theorem says. -/
import Derived.Test.YtnmlpohhommagaaGreatDoorAmFacts
import Derived.Test.YtnmlpohhommagaaGreatDoorAmTup
import Derived.Test.YtnmlpohhommagaaGreatDoorCPl
import Derived.Test.YtnmlpohhommagaaGreatDoorLStr
import Derived.Test.YtnmlpohhommagaaGreatDoorAmBox2

/- Kinds of bytes; decimals; cutters; rests (layer 52): the program's and the reference's. -/
namespace Go.Proofs.YtnmlpohhommagaaGreatDoor
open Go Go.Am Cn Lst
set_option linter.unusedVariables false
set_option maxRecDepth 100000
theorem drawMixed : Tryz.prog.follows .mixedOrders = true := by kernel_rfl

theorem digP_ok (c : UInt8) (H : List Blk) (T : Toks) : ACall Tryz.prog 49 [.int .u8 (c.toNat : Nat)] H T (Is (.bool (isD c)) H T) := by
  unfold isD
  by_cases h1 : 48 ≤ c.toNat
  · have b1 : decide ((c.toNat : Int) ≥ 48) = true := decide_eq_true (by omega)
    have b1' : decide ((48 : Int) ≤ (c.toNat : Int)) = true := decide_eq_true (by omega)
    rw [decide_eq_true h1]
    have b2 : decide ((c.toNat : Int) ≤ 57) = decide (c.toNat ≤ 57) := by rw [decide_eq_decide]; omega
    generalize hq : decide (c.toNat ≤ 57) = q at *
    refine acall_enter 3 [] Tryz.ntmps49 Tryz.func49 rfl (fun _ _ => Tryz.call49 _ _) (by simp) (fun HO => ?_)
    refine aw_reg fun K hK => ?_; simp (maxSteps := 1000000) (disch := omega) [-List.getD_eq_getElem?_getD]; refine hK _ ?_; clear hK K
    refine aw_reg fun K hK => ?_; simp (maxSteps := 1000000) (disch := omega) [-List.getD_eq_getElem?_getD, b1, b2]; refine hK _ ?_; clear hK K
    refine aw_ret ?_; simp (maxSteps := 1000000) (disch := omega) [-List.getD_eq_getElem?_getD]
    exact ⟨rfl, rfl, rfl⟩
  · have b1 : decide ((c.toNat : Int) ≥ 48) = false := decide_eq_false (by omega)
    have b1' : decide ((48 : Int) ≤ (c.toNat : Int)) = false := decide_eq_false (by omega)
    rw [decide_eq_false h1]
    refine acall_enter 3 [] Tryz.ntmps49 Tryz.func49 rfl (fun _ _ => Tryz.call49 _ _) (by simp) (fun HO => ?_)
    refine aw_reg fun K hK => ?_; simp (maxSteps := 1000000) (disch := omega) [-List.getD_eq_getElem?_getD]; refine hK _ ?_; clear hK K
    refine aw_reg fun K hK => ?_; simp (maxSteps := 1000000) (disch := omega) [-List.getD_eq_getElem?_getD, b1]; refine hK _ ?_; clear hK K
    refine aw_ret ?_; simp (maxSteps := 1000000) (disch := omega) [-List.getD_eq_getElem?_getD]
    exact ⟨rfl, rfl, rfl⟩

theorem digR_ok (c : UInt8) (H : List Blk) (T : Toks) : ACall Tryz.prog 66 [.int .u8 (c.toNat : Nat)] H T (Is (.bool (isD c)) H T) := by
  unfold isD
  by_cases h1 : 48 ≤ c.toNat
  · have b1 : decide ((c.toNat : Int) ≥ 48) = true := decide_eq_true (by omega)
    have b1' : decide ((48 : Int) ≤ (c.toNat : Int)) = true := decide_eq_true (by omega)
    rw [decide_eq_true h1]
    have b2 : decide ((c.toNat : Int) ≤ 57) = decide (c.toNat ≤ 57) := by rw [decide_eq_decide]; omega
    generalize hq : decide (c.toNat ≤ 57) = q at *
    refine acall_enter 3 [] Tryz.ntmps66 Tryz.func66 rfl (fun _ _ => Tryz.call66 _ _) (by simp) (fun HO => ?_)
    refine aw_reg fun K hK => ?_; simp (maxSteps := 1000000) (disch := omega) [-List.getD_eq_getElem?_getD]; refine hK _ ?_; clear hK K
    refine aw_reg fun K hK => ?_; simp (maxSteps := 1000000) (disch := omega) [-List.getD_eq_getElem?_getD, b1, b2]; refine hK _ ?_; clear hK K
    refine aw_ret ?_; simp (maxSteps := 1000000) (disch := omega) [-List.getD_eq_getElem?_getD]
    exact ⟨rfl, rfl, rfl⟩
  · have b1 : decide ((c.toNat : Int) ≥ 48) = false := decide_eq_false (by omega)
    have b1' : decide ((48 : Int) ≤ (c.toNat : Int)) = false := decide_eq_false (by omega)
    rw [decide_eq_false h1]
    refine acall_enter 3 [] Tryz.ntmps66 Tryz.func66 rfl (fun _ _ => Tryz.call66 _ _) (by simp) (fun HO => ?_)
    refine aw_reg fun K hK => ?_; simp (maxSteps := 1000000) (disch := omega) [-List.getD_eq_getElem?_getD]; refine hK _ ?_; clear hK K
    refine aw_reg fun K hK => ?_; simp (maxSteps := 1000000) (disch := omega) [-List.getD_eq_getElem?_getD, b1]; refine hK _ ?_; clear hK K
    refine aw_ret ?_; simp (maxSteps := 1000000) (disch := omega) [-List.getD_eq_getElem?_getD]
    exact ⟨rfl, rfl, rfl⟩

theorem capP_ok (c : UInt8) (H : List Blk) (T : Toks) : ACall Tryz.prog 44 [.int .u8 (c.toNat : Nat)] H T (Is (.bool (isC c)) H T) := by
  unfold isC
  by_cases h1 : 65 ≤ c.toNat
  · have b1 : decide ((c.toNat : Int) ≥ 65) = true := decide_eq_true (by omega)
    have b1' : decide ((65 : Int) ≤ (c.toNat : Int)) = true := decide_eq_true (by omega)
    rw [decide_eq_true h1]
    have b2 : decide ((c.toNat : Int) ≤ 90) = decide (c.toNat ≤ 90) := by rw [decide_eq_decide]; omega
    generalize hq : decide (c.toNat ≤ 90) = q at *
    refine acall_enter 3 [] Tryz.ntmps44 Tryz.func44 rfl (fun _ _ => Tryz.call44 _ _) (by simp) (fun HO => ?_)
    refine aw_reg fun K hK => ?_; simp (maxSteps := 1000000) (disch := omega) [-List.getD_eq_getElem?_getD]; refine hK _ ?_; clear hK K
    refine aw_reg fun K hK => ?_; simp (maxSteps := 1000000) (disch := omega) [-List.getD_eq_getElem?_getD, b1, b2]; refine hK _ ?_; clear hK K
    refine aw_ret ?_; simp (maxSteps := 1000000) (disch := omega) [-List.getD_eq_getElem?_getD]
    exact ⟨rfl, rfl, rfl⟩
  · have b1 : decide ((c.toNat : Int) ≥ 65) = false := decide_eq_false (by omega)
    have b1' : decide ((65 : Int) ≤ (c.toNat : Int)) = false := decide_eq_false (by omega)
    rw [decide_eq_false h1]
    refine acall_enter 3 [] Tryz.ntmps44 Tryz.func44 rfl (fun _ _ => Tryz.call44 _ _) (by simp) (fun HO => ?_)
    refine aw_reg fun K hK => ?_; simp (maxSteps := 1000000) (disch := omega) [-List.getD_eq_getElem?_getD]; refine hK _ ?_; clear hK K
    refine aw_reg fun K hK => ?_; simp (maxSteps := 1000000) (disch := omega) [-List.getD_eq_getElem?_getD, b1]; refine hK _ ?_; clear hK K
    refine aw_ret ?_; simp (maxSteps := 1000000) (disch := omega) [-List.getD_eq_getElem?_getD]
    exact ⟨rfl, rfl, rfl⟩

theorem capR_ok (c : UInt8) (H : List Blk) (T : Toks) : ACall Tryz.prog 33 [.int .u8 (c.toNat : Nat)] H T (Is (.bool (isC c)) H T) := by
  unfold isC
  by_cases h1 : 65 ≤ c.toNat
  · have b1 : decide ((c.toNat : Int) ≥ 65) = true := decide_eq_true (by omega)
    have b1' : decide ((65 : Int) ≤ (c.toNat : Int)) = true := decide_eq_true (by omega)
    rw [decide_eq_true h1]
    have b2 : decide ((c.toNat : Int) ≤ 90) = decide (c.toNat ≤ 90) := by rw [decide_eq_decide]; omega
    generalize hq : decide (c.toNat ≤ 90) = q at *
    refine acall_enter 3 [] Tryz.ntmps33 Tryz.func33 rfl (fun _ _ => Tryz.call33 _ _) (by simp) (fun HO => ?_)
    refine aw_reg fun K hK => ?_; simp (maxSteps := 1000000) (disch := omega) [-List.getD_eq_getElem?_getD]; refine hK _ ?_; clear hK K
    refine aw_reg fun K hK => ?_; simp (maxSteps := 1000000) (disch := omega) [-List.getD_eq_getElem?_getD, b1, b2]; refine hK _ ?_; clear hK K
    refine aw_ret ?_; simp (maxSteps := 1000000) (disch := omega) [-List.getD_eq_getElem?_getD]
    exact ⟨rfl, rfl, rfl⟩
  · have b1 : decide ((c.toNat : Int) ≥ 65) = false := decide_eq_false (by omega)
    have b1' : decide ((65 : Int) ≤ (c.toNat : Int)) = false := decide_eq_false (by omega)
    rw [decide_eq_false h1]
    refine acall_enter 3 [] Tryz.ntmps33 Tryz.func33 rfl (fun _ _ => Tryz.call33 _ _) (by simp) (fun HO => ?_)
    refine aw_reg fun K hK => ?_; simp (maxSteps := 1000000) (disch := omega) [-List.getD_eq_getElem?_getD]; refine hK _ ?_; clear hK K
    refine aw_reg fun K hK => ?_; simp (maxSteps := 1000000) (disch := omega) [-List.getD_eq_getElem?_getD, b1]; refine hK _ ?_; clear hK K
    refine aw_ret ?_; simp (maxSteps := 1000000) (disch := omega) [-List.getD_eq_getElem?_getD]
    exact ⟨rfl, rfl, rfl⟩

theorem smaP_ok (c : UInt8) (H : List Blk) (T : Toks) : ACall Tryz.prog 46 [.int .u8 (c.toNat : Nat)] H T (Is (.bool (isS c)) H T) := by
  unfold isS
  by_cases h1 : 97 ≤ c.toNat
  · have b1 : decide ((c.toNat : Int) ≥ 97) = true := decide_eq_true (by omega)
    have b1' : decide ((97 : Int) ≤ (c.toNat : Int)) = true := decide_eq_true (by omega)
    rw [decide_eq_true h1]
    have b2 : decide ((c.toNat : Int) ≤ 122) = decide (c.toNat ≤ 122) := by rw [decide_eq_decide]; omega
    generalize hq : decide (c.toNat ≤ 122) = q at *
    refine acall_enter 3 [] Tryz.ntmps46 Tryz.func46 rfl (fun _ _ => Tryz.call46 _ _) (by simp) (fun HO => ?_)
    refine aw_reg fun K hK => ?_; simp (maxSteps := 1000000) (disch := omega) [-List.getD_eq_getElem?_getD]; refine hK _ ?_; clear hK K
    refine aw_reg fun K hK => ?_; simp (maxSteps := 1000000) (disch := omega) [-List.getD_eq_getElem?_getD, b1, b2]; refine hK _ ?_; clear hK K
    refine aw_ret ?_; simp (maxSteps := 1000000) (disch := omega) [-List.getD_eq_getElem?_getD]
    exact ⟨rfl, rfl, rfl⟩
  · have b1 : decide ((c.toNat : Int) ≥ 97) = false := decide_eq_false (by omega)
    have b1' : decide ((97 : Int) ≤ (c.toNat : Int)) = false := decide_eq_false (by omega)
    rw [decide_eq_false h1]
    refine acall_enter 3 [] Tryz.ntmps46 Tryz.func46 rfl (fun _ _ => Tryz.call46 _ _) (by simp) (fun HO => ?_)
    refine aw_reg fun K hK => ?_; simp (maxSteps := 1000000) (disch := omega) [-List.getD_eq_getElem?_getD]; refine hK _ ?_; clear hK K
    refine aw_reg fun K hK => ?_; simp (maxSteps := 1000000) (disch := omega) [-List.getD_eq_getElem?_getD, b1]; refine hK _ ?_; clear hK K
    refine aw_ret ?_; simp (maxSteps := 1000000) (disch := omega) [-List.getD_eq_getElem?_getD]
    exact ⟨rfl, rfl, rfl⟩

theorem smaR_ok (c : UInt8) (H : List Blk) (T : Toks) : ACall Tryz.prog 67 [.int .u8 (c.toNat : Nat)] H T (Is (.bool (isS c)) H T) := by
  unfold isS
  by_cases h1 : 97 ≤ c.toNat
  · have b1 : decide ((c.toNat : Int) ≥ 97) = true := decide_eq_true (by omega)
    have b1' : decide ((97 : Int) ≤ (c.toNat : Int)) = true := decide_eq_true (by omega)
    rw [decide_eq_true h1]
    have b2 : decide ((c.toNat : Int) ≤ 122) = decide (c.toNat ≤ 122) := by rw [decide_eq_decide]; omega
    generalize hq : decide (c.toNat ≤ 122) = q at *
    refine acall_enter 3 [] Tryz.ntmps67 Tryz.func67 rfl (fun _ _ => Tryz.call67 _ _) (by simp) (fun HO => ?_)
    refine aw_reg fun K hK => ?_; simp (maxSteps := 1000000) (disch := omega) [-List.getD_eq_getElem?_getD]; refine hK _ ?_; clear hK K
    refine aw_reg fun K hK => ?_; simp (maxSteps := 1000000) (disch := omega) [-List.getD_eq_getElem?_getD, b1, b2]; refine hK _ ?_; clear hK K
    refine aw_ret ?_; simp (maxSteps := 1000000) (disch := omega) [-List.getD_eq_getElem?_getD]
    exact ⟨rfl, rfl, rfl⟩
  · have b1 : decide ((c.toNat : Int) ≥ 97) = false := decide_eq_false (by omega)
    have b1' : decide ((97 : Int) ≤ (c.toNat : Int)) = false := decide_eq_false (by omega)
    rw [decide_eq_false h1]
    refine acall_enter 3 [] Tryz.ntmps67 Tryz.func67 rfl (fun _ _ => Tryz.call67 _ _) (by simp) (fun HO => ?_)
    refine aw_reg fun K hK => ?_; simp (maxSteps := 1000000) (disch := omega) [-List.getD_eq_getElem?_getD]; refine hK _ ?_; clear hK K
    refine aw_reg fun K hK => ?_; simp (maxSteps := 1000000) (disch := omega) [-List.getD_eq_getElem?_getD, b1]; refine hK _ ?_; clear hK K
    refine aw_ret ?_; simp (maxSteps := 1000000) (disch := omega) [-List.getD_eq_getElem?_getD]
    exact ⟨rfl, rfl, rfl⟩

theorem rstP_ok (c : UInt8) (H : List Blk) (T : Toks) : ACall Tryz.prog 48 [.int .u8 (c.toNat : Nat)] H T (Is (.bool (isR c)) H T) := by
  have c1 := smaP_ok c H T
  have c2 := digP_ok c H T
  unfold isR
  cases h1 : isS c with
  | true =>
    rw [h1] at c1
    refine acall_enter 3 [] Tryz.ntmps48 Tryz.func48 rfl (fun _ _ => Tryz.call48 _ _) (by simp) (fun HO => ?_)
    refine aw_reg fun K hK => ?_; simp (maxSteps := 1000000) (disch := omega) [-List.getD_eq_getElem?_getD]; refine hK _ ?_; clear hK K
    refine aw_reg fun K hK => ?_; simp (maxSteps := 1000000) (disch := omega) [-List.getD_eq_getElem?_getD]
    refine acall_is (c1) ?_; simp (maxSteps := 1000000) (disch := omega) [-List.getD_eq_getElem?_getD]
    refine hK _ ?_; clear hK K
    refine aw_ret ?_; simp (maxSteps := 1000000) (disch := omega) [-List.getD_eq_getElem?_getD]
    exact ⟨rfl, rfl, rfl⟩
  | false =>
    rw [h1] at c1
    cases h2 : isD c with
    | true =>
      rw [h2] at c2
      refine acall_enter 3 [] Tryz.ntmps48 Tryz.func48 rfl (fun _ _ => Tryz.call48 _ _) (by simp) (fun HO => ?_)
      refine aw_reg fun K hK => ?_; simp (maxSteps := 1000000) (disch := omega) [-List.getD_eq_getElem?_getD]; refine hK _ ?_; clear hK K
      refine aw_reg fun K hK => ?_; simp (maxSteps := 1000000) (disch := omega) [-List.getD_eq_getElem?_getD]
      refine acall_is (c1) ?_; simp (maxSteps := 1000000) (disch := omega) [-List.getD_eq_getElem?_getD]
      refine acall_is (c2) ?_; simp (maxSteps := 1000000) (disch := omega) [-List.getD_eq_getElem?_getD]
      refine hK _ ?_; clear hK K
      refine aw_ret ?_; simp (maxSteps := 1000000) (disch := omega) [-List.getD_eq_getElem?_getD]
      exact ⟨rfl, rfl, rfl⟩
    | false =>
      rw [h2] at c2
      by_cases h3 : c = 46
      · subst h3
        refine acall_enter 3 [] Tryz.ntmps48 Tryz.func48 rfl (fun _ _ => Tryz.call48 _ _) (by simp) (fun HO => ?_)
        refine aw_reg fun K hK => ?_; simp (maxSteps := 1000000) (disch := omega) [-List.getD_eq_getElem?_getD]; refine hK _ ?_; clear hK K
        refine aw_reg fun K hK => ?_; simp (maxSteps := 1000000) (disch := omega) [-List.getD_eq_getElem?_getD]
        refine acall_is (c1) ?_; simp (maxSteps := 1000000) (disch := omega) [-List.getD_eq_getElem?_getD]
        refine acall_is (c2) ?_; simp (maxSteps := 1000000) (disch := omega) [-List.getD_eq_getElem?_getD]
        refine hK _ ?_; clear hK K
        refine aw_ret ?_; simp (maxSteps := 1000000) (disch := omega) [-List.getD_eq_getElem?_getD]
        exact ⟨rfl, rfl, rfl⟩
      · have e1 : c.toNat ≠ 46 := fun e => h3 (UInt8.toNat_inj.1 e)
        have e2 : ((c.toNat : Int) == 46) = false := beq_eq_false_iff_ne.2 (by omega)
        have e3 : ¬ (c.toNat : Int) = 46 := by omega
        rw [decide_eq_false h3]
        refine acall_enter 3 [] Tryz.ntmps48 Tryz.func48 rfl (fun _ _ => Tryz.call48 _ _) (by simp) (fun HO => ?_)
        refine aw_reg fun K hK => ?_; simp (maxSteps := 1000000) (disch := omega) [-List.getD_eq_getElem?_getD]; refine hK _ ?_; clear hK K
        refine aw_reg fun K hK => ?_; simp (maxSteps := 1000000) (disch := omega) [-List.getD_eq_getElem?_getD]
        refine acall_is (c1) ?_; simp (maxSteps := 1000000) (disch := omega) [-List.getD_eq_getElem?_getD]
        refine acall_is (c2) ?_; simp (maxSteps := 1000000) (disch := omega) [-List.getD_eq_getElem?_getD, e2]
        refine hK _ ?_; clear hK K
        refine aw_ret ?_; simp (maxSteps := 1000000) (disch := omega) [-List.getD_eq_getElem?_getD]
        exact ⟨rfl, rfl, rfl⟩

theorem all_take {p : UInt8 → Bool} {s : List UInt8} {i : Nat} (hk : i < s.length) (h : (s.take i).all p = true) (h2 : p (s.getD i 0) = true) : (s.take (i + 1)).all p = true := by
  rw [List.take_add_one, List.all_append, h]
  rw [List.getD_eq_getElem?_getD] at h2
  rw [List.getElem?_eq_getElem hk] at h2 ⊢
  simpa using h2
theorem all_not {p : UInt8 → Bool} {s : List UInt8} {i : Nat} (hk : i < s.length) (h2 : p (s.getD i 0) = false) : s.all p = false := by
  rw [List.all_eq_false]
  refine ⟨s.getD i 0, ?_, by rw [h2]; simp⟩
  rw [List.getD_eq_getElem?_getD, List.getElem?_eq_getElem hk]
  exact List.getElem_mem hk

set_option maxRecDepth 100000 in
set_option maxHeartbeats 4000000 in
theorem made_ok (f : FuncId) (p : UInt8 → Bool) (hf : ∀ (c : UInt8) H T, ACall Tryz.prog f [.int .u8 (c.toNat : Nat)] H T (Is (.bool (p c)) H T)) (s : List UInt8) (hs : s.length ≤ 1000000) (H : List Blk) (T : Toks) :
    ACall Tryz.prog 47 [.str s, .fn f [] []] H T (Is (.bool (s.all p)) H T) := by
  generalize hF : s.all p = F
  refine acall_enter 9 [] Tryz.ntmps47 Tryz.func47 rfl (fun _ _ => Tryz.call47 _ _) (by simp) (fun HO => ?_)
  refine aw_reg fun K hK => ?_; simp (maxSteps := 1000000) (disch := omega) [-List.getD_eq_getElem?_getD]; refine hK _ ?_; clear hK K
  refine aw_then fun K1 hK1 => ?_
  refine aw_reg fun K hK => ?_; simp (maxSteps := 1000000) (disch := omega) [-List.getD_eq_getElem?_getD]; refine hK _ ?_; clear hK K
  refine aw_block ?_
  refine aw_loop (X := Nat) (fun i => ⟨[(0, .str s), (1, .fn f [] []), (7, .int .i64 (s.length : Nat)), (8, .int .i64 (i : Nat))], H, T⟩) (fun i => i ≤ s.length ∧ (s.take i).all p = true) (fun i => s.length - i) 0 ?_ ?_ ?_
  · exact ⟨Nat.zero_le _, rfl⟩
  · refine weak_to [] [] ?_ ?_ ?_ ?_ HO ?_
    all_goals simp
  · rintro i ⟨h1, h2⟩
    refine aw_reg fun K hK => ?_; simp (maxSteps := 1000000) (disch := omega) [-List.getD_eq_getElem?_getD]; refine hK _ ?_; clear hK K
    refine aw_then fun K2 hK2 => ?_
    refine aw_if rfl (fun hk => ?_) (fun hk => ?_)
    · simp [-List.getD_eq_getElem?_getD] at hk
      have c0 := hf (s.getD i 0) H T
      have hn := fun h => all_not (p := p) hk h
      have hy := fun h => all_take (p := p) hk h2 h
      refine aw_skip ?_; simp (maxSteps := 1000000) (disch := omega) [-List.getD_eq_getElem?_getD]
      refine hK2 _ ?_; clear hK2
      refine aw_then fun K3 hK3 => ?_
      refine aw_block ?_
      generalize hgc : s.getD i 0 = c at *
      cases hp : p c with
      | false =>
        have hn := hn hp
        rw [hn] at hF
        subst hF
        rw [hp] at c0
        refine aw_reg fun K hK => ?_; simp (maxSteps := 1000000) (disch := omega) [-List.getD_eq_getElem?_getD]; refine hK _ ?_; clear hK K
        refine aw_reg fun K hK => ?_; simp (maxSteps := 1000000) (disch := omega) [-List.getD_eq_getElem?_getD, hk, hgc]
        refine acall_is (c0) ?_; simp (maxSteps := 1000000) (disch := omega) [-List.getD_eq_getElem?_getD]
        refine hK _ ?_; clear hK K
        refine aw_if rfl (fun h => ?_) (fun h => absurd h (by simp))
        refine aw_reg fun K hK => ?_; simp (maxSteps := 1000000) (disch := omega) [-List.getD_eq_getElem?_getD]; refine hK _ ?_; clear hK K
        refine aw_ret ?_; simp (maxSteps := 1000000) (disch := omega) [-List.getD_eq_getElem?_getD]
        exact ⟨rfl, rfl, rfl⟩
      | true =>
        rw [hp] at c0
        refine aw_reg fun K hK => ?_; simp (maxSteps := 1000000) (disch := omega) [-List.getD_eq_getElem?_getD]; refine hK _ ?_; clear hK K
        refine aw_reg fun K hK => ?_; simp (maxSteps := 1000000) (disch := omega) [-List.getD_eq_getElem?_getD, hk, hgc]
        refine acall_is (c0) ?_; simp (maxSteps := 1000000) (disch := omega) [-List.getD_eq_getElem?_getD]
        refine hK _ ?_; clear hK K
        refine aw_if rfl (fun h => absurd h (by simp)) (fun h => ?_)
        refine aw_skip ?_; simp (maxSteps := 1000000) (disch := omega) [-List.getD_eq_getElem?_getD]
        refine hK3 _ ?_; clear hK3
        refine aw_reg0 fun K hK => ?_; simp (maxSteps := 1000000) (disch := omega) [-List.getD_eq_getElem?_getD]
        refine hK _ ?_; clear hK K
        refine ⟨i + 1, ⟨by show i + 1 ≤ _; omega, hy hp⟩, by show s.length - (i + 1) < s.length - i; omega, ?_⟩
        refine weak_to [] [] ?_ ?_ ?_ ?_ HO ?_
        all_goals simp
    · simp [-List.getD_eq_getElem?_getD] at hk
      have e : i = s.length := by omega
      subst e
      rw [List.take_length] at h2
      rw [h2] at hF
      subst hF
      refine aw_exit ?_; simp (maxSteps := 1000000) (disch := omega) [-List.getD_eq_getElem?_getD]
      refine hK1 _ ?_; clear hK1
      refine aw_reg fun K hK => ?_; simp (maxSteps := 1000000) (disch := omega) [-List.getD_eq_getElem?_getD]; refine hK _ ?_; clear hK K
      refine aw_ret ?_; simp (maxSteps := 1000000) (disch := omega) [-List.getD_eq_getElem?_getD]
      exact ⟨rfl, rfl, rfl⟩
end Go.Proofs.YtnmlpohhommagaaGreatDoor

/- Decimals, cutters, rests (layer 52): the program's and the reference's. -/
namespace Cn
theorem suffix_one (s : List UInt8) : [48].isSuffixOf s = endsZ s := by
  unfold endsZ
  rcases List.eq_nil_or_concat s with rfl | ⟨r, c, rfl⟩
  · rfl
  · rw [List.concat_eq_append, List.getLast?_append]
    simp only [List.isSuffixOf, List.reverse_append, List.reverse_cons, List.reverse_nil, List.nil_append, List.cons_append]
    simp [List.isPrefixOf]
    by_cases hc : c = 48
    · subst hc; rfl
    · rw [beq_eq_false_iff_ne.2 (fun e => hc e.symm), decide_eq_false hc]
theorem last_at {s : List UInt8} (h : s ≠ []) : s.getLast? = some (s.getD (s.length - 1) 0) := by
  rw [List.getLast?_eq_getElem?, List.getD_eq_getElem?_getD]
  have := List.length_pos_iff.2 h
  rw [List.getElem?_eq_getElem (by omega)]
  rfl
end Cn
namespace Go.Proofs.YtnmlpohhommagaaGreatDoor
open Go Go.Am Cn Lst
set_option linter.unusedVariables false
set_option maxRecDepth 100000

set_option maxRecDepth 100000 in
set_option maxHeartbeats 4000000 in
theorem fracP_ok (s : List UInt8) (n : Nat) (hs : s.length ≤ 1000000) (hn : n ≤ 1000000) (H : List Blk) (T : Toks) :
    ACall Tryz.prog 45 [.str s, .int .i64 (n : Nat)] H T (Is (.bool (fracF s n)) H T) := by
  have c1 := made_ok 49 isD digP_ok s hs H T
  have c2 := hasSuffix_ok s [48] (by omega) H T
  rw [suffix_one] at c2
  unfold fracF
  by_cases h1 : s.length ≤ n
  · have b1 : decide ((s.length : Int) ≤ (n : Nat)) = true := decide_eq_true (by omega)
    rw [decide_eq_true h1]
    cases h2 : s.all isD with
    | false =>
      rw [h2] at c1
      refine acall_enter 5 [] Tryz.ntmps45 Tryz.func45 rfl (fun _ _ => Tryz.call45 _ _) (by simp) (fun HO => ?_)
      refine aw_reg fun K hK => ?_; simp (maxSteps := 1000000) (disch := omega) [-List.getD_eq_getElem?_getD]; refine hK _ ?_; clear hK K
      refine aw_reg fun K hK => ?_; simp (maxSteps := 1000000) (disch := omega) [-List.getD_eq_getElem?_getD, h1]
      refine acall_is (c1) ?_; simp (maxSteps := 1000000) (disch := omega) [-List.getD_eq_getElem?_getD]
      refine hK _ ?_; clear hK K
      refine aw_ret ?_; simp (maxSteps := 1000000) (disch := omega) [-List.getD_eq_getElem?_getD]
      exact ⟨rfl, rfl, rfl⟩
    | true =>
      rw [h2] at c1
      generalize endsZ s = z at *
      refine acall_enter 5 [] Tryz.ntmps45 Tryz.func45 rfl (fun _ _ => Tryz.call45 _ _) (by simp) (fun HO => ?_)
      refine aw_reg fun K hK => ?_; simp (maxSteps := 1000000) (disch := omega) [-List.getD_eq_getElem?_getD]; refine hK _ ?_; clear hK K
      refine aw_reg fun K hK => ?_; simp (maxSteps := 1000000) (disch := omega) [-List.getD_eq_getElem?_getD, h1]
      refine acall_is (c1) ?_; simp (maxSteps := 1000000) (disch := omega) [-List.getD_eq_getElem?_getD]
      refine acall_is (c2) ?_; simp (maxSteps := 1000000) (disch := omega) [-List.getD_eq_getElem?_getD]
      refine hK _ ?_; clear hK K
      refine aw_ret ?_; simp (maxSteps := 1000000) (disch := omega) [-List.getD_eq_getElem?_getD]
      exact ⟨rfl, rfl, rfl⟩
  · have b1 : decide ((s.length : Int) ≤ (n : Nat)) = false := decide_eq_false (by omega)
    rw [decide_eq_false h1]
    refine acall_enter 5 [] Tryz.ntmps45 Tryz.func45 rfl (fun _ _ => Tryz.call45 _ _) (by simp) (fun HO => ?_)
    refine aw_reg fun K hK => ?_; simp (maxSteps := 1000000) (disch := omega) [-List.getD_eq_getElem?_getD]; refine hK _ ?_; clear hK K
    refine aw_reg fun K hK => ?_; simp (maxSteps := 1000000) (disch := omega) [-List.getD_eq_getElem?_getD, h1]; refine hK _ ?_; clear hK K
    refine aw_ret ?_; simp (maxSteps := 1000000) (disch := omega) [-List.getD_eq_getElem?_getD]
    exact ⟨rfl, rfl, rfl⟩

set_option maxRecDepth 100000 in
set_option maxHeartbeats 4000000 in
theorem fracR_ok (s : List UInt8) (n : Nat) (hs : s.length ≤ 1000000) (hn : n ≤ 1000000) (H : List Blk) (T : Toks) :
    ACall Tryz.prog 35 [.str s, .int .i64 (n : Nat)] H T (Is (.bool (fracF s n)) H T) := by
  generalize hF : fracF s n = F
  refine acall_enter 6 [] Tryz.ntmps35 Tryz.func35 rfl (fun _ _ => Tryz.call35 _ _) (by simp) (fun HO => ?_)
  refine aw_reg fun K hK => ?_; simp (maxSteps := 1000000) (disch := omega) [-List.getD_eq_getElem?_getD]; refine hK _ ?_; clear hK K
  refine aw_then fun K1 hK1 => ?_
  refine aw_reg fun K hK => ?_; simp (maxSteps := 1000000) (disch := omega) [-List.getD_eq_getElem?_getD]; refine hK _ ?_; clear hK K
  refine aw_block ?_
  refine aw_loop (X := Nat) (fun i => ⟨[(0, .str s), (1, .int .i64 (n : Nat)), (5, .int .i64 (i : Nat))], H, T⟩) (fun i => i ≤ s.length ∧ (s.take i).all isD = true) (fun i => s.length - i) 0 ?_ ?_ ?_
  · exact ⟨Nat.zero_le _, rfl⟩
  · refine weak_to [] [] ?_ ?_ ?_ ?_ HO ?_
    all_goals simp
  · rintro i ⟨h1, h2⟩
    refine aw_then fun K2 hK2 => ?_
    refine aw_reg fun K hK => ?_; simp (maxSteps := 1000000) (disch := omega) [-List.getD_eq_getElem?_getD]; refine hK _ ?_; clear hK K
    refine aw_if rfl (fun hk => ?_) (fun hk => ?_)
    · simp [-List.getD_eq_getElem?_getD] at hk
      have c0 := digR_ok (s.getD i 0) H T
      have hn := fun h => all_not (p := isD) hk h
      have hy := fun h => all_take (p := isD) hk h2 h
      refine aw_skip ?_; simp (maxSteps := 1000000) (disch := omega) [-List.getD_eq_getElem?_getD]
      refine hK2 _ ?_; clear hK2
      refine aw_then fun K3 hK3 => ?_
      refine aw_block ?_
      generalize hgc : s.getD i 0 = c at *
      cases hp : isD c with
      | false =>
        have hn := hn hp
        unfold fracF at hF
        rw [hn] at hF
        simp only [Bool.and_false, Bool.false_and] at hF
        subst hF
        rw [hp] at c0
        refine aw_reg fun K hK => ?_; simp (maxSteps := 1000000) (disch := omega) [-List.getD_eq_getElem?_getD, hk, hgc]
        refine acall_is (c0) ?_; simp (maxSteps := 1000000) (disch := omega) [-List.getD_eq_getElem?_getD]
        refine hK _ ?_; clear hK K
        refine aw_if rfl (fun h => ?_) (fun h => absurd h (by simp))
        refine aw_reg fun K hK => ?_; simp (maxSteps := 1000000) (disch := omega) [-List.getD_eq_getElem?_getD]; refine hK _ ?_; clear hK K
        refine aw_ret ?_; simp (maxSteps := 1000000) (disch := omega) [-List.getD_eq_getElem?_getD]
        exact ⟨rfl, rfl, rfl⟩
      | true =>
        rw [hp] at c0
        refine aw_reg fun K hK => ?_; simp (maxSteps := 1000000) (disch := omega) [-List.getD_eq_getElem?_getD, hk, hgc]
        refine acall_is (c0) ?_; simp (maxSteps := 1000000) (disch := omega) [-List.getD_eq_getElem?_getD]
        refine hK _ ?_; clear hK K
        refine aw_if rfl (fun h => absurd h (by simp)) (fun h => ?_)
        refine aw_skip ?_; simp (maxSteps := 1000000) (disch := omega) [-List.getD_eq_getElem?_getD]
        refine hK3 _ ?_; clear hK3
        refine aw_reg0 fun K hK => ?_; simp (maxSteps := 1000000) (disch := omega) [-List.getD_eq_getElem?_getD]
        refine hK _ ?_; clear hK K
        refine ⟨i + 1, ⟨by show i + 1 ≤ _; omega, hy hp⟩, by show s.length - (i + 1) < s.length - i; omega, ?_⟩
        refine weak_to [] [] ?_ ?_ ?_ ?_ HO ?_
        all_goals simp
    · simp [-List.getD_eq_getElem?_getD] at hk
      have e : i = s.length := by omega
      subst e
      rw [List.take_length] at h2
      unfold fracF at hF
      rw [h2] at hF
      refine aw_exit ?_; simp (maxSteps := 1000000) (disch := omega) [-List.getD_eq_getElem?_getD]
      refine hK1 _ ?_; clear hK1
      by_cases h3 : s.length ≤ n
      · have b1 : decide ((s.length : Int) ≤ (n : Nat)) = true := decide_eq_true (by omega)
        rw [decide_eq_true h3] at hF
        by_cases h0 : s = []
        · subst h0
          simp only [endsZ] at hF
          subst hF
          refine aw_reg fun K hK => ?_; simp (maxSteps := 1000000) (disch := omega) [-List.getD_eq_getElem?_getD]; refine hK _ ?_; clear hK K
          refine aw_ret ?_; simp (maxSteps := 1000000) (disch := omega) [-List.getD_eq_getElem?_getD]
          exact ⟨rfl, rfl, rfl⟩
        · have b0 : (s == []) = false := beq_eq_false_iff_ne.2 h0
          have hz : endsZ s = decide (s.getD (s.length - 1) 0 = 48) := by unfold endsZ; rw [last_at h0]; simp
          have hp0 := List.length_pos_iff.2 h0
          have hsub : (s.length : Int) - 1 = ((s.length - 1 : Nat) : Int) := by omega
          have hlt : s.length - 1 < s.length := by omega
          rw [hz] at hF
          generalize hgc : s.getD (s.length - 1) 0 = c at *
          generalize hl : s.length - 1 = k at *
          by_cases hc : c = 48
          · subst hc
            simp only [decide_true, Bool.not_true, Bool.and_false] at hF
            subst hF
            refine aw_reg fun K hK => ?_; simp (maxSteps := 1000000) (disch := omega) [-List.getD_eq_getElem?_getD, h3, b0, hsub, hlt, hgc]; refine hK _ ?_; clear hK K
            refine aw_ret ?_; simp (maxSteps := 1000000) (disch := omega) [-List.getD_eq_getElem?_getD]
            exact ⟨rfl, rfl, rfl⟩
          · have e1 : c.toNat ≠ 48 := fun e => hc (UInt8.toNat_inj.1 e)
            have e2 : ((c.toNat : Int) != 48) = true := bne_iff_ne.2 (by omega)
            have e3 : ((c.toNat : Int) == 48) = false := beq_eq_false_iff_ne.2 (by omega)
            have e4 : ¬ (c.toNat : Int) = 48 := by omega
            rw [decide_eq_false hc] at hF
            simp only [Bool.not_false, Bool.and_true] at hF
            subst hF
            refine aw_reg fun K hK => ?_; simp (maxSteps := 1000000) (disch := omega) [-List.getD_eq_getElem?_getD, h3, b0, hsub, hlt, hgc, e2]; refine hK _ ?_; clear hK K
            refine aw_ret ?_; simp (maxSteps := 1000000) (disch := omega) [-List.getD_eq_getElem?_getD]
            exact ⟨rfl, rfl, rfl⟩
      · have b1 : decide ((s.length : Int) ≤ (n : Nat)) = false := decide_eq_false (by omega)
        rw [decide_eq_false h3] at hF
        simp only [Bool.false_and] at hF
        subst hF
        refine aw_reg fun K hK => ?_; simp (maxSteps := 1000000) (disch := omega) [-List.getD_eq_getElem?_getD, h3]; refine hK _ ?_; clear hK K
        refine aw_ret ?_; simp (maxSteps := 1000000) (disch := omega) [-List.getD_eq_getElem?_getD]
        exact ⟨rfl, rfl, rfl⟩

set_option maxRecDepth 100000 in
set_option maxHeartbeats 4000000 in
theorem cutR_ok (s : List UInt8) (hs : s.length ≤ 1000000) (H : List Blk) (T : Toks) :
    ACall Tryz.prog 34 [.str s] H T (Is (.bool (cutF s)) H T) := by
  have c2 := fracR_ok (s.drop 1) 6 (by rw [List.length_drop]; omega) (by omega) H T
  have c1 := capR_ok (s.getD 0 0) H T
  unfold cutF
  have hd : (s.drop 1).take (s.length - 1) = s.drop 1 := List.take_of_length_le (by rw [List.length_drop]; omega)
  rw [show ((6 : Nat) : Int) = 6 from rfl] at c2
  by_cases h1 : 2 ≤ s.length
  · have b1 : decide ((s.length : Int) ≥ 2) = true := decide_eq_true (by omega)
    have b1' : decide ((2 : Int) ≤ (s.length : Nat)) = true := decide_eq_true (by omega)
    have h0 : 0 < s.length := by omega
    have h1' : 1 ≤ s.length := by omega
    rw [decide_eq_true h1]
    generalize hgd : s.drop 1 = d at *
    generalize hgc : s.getD 0 0 = c at *
    cases h2 : isC c with
    | false =>
      rw [h2] at c1
      refine acall_enter 3 [] Tryz.ntmps34 Tryz.func34 rfl (fun _ _ => Tryz.call34 _ _) (by simp) (fun HO => ?_)
      refine aw_reg fun K hK => ?_; simp (maxSteps := 1000000) (disch := omega) [-List.getD_eq_getElem?_getD]; refine hK _ ?_; clear hK K
      refine aw_reg fun K hK => ?_; simp (maxSteps := 1000000) (disch := omega) [-List.getD_eq_getElem?_getD, b1, h0, hgc]
      refine acall_is (c1) ?_; simp (maxSteps := 1000000) (disch := omega) [-List.getD_eq_getElem?_getD]
      refine hK _ ?_; clear hK K
      refine aw_ret ?_; simp (maxSteps := 1000000) (disch := omega) [-List.getD_eq_getElem?_getD]
      exact ⟨rfl, rfl, rfl⟩
    | true =>
      rw [h2] at c1
      generalize fracF d 6 = z at *
      refine acall_enter 3 [] Tryz.ntmps34 Tryz.func34 rfl (fun _ _ => Tryz.call34 _ _) (by simp) (fun HO => ?_)
      refine aw_reg fun K hK => ?_; simp (maxSteps := 1000000) (disch := omega) [-List.getD_eq_getElem?_getD]; refine hK _ ?_; clear hK K
      refine aw_reg fun K hK => ?_; simp (maxSteps := 1000000) (disch := omega) [-List.getD_eq_getElem?_getD, b1, h0, hgc]
      refine acall_is (c1) ?_; simp (maxSteps := 1000000) (disch := omega) [-List.getD_eq_getElem?_getD, h1', hgd, hd]
      refine acall_is (c2) ?_; simp (maxSteps := 1000000) (disch := omega) [-List.getD_eq_getElem?_getD]
      refine hK _ ?_; clear hK K
      refine aw_ret ?_; simp (maxSteps := 1000000) (disch := omega) [-List.getD_eq_getElem?_getD]
      exact ⟨rfl, rfl, rfl⟩
  · have b1 : decide ((s.length : Int) ≥ 2) = false := decide_eq_false (by omega)
    have b1' : decide ((2 : Int) ≤ (s.length : Nat)) = false := decide_eq_false (by omega)
    rw [decide_eq_false h1]
    refine acall_enter 3 [] Tryz.ntmps34 Tryz.func34 rfl (fun _ _ => Tryz.call34 _ _) (by simp) (fun HO => ?_)
    refine aw_reg fun K hK => ?_; simp (maxSteps := 1000000) (disch := omega) [-List.getD_eq_getElem?_getD]; refine hK _ ?_; clear hK K
    refine aw_reg fun K hK => ?_; simp (maxSteps := 1000000) (disch := omega) [-List.getD_eq_getElem?_getD, b1]; refine hK _ ?_; clear hK K
    refine aw_ret ?_; simp (maxSteps := 1000000) (disch := omega) [-List.getD_eq_getElem?_getD]
    exact ⟨rfl, rfl, rfl⟩
end Go.Proofs.YtnmlpohhommagaaGreatDoor

/- The reference's rest; the parts that hang on the scheme; whether a call number is small (layer 52). -/
namespace Cn
theorem restF_eq (s : List UInt8) : restF s = (decide (s.length ≤ 20) && (s.all isR && (decide (s = []) || isS (s.getD 0 0)))) := by
  unfold restF
  by_cases h : s = []
  · subst h; rfl
  · rw [decide_eq_false h]
    simp only [Bool.false_or]
    rw [Bool.and_assoc, Bool.and_comm (isS _)]
/-- The cells of a call number. -/
def clAV (c : Cl) (tg : Go.Am.Tag) : List Go.Am.AV := [.int .i64 c.sch, .str c.cls, .int .i64 c.num, .str c.dec, .sl c.cut.length (Go.Am.strs c.cut) tg, .int .i64 c.yr, .str c.rest]
/-- Parts that memory holds easily. -/
structure Sm (c : Cl) : Prop where
  cls : c.cls.length ≤ 1000
  dec : c.dec.length ≤ 1000
  cut : c.cut.length ≤ 1000
  each : ∀ x ∈ c.cut, x.length ≤ 1000
  rest : c.rest.length ≤ 1000
end Cn
namespace Go.Proofs.YtnmlpohhommagaaGreatDoor
open Go Go.Am Cn Lst
set_option linter.unusedVariables false
set_option maxRecDepth 100000

set_option maxRecDepth 100000 in
set_option maxHeartbeats 4000000 in
theorem restR_ok (s : List UInt8) (hs : s.length ≤ 1000000) (H : List Blk) (T : Toks) :
    ACall Tryz.prog 36 [.str s] H T (Is (.bool (restF s)) H T) := by
  rw [restF_eq]
  generalize hF : (decide (s.length ≤ 20) && (s.all isR && (decide (s = []) || isS (s.getD 0 0)))) = F
  have hb0 : ∀ i c, i < s.length → s.getD i 0 = c → isR c = false → F = false := fun i c hi hc hr => by
    rw [← hF, all_not hi (by rw [hc]; exact hr)]
    simp
  have hb1 : ∀ c, 0 < s.length → s.getD 0 0 = c → isS c = false → F = false := fun c hi hc hr => by
    rw [← hF, hc, hr, decide_eq_false (List.length_pos_iff.1 hi)]
    simp
  refine acall_enter 4 [] Tryz.ntmps36 Tryz.func36 rfl (fun _ _ => Tryz.call36 _ _) (by simp) (fun HO => ?_)
  refine aw_reg fun K hK => ?_; simp (maxSteps := 1000000) (disch := omega) [-List.getD_eq_getElem?_getD]; refine hK _ ?_; clear hK K
  refine aw_then fun K1 hK1 => ?_
  refine aw_reg fun K hK => ?_; simp (maxSteps := 1000000) (disch := omega) [-List.getD_eq_getElem?_getD]; refine hK _ ?_; clear hK K
  refine aw_block ?_
  refine aw_loop (X := Nat) (fun i => ⟨[(0, .str s), (3, .int .i64 (i : Nat))], H, T⟩) (fun i => i ≤ s.length ∧ (s.take i).all isR = true ∧ (0 < i → isS (s.getD 0 0) = true)) (fun i => s.length - i) 0 ?_ ?_ ?_
  · exact ⟨Nat.zero_le _, rfl, fun h => absurd h (Nat.lt_irrefl _)⟩
  · refine weak_to [] [] ?_ ?_ ?_ ?_ HO ?_
    all_goals simp
  · rintro i ⟨h1, h2, h3⟩
    refine aw_then fun K2 hK2 => ?_
    refine aw_reg fun K hK => ?_; simp (maxSteps := 1000000) (disch := omega) [-List.getD_eq_getElem?_getD]; refine hK _ ?_; clear hK K
    refine aw_if rfl (fun hk => ?_) (fun hk => ?_)
    · simp [-List.getD_eq_getElem?_getD] at hk
      have c1 := smaR_ok (s.getD i 0) H T
      have c2 := digR_ok (s.getD i 0) H T
      have hy := fun h => all_take (p := isR) hk h2 h
      have hb0 := hb0 i (s.getD i 0) hk rfl
      refine aw_skip ?_; simp (maxSteps := 1000000) (disch := omega) [-List.getD_eq_getElem?_getD]
      refine hK2 _ ?_; clear hK2
      refine aw_then fun K3 hK3 => ?_
      refine aw_block ?_
      have fin : ∀ e, isR (s.getD i 0) = true → (i = 0 → isS (s.getD 0 0) = true) → envLe H.length T.length e [(0, .str s), (3, .int .i64 (i : Nat))] → K3 ⟨e, H, T⟩ := by
        intro e hr h0 he
        refine hK3 _ (aw_weak ⟨[(0, .str s), (3, .int .i64 (i : Nat))], H, T⟩ (weak_to [] [] (by simp) (by simp) (by simp) (by simp) HO (by simpa using he)) ?_)
        have hy := hy hr
        refine aw_reg0 fun K hK => ?_; simp (maxSteps := 1000000) (disch := omega) [-List.getD_eq_getElem?_getD]
        refine hK _ ?_; clear hK K
        refine ⟨i + 1, ⟨by show i + 1 ≤ _; omega, hy, fun _ => ?_⟩, by show s.length - (i + 1) < s.length - i; omega, ?_⟩
        · by_cases h : i = 0
          · exact h0 h
          · exact h3 (by omega)
        · refine weak_to [] [] ?_ ?_ ?_ ?_ HO ?_
          all_goals simp
      clear hK3 hy
      cases hp : isS (s.getD i 0) with
      | true =>
        have hR : isR (s.getD i 0) = true := by unfold isR; rw [hp]; rfl
        have fin2 := fun e he => fin e hR (fun e0 => by subst e0; exact hp) he
        rw [hp] at c1
        clear hb1
        generalize hgc : s.getD i 0 = c at *
        refine aw_reg fun K hK => ?_; simp (maxSteps := 1000000) (disch := omega) [-List.getD_eq_getElem?_getD, hk, hgc]
        refine acall_is (c1) ?_; simp (maxSteps := 1000000) (disch := omega) [-List.getD_eq_getElem?_getD]
        refine hK _ ?_; clear hK K
        refine aw_if rfl (fun h => absurd h (by simp)) (fun h => ?_)
        refine aw_skip ?_; simp (maxSteps := 1000000) (disch := omega) [-List.getD_eq_getElem?_getD]
        refine fin2 _ ?_
        simp
      | false =>
        rw [hp] at c1
        by_cases h0 : i = 0
        · subst h0
          have hb1 := hb1 (s.getD 0 0) hk rfl hp
          subst hb1
          generalize hgc : s.getD 0 0 = c at *
          refine aw_reg fun K hK => ?_; simp (maxSteps := 1000000) (disch := omega) [-List.getD_eq_getElem?_getD, hk, hgc]
          refine acall_is (c1) ?_; simp (maxSteps := 1000000) (disch := omega) [-List.getD_eq_getElem?_getD]
          refine hK _ ?_; clear hK K
          refine aw_if rfl (fun h => ?_) (fun h => absurd h (by simp))
          refine aw_reg fun K hK => ?_; simp (maxSteps := 1000000) (disch := omega) [-List.getD_eq_getElem?_getD]; refine hK _ ?_; clear hK K
          refine aw_ret ?_; simp (maxSteps := 1000000) (disch := omega) [-List.getD_eq_getElem?_getD]
          exact ⟨rfl, rfl, rfl⟩
        · have b0 : ((i : Int) == 0) = false := beq_eq_false_iff_ne.2 (by omega)
          cases hd : isD (s.getD i 0) with
          | true =>
            have hR : isR (s.getD i 0) = true := by unfold isR; rw [hp, hd]; rfl
            have fin2 := fun e he => fin e hR (fun e0 => absurd e0 h0) he
            rw [hd] at c2
            clear hb1
            generalize hgc : s.getD i 0 = c at *
            refine aw_reg fun K hK => ?_; simp (maxSteps := 1000000) (disch := omega) [-List.getD_eq_getElem?_getD, hk, hgc]
            refine acall_is (c1) ?_; simp (maxSteps := 1000000) (disch := omega) [-List.getD_eq_getElem?_getD, hk, hgc, b0]
            refine acall_is (c2) ?_; simp (maxSteps := 1000000) (disch := omega) [-List.getD_eq_getElem?_getD]
            refine hK _ ?_; clear hK K
            refine aw_if rfl (fun h => absurd h (by simp)) (fun h => ?_)
            refine aw_skip ?_; simp (maxSteps := 1000000) (disch := omega) [-List.getD_eq_getElem?_getD]
            refine fin2 _ ?_
            simp
          | false =>
            rw [hd] at c2
            by_cases hc : s.getD i 0 = 46
            · have hR : isR (s.getD i 0) = true := by unfold isR; rw [hc]; rfl
              have fin2 := fun e he => fin e hR (fun e0 => absurd e0 h0) he
              clear hb1
              generalize hgc : s.getD i 0 = c at *
              subst hc
              refine aw_reg fun K hK => ?_; simp (maxSteps := 1000000) (disch := omega) [-List.getD_eq_getElem?_getD, hk, hgc]
              refine acall_is (c1) ?_; simp (maxSteps := 1000000) (disch := omega) [-List.getD_eq_getElem?_getD, hk, hgc, b0]
              refine acall_is (c2) ?_; simp (maxSteps := 1000000) (disch := omega) [-List.getD_eq_getElem?_getD, hk, hgc]
              refine hK _ ?_; clear hK K
              refine aw_if rfl (fun h => absurd h (by simp)) (fun h => ?_)
              refine aw_skip ?_; simp (maxSteps := 1000000) (disch := omega) [-List.getD_eq_getElem?_getD]
              refine fin2 _ ?_
              simp
            · have hR : isR (s.getD i 0) = false := by unfold isR; rw [hp, hd, decide_eq_false hc]; rfl
              have hb0 := hb0 hR
              subst hb0
              clear hb1 fin
              generalize hgc : s.getD i 0 = c at *
              have e1 : c.toNat ≠ 46 := fun e => hc (UInt8.toNat_inj.1 e)
              have e2 : ((c.toNat : Int) != 46) = true := bne_iff_ne.2 (by omega)
              have e3 : ((c.toNat : Int) == 46) = false := beq_eq_false_iff_ne.2 (by omega)
              have e4 : ¬ (c.toNat : Int) = 46 := by omega
              refine aw_reg fun K hK => ?_; simp (maxSteps := 1000000) (disch := omega) [-List.getD_eq_getElem?_getD, hk, hgc]
              refine acall_is (c1) ?_; simp (maxSteps := 1000000) (disch := omega) [-List.getD_eq_getElem?_getD, hk, hgc, b0]
              refine acall_is (c2) ?_; simp (maxSteps := 1000000) (disch := omega) [-List.getD_eq_getElem?_getD, hk, hgc, e2]
              refine hK _ ?_; clear hK K
              refine aw_if rfl (fun h => ?_) (fun h => absurd h (by simp))
              refine aw_reg fun K hK => ?_; simp (maxSteps := 1000000) (disch := omega) [-List.getD_eq_getElem?_getD]; refine hK _ ?_; clear hK K
              refine aw_ret ?_; simp (maxSteps := 1000000) (disch := omega) [-List.getD_eq_getElem?_getD]
              exact ⟨rfl, rfl, rfl⟩
    · simp [-List.getD_eq_getElem?_getD] at hk
      have e : i = s.length := by omega
      subst e
      rw [List.take_length] at h2
      have h4 : (decide (s = []) || isS (s.getD 0 0)) = true := by
        by_cases h0 : s = []
        · rw [decide_eq_true h0]; rfl
        · rw [h3 (List.length_pos_iff.2 h0)]; simp
      rw [h2, h4] at hF
      clear hb0 hb1
      refine aw_exit ?_; simp (maxSteps := 1000000) (disch := omega) [-List.getD_eq_getElem?_getD]
      refine hK1 _ ?_; clear hK1
      by_cases h5 : s.length ≤ 20
      · have b1 : decide ((s.length : Int) ≤ 20) = true := decide_eq_true (by omega)
        rw [decide_eq_true h5] at hF
        subst hF
        refine aw_reg fun K hK => ?_; simp (maxSteps := 1000000) (disch := omega) [-List.getD_eq_getElem?_getD, b1]; refine hK _ ?_; clear hK K
        refine aw_ret ?_; simp (maxSteps := 1000000) (disch := omega) [-List.getD_eq_getElem?_getD]
        exact ⟨rfl, rfl, rfl⟩
      · have b1 : decide ((s.length : Int) ≤ 20) = false := decide_eq_false (by omega)
        rw [decide_eq_false h5] at hF
        subst hF
        refine aw_reg fun K hK => ?_; simp (maxSteps := 1000000) (disch := omega) [-List.getD_eq_getElem?_getD, b1]; refine hK _ ?_; clear hK K
        refine aw_ret ?_; simp (maxSteps := 1000000) (disch := omega) [-List.getD_eq_getElem?_getD]
        exact ⟨rfl, rfl, rfl⟩
end Go.Proofs.YtnmlpohhommagaaGreatDoor

/- Call numbers among the cells; whether one is small; the parts that hang on the scheme; the program's Valid (layer 52). -/
namespace Go.Am
open Go
theorem ACall.aggUntag1 {P : Program} {f : FuncId} {cs : List AV} {xs : List AV} {H : List Blk} {T : Toks} {Q : AV → List Blk → Toks → Prop} (h : ACall P f (.agg (cs.map Am.untag) :: xs) H T Q) : ACall P f (.agg cs :: xs) H T Q := by
  refine ⟨h.1, fun L w ca hc hl hr => h.2 L w ca hc hl (fun j hj hj' => ?_)⟩
  cases j with
  | zero => exact (hr 0 (by simp) hj').aggUntag
  | succ j => exact hr (j + 1) hj hj'
theorem ACall.aggUntag2 {P : Program} {f : FuncId} {a : AV} {cs : List AV} {xs : List AV} {H : List Blk} {T : Toks} {Q : AV → List Blk → Toks → Prop} (h : ACall P f (a :: .agg (cs.map Am.untag) :: xs) H T Q) : ACall P f (a :: .agg cs :: xs) H T Q := by
  refine ⟨h.1, fun L w ca hc hl hr => h.2 L w ca hc hl (fun j hj hj' => ?_)⟩
  match j, hj with
  | 0, _ => exact hr 0 (by simp) hj'
  | 1, _ => exact (hr 1 (by simp) hj').aggUntag
  | j + 2, hj => exact hr (j + 2) hj hj'
end Go.Am
namespace Cn
/-- All parts at most 30 bytes, and at most 5 cutters. -/
def fewF (c : Cl) : Bool := c.cut.all (fun x => decide (x.length ≤ 30)) && (decide (c.cut.length ≤ 5) && decide (c.cls.length ≤ 30) && decide (c.dec.length ≤ 30) && decide (c.rest.length ≤ 30))
theorem fewF_sm {c : Cl} (h : fewF c = true) : Sm c := by
  simp only [fewF, Bool.and_eq_true, List.all_eq_true, decide_eq_true_eq] at h
  exact ⟨by omega, by omega, by omega, fun x hx => by have := h.1 x hx; omega, by omega⟩
theorem allL_take {p : List UInt8 → Bool} {l : List (List UInt8)} {i : Nat} (hk : i < l.length) (h : (l.take i).all p = true) (h2 : p (l.getD i []) = true) : (l.take (i + 1)).all p = true := by
  rw [List.take_add_one, List.all_append, h]
  rw [List.getD_eq_getElem?_getD] at h2
  rw [List.getElem?_eq_getElem hk] at h2 ⊢
  simpa using h2
theorem allL_not {p : List UInt8 → Bool} {l : List (List UInt8)} {i : Nat} (hk : i < l.length) (h2 : p (l.getD i []) = false) : l.all p = false := by
  rw [List.all_eq_false]
  refine ⟨l.getD i [], ?_, by rw [h2]; simp⟩
  rw [List.getD_eq_getElem?_getD, List.getElem?_eq_getElem hk]
  exact List.getElem_mem hk
theorem memL {l : List (List UInt8)} {i : Nat} (hk : i < l.length) : l.getD i [] ∈ l := by
  rw [List.getD_eq_getElem?_getD, List.getElem?_eq_getElem hk]
  exact List.getElem_mem hk
theorem strs_at {l : List (List UInt8)} {i : Nat} (hk : i < l.length) : (Go.Am.strs l).getD i .top = .str (l.getD i []) := by
  rw [List.getD_eq_getElem?_getD, Go.Am.strs, List.getElem?_map, List.getElem?_eq_getElem hk, List.getD_eq_getElem?_getD, List.getElem?_eq_getElem hk]
  rfl
theorem strs_len (l : List (List UInt8)) : (Go.Am.strs l).length = l.length := by simp [Go.Am.strs]
end Cn
namespace Go.Proofs.YtnmlpohhommagaaGreatDoor
open Go Go.Am Cn Lst
set_option linter.unusedVariables false
set_option maxRecDepth 100000

theorem callCl1 {f : FuncId} {c : Cl} {xs : List AV} {H : List Blk} {T : Toks} {Q : AV → List Blk → Toks → Prop} (tg : Tag) (h : ACall Tryz.prog f (.agg (clAV c .none) :: xs) H T Q) : ACall Tryz.prog f (.agg (clAV c tg) :: xs) H T Q :=
  Am.ACall.aggUntag1 h
theorem callCl2 {f : FuncId} {a : AV} {c : Cl} {xs : List AV} {H : List Blk} {T : Toks} {Q : AV → List Blk → Toks → Prop} (tg : Tag) (h : ACall Tryz.prog f (a :: .agg (clAV c .none) :: xs) H T Q) : ACall Tryz.prog f (a :: .agg (clAV c tg) :: xs) H T Q :=
  Am.ACall.aggUntag2 h

set_option maxRecDepth 100000 in
set_option maxHeartbeats 8000000 in
theorem few_ok (c : Cl) (tg : Tag) (hl : c.cut.length ≤ 9223372036854775807) (H : List Blk) (T : Toks) :
    ACall Tryz.prog 11 [.agg (clAV c tg)] H T (Is (.bool (fewF c)) H T) := by
  refine callCl1 tg ?_
  refine ACall.drop' ?_ (by simp)
  generalize hF : fewF c = F
  have hat := fun i h => strs_at (l := c.cut) (i := i) h
  have hlen := strs_len c.cut
  have hn := fun i h hp => allL_not (p := fun x => decide (x.length ≤ 30)) (l := c.cut) (i := i) h hp
  have hy := fun i h h1 hp => allL_take (p := fun x => decide (x.length ≤ 30)) (l := c.cut) (i := i) h h1 hp
  have hb : ∀ n t, BelowAll n t (strs c.cut) := fun n t => by simp
  unfold fewF at hF
  obtain ⟨sch, cls, num, dec, cut, yr, rest⟩ := c
  simp only [clAV] at *
  generalize strs cut = S at *
  refine acall_enter 4 [] Tryz.ntmps11 Tryz.func11 rfl (fun _ _ => Tryz.call11 _ _) (by simp) (fun HO => ?_)
  have HO1 : HOk (H ++ [.cells [.int .i64 sch, .str cls, .int .i64 num, .str dec, .sl cut.length S .none, .int .i64 yr, .str rest]]) T := HO.snoc (by simp [hb])
  refine aw_reg fun K hK => ?_; simp (maxSteps := 1000000) (disch := omega) [-List.getD_eq_getElem?_getD]; refine hK _ ?_; clear hK K
  refine aw_then fun K1 hK1 => ?_
  refine aw_reg fun K hK => ?_; simp (maxSteps := 1000000) (disch := omega) [-List.getD_eq_getElem?_getD]; refine hK _ ?_; clear hK K
  refine aw_block ?_
  refine aw_loop (X := Nat) (fun i => ⟨[(1, .ptr H.length 0), (3, .int .i64 (i : Nat))], H ++ [.cells [.int .i64 sch, .str cls, .int .i64 num, .str dec, .sl cut.length S .none, .int .i64 yr, .str rest]], T⟩) (fun i => i ≤ cut.length ∧ (cut.take i).all (fun x => decide (x.length ≤ 30)) = true) (fun i => cut.length - i) 0 ?_ ?_ ?_
  · exact ⟨Nat.zero_le _, rfl⟩
  · refine weak_to [] [] ?_ ?_ ?_ ?_ HO1 ?_
    all_goals simp
  · rintro i ⟨h1, h2⟩
    refine aw_then fun K2 hK2 => ?_
    refine aw_reg fun K hK => ?_; simp (maxSteps := 1000000) (disch := omega) [-List.getD_eq_getElem?_getD]; refine hK _ ?_; clear hK K
    refine aw_if rfl (fun hk => ?_) (fun hk => ?_)
    · simp [-List.getD_eq_getElem?_getD] at hk
      have ha := hat i hk
      have hn := hn i hk
      have hy := hy i hk h2
      have hiS : i < S.length := by omega
      refine aw_skip ?_; simp (maxSteps := 1000000) (disch := omega) [-List.getD_eq_getElem?_getD]
      refine hK2 _ ?_; clear hK2
      refine aw_then fun K3 hK3 => ?_
      refine aw_block ?_
      generalize cut.getD i [] = x at *
      by_cases hx : x.length ≤ 30
      · have b1 : decide ((x.length : Int) > 30) = false := decide_eq_false (by omega)
        have b1' : decide ((30 : Int) < (x.length : Nat)) = false := decide_eq_false (by omega)
        have b2 : ¬ 30 < x.length := by omega
        have hy := hy (decide_eq_true hx)
        refine aw_reg fun K hK => ?_; simp (maxSteps := 1000000) (disch := omega) [-List.getD_eq_getElem?_getD, ha, hlen, b1]; refine hK _ ?_; clear hK K
        refine aw_if rfl (fun h => absurd h (by simp)) (fun h => ?_)
        refine aw_skip ?_; simp (maxSteps := 1000000) (disch := omega) [-List.getD_eq_getElem?_getD]
        refine hK3 _ ?_; clear hK3
        refine aw_reg0 fun K hK => ?_; simp (maxSteps := 1000000) (disch := omega) [-List.getD_eq_getElem?_getD]
        refine hK _ ?_; clear hK K
        refine ⟨i + 1, ⟨by show i + 1 ≤ _; omega, hy⟩, by show cut.length - (i + 1) < cut.length - i; omega, ?_⟩
        refine weak_to [] [] ?_ ?_ ?_ ?_ HO1 ?_
        all_goals simp
      · have b1 : decide ((x.length : Int) > 30) = true := decide_eq_true (by omega)
        have b1' : decide ((30 : Int) < (x.length : Nat)) = true := decide_eq_true (by omega)
        have b2 : 30 < x.length := by omega
        have hn := hn (decide_eq_false hx)
        rw [hn] at hF
        subst hF
        refine aw_reg fun K hK => ?_; simp (maxSteps := 1000000) (disch := omega) [-List.getD_eq_getElem?_getD, ha, hlen, b1]; refine hK _ ?_; clear hK K
        refine aw_if rfl (fun h => ?_) (fun h => absurd h (by simp))
        refine aw_reg fun K hK => ?_; simp (maxSteps := 1000000) (disch := omega) [-List.getD_eq_getElem?_getD]; refine hK _ ?_; clear hK K
        refine aw_ret ?_; simp (maxSteps := 1000000) (disch := omega) [-List.getD_eq_getElem?_getD]
    · simp [-List.getD_eq_getElem?_getD] at hk
      have e : i = cut.length := by omega
      subst e
      rw [List.take_length] at h2
      rw [h2, Bool.true_and] at hF
      clear hat hn hy
      refine aw_exit ?_; simp (maxSteps := 1000000) (disch := omega) [-List.getD_eq_getElem?_getD]
      refine hK1 _ ?_; clear hK1
      by_cases g1 : cut.length ≤ 5
      · have b1 : decide ((cut.length : Int) ≤ 5) = true := decide_eq_true (by omega)
        rw [decide_eq_true g1] at hF
        by_cases g2 : cls.length ≤ 30
        · have b2 : decide ((cls.length : Int) ≤ 30) = true := decide_eq_true (by omega)
          rw [decide_eq_true g2] at hF
          by_cases g3 : dec.length ≤ 30
          · have b3 : decide ((dec.length : Int) ≤ 30) = true := decide_eq_true (by omega)
            rw [decide_eq_true g3] at hF
            by_cases g4 : rest.length ≤ 30
            · have b4 : decide ((rest.length : Int) ≤ 30) = true := decide_eq_true (by omega)
              rw [decide_eq_true g4] at hF
              subst hF
              refine aw_reg fun K hK => ?_; simp (maxSteps := 1000000) (disch := omega) [-List.getD_eq_getElem?_getD, b1, b2, b3, b4]; refine hK _ ?_; clear hK K
              refine aw_ret ?_; simp (maxSteps := 1000000) (disch := omega) [-List.getD_eq_getElem?_getD]
            · have b4 : decide ((rest.length : Int) ≤ 30) = false := decide_eq_false (by omega)
              rw [decide_eq_false g4] at hF
              subst hF
              refine aw_reg fun K hK => ?_; simp (maxSteps := 1000000) (disch := omega) [-List.getD_eq_getElem?_getD, b1, b2, b3, b4]; refine hK _ ?_; clear hK K
              refine aw_ret ?_; simp (maxSteps := 1000000) (disch := omega) [-List.getD_eq_getElem?_getD]
          · have b3 : decide ((dec.length : Int) ≤ 30) = false := decide_eq_false (by omega)
            rw [decide_eq_false g3] at hF
            subst hF
            refine aw_reg fun K hK => ?_; simp (maxSteps := 1000000) (disch := omega) [-List.getD_eq_getElem?_getD, b1, b2, b3]; refine hK _ ?_; clear hK K
            refine aw_ret ?_; simp (maxSteps := 1000000) (disch := omega) [-List.getD_eq_getElem?_getD]
        · have b2 : decide ((cls.length : Int) ≤ 30) = false := decide_eq_false (by omega)
          rw [decide_eq_false g2] at hF
          subst hF
          refine aw_reg fun K hK => ?_; simp (maxSteps := 1000000) (disch := omega) [-List.getD_eq_getElem?_getD, b1, b2]; refine hK _ ?_; clear hK K
          refine aw_ret ?_; simp (maxSteps := 1000000) (disch := omega) [-List.getD_eq_getElem?_getD]
      · have b1 : decide ((cut.length : Int) ≤ 5) = false := decide_eq_false (by omega)
        rw [decide_eq_false g1] at hF
        subst hF
        refine aw_reg fun K hK => ?_; simp (maxSteps := 1000000) (disch := omega) [-List.getD_eq_getElem?_getD, b1]; refine hK _ ?_; clear hK K
        refine aw_ret ?_; simp (maxSteps := 1000000) (disch := omega) [-List.getD_eq_getElem?_getD]
end Go.Proofs.YtnmlpohhommagaaGreatDoor
