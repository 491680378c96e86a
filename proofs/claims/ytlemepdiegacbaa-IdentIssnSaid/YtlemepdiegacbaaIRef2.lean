/- The reference's texts of digits, plain digits, languages.
   Conditions: none. -/
import Derived.Test.YtlemepdiegacbaaIRef1
namespace Go.Proofs.Ytlemepdiegacbaa
open Go Go.Am Ident
set_option linter.unusedVariables false

theorem okD_kind {c : UInt8} (h : dig c = true ∨ c = 88) : (valN c = 10 ∧ c = 88) ∨ (valN c ≤ 9 ∧ c.toNat = 48 + valN c ∧ valN c ≠ 10) := by
  rcases h with h | h
  · have := dig_val h
    exact .inr ⟨this.1, by omega, by omega⟩
  · rw [h]; exact .inl ⟨by decide, rfl⟩

set_option maxRecDepth 100000 in
theorem rtext_ok (s : List UInt8) (h : okD s) (hl : s.length ≤ 1000) (tg : Tag) (H : List Blk) (T : Toks) : ACall Try.prog 31 [.sl s.length (nums s) tg] H T (Is (.str s) H T) := by
  refine ACall.untag1 ?_
  refine acall_enter 5 [] Try.ntmps31 Try.func31 rfl (fun _ _ => Try.call31 _ _) (by simp) (fun HO => ?_)
  refine aw_reg fun K hK => ?_; simp (maxSteps := 1000000) (disch := omega) [-List.getD_eq_getElem?_getD]; refine hK _ ?_; clear hK K
  refine aw_reg fun K hK => ?_; simp (maxSteps := 1000000) (disch := omega) [-List.getD_eq_getElem?_getD]; refine hK _ ?_; clear hK K
  refine aw_then fun K1 hK1 => ?_
  refine aw_reg fun K hK => ?_; simp (maxSteps := 1000000) (disch := omega) [-List.getD_eq_getElem?_getD]; refine hK _ ?_; clear hK K
  refine aw_block ?_
  refine aw_loop (X := Nat) (fun k => ⟨[(0, .sl s.length (nums s) .none), (3, .str (s.take k)), (4, .int .i64 (k : Nat))], H, T⟩) (fun k => k ≤ s.length) (fun k => s.length - k) 0 ?_ ?_ ?_
  · exact Nat.zero_le _
  · refine weak_to [] [] ?_ ?_ ?_ ?_ HO ?_
    all_goals simp
  · intro k hk0
    refine aw_then fun K2 hK2 => ?_
    refine aw_reg fun K hK => ?_; simp (maxSteps := 1000000) (disch := omega) [-List.getD_eq_getElem?_getD]; refine hK _ ?_; clear hK K
    refine aw_if rfl (fun hk => ?_) (fun hk => ?_)
    · simp [-List.getD_eq_getElem?_getD] at hk
      have hkd := okD_kind (h k hk)
      have hat := nums_at s k hk
      have htk := takeI s k hk
      have hlk : (s.take k).length ≤ 1000 := by rw [List.length_take]; omega
      generalize hgc : s.getD k 0 = c at *
      generalize s.take k = tk at *
      generalize valN c = v at *
      refine aw_skip ?_; simp (maxSteps := 1000000) (disch := omega) [-List.getD_eq_getElem?_getD]
      refine hK2 _ ?_; clear hK2
      refine aw_then fun K3 hK3 => ?_
      refine aw_block ?_
      rcases hkd with ⟨rfl, rfl⟩ | ⟨h1, h2, h3⟩
      · refine aw_reg fun K hK => ?_; simp (maxSteps := 1000000) (disch := omega) [-List.getD_eq_getElem?_getD, hat]; refine hK _ ?_; clear hK K
        refine aw_if rfl (fun h => ?_) (fun h => absurd h (by simp))
        refine aw_reg0 fun K hK => ?_; simp (maxSteps := 1000000) (disch := omega) [-List.getD_eq_getElem?_getD]
        refine hK _ ?_; clear hK K
        refine hK3 _ ?_; clear hK3
        refine aw_reg0 fun K hK => ?_; simp (maxSteps := 1000000) (disch := omega) [-List.getD_eq_getElem?_getD]
        refine hK _ ?_; clear hK K
        refine ⟨k + 1, by show k + 1 ≤ _; omega, by show s.length - (k + 1) < s.length - k; omega, ?_⟩
        simp only [htk]
        refine weak_to [] [] ?_ ?_ ?_ ?_ HO ?_
        all_goals simp
      · have b10 : ((v : Int) == 10) = false := beq_eq_false_iff_ne.2 (by omega)
        have hw8 : IntKind.u8.wrap (48 + (v : Int)) = (c.toNat : Int) := by
          rw [h2]
          simp [IntKind.wrap, IntKind.signed, IntKind.bits]
          omega
        have hb : bytesOf [.int .u8 (c.toNat : Int)] = some [c] := bytesOf_encB [c]
        refine aw_reg fun K hK => ?_; simp (maxSteps := 1000000) (disch := omega) [-List.getD_eq_getElem?_getD, hat, b10]; refine hK _ ?_; clear hK K
        refine aw_if rfl (fun h => absurd h (by simp)) (fun h => ?_)
        refine aw_reg0 fun K hK => ?_; simp (maxSteps := 1000000) (disch := omega) [-List.getD_eq_getElem?_getD, hat, hw8, hb]
        refine hK _ ?_; clear hK K
        refine hK3 _ ?_; clear hK3
        refine aw_reg0 fun K hK => ?_; simp (maxSteps := 1000000) (disch := omega) [-List.getD_eq_getElem?_getD]
        refine hK _ ?_; clear hK K
        refine ⟨k + 1, by show k + 1 ≤ _; omega, by show s.length - (k + 1) < s.length - k; omega, ?_⟩
        simp only [htk]
        refine weak_to [] [] ?_ ?_ ?_ ?_ HO ?_
        all_goals simp
    · simp at hk
      have : k = s.length := by omega
      subst this
      refine aw_exit ?_; simp (maxSteps := 1000000) (disch := omega) [-List.getD_eq_getElem?_getD]
      refine hK1 _ ?_; clear hK1
      refine aw_reg fun K hK => ?_; simp (maxSteps := 1000000) (disch := omega) [-List.getD_eq_getElem?_getD]; refine hK _ ?_; clear hK K
      refine aw_ret ?_; simp (maxSteps := 1000000) (disch := omega) [-List.getD_eq_getElem?_getD]
      exact ⟨rfl, rfl, rfl⟩

theorem dig_bools (c : UInt8) : (dig c = true ∧ decide ((c.toNat : Int) < 48) = false ∧ decide ((57 : Int) < (c.toNat : Int)) = false ∧ 48 ≤ c.toNat ∧ c.toNat ≤ 57) ∨ (dig c = false ∧ decide ((c.toNat : Int) < 48) = true ∧ c.toNat < 48) ∨ (dig c = false ∧ decide ((c.toNat : Int) < 48) = false ∧ decide ((57 : Int) < (c.toNat : Int)) = true ∧ 48 ≤ c.toNat ∧ 57 < c.toNat) := by
  unfold dig
  by_cases h1 : c.toNat < 48
  · exact .inr (.inl ⟨decide_eq_false (by omega), decide_eq_true (by omega), h1⟩)
  · by_cases h2 : 57 < c.toNat
    · exact .inr (.inr ⟨decide_eq_false (by omega), decide_eq_false (by omega), decide_eq_true (by omega), by omega, h2⟩)
    · exact .inl ⟨decide_eq_true (by omega), decide_eq_false (by omega), decide_eq_false (by omega), by omega, by omega⟩
theorem low_bools (c : UInt8) : (low c = true ∧ decide ((c.toNat : Int) < 97) = false ∧ decide ((122 : Int) < (c.toNat : Int)) = false ∧ 97 ≤ c.toNat ∧ c.toNat ≤ 122) ∨ (low c = false ∧ decide ((c.toNat : Int) < 97) = true ∧ c.toNat < 97) ∨ (low c = false ∧ decide ((c.toNat : Int) < 97) = false ∧ decide ((122 : Int) < (c.toNat : Int)) = true ∧ 97 ≤ c.toNat ∧ 122 < c.toNat) := by
  unfold low
  by_cases h1 : c.toNat < 97
  · exact .inr (.inl ⟨decide_eq_false (by omega), decide_eq_true (by omega), h1⟩)
  · by_cases h2 : 122 < c.toNat
    · exact .inr (.inr ⟨decide_eq_false (by omega), decide_eq_false (by omega), decide_eq_true (by omega), by omega, h2⟩)
    · exact .inl ⟨decide_eq_true (by omega), decide_eq_false (by omega), decide_eq_false (by omega), by omega, by omega⟩
theorem any_at {s : List UInt8} {f : UInt8 → Bool} {k : Nat} (hk : k < s.length) (h : f (s.getD k 0) = false) : s.any (fun c => !f c) = true := by
  refine List.any_eq_true.2 ⟨s.getD k 0, memD s k 0 hk, ?_⟩
  rw [h]; rfl
theorem any_none {s : List UInt8} {f : UInt8 → Bool} (h : ∀ j, j < s.length → f (s.getD j 0) = true) : s.any (fun c => !f c) = false := by
  refine List.any_eq_false.2 fun c hc => ?_
  obtain ⟨i, hi, e⟩ := memI hc
  have := h i hi
  rw [e] at this
  simp [this]

set_option maxRecDepth 100000 in
theorem rplain_ok (s : List UInt8) (n : Nat) (hl : s.length ≤ 1000) (hn : n ≤ 1000) (H : List Blk) (T : Toks) : ACall Try.prog 34 [.str s, .int .i64 (n : Nat)] H T (Is (.bool (plainB s n)) H T) := by
  refine acall_enter 6 [] Try.ntmps34 Try.func34 rfl (fun _ _ => Try.call34 _ _) (by simp) (fun HO => ?_)
  refine aw_reg fun K hK => ?_; simp (maxSteps := 1000000) (disch := omega) [-List.getD_eq_getElem?_getD]; refine hK _ ?_; clear hK K
  refine aw_then fun K1 hK1 => ?_
  refine aw_reg fun K hK => ?_; simp (maxSteps := 1000000) (disch := omega) [-List.getD_eq_getElem?_getD]; refine hK _ ?_; clear hK K
  refine aw_block ?_
  refine aw_loop (X := Nat) (fun k => ⟨[(0, .str s), (1, .int .i64 (n : Nat)), (5, .int .i64 (k : Nat))], H, T⟩) (fun k => k ≤ s.length ∧ ∀ j, j < k → dig (s.getD j 0) = true) (fun k => s.length - k) 0 ?_ ?_ ?_
  · exact ⟨Nat.zero_le _, fun j hj => absurd hj (Nat.not_lt_zero _)⟩
  · refine weak_to [] [] ?_ ?_ ?_ ?_ HO ?_
    all_goals simp
  · rintro k ⟨hk0, h2⟩
    refine aw_then fun K2 hK2 => ?_
    refine aw_reg fun K hK => ?_; simp (maxSteps := 1000000) (disch := omega) [-List.getD_eq_getElem?_getD]; refine hK _ ?_; clear hK K
    refine aw_if rfl (fun hk => ?_) (fun hk => ?_)
    · simp [-List.getD_eq_getElem?_getD] at hk
      refine aw_skip ?_; simp (maxSteps := 1000000) (disch := omega) [-List.getD_eq_getElem?_getD]
      refine hK2 _ ?_; clear hK2
      refine aw_then fun K3 hK3 => ?_
      refine aw_block ?_
      rcases dig_bools (s.getD k 0) with ⟨hf, f1, f2, f3, f4⟩ | ⟨hf, f1, f3⟩ | ⟨hf, f1, f2, f3, f4⟩
      · have h2' : ∀ j, j < k + 1 → dig (s.getD j 0) = true := fun j hj => by
          by_cases e : j = k
          · rw [e]; exact hf
          · exact h2 j (by omega)
        have n1 : ¬ (s.getD k 0).toNat < 48 := by omega
        have n2 : ¬ 57 < (s.getD k 0).toNat := by omega
        generalize hgc : s.getD k 0 = c at *
        refine aw_reg fun K hK => ?_; simp (maxSteps := 1000000) (disch := omega) [-List.getD_eq_getElem?_getD, hgc, f1, f2, n1, n2]; refine hK _ ?_; clear hK K
        refine aw_if rfl (fun h => absurd h (by simp)) (fun h => ?_)
        refine aw_skip ?_; simp (maxSteps := 1000000) (disch := omega) [-List.getD_eq_getElem?_getD]
        refine hK3 _ ?_; clear hK3
        refine aw_reg0 fun K hK => ?_; simp (maxSteps := 1000000) (disch := omega) [-List.getD_eq_getElem?_getD]
        refine hK _ ?_; clear hK K
        refine ⟨k + 1, ⟨by show k + 1 ≤ _; omega, h2'⟩, by show s.length - (k + 1) < s.length - k; omega, ?_⟩
        refine weak_to [] [] ?_ ?_ ?_ ?_ HO ?_
        all_goals simp
      · have hres : plainB s n = false := by unfold plainB; rw [any_at hk hf]; simp
        generalize hgc : s.getD k 0 = c at *
        refine aw_reg fun K hK => ?_; simp (maxSteps := 1000000) (disch := omega) [-List.getD_eq_getElem?_getD, hgc, f1, f3]; refine hK _ ?_; clear hK K
        refine aw_if rfl (fun h => ?_) (fun h => absurd h (by simp))
        refine aw_reg fun K hK => ?_; simp (maxSteps := 1000000) (disch := omega) [-List.getD_eq_getElem?_getD]; refine hK _ ?_; clear hK K
        refine aw_ret ?_; simp (maxSteps := 1000000) (disch := omega) [-List.getD_eq_getElem?_getD]
        rw [hres]
        exact ⟨rfl, rfl, rfl⟩
      · have hres : plainB s n = false := by unfold plainB; rw [any_at hk hf]; simp
        have n1 : ¬ (s.getD k 0).toNat < 48 := by omega
        generalize hgc : s.getD k 0 = c at *
        refine aw_reg fun K hK => ?_; simp (maxSteps := 1000000) (disch := omega) [-List.getD_eq_getElem?_getD, hgc, f1, f2, n1, f4]; refine hK _ ?_; clear hK K
        refine aw_if rfl (fun h => ?_) (fun h => absurd h (by simp))
        refine aw_reg fun K hK => ?_; simp (maxSteps := 1000000) (disch := omega) [-List.getD_eq_getElem?_getD]; refine hK _ ?_; clear hK K
        refine aw_ret ?_; simp (maxSteps := 1000000) (disch := omega) [-List.getD_eq_getElem?_getD]
        rw [hres]
        exact ⟨rfl, rfl, rfl⟩
    · simp at hk
      have : k = s.length := by omega
      subst this
      refine aw_exit ?_; simp (maxSteps := 1000000) (disch := omega) [-List.getD_eq_getElem?_getD]
      refine hK1 _ ?_; clear hK1
      have hres : plainB s n = decide (s.length = n) := by unfold plainB; rw [any_none h2]; simp
      by_cases hsn : s.length = n
      · have bsn : ((s.length : Int) == (n : Int)) = true := beq_iff_eq.2 (by omega)
        refine aw_reg fun K hK => ?_; simp (maxSteps := 1000000) (disch := omega) [-List.getD_eq_getElem?_getD, hsn]; refine hK _ ?_; clear hK K
        refine aw_ret ?_; simp (maxSteps := 1000000) (disch := omega) [-List.getD_eq_getElem?_getD]
        rw [hres, decide_eq_true hsn]
        exact ⟨rfl, rfl, rfl⟩
      · have bsn : ((s.length : Int) == (n : Int)) = false := beq_eq_false_iff_ne.2 (by omega)
        refine aw_reg fun K hK => ?_; simp (maxSteps := 1000000) (disch := omega) [-List.getD_eq_getElem?_getD, hsn, bsn]; refine hK _ ?_; clear hK K
        refine aw_ret ?_; simp (maxSteps := 1000000) (disch := omega) [-List.getD_eq_getElem?_getD]
        rw [hres, decide_eq_false hsn]
        exact ⟨rfl, rfl, rfl⟩

set_option maxRecDepth 100000 in
theorem rlanguage_ok (s : List UInt8) (hl : s.length ≤ 1000) (H : List Blk) (T : Toks) : ACall Try.prog 26 [.str s] H T (Is (.bool (langB s)) H T) := by
  refine acall_enter 4 [] Try.ntmps26 Try.func26 rfl (fun _ _ => Try.call26 _ _) (by simp) (fun HO => ?_)
  refine aw_reg fun K hK => ?_; simp (maxSteps := 1000000) (disch := omega) [-List.getD_eq_getElem?_getD]; refine hK _ ?_; clear hK K
  refine aw_then fun K1 hK1 => ?_
  refine aw_reg fun K hK => ?_; simp (maxSteps := 1000000) (disch := omega) [-List.getD_eq_getElem?_getD]; refine hK _ ?_; clear hK K
  refine aw_block ?_
  refine aw_loop (X := Nat) (fun k => ⟨[(0, .str s), (3, .int .i64 (k : Nat))], H, T⟩) (fun k => k ≤ s.length ∧ ∀ j, j < k → low (s.getD j 0) = true) (fun k => s.length - k) 0 ?_ ?_ ?_
  · exact ⟨Nat.zero_le _, fun j hj => absurd hj (Nat.not_lt_zero _)⟩
  · refine weak_to [] [] ?_ ?_ ?_ ?_ HO ?_
    all_goals simp
  · rintro k ⟨hk0, h2⟩
    refine aw_then fun K2 hK2 => ?_
    refine aw_reg fun K hK => ?_; simp (maxSteps := 1000000) (disch := omega) [-List.getD_eq_getElem?_getD]; refine hK _ ?_; clear hK K
    refine aw_if rfl (fun hk => ?_) (fun hk => ?_)
    · simp [-List.getD_eq_getElem?_getD] at hk
      refine aw_skip ?_; simp (maxSteps := 1000000) (disch := omega) [-List.getD_eq_getElem?_getD]
      refine hK2 _ ?_; clear hK2
      refine aw_then fun K3 hK3 => ?_
      refine aw_block ?_
      rcases low_bools (s.getD k 0) with ⟨hf, f1, f2, f3, f4⟩ | ⟨hf, f1, f3⟩ | ⟨hf, f1, f2, f3, f4⟩
      · have h2' : ∀ j, j < k + 1 → low (s.getD j 0) = true := fun j hj => by
          by_cases e : j = k
          · rw [e]; exact hf
          · exact h2 j (by omega)
        have n1 : ¬ (s.getD k 0).toNat < 97 := by omega
        have n2 : ¬ 122 < (s.getD k 0).toNat := by omega
        generalize hgc : s.getD k 0 = c at *
        refine aw_reg fun K hK => ?_; simp (maxSteps := 1000000) (disch := omega) [-List.getD_eq_getElem?_getD, hgc, f1, f2, n1, n2]; refine hK _ ?_; clear hK K
        refine aw_if rfl (fun h => absurd h (by simp)) (fun h => ?_)
        refine aw_skip ?_; simp (maxSteps := 1000000) (disch := omega) [-List.getD_eq_getElem?_getD]
        refine hK3 _ ?_; clear hK3
        refine aw_reg0 fun K hK => ?_; simp (maxSteps := 1000000) (disch := omega) [-List.getD_eq_getElem?_getD]
        refine hK _ ?_; clear hK K
        refine ⟨k + 1, ⟨by show k + 1 ≤ _; omega, h2'⟩, by show s.length - (k + 1) < s.length - k; omega, ?_⟩
        refine weak_to [] [] ?_ ?_ ?_ ?_ HO ?_
        all_goals simp
      · have hres : langB s = false := by unfold langB; rw [any_at hk hf]; simp
        generalize hgc : s.getD k 0 = c at *
        refine aw_reg fun K hK => ?_; simp (maxSteps := 1000000) (disch := omega) [-List.getD_eq_getElem?_getD, hgc, f1, f3]; refine hK _ ?_; clear hK K
        refine aw_if rfl (fun h => ?_) (fun h => absurd h (by simp))
        refine aw_reg fun K hK => ?_; simp (maxSteps := 1000000) (disch := omega) [-List.getD_eq_getElem?_getD]; refine hK _ ?_; clear hK K
        refine aw_ret ?_; simp (maxSteps := 1000000) (disch := omega) [-List.getD_eq_getElem?_getD]
        rw [hres]
        exact ⟨rfl, rfl, rfl⟩
      · have hres : langB s = false := by unfold langB; rw [any_at hk hf]; simp
        have n1 : ¬ (s.getD k 0).toNat < 97 := by omega
        generalize hgc : s.getD k 0 = c at *
        refine aw_reg fun K hK => ?_; simp (maxSteps := 1000000) (disch := omega) [-List.getD_eq_getElem?_getD, hgc, f1, f2, n1, f4]; refine hK _ ?_; clear hK K
        refine aw_if rfl (fun h => ?_) (fun h => absurd h (by simp))
        refine aw_reg fun K hK => ?_; simp (maxSteps := 1000000) (disch := omega) [-List.getD_eq_getElem?_getD]; refine hK _ ?_; clear hK K
        refine aw_ret ?_; simp (maxSteps := 1000000) (disch := omega) [-List.getD_eq_getElem?_getD]
        rw [hres]
        exact ⟨rfl, rfl, rfl⟩
    · simp at hk
      have : k = s.length := by omega
      subst this
      refine aw_exit ?_; simp (maxSteps := 1000000) (disch := omega) [-List.getD_eq_getElem?_getD]
      refine hK1 _ ?_; clear hK1
      have hres : langB s = decide (s.length = 3) := by unfold langB; rw [any_none h2]; simp
      by_cases hsn : s.length = 3
      · have bsn : ((s.length : Int) == 3) = true := beq_iff_eq.2 (by omega)
        refine aw_reg fun K hK => ?_; simp (maxSteps := 1000000) (disch := omega) [-List.getD_eq_getElem?_getD, hsn]; refine hK _ ?_; clear hK K
        refine aw_ret ?_; simp (maxSteps := 1000000) (disch := omega) [-List.getD_eq_getElem?_getD]
        rw [hres, decide_eq_true hsn]
        exact ⟨rfl, rfl, rfl⟩
      · have bsn : ((s.length : Int) == 3) = false := beq_eq_false_iff_ne.2 (by omega)
        refine aw_reg fun K hK => ?_; simp (maxSteps := 1000000) (disch := omega) [-List.getD_eq_getElem?_getD, hsn, bsn]; refine hK _ ?_; clear hK K
        refine aw_ret ?_; simp (maxSteps := 1000000) (disch := omega) [-List.getD_eq_getElem?_getD]
        rw [hres, decide_eq_false hsn]
        exact ⟨rfl, rfl, rfl⟩

end Go.Proofs.Ytlemepdiegacbaa
