/- The reference's Isbn.
   Conditions: none. -/
import Derived.Test.YtlemepdiegacbaaIRef3
import Derived.Test.YtlemepdiegacbaaAmTup
namespace Go.Proofs.Ytlemepdiegacbaa
open Go Go.Am Ident
set_option linter.unusedVariables false

theorem digs_le_cut (s : List UInt8) : (digs s).length ≤ (cut s).length := by
  unfold digs
  cases h : drun (cut s) (cut s).length with
  | none => simp
  | some out => exact drun_len _ _ h
theorem rd_cases (s : List UInt8) : (∃ out, rrun (cut s) (cut s).length = some out ∧ (out = digs s ∨ (out.length ≤ 1 ∧ (digs s).length ≤ 1))) ∨ (rrun (cut s) (cut s).length = none ∧ (digs s).length ≤ 1) := by
  by_cases h : (cut s).length = 1
  · have h1 := digs_le_cut s
    cases hr : rrun (cut s) (cut s).length with
    | none => exact .inr ⟨rfl, by omega⟩
    | some out =>
      have := rrun_len _ _ hr
      exact .inl ⟨out, rfl, .inr ⟨by omega, by omega⟩⟩
  · rw [rrun_eq h _ (Nat.le_refl _)]
    cases hd : drun (cut s) (cut s).length with
    | none =>
      refine .inr ⟨rfl, ?_⟩
      unfold digs
      rw [hd]
      simp
    | some out =>
      refine .inl ⟨out, rfl, .inl ?_⟩
      unfold digs
      rw [hd]
      rfl
theorem rd_some (s : List UInt8) (hs : s.length ≤ 1000) (out : List UInt8) (h : rrun (cut s) (cut s).length = some out) (H : List Blk) (T : Toks) :
    ACall Try.prog 29 [.str s] H T (Is (.tup [.sl out.length (nums out) (.own T.length), .bool (decide (0 < out.length))]) H (T ++ [(out.length, 1)])) :=
  (rdigits_ok s hs H T).mono fun r H' T' ⟨e1, q⟩ => by
    rcases q with ⟨o, h1, h2, h3⟩ | ⟨h1, _⟩
    · rw [h] at h1; cases h1; exact ⟨h2, e1, h3⟩
    · rw [h] at h1; cases h1
theorem rd_no (s : List UInt8) (hs : s.length ≤ 1000) (h : rrun (cut s) (cut s).length = none) (H : List Blk) (T : Toks) :
    ACall Try.prog 29 [.str s] H T (Is (.tup [.sl 0 [] .none, .bool false]) H T) :=
  ACall.dropT ((rdigits_ok s hs H T).mono fun r H' T' ⟨e1, q⟩ => by
    rcases q with ⟨o, h1, h2, h3⟩ | ⟨h1, z, tg, h2, h3⟩
    · rw [h] at h1; cases h1
    · exact ⟨⟨[], by simp [e1]⟩, ⟨[z], h3⟩, _, h2, rfl⟩) (by simp)
theorem nums_take (s : List UInt8) (k : Nat) : (nums s).take k = nums (s.take k) := by simp [nums]
theorem nums_drop (s : List UInt8) (k : Nat) : (nums s).drop k = nums (s.drop k) := by simp [nums]
theorem falN_fall (s : List UInt8) : falN s.length s = fall s := rfl
theorem isbn_none {s : List UInt8} (h : (digs s).length ≠ 10) (h2 : (digs s).length ≠ 13) : isbnR s = ([], 7) := by
  unfold isbnR
  rw [if_neg h, if_pos (.inl h2)]
theorem list3 {α : Type} (l : List α) (h : 3 ≤ l.length) : ∃ a b c r, l = a :: b :: c :: r := by
  match l, h with
  | a :: b :: c :: r, _ => exact ⟨a, b, c, r, rfl⟩
theorem val57 {c : UInt8} (h : dig c = true) (k : Fin 10) : valN c = k.1 ↔ c = UInt8.ofNat (48 + k.1) := by
  have key : ∀ k : Fin 10, dig (UInt8.ofNat (48 + k.1)) = true ∧ valN (UInt8.ofNat (48 + k.1)) = k.1 := by decide
  obtain ⟨k1, k2⟩ := key k
  exact ⟨fun e => dig_inj h k1 (by omega), fun e => by rw [e]; exact k2⟩
theorem book_vals {t : List UInt8} (hl : t.length = 13) (hd : ∀ i, i < 12 → dig (t.getD i 0) = true) : bookB t = true ↔ valN (t.getD 0 0) = 9 ∧ valN (t.getD 1 0) = 7 ∧ 8 ≤ valN (t.getD 2 0) := by
  obtain ⟨a, b, c, r, rfl⟩ := list3 t (by omega)
  have da : dig a = true := hd 0 (by omega)
  have db : dig b = true := hd 1 (by omega)
  have dc : dig c = true := hd 2 (by omega)
  show bookB (a :: b :: c :: r) = true ↔ valN a = 9 ∧ valN b = 7 ∧ 8 ≤ valN c
  have h9 : valN a = 9 ↔ a = 57 := val57 da 9
  have h7 : valN b = 7 ↔ b = 55 := val57 db 7
  have h8 : valN c = 8 ↔ c = 56 := val57 dc 8
  have h99 : valN c = 9 ↔ c = 57 := val57 dc 9
  have hc : 8 ≤ valN c ↔ c = 56 ∨ c = 57 := by
    have := (dig_val dc).1
    rw [← h8, ← h99]
    omega
  rw [h9, h7, hc]
  unfold bookB pre
  simp
  constructor
  · rintro (⟨rfl, rfl, rfl⟩ | ⟨rfl, rfl, rfl⟩)
    · exact ⟨rfl, rfl, .inl rfl⟩
    · exact ⟨rfl, rfl, .inr rfl⟩
  · rintro ⟨rfl, rfl, rfl | rfl⟩
    · exact .inl ⟨rfl, rfl, rfl⟩
    · exact .inr ⟨rfl, rfl, rfl⟩

set_option maxRecDepth 100000 in
set_option maxHeartbeats 4000000 in
theorem risbn_ok (s : List UInt8) (hs : s.length ≤ 100) (H : List Blk) (T : Toks) : ACall Try.prog 22 [.str s] H T (Is (.tup [.str (isbnR s).1, .int .i64 (isbnR s).2]) H T) := by
  refine ACall.dropT ?_ (by simp)
  rcases rd_cases s with ⟨out, hr, hout⟩ | ⟨hr, hshort⟩
  · have c1 := rd_some s (by omega) out hr H T
    by_cases h10 : out.length = 10
    · have ho : out = digs s := by
        rcases hout with h | h
        · exact h
        · omega
      have hok := digs_okD s
      have hres : isbnR s = if fall (digs s) % 11 ≠ 0 then ([], 6) else (57 :: 55 :: 56 :: ((digs s).take 9 ++ [ck13 (57 :: 55 :: 56 :: (digs s).take 9)]), 0) := by
        unfold isbnR
        rw [← ho, if_pos h10]
      rw [← ho] at hres hok
      have c2 := fun tg H T => descending_ok out 10 hok (by omega) (by omega) tg H T
      have hf : falN 10 out = fall out := by rw [← h10]; rfl
      have hF := fall_pos hok (by omega)
      have hm := tmod_pos (b := 11) hF.1
      rw [hf, h10] at c2
      rw [h10] at c1
      refine acall_enter 7 [] Try.ntmps22 Try.func22 rfl (fun _ _ => Try.call22 _ _) (by simp) (fun HO => ?_)
      refine aw_reg fun K hK => ?_; simp (maxSteps := 1000000) (disch := omega) [-List.getD_eq_getElem?_getD]; refine hK _ ?_; clear hK K
      refine aw_reg fun K hK => ?_; simp (maxSteps := 1000000) (disch := omega) [-List.getD_eq_getElem?_getD]
      refine acall_is (c1) ?_; simp (maxSteps := 1000000) (disch := omega) [-List.getD_eq_getElem?_getD]
      refine hK _ ?_; clear hK K
      refine aw_then fun K1 hK1 => ?_
      refine aw_block ?_
      refine aw_reg fun K hK => ?_; simp (maxSteps := 1000000) (disch := omega) [-List.getD_eq_getElem?_getD, h10]; refine hK _ ?_; clear hK K
      refine aw_if rfl (fun h => ?_) (fun h => absurd h (by simp))
      refine aw_then fun K2 hK2 => ?_
      by_cases h11 : fall out % 11 = 0
      · rw [if_neg (by omega)] at hres
        have m0 : (fall out).tmod 11 = 0 := by rw [hm]; exact h11
        refine aw_reg fun K hK => ?_; simp (maxSteps := 1000000) (disch := omega) [-List.getD_eq_getElem?_getD]
        refine acall_is (c2 _ _ _) ?_; simp (maxSteps := 1000000) (disch := omega) [-List.getD_eq_getElem?_getD, m0]
        refine hK _ ?_; clear hK K
        refine aw_if rfl (fun h => absurd h (by simp)) (fun h => ?_)
        refine aw_skip ?_; simp (maxSteps := 1000000) (disch := omega) [-List.getD_eq_getElem?_getD]
        refine hK2 _ ?_; clear hK2
        have hl9 : (out.take 9).length = 9 := by rw [List.length_take]; omega
        have hd9 : allDig (out.take 9) := by rw [ho]; exact digs_take s (by rw [← ho]; omega)
        rw [long_eq] at hres
        have hlead : AV.int .i64 9 :: AV.int .i64 7 :: AV.int .i64 8 :: List.take 9 (nums out) = nums (lead (out.take 9)) := by rw [nums_take]; rfl
        have hll := lead_len hl9
        have hgl := long_len hl9
        have hld := lead_dig hd9
        have hgd := long_dig hd9
        have hck := ck13_val (lead (out.take 9))
        have c3 := fun tg H T => ralternating_ok (lead (out.take 9)) (allDig_ok hld) (by omega) tg H T
        have c4 := fun tg H T => rtext_ok (long (out.take 9)) (allDig_ok hgd) (by omega) tg H T
        have hA := altn_pos (allDig_ok hld) (by omega)
        have hsn : nums (lead (out.take 9)) ++ [.int .i64 ((valN (ck13 (lead (out.take 9))) : Nat) : Int)] = nums (long (out.take 9)) := nums_snoc _ _
        rw [hll] at c3
        rw [hgl] at c4
        generalize out.take 9 = w at *
        have q1 : (altn (lead w)).tmod 10 = altn (lead w) % 10 := tmod_pos hA.1
        have q2 : (10 - altn (lead w) % 10).tmod 10 = ((valN (ck13 (lead w)) : Nat) : Int) := by rw [tmod_pos (by omega), hck.2]
        refine aw_reg fun K hK => ?_; simp (maxSteps := 1000000) (disch := omega) [-List.getD_eq_getElem?_getD, h10, hlead]; refine hK _ ?_; clear hK K
        refine aw_reg fun K hK => ?_; simp (maxSteps := 1000000) (disch := omega) [-List.getD_eq_getElem?_getD]
        refine acall_is (c3 _ _ _) ?_; simp (maxSteps := 1000000) (disch := omega) [-List.getD_eq_getElem?_getD, q1, q2, hsn]
        refine acall_is (c4 _ _ _) ?_; simp (maxSteps := 1000000) (disch := omega) [-List.getD_eq_getElem?_getD]
        refine hK _ ?_; clear hK K
        refine aw_ret ?_; simp (maxSteps := 1000000) (disch := omega) [-List.getD_eq_getElem?_getD, hres]
      · rw [if_pos h11] at hres
        have m0 : ((fall out).tmod 11 == 0) = false := by rw [hm]; exact beq_eq_false_iff_ne.2 h11
        have m1 : ¬ (fall out).tmod 11 = 0 := by rw [hm]; exact h11
        refine aw_reg fun K hK => ?_; simp (maxSteps := 1000000) (disch := omega) [-List.getD_eq_getElem?_getD]
        refine acall_is (c2 _ _ _) ?_; simp (maxSteps := 1000000) (disch := omega) [-List.getD_eq_getElem?_getD, m0, m1]
        refine hK _ ?_; clear hK K
        refine aw_if rfl (fun h => ?_) (fun h => absurd h (by simp [m1]))
        refine aw_reg fun K hK => ?_; simp (maxSteps := 1000000) (disch := omega) [-List.getD_eq_getElem?_getD]; refine hK _ ?_; clear hK K
        refine aw_ret ?_; simp (maxSteps := 1000000) (disch := omega) [-List.getD_eq_getElem?_getD, hres]
    · by_cases h13 : out.length = 13
      · have ho : out = digs s := by
          rcases hout with h | h
          · exact h
          · omega
        have hok := digs_okD s
        have hp := digs_prop s
        rw [← ho] at hok hp
        have hd12 : ∀ i, i < 12 → dig (out.getD i 0) = true := fun i hi => by
          rcases hp i (by omega) with h | h
          · exact h
          · omega
        have hbv := book_vals h13 hd12
        have hres : isbnR s = if bookB out = false ∨ out.getD 12 0 = 88 then ([], 7) else if altn out % 10 ≠ 0 then ([], 6) else (out, 0) := by
          unfold isbnR
          rw [← ho, if_neg (by omega)]
          by_cases hb : bookB out = false ∨ out.getD 12 0 = 88
          · rw [if_pos (.inr hb), if_pos hb]
          · rw [if_neg (fun h => h.elim (fun g => g h13) hb), if_neg hb]
        have c2 := fun tg H T => ralternating_ok out hok (by omega) tg H T
        have c3 := fun tg H T => rtext_ok out hok (by omega) tg H T
        have hF := altn_pos hok (by omega)
        have hm := tmod_pos (b := 10) hF.1
        have a0 := nums_at out 0 (by omega)
        have a1 := nums_at out 1 (by omega)
        have a2 := nums_at out 2 (by omega)
        have a12 := nums_at out 12 (by omega)
        have k12 := okD_kind (hok 12 (by omega))
        rw [h13] at c1 c2 c3
        generalize valN (out.getD 0 0) = v0 at *
        generalize valN (out.getD 1 0) = v1 at *
        generalize valN (out.getD 2 0) = v2 at *
        generalize valN (out.getD 12 0) = v12 at *
        refine acall_enter 7 [] Try.ntmps22 Try.func22 rfl (fun _ _ => Try.call22 _ _) (by simp) (fun HO => ?_)
        refine aw_reg fun K hK => ?_; simp (maxSteps := 1000000) (disch := omega) [-List.getD_eq_getElem?_getD]; refine hK _ ?_; clear hK K
        refine aw_reg fun K hK => ?_; simp (maxSteps := 1000000) (disch := omega) [-List.getD_eq_getElem?_getD]
        refine acall_is (c1) ?_; simp (maxSteps := 1000000) (disch := omega) [-List.getD_eq_getElem?_getD]
        refine hK _ ?_; clear hK K
        refine aw_then fun K1 hK1 => ?_
        refine aw_block ?_
        refine aw_reg fun K hK => ?_; simp (maxSteps := 1000000) (disch := omega) [-List.getD_eq_getElem?_getD, h13]; refine hK _ ?_; clear hK K
        refine aw_if rfl (fun h => absurd h (by simp)) (fun h => ?_)
        have bad : isbnR s = ([], 7) → ∀ e, envLe H.length (T ++ [(13, 1)]).length e [] → K1 ⟨e, H, T ++ [(13, 1)]⟩ := fun hr7 e he => by
          refine hK1 _ (aw_weak ⟨[], H, T ++ [(13, 1)]⟩ (weak_to [] [] (by simp) (by simp) (by simp) (by simp) (HO.toks (by simp)) he) ?_)
          refine aw_reg fun K hK => ?_; simp (maxSteps := 1000000) (disch := omega) [-List.getD_eq_getElem?_getD]; refine hK _ ?_; clear hK K
          refine aw_ret ?_; simp (maxSteps := 1000000) (disch := omega) [-List.getD_eq_getElem?_getD, hr7]
        by_cases e0 : v0 = 9
        · subst e0
          by_cases e1 : v1 = 7
          · subst e1
            by_cases e2 : 8 ≤ v2
            · have b2 : decide ((8 : Int) ≤ (v2 : Int)) = true := decide_eq_true (by omega)
              by_cases e12 : v12 < 10
              · have b12 : decide ((v12 : Int) < 10) = true := decide_eq_true (by omega)
                have hb : bookB out = true := hbv.2 ⟨rfl, rfl, e2⟩
                have h88 : ¬ out.getD 12 0 = 88 := fun e => by
                  rcases k12 with k | k
                  · omega
                  · rw [e] at k; have := k.2.1; simp at this; omega
                rw [if_neg (fun h => h.elim (fun g => by rw [hb] at g; cases g) h88)] at hres
                refine aw_reg fun K hK => ?_; simp (maxSteps := 1000000) (disch := omega) [-List.getD_eq_getElem?_getD, h13, a0, a1, a2, a12, b2, e2, b12, e12]; refine hK _ ?_; clear hK K
                refine aw_if rfl (fun h => ?_) (fun h => absurd h (by simp))
                refine aw_then fun K2 hK2 => ?_
                by_cases h11 : altn out % 10 = 0
                · rw [if_neg (by omega)] at hres
                  have m0 : (altn out).tmod 10 = 0 := by rw [hm]; exact h11
                  refine aw_reg fun K hK => ?_; simp (maxSteps := 1000000) (disch := omega) [-List.getD_eq_getElem?_getD]
                  refine acall_is (c2 _ _ _) ?_; simp (maxSteps := 1000000) (disch := omega) [-List.getD_eq_getElem?_getD, m0]
                  refine hK _ ?_; clear hK K
                  refine aw_if rfl (fun h => absurd h (by simp)) (fun h => ?_)
                  refine aw_skip ?_; simp (maxSteps := 1000000) (disch := omega) [-List.getD_eq_getElem?_getD]
                  refine hK2 _ ?_; clear hK2
                  refine aw_reg fun K hK => ?_; simp (maxSteps := 1000000) (disch := omega) [-List.getD_eq_getElem?_getD]
                  refine acall_is (c3 _ _ _) ?_; simp (maxSteps := 1000000) (disch := omega) [-List.getD_eq_getElem?_getD]
                  refine hK _ ?_; clear hK K
                  refine aw_ret ?_; simp (maxSteps := 1000000) (disch := omega) [-List.getD_eq_getElem?_getD, hres]
                · rw [if_pos h11] at hres
                  have m0 : ((altn out).tmod 10 == 0) = false := by rw [hm]; exact beq_eq_false_iff_ne.2 h11
                  have m1 : ¬ (altn out).tmod 10 = 0 := by rw [hm]; exact h11
                  refine aw_reg fun K hK => ?_; simp (maxSteps := 1000000) (disch := omega) [-List.getD_eq_getElem?_getD]
                  refine acall_is (c2 _ _ _) ?_; simp (maxSteps := 1000000) (disch := omega) [-List.getD_eq_getElem?_getD, m0, m1]
                  refine hK _ ?_; clear hK K
                  refine aw_if rfl (fun h => ?_) (fun h => absurd h (by simp [m1]))
                  refine aw_reg fun K hK => ?_; simp (maxSteps := 1000000) (disch := omega) [-List.getD_eq_getElem?_getD]; refine hK _ ?_; clear hK K
                  refine aw_ret ?_; simp (maxSteps := 1000000) (disch := omega) [-List.getD_eq_getElem?_getD, hres]
              · have b12 : decide ((v12 : Int) < 10) = false := decide_eq_false (by omega)
                have h88 : out.getD 12 0 = 88 := by
                  rcases k12 with k | k
                  · exact k.2
                  · omega
                rw [if_pos (.inr h88)] at hres
                refine aw_reg fun K hK => ?_; simp (maxSteps := 1000000) (disch := omega) [-List.getD_eq_getElem?_getD, h13, a0, a1, a2, a12, b2, e2, b12, e12]; refine hK _ ?_; clear hK K
                refine aw_if rfl (fun h => absurd h (by simp)) (fun h => ?_)
                refine aw_skip ?_; simp (maxSteps := 1000000) (disch := omega) [-List.getD_eq_getElem?_getD]
                exact bad hres _ (by simp)
            · have b2 : decide ((8 : Int) ≤ (v2 : Int)) = false := decide_eq_false (by omega)
              have hb : bookB out = false := by
                cases hb : bookB out with
                | false => rfl
                | true => exact absurd (hbv.1 hb).2.2 e2
              rw [if_pos (.inl hb)] at hres
              refine aw_reg fun K hK => ?_; simp (maxSteps := 1000000) (disch := omega) [-List.getD_eq_getElem?_getD, h13, a0, a1, a2, b2, e2]; refine hK _ ?_; clear hK K
              refine aw_if rfl (fun h => absurd h (by simp)) (fun h => ?_)
              refine aw_skip ?_; simp (maxSteps := 1000000) (disch := omega) [-List.getD_eq_getElem?_getD]
              exact bad hres _ (by simp)
          · have b1 : ((v1 : Int) == 7) = false := beq_eq_false_iff_ne.2 (by omega)
            have b1' : ¬ (v1 : Int) = 7 := by omega
            have hb : bookB out = false := by
              cases hb : bookB out with
              | false => rfl
              | true => exact absurd (hbv.1 hb).2.1 e1
            rw [if_pos (.inl hb)] at hres
            refine aw_reg fun K hK => ?_; simp (maxSteps := 1000000) (disch := omega) [-List.getD_eq_getElem?_getD, h13, a0, a1, b1, b1']; refine hK _ ?_; clear hK K
            refine aw_if rfl (fun h => absurd h (by simp)) (fun h => ?_)
            refine aw_skip ?_; simp (maxSteps := 1000000) (disch := omega) [-List.getD_eq_getElem?_getD]
            exact bad hres _ (by simp)
        · have b0 : ((v0 : Int) == 9) = false := beq_eq_false_iff_ne.2 (by omega)
          have b0' : ¬ (v0 : Int) = 9 := by omega
          have hb : bookB out = false := by
            cases hb : bookB out with
            | false => rfl
            | true => exact absurd (hbv.1 hb).1 e0
          rw [if_pos (.inl hb)] at hres
          refine aw_reg fun K hK => ?_; simp (maxSteps := 1000000) (disch := omega) [-List.getD_eq_getElem?_getD, h13, a0, b0, b0']; refine hK _ ?_; clear hK K
          refine aw_if rfl (fun h => absurd h (by simp)) (fun h => ?_)
          refine aw_skip ?_; simp (maxSteps := 1000000) (disch := omega) [-List.getD_eq_getElem?_getD]
          exact bad hres _ (by simp)
      · have hres : isbnR s = ([], 7) := by
          rcases hout with h | h
          · exact isbn_none (by rw [← h]; exact h10) (by rw [← h]; exact h13)
          · exact isbn_none (by omega) (by omega)
        have b10 : ((out.length : Int) == 10) = false := beq_eq_false_iff_ne.2 (by omega)
        have b10' : ¬ (out.length : Int) = 10 := by omega
        have b13 : ((out.length : Int) == 13) = false := beq_eq_false_iff_ne.2 (by omega)
        have b13' : ¬ (out.length : Int) = 13 := by omega
        by_cases h0 : 0 < out.length
        · rw [decide_eq_true h0] at c1
          refine acall_enter 7 [] Try.ntmps22 Try.func22 rfl (fun _ _ => Try.call22 _ _) (by simp) (fun HO => ?_)
          refine aw_reg fun K hK => ?_; simp (maxSteps := 1000000) (disch := omega) [-List.getD_eq_getElem?_getD]; refine hK _ ?_; clear hK K
          refine aw_reg fun K hK => ?_; simp (maxSteps := 1000000) (disch := omega) [-List.getD_eq_getElem?_getD]
          refine acall_is (c1) ?_; simp (maxSteps := 1000000) (disch := omega) [-List.getD_eq_getElem?_getD]
          refine hK _ ?_; clear hK K
          refine aw_then fun K1 hK1 => ?_
          refine aw_block ?_
          refine aw_reg fun K hK => ?_; simp (maxSteps := 1000000) (disch := omega) [-List.getD_eq_getElem?_getD, h10, b10, b10']; refine hK _ ?_; clear hK K
          refine aw_if rfl (fun h => absurd h (by simp)) (fun h => ?_)
          refine aw_reg fun K hK => ?_; simp (maxSteps := 1000000) (disch := omega) [-List.getD_eq_getElem?_getD, h13, b13, b13']; refine hK _ ?_; clear hK K
          refine aw_if rfl (fun h => absurd h (by simp)) (fun h => ?_)
          refine aw_skip ?_; simp (maxSteps := 1000000) (disch := omega) [-List.getD_eq_getElem?_getD]
          refine hK1 _ ?_; clear hK1
          refine aw_reg fun K hK => ?_; simp (maxSteps := 1000000) (disch := omega) [-List.getD_eq_getElem?_getD]; refine hK _ ?_; clear hK K
          refine aw_ret ?_; simp (maxSteps := 1000000) (disch := omega) [-List.getD_eq_getElem?_getD, hres]
        · rw [decide_eq_false h0] at c1
          refine acall_enter 7 [] Try.ntmps22 Try.func22 rfl (fun _ _ => Try.call22 _ _) (by simp) (fun HO => ?_)
          refine aw_reg fun K hK => ?_; simp (maxSteps := 1000000) (disch := omega) [-List.getD_eq_getElem?_getD]; refine hK _ ?_; clear hK K
          refine aw_reg fun K hK => ?_; simp (maxSteps := 1000000) (disch := omega) [-List.getD_eq_getElem?_getD]
          refine acall_is (c1) ?_; simp (maxSteps := 1000000) (disch := omega) [-List.getD_eq_getElem?_getD]
          refine hK _ ?_; clear hK K
          refine aw_then fun K1 hK1 => ?_
          refine aw_block ?_
          refine aw_reg fun K hK => ?_; simp (maxSteps := 1000000) (disch := omega) [-List.getD_eq_getElem?_getD]; refine hK _ ?_; clear hK K
          refine aw_if rfl (fun h => absurd h (by simp)) (fun h => ?_)
          refine aw_reg fun K hK => ?_; simp (maxSteps := 1000000) (disch := omega) [-List.getD_eq_getElem?_getD]; refine hK _ ?_; clear hK K
          refine aw_if rfl (fun h => absurd h (by simp)) (fun h => ?_)
          refine aw_skip ?_; simp (maxSteps := 1000000) (disch := omega) [-List.getD_eq_getElem?_getD]
          refine hK1 _ ?_; clear hK1
          refine aw_reg fun K hK => ?_; simp (maxSteps := 1000000) (disch := omega) [-List.getD_eq_getElem?_getD]; refine hK _ ?_; clear hK K
          refine aw_ret ?_; simp (maxSteps := 1000000) (disch := omega) [-List.getD_eq_getElem?_getD, hres]
  · have c1 := rd_no s (by omega) hr H T
    have hres := isbn_none (s := s) (by omega) (by omega)
    refine acall_enter 7 [] Try.ntmps22 Try.func22 rfl (fun _ _ => Try.call22 _ _) (by simp) (fun HO => ?_)
    refine aw_reg fun K hK => ?_; simp (maxSteps := 1000000) (disch := omega) [-List.getD_eq_getElem?_getD]; refine hK _ ?_; clear hK K
    refine aw_reg fun K hK => ?_; simp (maxSteps := 1000000) (disch := omega) [-List.getD_eq_getElem?_getD]
    refine acall_is (c1) ?_; simp (maxSteps := 1000000) (disch := omega) [-List.getD_eq_getElem?_getD]
    refine hK _ ?_; clear hK K
    refine aw_then fun K1 hK1 => ?_
    refine aw_block ?_
    refine aw_reg fun K hK => ?_; simp (maxSteps := 1000000) (disch := omega) [-List.getD_eq_getElem?_getD]; refine hK _ ?_; clear hK K
    refine aw_if rfl (fun h => absurd h (by simp)) (fun h => ?_)
    refine aw_reg fun K hK => ?_; simp (maxSteps := 1000000) (disch := omega) [-List.getD_eq_getElem?_getD]; refine hK _ ?_; clear hK K
    refine aw_if rfl (fun h => absurd h (by simp)) (fun h => ?_)
    refine aw_skip ?_; simp (maxSteps := 1000000) (disch := omega) [-List.getD_eq_getElem?_getD]
    refine hK1 _ ?_; clear hK1
    refine aw_reg fun K hK => ?_; simp (maxSteps := 1000000) (disch := omega) [-List.getD_eq_getElem?_getD]; refine hK _ ?_; clear hK K
    refine aw_ret ?_; simp (maxSteps := 1000000) (disch := omega) [-List.getD_eq_getElem?_getD, hres]
end Go.Proofs.Ytlemepdiegacbaa
