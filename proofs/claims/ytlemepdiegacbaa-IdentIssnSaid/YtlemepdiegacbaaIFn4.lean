/- ISBNs and ISSNs of layer 14.
   Conditions: lengths below 1000. -/
import Derived.Test.YtlemepdiegacbaaIFn3
namespace Go.Proofs.Ytlemepdiegacbaa
open Go Go.Am Ident
set_option linter.unusedVariables false

theorem enc1 (c : UInt8) (h : c.toNat < 128) : (Utf8.encode (c.toNat : Int)).data.toList = [c] := by
  have key : ∀ n : Fin 128, (Utf8.encode (n.1 : Int)).data.toList = [UInt8.ofNat n.1] := by decide +kernel
  have := key ⟨c.toNat, h⟩
  simp only at this
  rw [this, UInt8.ofNat_toNat]

theorem bsize {b : ByteArray} {c : UInt8} (h : b.data.toList = [c]) : b.size = 1 := by
  have e : b.data.toList.length = 1 := by rw [h]; rfl
  rw [Array.length_toList] at e
  exact e
theorem enc1_size (c : UInt8) (h : c.toNat < 128) : (Utf8.encode (c.toNat : Int)).size = 1 := bsize (enc1 c h)
theorem wrap32 (c : UInt8) : IntKind.i32.wrap (c.toNat : Int) = (c.toNat : Int) := by
  have := toNat_lt c
  simp [IntKind.wrap, IntKind.signed, IntKind.bits]
  omega

def isbnR (s : List UInt8) : List UInt8 × Int :=
  if (digs s).length = 10 then (if fall (digs s) % 11 ≠ 0 then ([], 6) else (57 :: 55 :: 56 :: ((digs s).take 9 ++ [ck13 (57 :: 55 :: 56 :: (digs s).take 9)]), 0))
  else if (digs s).length ≠ 13 ∨ bookB (digs s) = false ∨ (digs s).getD 12 0 = 88 then ([], 7)
  else if altn (digs s) % 10 ≠ 0 then ([], 6)
  else (digs s, 0)

theorem dig978 : allDig [57, 55, 56] := by
  intro i hi
  match i, hi with
  | 0, _ => decide
  | 1, _ => decide
  | 2, _ => decide
theorem allDig_append {a b : List UInt8} (ha : allDig a) (hb : allDig b) : allDig (a ++ b) := by
  intro i hi
  rw [List.length_append] at hi
  rcases Nat.lt_or_ge i a.length with hl | hl
  · rw [List.getD_eq_getElem?_getD, List.getElem?_append_left hl, ← List.getD_eq_getElem?_getD]
    exact ha i hl
  · rw [List.getD_eq_getElem?_getD, List.getElem?_append_right hl, ← List.getD_eq_getElem?_getD]
    exact hb _ (by omega)
theorem allDig_take {s : List UInt8} {k : Nat} (h : ∀ i, i < k → i < s.length → dig (s.getD i 0) = true) : allDig (s.take k) := by
  intro i hi
  rw [List.length_take] at hi
  rw [List.getD_eq_getElem?_getD, List.getElem?_take, if_pos (by omega), ← List.getD_eq_getElem?_getD]
  exact h i (by omega) (by omega)
theorem digs_take (s : List UInt8) {k : Nat} (hk : k < (digs s).length) : allDig ((digs s).take k) := allDig_take fun i hi hl => by
  rcases digs_prop s i hl with h | h
  · exact h
  · omega
theorem ck13_lt (s : List UInt8) : (ck13 s).toNat < 128 := by
  unfold ck13
  have : ((10 - altn s % 10) % 10).toNat < 10 := by omega
  simp [UInt8.toNat_ofNat']
  omega

set_option maxRecDepth 100000 in
set_option maxHeartbeats 2000000 in
theorem isbn_ok (s : List UInt8) (hs : s.length ≤ 1000) (H : List Blk) (T : Toks) : ACall Try.prog 20 [.str s] H T (Is (.tup [.str (isbnR s).1, .int .i64 (isbnR s).2]) H T) := by
  have c1 := digits_ok s hs H T
  have hdl := digs_len s
  have hok := digs_okD s
  have hres : isbnR s = if (digs s).length = 10 then (if fall (digs s) % 11 ≠ 0 then ([], 6) else (57 :: 55 :: 56 :: ((digs s).take 9 ++ [ck13 (57 :: 55 :: 56 :: (digs s).take 9)]), 0))
    else if (digs s).length ≠ 13 ∨ bookB (digs s) = false ∨ (digs s).getD 12 0 = 88 then ([], 7)
    else if altn (digs s) % 10 ≠ 0 then ([], 6)
    else (digs s, 0) := rfl
  have htk : (digs s).length = 10 → allDig ((digs s).take 9) := fun h => digs_take s (by omega)
  generalize digs s = d at *
  refine acall_enter 7 [] Try.ntmps20 Try.func20 rfl (fun _ _ => Try.call20 _ _) (by simp) (fun HO => ?_)
  refine aw_reg fun K hK => ?_; simp (maxSteps := 1000000) (disch := omega) [-List.getD_eq_getElem?_getD]; refine hK _ ?_; clear hK K
  refine aw_reg fun K hK => ?_; simp (maxSteps := 1000000) (disch := omega) [-List.getD_eq_getElem?_getD]
  refine acall_is (c1) ?_; simp (maxSteps := 1000000) (disch := omega) [-List.getD_eq_getElem?_getD]
  refine hK _ ?_; clear hK K
  refine aw_then fun K1 hK1 => ?_
  refine aw_block ?_
  by_cases h10 : d.length = 10
  · rw [if_pos h10] at hres
    have b10 : ((d.length : Int) == 10) = true := by rw [beq_iff_eq]; omega
    have c2 := falling_ok d hok (by omega) H T
    have hf := fall_pos hok (by omega : d.length ≤ 100)
    generalize fall d = F at *
    obtain ⟨r, hr⟩ : ∃ r : Nat, F % 11 = (r : Int) := ⟨(F % 11).toNat, by omega⟩
    have m1 : F.tmod 11 = (r : Int) := by rw [tmod_pos hf.1]; exact hr
    rw [hr] at hres
    refine aw_reg fun K hK => ?_; simp (maxSteps := 1000000) (disch := omega) [-List.getD_eq_getElem?_getD, b10]; refine hK _ ?_; clear hK K
    refine aw_if rfl (fun h => ?_) (fun h => absurd h (by simp [h10]))
    refine aw_then fun K2 hK2 => ?_
    by_cases h0 : r = 0
    · have b0 : ((r : Int) != 0) = false := by rw [h0]; rfl
      have hd9 := htk h10
      have hpl : plainB (57 :: 55 :: 56 :: d.take 9) 12 = true := plainB_iff.2 ⟨by simp; omega, allDig_append dig978 hd9⟩
      have c3 := check13_ok (57 :: 55 :: 56 :: d.take 9) (by simp; omega) H T
      have hck : check13R (57 :: 55 :: 56 :: d.take 9) = (ck13 (57 :: 55 :: 56 :: d.take 9), true) := by unfold check13R; rw [if_pos hpl]
      have hc8 := enc1 _ (ck13_lt (57 :: 55 :: 56 :: d.take 9))
      have hsz := enc1_size _ (ck13_lt (57 :: 55 :: 56 :: d.take 9))
      have hw := wrap32 (ck13 (57 :: 55 :: 56 :: d.take 9))
      rw [if_neg (by rw [h0]; decide)] at hres
      rw [hck] at c3
      generalize ck13 (57 :: 55 :: 56 :: d.take 9) = c at *
      refine aw_reg fun K hK => ?_; simp (maxSteps := 1000000) (disch := omega) [-List.getD_eq_getElem?_getD]
      refine acall_is (c2) ?_; simp (maxSteps := 1000000) (disch := omega) [-List.getD_eq_getElem?_getD, m1, b0, h0]
      refine hK _ ?_; clear hK K
      refine aw_if rfl (fun h => absurd h (by simp [h0])) (fun h => ?_)
      refine aw_skip ?_; simp (maxSteps := 1000000) (disch := omega) [-List.getD_eq_getElem?_getD]
      refine hK2 _ ?_; clear hK2
      refine aw_reg fun K hK => ?_; simp (maxSteps := 1000000) (disch := omega) [-List.getD_eq_getElem?_getD, h10]; refine hK _ ?_; clear hK K
      refine aw_reg fun K hK => ?_; simp (maxSteps := 1000000) (disch := omega) [-List.getD_eq_getElem?_getD]
      refine acall_is (c3) ?_; simp (maxSteps := 1000000) (disch := omega) [-List.getD_eq_getElem?_getD]
      refine hK _ ?_; clear hK K
      refine aw_reg fun K hK => ?_; simp (maxSteps := 1000000) (disch := omega) [-List.getD_eq_getElem?_getD, hc8, hsz, hw]; refine hK _ ?_; clear hK K
      refine aw_ret ?_; simp (maxSteps := 1000000) (disch := omega) [-List.getD_eq_getElem?_getD]
      rw [hres]
      exact ⟨rfl, rfl, rfl⟩
    · have b0 : ((r : Int) != 0) = true := bne_iff_ne.2 (by omega)
      rw [if_pos (by omega)] at hres
      refine aw_reg fun K hK => ?_; simp (maxSteps := 1000000) (disch := omega) [-List.getD_eq_getElem?_getD]
      refine acall_is (c2) ?_; simp (maxSteps := 1000000) (disch := omega) [-List.getD_eq_getElem?_getD, m1, b0, h0]
      refine hK _ ?_; clear hK K
      refine aw_if rfl (fun h => ?_) (fun h => absurd h (by simp [h0]))
      refine aw_reg fun K hK => ?_; simp (maxSteps := 1000000) (disch := omega) [-List.getD_eq_getElem?_getD]; refine hK _ ?_; clear hK K
      refine aw_ret ?_; simp (maxSteps := 1000000) (disch := omega) [-List.getD_eq_getElem?_getD]
      rw [hres]
      exact ⟨rfl, rfl, rfl⟩
  · rw [if_neg h10] at hres
    have b10 : ((d.length : Int) == 10) = false := by rw [beq_eq_false_iff_ne]; omega
    refine aw_reg fun K hK => ?_; simp (maxSteps := 1000000) (disch := omega) [-List.getD_eq_getElem?_getD, b10, h10]; refine hK _ ?_; clear hK K
    refine aw_if rfl (fun h => absurd h (by simp [h10])) (fun h => ?_)
    by_cases h13 : d.length = 13
    · have b13 : ((d.length : Int) != 13) = false := by rw [h13]; rfl
      have c2 := book_ok d (by omega) H T
      cases hbk : bookB d with
      | false =>
        rw [hbk] at c2 hres
        rw [if_pos (.inr (.inl rfl))] at hres
        refine aw_reg fun K hK => ?_; simp (maxSteps := 1000000) (disch := omega) [-List.getD_eq_getElem?_getD, b13, h13]
        refine acall_is (c2) ?_; simp (maxSteps := 1000000) (disch := omega) [-List.getD_eq_getElem?_getD]
        refine hK _ ?_; clear hK K
        refine aw_if rfl (fun h => ?_) (fun h => absurd h (by simp))
        refine aw_reg fun K hK => ?_; simp (maxSteps := 1000000) (disch := omega) [-List.getD_eq_getElem?_getD]; refine hK _ ?_; clear hK K
        refine aw_ret ?_; simp (maxSteps := 1000000) (disch := omega) [-List.getD_eq_getElem?_getD]
        rw [hres]
        exact ⟨rfl, rfl, rfl⟩
      | true =>
        rw [hbk] at c2 hres
        generalize hg12 : d.getD 12 0 = x at *
        by_cases hx : x = 88
        · have bx : ((x.toNat : Int) == 88) = true := sp_eq 88 (by decide) hx
          rw [if_pos (.inr (.inr hx))] at hres
          refine aw_reg fun K hK => ?_; simp (maxSteps := 1000000) (disch := omega) [-List.getD_eq_getElem?_getD, b13, h13]
          refine acall_is (c2) ?_; simp (maxSteps := 1000000) (disch := omega) [-List.getD_eq_getElem?_getD, hg12, bx, h13]
          refine hK _ ?_; clear hK K
          refine aw_if rfl (fun h => ?_) (fun h => absurd h (by simp [hx]))
          refine aw_reg fun K hK => ?_; simp (maxSteps := 1000000) (disch := omega) [-List.getD_eq_getElem?_getD]; refine hK _ ?_; clear hK K
          refine aw_ret ?_; simp (maxSteps := 1000000) (disch := omega) [-List.getD_eq_getElem?_getD]
          rw [hres]
          exact ⟨rfl, rfl, rfl⟩
        · have bx : ((x.toNat : Int) == 88) = false := sp_ne 88 (by decide) hx
          have bx' : ¬ x.toNat = 88 := fun e => hx (UInt8.toNat_inj.1 (by rw [e]; rfl))
          have c3 := alternating_ok d hok (by omega) H T
          have hf := altn_pos hok (by omega : d.length ≤ 100)
          rw [if_neg (by rintro (h | h | h); exact h h13; cases h; exact hx h)] at hres
          generalize altn d = F at *
          obtain ⟨r, hr⟩ : ∃ r : Nat, F % 10 = (r : Int) := ⟨(F % 10).toNat, by omega⟩
          have m1 : F.tmod 10 = (r : Int) := by rw [tmod_pos hf.1]; exact hr
          rw [hr] at hres
          refine aw_reg fun K hK => ?_; simp (maxSteps := 1000000) (disch := omega) [-List.getD_eq_getElem?_getD, b13, h13]
          refine acall_is (c2) ?_; simp (maxSteps := 1000000) (disch := omega) [-List.getD_eq_getElem?_getD, hg12, bx, bx', h13]
          refine hK _ ?_; clear hK K
          refine aw_if rfl (fun h => absurd h (by simp [bx'])) (fun h => ?_)
          by_cases h0 : r = 0
          · have b0 : ((r : Int) != 0) = false := by rw [h0]; rfl
            rw [if_neg (by rw [h0]; decide)] at hres
            refine aw_reg fun K hK => ?_; simp (maxSteps := 1000000) (disch := omega) [-List.getD_eq_getElem?_getD]
            refine acall_is (c3) ?_; simp (maxSteps := 1000000) (disch := omega) [-List.getD_eq_getElem?_getD, m1, b0, h0]
            refine hK _ ?_; clear hK K
            refine aw_if rfl (fun h => absurd h (by simp [h0])) (fun h => ?_)
            refine aw_skip ?_; simp (maxSteps := 1000000) (disch := omega) [-List.getD_eq_getElem?_getD]
            refine hK1 _ ?_; clear hK1
            refine aw_reg fun K hK => ?_; simp (maxSteps := 1000000) (disch := omega) [-List.getD_eq_getElem?_getD]; refine hK _ ?_; clear hK K
            refine aw_ret ?_; simp (maxSteps := 1000000) (disch := omega) [-List.getD_eq_getElem?_getD]
            rw [hres]
            exact ⟨rfl, rfl, rfl⟩
          · have b0 : ((r : Int) != 0) = true := bne_iff_ne.2 (by omega)
            rw [if_pos (by omega)] at hres
            refine aw_reg fun K hK => ?_; simp (maxSteps := 1000000) (disch := omega) [-List.getD_eq_getElem?_getD]
            refine acall_is (c3) ?_; simp (maxSteps := 1000000) (disch := omega) [-List.getD_eq_getElem?_getD, m1, b0, h0]
            refine hK _ ?_; clear hK K
            refine aw_if rfl (fun h => ?_) (fun h => absurd h (by simp [h0]))
            refine aw_reg fun K hK => ?_; simp (maxSteps := 1000000) (disch := omega) [-List.getD_eq_getElem?_getD]; refine hK _ ?_; clear hK K
            refine aw_ret ?_; simp (maxSteps := 1000000) (disch := omega) [-List.getD_eq_getElem?_getD]
            rw [hres]
            exact ⟨rfl, rfl, rfl⟩
    · have b13 : ((d.length : Int) != 13) = true := bne_iff_ne.2 (by omega)
      rw [if_pos (.inl h13)] at hres
      refine aw_reg fun K hK => ?_; simp (maxSteps := 1000000) (disch := omega) [-List.getD_eq_getElem?_getD, b13, h13]; refine hK _ ?_; clear hK K
      refine aw_if rfl (fun h => ?_) (fun h => absurd h (by simp [h13]))
      refine aw_reg fun K hK => ?_; simp (maxSteps := 1000000) (disch := omega) [-List.getD_eq_getElem?_getD]; refine hK _ ?_; clear hK K
      refine aw_ret ?_; simp (maxSteps := 1000000) (disch := omega) [-List.getD_eq_getElem?_getD]
      rw [hres]
      exact ⟨rfl, rfl, rfl⟩

def issnR (s : List UInt8) : List UInt8 × Int :=
  if (digs s).length ≠ 8 then ([], 7)
  else if fall (digs s) % 11 ≠ 0 then ([], 6)
  else ((digs s).take 4 ++ 45 :: (digs s).drop 4, 0)

theorem issn_ok (s : List UInt8) (hs : s.length ≤ 1000) (H : List Blk) (T : Toks) : ACall Try.prog 11 [.str s] H T (Is (.tup [.str (issnR s).1, .int .i64 (issnR s).2]) H T) := by
  have c1 := digits_ok s hs H T
  have hdl := digs_len s
  have hok := digs_okD s
  have hres : issnR s = if (digs s).length ≠ 8 then ([], 7)
    else if fall (digs s) % 11 ≠ 0 then ([], 6)
    else ((digs s).take 4 ++ 45 :: (digs s).drop 4, 0) := rfl
  generalize digs s = d at *
  refine acall_enter 5 [] Try.ntmps11 Try.func11 rfl (fun _ _ => Try.call11 _ _) (by simp) (fun HO => ?_)
  refine aw_reg fun K hK => ?_; simp (maxSteps := 1000000) (disch := omega) [-List.getD_eq_getElem?_getD]; refine hK _ ?_; clear hK K
  refine aw_reg fun K hK => ?_; simp (maxSteps := 1000000) (disch := omega) [-List.getD_eq_getElem?_getD]
  refine acall_is (c1) ?_; simp (maxSteps := 1000000) (disch := omega) [-List.getD_eq_getElem?_getD]
  refine hK _ ?_; clear hK K
  refine aw_then fun K1 hK1 => ?_
  by_cases h8 : d.length = 8
  · have b8 : ((d.length : Int) != 8) = false := by rw [h8]; rfl
    rw [if_neg (fun h => h h8)] at hres
    refine aw_reg fun K hK => ?_; simp (maxSteps := 1000000) (disch := omega) [-List.getD_eq_getElem?_getD, b8, h8]; refine hK _ ?_; clear hK K
    refine aw_if rfl (fun h => absurd h (by simp [h8])) (fun h => ?_)
    refine aw_skip ?_; simp (maxSteps := 1000000) (disch := omega) [-List.getD_eq_getElem?_getD]
    refine hK1 _ ?_; clear hK1
    refine aw_then fun K1 hK1 => ?_
    have c2 := falling_ok d hok (by omega) H T
    have hf := fall_pos hok (by omega : d.length ≤ 100)
    generalize fall d = F at *
    obtain ⟨r, hr⟩ : ∃ r : Nat, F % 11 = (r : Int) := ⟨(F % 11).toNat, by omega⟩
    have m1 : F.tmod 11 = (r : Int) := by rw [tmod_pos hf.1]; exact hr
    rw [hr] at hres
    by_cases h0 : r = 0
    · have b0 : ((r : Int) != 0) = false := by rw [h0]; rfl
      rw [if_neg (by rw [h0]; decide)] at hres
      have htk : List.take 4 (List.drop 4 d) = List.drop 4 d := List.take_of_length_le (by rw [List.length_drop]; omega)
      refine aw_reg fun K hK => ?_; simp (maxSteps := 1000000) (disch := omega) [-List.getD_eq_getElem?_getD]
      refine acall_is (c2) ?_; simp (maxSteps := 1000000) (disch := omega) [-List.getD_eq_getElem?_getD, m1, b0, h0]
      refine hK _ ?_; clear hK K
      refine aw_if rfl (fun h => absurd h (by simp [h0])) (fun h => ?_)
      refine aw_skip ?_; simp (maxSteps := 1000000) (disch := omega) [-List.getD_eq_getElem?_getD]
      refine hK1 _ ?_; clear hK1
      refine aw_draw [] [] [] drawMixed (by kernel_rfl) (by kernel_rfl) fun K hK => ?_; simp (maxSteps := 1000000) (disch := omega) [-List.getD_eq_getElem?_getD, h8, htk]
      refine hK _ ?_; clear hK K
      refine aw_ret ?_; simp (maxSteps := 1000000) (disch := omega) [-List.getD_eq_getElem?_getD]
      rw [hres]
      simp
      exact ⟨rfl, rfl, rfl⟩
    · have b0 : ((r : Int) != 0) = true := bne_iff_ne.2 (by omega)
      rw [if_pos (by omega)] at hres
      refine aw_reg fun K hK => ?_; simp (maxSteps := 1000000) (disch := omega) [-List.getD_eq_getElem?_getD]
      refine acall_is (c2) ?_; simp (maxSteps := 1000000) (disch := omega) [-List.getD_eq_getElem?_getD, m1, b0, h0]
      refine hK _ ?_; clear hK K
      refine aw_if rfl (fun h => ?_) (fun h => absurd h (by simp [h0]))
      refine aw_reg fun K hK => ?_; simp (maxSteps := 1000000) (disch := omega) [-List.getD_eq_getElem?_getD]; refine hK _ ?_; clear hK K
      refine aw_ret ?_; simp (maxSteps := 1000000) (disch := omega) [-List.getD_eq_getElem?_getD]
      rw [hres]
      exact ⟨rfl, rfl, rfl⟩
  · have b8 : ((d.length : Int) != 8) = true := bne_iff_ne.2 (by omega)
    rw [if_pos h8] at hres
    refine aw_reg fun K hK => ?_; simp (maxSteps := 1000000) (disch := omega) [-List.getD_eq_getElem?_getD, b8, h8]; refine hK _ ?_; clear hK K
    refine aw_if rfl (fun h => ?_) (fun h => absurd h (by simp [h8]))
    refine aw_reg fun K hK => ?_; simp (maxSteps := 1000000) (disch := omega) [-List.getD_eq_getElem?_getD]; refine hK _ ?_; clear hK K
    refine aw_ret ?_; simp (maxSteps := 1000000) (disch := omega) [-List.getD_eq_getElem?_getD]
    rw [hres]
    exact ⟨rfl, rfl, rfl⟩

theorem ck10_lt (s : List UInt8) : (ck10 s).toNat < 128 := by
  unfold ck10
  have : ((11 - fall (s ++ [48]) % 11) % 11).toNat < 11 := by omega
  generalize ((11 - fall (s ++ [48]) % 11) % 11).toNat = r at *
  have key : ∀ r : Fin 11, (tabX.getD r.1 0).toNat < 128 := by decide
  exact key ⟨r, this⟩
theorem check10_lt (s : List UInt8) : (check10R s).1.toNat < 128 := by
  unfold check10R
  split
  · exact ck10_lt s
  · decide

def isbn10R (s : List UInt8) : List UInt8 × Int :=
  if (isbnR s).2 ≠ 0 ∨ (isbnR s).1 ≠ s then ([], 1)
  else if pre s [57, 55, 56] = false then ([], 9)
  else ((s.drop 3).take 9 ++ [(check10R ((s.drop 3).take 9)).1], 0)

theorem isbn_norm {s : List UInt8} (h : (isbnR s).2 = 0) : (isbnR s).1.length = 13 := by
  unfold isbnR at h ⊢
  by_cases h10 : (digs s).length = 10
  · rw [if_pos h10] at h ⊢
    by_cases hf : fall (digs s) % 11 ≠ 0
    · rw [if_pos hf] at h; cases h
    · rw [if_neg hf]; simp; omega
  · rw [if_neg h10] at h ⊢
    by_cases h2 : (digs s).length ≠ 13 ∨ bookB (digs s) = false ∨ (digs s).getD 12 0 = 88
    · rw [if_pos h2] at h; cases h
    · rw [if_neg h2] at h ⊢
      by_cases hf : altn (digs s) % 10 ≠ 0
      · rw [if_pos hf] at h; cases h
      · rw [if_neg hf]
        exact Classical.byContradiction fun hh => h2 (.inl hh)

set_option maxRecDepth 100000 in
theorem isbn10_ok (s : List UInt8) (hs : s.length ≤ 1000) (H : List Blk) (T : Toks) : ACall Try.prog 23 [.str s] H T (Is (.tup [.str (isbn10R s).1, .int .i64 (isbn10R s).2]) H T) := by
  have c1 := isbn_ok s hs H T
  have c2 := hasPrefix_ok s [57, 55, 56] hs (by simp) H T
  have hres : isbn10R s = if (isbnR s).2 ≠ 0 ∨ (isbnR s).1 ≠ s then ([], 1) else if pre s [57, 55, 56] = false then ([], 9) else ((s.drop 3).take 9 ++ [(check10R ((s.drop 3).take 9)).1], 0) := rfl
  have hnm := isbn_norm (s := s)
  generalize isbnR s = x at *
  obtain ⟨x, e⟩ := x
  simp only at hres hnm c1
  refine acall_enter 9 [] Try.ntmps23 Try.func23 rfl (fun _ _ => Try.call23 _ _) (by simp) (fun HO => ?_)
  refine aw_reg fun K hK => ?_; simp (maxSteps := 1000000) (disch := omega) [-List.getD_eq_getElem?_getD]; refine hK _ ?_; clear hK K
  refine aw_then fun K1 hK1 => ?_
  refine aw_reg fun K hK => ?_; simp (maxSteps := 1000000) (disch := omega) [-List.getD_eq_getElem?_getD]
  refine acall_is (c1) ?_; simp (maxSteps := 1000000) (disch := omega) [-List.getD_eq_getElem?_getD]
  refine hK _ ?_; clear hK K
  by_cases he : e = 0
  · have be : (e != 0) = false := by rw [he]; rfl
    by_cases hx : x = s
    · rw [if_neg (by rintro (h | h); exact h he; exact h hx)] at hres
      have h13 : s.length = 13 := by rw [← hx]; exact hnm he
      have bx : (x != s) = false := by rw [hx]; simp
      refine aw_reg fun K hK => ?_; simp (maxSteps := 1000000) (disch := omega) [-List.getD_eq_getElem?_getD, be, he, bx, hx]; refine hK _ ?_; clear hK K
      refine aw_if rfl (fun h => absurd h (by simp)) (fun h => ?_)
      refine aw_skip ?_; simp (maxSteps := 1000000) (disch := omega) [-List.getD_eq_getElem?_getD]
      refine hK1 _ ?_; clear hK1
      refine aw_then fun K1 hK1 => ?_
      cases hp : pre s [57, 55, 56] with
      | false =>
        rw [hp] at c2 hres
        rw [if_pos rfl] at hres
        refine aw_reg fun K hK => ?_; simp (maxSteps := 1000000) (disch := omega) [-List.getD_eq_getElem?_getD]
        refine acall_is (c2) ?_; simp (maxSteps := 1000000) (disch := omega) [-List.getD_eq_getElem?_getD]
        refine hK _ ?_; clear hK K
        refine aw_if rfl (fun h => ?_) (fun h => absurd h (by simp))
        refine aw_reg fun K hK => ?_; simp (maxSteps := 1000000) (disch := omega) [-List.getD_eq_getElem?_getD]; refine hK _ ?_; clear hK K
        refine aw_ret ?_; simp (maxSteps := 1000000) (disch := omega) [-List.getD_eq_getElem?_getD]
        rw [hres]
        exact ⟨rfl, rfl, rfl⟩
      | true =>
        rw [hp] at c2 hres
        rw [if_neg (by decide)] at hres
        have c3 := check10_ok ((s.drop 3).take 9) (by simp; omega) H T
        have hc8 := enc1 _ (check10_lt ((s.drop 3).take 9))
        have hsz := enc1_size _ (check10_lt ((s.drop 3).take 9))
        have hw := wrap32 (check10R ((s.drop 3).take 9)).1
        have hl9 : ((s.drop 3).take 9).length = 9 := by simp; omega
        generalize check10R ((s.drop 3).take 9) = c at *
        refine aw_reg fun K hK => ?_; simp (maxSteps := 1000000) (disch := omega) [-List.getD_eq_getElem?_getD]
        refine acall_is (c2) ?_; simp (maxSteps := 1000000) (disch := omega) [-List.getD_eq_getElem?_getD]
        refine hK _ ?_; clear hK K
        refine aw_if rfl (fun h => absurd h (by simp)) (fun h => ?_)
        refine aw_skip ?_; simp (maxSteps := 1000000) (disch := omega) [-List.getD_eq_getElem?_getD]
        refine hK1 _ ?_; clear hK1
        refine aw_reg fun K hK => ?_; simp (maxSteps := 1000000) (disch := omega) [-List.getD_eq_getElem?_getD, h13]; refine hK _ ?_; clear hK K
        generalize (s.drop 3).take 9 = t at *
        refine aw_reg fun K hK => ?_; simp (maxSteps := 1000000) (disch := omega) [-List.getD_eq_getElem?_getD]
        refine acall_is (c3) ?_; simp (maxSteps := 1000000) (disch := omega) [-List.getD_eq_getElem?_getD]
        refine hK _ ?_; clear hK K
        refine aw_reg fun K hK => ?_; simp (maxSteps := 1000000) (disch := omega) [-List.getD_eq_getElem?_getD, hc8, hsz, hw, hl9]; refine hK _ ?_; clear hK K
        refine aw_ret ?_; simp (maxSteps := 1000000) (disch := omega) [-List.getD_eq_getElem?_getD]
        rw [hres]
        exact ⟨rfl, rfl, rfl⟩
    · have bx : (x != s) = true := by simpa using hx
      rw [if_pos (.inr hx)] at hres
      refine aw_reg fun K hK => ?_; simp (maxSteps := 1000000) (disch := omega) [-List.getD_eq_getElem?_getD, be, he, bx, hx]; refine hK _ ?_; clear hK K
      refine aw_if rfl (fun h => ?_) (fun h => absurd h (by simp [hx]))
      refine aw_reg fun K hK => ?_; simp (maxSteps := 1000000) (disch := omega) [-List.getD_eq_getElem?_getD]; refine hK _ ?_; clear hK K
      refine aw_ret ?_; simp (maxSteps := 1000000) (disch := omega) [-List.getD_eq_getElem?_getD]
      rw [hres]
      exact ⟨rfl, rfl, rfl⟩
  · have be : (e != 0) = true := bne_iff_ne.2 he
    rw [if_pos (.inl he)] at hres
    refine aw_reg fun K hK => ?_; simp (maxSteps := 1000000) (disch := omega) [-List.getD_eq_getElem?_getD, be, he]; refine hK _ ?_; clear hK K
    refine aw_if rfl (fun h => ?_) (fun h => absurd h (by simp [he]))
    refine aw_reg fun K hK => ?_; simp (maxSteps := 1000000) (disch := omega) [-List.getD_eq_getElem?_getD]; refine hK _ ?_; clear hK K
    refine aw_ret ?_; simp (maxSteps := 1000000) (disch := omega) [-List.getD_eq_getElem?_getD]
    rw [hres]
    exact ⟨rfl, rfl, rfl⟩

def alikeR (s t : List UInt8) : Bool := decide ((isbnR s).2 = 0) && decide ((isbnR t).2 = 0) && ((isbnR s).1 == (isbnR t).1)
theorem alike_ok (s t : List UInt8) (hs : s.length ≤ 1000) (ht : t.length ≤ 1000) (H : List Blk) (T : Toks) : ACall Try.prog 17 [.str s, .str t] H T (Is (.bool (alikeR s t)) H T) := by
  have c1 := isbn_ok s hs H T
  have c2 := isbn_ok t ht H T
  unfold alikeR
  generalize isbnR s = x at *
  generalize isbnR t = y at *
  obtain ⟨x, e⟩ := x
  obtain ⟨y, f⟩ := y
  simp only at c1 c2 ⊢
  refine acall_enter 9 [] Try.ntmps17 Try.func17 rfl (fun _ _ => Try.call17 _ _) (by simp) (fun HO => ?_)
  refine aw_reg fun K hK => ?_; simp (maxSteps := 1000000) (disch := omega) [-List.getD_eq_getElem?_getD]; refine hK _ ?_; clear hK K
  refine aw_reg fun K hK => ?_; simp (maxSteps := 1000000) (disch := omega) [-List.getD_eq_getElem?_getD]
  refine acall_is (c1) ?_; simp (maxSteps := 1000000) (disch := omega) [-List.getD_eq_getElem?_getD]
  refine hK _ ?_; clear hK K
  refine aw_reg fun K hK => ?_; simp (maxSteps := 1000000) (disch := omega) [-List.getD_eq_getElem?_getD]
  refine acall_is (c2) ?_; simp (maxSteps := 1000000) (disch := omega) [-List.getD_eq_getElem?_getD]
  refine hK _ ?_; clear hK K
  by_cases he : e = 0
  · have be : (e == 0) = true := by simpa using he
    by_cases hf : f = 0
    · have bf : (f == 0) = true := by simpa using hf
      refine aw_reg fun K hK => ?_; simp (maxSteps := 1000000) (disch := omega) [-List.getD_eq_getElem?_getD, be, he, bf, hf]; refine hK _ ?_; clear hK K
      refine aw_ret ?_; simp (maxSteps := 1000000) (disch := omega) [-List.getD_eq_getElem?_getD]
      refine ⟨?_, rfl, rfl⟩
      simp [he, hf]
    · have bf : (f == 0) = false := by simpa using hf
      refine aw_reg fun K hK => ?_; simp (maxSteps := 1000000) (disch := omega) [-List.getD_eq_getElem?_getD, be, he, bf, hf]; refine hK _ ?_; clear hK K
      refine aw_ret ?_; simp (maxSteps := 1000000) (disch := omega) [-List.getD_eq_getElem?_getD]
      refine ⟨?_, rfl, rfl⟩
      simp [hf]
  · have be : (e == 0) = false := by simpa using he
    refine aw_reg fun K hK => ?_; simp (maxSteps := 1000000) (disch := omega) [-List.getD_eq_getElem?_getD, be, he]; refine hK _ ?_; clear hK K
    refine aw_ret ?_; simp (maxSteps := 1000000) (disch := omega) [-List.getD_eq_getElem?_getD]
    refine ⟨?_, rfl, rfl⟩
    simp [he]
end Go.Proofs.Ytlemepdiegacbaa
