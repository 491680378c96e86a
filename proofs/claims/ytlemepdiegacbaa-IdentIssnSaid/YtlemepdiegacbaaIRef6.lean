/- The reference's Issn, Alike, Isbn10.
   Conditions: none. -/
import Derived.Test.YtlemepdiegacbaaIRef5
namespace Go.Proofs.Ytlemepdiegacbaa
open Go Go.Am Ident
set_option linter.unusedVariables false

theorem issn_none {s : List UInt8} (h : (digs s).length ≠ 8) : issnR s = ([], 7) := by
  unfold issnR
  rw [if_pos h]

set_option maxRecDepth 100000 in
set_option maxHeartbeats 4000000 in
theorem rissn_ok (s : List UInt8) (hs : s.length ≤ 100) (H : List Blk) (T : Toks) : ACall Try.prog 12 [.str s] H T (Is (.tup [.str (issnR s).1, .int .i64 (issnR s).2]) H T) := by
  refine ACall.dropT ?_ (by simp)
  rcases rd_cases s with ⟨out, hr, hout⟩ | ⟨hr, hshort⟩
  · have c1 := rd_some s (by omega) out hr H T
    by_cases h8 : out.length = 8
    · have ho : out = digs s := by
        rcases hout with h | h
        · exact h
        · omega
      have hok := digs_okD s
      have hres : issnR s = if fall out % 11 ≠ 0 then ([], 6) else (out.take 4 ++ 45 :: out.drop 4, 0) := by
        unfold issnR
        rw [← ho, if_neg (by omega)]
      rw [← ho] at hok
      have c2 := fun tg H T => descending_ok out 8 hok (by omega) (by omega) tg H T
      have hf : falN 8 out = fall out := by rw [← h8]; rfl
      have hF := fall_pos hok (by omega)
      have hm := tmod_pos (b := 11) hF.1
      have o1 : okD (out.take 4) := fun i hi => by
        rw [List.length_take] at hi
        rw [List.getD_eq_getElem?_getD, List.getElem?_take, if_pos (by omega), ← List.getD_eq_getElem?_getD]
        exact hok i (by omega)
      have o2 : okD (out.drop 4) := fun i hi => by
        rw [List.length_drop] at hi
        rw [List.getD_eq_getElem?_getD, List.getElem?_drop, ← List.getD_eq_getElem?_getD]
        exact hok (4 + i) (by omega)
      have l1 : (out.take 4).length = 4 := by rw [List.length_take]; omega
      have l2 : (out.drop 4).length = 4 := by rw [List.length_drop]; omega
      have c3 := fun tg H T => rtext_ok (out.take 4) o1 (by omega) tg H T
      have c4 := fun tg H T => rtext_ok (out.drop 4) o2 (by omega) tg H T
      have hn2 : List.take 4 (List.drop 4 (nums out)) = nums (out.drop 4) := by rw [nums_drop]; exact List.take_of_length_le (by simp; omega)
      rw [hf, h8] at c2
      rw [l1] at c3
      rw [l2] at c4
      rw [h8] at c1
      by_cases h11 : fall out % 11 = 0
      · rw [if_neg (by omega)] at hres
        have m0 : (fall out).tmod 11 = 0 := by rw [hm]; exact h11
        refine acall_enter 6 [] Try.ntmps12 Try.func12 rfl (fun _ _ => Try.call12 _ _) (by simp) (fun HO => ?_)
        refine aw_reg fun K hK => ?_; simp (maxSteps := 1000000) (disch := omega) [-List.getD_eq_getElem?_getD]; refine hK _ ?_; clear hK K
        refine aw_reg fun K hK => ?_; simp (maxSteps := 1000000) (disch := omega) [-List.getD_eq_getElem?_getD]
        refine acall_is (c1) ?_; simp (maxSteps := 1000000) (disch := omega) [-List.getD_eq_getElem?_getD]
        refine hK _ ?_; clear hK K
        refine aw_then fun K1 hK1 => ?_
        refine aw_reg fun K hK => ?_; simp (maxSteps := 1000000) (disch := omega) [-List.getD_eq_getElem?_getD, h8]; refine hK _ ?_; clear hK K
        refine aw_if rfl (fun h => absurd h (by simp)) (fun h => ?_)
        refine aw_skip ?_; simp (maxSteps := 1000000) (disch := omega) [-List.getD_eq_getElem?_getD]
        refine hK1 _ ?_; clear hK1
        refine aw_then fun K1 hK1 => ?_
        refine aw_reg fun K hK => ?_; simp (maxSteps := 1000000) (disch := omega) [-List.getD_eq_getElem?_getD]
        refine acall_is (c2 _ _ _) ?_; simp (maxSteps := 1000000) (disch := omega) [-List.getD_eq_getElem?_getD, m0]
        refine hK _ ?_; clear hK K
        refine aw_if rfl (fun h => absurd h (by simp)) (fun h => ?_)
        refine aw_skip ?_; simp (maxSteps := 1000000) (disch := omega) [-List.getD_eq_getElem?_getD]
        refine hK1 _ ?_; clear hK1
        refine aw_draw [] [] [] drawMixed (by kernel_rfl) (by kernel_rfl) fun K hK => ?_; simp (maxSteps := 1000000) (disch := omega) [-List.getD_eq_getElem?_getD, h8, nums_take, hn2, l1, l2]
        refine dcall_is (c3 _ _ _) rfl ?_; simp (maxSteps := 1000000) (disch := omega) [-List.getD_eq_getElem?_getD, h8, nums_take, hn2, l1, l2]
        refine dcall_is (c4 _ _ _) rfl ?_; simp (maxSteps := 1000000) (disch := omega) [-List.getD_eq_getElem?_getD, h8, nums_take, hn2, l1, l2]
        refine hK _ ?_; clear hK K
        refine aw_ret ?_; simp (maxSteps := 1000000) (disch := omega) [-List.getD_eq_getElem?_getD, hres]
      · rw [if_pos h11] at hres
        have m0 : ((fall out).tmod 11 == 0) = false := by rw [hm]; exact beq_eq_false_iff_ne.2 h11
        have m1 : ¬ (fall out).tmod 11 = 0 := by rw [hm]; exact h11
        refine acall_enter 6 [] Try.ntmps12 Try.func12 rfl (fun _ _ => Try.call12 _ _) (by simp) (fun HO => ?_)
        refine aw_reg fun K hK => ?_; simp (maxSteps := 1000000) (disch := omega) [-List.getD_eq_getElem?_getD]; refine hK _ ?_; clear hK K
        refine aw_reg fun K hK => ?_; simp (maxSteps := 1000000) (disch := omega) [-List.getD_eq_getElem?_getD]
        refine acall_is (c1) ?_; simp (maxSteps := 1000000) (disch := omega) [-List.getD_eq_getElem?_getD]
        refine hK _ ?_; clear hK K
        refine aw_then fun K1 hK1 => ?_
        refine aw_reg fun K hK => ?_; simp (maxSteps := 1000000) (disch := omega) [-List.getD_eq_getElem?_getD, h8]; refine hK _ ?_; clear hK K
        refine aw_if rfl (fun h => absurd h (by simp)) (fun h => ?_)
        refine aw_skip ?_; simp (maxSteps := 1000000) (disch := omega) [-List.getD_eq_getElem?_getD]
        refine hK1 _ ?_; clear hK1
        refine aw_then fun K1 hK1 => ?_
        refine aw_reg fun K hK => ?_; simp (maxSteps := 1000000) (disch := omega) [-List.getD_eq_getElem?_getD]
        refine acall_is (c2 _ _ _) ?_; simp (maxSteps := 1000000) (disch := omega) [-List.getD_eq_getElem?_getD, m0, m1]
        refine hK _ ?_; clear hK K
        refine aw_if rfl (fun h => ?_) (fun h => absurd h (by simp [m1]))
        refine aw_reg fun K hK => ?_; simp (maxSteps := 1000000) (disch := omega) [-List.getD_eq_getElem?_getD]; refine hK _ ?_; clear hK K
        refine aw_ret ?_; simp (maxSteps := 1000000) (disch := omega) [-List.getD_eq_getElem?_getD, hres]
    · have hres : issnR s = ([], 7) := by
        rcases hout with h | h
        · exact issn_none (by rw [← h]; exact h8)
        · exact issn_none (by omega)
      have b8 : ((out.length : Int) == 8) = false := beq_eq_false_iff_ne.2 (by omega)
      have b8' : ¬ (out.length : Int) = 8 := by omega
      by_cases h0 : 0 < out.length
      · rw [decide_eq_true h0] at c1
        refine acall_enter 6 [] Try.ntmps12 Try.func12 rfl (fun _ _ => Try.call12 _ _) (by simp) (fun HO => ?_)
        refine aw_reg fun K hK => ?_; simp (maxSteps := 1000000) (disch := omega) [-List.getD_eq_getElem?_getD]; refine hK _ ?_; clear hK K
        refine aw_reg fun K hK => ?_; simp (maxSteps := 1000000) (disch := omega) [-List.getD_eq_getElem?_getD]
        refine acall_is (c1) ?_; simp (maxSteps := 1000000) (disch := omega) [-List.getD_eq_getElem?_getD]
        refine hK _ ?_; clear hK K
        refine aw_then fun K1 hK1 => ?_
        refine aw_reg fun K hK => ?_; simp (maxSteps := 1000000) (disch := omega) [-List.getD_eq_getElem?_getD, h8, b8, b8']; refine hK _ ?_; clear hK K
        refine aw_if rfl (fun h => ?_) (fun h => absurd h (by simp; omega))
        refine aw_reg fun K hK => ?_; simp (maxSteps := 1000000) (disch := omega) [-List.getD_eq_getElem?_getD]; refine hK _ ?_; clear hK K
        refine aw_ret ?_; simp (maxSteps := 1000000) (disch := omega) [-List.getD_eq_getElem?_getD, hres]
      · rw [decide_eq_false h0] at c1
        refine acall_enter 6 [] Try.ntmps12 Try.func12 rfl (fun _ _ => Try.call12 _ _) (by simp) (fun HO => ?_)
        refine aw_reg fun K hK => ?_; simp (maxSteps := 1000000) (disch := omega) [-List.getD_eq_getElem?_getD]; refine hK _ ?_; clear hK K
        refine aw_reg fun K hK => ?_; simp (maxSteps := 1000000) (disch := omega) [-List.getD_eq_getElem?_getD]
        refine acall_is (c1) ?_; simp (maxSteps := 1000000) (disch := omega) [-List.getD_eq_getElem?_getD]
        refine hK _ ?_; clear hK K
        refine aw_then fun K1 hK1 => ?_
        refine aw_reg fun K hK => ?_; simp (maxSteps := 1000000) (disch := omega) [-List.getD_eq_getElem?_getD]; refine hK _ ?_; clear hK K
        refine aw_if rfl (fun h => ?_) (fun h => absurd h (by simp))
        refine aw_reg fun K hK => ?_; simp (maxSteps := 1000000) (disch := omega) [-List.getD_eq_getElem?_getD]; refine hK _ ?_; clear hK K
        refine aw_ret ?_; simp (maxSteps := 1000000) (disch := omega) [-List.getD_eq_getElem?_getD, hres]
  · have c1 := rd_no s (by omega) hr H T
    have hres := issn_none (s := s) (by omega)
    refine acall_enter 6 [] Try.ntmps12 Try.func12 rfl (fun _ _ => Try.call12 _ _) (by simp) (fun HO => ?_)
    refine aw_reg fun K hK => ?_; simp (maxSteps := 1000000) (disch := omega) [-List.getD_eq_getElem?_getD]; refine hK _ ?_; clear hK K
    refine aw_reg fun K hK => ?_; simp (maxSteps := 1000000) (disch := omega) [-List.getD_eq_getElem?_getD]
    refine acall_is (c1) ?_; simp (maxSteps := 1000000) (disch := omega) [-List.getD_eq_getElem?_getD]
    refine hK _ ?_; clear hK K
    refine aw_then fun K1 hK1 => ?_
    refine aw_reg fun K hK => ?_; simp (maxSteps := 1000000) (disch := omega) [-List.getD_eq_getElem?_getD]; refine hK _ ?_; clear hK K
    refine aw_if rfl (fun h => ?_) (fun h => absurd h (by simp))
    refine aw_reg fun K hK => ?_; simp (maxSteps := 1000000) (disch := omega) [-List.getD_eq_getElem?_getD]; refine hK _ ?_; clear hK K
    refine aw_ret ?_; simp (maxSteps := 1000000) (disch := omega) [-List.getD_eq_getElem?_getD, hres]

theorem ralike_ok (s t : List UInt8) (hs : s.length ≤ 100) (ht : t.length ≤ 100) (H : List Blk) (T : Toks) : ACall Try.prog 18 [.str s, .str t] H T (Is (.bool (alikeR s t)) H T) := by
  have c1 := risbn_ok s hs H T
  have c2 := risbn_ok t ht H T
  unfold alikeR
  generalize isbnR s = x at *
  generalize isbnR t = y at *
  obtain ⟨x, e⟩ := x
  obtain ⟨y, f⟩ := y
  simp only at c1 c2 ⊢
  refine acall_enter 9 [] Try.ntmps18 Try.func18 rfl (fun _ _ => Try.call18 _ _) (by simp) (fun HO => ?_)
  refine aw_reg fun K hK => ?_; simp (maxSteps := 1000000) (disch := omega) [-List.getD_eq_getElem?_getD]; refine hK _ ?_; clear hK K
  refine aw_reg fun K hK => ?_; simp (maxSteps := 1000000) (disch := omega) [-List.getD_eq_getElem?_getD]
  refine acall_is (c1) ?_; simp (maxSteps := 1000000) (disch := omega) [-List.getD_eq_getElem?_getD]
  refine hK _ ?_; clear hK K
  refine aw_reg fun K hK => ?_; simp (maxSteps := 1000000) (disch := omega) [-List.getD_eq_getElem?_getD]
  refine acall_is (c2) ?_; simp (maxSteps := 1000000) (disch := omega) [-List.getD_eq_getElem?_getD]
  refine hK _ ?_; clear hK K
  by_cases he : e = 0
  · have be : (e == 0) = true := by simpa using he
    by_cases hf : f = 0
    · have bf : (f == 0) = true := by simpa using hf
      refine aw_reg fun K hK => ?_; simp (maxSteps := 1000000) (disch := omega) [-List.getD_eq_getElem?_getD, be, he, bf, hf]; refine hK _ ?_; clear hK K
      refine aw_ret ?_; simp (maxSteps := 1000000) (disch := omega) [-List.getD_eq_getElem?_getD]
      refine ⟨?_, rfl, rfl⟩
      simp [he, hf]
    · have bf : (f == 0) = false := by simpa using hf
      refine aw_reg fun K hK => ?_; simp (maxSteps := 1000000) (disch := omega) [-List.getD_eq_getElem?_getD, be, he, bf, hf]; refine hK _ ?_; clear hK K
      refine aw_ret ?_; simp (maxSteps := 1000000) (disch := omega) [-List.getD_eq_getElem?_getD]
      refine ⟨?_, rfl, rfl⟩
      simp [hf]
  · have be : (e == 0) = false := by simpa using he
    refine aw_reg fun K hK => ?_; simp (maxSteps := 1000000) (disch := omega) [-List.getD_eq_getElem?_getD, be, he]; refine hK _ ?_; clear hK K
    refine aw_ret ?_; simp (maxSteps := 1000000) (disch := omega) [-List.getD_eq_getElem?_getD]
    refine ⟨?_, rfl, rfl⟩
    simp [he]

theorem isbn_dig {s : List UInt8} (h : (isbnR s).2 = 0) : allDig (isbnR s).1 := by
  unfold isbnR at h ⊢
  by_cases h10 : (digs s).length = 10
  · rw [if_pos h10] at h ⊢
    by_cases hf : fall (digs s) % 11 ≠ 0
    · rw [if_pos hf] at h; cases h
    · rw [if_neg hf, long_eq]
      exact long_dig (digs_take s (by omega))
  · rw [if_neg h10] at h ⊢
    by_cases h2 : (digs s).length ≠ 13 ∨ bookB (digs s) = false ∨ (digs s).getD 12 0 = 88
    · rw [if_pos h2] at h; cases h
    · rw [if_neg h2] at h ⊢
      by_cases hf : altn (digs s) % 10 ≠ 0
      · rw [if_pos hf] at h; cases h
      · rw [if_neg hf]
        have h13 : (digs s).length = 13 := Classical.byContradiction fun hh => h2 (.inl hh)
        have h88 : ¬ (digs s).getD 12 0 = 88 := fun hh => h2 (.inr (.inr hh))
        show allDig (digs s)
        intro i hi
        rcases digs_prop s i hi with g | g
        · exact g
        · have : i = 12 := by omega
          rw [this] at g
          exact absurd g.1 h88
theorem allDig_drop {s : List UInt8} (h : allDig s) (k : Nat) : allDig (s.drop k) := by
  intro i hi
  rw [List.length_drop] at hi
  rw [List.getD_eq_getElem?_getD, List.getElem?_drop, ← List.getD_eq_getElem?_getD]
  exact h (k + i) (by omega)

set_option maxRecDepth 100000 in
set_option maxHeartbeats 4000000 in
theorem risbn10_ok (s : List UInt8) (hs : s.length ≤ 100) (H : List Blk) (T : Toks) : ACall Try.prog 24 [.str s] H T (Is (.tup [.str (isbn10R s).1, .int .i64 (isbn10R s).2]) H T) := by
  refine ACall.dropT ?_ (by simp)
  have c1 := risbn_ok s hs H T
  have hnm := isbn_norm (s := s)
  have hdg := isbn_dig (s := s)
  have hres : isbn10R s = if (isbnR s).2 ≠ 0 ∨ (isbnR s).1 ≠ s then ([], 1) else if pre s [57, 55, 56] = false then ([], 9) else ((s.drop 3).take 9 ++ [(check10R ((s.drop 3).take 9)).1], 0) := rfl
  generalize isbnR s = x at *
  obtain ⟨x, e⟩ := x
  simp only at c1 hnm hdg hres
  by_cases he : e = 0
  · subst he
    have hl := hnm rfl
    have hd := hdg rfl
    by_cases hx : x = s
    · subst hx
      rw [if_neg (by simp)] at hres
      have hl3 : 3 ≤ x.length := by omega
      have hpre : pre x [57, 55, 56] = (x.take 3 == [57, 55, 56]) := by
        unfold pre
        rw [show ([57, 55, 56] : List UInt8).length = 3 from rfl, decide_eq_true hl3]
        simp
      by_cases h978 : x.take 3 = [57, 55, 56]
      · rw [if_neg (by rw [hpre, h978]; simp)] at hres
        have hwl : ((x.drop 3).take 9).length = 9 := by simp; omega
        have hwd : allDig ((x.drop 3).take 9) := allDig_take fun i _ hi => allDig_drop hd 3 i hi
        have hck : check10R ((x.drop 3).take 9) = (ck10 ((x.drop 3).take 9), true) := by unfold check10R; rw [if_pos (plainB_iff.2 ⟨hwl, hwd⟩)]
        rw [hck] at hres
        generalize hw : (x.drop 3).take 9 = w at *
        have c2 := fun H T => rd_dig (allDig_plain hwd (by omega)) (by omega) H T
        have c3 := fun tg H T => descending_ok w 10 (allDig_ok hwd) (by omega) (by omega) tg H T
        rw [hwl] at c2
        rw [hwl, falN_ck w hwl] at c3
        have hF := fall_pos (okD_zero hwd) (by simp; omega : (w ++ [48]).length ≤ 100)
        have hkv := ck10_val (s := w)
        have hpx := snoc_plain (by omega) hwd hkv.1
        have c4 := fun tg H T => rtext_ok (w ++ [ck10 w]) (fun i hi => (hpx.2 i hi).elim .inl (fun g => .inr g.1)) (by simp; omega) tg H T
        have hl10 : (w ++ [ck10 w]).length = 10 := by simp [hwl]
        rw [hl10] at c4
        have q1 : (fall (w ++ [48])).tmod 11 = fall (w ++ [48]) % 11 := tmod_pos hF.1
        have q2 : (11 - fall (w ++ [48]) % 11).tmod 11 = ((valN (ck10 w) : Nat) : Int) := by rw [tmod_pos (by omega), hkv.2]
        have hsn : nums w ++ [.int .i64 ((valN (ck10 w) : Nat) : Int)] = nums (w ++ [ck10 w]) := nums_snoc _ _
        generalize valN (ck10 w) = v at *
        refine acall_enter 8 [] Try.ntmps24 Try.func24 rfl (fun _ _ => Try.call24 _ _) (by simp) (fun HO => ?_)
        refine aw_reg fun K hK => ?_; simp (maxSteps := 1000000) (disch := omega) [-List.getD_eq_getElem?_getD]; refine hK _ ?_; clear hK K
        refine aw_reg fun K hK => ?_; simp (maxSteps := 1000000) (disch := omega) [-List.getD_eq_getElem?_getD]
        refine acall_is (c1) ?_; simp (maxSteps := 1000000) (disch := omega) [-List.getD_eq_getElem?_getD]
        refine hK _ ?_; clear hK K
        refine aw_then fun K1 hK1 => ?_
        refine aw_reg fun K hK => ?_; simp (maxSteps := 1000000) (disch := omega) [-List.getD_eq_getElem?_getD]; refine hK _ ?_; clear hK K
        refine aw_if rfl (fun h => absurd h (by simp)) (fun h => ?_)
        refine aw_skip ?_; simp (maxSteps := 1000000) (disch := omega) [-List.getD_eq_getElem?_getD]
        refine hK1 _ ?_; clear hK1
        refine aw_then fun K1 hK1 => ?_
        refine aw_reg fun K hK => ?_; simp (maxSteps := 1000000) (disch := omega) [-List.getD_eq_getElem?_getD, hl, h978]; refine hK _ ?_; clear hK K
        refine aw_if rfl (fun h => absurd h (by simp)) (fun h => ?_)
        refine aw_skip ?_; simp (maxSteps := 1000000) (disch := omega) [-List.getD_eq_getElem?_getD]
        refine hK1 _ ?_; clear hK1
        refine aw_reg fun K hK => ?_; simp (maxSteps := 1000000) (disch := omega) [-List.getD_eq_getElem?_getD, hl, hw]
        refine acall_is (c2 _ _) ?_; simp (maxSteps := 1000000) (disch := omega) [-List.getD_eq_getElem?_getD]
        refine hK _ ?_; clear hK K
        refine aw_reg fun K hK => ?_; simp (maxSteps := 1000000) (disch := omega) [-List.getD_eq_getElem?_getD]
        refine acall_is (c3 _ _ _) ?_; simp (maxSteps := 1000000) (disch := omega) [-List.getD_eq_getElem?_getD, q1, q2, hsn]
        refine acall_is (c4 _ _ _) ?_; simp (maxSteps := 1000000) (disch := omega) [-List.getD_eq_getElem?_getD]
        refine hK _ ?_; clear hK K
        refine aw_ret ?_; simp (maxSteps := 1000000) (disch := omega) [-List.getD_eq_getElem?_getD, hres]
      · rw [if_pos (by rw [hpre]; simpa using h978)] at hres
        have b978 : (x.take 3 == [57, 55, 56]) = false := by simpa using h978
        refine acall_enter 8 [] Try.ntmps24 Try.func24 rfl (fun _ _ => Try.call24 _ _) (by simp) (fun HO => ?_)
        refine aw_reg fun K hK => ?_; simp (maxSteps := 1000000) (disch := omega) [-List.getD_eq_getElem?_getD]; refine hK _ ?_; clear hK K
        refine aw_reg fun K hK => ?_; simp (maxSteps := 1000000) (disch := omega) [-List.getD_eq_getElem?_getD]
        refine acall_is (c1) ?_; simp (maxSteps := 1000000) (disch := omega) [-List.getD_eq_getElem?_getD]
        refine hK _ ?_; clear hK K
        refine aw_then fun K1 hK1 => ?_
        refine aw_reg fun K hK => ?_; simp (maxSteps := 1000000) (disch := omega) [-List.getD_eq_getElem?_getD]; refine hK _ ?_; clear hK K
        refine aw_if rfl (fun h => absurd h (by simp)) (fun h => ?_)
        refine aw_skip ?_; simp (maxSteps := 1000000) (disch := omega) [-List.getD_eq_getElem?_getD]
        refine hK1 _ ?_; clear hK1
        refine aw_then fun K1 hK1 => ?_
        refine aw_reg fun K hK => ?_; simp (maxSteps := 1000000) (disch := omega) [-List.getD_eq_getElem?_getD, hl, h978, b978]; refine hK _ ?_; clear hK K
        refine aw_if rfl (fun h => ?_) (fun h => absurd h (by simp [h978]))
        refine aw_reg fun K hK => ?_; simp (maxSteps := 1000000) (disch := omega) [-List.getD_eq_getElem?_getD]; refine hK _ ?_; clear hK K
        refine aw_ret ?_; simp (maxSteps := 1000000) (disch := omega) [-List.getD_eq_getElem?_getD, hres]
    · rw [if_pos (.inr hx)] at hres
      have bx : (x == s) = false := by simpa using hx
      refine acall_enter 8 [] Try.ntmps24 Try.func24 rfl (fun _ _ => Try.call24 _ _) (by simp) (fun HO => ?_)
      refine aw_reg fun K hK => ?_; simp (maxSteps := 1000000) (disch := omega) [-List.getD_eq_getElem?_getD]; refine hK _ ?_; clear hK K
      refine aw_reg fun K hK => ?_; simp (maxSteps := 1000000) (disch := omega) [-List.getD_eq_getElem?_getD]
      refine acall_is (c1) ?_; simp (maxSteps := 1000000) (disch := omega) [-List.getD_eq_getElem?_getD]
      refine hK _ ?_; clear hK K
      refine aw_then fun K1 hK1 => ?_
      refine aw_reg fun K hK => ?_; simp (maxSteps := 1000000) (disch := omega) [-List.getD_eq_getElem?_getD, hx, bx]; refine hK _ ?_; clear hK K
      refine aw_if rfl (fun h => ?_) (fun h => absurd h (by simp [hx]))
      refine aw_reg fun K hK => ?_; simp (maxSteps := 1000000) (disch := omega) [-List.getD_eq_getElem?_getD]; refine hK _ ?_; clear hK K
      refine aw_ret ?_; simp (maxSteps := 1000000) (disch := omega) [-List.getD_eq_getElem?_getD, hres]
  · rw [if_pos (.inl he)] at hres
    have be : (e == 0) = false := beq_eq_false_iff_ne.2 he
    refine acall_enter 8 [] Try.ntmps24 Try.func24 rfl (fun _ _ => Try.call24 _ _) (by simp) (fun HO => ?_)
    refine aw_reg fun K hK => ?_; simp (maxSteps := 1000000) (disch := omega) [-List.getD_eq_getElem?_getD]; refine hK _ ?_; clear hK K
    refine aw_reg fun K hK => ?_; simp (maxSteps := 1000000) (disch := omega) [-List.getD_eq_getElem?_getD]
    refine acall_is (c1) ?_; simp (maxSteps := 1000000) (disch := omega) [-List.getD_eq_getElem?_getD]
    refine hK _ ?_; clear hK K
    refine aw_then fun K1 hK1 => ?_
    refine aw_reg fun K hK => ?_; simp (maxSteps := 1000000) (disch := omega) [-List.getD_eq_getElem?_getD, he, be]; refine hK _ ?_; clear hK K
    refine aw_if rfl (fun h => ?_) (fun h => absurd h (by simp [he]))
    refine aw_reg fun K hK => ?_; simp (maxSteps := 1000000) (disch := omega) [-List.getD_eq_getElem?_getD]; refine hK _ ?_; clear hK K
    refine aw_ret ?_; simp (maxSteps := 1000000) (disch := omega) [-List.getD_eq_getElem?_getD, hres]
end Go.Proofs.Ytlemepdiegacbaa
