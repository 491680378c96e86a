/- The reference's Find and Words (layer 39). The reference's Between (layer 39).
  Conditions: lengths below 400 or 1000, as each theorem says. -/
import Derived.Test.YtneohapkboaplaaGreatGRA
import Derived.Test.YtneohapkboaplaaGreatGFA
import Derived.Test.YtneohapkboaplaaGreatGFB
set_option linter.unusedVariables false
set_option maxRecDepth 100000
namespace Go.Proofs.YtneohapkboaplaaGreat
open Go Go.Am Sug Seg Post
set_option maxHeartbeats 8000000 in
theorem findSR_ok (s : Sg) (hs : SzS s) (f : Int) (w : Bs) (H : List Blk) (T : Toks) : ACall Tryz.prog 21 [sgAV s, .int .i64 f, .str w] H T (Is (.sl (findS s (f, w)).length (psAV (findS s (f, w))) .none) H T) := by
 refine ACall.drop' ?_ (by simp)
 have cv := fun H => validSR_ok s hs H T
 have htl := hs.t
 refine acall_enter 12 [] Tryz.ntmps21 Tryz.func21 rfl (fun _ _ => Tryz.call21 _ _) (by simp) (fun HO => ?_)
 refine aw_reg fun K hK => ?_; simp (disch := omega) [-List.getD_eq_getElem?_getD]; refine hK _ ?_; clear hK K
 refine aw_then fun K1 hK1 => ?_
 have HO1 : HOk (H ++ [.cells (sgC s)]) T := HO.snoc (by simp)
 cases hv : validS s with
 | false =>
  rw [hv] at cv
  have hf : findS s (f, w) = [] := by unfold findS; rw [hv]; rfl
  refine aw_reg fun K hK => ?_; simp (disch := omega) [-List.getD_eq_getElem?_getD]
  refine acall_is (cv _) ?_; simp (disch := omega) [-List.getD_eq_getElem?_getD]
  refine hK _ ?_; clear hK K
  refine aw_ift rfl ?_
  refine aw_reg fun K hK => ?_; simp (disch := omega) [-List.getD_eq_getElem?_getD]; refine hK _ ?_; clear hK K
  refine aw_ret ?_; simp (disch := omega) [-List.getD_eq_getElem?_getD]
  simp [hf]
  rfl
 | true =>
 rw [hv] at cv
 have hf : findS s (f, w) = postS s.tms (f, w) := by unfold findS; rw [if_pos hv]
 have ho := validS_ord hv
 refine aw_reg fun K hK => ?_; simp (disch := omega) [-List.getD_eq_getElem?_getD]
 refine acall_is (cv _) ?_; simp (disch := omega) [-List.getD_eq_getElem?_getD]
 refine hK _ ?_; clear hK K
 refine aw_iff rfl ?_
 refine aw_skip ?_; simp (disch := omega) [-List.getD_eq_getElem?_getD]
 refine hK1 _ ?_; clear hK1
 refine aw_then fun K1 hK1 => ?_
 refine aw_reg fun K hK => ?_; simp (disch := omega) [-List.getD_eq_getElem?_getD]; refine hK _ ?_; clear hK K
 refine aw_block ?_
 refine aw_loop (X := Nat) (fun i => ⟨[(1, .int .i64 f), (2, .str w), (3, .ptr H.length 0), (7, .int .i64 (i : Nat))], H ++ [.cells (sgC s)], T⟩)
  (fun i => i ≤ s.tms.length ∧ ∀ j, j < i → (s.tms.getD j t0).k ≠ (f, w)) (fun i => s.tms.length - i) 0 ?_ ?_ ?_
 ·exact ⟨Nat.zero_le _, fun j hj => absurd hj (Nat.not_lt_zero _)⟩
 ·refine weak_to [] [] ?_ ?_ ?_ ?_ HO1 ?_
  all_goals simp
 ·rintro i ⟨g1, g2⟩
  refine aw_then fun K2 hK2 => ?_
  refine aw_reg fun K hK => ?_; simp (disch := omega) [-List.getD_eq_getElem?_getD]; refine hK _ ?_; clear hK K
  refine aw_if rfl (fun hk => ?_) (fun hk => ?_)
  ·simp [-List.getD_eq_getElem?_getD] at hk
   obtain ⟨a1, a2, a3⟩ := tmAV_at s.tms i hk
   have hpos := fun h => postS_at (k := (f, w)) ho hk h
   have hadd : (s.tms.getD i t0).k ≠ (f, w) → ∀ j, j < i + 1 → (s.tms.getD j t0).k ≠ (f, w) := fun h j hj => by
    rcases Nat.lt_or_ge j i with h1 | h1
    ·exact g2 j h1
    ·have : j = i := by omega
     subst this; exact h
   generalize s.tms.getD i t0 = t at *
   obtain ⟨tf, tw, tl⟩ := t
   simp only at a1 a2 a3
   refine aw_skip ?_; simp (disch := omega) [-List.getD_eq_getElem?_getD]
   refine hK2 _ ?_; clear hK2
   refine aw_then fun K3 hK3 => ?_
   refine aw_block ?_
   have cont : (tf, tw) ≠ (f, w) → ∀ e, envLe (H.length + 1) T.length e [(1, .int .i64 f), (2, .str w), (3, .ptr H.length 0), (7, .int .i64 (i : Nat))] → K3 ⟨e, H ++ [.cells (sgC s)], T⟩ := by
    intro hne e he
    refine hK3 _ (aw_weak ⟨[(1, .int .i64 f), (2, .str w), (3, .ptr H.length 0), (7, .int .i64 (i : Nat))], H ++ [.cells (sgC s)], T⟩ (weak_to [] [] (by simp) (by simp) (by simp) (by simp) HO1 (by simpa using he)) ?_)
    refine aw_reg0 fun K hK => ?_; simp (disch := omega) [-List.getD_eq_getElem?_getD]
    refine hK _ ?_; clear hK K
    refine ⟨i + 1, ⟨by show i + 1 ≤ _; omega, hadd hne⟩, by show s.tms.length - (i + 1) < s.tms.length - i; omega, ?_⟩
    refine weak_to [] [] ?_ ?_ ?_ ?_ HO1 ?_
    all_goals simp
   by_cases h1 : tf = f
   ·have b1 : (tf == f) = true := by simpa using h1
    by_cases h2 : tw = w
    ·have b2 : (tw == w) = true := by simpa using h2
     have hp := hpos (by show (tf, tw) = (f, w); rw [h1, h2])
     refine aw_reg fun K hK => ?_; simp (disch := omega) [-List.getD_eq_getElem?_getD, a1, a2, a3, tmAV_len, hk, b1, h1, b2, h2]; refine hK _ ?_; clear hK K
     refine aw_ift rfl ?_
     refine aw_reg fun K hK => ?_; simp (disch := omega) [-List.getD_eq_getElem?_getD, a1, a2, a3, tmAV_len, hk]; refine hK _ ?_; clear hK K
     refine aw_ret ?_; simp (disch := omega) [-List.getD_eq_getElem?_getD]
     rw [hf, hp]
     exact ⟨rfl, rfl⟩
    ·have b2 : (tw == w) = false := by simpa using h2
     refine aw_reg fun K hK => ?_; simp (disch := omega) [-List.getD_eq_getElem?_getD, a1, a2, a3, tmAV_len, hk, b1, h1, b2, h2]; refine hK _ ?_; clear hK K
     refine aw_iff rfl ?_
     refine aw_skip ?_
     refine cont (fun e => h2 (Prod.mk.inj e).2) _ ?_
     simp
   ·have b1 : (tf == f) = false := by simpa using h1
    refine aw_reg fun K hK => ?_; simp (disch := omega) [-List.getD_eq_getElem?_getD, a1, a2, a3, tmAV_len, hk, b1, h1]; refine hK _ ?_; clear hK K
    refine aw_iff rfl ?_
    refine aw_skip ?_
    refine cont (fun e => h1 (Prod.mk.inj e).1) _ ?_
    simp
  ·simp [-List.getD_eq_getElem?_getD] at hk
   have hn := postS_none (l := s.tms) (k := (f, w)) fun j hj => g2 j (by omega)
   refine aw_exit ?_; simp (disch := omega) [-List.getD_eq_getElem?_getD]
   refine hK1 _ ?_; clear hK1
   refine aw_reg fun K hK => ?_; simp (disch := omega) [-List.getD_eq_getElem?_getD]; refine hK _ ?_; clear hK K
   refine aw_ret ?_; simp (disch := omega) [-List.getD_eq_getElem?_getD]
   rw [hf, hn]
   exact ⟨rfl, rfl⟩
theorem wordsL_take (l : List Tm) (f : Int) (p : Bs) (i : Nat) (hi : i < l.length) : wordsL (l.take (i + 1)) f p = wordsL (l.take i) f p ++ (if matchT f p (l.getD i t0) = true then [(l.getD i t0).w] else []) := by
 unfold wordsL
 rw [take_getD l i t0 hi, List.filter_append, List.map_append]
 congr 1
 rw [List.filter_cons]
 by_cases h : matchT f p (l.getD i t0) = true
 ·rw [if_pos h, if_pos h]; rfl
 ·rw [if_neg h, if_neg h]; rfl
set_option maxHeartbeats 8000000 in
theorem wordsSR_ok (s : Sg) (hs : SzS s) (f : Int) (p : Bs) (hp : p.length ≤ maxLen) (H : List Blk) (T : Toks) : ACall Tryz.prog 24 [sgAV s, .int .i64 f, .str p] H T (Is (.sl (wordsS s f p).length (strs (wordsS s f p)) .none) H T) := by
 refine ACall.drop' ?_ (by simp)
 have cv := fun H => validSR_ok s hs H T
 have htl := hs.t
 have hw := hs.w
 refine acall_enter 12 [] Tryz.ntmps24 Tryz.func24 rfl (fun _ _ => Tryz.call24 _ _) (by simp) (fun HO => ?_)
 refine aw_reg fun K hK => ?_; simp (disch := omega) [-List.getD_eq_getElem?_getD]; refine hK _ ?_; clear hK K
 refine aw_reg fun K hK => ?_; simp (disch := omega) [-List.getD_eq_getElem?_getD]; refine hK _ ?_; clear hK K
 refine aw_then fun K1 hK1 => ?_
 have HO1 : HOk (H ++ [.cells (sgC s)]) T := HO.snoc (by simp)
 cases hv : validS s with
 | false =>
  rw [hv] at cv
  have hf : wordsS s f p = [] := by unfold wordsS; rw [hv]; rfl
  refine aw_reg fun K hK => ?_; simp (disch := omega) [-List.getD_eq_getElem?_getD]
  refine acall_is (cv _) ?_; simp (disch := omega) [-List.getD_eq_getElem?_getD]
  refine hK _ ?_; clear hK K
  refine aw_ift rfl ?_
  refine aw_reg fun K hK => ?_; simp (disch := omega) [-List.getD_eq_getElem?_getD]; refine hK _ ?_; clear hK K
  refine aw_ret ?_; simp (disch := omega) [-List.getD_eq_getElem?_getD]
  simp [hf]
 | true =>
 rw [hv] at cv
 have hf : wordsS s f p = wordsL s.tms f p := by unfold wordsS; rw [if_pos hv]
 refine aw_reg fun K hK => ?_; simp (disch := omega) [-List.getD_eq_getElem?_getD]
 refine acall_is (cv _) ?_; simp (disch := omega) [-List.getD_eq_getElem?_getD]
 refine hK _ ?_; clear hK K
 refine aw_iff rfl ?_
 refine aw_skip ?_; simp (disch := omega) [-List.getD_eq_getElem?_getD]
 refine hK1 _ ?_; clear hK1
 refine aw_then fun K1 hK1 => ?_
 refine aw_reg fun K hK => ?_; simp (disch := omega) [-List.getD_eq_getElem?_getD]; refine hK _ ?_; clear hK K
 refine aw_block ?_
 refine aw_own 7 0 1 [] (by omega) (by simp) ?_
 refine aw_loop (X := Nat) (fun i => ⟨[(1, .int .i64 f), (2, .str p), (3, .ptr H.length 0), (7, .sl (wordsL (s.tms.take i) f p).length (strs (wordsL (s.tms.take i) f p)) (.own T.length)), (8, .int .i64 (i : Nat))], H ++ [.cells (sgC s)], T ++ [((wordsL (s.tms.take i) f p).length, 1)]⟩)
  (fun i => i ≤ s.tms.length) (fun i => s.tms.length - i) 0 ?_ ?_ ?_
 ·exact Nat.zero_le _
 ·refine weak_to [] [] ?_ ?_ ?_ ?_ (HO1.toks (by simp)) ?_
  all_goals simp [wordsL]
 ·intro i g1
  refine aw_then fun K2 hK2 => ?_
  refine aw_reg fun K hK => ?_; simp (disch := omega) [-List.getD_eq_getElem?_getD]; refine hK _ ?_; clear hK K
  refine aw_if rfl (fun hk => ?_) (fun hk => ?_)
  ·simp [-List.getD_eq_getElem?_getD] at hk
   obtain ⟨a1, a2, _⟩ := tmAV_at s.tms i hk
   have hwl := (hw _ (getD_mem s.tms i t0 hk)).1
   have htk := wordsL_take s.tms f p i hk
   have hm : matchT f p (s.tms.getD i t0) = (decide ((s.tms.getD i t0).f = f) && hasP p (s.tms.getD i t0).w) := rfl
   have hll : (wordsL (s.tms.take i) f p).length ≤ 1000 := by
    unfold wordsL
    rw [List.length_map]
    exact Nat.le_trans (List.length_filter_le _ _) (by rw [List.length_take]; omega)
   generalize wordsL (s.tms.take i) f p = out at *
   generalize matchT f p (s.tms.getD i t0) = mm at *
   generalize s.tms.getD i t0 = t at *
   obtain ⟨tf, tw, tl⟩ := t
   simp only at a1 a2 hwl htk hm
   have c := begins_ok tw p hwl hp (H ++ [.cells (sgC s)]) (T ++ [(out.length, 1)])
   refine aw_skip ?_; simp (disch := omega) [-List.getD_eq_getElem?_getD]
   refine hK2 _ ?_; clear hK2
   refine aw_then fun K3 hK3 => ?_
   refine aw_block ?_
   have cont : mm = false → ∀ e, envLe (H.length + 1) (T.length + 1) e [(1, .int .i64 f), (2, .str p), (3, .ptr H.length 0), (7, .sl out.length (strs out) (.own T.length)), (8, .int .i64 (i : Nat))] → K3 ⟨e, H ++ [.cells (sgC s)], T ++ [(out.length, 1)]⟩ := by
    intro hne e he
    rw [hne] at htk
    simp only [Bool.false_eq_true, if_false, List.append_nil] at htk
    refine hK3 _ (aw_weak ⟨[(1, .int .i64 f), (2, .str p), (3, .ptr H.length 0), (7, .sl out.length (strs out) (.own T.length)), (8, .int .i64 (i : Nat))], H ++ [.cells (sgC s)], T ++ [(out.length, 1)]⟩ (weak_to [] [] (by simp) (by simp) (by simp) (by simp) (HO1.toks (by simp)) (by simpa using he)) ?_)
    refine aw_reg0 fun K hK => ?_; simp (disch := omega) [-List.getD_eq_getElem?_getD]
    refine hK _ ?_; clear hK K
    refine ⟨i + 1, by show i + 1 ≤ _; omega, by show s.tms.length - (i + 1) < s.tms.length - i; omega, ?_⟩
    refine weak_to [] [] ?_ ?_ ?_ ?_ (HO1.toks (by simp)) ?_
    all_goals simp [htk]
   by_cases h1 : tf = f
   ·have b1 : (tf == f) = true := by simpa using h1
    rw [decide_eq_true h1, Bool.true_and] at hm
    cases hpp : hasP p tw with
    | true =>
     rw [hpp] at c hm
     subst hm
     simp only [if_true] at htk
     refine aw_reg fun K hK => ?_; simp (disch := omega) [-List.getD_eq_getElem?_getD, a1, a2, tmAV_len, hk, b1, h1]
     refine acall_is (c) ?_; simp (disch := omega) [-List.getD_eq_getElem?_getD]
     refine hK _ ?_; clear hK K
     refine aw_ift rfl ?_
     refine aw_reg0 fun K hK => ?_; simp (disch := omega) [-List.getD_eq_getElem?_getD, a1, a2, tmAV_len, hk, strs_snoc]
     refine hK _ ?_; clear hK K
     refine hK3 _ ?_; clear hK3
     refine aw_reg0 fun K hK => ?_; simp (disch := omega) [-List.getD_eq_getElem?_getD]
     refine hK _ ?_; clear hK K
     refine ⟨i + 1, by show i + 1 ≤ _; omega, by show s.tms.length - (i + 1) < s.tms.length - i; omega, ?_⟩
     refine weak_to [] [] ?_ ?_ ?_ ?_ (HO1.toks (by simp)) ?_
     all_goals simp [htk]
    | false =>
     rw [hpp] at c hm
     refine aw_reg fun K hK => ?_; simp (disch := omega) [-List.getD_eq_getElem?_getD, a1, a2, tmAV_len, hk, b1, h1]
     refine acall_is (c) ?_; simp (disch := omega) [-List.getD_eq_getElem?_getD]
     refine hK _ ?_; clear hK K
     refine aw_iff rfl ?_
     refine aw_skip ?_
     refine cont hm _ ?_
     simp
   ·have b1 : (tf == f) = false := by simpa using h1
    rw [decide_eq_false h1, Bool.false_and] at hm
    refine aw_reg fun K hK => ?_; simp (disch := omega) [-List.getD_eq_getElem?_getD, a1, a2, tmAV_len, hk, b1, h1]
    refine hK _ ?_; clear hK K
    refine aw_iff rfl ?_
    refine aw_skip ?_
    refine cont hm _ ?_
    simp
  ·simp [-List.getD_eq_getElem?_getD] at hk
   have hie : i = s.tms.length := by omega
   subst hie
   refine aw_exit ?_; simp (disch := omega) [-List.getD_eq_getElem?_getD]
   refine hK1 _ ?_; clear hK1
   refine aw_reg fun K hK => ?_; simp (disch := omega) [-List.getD_eq_getElem?_getD]; refine hK _ ?_; clear hK K
   refine aw_ret ?_; simp (disch := omega) [-List.getD_eq_getElem?_getD]
   rw [hf]
   exact ⟨rfl, rfl⟩
theorem ascL_V {d : List Int} (h : ∀ x ∈ d, 1 ≤ x ∧ x ≤ 1000000000) : asc (ascL d) 1 1000000000 = true := asc_of (ascL_asc d) fun x hx => h x ((ascL_mem d x).1 hx)
theorem or_asc {d : List Int} {x : Int} (h : ∀ x ∈ d, 1 ≤ x ∧ x ≤ 1000000000) (hx : 1 ≤ x ∧ x ≤ 1000000000) : comb (fun _ _ => true) (ascL d) [x] = ascL (d ++ [x]) := by
 have hv : V [x] := asc_of (by unfold Asc; simp) fun y hy => by rw [List.mem_singleton.1 hy]; exact hx
 obtain ⟨h1, h2⟩ := comb_spec (fun _ _ => true) (a := ascL d) (b := [x]) (ascL_V h) hv
 refine asc_ext _ _ h1 (ascL_asc _) fun z => ?_
 rw [h2, ascL_mem, ascL_mem, List.mem_append]
 simp only [List.mem_singleton, and_true]
 by_cases hz : z = x
 ·subst hz; by_cases h3 : z ∈ d <;> simp [h3]
 ·by_cases h3 : z ∈ d <;> simp [h3, hz]
theorem sub_len : ∀ (l m : List Int), l.Nodup → (∀ x ∈ l, x ∈ m) → l.length ≤ m.length
 | [], m, _, _ => Nat.zero_le _
 | x :: l, m, hn, h => by
  rw [List.nodup_cons] at hn
  have hx := h x (by simp)
  have := sub_len l (m.erase x) hn.2 fun y hy => by
   have hne : y ≠ x := fun e => hn.1 (e ▸ hy)
   exact (List.mem_erase_of_ne hne).2 (h y (List.mem_cons_of_mem _ hy))
  rw [List.length_erase_of_mem hx] at this
  have h0 := List.length_pos_of_mem hx
  rw [List.length_cons]
  omega
theorem ascL_small {d docs : List Int} (h : ∀ x ∈ d, x ∈ docs) : (ascL d).length ≤ docs.length :=
 sub_len _ _ (asc_nodup (ascL_asc d)) fun x hx => h x ((ascL_mem d x).1 hx)
theorem hitL_docs {s : Sg} (h : validS s = true) {i k : Nat} (hi : i < s.cols.length) (hk : k < (s.cols.getD i c0).x.length) : ((s.cols.getD i c0).x.getD k n0).2 ∈ s.docs := by
 obtain ⟨_, _, h3⟩ := validS_parts h
 have := (h3 i hi).2 k hk
 unfold okIt at this
 simp only [Bool.and_eq_true, decide_eq_true_eq] at this
 exact this.1.1
theorem hits_docs {s : Sg} (h : validS s = true) (f lo hi : Int) : ∀ x ∈ hits f lo hi s.cols, x ∈ s.docs := by
 intro x hx
 obtain ⟨c, hc, hx⟩ := List.mem_flatMap.1 hx
 obtain ⟨i, hi, rfl⟩ := mem_getD c0 hc
 obtain ⟨y, hy, hx⟩ := List.mem_flatMap.1 hx
 obtain ⟨k, hk, rfl⟩ := mem_getD n0 hy
 unfold hitL at hx
 split at hx
 ·rw [List.mem_singleton.1 hx]; exact hitL_docs h hi hk
 ·simp at hx
set_option maxHeartbeats 16000000 in
theorem betSR_ok (s : Sg) (hs : SzS s) (f lo hi : Int) (H : List Blk) (T : Toks) : ACall Tryz.prog 27 [sgAV s, .int .i64 f, .int .i64 lo, .int .i64 hi] H T (Is (.sl (betS s f lo hi).length (ints (betS s f lo hi)) .none) H T) := by
 refine ACall.drop' ?_ (by simp)
 have cv := fun H => validSR_ok s hs H T
 have hcl := hs.c
 have hx := hs.x
 have hd := hs.d
 refine acall_enter 14 [] Tryz.ntmps27 Tryz.func27 rfl (fun _ _ => Tryz.call27 _ _) (by simp) (fun HO => ?_)
 refine aw_reg fun K hK => ?_; simp (disch := omega) [-List.getD_eq_getElem?_getD]; refine hK _ ?_; clear hK K
 refine aw_reg fun K hK => ?_; simp (disch := omega) [-List.getD_eq_getElem?_getD]; refine hK _ ?_; clear hK K
 refine aw_then fun K1 hK1 => ?_
 have HO1 : HOk (H ++ [.cells (sgC s)]) T := HO.snoc (by simp)
 cases hv : validS s with
 | false =>
  rw [hv] at cv
  have hf : betS s f lo hi = [] := by unfold betS; rw [hv]; rfl
  refine aw_reg fun K hK => ?_; simp (disch := omega) [-List.getD_eq_getElem?_getD]
  refine acall_is (cv _) ?_; simp (disch := omega) [-List.getD_eq_getElem?_getD]
  refine hK _ ?_; clear hK K
  refine aw_ift rfl ?_
  refine aw_reg fun K hK => ?_; simp (disch := omega) [-List.getD_eq_getElem?_getD]; refine hK _ ?_; clear hK K
  refine aw_ret ?_; simp (disch := omega) [-List.getD_eq_getElem?_getD]
  simp [hf]
 | true =>
 rw [hv] at cv
 have hf : betS s f lo hi = ascL (hits f lo hi s.cols) := by unfold betS; rw [if_pos hv]
 have hdocs := hits_docs hv f lo hi
 have hb := fun x h => asc_bounds (validS_parts hv).1.1 x h
 refine aw_reg fun K hK => ?_; simp (disch := omega) [-List.getD_eq_getElem?_getD]
 refine acall_is (cv _) ?_; simp (disch := omega) [-List.getD_eq_getElem?_getD]
 refine hK _ ?_; clear hK K
 refine aw_iff rfl ?_
 refine aw_skip ?_; simp (disch := omega) [-List.getD_eq_getElem?_getD]
 refine hK1 _ ?_; clear hK1
 refine aw_then fun K1 hK1 => ?_
 refine aw_reg fun K hK => ?_; simp (disch := omega) [-List.getD_eq_getElem?_getD]; refine hK _ ?_; clear hK K
 have hn0 : ascL [] = [] := List.eq_nil_iff_forall_not_mem.2 fun x hx => by simpa using (ascL_mem [] x).1 hx
 refine aw_block ?_
 refine aw_loop (X := Nat) (fun i => ⟨[(1, .int .i64 f), (2, .int .i64 lo), (3, .int .i64 hi), (4, .ptr H.length 0), (9, .sl (ascL (hits f lo hi (s.cols.take i))).length (ints (ascL (hits f lo hi (s.cols.take i)))) .none), (10, .int .i64 (i : Nat))], H ++ [.cells (sgC s)], T⟩)
  (fun i => i ≤ s.cols.length) (fun i => s.cols.length - i) 0 ?_ ?_ ?_
 ·exact Nat.zero_le _
 ·refine weak_to [] [] ?_ ?_ ?_ ?_ HO1 ?_
  all_goals simp [hits, hn0]
 ·intro i g1
  refine aw_then fun K2 hK2 => ?_
  refine aw_reg fun K hK => ?_; simp (disch := omega) [-List.getD_eq_getElem?_getD]; refine hK _ ?_; clear hK K
  refine aw_if rfl (fun hk => ?_) (fun hk => ?_)
  ·simp [-List.getD_eq_getElem?_getD] at hk
   obtain ⟨a1, a2⟩ := clAV_at s.cols i hk
   have hxl := hx _ (getD_mem s.cols i c0 hk)
   have hft := flat_take s.cols (hitC f lo hi) c0 i hk
   have hsub : ∀ x ∈ hits f lo hi (s.cols.take (i + 1)), x ∈ s.docs := fun x hx => hdocs x (by
    have : s.cols = s.cols.take (i + 1) ++ s.cols.drop (i + 1) := (List.take_append_drop _ _).symm
    unfold hits at hx ⊢
    rw [this, List.flatMap_append]
    exact List.mem_append_left _ hx)
   generalize s.cols.getD i c0 = c at *
   obtain ⟨cf, xs⟩ := c
   simp only at a1 a2 hxl
   have hft' : hits f lo hi (s.cols.take (i + 1)) = hits f lo hi (s.cols.take i) ++ xs.flatMap (hitL f lo hi cf) := hft
   clear hft
   rw [hft'] at hsub
   generalize hits f lo hi (s.cols.take i) = d0 at *
   refine aw_skip ?_; simp (disch := omega) [-List.getD_eq_getElem?_getD]
   refine hK2 _ ?_; clear hK2
   refine aw_then fun K3 hK3 => ?_
   refine aw_block ?_
   refine aw_reg fun K hK => ?_; simp (disch := omega) [-List.getD_eq_getElem?_getD]; refine hK _ ?_; clear hK K
   refine aw_block ?_
   refine aw_loop (X := Nat) (fun k => ⟨[(1, .int .i64 f), (2, .int .i64 lo), (3, .int .i64 hi), (4, .ptr H.length 0), (9, .sl (ascL (d0 ++ (xs.take k).flatMap (hitL f lo hi cf))).length (ints (ascL (d0 ++ (xs.take k).flatMap (hitL f lo hi cf)))) .none), (10, .int .i64 (i : Nat)), (11, .int .i64 (k : Nat))], H ++ [.cells (sgC s)], T⟩)
    (fun k => k ≤ xs.length) (fun k => xs.length - k) 0 ?_ ?_ ?_
   ·exact Nat.zero_le _
   ·refine weak_to [] [] ?_ ?_ ?_ ?_ HO1 ?_
    all_goals simp
   ·intro k k1
    refine aw_then fun K4 hK4 => ?_
    have fin : d0 ++ (xs.take k).flatMap (hitL f lo hi cf) = d0 ++ xs.flatMap (hitL f lo hi cf) → ∀ e, envLe (H.length + 1) T.length e [(1, .int .i64 f), (2, .int .i64 lo), (3, .int .i64 hi), (4, .ptr H.length 0), (9, .sl (ascL (d0 ++ (xs.take k).flatMap (hitL f lo hi cf))).length (ints (ascL (d0 ++ (xs.take k).flatMap (hitL f lo hi cf)))) .none), (10, .int .i64 (i : Nat))] → K3 ⟨e, H ++ [.cells (sgC s)], T⟩ := by
     intro hh e he
     rw [hh, ← hft'] at he
     refine hK3 _ (aw_weak ⟨[(1, .int .i64 f), (2, .int .i64 lo), (3, .int .i64 hi), (4, .ptr H.length 0), (9, .sl (ascL (hits f lo hi (s.cols.take (i + 1)))).length (ints (ascL (hits f lo hi (s.cols.take (i + 1))))) .none), (10, .int .i64 (i : Nat))], H ++ [.cells (sgC s)], T⟩ (weak_to [] [] (by simp) (by simp) (by simp) (by simp) HO1 (by simpa using he)) ?_)
     refine aw_reg0 fun K hK => ?_; simp (disch := omega) [-List.getD_eq_getElem?_getD]
     refine hK _ ?_; clear hK K
     refine ⟨i + 1, by show i + 1 ≤ _; omega, by show s.cols.length - (i + 1) < s.cols.length - i; omega, ?_⟩
     refine weak_to [] [] ?_ ?_ ?_ ?_ HO1 ?_
     all_goals simp
    by_cases hk2 : k < xs.length
    rotate_left
    ·have hke : k = xs.length := by omega
     have bk : decide ((k : Int) < xs.length) = false := decide_eq_false (by omega)
     have hkk : ¬ k < xs.length := hk2
     refine aw_reg fun K hK => ?_; simp (disch := omega) [-List.getD_eq_getElem?_getD, a1, a2, clAV_len, hk, bk, hkk]; refine hK _ ?_; clear hK K
     refine aw_iff rfl ?_
     refine aw_exit ?_; simp (disch := omega) [-List.getD_eq_getElem?_getD]
     refine fin (by rw [hke, List.take_length]) _ ?_
     simp
    ·have bk : decide ((k : Int) < xs.length) = true := decide_eq_true (by omega)
     by_cases hcf : cf = f
     rotate_left
     ·have bf : (cf == f) = false := by simpa using hcf
      have hno : ∀ l : List Nm, l.flatMap (hitL f lo hi cf) = [] := fun l => by
       rw [List.flatMap_eq_nil_iff]
       intro x _
       unfold hitL hitB
       rw [bf]; rfl
      refine aw_reg fun K hK => ?_; simp (disch := omega) [-List.getD_eq_getElem?_getD, a1, a2, clAV_len, hk, bk, hk2, bf, hcf]; refine hK _ ?_; clear hK K
      refine aw_iff rfl ?_
      refine aw_exit ?_; simp (disch := omega) [-List.getD_eq_getElem?_getD]
      refine fin (by rw [hno, hno]) _ ?_
      simp
     ·have bf : (cf == f) = true := by simpa using hcf
      subst hcf
      have hcn := nmAV_cut xs k hk2
      have hft2 := flat_take xs (hitL cf lo hi cf) n0 k hk2
      have hft3 : d0 ++ (xs.take (k + 1)).flatMap (hitL cf lo hi cf) = (d0 ++ (xs.take k).flatMap (hitL cf lo hi cf)) ++ hitL cf lo hi cf (xs.getD k n0) := by rw [hft2, List.append_assoc]
      have hsub2 : ∀ x ∈ d0 ++ (xs.take (k + 1)).flatMap (hitL cf lo hi cf), x ∈ s.docs := fun x hx => hsub x (by
       rcases List.mem_append.1 hx with h | h
       ·exact List.mem_append_left _ h
       ·refine List.mem_append_right _ ?_
        obtain ⟨y, hy, h⟩ := List.mem_flatMap.1 h
        exact List.mem_flatMap.2 ⟨y, List.mem_of_mem_take hy, h⟩)
      rw [hft3] at hsub2
      refine aw_reg fun K hK => ?_; simp (disch := omega) [-List.getD_eq_getElem?_getD, a1, a2, clAV_len, hk, bk, hk2]; refine hK _ ?_; clear hK K
      refine aw_ift rfl ?_
      clear fin
      generalize d0 ++ (xs.take k).flatMap (hitL cf lo hi cf) = d2 at *
      generalize xs.getD k n0 = x at *
      obtain ⟨x1, x2⟩ := x
      simp only at hcn
      refine aw_skip ?_; simp (disch := omega) [-List.getD_eq_getElem?_getD]
      refine hK4 _ ?_; clear hK4
      refine aw_then fun K5 hK5 => ?_
      refine aw_block ?_
      refine aw_reg fun K hK => ?_; simp (disch := omega) [-List.getD_eq_getElem?_getD, a1, a2, clAV_len, hk, hcn, nmAV_len, hk2]; refine hK _ ?_; clear hK K
      have HO2 : HOk (H ++ [.cells (sgC s), .cells (nmC (x1, x2))]) T := by
       have := HOk.snoc (vs := nmC (x1, x2)) HO1 (by simp)
       simpa using this
      have cont : ∀ d3, d2 ++ hitL cf lo hi cf (x1, x2) = d3 → ∀ e, envLe (H.length + 2) T.length e [(1, .int .i64 cf), (2, .int .i64 lo), (3, .int .i64 hi), (4, .ptr H.length 0), (9, .sl (ascL d3).length (ints (ascL d3)) .none), (10, .int .i64 (i : Nat)), (11, .int .i64 (k : Nat))] → K5 ⟨e, H ++ [.cells (sgC s), .cells (nmC (x1, x2))], T⟩ := by
       intro d3 h3 e he
       rw [h3] at hft3
       refine hK5 _ (aw_weak ⟨[(1, .int .i64 cf), (2, .int .i64 lo), (3, .int .i64 hi), (4, .ptr H.length 0), (9, .sl (ascL d3).length (ints (ascL d3)) .none), (10, .int .i64 (i : Nat)), (11, .int .i64 (k : Nat))], H ++ [.cells (sgC s)], T⟩ (weak_to [.cells (nmC (x1, x2))] [] (by simp) (by simp) (by simp) (by simp) HO1 (by simpa using he)) ?_)
       refine aw_reg0 fun K hK => ?_; simp (disch := omega) [-List.getD_eq_getElem?_getD]
       refine hK _ ?_; clear hK K
       refine ⟨k + 1, by show k + 1 ≤ _; omega, by show xs.length - (k + 1) < xs.length - k; omega, ?_⟩
       refine weak_to [] [] ?_ ?_ ?_ ?_ HO1 ?_
       all_goals simp [hft3]
      have hhit : hitL cf lo hi cf (x1, x2) = if (decide (lo ≤ x1) && decide (x1 ≤ hi)) = true then [x2] else [] := by unfold hitL hitB; rw [bf]; rfl
      by_cases h2 : lo ≤ x1
      rotate_left
      ·have b2 : decide (lo ≤ x1) = false := decide_eq_false h2
       rw [b2] at hhit
       refine aw_reg fun K hK => ?_; simp (disch := omega) [-List.getD_eq_getElem?_getD, b2, h2]; refine hK _ ?_; clear hK K
       refine aw_iff rfl ?_
       refine aw_skip ?_
       refine cont d2 (by rw [hhit]; simp) _ ?_
       simp
      have b2 : decide (lo ≤ x1) = true := decide_eq_true h2
      by_cases h3 : x1 ≤ hi
      rotate_left
      ·have b3 : decide (x1 ≤ hi) = false := decide_eq_false h3
       rw [b2, b3] at hhit
       refine aw_reg fun K hK => ?_; simp (disch := omega) [-List.getD_eq_getElem?_getD, b2, h2, b3, h3]; refine hK _ ?_; clear hK K
       refine aw_iff rfl ?_
       refine aw_skip ?_
       refine cont d2 (by rw [hhit]; simp) _ ?_
       simp
      have b3 : decide (x1 ≤ hi) = true := decide_eq_true h3
      rw [b2, b3] at hhit
      have hh : hitL cf lo hi cf (x1, x2) = [x2] := hhit
      rw [hh] at hsub2
      have hd2 := ascL_small (d := d2) (docs := s.docs) fun x hx => hsub2 x (List.mem_append_left _ hx)
      have co := fun H => orR_ok (ascL d2) [x2] (by omega) (by simp) H T
      rw [or_asc (fun x hx => hb x (hsub2 x (List.mem_append_left _ hx))) (hb x2 (hsub2 x2 (by simp)))] at co
      refine aw_reg fun K hK => ?_; simp (disch := omega) [-List.getD_eq_getElem?_getD, b2, h2, b3, h3]; refine hK _ ?_; clear hK K
      refine aw_ift rfl ?_
      have co' : ∀ H, ACall Tryz.prog 84 [.sl (ascL d2).length (ints (ascL d2)) .none, .sl 1 [.int .i64 x2] .full] H T (Is (.sl (ascL (d2 ++ [x2])).length (ints (ascL (d2 ++ [x2]))) .none) H T) := fun H => ACall.untag2 (co H)
      refine aw_reg0 fun K hK => ?_; simp (disch := omega) [-List.getD_eq_getElem?_getD]
      refine acall_is (co' _) ?_; simp (disch := omega) [-List.getD_eq_getElem?_getD]
      refine hK _ ?_; clear hK K
      refine cont (d2 ++ [x2]) (by rw [hh]) _ ?_
      simp
  ·simp [-List.getD_eq_getElem?_getD] at hk
   have hie : i = s.cols.length := by omega
   subst hie
   refine aw_exit ?_; simp (disch := omega) [-List.getD_eq_getElem?_getD]
   refine hK1 _ ?_; clear hK1
   refine aw_reg fun K hK => ?_; simp (disch := omega) [-List.getD_eq_getElem?_getD]; refine hK _ ?_; clear hK K
   refine aw_ret ?_; simp (disch := omega) [-List.getD_eq_getElem?_getD]
   rw [hf]
   exact ⟨rfl, rfl⟩
end Go.Proofs.YtneohapkboaplaaGreat
