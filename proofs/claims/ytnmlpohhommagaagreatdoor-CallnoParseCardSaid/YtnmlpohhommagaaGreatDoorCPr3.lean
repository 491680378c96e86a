/- The reference's Parse (layer 52): the walk.
   Conditions: at most 100 bytes. -/
import Derived.Test.YtnmlpohhommagaaGreatDoorCH
namespace Cn
theorem runF_four {w : List UInt8} (h1 : w.length = 4) (h2 : runF w = 4) : ∀ x ∈ w, isD x = true := by
  have := runF_digits w
  rw [h2, List.take_of_length_le (by omega)] at this
  exact this
/-- What stays small while words are read. -/
def SmR (n : Nat) (t : Tri) : Prop := t.1.length ≤ n ∧ (∀ x ∈ t.1, x.length ≤ 900) ∧ t.2.2.length ≤ 900
theorem stepR_sm {n : Nat} {t : Tri} {w : List UInt8} (sch : Int) (h : SmR n t) (hw : w.length ≤ 900) : SmR (n + 1) (stepR sch t w) := by
  obtain ⟨h1, h2, h3⟩ := h
  have key : ∀ y : List UInt8, y.length ≤ 900 → SmR (n + 1) (t.1 ++ [y], t.2.1, t.2.2) := fun y hy => ⟨by simp; omega, fun x hx => by
    rcases List.mem_append.1 hx with hx | hx
    · exact h2 x hx
    · rw [List.mem_singleton] at hx; subst hx; exact hy, h3⟩
  unfold stepR
  split
  · exact key _ (by rw [List.length_drop]; omega)
  · split
    · exact key _ hw
    · split
      · exact ⟨by show t.1.length ≤ n + 1; omega, h2, h3⟩
      · exact ⟨by show t.1.length ≤ n + 1; omega, h2, hw⟩
end Cn
namespace Go.Proofs.YtnmlpohhommagaaGreatDoor
open Go Go.Am Cn Lst
open Go.Lib (numV)
set_option linter.unusedVariables false
theorem box2 {H : List Blk} {x y : Blk} : H ++ [x, y] = (H ++ [x]) ++ [y] := by simp

set_option maxRecDepth 100000 in
set_option maxHeartbeats 16000000 in
theorem parseR_ok (s : List UInt8) (hs : s.length ≤ 100) (H : List Blk) (T : Toks) :
    ACall Tryz.prog 23 [.str s] H T (Is (.tup [.agg (clAV (parseF s).1 .none), .int .i64 (parseF s).2]) H T) := by
  refine ACall.dropTA ?_ (by simp [clAV])
  have hF := parseR_eq s
  generalize parseF s = F at *
  have cw := fun G T => wordR_ok s (by omega) (H ++ G) T
  have hl := cutT_len2 32 s
  unfold candR at hF
  generalize Lst.cutT 32 s = p at *
  obtain ⟨head, left, fl⟩ := p
  simp only at cw hl hF
  have hk := fun (i : Nat) h1 h2 h3 => tw_len (p := isC) (s := head) (i := i) h1 h2 h3
  have cc := fun i G T => capR_ok (head.getD i 0) (H ++ G) T
  generalize head.takeWhile isC = A at *
  have b1 : decide ((s.length : Int) > 100) = false := decide_eq_false (by omega)
  have b1' : decide ((100 : Int) < (s.length : Nat)) = false := decide_eq_false (by omega)
  have b1n : ¬ 100 < s.length := by omega
  refine acall_enter 13 [] Tryz.ntmps23 Tryz.func23 rfl (fun _ _ => Tryz.call23 _ _) (by simp) (fun HO => ?_)
  refine aw_reg fun K hK => ?_; simp (maxSteps := 1000000) (disch := omega) [-List.getD_eq_getElem?_getD]; refine hK _ ?_; clear hK K
  refine aw_then fun K1 hK1 => ?_
  refine aw_reg fun K hK => ?_; simp (maxSteps := 1000000) (disch := omega) [-List.getD_eq_getElem?_getD, b1]; refine hK _ ?_; clear hK K
  refine aw_if rfl (fun h => absurd h (by simp [b1n])) (fun h => ?_)
  refine aw_skip ?_; simp (maxSteps := 1000000) (disch := omega) [-List.getD_eq_getElem?_getD]
  refine hK1 _ ?_; clear hK1
  refine aw_reg fun K hK => ?_; simp (maxSteps := 1000000) (disch := omega) [-List.getD_eq_getElem?_getD]
  refine acall_is (cw _ _) ?_; simp (maxSteps := 1000000) (disch := omega) [-List.getD_eq_getElem?_getD]
  refine hK _ ?_; clear hK K
  refine aw_reg fun K hK => ?_; simp (maxSteps := 1000000) (disch := omega) [-List.getD_eq_getElem?_getD]; refine hK _ ?_; clear hK K
  refine aw_ownC 1 4 (H ++ [.cells [.int .i64 0, .str [], .int .i64 0, .str [], .sl 0 [] .full, .int .i64 0, .str []]]) [.int .i64 2, .str [], .int .i64 0, .str [], .sl 0 [] .full, .int .i64 0, .str []] 0 [] (by omega) rfl (by simp) ?_
  simp only [List.set_cons_succ, List.set_cons_zero]
  have HO2 : ∀ (sch : Int) (cls : List UInt8) (num : Int) (dec : List UInt8) (t : Tri), HOk (H ++ [.cells [.int .i64 0, .str [], .int .i64 0, .str [], .sl 0 [] .full, .int .i64 0, .str []], .cells [.int .i64 sch, .str cls, .int .i64 num, .str dec, .sl (t.1).length (strs (t.1)) (.own T.length), .int .i64 t.2.1, .str t.2.2]]) (T ++ [(t.1.length, 1)]) := fun sch cls num dec t => by
    rw [box2]
    exact HOk.snoc (HOk.snoc (HO.toks (by simp)) (by simp)) (by simp)
  refine aw_reg fun K hK => ?_; simp (maxSteps := 1000000) (disch := omega) [-List.getD_eq_getElem?_getD]; refine hK _ ?_; clear hK K
  refine aw_then fun K1 hK1 => ?_
  refine aw_block ?_
  refine aw_loop (X := Nat) (fun i => ⟨[(0, .str s), (2, .ptr H.length 0), (3, .int .i64 0), (4, .str head), (5, .str left), (6, .ptr (H.length + 1) 0), (7, .int .i64 (i : Nat))], H ++ [.cells [.int .i64 0, .str [], .int .i64 0, .str [], .sl 0 [] .full, .int .i64 0, .str []], .cells [.int .i64 2, .str [], .int .i64 0, .str [], .sl 0 [] (.own T.length), .int .i64 0, .str []]], T ++ [(0, 1)]⟩) (fun i => i ≤ head.length ∧ ∀ j, j < i → isC (head.getD j 0) = true) (fun i => head.length - i) 0 ?_ ?_ ?_
  · exact ⟨Nat.zero_le _, fun j hj => absurd hj (Nat.not_lt_zero _)⟩
  · refine weak_to [] [] ?_ ?_ ?_ ?_ (HO2 _ _ _ _ ([], 0, [])) ?_
    all_goals simp
  · rintro i ⟨h1, h2⟩
    have hk := hk i h1 h2
    have cci := cc i
    refine aw_then fun K2 hK2 => ?_
    have post : (i < head.length → isC (head.getD i 0) = false) → ∀ e, envLe (H.length + 2) (T.length + 1) e [(0, .str s), (2, .ptr H.length 0), (3, .int .i64 0), (4, .str head), (5, .str left), (6, .ptr (H.length + 1) 0), (7, .int .i64 (i : Nat))] → K1 ⟨e, H ++ [.cells [.int .i64 0, .str [], .int .i64 0, .str [], .sl 0 [] .full, .int .i64 0, .str []], .cells [.int .i64 2, .str [], .int .i64 0, .str [], .sl 0 [] (.own T.length), .int .i64 0, .str []]], T ++ [(0, 1)]⟩ := by
      intro hi e he
      obtain ⟨hkA, hkl⟩ := hk hi
      refine hK1 _ (aw_weak ⟨[(0, .str s), (2, .ptr H.length 0), (3, .int .i64 0), (4, .str head), (5, .str left), (6, .ptr (H.length + 1) 0), (7, .int .i64 (i : Nat))], H ++ [.cells [.int .i64 0, .str [], .int .i64 0, .str [], .sl 0 [] .full, .int .i64 0, .str []], .cells [.int .i64 2, .str [], .int .i64 0, .str [], .sl 0 [] (.own T.length), .int .i64 0, .str []]], T ++ [(0, 1)]⟩ (weak_to [] [] (by simp) (by simp) (by simp) (by simp) (HO2 _ _ _ _ ([], 0, [])) (by simpa using he)) ?_)
      clear hK1 hK2 he cc cci hk cw
      rw [hkl] at hF
      have hkt : head.take i = head.take i := rfl
      have cr := fun G T => runR_ok (head.drop i) (by rw [List.length_drop]; omega) (H ++ G) T
      have hrl := runF_le (head.drop i)
      have hrd := runF_digits (head.drop i)
      rw [List.length_drop] at hrl
      have hdt : (head.drop i).take (head.length - i) = head.drop i := List.take_of_length_le (by rw [List.length_drop]; omega)
      have n1 : i ≤ head.length := h1
      generalize hn : runF (head.drop i) = n at *
      have cv := fun (h : ¬ (n < 1 ∨ 4 < n)) G T => valueR_ok ((head.drop i).take n) hrd (by rw [List.length_take]; omega) (H ++ G) T
      have hcl : (head.take i).length = i := by rw [List.length_take]; omega
      have hdl : (head.drop (i + n + 1)).length ≤ 100 := by rw [List.length_drop]; omega
      have hde : ¬ i + n < head.length → head.drop (i + n + 1) = [] := fun h => List.drop_of_length_le (by omega)
      have hsub : (head.drop i).take (i + n - i) = (head.drop i).take n := by rw [Nat.add_sub_cancel_left]
      have hdt2 : (head.drop (i + n + 1)).take (head.length - (i + n + 1)) = head.drop (i + n + 1) := List.take_of_length_le (by rw [List.length_drop]; omega)
      generalize hsc : (if 0 < i then (1 : Int) else 2) = sch at hF
      generalize hnu : ((numV ((head.drop i).take n) : Nat) : Int) = num at *
      generalize hD : head.drop (i + n + 1) = dec at *
      have sec : ∀ e, envLe (H.length + 2) (T.length + 1) e [(0, .str s), (2, .ptr H.length 0), (3, .int .i64 0), (4, .str head), (5, .str left), (6, .ptr (H.length + 1) 0), (7, .int .i64 (i : Nat))] → ∀ K : St → Prop, True := fun _ _ _ => trivial
      clear sec
      refine aw_then fun K1 hK1 => ?_
      have go : ∀ e, envLe (H.length + 2) (T.length + 1) e [(0, .str s), (2, .ptr H.length 0), (3, .int .i64 0), (4, .str head), (5, .str left), (6, .ptr (H.length + 1) 0), (7, .int .i64 (i : Nat))] → K1 ⟨e, H ++ [.cells [.int .i64 0, .str [], .int .i64 0, .str [], .sl 0 [] .full, .int .i64 0, .str []], .cells [.int .i64 sch, .str (head.take i), .int .i64 0, .str [], .sl 0 [] (.own T.length), .int .i64 0, .str []]], T ++ [(0, 1)]⟩ := by
        intro e he
        refine hK1 _ (aw_weak ⟨[(0, .str s), (2, .ptr H.length 0), (3, .int .i64 0), (4, .str head), (5, .str left), (6, .ptr (H.length + 1) 0), (7, .int .i64 (i : Nat))], H ++ [.cells [.int .i64 0, .str [], .int .i64 0, .str [], .sl 0 [] .full, .int .i64 0, .str []], .cells [.int .i64 sch, .str (head.take i), .int .i64 0, .str [], .sl 0 [] (.own T.length), .int .i64 0, .str []]], T ++ [(0, 1)]⟩ (weak_to [] [] (by simp) (by simp) (by simp) (by simp) (HO2 _ _ _ _ ([], 0, [])) (by simpa using he)) ?_)
        clear hK1 he hsc
        generalize head.take i = cls at *
        refine aw_reg fun K hK => ?_; simp (maxSteps := 1000000) (disch := omega) [-List.getD_eq_getElem?_getD, n1, hdt]
        refine acall_is (cr _ _) ?_; simp (maxSteps := 1000000) (disch := omega) [-List.getD_eq_getElem?_getD]
        refine hK _ ?_; clear hK K
        clear cr
        refine aw_then fun K1 hK1 => ?_
        by_cases hlow : n < 1
        · have m1 : decide ((n : Int) < 1) = true := decide_eq_true (by omega)
          rw [if_pos (.inl hlow)] at hF
          refine aw_reg fun K hK => ?_; simp (maxSteps := 1000000) (disch := omega) [-List.getD_eq_getElem?_getD, m1]; refine hK _ ?_; clear hK K
          refine aw_if rfl (fun h => ?_) (fun h => absurd h (by simp [hlow]))
          refine aw_reg fun K hK => ?_; simp (maxSteps := 1000000) (disch := omega) [-List.getD_eq_getElem?_getD]
          refine hK _ ?_; clear hK K
          refine aw_ret ?_; simp (maxSteps := 1000000) (disch := omega) [-List.getD_eq_getElem?_getD]
          subst hF
          simp [zeroC, clAV, untagA, untag]
        · have m1 : decide ((n : Int) < 1) = false := decide_eq_false (by omega)
          by_cases hhi : 4 < n
          · have m2 : decide ((n : Int) > 4) = true := decide_eq_true (by omega)
            have m3 : decide ((4 : Int) < (n : Nat)) = true := decide_eq_true (by omega)
            rw [if_pos (.inr hhi)] at hF
            refine aw_reg fun K hK => ?_; simp (maxSteps := 1000000) (disch := omega) [-List.getD_eq_getElem?_getD, m1, m2]; refine hK _ ?_; clear hK K
            refine aw_if rfl (fun h => ?_) (fun h => absurd h (by simp [hhi]))
            refine aw_reg fun K hK => ?_; simp (maxSteps := 1000000) (disch := omega) [-List.getD_eq_getElem?_getD]
            refine hK _ ?_; clear hK K
            refine aw_ret ?_; simp (maxSteps := 1000000) (disch := omega) [-List.getD_eq_getElem?_getD]
            subst hF
            simp [zeroC, clAV, untagA, untag]
          · have m2 : decide ((n : Int) > 4) = false := decide_eq_false (by omega)
            have m3 : decide ((4 : Int) < (n : Nat)) = false := decide_eq_false (by omega)
            have hno : ¬ (n < 1 ∨ 4 < n) := by omega
            rw [if_neg hno] at hF
            simp only at hF
            have cv := cv hno
            refine aw_reg fun K hK => ?_; simp (maxSteps := 1000000) (disch := omega) [-List.getD_eq_getElem?_getD, m1, m2]; refine hK _ ?_; clear hK K
            refine aw_if rfl (fun h => absurd h (by simp [hhi])) (fun h => ?_)
            refine aw_skip ?_; simp (maxSteps := 1000000) (disch := omega) [-List.getD_eq_getElem?_getD]
            refine hK1 _ ?_; clear hK1
            have n2 : i ≤ i + n := by omega
            have n3 : i + n ≤ head.length := by omega
            refine aw_reg fun K hK => ?_; simp (maxSteps := 1000000) (disch := omega) [-List.getD_eq_getElem?_getD, n2, n3]
            refine acall_is (cv _ _) ?_; simp (maxSteps := 1000000) (disch := omega) [-List.getD_eq_getElem?_getD]
            refine hK _ ?_; clear hK K
            clear cv
            refine aw_then fun K1 hK1 => ?_
            have go2 : ∀ e, envLe (H.length + 2) (T.length + 1) e [(0, .str s), (2, .ptr H.length 0), (3, .int .i64 0), (5, .str left), (6, .ptr (H.length + 1) 0)] → K1 ⟨e, H ++ [.cells [.int .i64 0, .str [], .int .i64 0, .str [], .sl 0 [] .full, .int .i64 0, .str []], .cells [.int .i64 sch, .str cls, .int .i64 num, .str dec, .sl 0 [] (.own T.length), .int .i64 0, .str []]], T ++ [(0, 1)]⟩ := by
              intro e he
              refine hK1 _ (aw_weak ⟨[(0, .str s), (2, .ptr H.length 0), (3, .int .i64 0), (5, .str left), (6, .ptr (H.length + 1) 0)], H ++ [.cells [.int .i64 0, .str [], .int .i64 0, .str [], .sl 0 [] .full, .int .i64 0, .str []], .cells [.int .i64 sch, .str cls, .int .i64 num, .str dec, .sl 0 [] (.own T.length), .int .i64 0, .str []]], T ++ [(0, 1)]⟩ (weak_to [] [] (by simp) (by simp) (by simp) (by simp) (HO2 _ _ _ _ ([], 0, [])) (by simpa using he)) ?_)
              clear hK1 he
              have hFl : ∀ t : Tri, loopR sch left.length left ([], 0, []) = t → (if validF ⟨sch, cls, num, dec, t.1, t.2.1, t.2.2⟩ = true ∧ textF ⟨sch, cls, num, dec, t.1, t.2.1, t.2.2⟩ = s then (⟨sch, cls, num, dec, t.1, t.2.1, t.2.2⟩, (0 : Int)) else (zeroC, 7)) = F := fun t ht => by rw [← ht]; exact hF
              generalize hTT : loopR sch left.length left ([], 0, []) = TT at *
              have hFl := hFl TT rfl
              clear hF
              have hcll : cls.length ≤ 1000 := by omega
              refine aw_then fun K1 hK1 => ?_
              refine aw_block ?_
              refine aw_loop (X := List UInt8 × Tri) (fun x => ⟨[(0, .str s), (2, .ptr H.length 0), (3, .int .i64 0), (5, .str x.1), (6, .ptr (H.length + 1) 0)], H ++ [.cells [.int .i64 0, .str [], .int .i64 0, .str [], .sl 0 [] .full, .int .i64 0, .str []], .cells [.int .i64 sch, .str cls, .int .i64 num, .str dec, .sl (x.2.1).length (strs (x.2.1)) (.own T.length), .int .i64 x.2.2.1, .str x.2.2.2]], T ++ [(x.2.1.length, 1)]⟩) (fun x => loopR sch x.1.length x.1 x.2 = TT ∧ ∃ n, SmR n x.2 ∧ x.1.length + n ≤ 900) (fun x => x.1.length) (left, ([], 0, [])) ?_ ?_ ?_
              · exact ⟨hTT, 0, ⟨by simp, by simp, by simp⟩, by show left.length + 0 ≤ 900; omega⟩
              · refine weak_to [] [] ?_ ?_ ?_ ?_ (HO2 sch cls num dec ([], 0, [])) ?_
                all_goals simp
              · rintro ⟨lf, t⟩ ⟨i1, n0, i2, i3⟩
                simp only at i1 i2 i3 ⊢
                obtain ⟨t1, t2, t3⟩ := t
                simp only at i1 i2 ⊢
                refine aw_then fun K2 hK2 => ?_
                by_cases hlf : lf = []
                · subst hlf
                  rw [loopR_nil] at i1
                  subst i1
                  obtain ⟨s1, s2, s3⟩ := i2
                  simp only at s1 s2 s3 hFl
                  have hsm : Sm ⟨sch, cls, num, dec, t1, t2, t3⟩ := ⟨hcll, by show dec.length ≤ 1000; omega, by show t1.length ≤ 1000; omega, fun x hx => by have := s2 x hx; omega, by show t3.length ≤ 1000; omega⟩
                  have cp := fun G T tg => printR_ok ⟨sch, cls, num, dec, t1, t2, t3⟩ tg hsm (H ++ G) T
                  unfold printF at cp
                  refine aw_reg fun K hK => ?_; simp (maxSteps := 1000000) (disch := omega) [-List.getD_eq_getElem?_getD]; refine hK _ ?_; clear hK K
                  refine aw_if rfl (fun h => absurd h (by simp)) (fun h => ?_)
                  refine aw_exit ?_; simp (maxSteps := 1000000) (disch := omega) [-List.getD_eq_getElem?_getD]
                  refine hK1 _ ?_; clear hK1
                  clear hK2
                  refine aw_then fun K1 hK1 => ?_
                  cases hv : validF ⟨sch, cls, num, dec, t1, t2, t3⟩ with
                  | false =>
                    rw [hv] at cp hFl
                    simp only [Bool.false_eq_true, if_false, false_and] at cp hFl
                    simp only [clAV] at cp
                    refine aw_reg fun K hK => ?_; simp (maxSteps := 1000000) (disch := omega) [-List.getD_eq_getElem?_getD]
                    refine acall_is (cp _ _ _) ?_; simp (maxSteps := 1000000) (disch := omega) [-List.getD_eq_getElem?_getD]
                    refine hK _ ?_; clear hK K
                    refine aw_reg fun K hK => ?_; simp (maxSteps := 1000000) (disch := omega) [-List.getD_eq_getElem?_getD]; refine hK _ ?_; clear hK K
                    refine aw_if rfl (fun h => ?_) (fun h => absurd h (by simp))
                    refine aw_reg fun K hK => ?_; simp (maxSteps := 1000000) (disch := omega) [-List.getD_eq_getElem?_getD]
                    refine hK _ ?_; clear hK K
                    refine aw_ret ?_; simp (maxSteps := 1000000) (disch := omega) [-List.getD_eq_getElem?_getD]
                    subst hFl
                    simp [zeroC, clAV, untagA, untag]
                  | true =>
                    rw [hv] at cp hFl
                    simp only [if_true, true_and] at cp hFl
                    simp only [clAV] at cp
                    generalize textF ⟨sch, cls, num, dec, t1, t2, t3⟩ = tx at *
                    by_cases htx : tx = s
                    · have b2 : (tx != s) = false := by rw [htx]; simp
                      have b3 : (tx == s) = true := beq_iff_eq.2 htx
                      rw [if_pos htx] at hFl
                      refine aw_reg fun K hK => ?_; simp (maxSteps := 1000000) (disch := omega) [-List.getD_eq_getElem?_getD]
                      refine acall_is (cp _ _ _) ?_; simp (maxSteps := 1000000) (disch := omega) [-List.getD_eq_getElem?_getD]
                      refine hK _ ?_; clear hK K
                      refine aw_reg fun K hK => ?_; simp (maxSteps := 1000000) (disch := omega) [-List.getD_eq_getElem?_getD, htx]; refine hK _ ?_; clear hK K
                      refine aw_if rfl (fun h => absurd h (by simp [htx])) (fun h => ?_)
                      refine aw_skip ?_; simp (maxSteps := 1000000) (disch := omega) [-List.getD_eq_getElem?_getD]
                      refine hK1 _ ?_; clear hK1
                      refine aw_reg fun K hK => ?_; simp (maxSteps := 1000000) (disch := omega) [-List.getD_eq_getElem?_getD]
                      refine hK _ ?_; clear hK K
                      refine aw_ret ?_; simp (maxSteps := 1000000) (disch := omega) [-List.getD_eq_getElem?_getD]
                      subst hFl
                      simp [clAV, untagA, untag]
                    · have b2 : (tx != s) = true := bne_iff_ne.2 htx
                      have b3 : (tx == s) = false := beq_eq_false_iff_ne.2 htx
                      rw [if_neg htx] at hFl
                      refine aw_reg fun K hK => ?_; simp (maxSteps := 1000000) (disch := omega) [-List.getD_eq_getElem?_getD]
                      refine acall_is (cp _ _ _) ?_; simp (maxSteps := 1000000) (disch := omega) [-List.getD_eq_getElem?_getD]
                      refine hK _ ?_; clear hK K
                      refine aw_reg fun K hK => ?_; simp (maxSteps := 1000000) (disch := omega) [-List.getD_eq_getElem?_getD, b3]; refine hK _ ?_; clear hK K
                      refine aw_if rfl (fun h => ?_) (fun h => absurd h (by simp [htx]))
                      refine aw_reg fun K hK => ?_; simp (maxSteps := 1000000) (disch := omega) [-List.getD_eq_getElem?_getD]
                      refine hK _ ?_; clear hK K
                      refine aw_ret ?_; simp (maxSteps := 1000000) (disch := omega) [-List.getD_eq_getElem?_getD]
                      subst hFl
                      simp [zeroC, clAV, untagA, untag]
                · have bl : (lf != []) = true := bne_iff_ne.2 hlf
                  have bl2 : (lf == []) = false := beq_eq_false_iff_ne.2 hlf
                  have i1 := loopR_step hlf i1
                  have hlt := cutT_lt (c := 32) hlf
                  have hwl := cutT_len2 32 lf
                  have cw := fun G T => wordR_ok lf (by omega) (H ++ G) T
                  generalize Lst.cutT 32 lf = p at *
                  obtain ⟨w, more, fw⟩ := p
                  simp only at i1 hlt hwl cw
                  clear hFl hlf
                  have i2' := stepR_sm sch i2 (w := w) (by omega)
                  refine aw_reg fun K hK => ?_; simp (maxSteps := 1000000) (disch := omega) [-List.getD_eq_getElem?_getD, bl2]; refine hK _ ?_; clear hK K
                  refine aw_if rfl (fun h => ?_) (fun h => absurd h (by simp))
                  refine aw_skip ?_; simp (maxSteps := 1000000) (disch := omega) [-List.getD_eq_getElem?_getD]
                  refine hK2 _ ?_; clear hK2
                  refine aw_block ?_
                  refine aw_reg fun K hK => ?_; simp (maxSteps := 1000000) (disch := omega) [-List.getD_eq_getElem?_getD]
                  refine acall_is (cw _ _) ?_; simp (maxSteps := 1000000) (disch := omega) [-List.getD_eq_getElem?_getD]
                  refine hK _ ?_; clear hK K
                  clear cw
                  refine aw_then fun K4 hK4 => ?_
                  have fin2 : ∀ e (t' : Tri), t' = stepR sch (t1, t2, t3) w → envLe (H.length + 2) (T.length + 1) e [(0, .str s), (2, .ptr H.length 0), (3, .int .i64 0), (6, .ptr (H.length + 1) 0), (9, .str w), (10, .str more)] → K4 ⟨e, H ++ [.cells [.int .i64 0, .str [], .int .i64 0, .str [], .sl 0 [] .full, .int .i64 0, .str []], .cells [.int .i64 sch, .str cls, .int .i64 num, .str dec, .sl (t'.1).length (strs (t'.1)) (.own T.length), .int .i64 t'.2.1, .str t'.2.2]], T ++ [(t'.1.length, 1)]⟩ := by
                    intro e t' ht he
                    rw [← ht] at i1 i2'
                    clear ht
                    refine hK4 _ (aw_weak ⟨[(0, .str s), (2, .ptr H.length 0), (3, .int .i64 0), (6, .ptr (H.length + 1) 0), (9, .str w), (10, .str more)], H ++ [.cells [.int .i64 0, .str [], .int .i64 0, .str [], .sl 0 [] .full, .int .i64 0, .str []], .cells [.int .i64 sch, .str cls, .int .i64 num, .str dec, .sl (t'.1).length (strs (t'.1)) (.own T.length), .int .i64 t'.2.1, .str t'.2.2]], T ++ [(t'.1.length, 1)]⟩ (weak_to [] [] (by simp) (by simp) (by simp) (by simp) (HO2 _ _ _ _ _) (by simpa using he)) ?_)
                    refine aw_reg0 fun K hK => ?_; simp (maxSteps := 1000000) (disch := omega) [-List.getD_eq_getElem?_getD]
                    refine hK _ ?_; clear hK K
                    refine ⟨(more, t'), ⟨i1, n0 + 1, i2', by show more.length + (n0 + 1) ≤ 900; omega⟩, by show more.length < lf.length; omega, ?_⟩
                    refine weak_to [] [] ?_ ?_ ?_ ?_ (HO2 sch cls num dec t') ?_
                    all_goals simp
                  clear hK4 i1 i2' hK1
                  obtain ⟨s1, s2, s3⟩ := i2
                  simp only at s1 s2 s3
                  have hst : stepR sch (t1, t2, t3) w = (if sch = 1 ∧ t1.length = 0 ∧ w ≠ [] ∧ w.getD 0 0 = 46 then (t1 ++ [w.drop 1], t2, t3) else if cutF w = true then (t1 ++ [w], t2, t3) else if w.length = 4 ∧ runF w = 4 then (t1, ((numV w : Nat) : Int), t3) else (t1, t2, w)) := rfl
                  have hsn : ∀ x, strs t1 ++ [AV.str x] = strs (t1 ++ [x]) := strs_snoc t1
                  have hcl := strs_len t1
                  have hln : ∀ x : List UInt8, t1.length + 1 = (t1 ++ [x]).length := fun x => by simp
                  refine aw_block ?_
                  refine aw_reg fun K hK => ?_
                  have key : ∀ e (b : Bool), (b = true ↔ (sch = 1 ∧ t1.length = 0 ∧ w ≠ [] ∧ w.getD 0 0 = 46)) → envLe (H.length + 2) (T.length + 1) e [(0, .str s), (2, .ptr H.length 0), (3, .int .i64 0), (6, .ptr (H.length + 1) 0), (9, .str w), (10, .str more), (83, .bool b)] → K ⟨e, H ++ [.cells [.int .i64 0, .str [], .int .i64 0, .str [], .sl 0 [] .full, .int .i64 0, .str []], .cells [.int .i64 sch, .str cls, .int .i64 num, .str dec, .sl (t1).length (strs (t1)) (.own T.length), .int .i64 t2, .str t3]], T ++ [(t1.length, 1)]⟩ := by
                    intro e b hbA he
                    refine hK _ (aw_weak ⟨[(0, .str s), (2, .ptr H.length 0), (3, .int .i64 0), (6, .ptr (H.length + 1) 0), (9, .str w), (10, .str more), (83, .bool b)], H ++ [.cells [.int .i64 0, .str [], .int .i64 0, .str [], .sl 0 [] .full, .int .i64 0, .str []], .cells [.int .i64 sch, .str cls, .int .i64 num, .str dec, .sl (t1).length (strs (t1)) (.own T.length), .int .i64 t2, .str t3]], T ++ [(t1.length, 1)]⟩ (weak_to [] [] (by simp) (by simp) (by simp) (by simp) (HO2 sch cls num dec (t1, t2, t3)) (by simpa using he)) ?_)
                    clear hK he
                    cases b with
                    | true =>
                      have hA := hbA.1 rfl
                      rw [if_pos hA] at hst
                      have hw1 : 1 ≤ w.length := List.length_pos_iff.2 hA.2.2.1
                      have hwt : w.tail.take (w.length - 1) = w.drop 1 := by rw [List.drop_one]; exact List.take_of_length_le (by simp)
                      refine aw_if rfl (fun h => ?_) (fun h => absurd h (by simp))
                      generalize w.drop 1 = w1 at *
                      refine aw_draw0 [5, 7] [0, 0, 0, 0, 0, 0, 1, 1] [[], []] drawMixed (by kernel_rfl) (by kernel_rfl) fun K hK => ?_; simp (maxSteps := 1000000) (disch := omega) [-List.getD_eq_getElem?_getD, hsn, hcl, hw1, hwt]
                      refine hK _ ?_; clear hK K
                      rw [hln w1]
                      refine fin2 _ (t1 ++ [w1], t2, t3) hst.symm ?_
                      simp
                    | false =>
                      have hA : ¬ (sch = 1 ∧ t1.length = 0 ∧ w ≠ [] ∧ w.getD 0 0 = 46) := fun h => by have := hbA.2 h; cases this
                      rw [if_neg hA] at hst
                      clear hA hbA
                      refine aw_if rfl (fun h => absurd h (by simp)) (fun h => ?_)
                      have cc := fun G T => cutR_ok w (by omega) (H ++ G) T
                      cases hcw : cutF w with
                      | true =>
                        rw [hcw] at cc hst
                        rw [if_pos rfl] at hst
                        refine aw_reg fun K hK => ?_; simp (maxSteps := 1000000) (disch := omega) [-List.getD_eq_getElem?_getD]
                        refine acall_is (cc _ _) ?_; simp (maxSteps := 1000000) (disch := omega) [-List.getD_eq_getElem?_getD]
                        refine hK _ ?_; clear hK K
                        refine aw_if rfl (fun h => ?_) (fun h => absurd h (by simp))
                        refine aw_reg0 fun K hK => ?_; simp (maxSteps := 1000000) (disch := omega) [-List.getD_eq_getElem?_getD, hsn, hcl]
                        refine hK _ ?_; clear hK K
                        rw [hln w]
                        refine fin2 _ (t1 ++ [w], t2, t3) hst.symm ?_
                        simp
                      | false =>
                        rw [hcw] at cc hst
                        rw [if_neg (by simp)] at hst
                        refine aw_reg fun K hK => ?_; simp (maxSteps := 1000000) (disch := omega) [-List.getD_eq_getElem?_getD]
                        refine acall_is (cc _ _) ?_; simp (maxSteps := 1000000) (disch := omega) [-List.getD_eq_getElem?_getD]
                        refine hK _ ?_; clear hK K
                        refine aw_if rfl (fun h => absurd h (by simp)) (fun h => ?_)
                        by_cases h4 : w.length = 4
                        · have c4 : ((w.length : Int) == 4) = true := beq_iff_eq.2 (by omega)
                          have cr := fun G T => runR_ok w (by omega) (H ++ G) T
                          by_cases hr : runF w = 4
                          · rw [if_pos ⟨h4, hr⟩] at hst
                            have cv := fun G T => valueR_ok w (runF_four h4 hr) (by omega) (H ++ G) T
                            rw [hr] at cr
                            generalize numV w = nv at *
                            refine aw_reg fun K hK => ?_; simp (maxSteps := 1000000) (disch := omega) [-List.getD_eq_getElem?_getD, h4]
                            refine acall_is (cr _ _) ?_; simp (maxSteps := 1000000) (disch := omega) [-List.getD_eq_getElem?_getD]
                            refine hK _ ?_; clear hK K
                            refine aw_if rfl (fun h => ?_) (fun h => absurd h (by simp))
                            refine aw_reg0 fun K hK => ?_; simp (maxSteps := 1000000) (disch := omega) [-List.getD_eq_getElem?_getD]
                            refine acall_is (cv _ _) ?_; simp (maxSteps := 1000000) (disch := omega) [-List.getD_eq_getElem?_getD]
                            refine hK _ ?_; clear hK K
                            refine fin2 _ (t1, ((nv : Nat) : Int), t3) hst.symm ?_
                            simp
                          · rw [if_neg (fun h => hr h.2)] at hst
                            generalize runF w = rw at *
                            have c5 : ((rw : Int) == 4) = false := beq_eq_false_iff_ne.2 (by omega)
                            refine aw_reg fun K hK => ?_; simp (maxSteps := 1000000) (disch := omega) [-List.getD_eq_getElem?_getD, h4]
                            refine acall_is (cr _ _) ?_; simp (maxSteps := 1000000) (disch := omega) [-List.getD_eq_getElem?_getD, c5]
                            refine hK _ ?_; clear hK K
                            refine aw_if rfl (fun h => absurd h (by simp [hr])) (fun h => ?_)
                            refine aw_reg0 fun K hK => ?_; simp (maxSteps := 1000000) (disch := omega) [-List.getD_eq_getElem?_getD]
                            refine hK _ ?_; clear hK K
                            refine fin2 _ (t1, t2, w) hst.symm ?_
                            simp
                        · have c4 : ((w.length : Int) == 4) = false := beq_eq_false_iff_ne.2 (by omega)
                          rw [if_neg (fun h => h4 h.1)] at hst
                          refine aw_reg fun K hK => ?_; simp (maxSteps := 1000000) (disch := omega) [-List.getD_eq_getElem?_getD, c4]
                          refine hK _ ?_; clear hK K
                          refine aw_if rfl (fun h => absurd h (by simp [h4])) (fun h => ?_)
                          refine aw_reg0 fun K hK => ?_; simp (maxSteps := 1000000) (disch := omega) [-List.getD_eq_getElem?_getD]
                          refine hK _ ?_; clear hK K
                          refine fin2 _ (t1, t2, w) hst.symm ?_
                          simp
                  clear fin2 hst hK
                  by_cases a1 : sch = 1
                  · subst a1
                    by_cases a2 : t1.length = 0
                    · obtain rfl : t1 = [] := List.length_eq_zero_iff.1 a2
                      by_cases a3 : w = []
                      · subst a3
                        simp (maxSteps := 1000000) (disch := omega) [-List.getD_eq_getElem?_getD]
                        refine key _ false (by simp) ?_
                        simp
                      · have d3 : (w != []) = true := bne_iff_ne.2 a3
                        have d3' : (w == []) = false := beq_eq_false_iff_ne.2 a3
                        have hw1 : 0 < w.length := List.length_pos_iff.2 a3
                        by_cases a4 : w.getD 0 0 = 46
                        · have d4 : (((w.getD 0 0).toNat : Nat) : Int) = 46 := by rw [a4]; rfl
                          simp (maxSteps := 1000000) (disch := omega) [-List.getD_eq_getElem?_getD, d3', hw1, d4]
                          refine key _ true ⟨fun _ => ⟨rfl, rfl, a3, a4⟩, fun _ => rfl⟩ ?_
                          simp
                        · have d4 : (w.getD 0 0).toNat ≠ 46 := fun e => a4 (UInt8.toNat_inj.1 e)
                          generalize hz : w.getD 0 0 = z at *
                          have d5 : (((z.toNat : Nat) : Int) == 46) = false := beq_eq_false_iff_ne.2 (by omega)
                          simp (maxSteps := 1000000) (disch := omega) [-List.getD_eq_getElem?_getD, d3', hw1, hz, d5]
                          refine key _ false ⟨fun h => (by cases h), fun h => absurd h.2.2.2 a4⟩ ?_
                          simp
                    · have d2 : ((t1.length : Int) == 0) = false := beq_eq_false_iff_ne.2 (by omega)
                      have d2' : t1 ≠ [] := fun e => a2 (by rw [e]; rfl)
                      simp (maxSteps := 1000000) (disch := omega) [-List.getD_eq_getElem?_getD, d2]
                      refine key _ false ⟨fun h => (by cases h), fun h => absurd h.2.1 a2⟩ ?_
                      simp
                  · have d1 : (sch == 1) = false := beq_eq_false_iff_ne.2 a1
                    simp (maxSteps := 1000000) (disch := omega) [-List.getD_eq_getElem?_getD, d1]
                    refine key _ false ⟨fun h => (by cases h), fun h => absurd h.1 a1⟩ ?_
                    simp
            by_cases hlt : i + n < head.length
            · have m4 : decide ((i : Int) + (n : Nat) < (head.length : Nat)) = true := decide_eq_true (by omega)
              have m5 : i + n + 1 ≤ head.length := by omega
              refine aw_reg fun K hK => ?_; simp (maxSteps := 1000000) (disch := omega) [-List.getD_eq_getElem?_getD, m4]; refine hK _ ?_; clear hK K
              refine aw_if rfl (fun h => ?_) (fun h => absurd h (by simp [hlt]))
              refine aw_reg0 fun K hK => ?_; simp (maxSteps := 1000000) (disch := omega) [-List.getD_eq_getElem?_getD, m5, hD, hdt2]
              refine hK _ ?_; clear hK K
              refine go2 _ ?_
              simp
            · have m4 : decide ((i : Int) + (n : Nat) < (head.length : Nat)) = false := decide_eq_false (by omega)
              have hde := hde hlt
              subst hde
              refine aw_reg fun K hK => ?_; simp (maxSteps := 1000000) (disch := omega) [-List.getD_eq_getElem?_getD, m4]; refine hK _ ?_; clear hK K
              refine aw_if rfl (fun h => absurd h (by simp [hlt])) (fun h => ?_)
              refine aw_skip ?_; simp (maxSteps := 1000000) (disch := omega) [-List.getD_eq_getElem?_getD]
              refine go2 _ ?_
              simp
      by_cases hi0 : 0 < i
      · have m1 : decide ((i : Int) > 0) = true := decide_eq_true (by omega)
        have m1' : decide ((0 : Int) < (i : Nat)) = true := decide_eq_true (by omega)
        rw [if_pos hi0] at hsc
        subst hsc
        refine aw_reg fun K hK => ?_; simp (maxSteps := 1000000) (disch := omega) [-List.getD_eq_getElem?_getD, hi0]; refine hK _ ?_; clear hK K
        refine aw_if rfl (fun h => ?_) (fun h => absurd h (by simp [hi0]))
        refine aw_draw0 [4, 6] [0, 0, 0, 0, 0, 1, 1] [[0, 1, 2], []] drawMixed (by kernel_rfl) (by kernel_rfl) fun K hK => ?_; simp (maxSteps := 1000000) (disch := omega) [-List.getD_eq_getElem?_getD, n1]
        refine hK _ ?_; clear hK K
        refine go _ ?_
        simp
      · have hz : i = 0 := by omega
        have m1 : decide ((i : Int) > 0) = false := decide_eq_false (by omega)
        have m1' : decide ((0 : Int) < (i : Nat)) = false := decide_eq_false (by omega)
        rw [if_neg hi0] at hsc
        subst hsc
        have ht0 : head.take i = [] := by rw [hz]; rfl
        rw [ht0] at go
        refine aw_reg fun K hK => ?_; simp (maxSteps := 1000000) (disch := omega) [-List.getD_eq_getElem?_getD, hi0]; refine hK _ ?_; clear hK K
        refine aw_if rfl (fun h => absurd h (by simp [hi0])) (fun h => ?_)
        refine aw_skip ?_; simp (maxSteps := 1000000) (disch := omega) [-List.getD_eq_getElem?_getD]
        refine go _ ?_
        simp
    by_cases hki : i < head.length
    · have bk : decide ((i : Int) < (head.length : Nat)) = true := decide_eq_true (by omega)
      cases hd : isC (head.getD i 0) with
      | true =>
        rw [hd] at cci
        have h2' : ∀ j, j < i + 1 → isC (head.getD j 0) = true := fun j hj => by
          by_cases e : j = i
          · subst e; exact hd
          · exact h2 j (by omega)
        clear post
        generalize hz : head.getD i 0 = z at *
        refine aw_reg fun K hK => ?_; simp (maxSteps := 1000000) (disch := omega) [-List.getD_eq_getElem?_getD, hki, hz]
        refine acall_is (cci _ _) ?_; simp (maxSteps := 1000000) (disch := omega) [-List.getD_eq_getElem?_getD]
        refine hK _ ?_; clear hK K
        refine aw_if rfl (fun h => ?_) (fun h => absurd h (by simp))
        refine aw_skip ?_; simp (maxSteps := 1000000) (disch := omega) [-List.getD_eq_getElem?_getD]
        refine hK2 _ ?_; clear hK2
        refine aw_block ?_
        refine aw_reg0 fun K hK => ?_; simp (maxSteps := 1000000) (disch := omega) [-List.getD_eq_getElem?_getD]
        refine hK _ ?_; clear hK K
        refine ⟨i + 1, ⟨by show i + 1 ≤ _; omega, h2'⟩, by show head.length - (i + 1) < head.length - i; omega, ?_⟩
        refine weak_to [] [] ?_ ?_ ?_ ?_ (HO2 _ _ _ _ ([], 0, [])) ?_
        all_goals simp
      | false =>
        rw [hd] at cci
        replace post := post (fun _ => hd)
        generalize hz : head.getD i 0 = z at *
        refine aw_reg fun K hK => ?_; simp (maxSteps := 1000000) (disch := omega) [-List.getD_eq_getElem?_getD, hki, hz]
        refine acall_is (cci _ _) ?_; simp (maxSteps := 1000000) (disch := omega) [-List.getD_eq_getElem?_getD]
        refine hK _ ?_; clear hK K
        refine aw_if rfl (fun h => absurd h (by simp)) (fun h => ?_)
        refine aw_exit ?_; simp (maxSteps := 1000000) (disch := omega) [-List.getD_eq_getElem?_getD]
        refine post _ ?_
        simp
    · have bk : decide ((i : Int) < (head.length : Nat)) = false := decide_eq_false (by omega)
      replace post := post (fun h => absurd h hki)
      clear cci cc
      refine aw_reg fun K hK => ?_; simp (maxSteps := 1000000) (disch := omega) [-List.getD_eq_getElem?_getD, hki]; refine hK _ ?_; clear hK K
      refine aw_if rfl (fun h => absurd h (by simp)) (fun h => ?_)
      refine aw_exit ?_; simp (maxSteps := 1000000) (disch := omega) [-List.getD_eq_getElem?_getD]
      refine post _ ?_
      simp
end Go.Proofs.YtnmlpohhommagaaGreatDoor
