/- The near words of a dictionary (layer 43): the reference's.
   Conditions: lengths below 1000, as the theorem says. -/
import Derived.Test.YtbijefgmleagnaaSFn6
namespace Sug
def insF (x : Fnd) : List Fnd → List Fnd
  | [] => [x]
  | y :: r => if aheadF y x = true then y :: insF x r else x :: y :: r
def insR (l : List Fnd) : List Fnd := l.foldl (fun d x => insF x d) []

theorem insF_perm (x : Fnd) : ∀ d, (insF x d).Perm (x :: d)
  | [] => .refl _
  | y :: r => by
    rw [insF]
    split
    · exact ((insF_perm x r).cons y).trans (List.Perm.swap x y r)
    · exact .refl _
theorem insF_mem {x z : Fnd} {d : List Fnd} (h : z ∈ insF x d) : z = x ∨ z ∈ d := by
  have := (insF_perm x d).mem_iff.1 h
  simpa using this
abbrev Srt (d : List Fnd) : Prop := d.Pairwise fun x y => (!(aheadF y x)) = true
theorem insF_sorted (x : Fnd) : ∀ d, Srt d → Srt (insF x d)
  | [], _ => List.pairwise_singleton _ _
  | y :: r, h => by
    rw [insF]
    have h1 := List.pairwise_cons.1 h
    split
    · rename_i hy
      refine List.pairwise_cons.2 ⟨fun z hz => ?_, insF_sorted x r h1.2⟩
      rcases insF_mem hz with rfl | hz
      · rw [aheadF_asymm _ _ hy]; rfl
      · exact h1.1 z hz
    · rename_i hy
      have hy : aheadF y x = false := by simpa using hy
      refine List.pairwise_cons.2 ⟨fun z hz => ?_, h⟩
      rcases List.mem_cons.1 hz with rfl | hz
      · rw [hy]; rfl
      · have := h1.1 z hz
        rw [Bool.not_eq_true'] at this
        rw [aheadF_ntrans _ _ _ this hy]; rfl
theorem fold_ins : ∀ (l d : List Fnd), Srt d → Srt (l.foldl (fun d x => insF x d) d) ∧ (l.foldl (fun d x => insF x d) d).Perm (d ++ l)
  | [], d, h => ⟨h, by simp⟩
  | x :: r, d, h => by
    obtain ⟨h1, h2⟩ := fold_ins r (insF x d) (insF_sorted x d h)
    refine ⟨h1, h2.trans ?_⟩
    refine ((insF_perm x d).append_right r).trans ?_
    simpa using (List.perm_middle (a := x) (l₁ := d) (l₂ := r)).symm
theorem sortF_sorted (l : List Fnd) : Srt (sortF l) :=
  List.pairwise_mergeSort (le := fun x y => !(aheadF y x)) (fun a b c h1 h2 => by
    rw [Bool.not_eq_true'] at h1 h2 ⊢
    exact aheadF_ntrans _ _ _ h2 h1) (fun a b => by
    cases h : aheadF b a with
    | false => rfl
    | true => rw [aheadF_asymm _ _ h]; rfl) l
theorem srt_unique {a b : List Fnd} (h : a.Perm b) (ha : Srt a) (hb : Srt b) : a = b := by
  refine List.Perm.eq_of_pairwise (le := fun x y => (!(aheadF y x)) = true) ?_ ha hb h
  intro x y _ _ h1 h2
  rw [Bool.not_eq_true'] at h1 h2
  exact aheadF_total _ _ h2 h1
theorem insR_sort (l : List Fnd) : insR l = sortF l := by
  obtain ⟨h1, h2⟩ := fold_ins l [] List.Pairwise.nil
  exact srt_unique ((by simpa [insR] using h2 : (insR l).Perm l).trans (List.mergeSort_perm l _).symm) h1 (sortF_sorted l)

theorem insF_at (x : Fnd) : ∀ (d : List Fnd) (n : Nat), n ≤ d.length → (∀ j, j < n → aheadF (d.getD j ([], 0, 0)) x = true) → (n < d.length → aheadF (d.getD n ([], 0, 0)) x = false) → insF x d = d.take n ++ x :: d.drop n
  | [], n, h, _, _ => by
    have : n = 0 := by simpa using h
    subst this; rfl
  | y :: r, 0, _, _, h => by
    have := h (by simp)
    rw [insF, if_neg (by simpa using this)]
    rfl
  | y :: r, n + 1, h0, h1, h2 => by
    have hy : aheadF y x = true := h1 0 (by omega)
    rw [insF, if_pos hy, insF_at x r n (by simpa using h0) (fun j hj => h1 (j + 1) (by omega)) (fun hn => h2 (by simpa using hn))]
    rfl
theorem insR_snoc (l : List Fnd) (x : Fnd) : insR (l ++ [x]) = insF x (insR l) := by simp [insR]
theorem insR_len (l : List Fnd) : (insR l).length = l.length := by rw [insR_sort]; exact List.length_mergeSort _
end Sug
namespace Go.Proofs.Ytbijefgmleagnaa
open Go Go.Am Sug Edit
set_option linter.unusedVariables false

theorem amade_zero (zs : List AV) : amade zs 0 = [] := by simp [amade]
theorem dist_word (w : Str) (e : Ent) (kk : Int) : nearOf w kk e = if kk < distE w e.1 then none else some (e.1, distE w e.1, e.2) := by
  rw [nearOf, distE_symm e.1 w]
  by_cases h : kk < distE w e.1
  · rw [if_neg (by omega), if_pos h]
  · rw [if_pos (by omega), if_neg h]

set_option maxRecDepth 100000 in
set_option maxHeartbeats 8000000 in
theorem within43R_ok (l : List Ent) (w : Str) (kk : Int) (hkk : -9223372036854775808 ≤ kk ∧ kk ≤ 9223372036854775807) (hl : l.length ≤ 1000) (hp : ∀ p ∈ l, p.1.length ≤ 1000) (hw : w.length ≤ 1000) (H : List Blk) (T : Toks) (tg : Tag) :
    ACall Try.prog 20 [.sl l.length (entAV l) tg, .str w, .int .i64 kk] H T (Is (.sl (withinE l w kk).length (fndAV (withinE l w kk)) .none) H T) := by
  refine ACall.untag1 ?_
  refine ACall.drop' ?_ (by simp)
  have c0 := validR_ok l hl hp H T .none
  generalize hq : withinE l w kk = q
  refine acall_enter 11 [] Try.ntmps20 Try.func20 rfl (fun _ _ => Try.call20 _ _) (by simp) (fun HO => ?_)
  refine aw_reg fun K hK => ?_; simp (maxSteps := 1000000) (disch := omega) [-List.getD_eq_getElem?_getD]; refine hK _ ?_; clear hK K
  refine aw_then fun K1 hK1 => ?_
  rcases Classical.em (validE l = true ∧ 0 ≤ kk ∧ kk ≤ 3) with ⟨hv, hk0, hk3⟩ | hno
  · rw [hv] at c0
    have b1 : decide (kk < 0) = false := decide_eq_false (by omega)
    have b2 : decide (3 < kk) = false := decide_eq_false (by omega)
    have n1 : ¬ kk < 0 := by omega
    have n2 : ¬ 3 < kk := by omega
    have hwe : q = insR (foundE l w kk) := by rw [← hq, withinE, if_pos ⟨hv, hk0, hk3⟩, insR_sort]
    refine aw_reg fun K hK => ?_; simp (maxSteps := 1000000) (disch := omega) [-List.getD_eq_getElem?_getD]
    refine acall_is (c0) ?_; simp (maxSteps := 1000000) (disch := omega) [-List.getD_eq_getElem?_getD, b1, b2, n1, n2]
    refine hK _ ?_; clear hK K
    refine aw_if rfl (fun h => absurd h (by simp)) (fun h => ?_)
    refine aw_skip ?_; simp (maxSteps := 1000000) (disch := omega) [-List.getD_eq_getElem?_getD]
    refine hK1 _ ?_; clear hK1
    refine aw_reg fun K hK => ?_; simp (maxSteps := 1000000) (disch := omega) [-List.getD_eq_getElem?_getD]; refine hK _ ?_; clear hK K
    refine aw_then fun K1 hK1 => ?_
    refine aw_reg fun K hK => ?_; simp (maxSteps := 1000000) (disch := omega) [-List.getD_eq_getElem?_getD]; refine hK _ ?_; clear hK K
    refine aw_block ?_
    refine aw_loop (X := Nat) (fun k => ⟨[(0, .sl l.length (entAV l) .none), (1, .str w), (2, .int .i64 kk), (7, .sl (insR (foundE (l.take k) w kk)).length (fndAV (insR (foundE (l.take k) w kk))) .none), (8, .int .i64 (k : Nat))], H, T⟩)
      (fun k => k ≤ l.length) (fun k => l.length - k) 0 ?_ ?_ ?_
    · exact Nat.zero_le _
    · refine weak_to [] [] ?_ ?_ ?_ ?_ HO ?_
      all_goals simp [foundE, insR, fndAV_nil]
    · rintro k h1
      refine aw_then fun K2 hK2 => ?_
      refine aw_reg fun K hK => ?_; simp (maxSteps := 1000000) (disch := omega) [-List.getD_eq_getElem?_getD]; refine hK _ ?_; clear hK K
      refine aw_if rfl (fun hk => ?_) (fun hk => ?_)
      · simp [-List.getD_eq_getElem?_getD] at hk
        have hat1 := (entAV_at l k hk).1
        have hat2 := (entAV_at l k hk).2
        have hft := found_take (l := l) (w := w) (kk := kk) hk
        rw [dist_word] at hft
        have hpl := hp _ (memD l k ([], 0) hk)
        have c1 := fun H T => distR_ok2 w (l.getD k ([], 0)).1 hw hpl H T
        have hdl : (foundE (l.take k) w kk).length ≤ 1000 := Nat.le_trans (found_len _ _ _) (by rw [List.length_take]; omega)
        refine aw_skip ?_; simp (maxSteps := 1000000) (disch := omega) [-List.getD_eq_getElem?_getD]
        refine hK2 _ ?_; clear hK2
        refine aw_then fun K3 hK3 => ?_
        refine aw_block ?_
        generalize distE w (l.getD k ([], 0)).1 = dd at *
        generalize l.getD k ([], 0) = p at *
        refine aw_draw [18, 19] [0, 0, 0, 0, 0, 0, 0, 0, 0, 0, 0, 0, 0, 0, 0, 0, 0, 0, 0, 1] [[0, 1, 2, 3, 4, 5, 6, 7, 8, 9, 10, 11, 12, 13, 14, 15, 16, 17], []] drawMixed (by kernel_rfl) (by kernel_rfl) fun K hK => ?_; simp (maxSteps := 1000000) (disch := omega) [-List.getD_eq_getElem?_getD, hat1, hat2, entAV_len]
        refine dcall_is (c1 _ _) rfl ?_; simp (maxSteps := 1000000) (disch := omega) [-List.getD_eq_getElem?_getD, hat1, hat2, entAV_len]
        refine ⟨c1 _ _, ?_⟩
        refine hK _ ?_; clear hK K
        refine aw_then fun K4 hK4 => ?_
        have HO' : HOk (H ++ [.cells [.str p.1, .int .i64 dd, .int .i64 p.2]]) T := HO.snoc (by simp)
        by_cases hd : kk < dd
        · have b3 : decide (kk < dd) = true := decide_eq_true hd
          rw [if_pos hd] at hft
          have hft' : foundE (l.take (k + 1)) w kk = foundE (l.take k) w kk := by rw [hft]; simp
          refine aw_reg fun K hK => ?_; simp (maxSteps := 1000000) (disch := omega) [-List.getD_eq_getElem?_getD, b3, hd]; refine hK _ ?_; clear hK K
          refine aw_if rfl (fun h => ?_) (fun h => absurd h (by simp))
          refine aw_exit ?_; simp (maxSteps := 1000000) (disch := omega) [-List.getD_eq_getElem?_getD]
          refine hK3 _ ?_; clear hK3
          refine aw_reg0 fun K hK => ?_; simp (maxSteps := 1000000) (disch := omega) [-List.getD_eq_getElem?_getD]
          refine hK _ ?_; clear hK K
          refine ⟨k + 1, by show k + 1 ≤ _; omega, by show l.length - (k + 1) < l.length - k; omega, ?_⟩
          simp only [hft']
          refine weak_to [.cells [.str p.1, .int .i64 dd, .int .i64 p.2]] [] ?_ ?_ ?_ ?_ HO ?_
          all_goals simp
        · have b3 : decide (kk < dd) = false := decide_eq_false hd
          rw [if_neg hd] at hft
          have hft' : insR (foundE (l.take (k + 1)) w kk) = insF (p.1, dd, p.2) (insR (foundE (l.take k) w kk)) := by
            rw [hft]
            exact insR_snoc _ _
          have hdl' : (insR (foundE (l.take k) w kk)).length ≤ 1000 := by rw [insR_len]; exact hdl
          generalize insR (foundE (l.take k) w kk) = d at *
          refine aw_reg fun K hK => ?_; simp (maxSteps := 1000000) (disch := omega) [-List.getD_eq_getElem?_getD, b3, hd]; refine hK _ ?_; clear hK K
          refine aw_if rfl (fun h => absurd h (by simp)) (fun h => ?_)
          refine aw_skip ?_; simp (maxSteps := 1000000) (disch := omega) [-List.getD_eq_getElem?_getD]
          refine hK4 _ ?_; clear hK4
          refine aw_reg fun K hK => ?_; simp (maxSteps := 1000000) (disch := omega) [-List.getD_eq_getElem?_getD]; refine hK _ ?_; clear hK K
          refine aw_then fun K5 hK5 => ?_
          refine aw_block ?_
          refine aw_loop (X := Nat) (fun n => ⟨[(0, .sl l.length (entAV l) .none), (1, .str w), (2, .int .i64 kk), (7, .sl d.length (fndAV d) .none), (8, .int .i64 (k : Nat)), (9, .ptr H.length 0), (10, .int .i64 (n : Nat))], H ++ [.cells [.str p.1, .int .i64 dd, .int .i64 p.2]], T⟩)
            (fun n => n ≤ d.length ∧ ∀ j, j < n → aheadF (d.getD j ([], 0, 0)) (p.1, dd, p.2) = true) (fun n => d.length - n) 0 ?_ ?_ ?_
          · exact ⟨Nat.zero_le _, fun j hj => absurd hj (Nat.not_lt_zero _)⟩
          · refine weak_to [] [] ?_ ?_ ?_ ?_ HO' ?_
            all_goals simp
          · rintro n ⟨hn1, hn2⟩
            have go : (n < d.length → aheadF (d.getD n ([], 0, 0)) (p.1, dd, p.2) = false) → ∀ e, envLe (H.length + 1) T.length e [(0, .sl l.length (entAV l) .none), (1, .str w), (2, .int .i64 kk), (7, .sl d.length (fndAV d) .none), (8, .int .i64 (k : Nat)), (9, .ptr H.length 0), (10, .int .i64 (n : Nat))] →
                K5 ⟨e, H ++ [.cells [.str p.1, .int .i64 dd, .int .i64 p.2]], T⟩ := by
              intro hn3 e he
              have hins := insF_at (p.1, dd, p.2) d n hn1 hn2 hn3
              refine hK5 _ (aw_weak ⟨[(0, .sl l.length (entAV l) .none), (1, .str w), (2, .int .i64 kk), (7, .sl d.length (fndAV d) .none), (8, .int .i64 (k : Nat)), (9, .ptr H.length 0), (10, .int .i64 (n : Nat))], H ++ [.cells [.str p.1, .int .i64 dd, .int .i64 p.2]], T⟩ (weak_to [] [] (by simp) (by simp) (by simp) (by simp) HO' (by simpa using he)) ?_)
              have ht := fndAV_takeN d n
              have hdr := fndAV_dropN d n
              have hlt : (fndAV (d.take n)).length = n * 3 := by rw [fndAV_len, List.length_take]; omega
              have hld : (fndAV (d.drop n)).length = (d.length - n) * 3 := by rw [fndAV_len, List.length_drop]
              have htk : (fndAV (d.drop n)).take ((d.length - n) * 3) = fndAV (d.drop n) := by rw [← hld, List.take_length]
              have hres : fndAV (d.take n) ++ .str p.1 :: .int .i64 dd :: .int .i64 p.2 :: fndAV (d.drop n) = fndAV (insF (p.1, dd, p.2) d) := by rw [hins]; simp [fndAV]
              have hlen : n + 1 + (d.length - n) = (insF (p.1, dd, p.2) d).length := by rw [hins]; simp; omega
              refine aw_draw0 [4, 7, 11] [0, 0, 0, 0, 0, 0, 0, 1, 0, 0, 0, 2, 3] [[], [], []] drawMixed (by kernel_rfl) (by kernel_rfl) fun K hK => ?_; simp (maxSteps := 1000000) (disch := omega) [-List.getD_eq_getElem?_getD, amade_zero, fndAV_len, ht, hdr, hlt, hld, htk]
              rw [hres, hlen]
              refine hK _ ?_; clear hK K
              refine hK3 _ ?_; clear hK3
              refine aw_reg0 fun K hK => ?_; simp (maxSteps := 1000000) (disch := omega) [-List.getD_eq_getElem?_getD]
              refine hK _ ?_; clear hK K
              refine ⟨k + 1, by show k + 1 ≤ _; omega, by show l.length - (k + 1) < l.length - k; omega, ?_⟩
              simp only [hft']
              refine weak_to [.cells [.str p.1, .int .i64 dd, .int .i64 p.2]] [((insF (p.1, dd, p.2) d).length * 3, 3)] ?_ ?_ ?_ ?_ HO ?_
              all_goals simp
            clear hK5
            refine aw_then fun K6 hK6 => ?_
            by_cases hn3 : n < d.length
            · have hcut := fndAV_cut d n hn3
              have hst : aheadF (d.getD n ([], 0, 0)) (p.1, dd, p.2) = true → ∀ j, j < n + 1 → aheadF (d.getD j ([], 0, 0)) (p.1, dd, p.2) = true := fun h j hj => by
                rcases Nat.lt_or_ge j n with h3 | h3
                · exact hn2 j h3
                · have : j = n := by omega
                  subst this; exact h
              have c := ahead_ok (d.getD n ([], 0, 0)) (p.1, dd, p.2) (H ++ [.cells [.str p.1, .int .i64 dd, .int .i64 p.2]]) T
              generalize d.getD n ([], 0, 0) = y at *
              have b4 : decide ((n : Int) < d.length) = true := decide_eq_true (by omega)
              cases ha : aheadF y (p.1, dd, p.2) with
              | true =>
                rw [ha] at c
                refine aw_draw [] [] [] drawMixed (by kernel_rfl) (by kernel_rfl) fun K hK => ?_; simp (maxSteps := 1000000) (disch := omega) [-List.getD_eq_getElem?_getD, b4, hn3, hcut, fndAV_len]
                refine dcall_is (c) rfl ?_; simp (maxSteps := 1000000) (disch := omega) [-List.getD_eq_getElem?_getD]
                refine hK _ ?_; clear hK K
                refine aw_if rfl (fun h => ?_) (fun h => absurd h (by simp))
                refine aw_skip ?_; simp (maxSteps := 1000000) (disch := omega) [-List.getD_eq_getElem?_getD]
                refine hK6 _ ?_; clear hK6
                refine aw_block ?_
                refine aw_reg0 fun K hK => ?_; simp (maxSteps := 1000000) (disch := omega) [-List.getD_eq_getElem?_getD]
                refine hK _ ?_; clear hK K
                refine ⟨n + 1, ⟨by show n + 1 ≤ _; omega, hst ha⟩, by show d.length - (n + 1) < d.length - n; omega, ?_⟩
                refine weak_to [] [] ?_ ?_ ?_ ?_ HO' ?_
                all_goals simp
              | false =>
                rw [ha] at c
                refine aw_draw [] [] [] drawMixed (by kernel_rfl) (by kernel_rfl) fun K hK => ?_; simp (maxSteps := 1000000) (disch := omega) [-List.getD_eq_getElem?_getD, b4, hn3, hcut, fndAV_len]
                refine dcall_is (c) rfl ?_; simp (maxSteps := 1000000) (disch := omega) [-List.getD_eq_getElem?_getD]
                refine hK _ ?_; clear hK K
                refine aw_if rfl (fun h => absurd h (by simp)) (fun h => ?_)
                refine aw_exit ?_; simp (maxSteps := 1000000) (disch := omega) [-List.getD_eq_getElem?_getD]
                refine go (fun _ => ha) _ ?_
                simp
            · have b4 : decide ((n : Int) < d.length) = false := decide_eq_false (by omega)
              refine aw_draw [] [] [] drawMixed (by kernel_rfl) (by kernel_rfl) fun K hK => ?_; simp (maxSteps := 1000000) (disch := omega) [-List.getD_eq_getElem?_getD, b4, hn3]
              refine hK _ ?_; clear hK K
              refine aw_if rfl (fun h => absurd h (by simp)) (fun h => ?_)
              refine aw_exit ?_; simp (maxSteps := 1000000) (disch := omega) [-List.getD_eq_getElem?_getD]
              refine go (fun h => absurd h hn3) _ ?_
              simp
      · simp [-List.getD_eq_getElem?_getD] at hk
        have e : k = l.length := by omega
        subst e
        rw [List.take_length, ← hwe]
        refine aw_exit ?_; simp (maxSteps := 1000000) (disch := omega) [-List.getD_eq_getElem?_getD]
        refine hK1 _ ?_; clear hK1
        refine aw_reg fun K hK => ?_; simp (maxSteps := 1000000) (disch := omega) [-List.getD_eq_getElem?_getD]; refine hK _ ?_; clear hK K
        refine aw_ret ?_; simp (maxSteps := 1000000) (disch := omega) [-List.getD_eq_getElem?_getD]
  · have hwe : q = [] := by rw [← hq, withinE, if_neg hno]
    subst hwe
    cases hv : validE l with
    | false =>
      rw [hv] at c0
      refine aw_reg fun K hK => ?_; simp (maxSteps := 1000000) (disch := omega) [-List.getD_eq_getElem?_getD]
      refine acall_is (c0) ?_; simp (maxSteps := 1000000) (disch := omega) [-List.getD_eq_getElem?_getD]
      refine hK _ ?_; clear hK K
      refine aw_if rfl (fun h => ?_) (fun h => absurd h (by simp))
      refine aw_reg fun K hK => ?_; simp (maxSteps := 1000000) (disch := omega) [-List.getD_eq_getElem?_getD]; refine hK _ ?_; clear hK K
      refine aw_ret ?_; simp (maxSteps := 1000000) (disch := omega) [-List.getD_eq_getElem?_getD, fndAV_nil]
    | true =>
      rw [hv] at c0
      by_cases h1 : kk < 0
      · have b1 : decide (kk < 0) = true := decide_eq_true h1
        refine aw_reg fun K hK => ?_; simp (maxSteps := 1000000) (disch := omega) [-List.getD_eq_getElem?_getD]
        refine acall_is (c0) ?_; simp (maxSteps := 1000000) (disch := omega) [-List.getD_eq_getElem?_getD, b1, h1]
        refine hK _ ?_; clear hK K
        refine aw_if rfl (fun h => ?_) (fun h => absurd h (by simp))
        refine aw_reg fun K hK => ?_; simp (maxSteps := 1000000) (disch := omega) [-List.getD_eq_getElem?_getD]; refine hK _ ?_; clear hK K
        refine aw_ret ?_; simp (maxSteps := 1000000) (disch := omega) [-List.getD_eq_getElem?_getD, fndAV_nil]
      · have b1 : decide (kk < 0) = false := decide_eq_false h1
        have h2 : 3 < kk := by
          rcases Int.lt_or_le 3 kk with h2 | h2
          · exact h2
          · exact absurd ⟨hv, by omega, h2⟩ hno
        have b2 : decide (3 < kk) = true := decide_eq_true h2
        refine aw_reg fun K hK => ?_; simp (maxSteps := 1000000) (disch := omega) [-List.getD_eq_getElem?_getD]
        refine acall_is (c0) ?_; simp (maxSteps := 1000000) (disch := omega) [-List.getD_eq_getElem?_getD, b1, h1, b2, h2]
        refine hK _ ?_; clear hK K
        refine aw_if rfl (fun h => ?_) (fun h => absurd h (by simp))
        refine aw_reg fun K hK => ?_; simp (maxSteps := 1000000) (disch := omega) [-List.getD_eq_getElem?_getD]; refine hK _ ?_; clear hK K
        refine aw_ret ?_; simp (maxSteps := 1000000) (disch := omega) [-List.getD_eq_getElem?_getD, fndAV_nil]
end Go.Proofs.Ytbijefgmleagnaa
