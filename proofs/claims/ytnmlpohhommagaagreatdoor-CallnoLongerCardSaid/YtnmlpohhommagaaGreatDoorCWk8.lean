/- Longer call numbers (layer 52): the walk of the law.
   Conditions: lengths of the arguments below 2^63, as arguments have; the library's variables hold values of their types. -/
import Derived.Test.YtnmlpohhommagaaGreatDoorCFn14
import Derived.Test.YtnmlpohhommagaaGreatDoorCB
namespace Cn
open Go.Lib Lst
theorem compL_snoc (l : List (List UInt8)) (x : List UInt8) : compL l (l ++ [x]) = -1 := by
  induction l with
  | nil => rfl
  | cons a r ih => rw [List.cons_append, compL_cons, (compareBytes_zero a a).2 rfl, lex_0, ih]
theorem cb_longer (l r : List UInt8) (h : r ≠ []) : compareBytes l (l ++ r) = -1 := by
  induction l with
  | nil =>
    match r, h with
    | _ :: _, _ => rfl
  | cons a q ih => rw [List.cons_append, cb_cons, cmpU_self, lex_0, ih]
theorem cmpI_self (x : Int) : cmpI x x = 0 := (cmpI_zero x x).2 rfl
theorem cb_self (l : List UInt8) : compareBytes l l = 0 := (compareBytes_zero l l).2 rfl
theorem longer_cut (c : Cl) (x : List UInt8) : compF c { c with cut := c.cut ++ [x] } = -1 := by
  unfold compF
  simp only [orI_cons, cmpI_self, cb_self, lex_0, compL_snoc]
  rw [lex_ne (by decide)]
theorem longer_yr (c : Cl) (y : Int) (h0 : c.yr = 0) (hv : validF { c with yr := y } = true) (hne : { c with yr := y } ≠ c) : compF c { c with yr := y } = -1 := by
  have hy : y = 0 ∨ 1000 ≤ y ∧ y ≤ 2999 := valid_yr hv
  have hy0 : y ≠ 0 := fun e => hne (by rw [e, ← h0])
  have h1 : cmpI c.yr y = -1 := by unfold cmpI; rw [if_pos (by omega)]
  have h2 : compL c.cut c.cut = 0 := (compL_zero _ _).2 rfl
  unfold compF
  simp only [orI_cons, cmpI_self, cb_self, lex_0, h2, h1]
  rw [lex_ne (by decide)]
theorem longer_rest (c : Cl) (r : List UInt8) (hne : { c with rest := c.rest ++ r } ≠ c) : compF c { c with rest := c.rest ++ r } = -1 := by
  have hr : r ≠ [] := fun e => hne (by rw [e, List.append_nil])
  have h2 : compL c.cut c.cut = 0 := (compL_zero _ _).2 rfl
  unfold compF
  simp only [orI_cons, cmpI_self, cb_self, lex_0, h2, cb_longer _ _ hr]
  rw [lex_ne (by decide)]
end Cn
namespace Go.Proofs.YtnmlpohhommagaaGreatDoor
open Go Go.Am Cn Lst
set_option linter.unusedVariables false
set_option maxRecDepth 100000

theorem box3l {H : List Blk} {x y z : Blk} : H ++ [x, y, z] = ((H ++ [x]) ++ [y]) ++ [z] := by simp
set_option maxRecDepth 100000 in
set_option maxHeartbeats 16000000 in
/-- CallnoLonger. -/
theorem longer_law (c : Cl) (cu re : List UInt8) (year : Int) (hl : c.cut.length ≤ 9223372036854775807) (hcu : cu.length ≤ Go.maxLen) (hre : re.length ≤ Go.maxLen) (hyr : -9223372036854775808 ≤ year ∧ year ≤ 9223372036854775807) (H : List Blk) (hL : Lb H) :
    ACall Tryz.prog 4 [.agg (clAV c .none), .agg [.str cu, .str re], .int .i64 year] H [] (fun r H' _ => r = .bool true ∧ ∃ G, H' = H ++ G) := by
  have c0 := fun G => awake_ok (H ++ G) [] (hL.app G)
  have f1 := fun G => few_ok c .none hl (H ++ G) []
  have v1 := fun h G => validR_ok c .none (fewF_sm h) (H ++ G) []
  have hsa : ∀ n t, BelowAll n t (strs c.cut) := fun n t => by simp
  have hF5 : fewF c = true → c.cut.length ≤ 5 ∧ c.rest.length ≤ 30 := fun h => by
    simp only [fewF, Bool.and_eq_true, decide_eq_true_eq] at h
    omega
  -- the three longer ones
  obtain ⟨m0, hm0⟩ : ∃ m : Cl, m = ⟨c.sch, c.cls, c.num, c.dec, c.cut ++ [cu], c.yr, c.rest⟩ := ⟨_, rfl⟩
  obtain ⟨y2, hy2⟩ : ∃ y : Int, y = if c.yr = 0 then year else c.yr := ⟨_, rfl⟩
  obtain ⟨m1, hm1⟩ : ∃ m : Cl, m = ⟨c.sch, c.cls, c.num, c.dec, c.cut, y2, c.rest⟩ := ⟨_, rfl⟩
  obtain ⟨m2, hm2⟩ : ∃ m : Cl, m = ⟨c.sch, c.cls, c.num, c.dec, c.cut, c.yr, c.rest ++ re⟩ := ⟨_, rfl⟩
  have hs0 : fewF c = true → cu.length ≤ 30 → Sm m0 := fun h1 h2 => by
    have := fewF_sm h1
    rw [hm0]
    exact ⟨this.cls, this.dec, by have := hF5 h1; simp; omega, fun x hx => by
      rcases List.mem_append.1 hx with hx | hx
      · exact this.each x hx
      · rw [List.mem_singleton] at hx; subst hx; omega, this.rest⟩
  have hs1 : fewF c = true → Sm m1 := fun h1 => by
    have := fewF_sm h1
    rw [hm1]
    exact ⟨this.cls, this.dec, this.cut, this.each, this.rest⟩
  have hs2 : fewF c = true → re.length ≤ 30 → Sm m2 := fun h1 h2 => by
    have := fewF_sm h1
    rw [hm2]
    exact ⟨this.cls, this.dec, this.cut, this.each, by have := hF5 h1; simp; omega⟩
  have hg : ∀ m : Cl, (m = m0 ∨ m = m1 ∨ m = m2) → validF c = true → validF m = true → m ≠ c → compV c m = -1 := fun m hm hv hvm hne => by
    unfold compV
    rw [if_pos ⟨hv, hvm⟩]
    rcases hm with rfl | rfl | rfl
    · rw [hm0]; exact longer_cut c cu
    · rw [hm1, hy2] at hvm hne ⊢
      by_cases h0 : c.yr = 0
      · rw [if_pos h0] at hvm hne ⊢
        exact longer_yr c year h0 hvm hne
      · rw [if_neg h0] at hne
        exact absurd rfl hne
    · rw [hm2] at hne ⊢
      exact longer_rest c re hne
  have kv := fun m (hs : Sm m) G T tg => validR_ok m tg hs (H ++ G) T
  have ke := fun m (hs : Sm m) h1 G T tg => equalR_ok m c tg .none hs (fewF_sm h1) (H ++ G) T
  have kc := fun m (hs : Sm m) h1 G T tg => compareV_ok c m .none tg (fewF_sm h1) hs (H ++ G) T
  have q0 := fun h1 h2 => kv m0 (hs0 h1 h2)
  have q1 := fun h1 => kv m1 (hs1 h1)
  have q2 := fun h1 h2 => kv m2 (hs2 h1 h2)
  have r0 := fun h1 h2 => ke m0 (hs0 h1 h2) h1
  have r1 := fun h1 => ke m1 (hs1 h1) h1
  have r2 := fun h1 h2 => ke m2 (hs2 h1 h2) h1
  have p0 := fun h1 h2 => kc m0 (hs0 h1 h2) h1
  have p1 := fun h1 => kc m1 (hs1 h1) h1
  have p2 := fun h1 h2 => kc m2 (hs2 h1 h2) h1
  have g0 := hg m0 (.inl rfl)
  have g1 := hg m1 (.inr (.inl rfl))
  have g2 := hg m2 (.inr (.inr rfl))
  have hd0 : ∀ m, m ≠ c → decide (m = c) = false := fun m h => decide_eq_false h
  clear hg kv ke kc hs0 hs1 hs2
  generalize fewF c = fc at *
  generalize validF c = vc at *
  generalize validF m0 = w0 at *
  generalize validF m1 = w1 at *
  generalize validF m2 = w2 at *
  generalize compV c m0 = x0 at *
  generalize compV c m1 = x1 at *
  generalize compV c m2 = x2 at *
  have hb0 : w0 = true → vc = true → decide (m0 = c) = false → x0 = -1 := fun h1 h2 h3 => g0 h2 h1 (of_decide_eq_false h3)
  have hb1 : w1 = true → vc = true → decide (m1 = c) = false → x1 = -1 := fun h1 h2 h3 => g1 h2 h1 (of_decide_eq_false h3)
  have hb2 : w2 = true → vc = true → decide (m2 = c) = false → x2 = -1 := fun h1 h2 h3 => g2 h2 h1 (of_decide_eq_false h3)
  clear g0 g1 g2 hd0
  generalize decide (m0 = c) = d0 at *
  generalize decide (m1 = c) = d1 at *
  generalize decide (m2 = c) = d2 at *
  subst hm0
  subst hm1
  subst hm2
  obtain ⟨s1, s2, s3, s4, s5, s6, s7⟩ := c
  simp only [clAV, List.length_append, List.length_cons, List.length_nil, Nat.zero_add] at *
  have hsn : strs s5 ++ [AV.str cu] = strs (s5 ++ [cu]) := strs_snoc s5 cu
  have hcl := strs_len s5
  simp only [← hsn] at q0 r0 p0
  generalize strs s5 = S at *
  clear hsn
  refine acall_enter 66 [38] Tryz.ntmps4 Tryz.func4 rfl (fun _ _ => Tryz.call4 _ _) (by simp) (fun HO => ?_)
  refine aw_reg fun K hK => ?_; simp (maxSteps := 1000000) (disch := omega) [-List.getD_eq_getElem?_getD]; refine hK _ ?_; clear hK K
  refine aw_then fun K1 hK1 => ?_
  refine aw_reg fun K hK => ?_; simp (maxSteps := 1000000) (disch := omega) [-List.getD_eq_getElem?_getD]
  refine acall_is (c0 _) ?_; simp (maxSteps := 1000000) (disch := omega) [-List.getD_eq_getElem?_getD]
  refine hK _ ?_; clear hK K
  refine aw_if rfl (fun h => absurd h (by simp)) (fun h => ?_)
  refine aw_skip ?_; simp (maxSteps := 1000000) (disch := omega) [-List.getD_eq_getElem?_getD]
  refine hK1 _ ?_; clear hK1
  refine aw_draw [] [] [] drawMixed (by kernel_rfl) (by kernel_rfl) fun K hK => ?_; simp (maxSteps := 1000000) (disch := omega) [-List.getD_eq_getElem?_getD]
  refine hK _ ?_; clear hK K
  refine aw_then fun K1 hK1 => ?_
  cases fc with
  | false =>
    refine aw_reg fun K hK => ?_; simp (maxSteps := 1000000) (disch := omega) [-List.getD_eq_getElem?_getD]
    refine acall_is (f1 _) ?_; simp (maxSteps := 1000000) (disch := omega) [-List.getD_eq_getElem?_getD]
    refine hK _ ?_; clear hK K
    refine aw_if rfl (fun h => ?_) (fun h => absurd h (by simp))
    refine aw_reg fun K hK => ?_; simp (maxSteps := 1000000) (disch := omega) [-List.getD_eq_getElem?_getD]; refine hK _ ?_; clear hK K
    refine aw_ret ?_; simp (maxSteps := 1000000) (disch := omega) [-List.getD_eq_getElem?_getD]
  | true =>
  replace v1 := v1 rfl
  cases vc with
  | false =>
    refine aw_reg fun K hK => ?_; simp (maxSteps := 1000000) (disch := omega) [-List.getD_eq_getElem?_getD]
    refine acall_is (f1 _) ?_; simp (maxSteps := 1000000) (disch := omega) [-List.getD_eq_getElem?_getD]
    refine acall_is (v1 _) ?_; simp (maxSteps := 1000000) (disch := omega) [-List.getD_eq_getElem?_getD]
    refine hK _ ?_; clear hK K
    refine aw_if rfl (fun h => ?_) (fun h => absurd h (by simp))
    refine aw_reg fun K hK => ?_; simp (maxSteps := 1000000) (disch := omega) [-List.getD_eq_getElem?_getD]; refine hK _ ?_; clear hK K
    refine aw_ret ?_; simp (maxSteps := 1000000) (disch := omega) [-List.getD_eq_getElem?_getD]
  | true =>
  by_cases hk1 : cu.length ≤ 30
  rotate_left
  · have b1 : decide ((cu.length : Int) > 30) = true := decide_eq_true (by omega)
    have b1' : decide ((30 : Int) < (cu.length : Nat)) = true := decide_eq_true (by omega)
    have b2 : 30 < cu.length := by omega
    refine aw_reg fun K hK => ?_; simp (maxSteps := 1000000) (disch := omega) [-List.getD_eq_getElem?_getD]
    refine acall_is (f1 _) ?_; simp (maxSteps := 1000000) (disch := omega) [-List.getD_eq_getElem?_getD]
    refine acall_is (v1 _) ?_; simp (maxSteps := 1000000) (disch := omega) [-List.getD_eq_getElem?_getD, b1]
    refine hK _ ?_; clear hK K
    refine aw_if rfl (fun h => ?_) (fun h => absurd h (by simp))
    refine aw_reg fun K hK => ?_; simp (maxSteps := 1000000) (disch := omega) [-List.getD_eq_getElem?_getD]; refine hK _ ?_; clear hK K
    refine aw_ret ?_; simp (maxSteps := 1000000) (disch := omega) [-List.getD_eq_getElem?_getD]
  have b1 : decide ((cu.length : Int) > 30) = false := decide_eq_false (by omega)
  have b1' : decide ((30 : Int) < (cu.length : Nat)) = false := decide_eq_false (by omega)
  have b2 : ¬ 30 < cu.length := by omega
  by_cases hk2 : re.length ≤ 30
  rotate_left
  · have b3 : decide ((re.length : Int) > 30) = true := decide_eq_true (by omega)
    have b3' : decide ((30 : Int) < (re.length : Nat)) = true := decide_eq_true (by omega)
    have b4 : 30 < re.length := by omega
    refine aw_reg fun K hK => ?_; simp (maxSteps := 1000000) (disch := omega) [-List.getD_eq_getElem?_getD]
    refine acall_is (f1 _) ?_; simp (maxSteps := 1000000) (disch := omega) [-List.getD_eq_getElem?_getD]
    refine acall_is (v1 _) ?_; simp (maxSteps := 1000000) (disch := omega) [-List.getD_eq_getElem?_getD, b1, b3]
    refine hK _ ?_; clear hK K
    refine aw_if rfl (fun h => ?_) (fun h => absurd h (by simp))
    refine aw_reg fun K hK => ?_; simp (maxSteps := 1000000) (disch := omega) [-List.getD_eq_getElem?_getD]; refine hK _ ?_; clear hK K
    refine aw_ret ?_; simp (maxSteps := 1000000) (disch := omega) [-List.getD_eq_getElem?_getD]
  have b3 : decide ((re.length : Int) > 30) = false := decide_eq_false (by omega)
  have b3' : decide ((30 : Int) < (re.length : Nat)) = false := decide_eq_false (by omega)
  have b4 : ¬ 30 < re.length := by omega
  replace q0 := q0 rfl hk1
  replace q1 := q1 rfl
  replace q2 := q2 rfl hk2
  replace r0 := r0 rfl hk1
  replace r1 := r1 rfl
  replace r2 := r2 rfl hk2
  replace p0 := p0 rfl hk1
  replace p1 := p1 rfl
  replace p2 := p2 rfl hk2
  have h5 := hF5 rfl
  refine aw_reg fun K hK => ?_; simp (maxSteps := 1000000) (disch := omega) [-List.getD_eq_getElem?_getD]
  refine acall_is (f1 _) ?_; simp (maxSteps := 1000000) (disch := omega) [-List.getD_eq_getElem?_getD]
  refine acall_is (v1 _) ?_; simp (maxSteps := 1000000) (disch := omega) [-List.getD_eq_getElem?_getD, b1, b3]
  refine hK _ ?_; clear hK K
  refine aw_if rfl (fun h => absurd h (by simp)) (fun h => ?_)
  refine aw_skip ?_; simp (maxSteps := 1000000) (disch := omega) [-List.getD_eq_getElem?_getD]
  refine hK1 _ ?_; clear hK1
  clear f1 v1 c0 b1 b1' b2 b3 b3' b4 hF5
  have hmk : amade [.int .i64 0, .str [], .int .i64 0, .str [], .sl 0 [] .full, .int .i64 0, .str []] 21 = [.int .i64 0, .str [], .int .i64 0, .str [], .sl 0 [] .full, .int .i64 0, .str [], .int .i64 0, .str [], .int .i64 0, .str [], .sl 0 [] .full, .int .i64 0, .str [], .int .i64 0, .str [], .int .i64 0, .str [], .sl 0 [] .full, .int .i64 0, .str []] := rfl
  refine aw_reg fun K hK => ?_; simp (maxSteps := 1000000) (disch := omega) [-List.getD_eq_getElem?_getD, hmk]
  intro k
  refine hK _ ?_; clear hK K
  refine aw_reg fun K hK => ?_; simp (maxSteps := 1000000) (disch := omega) [-List.getD_eq_getElem?_getD, hcl]
  refine hK _ ?_; clear hK K
  have HO2 : ∀ (y : Int) (r : List UInt8), HOk (H ++ [.cells [.int .i64 s1, .str s2, .int .i64 s3, .str s4, .sl s5.length S .none, .int .i64 s6, .str s7], .cells [.str cu, .str re], .cells (.int .i64 s1 :: .str s2 :: .int .i64 s3 :: .str s4 :: .sl (s5.length + 1) (S ++ [.str cu]) (.own 0) :: .int .i64 s6 :: .str s7 :: .int .i64 s1 :: .str s2 :: .int .i64 s3 :: .str s4 :: .sl s5.length S .none :: .int .i64 y :: .str s7 :: .int .i64 s1 :: .str s2 :: .int .i64 s3 :: .str s4 :: .sl s5.length S .none :: .int .i64 s6 :: .str r :: List.replicate k .top)]) [(s5.length + 1, 1)] := fun y r => by
    rw [box3l]
    exact HOk.snoc (HOk.snoc (HOk.snoc (HO.toks (T' := [(s5.length + 1, 1)]) (by simp)) (by simp [hsa])) (by simp)) (by simp [hsa])
  clear hcu hre hmk
  refine aw_then fun K1 hK1 => ?_
  have go : ∀ e, envLe (H.length + 3) 1 e [(3, .ptr H.length 0), (7, .str cu), (8, .str re), (9, .msl (H.length + 2) 0 3)] → K1 ⟨e, H ++ [.cells [.int .i64 s1, .str s2, .int .i64 s3, .str s4, .sl s5.length S .none, .int .i64 s6, .str s7], .cells [.str cu, .str re], .cells (.int .i64 s1 :: .str s2 :: .int .i64 s3 :: .str s4 :: .sl (s5.length + 1) (S ++ [.str cu]) (.own 0) :: .int .i64 s6 :: .str s7 :: .int .i64 s1 :: .str s2 :: .int .i64 s3 :: .str s4 :: .sl s5.length S .none :: .int .i64 y2 :: .str s7 :: .int .i64 s1 :: .str s2 :: .int .i64 s3 :: .str s4 :: .sl s5.length S .none :: .int .i64 s6 :: .str s7 :: List.replicate k .top)], [(s5.length + 1, 1)]⟩ := by
    intro e he
    refine hK1 _ (aw_weak ⟨[(3, .ptr H.length 0), (7, .str cu), (8, .str re), (9, .msl (H.length + 2) 0 3)], H ++ [.cells [.int .i64 s1, .str s2, .int .i64 s3, .str s4, .sl s5.length S .none, .int .i64 s6, .str s7], .cells [.str cu, .str re], .cells (.int .i64 s1 :: .str s2 :: .int .i64 s3 :: .str s4 :: .sl (s5.length + 1) (S ++ [.str cu]) (.own 0) :: .int .i64 s6 :: .str s7 :: .int .i64 s1 :: .str s2 :: .int .i64 s3 :: .str s4 :: .sl s5.length S .none :: .int .i64 y2 :: .str s7 :: .int .i64 s1 :: .str s2 :: .int .i64 s3 :: .str s4 :: .sl s5.length S .none :: .int .i64 s6 :: .str s7 :: List.replicate k .top)], [(s5.length + 1, 1)]⟩ (weak_to [] [] (by simp) (by simp) (by simp) (by simp) (HO2 _ _) (by simpa using he)) ?_)
    clear hK1 he
    have hrl : s7.length + re.length ≤ 9223372036854775807 := by omega
    refine aw_reg fun K hK => ?_; simp (maxSteps := 1000000) (disch := omega) [-List.getD_eq_getElem?_getD, hrl]
    refine hK _ ?_; clear hK K
    refine aw_then fun K1 hK1 => ?_
    refine aw_reg fun K hK => ?_; simp (maxSteps := 1000000) (disch := omega) [-List.getD_eq_getElem?_getD]; refine hK _ ?_; clear hK K
    refine aw_block ?_
    refine aw_loop (X := Nat) (fun i => ⟨[(3, .ptr H.length 0), (9, .msl (H.length + 2) 0 3), (63, .msl (H.length + 2) 0 3), (64, .int .i64 3), (65, .int .i64 (i : Nat))], H ++ [.cells [.int .i64 s1, .str s2, .int .i64 s3, .str s4, .sl s5.length S .none, .int .i64 s6, .str s7], .cells [.str cu, .str re], .cells (.int .i64 s1 :: .str s2 :: .int .i64 s3 :: .str s4 :: .sl (s5.length + 1) (S ++ [.str cu]) (.own 0) :: .int .i64 s6 :: .str s7 :: .int .i64 s1 :: .str s2 :: .int .i64 s3 :: .str s4 :: .sl s5.length S .none :: .int .i64 y2 :: .str s7 :: .int .i64 s1 :: .str s2 :: .int .i64 s3 :: .str s4 :: .sl s5.length S .none :: .int .i64 s6 :: .str (s7 ++ re) :: List.replicate k .top)], [(s5.length + 1, 1)]⟩) (fun i => i ≤ 3) (fun i => 3 - i) 0 ?_ ?_ ?_
    · exact Nat.zero_le _
    · refine weak_to [] [] ?_ ?_ ?_ ?_ (HO2 _ _) ?_
      all_goals simp
    · rintro i h1
      have h5 : i = 0 ∨ i = 1 ∨ i = 2 ∨ i = 3 := by omega
      rcases h5 with rfl | rfl | rfl | rfl
      · refine aw_reg fun K hK => ?_; simp (maxSteps := 1000000) (disch := omega) [-List.getD_eq_getElem?_getD]; refine hK _ ?_; clear hK K
        refine aw_then fun K3 hK3 => ?_
        refine aw_if rfl (fun h => ?_) (fun h => absurd h (by simp))
        refine aw_skip ?_; simp (maxSteps := 1000000) (disch := omega) [-List.getD_eq_getElem?_getD]
        refine hK3 _ ?_; clear hK3
        refine aw_then fun K4 hK4 => ?_
        refine aw_block ?_
        refine aw_reg fun K hK => ?_; simp (maxSteps := 1000000) (disch := omega) [-List.getD_eq_getElem?_getD]; refine hK _ ?_; clear hK K
        cases w0 with
        | false =>
          refine aw_draw [] [] [] drawMixed (by kernel_rfl) (by kernel_rfl) fun K hK => ?_; simp (maxSteps := 1000000) (disch := omega) [-List.getD_eq_getElem?_getD]
          refine dcall_is (q0 _ _ _) rfl ?_; simp (maxSteps := 1000000) (disch := omega) [-List.getD_eq_getElem?_getD]
          refine hK _ ?_; clear hK K
          refine aw_if rfl (fun h => absurd h (by simp)) (fun h => ?_)
          refine aw_skip ?_; simp (maxSteps := 1000000) (disch := omega) [-List.getD_eq_getElem?_getD]
          refine hK4 _ ?_; clear hK4
          refine aw_reg0 fun K hK => ?_; simp (maxSteps := 1000000) (disch := omega) [-List.getD_eq_getElem?_getD]
          refine hK _ ?_; clear hK K
          refine ⟨1, by show 1 ≤ 3; omega, by show 3 - 1 < 3 - 0; omega, ?_⟩
          refine weak_to [] [] ?_ ?_ ?_ ?_ (HO2 _ _) ?_
          all_goals simp
        | true =>
          cases d0 with
          | true =>
            refine aw_draw [] [] [] drawMixed (by kernel_rfl) (by kernel_rfl) fun K hK => ?_; simp (maxSteps := 1000000) (disch := omega) [-List.getD_eq_getElem?_getD]
            refine dcall_is (q0 _ _ _) rfl ?_; simp (maxSteps := 1000000) (disch := omega) [-List.getD_eq_getElem?_getD]
            refine dcall_is (r0 _ _ _) rfl ?_; simp (maxSteps := 1000000) (disch := omega) [-List.getD_eq_getElem?_getD]
            refine hK _ ?_; clear hK K
            refine aw_if rfl (fun h => absurd h (by simp)) (fun h => ?_)
            refine aw_skip ?_; simp (maxSteps := 1000000) (disch := omega) [-List.getD_eq_getElem?_getD]
            refine hK4 _ ?_; clear hK4
            refine aw_reg0 fun K hK => ?_; simp (maxSteps := 1000000) (disch := omega) [-List.getD_eq_getElem?_getD]
            refine hK _ ?_; clear hK K
            refine ⟨1, by show 1 ≤ 3; omega, by show 3 - 1 < 3 - 0; omega, ?_⟩
            refine weak_to [] [] ?_ ?_ ?_ ?_ (HO2 _ _) ?_
            all_goals simp
          | false =>
            obtain rfl := hb0 rfl rfl rfl
            refine aw_draw [] [] [] drawMixed (by kernel_rfl) (by kernel_rfl) fun K hK => ?_; simp (maxSteps := 1000000) (disch := omega) [-List.getD_eq_getElem?_getD]
            refine dcall_is (q0 _ _ _) rfl ?_; simp (maxSteps := 1000000) (disch := omega) [-List.getD_eq_getElem?_getD]
            refine dcall_is (r0 _ _ _) rfl ?_; simp (maxSteps := 1000000) (disch := omega) [-List.getD_eq_getElem?_getD]
            refine dcall_is (p0 _ _ _) rfl ?_; simp (maxSteps := 1000000) (disch := omega) [-List.getD_eq_getElem?_getD]
            refine hK _ ?_; clear hK K
            refine aw_if rfl (fun h => absurd h (by simp)) (fun h => ?_)
            refine aw_skip ?_; simp (maxSteps := 1000000) (disch := omega) [-List.getD_eq_getElem?_getD]
            refine hK4 _ ?_; clear hK4
            refine aw_reg0 fun K hK => ?_; simp (maxSteps := 1000000) (disch := omega) [-List.getD_eq_getElem?_getD]
            refine hK _ ?_; clear hK K
            refine ⟨1, by show 1 ≤ 3; omega, by show 3 - 1 < 3 - 0; omega, ?_⟩
            refine weak_to [] [] ?_ ?_ ?_ ?_ (HO2 _ _) ?_
            all_goals simp
      · refine aw_reg fun K hK => ?_; simp (maxSteps := 1000000) (disch := omega) [-List.getD_eq_getElem?_getD]; refine hK _ ?_; clear hK K
        refine aw_then fun K3 hK3 => ?_
        refine aw_if rfl (fun h => ?_) (fun h => absurd h (by simp))
        refine aw_skip ?_; simp (maxSteps := 1000000) (disch := omega) [-List.getD_eq_getElem?_getD]
        refine hK3 _ ?_; clear hK3
        refine aw_then fun K4 hK4 => ?_
        refine aw_block ?_
        refine aw_reg fun K hK => ?_; simp (maxSteps := 1000000) (disch := omega) [-List.getD_eq_getElem?_getD]; refine hK _ ?_; clear hK K
        cases w1 with
        | false =>
          refine aw_draw [] [] [] drawMixed (by kernel_rfl) (by kernel_rfl) fun K hK => ?_; simp (maxSteps := 1000000) (disch := omega) [-List.getD_eq_getElem?_getD]
          refine dcall_is (q1 _ _ _) rfl ?_; simp (maxSteps := 1000000) (disch := omega) [-List.getD_eq_getElem?_getD]
          refine hK _ ?_; clear hK K
          refine aw_if rfl (fun h => absurd h (by simp)) (fun h => ?_)
          refine aw_skip ?_; simp (maxSteps := 1000000) (disch := omega) [-List.getD_eq_getElem?_getD]
          refine hK4 _ ?_; clear hK4
          refine aw_reg0 fun K hK => ?_; simp (maxSteps := 1000000) (disch := omega) [-List.getD_eq_getElem?_getD]
          refine hK _ ?_; clear hK K
          refine ⟨2, by show 2 ≤ 3; omega, by show 3 - 2 < 3 - 1; omega, ?_⟩
          refine weak_to [] [] ?_ ?_ ?_ ?_ (HO2 _ _) ?_
          all_goals simp
        | true =>
          cases d1 with
          | true =>
            refine aw_draw [] [] [] drawMixed (by kernel_rfl) (by kernel_rfl) fun K hK => ?_; simp (maxSteps := 1000000) (disch := omega) [-List.getD_eq_getElem?_getD]
            refine dcall_is (q1 _ _ _) rfl ?_; simp (maxSteps := 1000000) (disch := omega) [-List.getD_eq_getElem?_getD]
            refine dcall_is (r1 _ _ _) rfl ?_; simp (maxSteps := 1000000) (disch := omega) [-List.getD_eq_getElem?_getD]
            refine hK _ ?_; clear hK K
            refine aw_if rfl (fun h => absurd h (by simp)) (fun h => ?_)
            refine aw_skip ?_; simp (maxSteps := 1000000) (disch := omega) [-List.getD_eq_getElem?_getD]
            refine hK4 _ ?_; clear hK4
            refine aw_reg0 fun K hK => ?_; simp (maxSteps := 1000000) (disch := omega) [-List.getD_eq_getElem?_getD]
            refine hK _ ?_; clear hK K
            refine ⟨2, by show 2 ≤ 3; omega, by show 3 - 2 < 3 - 1; omega, ?_⟩
            refine weak_to [] [] ?_ ?_ ?_ ?_ (HO2 _ _) ?_
            all_goals simp
          | false =>
            obtain rfl := hb1 rfl rfl rfl
            refine aw_draw [] [] [] drawMixed (by kernel_rfl) (by kernel_rfl) fun K hK => ?_; simp (maxSteps := 1000000) (disch := omega) [-List.getD_eq_getElem?_getD]
            refine dcall_is (q1 _ _ _) rfl ?_; simp (maxSteps := 1000000) (disch := omega) [-List.getD_eq_getElem?_getD]
            refine dcall_is (r1 _ _ _) rfl ?_; simp (maxSteps := 1000000) (disch := omega) [-List.getD_eq_getElem?_getD]
            refine dcall_is (p1 _ _ _) rfl ?_; simp (maxSteps := 1000000) (disch := omega) [-List.getD_eq_getElem?_getD]
            refine hK _ ?_; clear hK K
            refine aw_if rfl (fun h => absurd h (by simp)) (fun h => ?_)
            refine aw_skip ?_; simp (maxSteps := 1000000) (disch := omega) [-List.getD_eq_getElem?_getD]
            refine hK4 _ ?_; clear hK4
            refine aw_reg0 fun K hK => ?_; simp (maxSteps := 1000000) (disch := omega) [-List.getD_eq_getElem?_getD]
            refine hK _ ?_; clear hK K
            refine ⟨2, by show 2 ≤ 3; omega, by show 3 - 2 < 3 - 1; omega, ?_⟩
            refine weak_to [] [] ?_ ?_ ?_ ?_ (HO2 _ _) ?_
            all_goals simp
      · refine aw_reg fun K hK => ?_; simp (maxSteps := 1000000) (disch := omega) [-List.getD_eq_getElem?_getD]; refine hK _ ?_; clear hK K
        refine aw_then fun K3 hK3 => ?_
        refine aw_if rfl (fun h => ?_) (fun h => absurd h (by simp))
        refine aw_skip ?_; simp (maxSteps := 1000000) (disch := omega) [-List.getD_eq_getElem?_getD]
        refine hK3 _ ?_; clear hK3
        refine aw_then fun K4 hK4 => ?_
        refine aw_block ?_
        refine aw_reg fun K hK => ?_; simp (maxSteps := 1000000) (disch := omega) [-List.getD_eq_getElem?_getD]; refine hK _ ?_; clear hK K
        cases w2 with
        | false =>
          refine aw_draw [] [] [] drawMixed (by kernel_rfl) (by kernel_rfl) fun K hK => ?_; simp (maxSteps := 1000000) (disch := omega) [-List.getD_eq_getElem?_getD]
          refine dcall_is (q2 _ _ _) rfl ?_; simp (maxSteps := 1000000) (disch := omega) [-List.getD_eq_getElem?_getD]
          refine hK _ ?_; clear hK K
          refine aw_if rfl (fun h => absurd h (by simp)) (fun h => ?_)
          refine aw_skip ?_; simp (maxSteps := 1000000) (disch := omega) [-List.getD_eq_getElem?_getD]
          refine hK4 _ ?_; clear hK4
          refine aw_reg0 fun K hK => ?_; simp (maxSteps := 1000000) (disch := omega) [-List.getD_eq_getElem?_getD]
          refine hK _ ?_; clear hK K
          refine ⟨3, by show 3 ≤ 3; omega, by show 3 - 3 < 3 - 2; omega, ?_⟩
          refine weak_to [] [] ?_ ?_ ?_ ?_ (HO2 _ _) ?_
          all_goals simp
        | true =>
          cases d2 with
          | true =>
            refine aw_draw [] [] [] drawMixed (by kernel_rfl) (by kernel_rfl) fun K hK => ?_; simp (maxSteps := 1000000) (disch := omega) [-List.getD_eq_getElem?_getD]
            refine dcall_is (q2 _ _ _) rfl ?_; simp (maxSteps := 1000000) (disch := omega) [-List.getD_eq_getElem?_getD]
            refine dcall_is (r2 _ _ _) rfl ?_; simp (maxSteps := 1000000) (disch := omega) [-List.getD_eq_getElem?_getD]
            refine hK _ ?_; clear hK K
            refine aw_if rfl (fun h => absurd h (by simp)) (fun h => ?_)
            refine aw_skip ?_; simp (maxSteps := 1000000) (disch := omega) [-List.getD_eq_getElem?_getD]
            refine hK4 _ ?_; clear hK4
            refine aw_reg0 fun K hK => ?_; simp (maxSteps := 1000000) (disch := omega) [-List.getD_eq_getElem?_getD]
            refine hK _ ?_; clear hK K
            refine ⟨3, by show 3 ≤ 3; omega, by show 3 - 3 < 3 - 2; omega, ?_⟩
            refine weak_to [] [] ?_ ?_ ?_ ?_ (HO2 _ _) ?_
            all_goals simp
          | false =>
            obtain rfl := hb2 rfl rfl rfl
            refine aw_draw [] [] [] drawMixed (by kernel_rfl) (by kernel_rfl) fun K hK => ?_; simp (maxSteps := 1000000) (disch := omega) [-List.getD_eq_getElem?_getD]
            refine dcall_is (q2 _ _ _) rfl ?_; simp (maxSteps := 1000000) (disch := omega) [-List.getD_eq_getElem?_getD]
            refine dcall_is (r2 _ _ _) rfl ?_; simp (maxSteps := 1000000) (disch := omega) [-List.getD_eq_getElem?_getD]
            refine dcall_is (p2 _ _ _) rfl ?_; simp (maxSteps := 1000000) (disch := omega) [-List.getD_eq_getElem?_getD]
            refine hK _ ?_; clear hK K
            refine aw_if rfl (fun h => absurd h (by simp)) (fun h => ?_)
            refine aw_skip ?_; simp (maxSteps := 1000000) (disch := omega) [-List.getD_eq_getElem?_getD]
            refine hK4 _ ?_; clear hK4
            refine aw_reg0 fun K hK => ?_; simp (maxSteps := 1000000) (disch := omega) [-List.getD_eq_getElem?_getD]
            refine hK _ ?_; clear hK K
            refine ⟨3, by show 3 ≤ 3; omega, by show 3 - 3 < 3 - 2; omega, ?_⟩
            refine weak_to [] [] ?_ ?_ ?_ ?_ (HO2 _ _) ?_
            all_goals simp
      · refine aw_reg fun K hK => ?_; simp (maxSteps := 1000000) (disch := omega) [-List.getD_eq_getElem?_getD]; refine hK _ ?_; clear hK K
        refine aw_then fun K3 hK3 => ?_
        refine aw_if rfl (fun h => absurd h (by simp)) (fun h => ?_)
        refine aw_exit ?_; simp (maxSteps := 1000000) (disch := omega) [-List.getD_eq_getElem?_getD]
        refine hK1 _ ?_; clear hK1
        refine aw_reg fun K hK => ?_; simp (maxSteps := 1000000) (disch := omega) [-List.getD_eq_getElem?_getD]; refine hK _ ?_; clear hK K
        refine aw_ret ?_; simp (maxSteps := 1000000) (disch := omega) [-List.getD_eq_getElem?_getD]
  by_cases h0 : s6 = 0
  · have e1 : (s6 == 0) = true := beq_iff_eq.2 h0
    rw [if_pos h0] at hy2
    subst hy2
    refine aw_reg fun K hK => ?_; simp (maxSteps := 1000000) (disch := omega) [-List.getD_eq_getElem?_getD, e1]; refine hK _ ?_; clear hK K
    refine aw_if rfl (fun h => ?_) (fun h => absurd h (by simp))
    refine aw_reg0 fun K hK => ?_; simp (maxSteps := 1000000) (disch := omega) [-List.getD_eq_getElem?_getD]
    refine hK _ ?_; clear hK K
    refine go _ ?_
    simp
  · have e1 : (s6 == 0) = false := beq_eq_false_iff_ne.2 h0
    rw [if_neg h0] at hy2
    subst hy2
    refine aw_reg fun K hK => ?_; simp (maxSteps := 1000000) (disch := omega) [-List.getD_eq_getElem?_getD, e1]; refine hK _ ?_; clear hK K
    refine aw_if rfl (fun h => absurd h (by simp)) (fun h => ?_)
    refine aw_skip ?_; simp (maxSteps := 1000000) (disch := omega) [-List.getD_eq_getElem?_getD]
    refine go _ ?_
    simp
end Go.Proofs.YtnmlpohhommagaaGreatDoor
