/- IdentSerial: the walk.
   Conditions: none. -/
import Derived.Test.YtlemepdiegacbaaIMath3
import Derived.Test.YtlemepdiegacbaaIWk3
namespace Go.Proofs.Ytlemepdiegacbaa
open Go Go.Am Ident
set_option linter.unusedVariables false

theorem nf8_len {t : List UInt8} (hl : t.length = 8) : (nf8 t).length = 9 := by simp [nf8, hl]
theorem app_ne {a : List UInt8} {c : UInt8} : ((a ++ [c]) == []) = false := by simp

set_option maxRecDepth 100000 in
set_option maxHeartbeats 4000000 in
theorem iserial_ok (n a d : Int) (hn0 : (Lit.int .u32 n).wf = true) (ha0 : (Lit.int .u8 a).wf = true) (hd0 : (Lit.int .u8 d).wf = true) : ACall Try.prog 6 [.int .u32 n, .int .u8 a, .int .u8 d] [] [] (fun r _ _ => r = .bool true) := by
  obtain ⟨n, rfl, hn⟩ := u32_wf hn0
  obtain ⟨a, rfl, ha⟩ := u8_wf ha0
  obtain ⟨d, rfl, hd9⟩ := u8_wf hd0
  have c1 := nine_ok n hn [] []
  have hl9 := nineS_len n
  have hl : ((nineS n).take 7).length = 7 := by rw [List.length_take]; omega
  have hd : allDig ((nineS n).take 7) := allDig_take fun i _ hi => nineS_dig n i hi
  generalize nineS n = s9 at *
  generalize hS : s9.take 7 = s at *
  obtain ⟨he1, he2, he3⟩ := eight_ok hl hd
  have hrl := ck8_lt s
  have hbad := fun i (hi : i < 11) (hne : i ≠ ck8 s) => cand_bad hl hd hi hne
  have hgood := eight_issn he1 he2 he3
  have heq : s ++ [tabX.getD (ck8 s) 0] = eight s := rfl
  have hnf : (eight s).take 4 ++ 45 :: (eight s).drop 4 = nf8 (eight s) := rfl
  have hnf1 := nf8_issn he1 he2 he3
  have hnl := nf8_len he2
  generalize hr0 : ck8 s = r at *
  generalize hE : eight s = t at *
  generalize hF : nf8 t = u at *
  refine acall_enter 30 [] Try.ntmps6 Try.func6 rfl (fun _ _ => Try.call6 _ _) (by simp) (fun HO => ?_)
  refine aw_reg fun K hK => ?_; simp (maxSteps := 1000000) (disch := omega) [-List.getD_eq_getElem?_getD]; refine hK _ ?_; clear hK K
  refine aw_then fun K1 hK1 => ?_
  refine aw_reg fun K hK => ?_; simp (maxSteps := 1000000) (disch := omega) [-List.getD_eq_getElem?_getD]
  refine acall_is (awake_ok _ _) ?_; simp (maxSteps := 1000000) (disch := omega) [-List.getD_eq_getElem?_getD]
  refine hK _ ?_; clear hK K
  refine aw_if rfl (fun h => absurd h (by simp)) (fun h => ?_)
  refine aw_skip ?_; simp (maxSteps := 1000000) (disch := omega) [-List.getD_eq_getElem?_getD]
  refine hK1 _ ?_; clear hK1
  refine aw_reg fun K hK => ?_; simp (maxSteps := 1000000) (disch := omega) [-List.getD_eq_getElem?_getD]
  refine acall_is (c1) ?_; simp (maxSteps := 1000000) (disch := omega) [-List.getD_eq_getElem?_getD, hl9, hS]
  refine hK _ ?_; clear hK K
  refine aw_reg fun K hK => ?_; simp (maxSteps := 1000000) (disch := omega) [-List.getD_eq_getElem?_getD]; refine hK _ ?_; clear hK K
  refine aw_then fun K1 hK1 => ?_
  refine aw_reg fun K hK => ?_; simp (maxSteps := 1000000) (disch := omega) [-List.getD_eq_getElem?_getD]; refine hK _ ?_; clear hK K
  refine aw_block ?_
  refine aw_loop (X := Nat) (fun i => ⟨[(1, .int .u8 (a : Nat)), (2, .int .u8 (d : Nat)), (7, .str s), (8, .str (if r < i then t else [])), (29, .int .i64 (i : Nat))], [], []⟩) (fun i => i ≤ 11) (fun i => 11 - i) 0 ?_ ?_ ?_
  · exact Nat.zero_le _
  · refine weak_to [] [] ?_ ?_ ?_ ?_ HO ?_
    all_goals simp
  · intro i hi0
    refine aw_reg fun K hK => ?_; simp (maxSteps := 1000000) (disch := omega) [-List.getD_eq_getElem?_getD]; refine hK _ ?_; clear hK K
    refine aw_then fun K2 hK2 => ?_
    by_cases hi : i < 11
    · have bk : decide ((i : Int) < 11) = true := decide_eq_true (by omega)
      refine aw_if rfl (fun h => ?_) (fun h => absurd h (by simp; omega))
      refine aw_skip ?_; simp (maxSteps := 1000000) (disch := omega) [-List.getD_eq_getElem?_getD]
      refine hK2 _ ?_; clear hK2
      refine aw_then fun K3 hK3 => ?_
      refine aw_block ?_
      refine aw_reg fun K hK => ?_; simp (maxSteps := 1000000) (disch := omega) [-List.getD_eq_getElem?_getD]; refine hK _ ?_; clear hK K
      have hX := tabX_ok hi
      have hx : ([48, 49, 50, 51, 52, 53, 54, 55, 56, 57, 88] : List UInt8).getD i 0 = tabX.getD i 0 := rfl
      have hx8 := enc1 _ (dig_lt hX)
      have hxsz := enc1_size _ (dig_lt hX)
      have hxw := wrap32 (tabX.getD i 0)
      have c2 := issn_ok (s ++ [tabX.getD i 0]) (by simp; omega) [] []
      have hb1 := hbad i hi
      have hlen : (s ++ [tabX.getD i 0]).length = 8 := by simp [hl]
      by_cases hne : i = r
      · subst hne
        rw [heq] at c2
        rw [hgood] at c2
        generalize tabX.getD i 0 = x at *
        have htk : List.take 4 (List.drop 4 t) = List.drop 4 t := List.take_of_length_le (by rw [List.length_drop]; omega)
        refine aw_reg fun K hK => ?_; simp (maxSteps := 1000000) (disch := omega) [-List.getD_eq_getElem?_getD, hx, hx8, hxsz, hxw, heq]; refine hK _ ?_; clear hK K
        refine aw_reg fun K hK => ?_; simp (maxSteps := 1000000) (disch := omega) [-List.getD_eq_getElem?_getD]
        refine acall_is (c2) ?_; simp (maxSteps := 1000000) (disch := omega) [-List.getD_eq_getElem?_getD]
        refine hK _ ?_; clear hK K
        refine aw_reg fun K hK => ?_; simp (maxSteps := 1000000) (disch := omega) [-List.getD_eq_getElem?_getD]; refine hK _ ?_; clear hK K
        refine aw_if rfl (fun h => ?_) (fun h => absurd h (by simp))
        refine aw_then fun K4 hK4 => ?_
        refine aw_draw [] [] [] drawMixed (by kernel_rfl) (by kernel_rfl) fun K hK => ?_; simp (maxSteps := 1000000) (disch := omega) [-List.getD_eq_getElem?_getD, he2, htk, hnf]
        refine hK _ ?_; clear hK K
        refine aw_if rfl (fun h => absurd h (by simp)) (fun h => ?_)
        refine aw_skip ?_; simp (maxSteps := 1000000) (disch := omega) [-List.getD_eq_getElem?_getD]
        refine hK4 _ ?_; clear hK4
        refine aw_reg0 fun K hK => ?_; simp (maxSteps := 1000000) (disch := omega) [-List.getD_eq_getElem?_getD]
        refine hK _ ?_; clear hK K
        refine hK3 _ ?_; clear hK3
        refine aw_reg0 fun K hK => ?_; simp (maxSteps := 1000000) (disch := omega) [-List.getD_eq_getElem?_getD]
        refine hK _ ?_; clear hK K
        refine ⟨i + 1, by show i + 1 ≤ 11; omega, by show 11 - (i + 1) < 11 - i; omega, ?_⟩
        refine weak_to [] [] ?_ ?_ ?_ ?_ HO ?_
        all_goals simp
      · rw [hb1 hne] at c2
        generalize tabX.getD i 0 = x at *
        refine aw_reg fun K hK => ?_; simp (maxSteps := 1000000) (disch := omega) [-List.getD_eq_getElem?_getD, hx, hx8, hxsz, hxw]; refine hK _ ?_; clear hK K
        refine aw_reg fun K hK => ?_; simp (maxSteps := 1000000) (disch := omega) [-List.getD_eq_getElem?_getD]
        refine acall_is (c2) ?_; simp (maxSteps := 1000000) (disch := omega) [-List.getD_eq_getElem?_getD]
        refine hK _ ?_; clear hK K
        refine aw_reg fun K hK => ?_; simp (maxSteps := 1000000) (disch := omega) [-List.getD_eq_getElem?_getD]; refine hK _ ?_; clear hK K
        refine aw_if rfl (fun h => absurd h (by simp)) (fun h => ?_)
        refine aw_skip ?_; simp (maxSteps := 1000000) (disch := omega) [-List.getD_eq_getElem?_getD]
        refine hK3 _ ?_; clear hK3
        refine aw_reg0 fun K hK => ?_; simp (maxSteps := 1000000) (disch := omega) [-List.getD_eq_getElem?_getD]
        refine hK _ ?_; clear hK K
        refine ⟨i + 1, by show i + 1 ≤ 11; omega, by show 11 - (i + 1) < 11 - i; omega, ?_⟩
        have hlt : (r < i + 1) = (r < i) := propext ⟨fun h => by omega, fun h => by omega⟩
        refine weak_to [] [] ?_ ?_ ?_ ?_ HO ?_
        all_goals simp [hlt]
    · have hi11 : i = 11 := by omega
      subst hi11
      refine aw_if rfl (fun h => absurd h (by simp)) (fun h => ?_)
      refine aw_exit ?_; simp (maxSteps := 1000000) (disch := omega) [-List.getD_eq_getElem?_getD]
      refine hK1 _ ?_; clear hK1
      have m1 : ((a : Nat) : Int).tmod 8 = ((a % 8 : Nat) : Int) := rfl
      have m2 : ((d : Nat) : Int).tmod 10 = ((d % 10 : Nat) : Int) := rfl
      have m3 : ((a : Nat) : Int).tmod 6 = ((a % 6 : Nat) : Int) := rfl
      have hk := Nat.mod_lt a (show 0 < 8 by omega)
      have hj := Nat.mod_lt a (show 0 < 6 by omega)
      have hxd := tab10_dig (Nat.mod_lt d (show 0 < 10 by omega))
      have hx : ([48, 49, 50, 51, 52, 53, 54, 55, 56, 57] : List UInt8).getD (d % 10) 0 = tab10.getD (d % 10) 0 := rfl
      have hd10 := Nat.mod_lt d (show 0 < 10 by omega)
      generalize a % 8 = k at *
      generalize a % 6 = j at *
      generalize d % 10 = e at *
      generalize tab10.getD e 0 = x at *
      have c3 := issn_ok t (by omega) [] []
      rw [hgood] at c3
      have c4 := issn_ok u (by omega) [] []
      rw [hnf1] at c4
      have c5 := changed_ok t k x (by omega) (by omega) (dig_lt (.inl hxd)) [] []
      have c6 := issn_ok (t.set k x) (by simp; omega) [] []
      have c7 := issn_ok (t.take j ++ t.getD (j + 1) 0 :: t.getD j 0 :: t.drop (j + 2)) (by simp; omega) [] []
      have i1 := issn_set he1 he2 he3 hk hxd
      have i2 := issn_swap he1 he2 he3 hj
      have e1 := enc1 _ (dig_lt (plainX_at he1 (show j < t.length by omega)))
      have e1s := enc1_size _ (dig_lt (plainX_at he1 (show j < t.length by omega)))
      have e1w := wrap32 (t.getD j 0)
      have e2 := enc1 _ (dig_lt (plainX_at he1 (show j + 1 < t.length by omega)))
      have e2s := enc1_size _ (dig_lt (plainX_at he1 (show j + 1 < t.length by omega)))
      have e2w := wrap32 (t.getD (j + 1) 0)
      have htk : List.take (6 - j) (List.drop (j + 2) t) = List.drop (j + 2) t := List.take_of_length_le (by rw [List.length_drop]; omega)
      have htne : (t == []) = false := by cases ht : t with
        | nil => rw [ht] at he2; cases he2
        | cons c r => rfl
      have htne2 : ¬ t = [] := fun e => by rw [e] at he2; cases he2
      refine aw_then fun K1 hK1 => ?_
      refine aw_reg fun K hK => ?_; simp (maxSteps := 1000000) (disch := omega) [-List.getD_eq_getElem?_getD, hrl, htne, htne2]; refine hK _ ?_; clear hK K
      refine aw_if rfl (fun h => absurd h (by simp [hrl, htne2])) (fun h => ?_)
      refine aw_skip ?_; simp (maxSteps := 1000000) (disch := omega) [-List.getD_eq_getElem?_getD]
      refine hK1 _ ?_; clear hK1
      refine aw_reg fun K hK => ?_; simp (maxSteps := 1000000) (disch := omega) [-List.getD_eq_getElem?_getD, hrl]
      refine acall_is (c3) ?_; simp (maxSteps := 1000000) (disch := omega) [-List.getD_eq_getElem?_getD]
      refine hK _ ?_; clear hK K
      refine aw_reg fun K hK => ?_; simp (maxSteps := 1000000) (disch := omega) [-List.getD_eq_getElem?_getD]
      refine acall_is (c4) ?_; simp (maxSteps := 1000000) (disch := omega) [-List.getD_eq_getElem?_getD]
      refine hK _ ?_; clear hK K
      refine aw_then fun K1 hK1 => ?_
      refine aw_reg fun K hK => ?_; simp (maxSteps := 1000000) (disch := omega) [-List.getD_eq_getElem?_getD]; refine hK _ ?_; clear hK K
      refine aw_if rfl (fun h => absurd h (by simp)) (fun h => ?_)
      refine aw_skip ?_; simp (maxSteps := 1000000) (disch := omega) [-List.getD_eq_getElem?_getD]
      refine hK1 _ ?_; clear hK1
      refine aw_draw [] [] [] drawMixed (by kernel_rfl) (by kernel_rfl) fun K hK => ?_; simp (maxSteps := 1000000) (disch := omega) [-List.getD_eq_getElem?_getD, m1, m2, hx]
      refine hK _ ?_; clear hK K
      refine aw_reg fun K hK => ?_; simp (maxSteps := 1000000) (disch := omega) [-List.getD_eq_getElem?_getD]
      refine acall_is (c5) ?_; simp (maxSteps := 1000000) (disch := omega) [-List.getD_eq_getElem?_getD]
      refine acall_is (c6) ?_; simp (maxSteps := 1000000) (disch := omega) [-List.getD_eq_getElem?_getD]
      refine hK _ ?_; clear hK K
      refine aw_reg fun K hK => ?_; simp (maxSteps := 1000000) (disch := omega) [-List.getD_eq_getElem?_getD, m3]; refine hK _ ?_; clear hK K
      refine aw_draw [] [] [] drawMixed (by kernel_rfl) (by kernel_rfl) fun K hK => ?_; simp (maxSteps := 1000000) (disch := omega) [-List.getD_eq_getElem?_getD, he2, htk, e1, e1s, e1w, e2, e2s, e2w]
      refine dcall_is (c7) rfl ?_; simp (maxSteps := 1000000) (disch := omega) [-List.getD_eq_getElem?_getD]
      refine hK _ ?_; clear hK K
      have hk8 : k < t.length := by omega
      have hj8 : j < t.length := by omega
      have hj9 : j + 1 < t.length := by omega
      generalize (issnR (t.set k x)).2 = q1 at *
      generalize (issnR (t.take j ++ t.getD (j + 1) 0 :: t.getD j 0 :: t.drop (j + 2))).2 = q2 at *
      by_cases p1 : t.getD k 0 = x
      · obtain rfl := i1.2 p1
        by_cases p2 : t.getD j 0 = t.getD (j + 1) 0
        · obtain rfl := i2.2 p2
          refine aw_draw [] [] [] drawMixed (by kernel_rfl) (by kernel_rfl) fun K hK => ?_; simp (maxSteps := 1000000) (disch := omega) [-List.getD_eq_getElem?_getD, p1, p2, hk8, hj8, hj9]
          refine hK _ ?_; clear hK K
          refine aw_ret ?_; simp (maxSteps := 1000000) (disch := omega) [-List.getD_eq_getElem?_getD]
        · have nq : ¬ q2 = 0 := fun h => p2 (i2.1 h)
          have bq : (q2 == 0) = false := beq_eq_false_iff_ne.2 nq
          have bn := neq8 p2
          have bn' : ¬ (t.getD j 0).toNat = (t.getD (j + 1) 0).toNat := fun e => p2 (UInt8.toNat_inj.1 e)
          refine aw_draw [] [] [] drawMixed (by kernel_rfl) (by kernel_rfl) fun K hK => ?_; simp (maxSteps := 1000000) (disch := omega) [-List.getD_eq_getElem?_getD, p1, nq, bq, bn, bn', hk8, hj8, hj9]
          refine hK _ ?_; clear hK K
          refine aw_ret ?_; simp (maxSteps := 1000000) (disch := omega) [-List.getD_eq_getElem?_getD]
      · have nq1 : ¬ q1 = 0 := fun h => p1 (i1.1 h)
        have bq1 : (q1 == 0) = false := beq_eq_false_iff_ne.2 nq1
        have bn1 := neq8 p1
        have bn1' : ¬ (t.getD k 0).toNat = x.toNat := fun e => p1 (UInt8.toNat_inj.1 e)
        by_cases p2 : t.getD j 0 = t.getD (j + 1) 0
        · obtain rfl := i2.2 p2
          refine aw_draw [] [] [] drawMixed (by kernel_rfl) (by kernel_rfl) fun K hK => ?_; simp (maxSteps := 1000000) (disch := omega) [-List.getD_eq_getElem?_getD, nq1, bq1, bn1, bn1', p2, hk8, hj8, hj9]
          refine hK _ ?_; clear hK K
          refine aw_ret ?_; simp (maxSteps := 1000000) (disch := omega) [-List.getD_eq_getElem?_getD]
        · have nq : ¬ q2 = 0 := fun h => p2 (i2.1 h)
          have bq : (q2 == 0) = false := beq_eq_false_iff_ne.2 nq
          have bn := neq8 p2
          have bn' : ¬ (t.getD j 0).toNat = (t.getD (j + 1) 0).toNat := fun e => p2 (UInt8.toNat_inj.1 e)
          refine aw_draw [] [] [] drawMixed (by kernel_rfl) (by kernel_rfl) fun K hK => ?_; simp (maxSteps := 1000000) (disch := omega) [-List.getD_eq_getElem?_getD, nq1, bq1, bn1, bn1', nq, bq, bn, bn', hk8, hj8, hj9]
          refine hK _ ?_; clear hK K
          refine aw_ret ?_; simp (maxSteps := 1000000) (disch := omega) [-List.getD_eq_getElem?_getD]
end Go.Proofs.Ytlemepdiegacbaa
