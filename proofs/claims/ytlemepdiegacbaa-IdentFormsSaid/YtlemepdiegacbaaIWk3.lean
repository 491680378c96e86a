/- IdentRound: the walk.
   Conditions: none. -/
import Derived.Test.YtlemepdiegacbaaIWk2
namespace Go.Proofs.Ytlemepdiegacbaa
open Go Go.Am Ident
set_option linter.unusedVariables false

theorem tabX_ok {k : Nat} (h : k < 11) : dig (tabX.getD k 0) = true ∨ tabX.getD k 0 = 88 := (tab_val ⟨k, h⟩).2
theorem long_isbn10 {s : List UInt8} (hl : s.length = 9) (hd : allDig s) : isbn10R (long s) = (ten s, 0) := by
  have hck : check10R s = (ck10 s, true) := by unfold check10R; rw [if_pos (plainB_iff.2 ⟨hl, hd⟩)]
  have hp : pre (long s) [57, 55, 56] = true := by unfold pre long lead; simp
  have ht : ((long s).drop 3).take 9 = s := by
    show (s ++ [ck13 (lead s)]).take 9 = s
    rw [← hl, List.take_left]
  unfold isbn10R
  rw [long_isbn hl hd, if_neg (by simp), if_neg (by rw [hp]; simp), ht, hck]
  rfl
theorem long_take {s : List UInt8} (hl : s.length = 9) : (long s).take 12 = 57 :: 55 :: 56 :: s := by
  unfold long
  rw [← lead_len hl, List.take_left]
  rfl
theorem long_at {s : List UInt8} (hl : s.length = 9) : (long s).getD 12 0 = ck13 (lead s) := by
  unfold long
  have := getD_snoc (lead s) (ck13 (lead s))
  rw [lead_len hl] at this
  exact this
theorem long_check {s : List UInt8} (hl : s.length = 9) (hd : allDig s) : check13R (57 :: 55 :: 56 :: s) = ((long s).getD 12 0, true) := by
  show (if plainB (lead s) 12 = true then (ck13 (lead s), true) else (0, false)) = _
  rw [long_at hl, if_pos (plainB_iff.2 ⟨lead_len hl, lead_dig hd⟩)]

set_option maxRecDepth 100000 in
set_option maxHeartbeats 2000000 in
theorem iround_ok (n a : Int) (hn0 : (Lit.int .u32 n).wf = true) (ha0 : (Lit.int .u8 a).wf = true) : ACall Try.prog 9 [.int .u32 n, .int .u8 a] [] [] (fun r _ _ => r = .bool true) := by
  obtain ⟨n, rfl, hn⟩ := u32_wf hn0
  obtain ⟨a, rfl, ha⟩ := u8_wf ha0
  have c1 := nine_ok n hn [] []
  have hl := nineS_len n
  have hd := nineS_dig n
  have c2 := check10_ok (nineS n) (by omega) [] []
  have hck : check10R (nineS n) = (ck10 (nineS n), true) := by unfold check10R; rw [if_pos (plainB_iff.2 ⟨hl, hd⟩)]
  rw [hck] at c2
  have hc8 := enc1 _ (ck10_lt (nineS n))
  have hsz := enc1_size _ (ck10_lt (nineS n))
  have hw := wrap32 (ck10 (nineS n))
  have hten : nineS n ++ [ck10 (nineS n)] = ten (nineS n) := rfl
  have htl := ten_len hl
  have c3 := isbn_ok (ten (nineS n)) (by omega) [] []
  rw [ten_isbn hl hd, long_eq] at c3
  have hLl := long_len hl
  have c4 := isbn10_ok (long (nineS n)) (by omega) [] []
  rw [long_isbn10 hl hd] at c4
  have c5 := isbn_ok (long (nineS n)) (by omega) [] []
  rw [long_isbn hl hd] at c5
  have hlt := long_take hl
  have c6 := check13_ok (57 :: 55 :: 56 :: nineS n) (by simp; omega) [] []
  rw [long_check hl hd] at c6
  have m1 : ((a : Nat) : Int).tmod 11 = ((a % 11 : Nat) : Int) := rfl
  have ha11 := Nat.mod_lt a (show 0 < 11 by omega)
  have hX := tabX_ok ha11
  have hx : tabX.getD (a % 11) 0 = ([48, 49, 50, 51, 52, 53, 54, 55, 56, 57, 88] : List UInt8).getD (a % 11) 0 := rfl
  have hx8 := enc1 _ (dig_lt hX)
  have hxsz := enc1_size _ (dig_lt hX)
  have hxw := wrap32 (tabX.getD (a % 11) 0)
  have c7 := isbn_ok (nineS n ++ [tabX.getD (a % 11) 0]) (by simp; omega) [] []
  have hbad := fun hne => last_bad hl hd hX hne
  have hgood : isbnR (ten (nineS n)) = (long (nineS n), 0) := ten_isbn hl hd
  generalize a % 11 = k at *
  generalize tabX.getD k 0 = x at *
  generalize hS : nineS n = s at *
  generalize hC : ck10 s = c at *
  generalize hT : ten s = t at *
  generalize hL : long s = u at *
  refine acall_enter 19 [] Try.ntmps9 Try.func9 rfl (fun _ _ => Try.call9 _ _) (by simp) (fun HO => ?_)
  refine aw_reg fun K hK => ?_; simp (maxSteps := 1000000) (disch := omega) [-List.getD_eq_getElem?_getD]; refine hK _ ?_; clear hK K
  refine aw_then fun K1 hK1 => ?_
  refine aw_reg fun K hK => ?_; simp (maxSteps := 1000000) (disch := omega) [-List.getD_eq_getElem?_getD]
  refine acall_is (awake_ok _ _) ?_; simp (maxSteps := 1000000) (disch := omega) [-List.getD_eq_getElem?_getD]
  refine hK _ ?_; clear hK K
  refine aw_if rfl (fun h => absurd h (by simp)) (fun h => ?_)
  refine aw_skip ?_; simp (maxSteps := 1000000) (disch := omega) [-List.getD_eq_getElem?_getD]
  refine hK1 _ ?_; clear hK1
  refine aw_reg fun K hK => ?_; simp (maxSteps := 1000000) (disch := omega) [-List.getD_eq_getElem?_getD]
  refine acall_is (c1) ?_; simp (maxSteps := 1000000) (disch := omega) [-List.getD_eq_getElem?_getD]
  refine hK _ ?_; clear hK K
  refine aw_reg fun K hK => ?_; simp (maxSteps := 1000000) (disch := omega) [-List.getD_eq_getElem?_getD]
  refine acall_is (c2) ?_; simp (maxSteps := 1000000) (disch := omega) [-List.getD_eq_getElem?_getD]
  refine hK _ ?_; clear hK K
  refine aw_reg fun K hK => ?_; simp (maxSteps := 1000000) (disch := omega) [-List.getD_eq_getElem?_getD, hc8, hsz, hw, hten, hl]
  refine acall_is (c3) ?_; simp (maxSteps := 1000000) (disch := omega) [-List.getD_eq_getElem?_getD]
  refine hK _ ?_; clear hK K
  refine aw_reg fun K hK => ?_; simp (maxSteps := 1000000) (disch := omega) [-List.getD_eq_getElem?_getD]
  refine acall_is (c4) ?_; simp (maxSteps := 1000000) (disch := omega) [-List.getD_eq_getElem?_getD]
  refine hK _ ?_; clear hK K
  refine aw_reg fun K hK => ?_; simp (maxSteps := 1000000) (disch := omega) [-List.getD_eq_getElem?_getD]
  refine acall_is (c5) ?_; simp (maxSteps := 1000000) (disch := omega) [-List.getD_eq_getElem?_getD]
  refine hK _ ?_; clear hK K
  refine aw_then fun K1 hK1 => ?_
  refine aw_reg fun K hK => ?_; simp (maxSteps := 1000000) (disch := omega) [-List.getD_eq_getElem?_getD, hc8, hsz, hw, hten, hl, hLl, hlt]; refine hK _ ?_; clear hK K
  refine aw_if rfl (fun h => absurd h (by simp)) (fun h => ?_)
  refine aw_skip ?_; simp (maxSteps := 1000000) (disch := omega) [-List.getD_eq_getElem?_getD]
  refine hK1 _ ?_; clear hK1
  refine aw_reg fun K hK => ?_; simp (maxSteps := 1000000) (disch := omega) [-List.getD_eq_getElem?_getD, hLl, hlt]
  refine acall_is (c6) ?_; simp (maxSteps := 1000000) (disch := omega) [-List.getD_eq_getElem?_getD]
  refine hK _ ?_; clear hK K
  refine aw_reg fun K hK => ?_; simp (maxSteps := 1000000) (disch := omega) [-List.getD_eq_getElem?_getD, m1]; refine hK _ ?_; clear hK K
  rw [← hx]
  by_cases hne : x = c
  · rw [hne, hten, hgood] at c7
    rw [hne] at hx8 hxsz hxw
    rw [hne]
    refine aw_reg fun K hK => ?_; simp (maxSteps := 1000000) (disch := omega) [-List.getD_eq_getElem?_getD, hx8, hxsz, hxw, hten]
    refine acall_is (c7) ?_; simp (maxSteps := 1000000) (disch := omega) [-List.getD_eq_getElem?_getD]
    refine hK _ ?_; clear hK K
    refine aw_reg fun K hK => ?_; simp (maxSteps := 1000000) (disch := omega) [-List.getD_eq_getElem?_getD, hLl]; refine hK _ ?_; clear hK K
    refine aw_ret ?_; simp (maxSteps := 1000000) (disch := omega) [-List.getD_eq_getElem?_getD]
  · rw [hbad hne] at c7
    have bne := neq8 hne
    have bne' : ¬ x.toNat = c.toNat := fun e => hne (UInt8.toNat_inj.1 e)
    refine aw_reg fun K hK => ?_; simp (maxSteps := 1000000) (disch := omega) [-List.getD_eq_getElem?_getD, hx8, hxsz, hxw]
    refine acall_is (c7) ?_; simp (maxSteps := 1000000) (disch := omega) [-List.getD_eq_getElem?_getD]
    refine hK _ ?_; clear hK K
    refine aw_reg fun K hK => ?_; simp (maxSteps := 1000000) (disch := omega) [-List.getD_eq_getElem?_getD, hLl, bne, bne']; refine hK _ ?_; clear hK K
    refine aw_ret ?_; simp (maxSteps := 1000000) (disch := omega) [-List.getD_eq_getElem?_getD]
end Go.Proofs.Ytlemepdiegacbaa
