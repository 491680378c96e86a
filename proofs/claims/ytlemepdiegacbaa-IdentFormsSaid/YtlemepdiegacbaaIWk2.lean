/- IdentDigit: the walk.
   Conditions: none. -/
import Derived.Test.YtlemepdiegacbaaIMath2
import Derived.Test.YtlemepdiegacbaaIWk1
namespace Go.Proofs.Ytlemepdiegacbaa
open Go Go.Am Ident
set_option linter.unusedVariables false

def tab10 : List UInt8 := [48, 49, 50, 51, 52, 53, 54, 55, 56, 57]
theorem tab10_dig {k : Nat} (h : k < 10) : dig (tab10.getD k 0) = true := by
  have key : ∀ r : Fin 10, dig (tab10.getD r.1 0) = true := by decide
  exact key ⟨k, h⟩
theorem neq8 {c x : UInt8} (h : c ≠ x) : ((c.toNat : Int) == (x.toNat : Int)) = false := by
  rw [beq_eq_false_iff_ne]
  intro e
  exact h (UInt8.toNat_inj.1 (by omega))

set_option maxRecDepth 100000 in
set_option maxHeartbeats 2000000 in
theorem idigit_ok (n a d : Int) (hn0 : (Lit.int .u32 n).wf = true) (ha0 : (Lit.int .u8 a).wf = true) (hd0 : (Lit.int .u8 d).wf = true) : ACall Try.prog 4 [.int .u32 n, .int .u8 a, .int .u8 d] [] [] (fun r _ _ => r = .bool true) := by
  obtain ⟨n, rfl, hn⟩ := u32_wf hn0
  obtain ⟨a, rfl, ha⟩ := u8_wf ha0
  obtain ⟨d, rfl, hd9⟩ := u8_wf hd0
  have c1 := nine_ok n hn [] []
  have hl := nineS_len n
  have hd := nineS_dig n
  have c2 := check10_ok (nineS n) (by omega) [] []
  have hck : check10R (nineS n) = (ck10 (nineS n), true) := by unfold check10R; rw [if_pos (plainB_iff.2 ⟨hl, hd⟩)]
  rw [hck] at c2
  have hc8 := enc1 _ (ck10_lt (nineS n))
  have hsz := enc1_size _ (ck10_lt (nineS n))
  have hw := wrap32 (ck10 (nineS n))
  have hten : nineS n ++ [ck10 (nineS n)] = ten (nineS n) := rfl
  have htl := ten_len hl
  have c3 := isbn_ok (ten (nineS n)) (by omega) [] []
  rw [ten_isbn hl hd, long_eq] at c3
  have hLl := long_len hl
  have hxd := tab10_dig (Nat.mod_lt d (show 0 < 10 by omega))
  have m1 : ((d : Nat) : Int).tmod 10 = ((d % 10 : Nat) : Int) := rfl
  have m2 : ((a : Nat) : Int).tmod 10 = ((a % 10 : Nat) : Int) := rfl
  have m3 : ((a : Nat) : Int).tmod 13 = ((a % 13 : Nat) : Int) := rfl
  have hk1 := Nat.mod_lt a (show 0 < 10 by omega)
  have hk2 := Nat.mod_lt a (show 0 < 13 by omega)
  have hb1 := fun hne => change_bad hl hd (a % 10) hk1 (tab10.getD (d % 10) 0) hxd hne
  have hb2 := fun hne => long_change hl hd hk2 hxd hne
  have hx8 : (tab10.getD (d % 10) 0).toNat < 128 := dig_lt (.inl hxd)
  have c4 := changed_ok (ten (nineS n)) (a % 10) (tab10.getD (d % 10) 0) (by omega) (by omega) hx8 [] []
  have c5 := isbn_ok ((ten (nineS n)).set (a % 10) (tab10.getD (d % 10) 0)) (by simp; omega) [] []
  have c6 := changed_ok (long (nineS n)) (a % 13) (tab10.getD (d % 10) 0) (by omega) (by omega) hx8 [] []
  have c7 := isbn_ok ((long (nineS n)).set (a % 13) (tab10.getD (d % 10) 0)) (by simp; omega) [] []
  have hx : tab10.getD (d % 10) 0 = ([48, 49, 50, 51, 52, 53, 54, 55, 56, 57] : List UInt8).getD (d % 10) 0 := rfl
  have hd10 := Nat.mod_lt d (show 0 < 10 by omega)
  generalize a % 10 = k at *
  generalize a % 13 = j at *
  generalize d % 10 = e at *
  generalize hX : tab10.getD e 0 = x at *
  generalize hS : nineS n = s at *
  generalize hC : ck10 s = c at *
  generalize hT : ten s = t at *
  generalize hL : long s = u at *
  generalize hR : (isbnR (t.set k x)).1 = r1 at *
  generalize hR2 : (isbnR (u.set j x)).1 = r2 at *
  generalize hQ2 : (isbnR (u.set j x)).2 = q2 at *
  refine acall_enter 20 [] Try.ntmps4 Try.func4 rfl (fun _ _ => Try.call4 _ _) (by simp) (fun HO => ?_)
  refine aw_reg fun K hK => ?_; simp (maxSteps := 1000000) (disch := omega) [-List.getD_eq_getElem?_getD]; refine hK _ ?_; clear hK K
  refine aw_then fun K1 hK1 => ?_
  refine aw_reg fun K hK => ?_; simp (maxSteps := 1000000) (disch := omega) [-List.getD_eq_getElem?_getD]
  refine acall_is (awake_ok _ _) ?_; simp (maxSteps := 1000000) (disch := omega) [-List.getD_eq_getElem?_getD]
  refine hK _ ?_; clear hK K
  refine aw_if rfl (fun h => absurd h (by simp)) (fun h => ?_)
  refine aw_skip ?_; simp (maxSteps := 1000000) (disch := omega) [-List.getD_eq_getElem?_getD]
  refine hK1 _ ?_; clear hK1
  refine aw_reg fun K hK => ?_; simp (maxSteps := 1000000) (disch := omega) [-List.getD_eq_getElem?_getD]
  refine acall_is (c1) ?_; simp (maxSteps := 1000000) (disch := omega) [-List.getD_eq_getElem?_getD]
  refine hK _ ?_; clear hK K
  refine aw_reg fun K hK => ?_; simp (maxSteps := 1000000) (disch := omega) [-List.getD_eq_getElem?_getD]
  refine acall_is (c2) ?_; simp (maxSteps := 1000000) (disch := omega) [-List.getD_eq_getElem?_getD]
  refine hK _ ?_; clear hK K
  refine aw_reg fun K hK => ?_; simp (maxSteps := 1000000) (disch := omega) [-List.getD_eq_getElem?_getD, hc8, hsz, hw, hten, hl]; refine hK _ ?_; clear hK K
  refine aw_reg fun K hK => ?_; simp (maxSteps := 1000000) (disch := omega) [-List.getD_eq_getElem?_getD]
  refine acall_is (c3) ?_; simp (maxSteps := 1000000) (disch := omega) [-List.getD_eq_getElem?_getD]
  refine hK _ ?_; clear hK K
  refine aw_then fun K1 hK1 => ?_
  refine aw_reg fun K hK => ?_; simp (maxSteps := 1000000) (disch := omega) [-List.getD_eq_getElem?_getD, hLl]; refine hK _ ?_; clear hK K
  refine aw_if rfl (fun h => absurd h (by simp)) (fun h => ?_)
  refine aw_skip ?_; simp (maxSteps := 1000000) (disch := omega) [-List.getD_eq_getElem?_getD]
  refine hK1 _ ?_; clear hK1
  refine aw_reg fun K hK => ?_; simp (maxSteps := 1000000) (disch := omega) [-List.getD_eq_getElem?_getD, m1]; refine hK _ ?_; clear hK K
  rw [← hx]
  refine aw_then fun K1 hK1 => ?_
  have key : ∀ e, envLe 0 0 e [(1, .int .u8 (a : Nat)), (11, .str u), (13, .int .u8 (x.toNat : Int))] → K1 ⟨e, [], []⟩ := by
    intro e he
    refine hK1 _ (aw_weak ⟨[(1, .int .u8 (a : Nat)), (11, .str u), (13, .int .u8 (x.toNat : Int))], [], []⟩ (weak_to [] [] (by simp) (by simp) (by simp) (by simp) HO he) ?_)
    clear hK1 K1
    refine aw_then fun K1 hK1 => ?_
    refine aw_reg fun K hK => ?_; simp (maxSteps := 1000000) (disch := omega) [-List.getD_eq_getElem?_getD, m3]; refine hK _ ?_; clear hK K
    by_cases hne : u.getD j 0 = x
    · have hlj : j < u.length := by omega
      refine aw_reg fun K hK => ?_; simp (maxSteps := 1000000) (disch := omega) [-List.getD_eq_getElem?_getD, hlj, hne]; refine hK _ ?_; clear hK K
      refine aw_if rfl (fun h => absurd h (by simp)) (fun h => ?_)
      refine aw_skip ?_; simp (maxSteps := 1000000) (disch := omega) [-List.getD_eq_getElem?_getD]
      refine hK1 _ ?_; clear hK1
      refine aw_reg fun K hK => ?_; simp (maxSteps := 1000000) (disch := omega) [-List.getD_eq_getElem?_getD]; refine hK _ ?_; clear hK K
      refine aw_ret ?_; simp (maxSteps := 1000000) (disch := omega) [-List.getD_eq_getElem?_getD]
    · have hb := hb2 hne
      have bq : (q2 == 0) = false := beq_eq_false_iff_ne.2 hb
      have hlj : j < u.length := by omega
      have bne := neq8 hne
      have bne' : ¬ (u.getD j 0).toNat = x.toNat := fun e => hne (UInt8.toNat_inj.1 e)
      refine aw_reg fun K hK => ?_; simp (maxSteps := 1000000) (disch := omega) [-List.getD_eq_getElem?_getD, hlj, bne]; refine hK _ ?_; clear hK K
      refine aw_if rfl (fun h => ?_) (fun h => absurd h (by simp [-List.getD_eq_getElem?_getD]; omega))
      refine aw_reg fun K hK => ?_; simp (maxSteps := 1000000) (disch := omega) [-List.getD_eq_getElem?_getD]
      refine acall_is (c6) ?_; simp (maxSteps := 1000000) (disch := omega) [-List.getD_eq_getElem?_getD]
      refine acall_is (c7) ?_; simp (maxSteps := 1000000) (disch := omega) [-List.getD_eq_getElem?_getD]
      refine hK _ ?_; clear hK K
      refine aw_reg fun K hK => ?_; simp (maxSteps := 1000000) (disch := omega) [-List.getD_eq_getElem?_getD, hb, bq]; refine hK _ ?_; clear hK K
      refine aw_if rfl (fun h => absurd h (by simp)) (fun h => ?_)
      refine aw_skip ?_; simp (maxSteps := 1000000) (disch := omega) [-List.getD_eq_getElem?_getD]
      refine hK1 _ ?_; clear hK1
      refine aw_reg fun K hK => ?_; simp (maxSteps := 1000000) (disch := omega) [-List.getD_eq_getElem?_getD]; refine hK _ ?_; clear hK K
      refine aw_ret ?_; simp (maxSteps := 1000000) (disch := omega) [-List.getD_eq_getElem?_getD]
  refine aw_reg fun K hK => ?_; simp (maxSteps := 1000000) (disch := omega) [-List.getD_eq_getElem?_getD, m2]; refine hK _ ?_; clear hK K
  by_cases hne : t.getD k 0 = x
  · have hlk : k < t.length := by omega
    refine aw_reg fun K hK => ?_; simp (maxSteps := 1000000) (disch := omega) [-List.getD_eq_getElem?_getD, hlk, hne]; refine hK _ ?_; clear hK K
    refine aw_if rfl (fun h => absurd h (by simp)) (fun h => ?_)
    refine aw_skip ?_; simp (maxSteps := 1000000) (disch := omega) [-List.getD_eq_getElem?_getD]
    exact key _ (by simp)
  · rw [hb1 hne] at c5
    have hlk : k < t.length := by omega
    have bne := neq8 hne
    have bne' : ¬ (t.getD k 0).toNat = x.toNat := fun e => hne (UInt8.toNat_inj.1 e)
    refine aw_reg fun K hK => ?_; simp (maxSteps := 1000000) (disch := omega) [-List.getD_eq_getElem?_getD, hlk, bne]; refine hK _ ?_; clear hK K
    refine aw_if rfl (fun h => ?_) (fun h => absurd h (by simp [-List.getD_eq_getElem?_getD]; omega))
    refine aw_reg fun K hK => ?_; simp (maxSteps := 1000000) (disch := omega) [-List.getD_eq_getElem?_getD]
    refine acall_is (c4) ?_; simp (maxSteps := 1000000) (disch := omega) [-List.getD_eq_getElem?_getD]
    refine acall_is (c5) ?_; simp (maxSteps := 1000000) (disch := omega) [-List.getD_eq_getElem?_getD]
    refine hK _ ?_; clear hK K
    refine aw_reg fun K hK => ?_; simp (maxSteps := 1000000) (disch := omega) [-List.getD_eq_getElem?_getD]; refine hK _ ?_; clear hK K
    refine aw_if rfl (fun h => absurd h (by simp)) (fun h => ?_)
    refine aw_skip ?_; simp (maxSteps := 1000000) (disch := omega) [-List.getD_eq_getElem?_getD]
    exact key _ (by simp)
end Go.Proofs.Ytlemepdiegacbaa
