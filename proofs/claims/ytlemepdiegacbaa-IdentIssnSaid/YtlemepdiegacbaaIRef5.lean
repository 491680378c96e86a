/- The reference's other functions.
   Conditions: none. -/
import Derived.Test.YtlemepdiegacbaaIRef4
namespace Go.Proofs.Ytlemepdiegacbaa
open Go Go.Am Ident
set_option linter.unusedVariables false

theorem rd_plain {t : List UInt8} (h : plainX t) : rrun (cut t) (cut t).length = some t := by
  have hc : cut t = t := cut_none _ (plainX_no40 h)
  have hd := digs_plain h
  have h2 := h.1
  rw [hc, rrun_eq (by omega) _ (Nat.le_refl _)]
  have h3 : (drun t t.length).getD [] = t := by
    have : digs t = (drun (cut t) (cut t).length).getD [] := rfl
    rw [hc, hd] at this
    exact this.symm
  cases e : drun t t.length with
  | none =>
    rw [e] at h3
    have : ([] : List UInt8) = t := h3
    rw [← this] at h2
    simp at h2
  | some o =>
    rw [e] at h3
    have : o = t := h3
    rw [this]
theorem rd_dig {t : List UInt8} (h : plainX t) (hs : t.length ≤ 1000) (H : List Blk) (T : Toks) :
    ACall Try.prog 29 [.str t] H T (Is (.tup [.sl t.length (nums t) (.own T.length), .bool (decide (0 < t.length))]) H (T ++ [(t.length, 1)])) := rd_some t hs t (rd_plain h) H T

set_option maxRecDepth 100000 in
theorem rcheck13_ok (s : List UInt8) (hs : s.length ≤ 1000) (H : List Blk) (T : Toks) : ACall Try.prog 14 [.str s] H T (Is (.tup [.int .u8 ((check13R s).1.toNat : Int), .bool (check13R s).2]) H T) := by
  refine ACall.dropT ?_ (by simp)
  have c1 := rplain_ok s 12 hs (by omega) H T
  cases hp : plainB s 12 with
  | false =>
    rw [hp] at c1
    have hres : check13R s = (0, false) := by unfold check13R; rw [hp]; rfl
    refine acall_enter 6 [] Try.ntmps14 Try.func14 rfl (fun _ _ => Try.call14 _ _) (by simp) (fun HO => ?_)
    refine aw_reg fun K hK => ?_; simp (maxSteps := 1000000) (disch := omega) [-List.getD_eq_getElem?_getD]; refine hK _ ?_; clear hK K
    refine aw_then fun K1 hK1 => ?_
    refine aw_reg fun K hK => ?_; simp (maxSteps := 1000000) (disch := omega) [-List.getD_eq_getElem?_getD]
    refine acall_is (c1) ?_; simp (maxSteps := 1000000) (disch := omega) [-List.getD_eq_getElem?_getD]
    refine hK _ ?_; clear hK K
    refine aw_if rfl (fun h => ?_) (fun h => absurd h (by simp))
    refine aw_reg fun K hK => ?_; simp (maxSteps := 1000000) (disch := omega) [-List.getD_eq_getElem?_getD]; refine hK _ ?_; clear hK K
    refine aw_ret ?_; simp (maxSteps := 1000000) (disch := omega) [-List.getD_eq_getElem?_getD, hres]
  | true =>
    rw [hp] at c1
    obtain ⟨hl, hd⟩ := plainB_iff.1 hp
    have hres : check13R s = (ck13 s, true) := by unfold check13R; rw [hp]; rfl
    have c2 := rd_dig (allDig_plain hd (by omega)) hs H T
    rw [hl] at c2
    have c3 := fun tg H T => ralternating_ok s (allDig_ok hd) (by omega) tg H T
    rw [hl] at c3
    have hA := altn_pos (allDig_ok hd) (by omega)
    have hck := ck13_val s
    have hdv := dig_val hck.1
    have q1 : (altn s).tmod 10 = altn s % 10 := tmod_pos hA.1
    have q2 : (10 - altn s % 10).tmod 10 = ((valN (ck13 s) : Nat) : Int) := by rw [tmod_pos (by omega), hck.2]
    have q3 : IntKind.u8.wrap (48 + ((valN (ck13 s) : Nat) : Int)) = ((ck13 s).toNat : Int) := by
      rw [hdv.2]
      simp [IntKind.wrap, IntKind.signed, IntKind.bits]
      omega
    have q4 := hdv.1
    generalize valN (ck13 s) = v at *
    refine acall_enter 6 [] Try.ntmps14 Try.func14 rfl (fun _ _ => Try.call14 _ _) (by simp) (fun HO => ?_)
    refine aw_reg fun K hK => ?_; simp (maxSteps := 1000000) (disch := omega) [-List.getD_eq_getElem?_getD]; refine hK _ ?_; clear hK K
    refine aw_then fun K1 hK1 => ?_
    refine aw_reg fun K hK => ?_; simp (maxSteps := 1000000) (disch := omega) [-List.getD_eq_getElem?_getD]
    refine acall_is (c1) ?_; simp (maxSteps := 1000000) (disch := omega) [-List.getD_eq_getElem?_getD]
    refine hK _ ?_; clear hK K
    refine aw_if rfl (fun h => absurd h (by simp)) (fun h => ?_)
    refine aw_skip ?_; simp (maxSteps := 1000000) (disch := omega) [-List.getD_eq_getElem?_getD]
    refine hK1 _ ?_; clear hK1
    refine aw_reg fun K hK => ?_; simp (maxSteps := 1000000) (disch := omega) [-List.getD_eq_getElem?_getD]
    refine acall_is (c2) ?_; simp (maxSteps := 1000000) (disch := omega) [-List.getD_eq_getElem?_getD]
    refine hK _ ?_; clear hK K
    refine aw_reg fun K hK => ?_; simp (maxSteps := 1000000) (disch := omega) [-List.getD_eq_getElem?_getD]
    refine acall_is (c3 _ _ _) ?_; simp (maxSteps := 1000000) (disch := omega) [-List.getD_eq_getElem?_getD, q1, q2, q3]
    refine hK _ ?_; clear hK K
    refine aw_ret ?_; simp (maxSteps := 1000000) (disch := omega) [-List.getD_eq_getElem?_getD, hres]

theorem falN_ck (s : List UInt8) (hl : s.length = 9) : falN 10 s = fall (s ++ [48]) := by
  have e : (s ++ [48]).length = 9 + 1 := by simp [hl]
  have e0 : valN 48 = 0 := by decide
  unfold fall falN
  rw [e, wsum, hl]
  have h1 : wsum (fV (s ++ [48])) (wF (9 + 1)) 9 = wsum (fV s) (wF 10) 9 := wsum_congr 9 fun i hi => by unfold fV; rw [getD_snoc_lt _ _ (by omega)]
  have h2 : fV (s ++ [48]) 9 = 0 := by
    unfold fV
    have := getD_snoc s 48
    rw [hl] at this
    rw [this, e0]
    rfl
  rw [h1, h2, Int.zero_mul, Int.add_zero]
theorem ck10_val {s : List UInt8} : (dig (ck10 s) = true ∨ ck10 s = 88) ∧ ((valN (ck10 s) : Nat) : Int) = (11 - fall (s ++ [48]) % 11) % 11 := by
  have hr : ((11 - fall (s ++ [48]) % 11) % 11).toNat < 11 := by omega
  obtain ⟨t1, t2⟩ := tab_val ⟨_, hr⟩
  have hck : ck10 s = tabX.getD ((11 - fall (s ++ [48]) % 11) % 11).toNat 0 := rfl
  rw [← hck] at t1 t2
  refine ⟨t2, ?_⟩
  rw [t1]
  simp only
  omega

set_option maxRecDepth 100000 in
theorem rcheck10_ok (s : List UInt8) (hs : s.length ≤ 1000) (H : List Blk) (T : Toks) : ACall Try.prog 16 [.str s] H T (Is (.tup [.int .u8 ((check10R s).1.toNat : Int), .bool (check10R s).2]) H T) := by
  refine ACall.dropT ?_ (by simp)
  have c1 := rplain_ok s 9 hs (by omega) H T
  cases hp : plainB s 9 with
  | false =>
    rw [hp] at c1
    have hres : check10R s = (0, false) := by unfold check10R; rw [hp]; rfl
    refine acall_enter 6 [] Try.ntmps16 Try.func16 rfl (fun _ _ => Try.call16 _ _) (by simp) (fun HO => ?_)
    refine aw_reg fun K hK => ?_; simp (maxSteps := 1000000) (disch := omega) [-List.getD_eq_getElem?_getD]; refine hK _ ?_; clear hK K
    refine aw_then fun K1 hK1 => ?_
    refine aw_reg fun K hK => ?_; simp (maxSteps := 1000000) (disch := omega) [-List.getD_eq_getElem?_getD]
    refine acall_is (c1) ?_; simp (maxSteps := 1000000) (disch := omega) [-List.getD_eq_getElem?_getD]
    refine hK _ ?_; clear hK K
    refine aw_if rfl (fun h => ?_) (fun h => absurd h (by simp))
    refine aw_reg fun K hK => ?_; simp (maxSteps := 1000000) (disch := omega) [-List.getD_eq_getElem?_getD]; refine hK _ ?_; clear hK K
    refine aw_ret ?_; simp (maxSteps := 1000000) (disch := omega) [-List.getD_eq_getElem?_getD, hres]
  | true =>
    rw [hp] at c1
    obtain ⟨hl, hd⟩ := plainB_iff.1 hp
    have hres : check10R s = (ck10 s, true) := by unfold check10R; rw [hp]; rfl
    have c2 := rd_dig (allDig_plain hd (by omega)) hs H T
    rw [hl] at c2
    have c3 := fun tg H T => descending_ok s 10 (allDig_ok hd) (by omega) (by omega) tg H T
    rw [hl, falN_ck s hl] at c3
    have hF := fall_pos (okD_zero hd) (by simp; omega : (s ++ [48]).length ≤ 100)
    have hck := ck10_val (s := s)
    have c4 := fun tg H T => rtext_ok [ck10 s] (fun i hi => by
      match i, hi with
      | 0, _ => exact hck.1) (by simp) tg H T
    have q1 : (fall (s ++ [48])).tmod 11 = fall (s ++ [48]) % 11 := tmod_pos hF.1
    have q2 : (11 - fall (s ++ [48]) % 11).tmod 11 = ((valN (ck10 s) : Nat) : Int) := by rw [tmod_pos (by omega), hck.2]
    have hn : nums [ck10 s] = [.int .i64 ((valN (ck10 s) : Nat) : Int)] := rfl
    rw [hn] at c4
    generalize valN (ck10 s) = v at *
    refine acall_enter 6 [] Try.ntmps16 Try.func16 rfl (fun _ _ => Try.call16 _ _) (by simp) (fun HO => ?_)
    refine aw_reg fun K hK => ?_; simp (maxSteps := 1000000) (disch := omega) [-List.getD_eq_getElem?_getD]; refine hK _ ?_; clear hK K
    refine aw_then fun K1 hK1 => ?_
    refine aw_reg fun K hK => ?_; simp (maxSteps := 1000000) (disch := omega) [-List.getD_eq_getElem?_getD]
    refine acall_is (c1) ?_; simp (maxSteps := 1000000) (disch := omega) [-List.getD_eq_getElem?_getD]
    refine hK _ ?_; clear hK K
    refine aw_if rfl (fun h => absurd h (by simp)) (fun h => ?_)
    refine aw_skip ?_; simp (maxSteps := 1000000) (disch := omega) [-List.getD_eq_getElem?_getD]
    refine hK1 _ ?_; clear hK1
    refine aw_reg fun K hK => ?_; simp (maxSteps := 1000000) (disch := omega) [-List.getD_eq_getElem?_getD]
    refine acall_is (c2) ?_; simp (maxSteps := 1000000) (disch := omega) [-List.getD_eq_getElem?_getD]
    refine hK _ ?_; clear hK K
    refine aw_reg fun K hK => ?_; simp (maxSteps := 1000000) (disch := omega) [-List.getD_eq_getElem?_getD]
    refine acall_is (c3 _ _ _) ?_; simp (maxSteps := 1000000) (disch := omega) [-List.getD_eq_getElem?_getD, q1, q2]
    refine acall_is (c4 _ _ _) ?_; simp (maxSteps := 1000000) (disch := omega) [-List.getD_eq_getElem?_getD]
    refine hK _ ?_; clear hK K
    refine aw_ret ?_; simp (maxSteps := 1000000) (disch := omega) [-List.getD_eq_getElem?_getD, hres]
end Go.Proofs.Ytlemepdiegacbaa
