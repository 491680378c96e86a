/- The readers of lists of texts of layer 1.
   Conditions: lengths below 2^40. -/
import Derived.Test.YtgnhfcncbkikgaaWFn6
namespace Go.Proofs.Ytgnhfcncbkikgaa
open Go Go.Am Wire
set_option linter.unusedVariables false

/-- What the closure of Ints has captured. -/
def capT (i : Nat) (m : Int) : List Blk := [.cells [.ptr i 0], .cells [.int .i64 m]]

theorem elText_ok (bs : List UInt8) (s : Rd) (m : Int) (hs : s.at_ ≤ bs.length) (hb : bs.length ≤ 1099511627776) (H : List Blk) (T : Toks) (i : Nat) (hi_ : H[i]? = some (.cells (rd bs s))) :
    ACall Try.prog 43 [.ptr H.length 0, .ptr (H.length + 1) 0] (H ++ capT i m) T (Is (.str (rText bs m s).1) (H.set i (.cells (rd bs (rText bs m s).2)) ++ capT i m) T) := by
  have hl := (List.getElem?_eq_some_iff.1 hi_).1
  have hc := wText_ok bs s m hs hb (H ++ capT i m) T i (by rw [List.getElem?_append_left hl]; exact hi_)
  rw [List.set_append_left _ _ hl] at hc
  have c0 : (H ++ capT i m)[H.length]? = some (.cells [.ptr i 0]) := new_at0 _ _
  have c1 : (H ++ capT i m)[H.length + 1]? = some (.cells [.int .i64 m]) := new_at _ _ 1
  refine acall_enter 3 [] Try.ntmps43 Try.func43 rfl (fun _ _ => Try.call43 _ _) (by simp) (fun HO => ?_)
  refine aw_reg fun K hK => ?_; simp (maxSteps := 200000) (disch := omega) [-List.getD_eq_getElem?_getD]; refine hK _ ?_; clear hK K
  refine aw_reg fun K hK => ?_; simp (maxSteps := 200000) (disch := omega) [-List.getD_eq_getElem?_getD, c0, c1]
  refine acall_is (hc) ?_; simp (maxSteps := 200000) (disch := omega) [-List.getD_eq_getElem?_getD]
  refine hK _ ?_; clear hK K
  refine aw_ret ?_; simp (maxSteps := 200000) (disch := omega) [-List.getD_eq_getElem?_getD]
  exact ⟨rfl, rfl, rfl⟩

theorem readText_ok (bs : List UInt8) (s : Rd) (mx m : Int) (hs : s.at_ ≤ bs.length) (hb : bs.length ≤ 1099511627776) (H : List Blk) (T : Toks) (i : Nat) (hi_ : H[i]? = some (.cells (rd bs s))) :
    ACall Try.prog 42 [.ptr i 0, .int .i64 mx, .fn 43 [] [.ptr H.length 0, .ptr (H.length + 1) 0]] (H ++ capT i m) T
      (Is (.sl (rList bs mx (rText bs m) s).1.length (strs (rList bs mx (rText bs m) s).1) .none) (H.set i (.cells (rd bs (rList bs mx (rText bs m) s).2)) ++ capT i m) T) := by
  have hl := (List.getElem?_eq_some_iff.1 hi_).1
  have hg : (H ++ capT i m)[i]? = some (.cells (rd bs s)) := by rw [List.getElem?_append_left hl]; exact hi_
  have hc := wInt_ok bs s 0 mx hs hb (H ++ capT i m) T i hg
  rw [List.set_append_left _ _ hl] at hc
  have hle := rInt_le bs 0 mx s hs
  have hnn := rInt_nonneg bs mx s
  have hup := (rInt_i64 bs 0 mx s).2
  refine ACall.cut _ T (by simp) (Nat.le_refl _) (fun h => ?_) (by simp) ?_
  · have := h.set (k := i) (vs := rd bs (rList bs mx (rText bs m) s).2) (by simp [rd])
    rwa [List.set_append_left _ _ hl] at this
  refine acall_enter 10 [] Try.ntmps42 Try.func42 rfl (fun _ _ => Try.call42 _ _) (by simp) (fun HO => ?_)
  refine aw_reg fun K hK => ?_; simp (maxSteps := 200000) (disch := omega) [-List.getD_eq_getElem?_getD]; refine hK _ ?_; clear hK K
  refine aw_then fun K1 hK1 => ?_
  refine aw_reg fun K hK => ?_; simp (maxSteps := 200000) (disch := omega) [-List.getD_eq_getElem?_getD]; refine hK _ ?_; clear hK K
  refine aw_if rfl (fun h => absurd h (by simp)) (fun h => ?_)
  refine aw_skip ?_; simp (maxSteps := 200000) (disch := omega) [-List.getD_eq_getElem?_getD]
  refine hK1 _ ?_; clear hK1
  refine aw_reg fun K hK => ?_; simp (maxSteps := 200000) (disch := omega) [-List.getD_eq_getElem?_getD, hg, hl, rd]; refine hK _ ?_; clear hK K
  refine aw_reg fun K hK => ?_; simp (maxSteps := 200000) (disch := omega) [-List.getD_eq_getElem?_getD]; refine hK _ ?_; clear hK K
  refine aw_then fun K1 hK1 => ?_
  refine aw_reg fun K hK => ?_; simp (maxSteps := 200000) (disch := omega) [-List.getD_eq_getElem?_getD]
  refine acall_is (hc) ?_; simp (maxSteps := 200000) (disch := omega) [-List.getD_eq_getElem?_getD]
  refine hK _ ?_; clear hK K
  refine aw_block ?_
  refine aw_own 8 0 1 [] (by omega) (by simp) ?_
  generalize hn0 : (rInt bs 0 mx s).1 = n0 at *
  generalize hq0 : (rInt bs 0 mx s).2 = q0 at *
  have hlen : (H ++ capT i m).length = H.length + 2 := by simp [capT]
  have hok : ∀ (q : Rd) (k : Nat), HOk (H.set i (.cells (rd bs q)) ++ capT i m) (T ++ [(k, 1)]) := fun q k => by
    have := (HO.set (k := i) (vs := rd bs q) (by simp [rd])).toks (T' := T ++ [(k, 1)]) (by simp)
    rwa [List.set_append_left _ _ hl] at this
  refine aw_loop (X := Nat × Rd × List (List UInt8)) (fun x => ⟨[(0, .ptr i 0), (2, .fn 43 [] [.ptr H.length 0, .ptr (H.length + 1) 0]), (7, .int .i64 (s.at_ : Nat)), (8, .sl x.2.2.length (strs x.2.2) (.own T.length)), (9, .int .i64 (x.1 : Nat))],
      H.set i (.cells (rd bs x.2.1)) ++ capT i m, T ++ [(x.2.2.length, 1)]⟩)
    (fun x => x.2.1.at_ ≤ bs.length ∧ (x.1 ≤ 9223372036854775807 ∧ (x.2.1.bad = false → x.2.2.length ≤ x.2.1.at_)) ∧ rLoop (rText bs m) n0.toNat q0 [] = rLoop (rText bs m) x.1 x.2.1 x.2.2) (fun x => x.1) (n0.toNat, q0, []) ?_ ?_ ?_
  · exact ⟨hle, ⟨by simp only; omega, fun _ => Nat.zero_le _⟩, rfl⟩
  · refine weak_to [] [] ?_ ?_ ?_ ?_ ?_ ?_
    · simp
    · simp
    · simp
    · simp
    · exact hok _ _
    · have e : ((n0.toNat : Nat) : Int) = n0 := by omega
      simp [e, capT]
      omega
  · rintro ⟨n, ⟨qa, qb⟩, out⟩ ⟨hq, ⟨hn63, hlo⟩, hr⟩
    simp only at hq hn63 hlo hr
    have hgq : (H.set i (.cells (rd bs ⟨qa, qb⟩)) ++ capT i m)[i]? = some (.cells (rd bs ⟨qa, qb⟩)) := by rw [List.getElem?_append_left (by simp [hl])]; simp [hl]
    have hc := elText_ok bs ⟨qa, qb⟩ m hq hb (H.set i (.cells (rd bs ⟨qa, qb⟩))) (T ++ [(out.length, 1)]) i (by simp [hl])
    simp only [List.length_set, List.set_set] at hc
    have hqe := rText_le bs m ⟨qa, qb⟩ hq
    simp only [rd] at hgq
    by_cases hn : 0 < n ∧ qb = false
    · obtain ⟨hn, rfl⟩ := hn
      have hlo := hlo rfl
      have hadv := rText_adv (bs := bs) (s := ⟨qa, false⟩) (mx := m) rfl
      have hd : decide (0 < (n : Int)) = true := by simp; omega
      have hst := rLoop_step (rText bs m) n ⟨qa, false⟩ out hn rfl
      generalize hx : (rText bs m ⟨qa, false⟩).1 = x at *
      generalize hy : (rText bs m ⟨qa, false⟩).2 = y at *
      refine aw_then fun K2 hK2 => ?_
      refine aw_reg fun K hK => ?_; simp (maxSteps := 200000) (disch := omega) [-List.getD_eq_getElem?_getD, hgq, hl, rd, hn]; refine hK _ ?_; clear hK K
      refine aw_if rfl (fun h => ?_) (fun h => absurd h (by simp))
      refine aw_skip ?_; simp (maxSteps := 200000) (disch := omega) [-List.getD_eq_getElem?_getD]
      refine hK2 _ ?_; clear hK2
      refine aw_then fun K3 hK3 => ?_
      refine aw_block ?_
      refine aw_reg0 fun K hK => ?_; simp (maxSteps := 200000) (disch := omega) [-List.getD_eq_getElem?_getD]
      refine acall_is (hc) ?_; simp (maxSteps := 200000) (disch := omega) [-List.getD_eq_getElem?_getD]
      refine hK _ ?_; clear hK K
      (try simp (maxSteps := 200000) (disch := omega) [-List.getD_eq_getElem?_getD])
      refine hK3 _ ?_; clear hK3
      refine aw_reg0 fun K hK => ?_; simp (maxSteps := 200000) (disch := omega) [-List.getD_eq_getElem?_getD]
      refine hK _ ?_; clear hK K
      refine ⟨(n - 1, y, out ++ [x]), ⟨hqe, ⟨by show n - 1 ≤ _; omega, fun hy => by have := hadv hy; simp only [List.length_append, List.length_cons, List.length_nil] at this ⊢; omega⟩, by rw [hr, hst]⟩, by show n - 1 < n; omega, ?_⟩
      refine weak_to [] [] ?_ ?_ ?_ ?_ ?_ ?_
      · simp
      · simp
      · simp
      · simp
      · exact hok _ _
      · simp [strs_snoc, capT]
        omega
    · have hfin : rLoop (rText bs m) n ⟨qa, qb⟩ out = (out, ⟨qa, qb⟩) := by
        rcases Nat.eq_zero_or_pos n with h0 | h0
        · subst h0; rfl
        · exact rLoop_bad _ _ _ _ (by cases qb <;> simp_all)
      have hres : rList bs mx (rText bs m) s = if qb = true then ([], ⟨s.at_, true⟩) else (out, ⟨qa, qb⟩) := by
        unfold rList
        rw [hn0, hq0, hr, hfin]
      cases qb
      · have hn0' : n = 0 := by
          rcases Nat.eq_zero_or_pos n with h0 | h0
          · exact h0
          · exact absurd ⟨h0, rfl⟩ hn
        subst hn0'
        refine aw_then fun K2 hK2 => ?_
        refine aw_reg fun K hK => ?_; simp (maxSteps := 200000) (disch := omega) [-List.getD_eq_getElem?_getD, hgq, hl, rd]; refine hK _ ?_; clear hK K
        refine aw_if rfl (fun h => absurd h (by simp)) (fun h => ?_)
        refine aw_exit ?_; simp (maxSteps := 200000) (disch := omega) [-List.getD_eq_getElem?_getD]
        refine hK1 _ ?_; clear hK1
        refine aw_then fun K4 hK4 => ?_
        refine aw_reg fun K hK => ?_; simp (maxSteps := 200000) (disch := omega) [-List.getD_eq_getElem?_getD, hgq, hl, rd]; refine hK _ ?_; clear hK K
        refine aw_if rfl (fun h => absurd h (by simp)) (fun h => ?_)
        refine aw_skip ?_; simp (maxSteps := 200000) (disch := omega) [-List.getD_eq_getElem?_getD]
        refine hK4 _ ?_; clear hK4
        refine aw_reg fun K hK => ?_; simp (maxSteps := 200000) (disch := omega) [-List.getD_eq_getElem?_getD]; refine hK _ ?_; clear hK K
        refine aw_ret ?_; simp (maxSteps := 200000) (disch := omega) [-List.getD_eq_getElem?_getD]
        rw [hres]
        exact ⟨⟨[], by simp [rd]⟩, rfl, rfl⟩
      · rcases Nat.eq_zero_or_pos n with hp | hp
        all_goals
          refine aw_then fun K2 hK2 => ?_
          refine aw_reg fun K hK => ?_; simp (maxSteps := 200000) (disch := omega) [-List.getD_eq_getElem?_getD, hgq, hl, rd, hp]; refine hK _ ?_; clear hK K
          refine aw_if rfl (fun h => absurd h (by simp)) (fun h => ?_)
          refine aw_exit ?_; simp (maxSteps := 200000) (disch := omega) [-List.getD_eq_getElem?_getD]
          refine hK1 _ ?_; clear hK1
          refine aw_then fun K4 hK4 => ?_
          refine aw_reg fun K hK => ?_; simp (maxSteps := 200000) (disch := omega) [-List.getD_eq_getElem?_getD, hgq, hl, rd]; refine hK _ ?_; clear hK K
          refine aw_if rfl (fun h => ?_) (fun h => absurd h (by simp))
          refine aw_reg fun K hK => ?_; simp (maxSteps := 200000) (disch := omega) [-List.getD_eq_getElem?_getD, hgq, hl, rd]; refine hK _ ?_; clear hK K
          refine aw_reg fun K hK => ?_; simp (maxSteps := 200000) (disch := omega) [-List.getD_eq_getElem?_getD]; refine hK _ ?_; clear hK K
          refine aw_ret ?_; simp (maxSteps := 200000) (disch := omega) [-List.getD_eq_getElem?_getD]
          rw [hres, List.set_append_left _ _ (by simp [hl])]
          exact ⟨⟨[], by simp [rd]⟩, rfl, rfl⟩

theorem wTexts_ok (bs : List UInt8) (s : Rd) (mx m : Int) (hs : s.at_ ≤ bs.length) (hb : bs.length ≤ 1099511627776) (H : List Blk) (T : Toks) (i : Nat) (hi_ : H[i]? = some (.cells (rd bs s))) :
    ACall Try.prog 24 [.ptr i 0, .int .i64 mx, .int .i64 m] H T
      (Is (.sl (rList bs mx (rText bs m) s).1.length (strs (rList bs mx (rText bs m) s).1) .none) (H.set i (.cells (rd bs (rList bs mx (rText bs m) s).2))) T) := by
  have hc := readText_ok bs s mx m hs hb H T i hi_
  refine ACall.cut _ T (by simp) (Nat.le_refl _) (fun h => h.set (by simp [rd])) (by simp) ?_
  refine acall_enter 7 [] Try.ntmps24 Try.func24 rfl (fun _ _ => Try.call24 _ _) (by simp) (fun HO => ?_)
  refine aw_reg fun K hK => ?_; simp (maxSteps := 200000) (disch := omega) [-List.getD_eq_getElem?_getD]; refine hK _ ?_; clear hK K
  refine aw_reg fun K hK => ?_; simp (maxSteps := 200000) (disch := omega) [-List.getD_eq_getElem?_getD]
  refine acall_is (hc) ?_; simp (maxSteps := 200000) (disch := omega) [-List.getD_eq_getElem?_getD]
  refine hK _ ?_; clear hK K
  refine aw_ret ?_; simp (maxSteps := 200000) (disch := omega) [-List.getD_eq_getElem?_getD]

theorem wTexts_nil (mx m : Int) (H : List Blk) (T : Toks) : ACall Try.prog 24 [.nilp, .int .i64 mx, .int .i64 m] H T (Is (.sl 0 [] .none) H T) := by
  have hc : ACall Try.prog 42 [.nilp, .int .i64 mx, .fn 43 [] [.ptr H.length 0, .ptr (H.length + 1) 0]] (H ++ [.cells [.nilp], .cells [.int .i64 m]]) T
      (Is (.sl 0 [] .full) (H ++ [.cells [.nilp], .cells [.int .i64 m]]) T) := by
    refine acall_enter 10 [] Try.ntmps42 Try.func42 rfl (fun _ _ => Try.call42 _ _) (by simp) (fun HO => ?_)
    refine aw_reg fun K hK => ?_; simp (maxSteps := 200000) (disch := omega) [-List.getD_eq_getElem?_getD]; refine hK _ ?_; clear hK K
    refine aw_then fun K1 hK1 => ?_
    refine aw_reg fun K hK => ?_; simp (maxSteps := 200000) (disch := omega) [-List.getD_eq_getElem?_getD]; refine hK _ ?_; clear hK K
    refine aw_if rfl (fun h => ?_) (fun h => absurd h (by simp))
    refine aw_reg fun K hK => ?_; simp (maxSteps := 200000) (disch := omega) [-List.getD_eq_getElem?_getD]; refine hK _ ?_; clear hK K
    refine aw_ret ?_; simp (maxSteps := 200000) (disch := omega) [-List.getD_eq_getElem?_getD]
    exact ⟨rfl, rfl, rfl⟩
  refine ACall.cut H T (Nat.le_refl _) (Nat.le_refl _) id (by simp) ?_
  refine acall_enter 7 [] Try.ntmps24 Try.func24 rfl (fun _ _ => Try.call24 _ _) (by simp) (fun HO => ?_)
  refine aw_reg fun K hK => ?_; simp (maxSteps := 200000) (disch := omega) [-List.getD_eq_getElem?_getD]; refine hK _ ?_; clear hK K
  refine aw_reg fun K hK => ?_; simp (maxSteps := 200000) (disch := omega) [-List.getD_eq_getElem?_getD]
  refine acall_is (hc) ?_; simp (maxSteps := 200000) (disch := omega) [-List.getD_eq_getElem?_getD]
  refine hK _ ?_; clear hK K
  refine aw_ret ?_; simp (maxSteps := 200000) (disch := omega) [-List.getD_eq_getElem?_getD]
end Go.Proofs.Ytgnhfcncbkikgaa
