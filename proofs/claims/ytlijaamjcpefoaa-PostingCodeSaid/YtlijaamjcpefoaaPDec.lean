/- Decode of layer 38.
   Conditions: at most 10000 bytes. -/
import Derived.Test.YtlijaamjcpefoaaPPl7
namespace Go.Proofs.Ytlijaamjcpefoaa
open Go Go.Am Post Wire
set_option linter.unusedVariables false

def limP (bs : List UInt8) (s : Rd) : Int := max 1 ((bs.length - s.at_ : Nat) : Int)
def limNP (bs : List UInt8) (s : Rd) : Int := ((bs.length - s.at_ : Nat) : Int)

/-- The positions that are being read: nothing yet, or a row of its own. -/
def cellA (acc : List Int) (tk : Nat) : AV := if acc = [] then .sl 0 [] .full else .sl acc.length (ints acc) (.own tk)
def tokA (acc : List Int) : Toks := if acc = [] then [] else [(acc.length, 1)]

theorem rdI_ok (bs : List UInt8) (s : Rd) (lo hi : Int) (hs : s.at_ ≤ bs.length) (hb : bs.length ≤ 10000) (H R : List Blk) (T : Toks) :
    ACall Try.prog 80 [.ptr H.length 0, .int .i64 lo, .int .i64 hi] (H ++ .cells (rd bs s) :: R) T (Is (.int .i64 (rInt bs lo hi s).1) (H ++ .cells (rd bs (rInt bs lo hi s).2) :: R) T) := by
  have := wInt_ok bs s lo hi hs (by omega) (H ++ .cells (rd bs s) :: R) T H.length (by simp)
  rw [new_set0] at this
  exact this
theorem rdRest_ok (bs : List UInt8) (s : Rd) (hs : s.at_ ≤ bs.length) (hb : bs.length ≤ 10000) (H R : List Blk) (T : Toks) :
    ACall Try.prog 81 [.ptr H.length 0] (H ++ .cells (rd bs s) :: R) T (Is (.int .i64 ((bs.length - s.at_ : Nat) : Int)) (H ++ .cells (rd bs s) :: R) T) :=
  wRest_ok bs s hs (by omega) (H ++ .cells (rd bs s) :: R) T H.length (by simp)

theorem rInt_bounds (bs : List UInt8) (lo hi : Int) (s : Rd) (h0 : 0 ≤ hi) (h1 : 0 ≤ lo) : 0 ≤ (rInt bs lo hi s).1 ∧ (rInt bs lo hi s).1 ≤ hi := by
  unfold rInt
  split
  · exact ⟨Int.le_refl _, h0⟩
  · split
    · exact ⟨Int.le_refl _, h0⟩
    · rename_i h
      simp only [not_or] at h
      simp only
      omega
theorem pIt_facts (bs : List UInt8) (s : Rd) (hs : s.at_ ≤ bs.length) : ∀ j, (pIt bs j (s, -1, [])).1.at_ ≤ bs.length ∧ -1 ≤ (pIt bs j (s, -1, [])).2.1 ∧ (pIt bs j (s, -1, [])).2.1 ≤ (j : Int) * 1000001 ∧ (pIt bs j (s, -1, [])).2.2.length = j ∧ ∀ q ∈ (pIt bs j (s, -1, [])).2.2, -1 ≤ q ∧ q ≤ (j : Int) * 1000001 := by
  intro j
  induction j with
  | zero => exact ⟨hs, by simp [pIt], by simp [pIt], rfl, by simp [pIt]⟩
  | succ j ih =>
    rw [pIt_succ]
    obtain ⟨g1, g2, g3, g4, g5⟩ := ih
    generalize pIt bs j (s, -1, []) = x at *
    have hb := rInt_bounds bs 1 1000001 x.1 (by omega) (by omega)
    refine ⟨rInt_le bs _ _ _ g1, by unfold pStep; simp only; omega, by unfold pStep; simp only; omega, by unfold pStep; simp [g4], fun q hq => ?_⟩
    unfold pStep at hq
    rcases List.mem_append.1 hq with hq | hq
    · have := g5 q hq; omega
    · simp at hq; omega

theorem hok_dec {H : List Blk} {T : Toks} (h : HOk H T) (bs : List UInt8) (s : Rd) (d : Int) (acc : List Int) (m : Nat) : HOk (H ++ [.cells (rd bs s), .cells [.int .i64 d, cellA acc (T.length + 1)]]) (T ++ (m, 2) :: tokA acc) := by
  have e : H ++ [Blk.cells (rd bs s), .cells [.int .i64 d, cellA acc (T.length + 1)]] = (H ++ [.cells (rd bs s)]) ++ [.cells [.int .i64 d, cellA acc (T.length + 1)]] := by simp
  rw [e]
  refine HOk.snoc (HOk.snoc (h.toks (by simp)) (by simp [rd])) ?_
  unfold cellA tokA
  split
  · simp
  · simp
theorem limP_le (bs : List UInt8) (hb : bs.length ≤ 10000) (s : Rd) : 1 ≤ limP bs s ∧ limP bs s ≤ 10000 := by
  unfold limP
  omega
theorem oIt_facts (bs : List UInt8) (hb : bs.length ≤ 10000) (s : Rd) (hs : s.at_ ≤ bs.length) : ∀ k, (oIt bs (limP bs) k (s, 0, [])).1.at_ ≤ bs.length ∧ 0 ≤ (oIt bs (limP bs) k (s, 0, [])).2.1 ∧ (oIt bs (limP bs) k (s, 0, [])).2.1 ≤ (k : Int) * 1000000000 ∧ (oIt bs (limP bs) k (s, 0, [])).2.2.length = k ∧ ∀ p ∈ (oIt bs (limP bs) k (s, 0, [])).2.2, p.2.length ≤ 10000 := by
  intro k
  induction k with
  | zero => exact ⟨hs, by simp [oIt], by simp [oIt], rfl, by simp [oIt]⟩
  | succ k ih =>
    rw [oIt_succ]
    obtain ⟨g1, g2, g3, g4, g5⟩ := ih
    generalize oIt bs (limP bs) k (s, 0, []) = x at *
    have hd := rInt_bounds bs 1 1000000000 x.1 (by omega) (by omega)
    have hsa := rInt_le bs 1 1000000000 x.1 g1
    unfold oStep
    simp only
    generalize rInt bs 1 1000000000 x.1 = a at *
    have hl := limP_le bs hb a.2
    have hm := rInt_bounds bs 1 (limP bs a.2) a.2 (by omega) (by omega)
    have hsm := rInt_le bs 1 (limP bs a.2) a.2 hsa
    generalize rInt bs 1 (limP bs a.2) a.2 = m at *
    obtain ⟨q1, q2, q3, q4, q5⟩ := pIt_facts bs m.2 hsm m.1.toNat
    generalize pIt bs m.1.toNat (m.2, -1, []) = q at *
    refine ⟨q1, by omega, by omega, by simp [g4], fun p hp => ?_⟩
    rcases List.mem_append.1 hp with hp | hp
    · exact g5 p hp
    · simp at hp
      subst hp
      show q.2.2.length ≤ 10000
      omega

set_option maxRecDepth 100000 in
set_option maxHeartbeats 4000000 in
theorem decode_ok (bs : List UInt8) (hb : bs.length ≤ 10000) (hN : (rInt bs 0 ((bs.length : Nat) : Int) ⟨0, false⟩).1 ≤ 1000) (H : List Blk) (T : Toks) (tg : Tag) :
    ACall Try.prog 47 [.sl bs.length (encB bs) tg] H T (Is (.tup [.sl (dec bs (limNP bs) (limP bs)).1.length (psAV (dec bs (limNP bs) (limP bs)).1) .none, .int .i64 (dec bs (limNP bs) (limP bs)).2]) H T) := by
  refine ACall.untag1 ?_
  refine ACall.dropT ?_ (by simp)
  have c1 := from_ok bs (by omega) H T
  have c2 := rdRest_ok bs ⟨0, false⟩ (Nat.zero_le _) hb H [] T
  have c3 := rdI_ok bs ⟨0, false⟩ 0 (limNP bs ⟨0, false⟩) (Nat.zero_le _) hb H [] T
  have hn := rInt_bounds bs 0 (limNP bs ⟨0, false⟩) ⟨0, false⟩ (by unfold limNP; omega) (by omega)
  have hsl := rInt_le bs 0 (limNP bs ⟨0, false⟩) ⟨0, false⟩ (Nat.zero_le _)
  have hdec : dec bs (limNP bs) (limP bs) = fin bs (oIt bs (limP bs) (rInt bs 0 (limNP bs ⟨0, false⟩) ⟨0, false⟩).1.toNat ((rInt bs 0 (limNP bs ⟨0, false⟩) ⟨0, false⟩).2, 0, [])) := rfl
  have hlim : limNP bs ⟨0, false⟩ = ((bs.length : Nat) : Int) := rfl
  rw [hlim] at c3 hn hsl hdec
  generalize rInt bs 0 ((bs.length : Nat) : Int) ⟨0, false⟩ = r0 at *
  obtain ⟨n, s1⟩ := r0
  simp only at hn hsl hdec c3
  obtain ⟨N, rfl⟩ := Int.eq_ofNat_of_zero_le hn.1
  rw [Int.toNat_natCast] at hdec
  refine acall_enter 30 [] Try.ntmps47 Try.func47 rfl (fun _ _ => Try.call47 _ _) (by simp) (fun HO => ?_)
  refine aw_reg fun K hK => ?_; simp (maxSteps := 1000000) (disch := omega) [-List.getD_eq_getElem?_getD]; refine hK _ ?_; clear hK K
  refine aw_reg fun K hK => ?_; simp (maxSteps := 1000000) (disch := omega) [-List.getD_eq_getElem?_getD]
  refine acall_is (c1) ?_; simp (maxSteps := 1000000) (disch := omega) [-List.getD_eq_getElem?_getD]
  refine hK _ ?_; clear hK K
  refine aw_reg fun K hK => ?_; simp (maxSteps := 1000000) (disch := omega) [-List.getD_eq_getElem?_getD]; refine hK _ ?_; clear hK K
  refine aw_reg fun K hK => ?_; simp (maxSteps := 1000000) (disch := omega) [-List.getD_eq_getElem?_getD]; refine hK _ ?_; clear hK K
  refine aw_then fun K1 hK1 => ?_
  refine aw_reg fun K hK => ?_; simp (maxSteps := 1000000) (disch := omega) [-List.getD_eq_getElem?_getD]
  refine acall_is (c2) ?_; simp (maxSteps := 1000000) (disch := omega) [-List.getD_eq_getElem?_getD]
  refine acall_is (c3) ?_; simp (maxSteps := 1000000) (disch := omega) [-List.getD_eq_getElem?_getD]
  refine hK _ ?_; clear hK K
  have hfacts := oIt_facts bs hb s1 hsl
  have hsucc := oIt_succ bs (limP bs)
  refine aw_block ?_
  refine aw_own 5 0 2 [] (by omega) (by simp) ?_
  refine aw_loop (X := Nat) (fun k => ⟨[(4, .ptr H.length 0), (5, .sl k (psAV (oIt bs (limP bs) k (s1, 0, [])).2.2) (.own T.length)), (6, .int .i64 (oIt bs (limP bs) k (s1, 0, [])).2.1), (14, .int .i64 (N : Nat)), (15, .int .i64 (k : Nat))], H ++ [.cells (rd bs (oIt bs (limP bs) k (s1, 0, [])).1)], T ++ [(k * 2, 2)]⟩) (fun k => k ≤ N) (fun k => N - k) 0 ?_ ?_ ?_
  · exact Nat.zero_le _
  · refine weak_to [] [] ?_ ?_ ?_ ?_ (HOk.snoc (HO.toks (by simp)) (by simp [rd])) ?_
    all_goals simp [oIt, psAV_nil]
  · intro k hk0
    obtain ⟨f1, f2, f3, f4, f5⟩ := hfacts k
    have hst := hsucc k (s1, 0, [])
    generalize hX : oIt bs (limP bs) k (s1, 0, []) = X at *
    obtain ⟨s, last, out⟩ := X
    simp only at f1 f2 f3 f4 f5
    refine aw_reg fun K hK => ?_; simp (maxSteps := 1000000) (disch := omega) [-List.getD_eq_getElem?_getD]; refine hK _ ?_; clear hK K
    refine aw_then fun K2 hK2 => ?_
    refine aw_if rfl (fun hk => ?_) (fun hk => ?_)
    · have hkN : k < N := by simpa using hk
      have c4 := rdI_ok bs s 1 1000000000 f1 hb H [] (T ++ [(k * 2, 2)])
      have hd := rInt_bounds bs 1 1000000000 s (by omega) (by omega)
      have hsa := rInt_le bs 1 1000000000 s f1
      unfold oStep at hst
      simp only at hst
      generalize rInt bs 1 1000000000 s = a at *
      obtain ⟨d, sa⟩ := a
      simp only at hd hsa hst c4
      have c5 := rdRest_ok bs sa hsa hb H [.cells [.int .i64 (last + d), .sl 0 [] .full]] (T ++ [(k * 2, 2)])
      have c6 := rdI_ok bs sa 1 (limP bs sa) hsa hb H [.cells [.int .i64 (last + d), .sl 0 [] .full]] (T ++ [(k * 2, 2)])
      have hlim2 := limP_le bs hb sa
      have hm := rInt_bounds bs 1 (limP bs sa) sa (by omega) (by omega)
      have hsm := rInt_le bs 1 (limP bs sa) sa hsa
      generalize rInt bs 1 (limP bs sa) sa = m at *
      obtain ⟨w, sm⟩ := m
      simp only at hm hsm hst c6
      obtain ⟨M, rfl⟩ := Int.eq_ofNat_of_zero_le hm.1
      rw [Int.toNat_natCast] at hst
      unfold limP at c6
      refine aw_skip ?_; simp (maxSteps := 1000000) (disch := omega) [-List.getD_eq_getElem?_getD]
      refine hK2 _ ?_; clear hK2
      refine aw_then fun K3 hK3 => ?_
      refine aw_block ?_
      refine aw_reg fun K hK => ?_; simp (maxSteps := 1000000) (disch := omega) [-List.getD_eq_getElem?_getD]
      refine acall_is (c4) ?_; simp (maxSteps := 1000000) (disch := omega) [-List.getD_eq_getElem?_getD]
      refine hK _ ?_; clear hK K
      refine aw_reg fun K hK => ?_; simp (maxSteps := 1000000) (disch := omega) [-List.getD_eq_getElem?_getD]; refine hK _ ?_; clear hK K
      refine aw_reg fun K hK => ?_; simp (maxSteps := 1000000) (disch := omega) [-List.getD_eq_getElem?_getD]; refine hK _ ?_; clear hK K
      refine aw_then fun K4 hK4 => ?_
      refine aw_reg fun K hK => ?_; simp (maxSteps := 1000000) (disch := omega) [-List.getD_eq_getElem?_getD]
      refine acall_is (c5) ?_; simp (maxSteps := 1000000) (disch := omega) [-List.getD_eq_getElem?_getD]
      refine acall_is (c6) ?_; simp (maxSteps := 1000000) (disch := omega) [-List.getD_eq_getElem?_getD]
      refine hK _ ?_; clear hK K
      have pfacts := pIt_facts bs sm hsm
      have psucc := pIt_succ bs
      have hout : (psAV out).length = k * 2 := by rw [psAV_len, f4]
      refine aw_block ?_
      refine aw_loop (X := Nat) (fun j => ⟨[(4, .ptr H.length 0), (5, .sl k (psAV out) (.own T.length)), (6, .int .i64 (last + d)), (7, .ptr (H.length + 1) 0), (8, .int .i64 (pIt bs j (sm, -1, [])).2.1), (14, .int .i64 (N : Nat)), (15, .int .i64 (k : Nat)), (28, .int .i64 (M : Nat)), (29, .int .i64 (j : Nat))], H ++ [.cells (rd bs (pIt bs j (sm, -1, [])).1), .cells [.int .i64 (last + d), cellA (pIt bs j (sm, -1, [])).2.2 (T.length + 1)]], T ++ (k * 2, 2) :: tokA (pIt bs j (sm, -1, [])).2.2⟩) (fun j => j ≤ M) (fun j => M - j) 0 ?_ ?_ ?_
      · exact Nat.zero_le _
      · refine weak_to [] [] ?_ ?_ ?_ ?_ ?_ ?_
        · simp [pIt, cellA]
        · simp [pIt, tokA]
        · simp
        · simp
        · exact hok_dec HO bs _ _ _ _
        · simp [pIt]
      · intro j hj0
        refine aw_reg fun K hK => ?_; simp (maxSteps := 1000000) (disch := omega) [-List.getD_eq_getElem?_getD]; refine hK _ ?_; clear hK K
        refine aw_then fun K5 hK5 => ?_
        refine aw_if rfl (fun hj => ?_) (fun hj => ?_)
        · have hjM : j < M := by simpa using hj
          obtain ⟨q1, q2, q3, q4, q5⟩ := pfacts j
          have pst := psucc j (sm, -1, [])
          generalize pIt bs j (sm, -1, []) = Y at *
          obtain ⟨t, at_, acc⟩ := Y
          simp only at q1 q2 q3 q4
          have c7 := rdI_ok bs t 1 1000001 q1 hb H [.cells [.int .i64 (last + d), cellA acc (T.length + 1)]] (T ++ (k * 2, 2) :: tokA acc)
          have hx := rInt_bounds bs 1 1000001 t (by omega) (by omega)
          unfold pStep at pst
          simp only at pst
          generalize rInt bs 1 1000001 t = x at *
          obtain ⟨x, t'⟩ := x
          simp only at hx pst c7
          have hsn := ints_snoc acc (at_ + x)
          refine aw_skip ?_; simp (maxSteps := 1000000) (disch := omega) [-List.getD_eq_getElem?_getD]
          refine hK5 _ ?_; clear hK5
          refine aw_then fun K6 hK6 => ?_
          refine aw_block ?_
          by_cases h0 : acc = []
          · subst h0
            simp only [cellA, tokA, if_true] at c7 ⊢
            refine aw_reg fun K hK => ?_; simp (maxSteps := 1000000) (disch := omega) [-List.getD_eq_getElem?_getD]
            refine acall_is (c7) ?_; simp (maxSteps := 1000000) (disch := omega) [-List.getD_eq_getElem?_getD]
            refine hK _ ?_; clear hK K
            refine aw_reg0 fun K hK => ?_; simp (maxSteps := 1000000) (disch := omega) [-List.getD_eq_getElem?_getD]
            refine hK _ ?_; clear hK K
            refine hK6 _ ?_; clear hK6
            refine aw_reg0 fun K hK => ?_; simp (maxSteps := 1000000) (disch := omega) [-List.getD_eq_getElem?_getD]
            refine hK _ ?_; clear hK K
            refine ⟨j + 1, by show j + 1 ≤ _; omega, by show M - (j + 1) < M - j; omega, ?_⟩
            simp only [pst]
            refine weak_to [] [] ?_ ?_ ?_ ?_ (hok_dec HO bs _ _ _ _) ?_
            all_goals simp [cellA, tokA, ints]
          · simp only [cellA, tokA, if_neg h0] at c7 ⊢
            refine aw_reg fun K hK => ?_; simp (maxSteps := 1000000) (disch := omega) [-List.getD_eq_getElem?_getD]
            refine acall_is (c7) ?_; simp (maxSteps := 1000000) (disch := omega) [-List.getD_eq_getElem?_getD]
            refine hK _ ?_; clear hK K
            refine aw_reg0 fun K hK => ?_; simp (maxSteps := 1000000) (disch := omega) [-List.getD_eq_getElem?_getD, hsn]
            refine hK _ ?_; clear hK K
            refine hK6 _ ?_; clear hK6
            refine aw_reg0 fun K hK => ?_; simp (maxSteps := 1000000) (disch := omega) [-List.getD_eq_getElem?_getD]
            refine hK _ ?_; clear hK K
            refine ⟨j + 1, by show j + 1 ≤ _; omega, by show M - (j + 1) < M - j; omega, ?_⟩
            simp only [pst]
            refine weak_to [] [] ?_ ?_ ?_ ?_ (hok_dec HO bs _ _ _ _) ?_
            all_goals simp [cellA, tokA]
        · have hjM : j = M := by
            have : ¬ j < M := by simpa using hj
            omega
          subst hjM
          obtain ⟨q1, q2, q3, q4, q5⟩ := pfacts j
          generalize pIt bs j (sm, -1, []) = Y at *
          obtain ⟨t, at_, acc⟩ := Y
          simp only at q1 q2 q3 q4 hst
          have hps := psAV_snoc out (last + d) acc
          refine aw_exit ?_; simp (maxSteps := 1000000) (disch := omega) [-List.getD_eq_getElem?_getD]
          refine hK4 _ ?_; clear hK4
          by_cases h0 : acc = []
          · subst h0
            simp only [cellA, tokA, if_true] at hps ⊢
            have h0 : True := trivial
            have hps' : psAV out ++ [.int .i64 (last + d), .sl 0 [] .none] = psAV (out ++ [(last + d, [])]) := hps
            refine aw_untagB (H ++ [.cells (rd bs t)]) [.int .i64 (last + d), .sl 0 [] .full] (by simp) ?_
            simp only [List.map_cons, List.map_nil, untag]
            refine aw_reg0 fun K hK => ?_; simp (maxSteps := 1000000) (disch := omega) [-List.getD_eq_getElem?_getD, hout, hps']
            refine hK _ ?_; clear hK K
            refine hK3 _ ?_; clear hK3
            refine aw_reg0 fun K hK => ?_; simp (maxSteps := 1000000) (disch := omega) [-List.getD_eq_getElem?_getD]
            refine hK _ ?_; clear hK K
            refine ⟨k + 1, by show k + 1 ≤ _; omega, by show N - (k + 1) < N - k; omega, ?_⟩
            simp only [hst]
            refine weak_to [.cells [.int .i64 (last + d), .sl 0 [] .none]] (tokA []) ?_ ?_ ?_ ?_ (HOk.snoc (HO.toks (by simp)) (by simp [rd])) ?_
            all_goals simp [cellA, tokA, h0]
          · simp only [cellA, tokA, if_neg h0]
            refine aw_untagB (H ++ [.cells (rd bs t)]) [.int .i64 (last + d), .sl acc.length (ints acc) (.own (T.length + 1))] (by simp) ?_
            simp only [List.map_cons, List.map_nil, untag]
            refine aw_reg0 fun K hK => ?_; simp (maxSteps := 1000000) (disch := omega) [-List.getD_eq_getElem?_getD, hout, hps]
            refine hK _ ?_; clear hK K
            refine hK3 _ ?_; clear hK3
            refine aw_reg0 fun K hK => ?_; simp (maxSteps := 1000000) (disch := omega) [-List.getD_eq_getElem?_getD]
            refine hK _ ?_; clear hK K
            refine ⟨k + 1, by show k + 1 ≤ _; omega, by show N - (k + 1) < N - k; omega, ?_⟩
            simp only [hst]
            refine weak_to [.cells [.int .i64 (last + d), .sl acc.length (ints acc) .none]] (tokA acc) ?_ ?_ ?_ ?_ (HOk.snoc (HO.toks (by simp)) (by simp [rd])) ?_
            all_goals simp [cellA, tokA, h0]
    · have hkN : k = N := by
        have : ¬ k < N := by simpa using hk
        omega
      subst hkN
      rw [hX] at hdec
      have c8 := wDone_ok bs s f1 (by omega) (H ++ [.cells (rd bs s)]) (T ++ [(k * 2, 2)]) H.length (by simp)
      have c9 := valid_ok out (by omega) (fun p hp => Nat.le_trans (f5 p hp) (by decide)) (H ++ [.cells (rd bs s)]) (T ++ [(k * 2, 2)]) (.own T.length)
      rw [f4] at c9
      refine aw_exit ?_; simp (maxSteps := 1000000) (disch := omega) [-List.getD_eq_getElem?_getD]
      refine hK1 _ ?_; clear hK1
      refine aw_then fun K9 hK9 => ?_
      by_cases hdn : rDone bs s = 0
      · rw [hdn] at c8
        cases hv : validL out with
        | true =>
          rw [hv] at c9
          have hfin : fin bs (s, last, out) = (out, 0) := by unfold fin; rw [if_neg (by rintro (h | h); exact h hdn; rw [hv] at h; cases h)]
          rw [hfin] at hdec
          refine aw_reg fun K hK => ?_; simp (maxSteps := 1000000) (disch := omega) [-List.getD_eq_getElem?_getD]
          refine acall_is (c8) ?_; simp (maxSteps := 1000000) (disch := omega) [-List.getD_eq_getElem?_getD]
          refine acall_is (c9) ?_; simp (maxSteps := 1000000) (disch := omega) [-List.getD_eq_getElem?_getD]
          refine hK _ ?_; clear hK K
          refine aw_if rfl (fun h => absurd h (by simp)) (fun h => ?_)
          refine aw_skip ?_; simp (maxSteps := 1000000) (disch := omega) [-List.getD_eq_getElem?_getD]
          refine hK9 _ ?_; clear hK9
          refine aw_reg fun K hK => ?_; simp (maxSteps := 1000000) (disch := omega) [-List.getD_eq_getElem?_getD]; refine hK _ ?_; clear hK K
          refine aw_ret ?_; simp (maxSteps := 1000000) (disch := omega) [-List.getD_eq_getElem?_getD]
          rw [hdec]
          simp [f4]
        | false =>
          rw [hv] at c9
          have hfin : fin bs (s, last, out) = ([], 5) := by unfold fin; rw [if_pos (.inr hv)]
          rw [hfin] at hdec
          refine aw_reg fun K hK => ?_; simp (maxSteps := 1000000) (disch := omega) [-List.getD_eq_getElem?_getD]
          refine acall_is (c8) ?_; simp (maxSteps := 1000000) (disch := omega) [-List.getD_eq_getElem?_getD]
          refine acall_is (c9) ?_; simp (maxSteps := 1000000) (disch := omega) [-List.getD_eq_getElem?_getD]
          refine hK _ ?_; clear hK K
          refine aw_if rfl (fun h => ?_) (fun h => absurd h (by simp))
          refine aw_reg fun K hK => ?_; simp (maxSteps := 1000000) (disch := omega) [-List.getD_eq_getElem?_getD]; refine hK _ ?_; clear hK K
          refine aw_ret ?_; simp (maxSteps := 1000000) (disch := omega) [-List.getD_eq_getElem?_getD]
          rw [hdec]
          simp [psAV]
      · have hd5 : rDone bs s = 5 := by
          unfold rDone at hdn ⊢
          split
          · rfl
          · rename_i h; rw [if_neg h] at hdn; exact absurd rfl hdn
        rw [hd5] at c8
        have hfin : fin bs (s, last, out) = ([], 5) := by unfold fin; rw [if_pos (.inl hdn)]
        rw [hfin] at hdec
        refine aw_reg fun K hK => ?_; simp (maxSteps := 1000000) (disch := omega) [-List.getD_eq_getElem?_getD]
        refine acall_is (c8) ?_; simp (maxSteps := 1000000) (disch := omega) [-List.getD_eq_getElem?_getD]
        refine hK _ ?_; clear hK K
        refine aw_if rfl (fun h => ?_) (fun h => absurd h (by simp))
        refine aw_reg fun K hK => ?_; simp (maxSteps := 1000000) (disch := omega) [-List.getD_eq_getElem?_getD]; refine hK _ ?_; clear hK K
        refine aw_ret ?_; simp (maxSteps := 1000000) (disch := omega) [-List.getD_eq_getElem?_getD]
        rw [hdec]
        simp [psAV]
end Go.Proofs.Ytlijaamjcpefoaa
