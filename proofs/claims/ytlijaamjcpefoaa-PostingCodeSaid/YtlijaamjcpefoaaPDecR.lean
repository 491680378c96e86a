/- Decode of the reference of layer 38.
   Conditions: at most 300 bytes. -/
import Derived.Test.YtlijaamjcpefoaaPDec
namespace Go.Proofs.Ytlijaamjcpefoaa
open Go Go.Am Post Wire
set_option linter.unusedVariables false

def limNR (_ : Rd) : Int := 1000000000
def limR (_ : Rd) : Int := 1000001

theorem rdIR_ok (bs : List UInt8) (s : Rd) (lo hi : Int) (hs : s.at_ ≤ bs.length) (hb : bs.length ≤ 10000) (H R : List Blk) (T : Toks) :
    ACall Try.prog 83 [.ptr H.length 0, .int .i64 lo, .int .i64 hi] (H ++ .cells (rd bs s) :: R) T (Is (.int .i64 (rInt bs lo hi s).1) (H ++ .cells (rd bs (rInt bs lo hi s).2) :: R) T) := by
  have := rdIntR_ok bs s lo hi hs (by omega) (H ++ .cells (rd bs s) :: R) T H.length (by simp)
  rw [new_set0] at this
  exact this

theorem pIt_add (bs : List UInt8) : ∀ (m n : Nat) (x : Rd × Int × List Int), pIt bs (n + m) x = pIt bs m (pIt bs n x) := by
  intro m n
  induction n with
  | zero => intro x; rw [Nat.zero_add]; rfl
  | succ n ih => intro x; rw [show n + 1 + m = n + m + 1 by omega, pIt, ih, pIt]
theorem pIt_bad_le {bs : List UInt8} {m n : Nat} {x : Rd × Int × List Int} (h : (pIt bs n x).1.bad = true) (hm : n ≤ m) : (pIt bs m x).1.bad = true := by
  have : m = n + (m - n) := by omega
  rw [this, pIt_add, pIt_bad _ _ h]
  exact h
theorem oFacts (bs : List UInt8) (s : Rd) (hs : s.at_ ≤ bs.length) : ∀ k, (oIt bs limR k (s, 0, [])).1.at_ ≤ bs.length ∧ 0 ≤ (oIt bs limR k (s, 0, [])).2.1 ∧ (oIt bs limR k (s, 0, [])).2.1 ≤ (k : Int) * 1000000000 ∧ (oIt bs limR k (s, 0, [])).2.2.length = k ∧ ∀ p ∈ (oIt bs limR k (s, 0, [])).2.2, p.2.length ≤ 1000001 := by
  intro k
  induction k with
  | zero => exact ⟨hs, by simp [oIt], by simp [oIt], rfl, by simp [oIt]⟩
  | succ k ih =>
    rw [oIt_succ]
    obtain ⟨g1, g2, g3, g4, g5⟩ := ih
    generalize oIt bs limR k (s, 0, []) = x at *
    have hd := rInt_bounds bs 1 1000000000 x.1 (by omega) (by omega)
    have hsa := rInt_le bs 1 1000000000 x.1 g1
    unfold oStep
    simp only
    generalize rInt bs 1 1000000000 x.1 = a at *
    have hm := rInt_bounds bs 1 (limR a.2) a.2 (by unfold limR; omega) (by omega)
    have hsm := rInt_le bs 1 (limR a.2) a.2 hsa
    generalize hl : limR a.2 = L at *
    unfold limR at hl
    generalize rInt bs 1 L a.2 = m at *
    obtain ⟨q1, q2, q3, q4, q5⟩ := pIt_facts bs m.2 hsm m.1.toNat
    generalize pIt bs m.1.toNat (m.2, -1, []) = q at *
    refine ⟨q1, by omega, by omega, by simp [g4], fun p hp => ?_⟩
    rcases List.mem_append.1 hp with hp | hp
    · exact g5 p hp
    · simp at hp
      subst hp
      show q.2.2.length ≤ 1000001
      omega

/-- The state behind k postings, as far as it matters. -/
def ROk (bs : List UInt8) (s1 : Rd) (k : Nat) (x : Rd × Int × PL) : Prop := (x.1.bad = false → x = oIt bs limR k (s1, 0, [])) ∧ (x.1.bad = true → (oIt bs limR k (s1, 0, [])).1.bad = true) ∧ x.1.at_ ≤ bs.length ∧ x.2.2.length = k

set_option maxRecDepth 100000 in
set_option maxHeartbeats 4000000 in
theorem decodeR_ok (bs : List UInt8) (hb : bs.length ≤ 300) (H : List Blk) (T : Toks) (tg : Tag) :
    ACall Try.prog 48 [.sl bs.length (encB bs) tg] H T (Is (.tup [.sl (dec bs limNR limR).1.length (psAV (dec bs limNR limR).1) .none, .int .i64 (dec bs limNR limR).2]) H T) := by
  refine ACall.untag1 ?_
  refine ACall.dropT ?_ (by simp)
  have hb2 : bs.length ≤ 10000 := by omega
  have c3 := rdIR_ok bs ⟨0, false⟩ 0 1000000000 (Nat.zero_le _) hb2 H [] T
  have hn := rInt_bounds bs 0 1000000000 ⟨0, false⟩ (by omega) (by omega)
  have hsl := rInt_le bs 0 1000000000 ⟨0, false⟩ (Nat.zero_le _)
  have hdec : dec bs limNR limR = fin bs (oIt bs limR (rInt bs 0 1000000000 ⟨0, false⟩).1.toNat ((rInt bs 0 1000000000 ⟨0, false⟩).2, 0, [])) := rfl
  generalize rInt bs 0 1000000000 ⟨0, false⟩ = r0 at *
  obtain ⟨n, s1⟩ := r0
  simp only at hn hsl hdec c3
  obtain ⟨N, rfl⟩ := Int.eq_ofNat_of_zero_le hn.1
  rw [Int.toNat_natCast] at hdec
  have hrd0 : rd bs ⟨0, false⟩ = [.sl bs.length (encB bs) .none, .int .i64 0, .bool false] := rfl
  rw [hrd0] at c3
  refine acall_enter 13 [] Try.ntmps48 Try.func48 rfl (fun _ _ => Try.call48 _ _) (by simp) (fun HO => ?_)
  refine aw_reg fun K hK => ?_; simp (maxSteps := 1000000) (disch := omega) [-List.getD_eq_getElem?_getD]; refine hK _ ?_; clear hK K
  refine aw_reg fun K hK => ?_; simp (maxSteps := 1000000) (disch := omega) [-List.getD_eq_getElem?_getD]; refine hK _ ?_; clear hK K
  refine aw_reg fun K hK => ?_; simp (maxSteps := 1000000) (disch := omega) [-List.getD_eq_getElem?_getD]
  refine acall_is (c3) ?_; simp (maxSteps := 1000000) (disch := omega) [-List.getD_eq_getElem?_getD]
  refine hK _ ?_; clear hK K
  refine aw_reg fun K hK => ?_; simp (maxSteps := 1000000) (disch := omega) [-List.getD_eq_getElem?_getD]; refine hK _ ?_; clear hK K
  refine aw_reg fun K hK => ?_; simp (maxSteps := 1000000) (disch := omega) [-List.getD_eq_getElem?_getD]; refine hK _ ?_; clear hK K
  refine aw_then fun K1 hK1 => ?_
  refine aw_reg fun K hK => ?_; simp (maxSteps := 1000000) (disch := omega) [-List.getD_eq_getElem?_getD]; refine hK _ ?_; clear hK K
  have hfacts := oFacts bs s1 hsl
  have hsucc := oIt_succ bs limR
  refine aw_block ?_
  refine aw_own 6 0 2 [] (by omega) (by simp) ?_
  refine aw_loop (X := Nat × Rd × Int × PL) (fun x => ⟨[(4, .ptr H.length 0), (5, .int .i64 (N : Nat)), (6, .sl x.1 (psAV x.2.2.2) (.own T.length)), (7, .int .i64 x.2.2.1), (8, .int .i64 (x.1 : Nat))], H ++ [.cells (rd bs x.2.1)], T ++ [(x.1 * 2, 2)]⟩) (fun x => x.1 ≤ N ∧ ROk bs s1 x.1 x.2) (fun x => N - x.1) (0, s1, 0, []) ?_ ?_ ?_
  · exact ⟨Nat.zero_le _, fun _ => rfl, fun h => h, hsl, rfl⟩
  · refine weak_to [] [] ?_ ?_ ?_ ?_ (HOk.snoc (HO.toks (by simp)) (by simp [rd])) ?_
    all_goals simp [psAV_nil]
  · rintro ⟨k, s, last, out⟩ ⟨hk0, r1, r2, f1, f4⟩
    simp only at hk0 r1 r2 f1 f4
    -- what is behind the loop
    have done : (s.bad = true ∨ k = N) → ∀ e, envLe (H ++ [Blk.cells (rd bs s)]).length (T ++ [(k * 2, 2)]).length e [(4, .ptr H.length 0), (6, .sl k (psAV out) .none)] → K1 ⟨e, H ++ [.cells (rd bs s)], T ++ [(k * 2, 2)]⟩ := fun hend e he => by
      refine hK1 _ (aw_weak ⟨[(4, .ptr H.length 0), (6, .sl k (psAV out) .none)], H ++ [.cells (rd bs s)], T ++ [(k * 2, 2)]⟩ (weak_to [] [] (by simp) (by simp) (by simp) (by simp) (HOk.snoc (HO.toks (by simp)) (by simp [rd])) he) ?_)
      have c8 := doneR_ok bs s f1 (by omega) (H ++ [.cells (rd bs s)]) (T ++ [(k * 2, 2)]) H.length (by simp)
      refine aw_then fun K9 hK9 => ?_
      by_cases hdn : rDone bs s = 0
      · have hgood := (rDone0.1 hdn).1
        have hkN : k = N := hend.resolve_left (by rw [hgood]; decide)
        have hx := r1 hgood
        obtain ⟨g1, g2, g3, g4, g5⟩ := hfacts k
        have hs1 : s1.bad = false := by
          cases h : s1.bad with
          | false => rfl
          | true => have := oIt_bad (limM := limR) (bs := bs) k (s1, 0, []) h; rw [← hx] at this; simp only at this; rw [this, h] at hgood; cases hgood
        have hk300 : k ≤ 300 := by
          obtain ⟨a, b⟩ := s1
          simp only at hs1
          subst hs1
          obtain ⟨l, l1, l2, _, _, l5⟩ := oIt_canon (bs := bs) (limM := limR) (fun _ => by unfold limR; omega) k a 0 [] hsl (by rw [← hx]; exact hgood)
          have := ePosts_len l 0 l2
          have := congrArg List.length l5
          rw [List.length_drop, List.length_append] at this
          omega
        rw [← hx] at g5
        simp only at g5
        have c9 := validR_ok out (by omega) (fun p hp => Nat.le_trans (g5 p hp) (by decide)) (H ++ [.cells (rd bs s)]) (T ++ [(k * 2, 2)]) .none
        rw [f4] at c9
        rw [← hkN, ← hx] at hdec
        rw [hdn] at c8
        cases hv : validL out with
        | true =>
          rw [hv] at c9
          have hfin : fin bs (s, last, out) = (out, 0) := by unfold fin; rw [if_neg (by rintro (h | h); exact h hdn; rw [hv] at h; cases h)]
          rw [hfin] at hdec
          refine aw_reg fun K hK => ?_; simp (maxSteps := 1000000) (disch := omega) [-List.getD_eq_getElem?_getD]
          refine acall_is (c8) ?_; simp (maxSteps := 1000000) (disch := omega) [-List.getD_eq_getElem?_getD]
          refine acall_is (c9) ?_; simp (maxSteps := 1000000) (disch := omega) [-List.getD_eq_getElem?_getD]
          refine hK _ ?_; clear hK K
          refine aw_if rfl (fun h => absurd h (by simp)) (fun h => ?_)
          refine aw_skip ?_; simp (maxSteps := 1000000) (disch := omega) [-List.getD_eq_getElem?_getD]
          refine hK9 _ ?_; clear hK9
          refine aw_reg fun K hK => ?_; simp (maxSteps := 1000000) (disch := omega) [-List.getD_eq_getElem?_getD]; refine hK _ ?_; clear hK K
          refine aw_ret ?_; simp (maxSteps := 1000000) (disch := omega) [-List.getD_eq_getElem?_getD]
          rw [hdec]
          simp [f4]
        | false =>
          rw [hv] at c9
          have hfin : fin bs (s, last, out) = ([], 5) := by unfold fin; rw [if_pos (.inr hv)]
          rw [hfin] at hdec
          refine aw_reg fun K hK => ?_; simp (maxSteps := 1000000) (disch := omega) [-List.getD_eq_getElem?_getD]
          refine acall_is (c8) ?_; simp (maxSteps := 1000000) (disch := omega) [-List.getD_eq_getElem?_getD]
          refine acall_is (c9) ?_; simp (maxSteps := 1000000) (disch := omega) [-List.getD_eq_getElem?_getD]
          refine hK _ ?_; clear hK K
          refine aw_if rfl (fun h => ?_) (fun h => absurd h (by simp))
          refine aw_reg fun K hK => ?_; simp (maxSteps := 1000000) (disch := omega) [-List.getD_eq_getElem?_getD]; refine hK _ ?_; clear hK K
          refine aw_ret ?_; simp (maxSteps := 1000000) (disch := omega) [-List.getD_eq_getElem?_getD]
          rw [hdec]
          simp [psAV]
      · have hd5 : rDone bs s = 5 := by
          unfold rDone at hdn ⊢
          split
          · rfl
          · rename_i h; rw [if_neg h] at hdn; exact absurd rfl hdn
        rw [hd5] at c8
        have hdec5 : dec bs limNR limR = ([], 5) := by
          rw [hdec]
          cases hbad : s.bad with
          | true =>
            have hb1 := r2 hbad
            have hbN : (oIt bs limR N (s1, 0, [])).1.bad = true := by
              have e : ∀ (m n : Nat) (x : Rd × Int × PL), oIt bs limR (n + m) x = oIt bs limR m (oIt bs limR n x) := by
                intro m n
                induction n with
                | zero => intro x; rw [Nat.zero_add]; rfl
                | succ n ih => intro x; rw [show n + 1 + m = n + m + 1 by omega, oIt, ih, oIt]
              have : N = k + (N - k) := by omega
              rw [this, e, oIt_bad _ _ hb1]
              exact hb1
            unfold fin
            rw [if_pos (.inl (fun h => by rw [(rDone0.1 h).1] at hbN; cases hbN))]
          | false =>
            have hkN : k = N := hend.resolve_left (by rw [hbad]; decide)
            rw [← hkN, ← r1 hbad]
            unfold fin
            rw [if_pos (.inl hdn)]
        refine aw_reg fun K hK => ?_; simp (maxSteps := 1000000) (disch := omega) [-List.getD_eq_getElem?_getD]
        refine acall_is (c8) ?_; simp (maxSteps := 1000000) (disch := omega) [-List.getD_eq_getElem?_getD]
        refine hK _ ?_; clear hK K
        refine aw_if rfl (fun h => ?_) (fun h => absurd h (by simp))
        refine aw_reg fun K hK => ?_; simp (maxSteps := 1000000) (disch := omega) [-List.getD_eq_getElem?_getD]; refine hK _ ?_; clear hK K
        refine aw_ret ?_; simp (maxSteps := 1000000) (disch := omega) [-List.getD_eq_getElem?_getD]
        rw [hdec5]
        simp [psAV]
    clear hK1
    refine aw_then fun K2 hK2 => ?_
    by_cases hk : k < N
    · cases hbad : s.bad with
      | true =>
        refine aw_reg fun K hK => ?_; simp (maxSteps := 1000000) (disch := omega) [-List.getD_eq_getElem?_getD, rd, hk, hbad]; refine hK _ ?_; clear hK K
        refine aw_if rfl (fun h => absurd h (by simp)) (fun h => ?_)
        refine aw_exit ?_; simp (maxSteps := 1000000) (disch := omega) [-List.getD_eq_getElem?_getD]
        have hrd : rd bs s = [.sl bs.length (encB bs) .none, .int .i64 (s.at_ : Nat), .bool true] := by unfold rd; rw [hbad]
        rw [hrd] at done
        exact done (.inl hbad) _ (by simp)
      | false =>
        have hx := r1 hbad
        obtain ⟨g1, g2, g3, g4, g5⟩ := hfacts k
        have hst := hsucc k (s1, 0, [])
        rw [← hx] at g2 g3 hst
        simp only at g2 g3
        have c4 := rdIR_ok bs s 1 1000000000 f1 hb2 H [] (T ++ [(k * 2, 2)])
        have hd := rInt_bounds bs 1 1000000000 s (by omega) (by omega)
        have hsa := rInt_le bs 1 1000000000 s f1
        unfold oStep at hst
        simp only at hst
        generalize rInt bs 1 1000000000 s = a at *
        obtain ⟨d, sa⟩ := a
        simp only at hd hsa hst c4
        have c6 := rdIR_ok bs sa 1 1000001 hsa hb2 H [.cells [.int .i64 (last + d), .sl 0 [] .full]] (T ++ [(k * 2, 2)])
        rw [show limR sa = 1000001 from rfl] at hst
        have hm := rInt_bounds bs 1 1000001 sa (by omega) (by omega)
        have hsm := rInt_le bs 1 1000001 sa hsa
        generalize rInt bs 1 1000001 sa = m at *
        obtain ⟨w, sm⟩ := m
        simp only at hm hsm hst c6
        obtain ⟨M, rfl⟩ := Int.eq_ofNat_of_zero_le hm.1
        rw [Int.toNat_natCast] at hst
        have hrd : rd bs s = [.sl bs.length (encB bs) .none, .int .i64 (s.at_ : Nat), .bool false] := by unfold rd; rw [hbad]
        rw [hrd] at c4 ⊢
        refine aw_reg fun K hK => ?_; simp (maxSteps := 1000000) (disch := omega) [-List.getD_eq_getElem?_getD, hk]; refine hK _ ?_; clear hK K
        refine aw_if rfl (fun h => ?_) (fun h => absurd h (by simp))
        refine aw_skip ?_; simp (maxSteps := 1000000) (disch := omega) [-List.getD_eq_getElem?_getD]
        refine hK2 _ ?_; clear hK2
        refine aw_then fun K3 hK3 => ?_
        refine aw_block ?_
        refine aw_reg fun K hK => ?_; simp (maxSteps := 1000000) (disch := omega) [-List.getD_eq_getElem?_getD]
        refine acall_is (c4) ?_; simp (maxSteps := 1000000) (disch := omega) [-List.getD_eq_getElem?_getD]
        refine hK _ ?_; clear hK K
        refine aw_reg fun K hK => ?_; simp (maxSteps := 1000000) (disch := omega) [-List.getD_eq_getElem?_getD]; refine hK _ ?_; clear hK K
        refine aw_reg fun K hK => ?_; simp (maxSteps := 1000000) (disch := omega) [-List.getD_eq_getElem?_getD]
        refine acall_is (c6) ?_; simp (maxSteps := 1000000) (disch := omega) [-List.getD_eq_getElem?_getD]
        refine hK _ ?_; clear hK K
        refine aw_reg fun K hK => ?_; simp (maxSteps := 1000000) (disch := omega) [-List.getD_eq_getElem?_getD]; refine hK _ ?_; clear hK K
        refine aw_then fun K4 hK4 => ?_
        refine aw_reg fun K hK => ?_; simp (maxSteps := 1000000) (disch := omega) [-List.getD_eq_getElem?_getD]; refine hK _ ?_; clear hK K
        have pfacts := pIt_facts bs sm hsm
        have psucc := pIt_succ bs
        have hout : (psAV out).length = k * 2 := by rw [psAV_len, f4]
        refine aw_block ?_
        refine aw_loop (X := Nat) (fun j => ⟨[(4, .ptr H.length 0), (5, .int .i64 (N : Nat)), (6, .sl k (psAV out) (.own T.length)), (7, .int .i64 (last + d)), (8, .int .i64 (k : Nat)), (9, .ptr (H.length + 1) 0), (10, .int .i64 (M : Nat)), (11, .int .i64 (pIt bs j (sm, -1, [])).2.1), (12, .int .i64 (j : Nat))], H ++ [.cells (rd bs (pIt bs j (sm, -1, [])).1), .cells [.int .i64 (last + d), cellA (pIt bs j (sm, -1, [])).2.2 (T.length + 1)]], T ++ (k * 2, 2) :: tokA (pIt bs j (sm, -1, [])).2.2⟩) (fun j => j ≤ M) (fun j => M - j) 0 ?_ ?_ ?_
        · exact Nat.zero_le _
        · refine weak_to [] [] ?_ ?_ ?_ ?_ ?_ ?_
          · simp [pIt, cellA]
          · simp [pIt, tokA]
          · simp
          · simp
          · exact hok_dec HO bs _ _ _ _
          · simp [pIt]
        · intro j hj0
          obtain ⟨q1, q2, q3, q4, q5⟩ := pfacts j
          have pst := psucc j (sm, -1, [])
          generalize hY : pIt bs j (sm, -1, []) = Y at *
          obtain ⟨t, at_, acc⟩ := Y
          simp only at q1 q2 q3 q4
          -- what is behind the inner loop
          have doneI : (t.bad = true ∨ j = M) → ∀ e, envLe (H ++ [Blk.cells (rd bs t), .cells [.int .i64 (last + d), cellA acc (T.length + 1)]]).length (T ++ (k * 2, 2) :: tokA acc).length e [(4, .ptr H.length 0), (5, .int .i64 (N : Nat)), (6, .sl k (psAV out) (.own T.length)), (7, .int .i64 (last + d)), (8, .int .i64 (k : Nat)), (9, .ptr (H.length + 1) 0)] → K4 ⟨e, H ++ [.cells (rd bs t), .cells [.int .i64 (last + d), cellA acc (T.length + 1)]], T ++ (k * 2, 2) :: tokA acc⟩ := fun hend e he => by
            have hrok : ROk bs s1 (k + 1) (t, last + d, out ++ [(last + d, acc)]) := by
              refine ⟨fun hg => ?_, fun hg => ?_, q1, by simp [f4]⟩
              · have hjM : j = M := hend.resolve_left (by simp only at hg; rw [hg]; decide)
                rw [hst, ← hjM, hY]
              · rw [hst]
                exact pIt_bad_le (n := j) (by rw [hY]; exact hg) hj0
            refine hK4 _ (aw_weak ⟨[(4, .ptr H.length 0), (5, .int .i64 (N : Nat)), (6, .sl k (psAV out) (.own T.length)), (7, .int .i64 (last + d)), (8, .int .i64 (k : Nat)), (9, .ptr (H.length + 1) 0)], H ++ [.cells (rd bs t), .cells [.int .i64 (last + d), cellA acc (T.length + 1)]], T ++ (k * 2, 2) :: tokA acc⟩ (weak_to [] [] (by simp) (by simp) (by simp) (by simp) (hok_dec HO bs _ _ _ _) he) ?_)
            have hps := psAV_snoc out (last + d) acc
            by_cases h0 : acc = []
            · subst h0
              have hps' : psAV out ++ [.int .i64 (last + d), .sl 0 [] .none] = psAV (out ++ [(last + d, [])]) := hps
              have h0 : True := trivial
              simp only [cellA, tokA, if_true]
              refine aw_untagB (H ++ [.cells (rd bs t)]) [.int .i64 (last + d), .sl 0 [] .full] (by simp) ?_
              simp only [List.map_cons, List.map_nil, untag]
              refine aw_reg0 fun K hK => ?_; simp (maxSteps := 1000000) (disch := omega) [-List.getD_eq_getElem?_getD, hout, hps']
              refine hK _ ?_; clear hK K
              refine hK3 _ ?_; clear hK3
              refine aw_reg0 fun K hK => ?_; simp (maxSteps := 1000000) (disch := omega) [-List.getD_eq_getElem?_getD]
              refine hK _ ?_; clear hK K
              refine ⟨(k + 1, t, last + d, out ++ [(last + d, [])]), ⟨by show k + 1 ≤ _; omega, hrok⟩, by show N - (k + 1) < N - k; omega, ?_⟩
              refine weak_to [.cells [.int .i64 (last + d), .sl 0 [] .none]] (tokA []) ?_ ?_ ?_ ?_ (HOk.snoc (HO.toks (by simp)) (by simp [rd])) ?_
              all_goals simp [tokA, h0]
            · simp only [cellA, tokA, if_neg h0]
              refine aw_untagB (H ++ [.cells (rd bs t)]) [.int .i64 (last + d), .sl acc.length (ints acc) (.own (T.length + 1))] (by simp) ?_
              simp only [List.map_cons, List.map_nil, untag]
              refine aw_reg0 fun K hK => ?_; simp (maxSteps := 1000000) (disch := omega) [-List.getD_eq_getElem?_getD, hout, hps]
              refine hK _ ?_; clear hK K
              refine hK3 _ ?_; clear hK3
              refine aw_reg0 fun K hK => ?_; simp (maxSteps := 1000000) (disch := omega) [-List.getD_eq_getElem?_getD]
              refine hK _ ?_; clear hK K
              refine ⟨(k + 1, t, last + d, out ++ [(last + d, acc)]), ⟨by show k + 1 ≤ _; omega, hrok⟩, by show N - (k + 1) < N - k; omega, ?_⟩
              refine weak_to [.cells [.int .i64 (last + d), .sl acc.length (ints acc) .none]] (tokA acc) ?_ ?_ ?_ ?_ (HOk.snoc (HO.toks (by simp)) (by simp [rd])) ?_
              all_goals simp [tokA, h0]
          clear hK4
          refine aw_then fun K5 hK5 => ?_
          by_cases hj : j < M
          · cases htb : t.bad with
            | true =>
              have hrdt : rd bs t = [.sl bs.length (encB bs) .none, .int .i64 (t.at_ : Nat), .bool true] := by unfold rd; rw [htb]
              rw [hrdt] at doneI ⊢
              refine aw_reg fun K hK => ?_; simp (maxSteps := 1000000) (disch := omega) [-List.getD_eq_getElem?_getD, hj]; refine hK _ ?_; clear hK K
              refine aw_if rfl (fun h => absurd h (by simp)) (fun h => ?_)
              refine aw_exit ?_; simp (maxSteps := 1000000) (disch := omega) [-List.getD_eq_getElem?_getD]
              exact doneI (.inl htb) _ (by simp)
            | false =>
              have hrdt : rd bs t = [.sl bs.length (encB bs) .none, .int .i64 (t.at_ : Nat), .bool false] := by unfold rd; rw [htb]
              have c7 := rdIR_ok bs t 1 1000001 q1 hb2 H [.cells [.int .i64 (last + d), cellA acc (T.length + 1)]] (T ++ (k * 2, 2) :: tokA acc)
              have hx := rInt_bounds bs 1 1000001 t (by omega) (by omega)
              unfold pStep at pst
              simp only at pst
              generalize rInt bs 1 1000001 t = x at *
              obtain ⟨x, t'⟩ := x
              simp only at hx pst c7
              have hsn := ints_snoc acc (at_ + x)
              rw [hrdt] at c7 ⊢
              refine aw_reg fun K hK => ?_; simp (maxSteps := 1000000) (disch := omega) [-List.getD_eq_getElem?_getD, hj]; refine hK _ ?_; clear hK K
              refine aw_if rfl (fun h => ?_) (fun h => absurd h (by simp))
              refine aw_skip ?_; simp (maxSteps := 1000000) (disch := omega) [-List.getD_eq_getElem?_getD]
              refine hK5 _ ?_; clear hK5
              refine aw_then fun K6 hK6 => ?_
              refine aw_block ?_
              by_cases h0 : acc = []
              · subst h0
                simp only [cellA, tokA, if_true] at c7 ⊢
                refine aw_reg fun K hK => ?_; simp (maxSteps := 1000000) (disch := omega) [-List.getD_eq_getElem?_getD]
                refine acall_is (c7) ?_; simp (maxSteps := 1000000) (disch := omega) [-List.getD_eq_getElem?_getD]
                refine hK _ ?_; clear hK K
                refine aw_reg0 fun K hK => ?_; simp (maxSteps := 1000000) (disch := omega) [-List.getD_eq_getElem?_getD]
                refine hK _ ?_; clear hK K
                refine hK6 _ ?_; clear hK6
                refine aw_reg0 fun K hK => ?_; simp (maxSteps := 1000000) (disch := omega) [-List.getD_eq_getElem?_getD]
                refine hK _ ?_; clear hK K
                refine ⟨j + 1, by show j + 1 ≤ _; omega, by show M - (j + 1) < M - j; omega, ?_⟩
                simp only [pst]
                refine weak_to [] [] ?_ ?_ ?_ ?_ (hok_dec HO bs _ _ _ _) ?_
                all_goals simp [cellA, tokA, ints]
              · simp only [cellA, tokA, if_neg h0] at c7 ⊢
                refine aw_reg fun K hK => ?_; simp (maxSteps := 1000000) (disch := omega) [-List.getD_eq_getElem?_getD]
                refine acall_is (c7) ?_; simp (maxSteps := 1000000) (disch := omega) [-List.getD_eq_getElem?_getD]
                refine hK _ ?_; clear hK K
                refine aw_reg0 fun K hK => ?_; simp (maxSteps := 1000000) (disch := omega) [-List.getD_eq_getElem?_getD, hsn]
                refine hK _ ?_; clear hK K
                refine hK6 _ ?_; clear hK6
                refine aw_reg0 fun K hK => ?_; simp (maxSteps := 1000000) (disch := omega) [-List.getD_eq_getElem?_getD]
                refine hK _ ?_; clear hK K
                refine ⟨j + 1, by show j + 1 ≤ _; omega, by show M - (j + 1) < M - j; omega, ?_⟩
                simp only [pst]
                refine weak_to [] [] ?_ ?_ ?_ ?_ (hok_dec HO bs _ _ _ _) ?_
                all_goals simp [cellA, tokA, ints]
          · have hjM : j = M := by omega
            refine aw_reg fun K hK => ?_; simp (maxSteps := 1000000) (disch := omega) [-List.getD_eq_getElem?_getD, hj]; refine hK _ ?_; clear hK K
            refine aw_if rfl (fun h => absurd h (by simp)) (fun h => ?_)
            refine aw_exit ?_; simp (maxSteps := 1000000) (disch := omega) [-List.getD_eq_getElem?_getD]
            exact doneI (.inr hjM) _ (by simp)
    · have hkN : k = N := by omega
      refine aw_reg fun K hK => ?_; simp (maxSteps := 1000000) (disch := omega) [-List.getD_eq_getElem?_getD, hk]; refine hK _ ?_; clear hK K
      refine aw_if rfl (fun h => absurd h (by simp)) (fun h => ?_)
      refine aw_exit ?_; simp (maxSteps := 1000000) (disch := omega) [-List.getD_eq_getElem?_getD]
      exact done (.inr hkN) _ (by simp)
end Go.Proofs.Ytlijaamjcpefoaa
