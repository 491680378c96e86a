/- Apply of the reference of layer 11.
   Conditions: lengths below 1000. -/
import Derived.Test.YtgndlhfnenlhkaaEFn11
namespace Go.Proofs.Ytgndlhfnenlhkaa
open Go Go.Am Edit
set_option linter.unusedVariables false

set_option maxRecDepth 100000 in
set_option maxHeartbeats 4000000 in
theorem applyRef_ok (a : List Int) (l : List (Int × Int)) (ha : a.length ≤ 1000) (hl : l.length ≤ 1000) (H : List Blk) (T : Toks) (ta tl : Tag) :
    ACall Try.prog 28 [.sl a.length (ints a) ta, .sl l.length (opsAV l) tl] H T (Is (.tup [.sl (applyR a l).2.length (ints (applyR a l).2) .none, .int .i64 (applyR a l).1]) H T) := by
  refine ACall.untag1 (ACall.untag2 ?_)
  refine ACall.dropT ?_ (by simp)
  refine acall_enter 77 [] Try.ntmps28 Try.func28 rfl (fun _ _ => Try.call28 _ _) (by simp) (fun HO => ?_)
  refine aw_reg fun K hK => ?_; simp (maxSteps := 200000) (disch := omega) [-List.getD_eq_getElem?_getD]; refine hK _ ?_; clear hK K
  refine aw_then fun K1 hK1 => ?_
  refine aw_reg fun K hK => ?_; simp (maxSteps := 200000) (disch := omega) [-List.getD_eq_getElem?_getD]; refine hK _ ?_; clear hK K
  refine aw_block ?_
  refine aw_loop (X := Nat) (fun k => ⟨[(0, .sl a.length (ints a) .none), (1, .sl l.length (opsAV l) .none), (6, .int .i64 (k : Nat))], H, T⟩) (fun k => k ≤ l.length ∧ ∀ j, j < k → okOp (l.getD j (0, 0)) = true) (fun k => l.length - k) 0 ?_ ?_ ?_
  · exact ⟨Nat.zero_le _, fun j hj => absurd hj (Nat.not_lt_zero _)⟩
  · refine weak_to [] [] ?_ ?_ ?_ ?_ HO ?_
    all_goals simp
  · rintro k ⟨hk, hj⟩
    refine aw_then fun K2 hK2 => ?_
    refine aw_reg fun K hK => ?_; simp (maxSteps := 200000) (disch := omega) [-List.getD_eq_getElem?_getD]; refine hK _ ?_; clear hK K
    refine aw_if rfl (fun hk2 => ?_) (fun hk2 => ?_)
    · simp [-List.getD_eq_getElem?_getD] at hk2
      obtain ⟨hg1, hg2⟩ := opsAV_at l k hk2
      refine aw_skip ?_; simp (maxSteps := 200000) (disch := omega) [-List.getD_eq_getElem?_getD]
      refine hK2 _ ?_; clear hK2
      refine aw_then fun K3 hK3 => ?_
      refine aw_block ?_
      refine aw_reg fun K hK => ?_
      have key : ∀ e b, b = (!okOp (l.getD k (0, 0))) → envLe H.length T.length e [(0, .sl a.length (ints a) .none), (1, .sl l.length (opsAV l) .none), (6, .int .i64 (k : Nat)), (53, .bool b)] → K ⟨e, H, T⟩ := by
        intro e b hb he
        refine hK _ (aw_weak ⟨[(0, .sl a.length (ints a) .none), (1, .sl l.length (opsAV l) .none), (6, .int .i64 (k : Nat)), (53, .bool b)], H, T⟩ (weak_to [] [] (by simp) (by simp) (by simp) (by simp) HO he) ?_)
        cases hok : okOp (l.getD k (0, 0)) with
        | false =>
          rw [hok] at hb
          subst hb
          refine aw_if rfl (fun h => ?_) (fun h => absurd h (by simp))
          refine aw_reg fun K hK => ?_; simp (maxSteps := 200000) (disch := omega) [-List.getD_eq_getElem?_getD]; refine hK _ ?_; clear hK K
          refine aw_ret ?_; simp (maxSteps := 200000) (disch := omega) [-List.getD_eq_getElem?_getD]
          rw [applyR_bad hk2 hok]
          simp [nilInts]
        | true =>
          rw [hok] at hb
          subst hb
          refine aw_if rfl (fun h => absurd h (by simp)) (fun h => ?_)
          refine aw_skip ?_; simp (maxSteps := 200000) (disch := omega) [-List.getD_eq_getElem?_getD]
          refine hK3 _ ?_; clear hK3
          refine aw_reg0 fun K hK => ?_; simp (maxSteps := 200000) (disch := omega) [-List.getD_eq_getElem?_getD]
          refine hK _ ?_; clear hK K
          refine ⟨k + 1, ⟨by show k + 1 ≤ _; omega, fun j hj' => ?_⟩, by show l.length - (k + 1) < l.length - k; omega, ?_⟩
          · rcases Nat.lt_or_ge j k with h1 | h1
            · exact hj j h1
            · have : j = k := by omega
              subst this; exact hok
          · refine weak_to [] [] ?_ ?_ ?_ ?_ HO ?_
            all_goals simp
      clear hK
      generalize l.getD k (0, 0) = p at *
      obtain ⟨kd, c⟩ := p
      simp only at *
      have hcs : kd < 1 ∨ kd > 4 ∨ kd = 1 ∨ kd = 2 ∨ kd = 3 ∨ kd = 4 := by omega
      rcases hcs with h1 | h1 | h1 | h1 | h1 | h1
      · have b1 : decide (kd < 1) = true := by simpa using h1
        simp (maxSteps := 200000) (disch := omega) [-List.getD_eq_getElem?_getD, hg1, hg2, opsAV_len, b1, h1]
        refine key _ true ?_ (by simp)
        simp [okOp]; omega
      · have b1 : decide (kd < 1) = false := by simp; omega
        have b2 : decide (4 < kd) = true := by simp; omega
        have h2 : ¬ kd < 1 := by omega
        simp (maxSteps := 200000) (disch := omega) [-List.getD_eq_getElem?_getD, hg1, hg2, opsAV_len, b1, b2, h1, h2]
        refine key _ true ?_ (by simp)
        simp [okOp]; omega
      all_goals
        subst h1
        by_cases hc : c = 0
        · subst hc
          simp (maxSteps := 200000) (disch := omega) [-List.getD_eq_getElem?_getD, hg1, hg2, opsAV_len]
          refine key _ false ?_ (by simp)
          simp [okOp]
        · have b3 : (c != 0) = true := by simpa using hc
          simp (maxSteps := 200000) (disch := omega) [-List.getD_eq_getElem?_getD, hg1, hg2, opsAV_len, b3, hc]
          first
            | (refine key _ true ?_ (by simp); simp [okOp, hc]; done)
            | (refine key _ false ?_ (by simp); simp [okOp]; done)
    · simp [-List.getD_eq_getElem?_getD] at hk2
      have hkl : k = l.length := by omega
      have hall : l.all okOp = true := by
        rw [List.all_eq_true]
        intro p hp
        obtain ⟨j, hj1, rfl⟩ := List.mem_iff_getElem.1 hp
        have := hj j (by omega)
        rwa [List.getD_eq_getElem?_getD, List.getElem?_eq_getElem hj1] at this
      have hres : applyR a l = match AP a l [] 0 0 with
        | none => (2, [])
        | some y => (0, y) := by
        unfold applyR AP
        rw [if_pos hall, List.drop_zero, List.drop_zero]
        cases apply a l <;> rfl
      refine aw_exit ?_; simp (maxSteps := 200000) (disch := omega) [-List.getD_eq_getElem?_getD]
      refine hK1 _ ?_; clear hK1
      clear hj hkl hk2 hk
      refine aw_reg fun K hK => ?_; simp (maxSteps := 200000) (disch := omega) [-List.getD_eq_getElem?_getD]; refine hK _ ?_; clear hK K
      refine aw_reg fun K hK => ?_; simp (maxSteps := 200000) (disch := omega) [-List.getD_eq_getElem?_getD]; refine hK _ ?_; clear hK K
      refine aw_then fun K1 hK1 => ?_
      refine aw_reg fun K hK => ?_; simp (maxSteps := 200000) (disch := omega) [-List.getD_eq_getElem?_getD]; refine hK _ ?_; clear hK K
      refine aw_block ?_
      refine aw_own 7 0 1 [] (by omega) (by simp) ?_
      refine aw_loop (X := Nat × Nat × List Int) (fun x => ⟨[(0, .sl a.length (ints a) .none), (1, .sl l.length (opsAV l) .none), (7, .sl x.2.2.length (ints x.2.2) (.own T.length)), (8, .int .i64 (x.2.1 : Nat)), (9, .int .i64 (x.1 : Nat))], H, T ++ [(x.2.2.length, 1)]⟩)
        (fun x => x.1 ≤ l.length ∧ x.2.1 ≤ a.length ∧ x.2.2.length ≤ x.1 ∧ AP a l [] 0 0 = AP a l x.2.2 x.2.1 x.1) (fun x => l.length - x.1) (0, 0, []) ?_ ?_ ?_
      · exact ⟨Nat.zero_le _, Nat.zero_le _, Nat.zero_le _, rfl⟩
      · refine weak_to [] [] ?_ ?_ ?_ ?_ (HO.toks (by simp)) ?_
        all_goals simp
      · rintro ⟨k, at_, out⟩ ⟨h1, h2, h3, h4⟩
        simp only at h1 h2 h3 h4
        have hokk : ∀ n, HOk H (T ++ [(n, 1)]) := fun n => HO.toks (by simp)
        refine aw_then fun K2 hK2 => ?_
        refine aw_reg fun K hK => ?_; simp (maxSteps := 200000) (disch := omega) [-List.getD_eq_getElem?_getD]; refine hK _ ?_; clear hK K
        refine aw_if rfl (fun hk2 => ?_) (fun hk2 => ?_)
        · simp [-List.getD_eq_getElem?_getD] at hk2
          obtain ⟨hg1, hg2⟩ := opsAV_at l k hk2
          have hop := okOp_cases (List.all_eq_true.1 hall (l.getD k (0, 0)) (by rw [List.getD_eq_getElem?_getD, List.getElem?_eq_getElem hk2]; exact List.getElem_mem hk2))
          have ains := AP_ins (a := a) (out := out) (at_ := at_) hk2
          have anone := AP_none (a := a) (out := out) (at_ := at_) hk2
          have akeep := AP_keep (a := a) (out := out) (at_ := at_) hk2
          have arep := AP_rep (a := a) (out := out) (at_ := at_) hk2
          have adel := AP_del (a := a) (out := out) (at_ := at_) hk2
          refine aw_skip ?_; simp (maxSteps := 200000) (disch := omega) [-List.getD_eq_getElem?_getD]
          refine hK2 _ ?_; clear hK2
          refine aw_then fun K3 hK3 => ?_
          refine aw_block ?_
          have key : ∀ e out' at' n, out'.length = n → at' ≤ a.length → n ≤ k + 1 → AP a l [] 0 0 = AP a l out' at' (k + 1) → envLe H.length (T.length + 1) e [(0, .sl a.length (ints a) .none), (1, .sl l.length (opsAV l) .none), (7, .sl n (ints out') (.own T.length)), (8, .int .i64 (at' : Nat)), (9, .int .i64 (k : Nat))] →
              K3 ⟨e, H, T ++ [(n, 1)]⟩ := by
            intro e out' at' n hn g1 g2 g3 he
            subst hn
            refine hK3 _ (aw_weak ⟨[(0, .sl a.length (ints a) .none), (1, .sl l.length (opsAV l) .none), (7, .sl out'.length (ints out') (.own T.length)), (8, .int .i64 (at' : Nat)), (9, .int .i64 (k : Nat))], H, T ++ [(out'.length, 1)]⟩ (weak_to [] [] (by simp) (by simp) (by simp) (by simp) (hokk _) (by simpa using he)) ?_)
            refine aw_reg0 fun K hK => ?_; simp (maxSteps := 200000) (disch := omega) [-List.getD_eq_getElem?_getD]
            refine hK _ ?_; clear hK K
            refine ⟨(k + 1, at', out'), ⟨by show k + 1 ≤ _; omega, g1, g2, g3⟩, by show l.length - (k + 1) < l.length - k; omega, ?_⟩
            refine weak_to [] [] ?_ ?_ ?_ ?_ (hokk _) ?_
            all_goals simp
          clear hK3
          generalize l.getD k (0, 0) = p at *
          obtain ⟨kd, c⟩ := p
          simp only at *
          by_cases h40 : kd = 4
          · subst h40
            refine aw_then fun K4 hK4 => ?_
            refine aw_reg fun K hK => ?_; simp (maxSteps := 200000) (disch := omega) [-List.getD_eq_getElem?_getD, hg1, opsAV_len]; refine hK _ ?_; clear hK K
            refine aw_if rfl (fun h => absurd h (by simp)) (fun h => ?_)
            refine aw_skip ?_; simp (maxSteps := 200000) (disch := omega) [-List.getD_eq_getElem?_getD]
            refine hK4 _ ?_; clear hK4
            refine aw_reg fun K hK => ?_; simp (maxSteps := 200000) (disch := omega) [-List.getD_eq_getElem?_getD, hg1, opsAV_len]; refine hK _ ?_; clear hK K
            refine aw_block ?_
            refine aw_reg fun K hK => ?_; simp (maxSteps := 200000) (disch := omega) [-List.getD_eq_getElem?_getD]; refine hK _ ?_; clear hK K
            refine aw_if rfl (fun h => absurd h (by simp)) (fun h => ?_)
            refine aw_then fun K5 hK5 => ?_
            refine aw_reg fun K hK => ?_; simp (maxSteps := 200000) (disch := omega) [-List.getD_eq_getElem?_getD]; refine hK _ ?_; clear hK K
            refine aw_if rfl (fun h => absurd h (by simp)) (fun h => ?_)
            refine aw_reg0 fun K hK => ?_; simp (maxSteps := 200000) (disch := omega) [-List.getD_eq_getElem?_getD]
            refine hK _ ?_; clear hK K
            refine hK5 _ ?_; clear hK5
            refine aw_if rfl (fun h => ?_) (fun h => absurd h (by simp))
            refine aw_reg0 fun K hK => ?_; simp (maxSteps := 200000) (disch := omega) [-List.getD_eq_getElem?_getD, hg2, opsAV_len]
            refine hK _ ?_; clear hK K
            refine key _ (out ++ [c]) at_ (out.length + 1) (by simp) h2 (by omega) (by rw [h4]; exact ains rfl) ?_
            simp [ints_snoc]
          · have b1 : (kd != 4) = true := by simpa using h40
            by_cases hat : at_ = a.length
            · have b2 : ((at_ : Int) == (a.length : Int)) = true := by simp; omega
              rw [anone h40 hat] at h4
              rw [h4] at hres
              refine aw_then fun K4 hK4 => ?_
              refine aw_reg fun K hK => ?_; simp (maxSteps := 200000) (disch := omega) [-List.getD_eq_getElem?_getD, hg1, opsAV_len, b1]; refine hK _ ?_; clear hK K
              refine aw_if rfl (fun h => ?_) (fun h => absurd h (by simp))
              refine aw_then fun K5 hK5 => ?_
              refine aw_reg fun K hK => ?_; simp (maxSteps := 200000) (disch := omega) [-List.getD_eq_getElem?_getD, b2]; refine hK _ ?_; clear hK K
              refine aw_if rfl (fun h => ?_) (fun h => absurd h (by simp))
              refine aw_reg fun K hK => ?_; simp (maxSteps := 200000) (disch := omega) [-List.getD_eq_getElem?_getD]; refine hK _ ?_; clear hK K
              refine aw_ret ?_; simp (maxSteps := 200000) (disch := omega) [-List.getD_eq_getElem?_getD]
              rw [hres]
              simp [nilInts]
            · have b2 : ((at_ : Int) == (a.length : Int)) = false := by simp; omega
              have hlt : at_ < a.length := by omega
              refine aw_then fun K4 hK4 => ?_
              refine aw_reg fun K hK => ?_; simp (maxSteps := 200000) (disch := omega) [-List.getD_eq_getElem?_getD, hg1, opsAV_len, b1]; refine hK _ ?_; clear hK K
              refine aw_if rfl (fun h => ?_) (fun h => absurd h (by simp))
              refine aw_then fun K5 hK5 => ?_
              refine aw_reg fun K hK => ?_; simp (maxSteps := 200000) (disch := omega) [-List.getD_eq_getElem?_getD, b2]; refine hK _ ?_; clear hK K
              refine aw_if rfl (fun h => absurd h (by simp)) (fun h => ?_)
              refine aw_skip ?_; simp (maxSteps := 200000) (disch := omega) [-List.getD_eq_getElem?_getD]
              refine hK5 _ ?_; clear hK5
              refine aw_reg0 fun K hK => ?_; simp (maxSteps := 200000) (disch := omega) [-List.getD_eq_getElem?_getD]
              refine hK _ ?_; clear hK K
              refine hK4 _ ?_; clear hK4
              refine aw_reg fun K hK => ?_; simp (maxSteps := 200000) (disch := omega) [-List.getD_eq_getElem?_getD, hg1, opsAV_len]; refine hK _ ?_; clear hK K
              refine aw_block ?_
              rcases hop with ⟨hop, hc0⟩ | hop | ⟨hop, hc0⟩ | hop
              · subst hop
                refine aw_reg fun K hK => ?_; simp (maxSteps := 200000) (disch := omega) [-List.getD_eq_getElem?_getD]; refine hK _ ?_; clear hK K
                refine aw_if rfl (fun h => ?_) (fun h => absurd h (by simp))
                refine aw_reg0 fun K hK => ?_; simp (maxSteps := 200000) (disch := omega) [-List.getD_eq_getElem?_getD, getD_ints]
                refine hK _ ?_; clear hK K
                refine key _ (out ++ [a.getD at_ 0]) (at_ + 1) (out.length + 1) (by simp) (by omega) (by omega) (by rw [h4]; exact akeep rfl hlt) ?_
                simp [-List.getD_eq_getElem?_getD, ints_snoc]
              · subst hop
                refine aw_reg fun K hK => ?_; simp (maxSteps := 200000) (disch := omega) [-List.getD_eq_getElem?_getD]; refine hK _ ?_; clear hK K
                refine aw_if rfl (fun h => absurd h (by simp)) (fun h => ?_)
                refine aw_then fun K5 hK5 => ?_
                refine aw_reg fun K hK => ?_; simp (maxSteps := 200000) (disch := omega) [-List.getD_eq_getElem?_getD]; refine hK _ ?_; clear hK K
                refine aw_if rfl (fun h => ?_) (fun h => absurd h (by simp))
                refine aw_skip ?_; simp (maxSteps := 200000) (disch := omega) [-List.getD_eq_getElem?_getD]
                refine hK5 _ ?_; clear hK5
                refine aw_if rfl (fun h => ?_) (fun h => absurd h (by simp))
                refine aw_reg0 fun K hK => ?_; simp (maxSteps := 200000) (disch := omega) [-List.getD_eq_getElem?_getD, hg2, opsAV_len]
                refine hK _ ?_; clear hK K
                refine key _ (out ++ [c]) (at_ + 1) (out.length + 1) (by simp) (by omega) (by omega) (by rw [h4]; exact arep rfl hlt) ?_
                simp [ints_snoc]
              · subst hop
                refine aw_reg fun K hK => ?_; simp (maxSteps := 200000) (disch := omega) [-List.getD_eq_getElem?_getD]; refine hK _ ?_; clear hK K
                refine aw_if rfl (fun h => absurd h (by simp)) (fun h => ?_)
                refine aw_then fun K5 hK5 => ?_
                refine aw_reg fun K hK => ?_; simp (maxSteps := 200000) (disch := omega) [-List.getD_eq_getElem?_getD]; refine hK _ ?_; clear hK K
                refine aw_if rfl (fun h => absurd h (by simp)) (fun h => ?_)
                refine aw_reg0 fun K hK => ?_; simp (maxSteps := 200000) (disch := omega) [-List.getD_eq_getElem?_getD]
                refine hK _ ?_; clear hK K
                refine hK5 _ ?_; clear hK5
                refine aw_if rfl (fun h => absurd h (by simp)) (fun h => ?_)
                refine aw_skip ?_; simp (maxSteps := 200000) (disch := omega) [-List.getD_eq_getElem?_getD]
                refine key _ out (at_ + 1) out.length rfl (by omega) (by omega) (by rw [h4]; exact adel rfl hlt) ?_
                simp
              · exact absurd hop h40
        · simp [-List.getD_eq_getElem?_getD] at hk2
          rw [AP_end (a := a) (l := l) (out := out) (at_ := at_) (k := k) (by omega)] at h4
          refine aw_exit ?_; simp (maxSteps := 200000) (disch := omega) [-List.getD_eq_getElem?_getD]
          refine hK1 _ ?_; clear hK1
          refine aw_then fun K2 hK2 => ?_
          refine aw_reg fun K hK => ?_; simp (maxSteps := 200000) (disch := omega) [-List.getD_eq_getElem?_getD]; refine hK _ ?_; clear hK K
          refine aw_if rfl (fun hat => ?_) (fun hat => ?_)
          · simp at hat
            rw [if_pos hat] at h4
            rw [h4] at hres
            refine aw_reg fun K hK => ?_; simp (maxSteps := 200000) (disch := omega) [-List.getD_eq_getElem?_getD]; refine hK _ ?_; clear hK K
            refine aw_ret ?_; simp (maxSteps := 200000) (disch := omega) [-List.getD_eq_getElem?_getD]
            rw [hres]
            simp [nilInts]
          · simp at hat
            rw [if_neg (by omega)] at h4
            rw [h4] at hres
            refine aw_skip ?_; simp (maxSteps := 200000) (disch := omega) [-List.getD_eq_getElem?_getD]
            refine hK2 _ ?_; clear hK2
            refine aw_reg fun K hK => ?_; simp (maxSteps := 200000) (disch := omega) [-List.getD_eq_getElem?_getD]; refine hK _ ?_; clear hK K
            refine aw_ret ?_; simp (maxSteps := 200000) (disch := omega) [-List.getD_eq_getElem?_getD]
            rw [hres]
            simp
end Go.Proofs.Ytgndlhfnenlhkaa
