/- The best word, equal lists of near words, the example of the document (layer 43).
   Conditions: lengths below 1000, as the theorem says. -/
import Derived.Test.YtbijefgmleagnaaSFn7
namespace Sug
def bestE (l : List Ent) (w : Str) (k : Int) : Str × Bool := match withinE l w k with
  | [] => ([], false)
  | x :: _ => (x.1, true)
end Sug
namespace Go.Proofs.Ytbijefgmleagnaa
open Go Go.Am Sug Edit
set_option linter.unusedVariables false

theorem best_ok (l : List Ent) (w : Str) (kk : Int) (hkk : -9223372036854775808 ≤ kk ∧ kk ≤ 9223372036854775807) (hl : l.length ≤ 1000) (hp : ∀ p ∈ l, p.1.length ≤ 1000) (hw : w.length ≤ 1000) (H : List Blk) (T : Toks) (tg : Tag) :
    ACall Try.prog 11 [.sl l.length (entAV l) tg, .str w, .int .i64 kk] H T (Is (.tup [.str (bestE l w kk).1, .bool (bestE l w kk).2]) H T) := by
  refine ACall.untag1 ?_
  have c := within43_ok l w kk hkk hl hp hw H T .none
  generalize hq : bestE l w kk = q
  unfold bestE at hq
  refine acall_enter 9 [] Try.ntmps11 Try.func11 rfl (fun _ _ => Try.call11 _ _) (by simp) (fun HO => ?_)
  refine aw_reg fun K hK => ?_; simp (maxSteps := 1000000) (disch := omega) [-List.getD_eq_getElem?_getD]; refine hK _ ?_; clear hK K
  refine aw_reg fun K hK => ?_; simp (maxSteps := 1000000) (disch := omega) [-List.getD_eq_getElem?_getD]
  refine acall_is (c) ?_; simp (maxSteps := 1000000) (disch := omega) [-List.getD_eq_getElem?_getD]
  refine hK _ ?_; clear hK K
  refine aw_then fun K1 hK1 => ?_
  cases hd : withinE l w kk with
  | nil =>
    rw [hd] at hq
    refine aw_reg fun K hK => ?_; simp (maxSteps := 1000000) (disch := omega) [-List.getD_eq_getElem?_getD, fndAV_nil]; refine hK _ ?_; clear hK K
    refine aw_if rfl (fun h => ?_) (fun h => absurd h (by simp))
    refine aw_reg fun K hK => ?_; simp (maxSteps := 1000000) (disch := omega) [-List.getD_eq_getElem?_getD]; refine hK _ ?_; clear hK K
    refine aw_ret ?_; simp (maxSteps := 1000000) (disch := omega) [-List.getD_eq_getElem?_getD]
    rw [← hq]
    exact ⟨rfl, rfl, rfl⟩
  | cons x r =>
    rw [hd] at hq
    have b : (((r.length : Int) + 1) == 0) = false := by rw [beq_eq_false_iff_ne]; omega
    have b' : ¬ ((r.length : Int) + 1 = 0) := by omega
    refine aw_reg fun K hK => ?_; simp (maxSteps := 1000000) (disch := omega) [-List.getD_eq_getElem?_getD, fndAV_cons, b, b']; refine hK _ ?_; clear hK K
    refine aw_if rfl (fun h => absurd h (by simp [b'])) (fun h => ?_)
    refine aw_skip ?_; simp (maxSteps := 1000000) (disch := omega) [-List.getD_eq_getElem?_getD]
    refine hK1 _ ?_; clear hK1
    refine aw_reg fun K hK => ?_; simp (maxSteps := 1000000) (disch := omega) [-List.getD_eq_getElem?_getD, fndAV_cons]; refine hK _ ?_; clear hK K
    refine aw_ret ?_; simp (maxSteps := 1000000) (disch := omega) [-List.getD_eq_getElem?_getD]
    rw [← hq]
    exact ⟨rfl, rfl, rfl⟩

theorem bestR_ok (l : List Ent) (w : Str) (kk : Int) (hkk : -9223372036854775808 ≤ kk ∧ kk ≤ 9223372036854775807) (hl : l.length ≤ 1000) (hp : ∀ p ∈ l, p.1.length ≤ 1000) (hw : w.length ≤ 1000) (H : List Blk) (T : Toks) (tg : Tag) :
    ACall Try.prog 12 [.sl l.length (entAV l) tg, .str w, .int .i64 kk] H T (Is (.tup [.str (bestE l w kk).1, .bool (bestE l w kk).2]) H T) := by
  refine ACall.untag1 ?_
  have c := within43R_ok l w kk hkk hl hp hw H T .none
  generalize hq : bestE l w kk = q
  unfold bestE at hq
  refine acall_enter 9 [] Try.ntmps12 Try.func12 rfl (fun _ _ => Try.call12 _ _) (by simp) (fun HO => ?_)
  refine aw_reg fun K hK => ?_; simp (maxSteps := 1000000) (disch := omega) [-List.getD_eq_getElem?_getD]; refine hK _ ?_; clear hK K
  refine aw_reg fun K hK => ?_; simp (maxSteps := 1000000) (disch := omega) [-List.getD_eq_getElem?_getD]
  refine acall_is (c) ?_; simp (maxSteps := 1000000) (disch := omega) [-List.getD_eq_getElem?_getD]
  refine hK _ ?_; clear hK K
  refine aw_then fun K1 hK1 => ?_
  cases hd : withinE l w kk with
  | nil =>
    rw [hd] at hq
    refine aw_reg fun K hK => ?_; simp (maxSteps := 1000000) (disch := omega) [-List.getD_eq_getElem?_getD, fndAV_nil]; refine hK _ ?_; clear hK K
    refine aw_if rfl (fun h => ?_) (fun h => absurd h (by simp))
    refine aw_reg fun K hK => ?_; simp (maxSteps := 1000000) (disch := omega) [-List.getD_eq_getElem?_getD]; refine hK _ ?_; clear hK K
    refine aw_ret ?_; simp (maxSteps := 1000000) (disch := omega) [-List.getD_eq_getElem?_getD]
    rw [← hq]
    exact ⟨rfl, rfl, rfl⟩
  | cons x r =>
    rw [hd] at hq
    have b : (((r.length : Int) + 1) == 0) = false := by rw [beq_eq_false_iff_ne]; omega
    have b' : ¬ ((r.length : Int) + 1 = 0) := by omega
    refine aw_reg fun K hK => ?_; simp (maxSteps := 1000000) (disch := omega) [-List.getD_eq_getElem?_getD, fndAV_cons, b, b']; refine hK _ ?_; clear hK K
    refine aw_if rfl (fun h => absurd h (by simp [b'])) (fun h => ?_)
    refine aw_skip ?_; simp (maxSteps := 1000000) (disch := omega) [-List.getD_eq_getElem?_getD]
    refine hK1 _ ?_; clear hK1
    refine aw_reg fun K hK => ?_; simp (maxSteps := 1000000) (disch := omega) [-List.getD_eq_getElem?_getD, fndAV_cons]; refine hK _ ?_; clear hK K
    refine aw_ret ?_; simp (maxSteps := 1000000) (disch := omega) [-List.getD_eq_getElem?_getD]
    rw [← hq]
    exact ⟨rfl, rfl, rfl⟩

theorem sameF_ok (a : List Fnd) (ha : a.length ≤ 1000) (H : List Blk) (T : Toks) (ta tb_ : Tag) :
    ACall Try.prog 17 [.sl a.length (fndAV a) ta, .sl a.length (fndAV a) tb_] H T (Is (.bool true) H T) := by
  refine ACall.untag1 (ACall.untag2 ?_)
  refine acall_enter 6 [] Try.ntmps17 Try.func17 rfl (fun _ _ => Try.call17 _ _) (by simp) (fun HO => ?_)
  refine aw_reg fun K hK => ?_; simp (maxSteps := 1000000) (disch := omega) [-List.getD_eq_getElem?_getD]; refine hK _ ?_; clear hK K
  refine aw_then fun K1 hK1 => ?_
  refine aw_reg fun K hK => ?_; simp (maxSteps := 1000000) (disch := omega) [-List.getD_eq_getElem?_getD]; refine hK _ ?_; clear hK K
  refine aw_if rfl (fun h => absurd h (by simp)) (fun h => ?_)
  refine aw_skip ?_; simp (maxSteps := 1000000) (disch := omega) [-List.getD_eq_getElem?_getD]
  refine hK1 _ ?_; clear hK1
  refine aw_then fun K1 hK1 => ?_
  refine aw_reg fun K hK => ?_; simp (maxSteps := 1000000) (disch := omega) [-List.getD_eq_getElem?_getD]; refine hK _ ?_; clear hK K
  refine aw_block ?_
  refine aw_loop (X := Nat) (fun k => ⟨[(0, .sl a.length (fndAV a) .none), (1, .sl a.length (fndAV a) .none), (5, .int .i64 (k : Nat))], H, T⟩) (fun k => k ≤ a.length) (fun k => a.length - k) 0 ?_ ?_ ?_
  · exact Nat.zero_le _
  · refine weak_to [] [] ?_ ?_ ?_ ?_ HO ?_
    all_goals simp
  · rintro k h1
    refine aw_then fun K2 hK2 => ?_
    refine aw_reg fun K hK => ?_; simp (maxSteps := 1000000) (disch := omega) [-List.getD_eq_getElem?_getD]; refine hK _ ?_; clear hK K
    refine aw_if rfl (fun hk => ?_) (fun hk => ?_)
    · simp [-List.getD_eq_getElem?_getD] at hk
      have hcut := fndAV_cut a k hk
      refine aw_skip ?_; simp (maxSteps := 1000000) (disch := omega) [-List.getD_eq_getElem?_getD]
      refine hK2 _ ?_; clear hK2
      refine aw_then fun K3 hK3 => ?_
      refine aw_block ?_
      refine aw_draw [] [] [] drawMixed (by kernel_rfl) (by kernel_rfl) fun K hK => ?_; simp (maxSteps := 1000000) (disch := omega) [-List.getD_eq_getElem?_getD, hcut, fndAV_len]
      refine hK _ ?_; clear hK K
      refine aw_if rfl (fun h => absurd h (by simp)) (fun h => ?_)
      refine aw_skip ?_; simp (maxSteps := 1000000) (disch := omega) [-List.getD_eq_getElem?_getD]
      refine hK3 _ ?_; clear hK3
      refine aw_reg0 fun K hK => ?_; simp (maxSteps := 1000000) (disch := omega) [-List.getD_eq_getElem?_getD]
      refine hK _ ?_; clear hK K
      refine ⟨k + 1, by show k + 1 ≤ _; omega, by show a.length - (k + 1) < a.length - k; omega, ?_⟩
      refine weak_to [] [] ?_ ?_ ?_ ?_ HO ?_
      all_goals simp
    · simp [-List.getD_eq_getElem?_getD] at hk
      refine aw_exit ?_; simp (maxSteps := 1000000) (disch := omega) [-List.getD_eq_getElem?_getD]
      refine hK1 _ ?_; clear hK1
      refine aw_reg fun K hK => ?_; simp (maxSteps := 1000000) (disch := omega) [-List.getD_eq_getElem?_getD]; refine hK _ ?_; clear hK K
      refine aw_ret ?_; simp (maxSteps := 1000000) (disch := omega) [-List.getD_eq_getElem?_getD]
      exact ⟨rfl, rfl, rfl⟩
end Go.Proofs.Ytbijefgmleagnaa
