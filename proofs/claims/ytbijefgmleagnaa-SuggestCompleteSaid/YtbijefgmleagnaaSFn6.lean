/- The near words of a dictionary (layer 43): the program's.
   Conditions: lengths below 1000, as the theorem says. -/
import Derived.Test.YtbijefgmleagnaaSFn5
namespace Sug
/-- The near words in the order of the dictionary. -/
def nearOf (w : Str) (k : Int) (e : Ent) : Option Fnd := if distE e.1 w ≤ k then some (e.1, distE e.1 w, e.2) else none
def foundE (l : List Ent) (w : Str) (k : Int) : List Fnd := l.filterMap (nearOf w k)
def sortF (l : List Fnd) : List Fnd := l.mergeSort fun x y => !(aheadF y x)
def withinE (l : List Ent) (w : Str) (k : Int) : List Fnd := if validE l = true ∧ 0 ≤ k ∧ k ≤ 3 then sortF (foundE l w k) else []

theorem aheadF_irrefl (x : Fnd) : aheadF x x = false := by
  simp [aheadF, slt_irrefl]
theorem aheadF_total (x y : Fnd) (h1 : aheadF x y = false) (h2 : aheadF y x = false) : x = y := by
  obtain ⟨s, a, b⟩ := x
  obtain ⟨t, c, d⟩ := y
  unfold aheadF at h1 h2
  simp only at h1 h2
  by_cases e1 : a = c
  · subst e1
    simp only [ne_eq, not_true_eq_false, if_false] at h1 h2
    by_cases e2 : b = d
    · subst e2
      simp only [not_true_eq_false, if_false] at h1 h2
      rw [slt_total _ _ h1 h2]
    · simp only [e2, Ne.symm e2, not_false_eq_true, if_true, decide_eq_false_iff_not] at h1 h2
      omega
  · simp only [e1, Ne.symm e1, ne_eq, not_false_eq_true, if_true, decide_eq_false_iff_not] at h1 h2
    omega
theorem aheadF_trans (x y z : Fnd) (h1 : aheadF x y = true) (h2 : aheadF y z = true) : aheadF x z = true := by
  obtain ⟨s, a, b⟩ := x
  obtain ⟨t, c, d⟩ := y
  obtain ⟨u, e, f⟩ := z
  unfold aheadF at h1 h2 ⊢
  simp only at h1 h2 ⊢
  split at h1
  · have h1 := of_decide_eq_true h1
    split at h2
    · have h2 := of_decide_eq_true h2
      rw [if_pos (by omega)]; exact decide_eq_true (by omega)
    · rename_i e2
      have : c = e := by simpa using e2
      rw [if_pos (by omega)]; exact decide_eq_true (by omega)
  · rename_i e1
    have e1 : a = c := by simpa using e1
    subst e1
    split at h2
    · rename_i e2; rw [if_pos e2]; exact h2
    · rename_i e2
      rw [if_neg e2]
      split at h1
      · have h1 := of_decide_eq_true h1
        split at h2
        · have h2 := of_decide_eq_true h2
          rw [if_pos (by omega)]; exact decide_eq_true (by omega)
        · rename_i e3
          have : d = f := by simpa using e3
          rw [if_pos (by omega)]; exact decide_eq_true (by omega)
      · rename_i e3
        have e3 : b = d := by simpa using e3
        subst e3
        split at h2
        · rename_i e4; rw [if_pos e4]; exact h2
        · rename_i e4; rw [if_neg e4]; exact slt_trans _ _ _ h1 h2
theorem aheadF_asymm (x y : Fnd) (h : aheadF x y = true) : aheadF y x = false := by
  cases h2 : aheadF y x with
  | false => rfl
  | true => have := aheadF_trans _ _ _ h h2; rw [aheadF_irrefl] at this; cases this
theorem aheadF_ntrans (x y z : Fnd) (h1 : aheadF x y = false) (h2 : aheadF y z = false) : aheadF x z = false := by
  cases h3 : aheadF x z with
  | false => rfl
  | true =>
    cases h4 : aheadF y x with
    | true => rw [aheadF_trans _ _ _ h4 h3] at h2; cases h2
    | false => rw [aheadF_total _ _ h1 h4] at h3; rw [h3] at h2; cases h2
end Sug
namespace Go.Proofs.Ytbijefgmleagnaa
open Go Go.Am Go.Sort Sug Edit
set_option linter.unusedVariables false

theorem ltOf_cfF : ltOf cfF = aheadF := by
  funext x y
  exact cfF_neg x y
theorem swoF : SWO (ltOf cfF) := by
  rw [ltOf_cfF]
  exact ⟨aheadF_irrefl, aheadF_trans, aheadF_ntrans⟩
theorem fndAV_enc (l : List Fnd) : l.flatMap encFA = fndAV l := rfl

theorem sortP_ok (l : List Fnd) (rest : List AV) (i cap : Nat) (hl : l.length ≤ 1000) (H : List Blk) (T : Toks) (hi : H[i]? = some (.cells (fndAV l ++ rest))) :
    ACall Try.prog 35 [.csl i l.length cap, .fn 36 [] []] H T (Is (.tup []) (H.set i (.cells (fndAV (sortF l) ++ rest))) T) := by
  have h := sortK_ok (H := H) (T := T) lays (k := 3) Try.isAgg44 Try.sizeOf44 encOk rfl cfF swoF (by rw [ltOf_cfF]; exact aheadF_total) 36 cmpF_ok (fun _ _ => Try.call35 _ _) l rest i cap hi (by omega)
  rw [ltOf_cfF] at h
  exact h
theorem sortP0_ok (H : List Blk) (T : Toks) (tg : Tag) :
    ACall Try.prog 35 [.sl 0 [] tg, .fn 36 [] []] H T (Is (.tup []) H T) :=
  sort0_ok lays 36 (fun _ _ => Try.call35 _ _) tg

/-- What the list of near words is while it grows. -/
def GInv (H : List Blk) (T : Toks) (d : List Fnd) (H1 : List Blk) (out : AV) : Prop :=
  (∃ G, H1 = H ++ G) ∧ HOk H1 T ∧ ((d = [] ∧ out = .sl 0 [] .full) ∨ ∃ i cap r, out = .csl i d.length cap ∧ H.length ≤ i ∧ H1[i]? = some (.cells (fndAV d ++ List.replicate r AV.top)) ∧ d.length * 3 + r = cap * 3)

theorem GInv.more {H : List Blk} {T : Toks} {d : List Fnd} {H1 : List Blk} {out : AV} (h : GInv H T d H1 out) (vs : List AV) (hv : BelowAll (H1.length + 1) T.length vs) : GInv H T d (H1 ++ [.cells vs]) out := by
  obtain ⟨⟨G, rfl⟩, h2, h3⟩ := h
  refine ⟨⟨G ++ [.cells vs], by simp⟩, h2.snoc hv, ?_⟩
  rcases h3 with h3 | ⟨i, cap, r, e, hi, hb, hr⟩
  · exact .inl h3
  · exact .inr ⟨i, cap, r, e, hi, by rw [List.getElem?_append_left (List.getElem?_eq_some_iff.1 hb).1]; exact hb, hr⟩
theorem GInv.first {H : List Blk} {T : Toks} {H1 : List Blk} {out : AV} (h : GInv H T [] H1 out) (x : Fnd) (nc : Nat) (hn : 1 ≤ nc) : GInv H T [x] (H1 ++ [.cells (fndAV [x] ++ List.replicate ((nc - 1) * 3) AV.top)]) (.csl H1.length 1 nc) := by
  obtain ⟨⟨G, rfl⟩, h2, h3⟩ := h
  refine ⟨⟨G ++ _, by rw [List.append_assoc]⟩, h2.snoc (by simp), .inr ⟨_, nc, (nc - 1) * 3, rfl, by simp, by simp, ?_⟩⟩
  simp only [List.length_singleton]
  omega
theorem GInv.put {H : List Blk} {T : Toks} {d : List Fnd} {H1 : List Blk} {i cap r : Nat} (h2 : HOk H1 T) (hG : ∃ G, H1 = H ++ G) (hi : H.length ≤ i) (hb : H1[i]? = some (.cells (fndAV d ++ List.replicate r AV.top))) (hr : d.length * 3 + r = cap * 3) (hle : d.length + 1 ≤ cap) (x : Fnd) :
    GInv H T (d ++ [x]) (H1.set i (.cells ((fndAV d ++ List.replicate r AV.top).take (d.length * 3) ++ fndAV [x] ++ (fndAV d ++ List.replicate r AV.top).drop ((d.length + 1) * 3)))) (.csl i (d.length + 1) cap) := by
  obtain ⟨G, rfl⟩ := hG
  have hil := (List.getElem?_eq_some_iff.1 hb).1
  have e1 : (fndAV d ++ List.replicate r AV.top).take (d.length * 3) = fndAV d := by rw [← fndAV_len, List.take_left']; rfl
  have e2 : (fndAV d ++ List.replicate r AV.top).drop ((d.length + 1) * 3) = List.replicate (r - 3) AV.top := by
    rw [show (d.length + 1) * 3 = (fndAV d).length + 3 by rw [fndAV_len]; omega, ← List.drop_drop, List.drop_left', List.drop_replicate]
    rfl
  rw [e1, e2, fndAV_app]
  refine ⟨⟨G.set (i - H.length) _, by rw [List.set_append_right _ _ hi]⟩, h2.set (by simp), .inr ⟨i, cap, r - 3, by simp, hi, by rw [List.getElem?_set_self hil], ?_⟩⟩
  simp only [List.length_append, List.length_singleton]
  omega
theorem GInv.grow {H : List Blk} {T : Toks} {d : List Fnd} {H1 : List Blk} {r nc : Nat} (h2 : HOk H1 T) (hG : ∃ G, H1 = H ++ G) (hn : d.length + 1 ≤ nc) (x : Fnd) :
    GInv H T (d ++ [x]) (H1 ++ [.cells ((fndAV d ++ List.replicate r AV.top).take (d.length * 3) ++ fndAV [x] ++ List.replicate ((nc - (d.length + 1)) * 3) AV.top)]) (.csl H1.length (d.length + 1) nc) := by
  obtain ⟨G, rfl⟩ := hG
  have e1 : (fndAV d ++ List.replicate r AV.top).take (d.length * 3) = fndAV d := by rw [← fndAV_len, List.take_left']; rfl
  rw [e1, fndAV_app]
  refine ⟨⟨G ++ _, by rw [List.append_assoc]⟩, h2.snoc (by simp), .inr ⟨(H ++ G).length, nc, (nc - (d.length + 1)) * 3, by simp, by simp, by simp, ?_⟩⟩
  simp only [List.length_append, List.length_singleton]
  omega

theorem found_take {l : List Ent} {w : Str} {kk : Int} {k : Nat} (hk : k < l.length) : foundE (l.take (k + 1)) w kk = foundE (l.take k) w kk ++ (nearOf w kk (l.getD k ([], 0))).toList := by
  have e : l.take (k + 1) = l.take k ++ [l.getD k ([], 0)] := by
    rw [List.take_succ_eq_append_getElem hk, List.getD_eq_getElem?_getD, List.getElem?_eq_getElem hk]
    rfl
  rw [e, foundE, List.filterMap_append]
  congr 1
theorem found_len (l : List Ent) (w : Str) (kk : Int) : (foundE l w kk).length ≤ l.length := List.length_filterMap_le _ _

theorem sortF_len (l : List Fnd) : (sortF l).length = l.length := List.length_mergeSort _

theorem below_out {H : List Blk} {T : Toks} {d : List Fnd} {H1 : List Blk} {out : AV} (h : GInv H T d H1 out) : Below H1.length T.length out ∧ H.length ≤ H1.length := by
  obtain ⟨⟨G, rfl⟩, h2, h3⟩ := h
  refine ⟨?_, by simp⟩
  rcases h3 with ⟨_, rfl⟩ | ⟨i, cap, r, rfl, hi, hb, hr⟩
  · simp
  · have := (List.getElem?_eq_some_iff.1 hb).1
    exact below_csl.2 this

set_option maxRecDepth 100000 in
set_option maxHeartbeats 8000000 in
theorem within43_ok (l : List Ent) (w : Str) (kk : Int) (hkk : -9223372036854775808 ≤ kk ∧ kk ≤ 9223372036854775807) (hl : l.length ≤ 1000) (hp : ∀ p ∈ l, p.1.length ≤ 1000) (hw : w.length ≤ 1000) (H : List Blk) (T : Toks) (tg : Tag) :
    ACall Try.prog 19 [.sl l.length (entAV l) tg, .str w, .int .i64 kk] H T (Is (.sl (withinE l w kk).length (fndAV (withinE l w kk)) .none) H T) := by
  refine ACall.untag1 ?_
  refine ACall.freezeAt (by simp) ?_
  have c0 := validP_ok l hl hp H T .none
  have c1 := chars_ok w (by omega) H T
  generalize hq : withinE l w kk = q
  refine acall_enter 31 [100062] Try.ntmps19 Try.func19 rfl (fun _ _ => Try.call19 _ _) (by simp) (fun HO => ?_)
  refine aw_reg fun K hK => ?_; simp (maxSteps := 1000000) (disch := omega) [-List.getD_eq_getElem?_getD]; refine hK _ ?_; clear hK K
  refine aw_reg fun K hK => ?_; simp (maxSteps := 1000000) (disch := omega) [-List.getD_eq_getElem?_getD]; refine hK _ ?_; clear hK K
  refine aw_then fun K1 hK1 => ?_
  have hdone : (validE l = true ∧ 0 ≤ kk ∧ kk ≤ 3) ∨ ¬ (validE l = true ∧ 0 ≤ kk ∧ kk ≤ 3) := Classical.em _
  rcases hdone with ⟨hv, hk0, hk3⟩ | hno
  · rw [hv] at c0
    have b1 : decide (kk < 0) = false := decide_eq_false (by omega)
    have b2 : decide (3 < kk) = false := decide_eq_false (by omega)
    have n1 : ¬ kk < 0 := by omega
    have n2 : ¬ 3 < kk := by omega
    refine aw_reg fun K hK => ?_; simp (maxSteps := 1000000) (disch := omega) [-List.getD_eq_getElem?_getD]
    refine acall_is (c0) ?_; simp (maxSteps := 1000000) (disch := omega) [-List.getD_eq_getElem?_getD, b1, b2, n1, n2]
    refine hK _ ?_; clear hK K
    refine aw_if rfl (fun h => absurd h (by simp)) (fun h => ?_)
    refine aw_skip ?_; simp (maxSteps := 1000000) (disch := omega) [-List.getD_eq_getElem?_getD]
    refine hK1 _ ?_; clear hK1
    refine aw_reg fun K hK => ?_; simp (maxSteps := 1000000) (disch := omega) [-List.getD_eq_getElem?_getD]
    refine acall_is (c1) ?_; simp (maxSteps := 1000000) (disch := omega) [-List.getD_eq_getElem?_getD]
    refine hK _ ?_; clear hK K
    refine aw_then fun K1 hK1 => ?_
    refine aw_reg fun K hK => ?_; simp (maxSteps := 1000000) (disch := omega) [-List.getD_eq_getElem?_getD]; refine hK _ ?_; clear hK K
    refine aw_block ?_
    refine aw_loop (X := Nat × List Blk × AV) (fun x => ⟨[(0, .sl l.length (entAV l) .none), (1, .str w), (2, .int .i64 kk), (7, x.2.2), (8, .sl (chars w).length (ints (chars w)) .none), (27, .sl l.length (entAV l) .none), (28, .int .i64 (l.length : Nat)), (29, .int .i64 (x.1 : Nat))], x.2.1, T⟩)
      (fun x => x.1 ≤ l.length ∧ GInv H T (foundE (l.take x.1) w kk) x.2.1 x.2.2) (fun x => l.length - x.1) (0, H, .sl 0 [] .full) ?_ ?_ ?_
    · exact ⟨Nat.zero_le _, ⟨[], by simp⟩, HO, .inl ⟨rfl, rfl⟩⟩
    · refine weak_to [] [] ?_ ?_ ?_ ?_ HO ?_
      all_goals simp
    · rintro ⟨k, H1, out⟩ ⟨h1, h2⟩
      simp only at h1 h2
      have hbo := below_out h2
      refine aw_reg fun K hK => ?_; simp (maxSteps := 1000000) (disch := omega) [-List.getD_eq_getElem?_getD]; refine hK _ ?_; clear hK K
      refine aw_then fun K2 hK2 => ?_
      refine aw_if rfl (fun hk => ?_) (fun hk => ?_)
      · simp [-List.getD_eq_getElem?_getD] at hk
        have hcut := entAV_cut l k hk
        refine aw_skip ?_; simp (maxSteps := 1000000) (disch := omega) [-List.getD_eq_getElem?_getD]
        refine hK2 _ ?_; clear hK2
        refine aw_then fun K3 hK3 => ?_
        refine aw_block ?_
        refine aw_reg fun K hK => ?_; simp (maxSteps := 1000000) (disch := omega) [-List.getD_eq_getElem?_getD, hcut, entAV_len]; refine hK _ ?_; clear hK K
        have c2 := fun H T => chars_ok (l.getD k ([], 0)).1 (by have := hp _ (memD l k ([], 0) hk); omega) H T
        have c3 := fun H T => within_ok (chars (l.getD k ([], 0)).1) (chars w) kk hkk (Nat.le_trans (chars_len _) (hp _ (memD l k ([], 0) hk))) (Nat.le_trans (chars_len _) hw) H T .none .none
        have h2' := h2.more [.str (l.getD k ([], 0)).1, .int .i64 (l.getD k ([], 0)).2] (by simp)
        have hft := found_take (l := l) (w := w) (kk := kk) hk
        have hbo2 := below_out h2'
        have hbo3 : Below (H1.length + 1) T.length out := by have := hbo2.1; simpa using this
        obtain ⟨E, hE⟩ : ∃ E : Nat, ed (chars (l.getD k ([], 0)).1) (chars w) = E := ⟨_, rfl⟩
        simp only [hE] at c3
        have hdist : distE (l.getD k ([], 0)).1 w = if (l.getD k ([], 0)).1 = w then 0 else max 1 (E : Int) := by rw [distE, hE]
        have hE0 : (l.getD k ([], 0)).1 = w → E = 0 := fun h => by rw [← hE, h, ed_self]
        refine aw_reg fun K hK => ?_; simp (maxSteps := 1000000) (disch := omega) [-List.getD_eq_getElem?_getD]
        refine acall_is (c2 _ _) ?_; simp (maxSteps := 1000000) (disch := omega) [-List.getD_eq_getElem?_getD]
        refine acall_is (c3 _ _) ?_; simp (maxSteps := 1000000) (disch := omega) [-List.getD_eq_getElem?_getD]
        refine hK _ ?_; clear hK K
        refine aw_then fun K4 hK4 => ?_
        have fin1 : ∀ e, distE (l.getD k ([], 0)).1 w ≤ kk → envLe (H1.length + 1) T.length e [(0, .sl l.length (entAV l) .none), (1, .str w), (2, .int .i64 kk), (7, out), (8, .sl (chars w).length (ints (chars w)) .none), (10, .ptr H1.length 0), (11, .int .i64 (distE (l.getD k ([], 0)).1 w)), (12, .bool true), (27, .sl l.length (entAV l) .none), (28, .int .i64 (l.length : Nat)), (29, .int .i64 (k : Nat))] →
            K4 ⟨e, H1 ++ [.cells [.str (l.getD k ([], 0)).1, .int .i64 (l.getD k ([], 0)).2]], T⟩ := by
          intro e hd he
          have hok := h2'.2.1
          have hlen : (H1 ++ [Blk.cells [.str (l.getD k ([], 0)).1, .int .i64 (l.getD k ([], 0)).2]]).length = H1.length + 1 := by simp
          refine hK4 _ (aw_weak ⟨[(0, .sl l.length (entAV l) .none), (1, .str w), (2, .int .i64 kk), (7, out), (8, .sl (chars w).length (ints (chars w)) .none), (10, .ptr H1.length 0), (11, .int .i64 (distE (l.getD k ([], 0)).1 w)), (12, .bool true), (27, .sl l.length (entAV l) .none), (28, .int .i64 (l.length : Nat)), (29, .int .i64 (k : Nat))], H1 ++ [.cells [.str (l.getD k ([], 0)).1, .int .i64 (l.getD k ([], 0)).2]], T⟩ (weak_to [] [] (by simp) (by simp) (by rw [hlen]; show H.length ≤ _; have := hbo.2; omega) (by simp) hok (by rw [hlen]; exact he)) ?_)
          have hno : nearOf w kk (l.getD k ([], 0)) = some ((l.getD k ([], 0)).1, distE (l.getD k ([], 0)).1 w, (l.getD k ([], 0)).2) := by rw [nearOf, if_pos hd]
          rw [hno] at hft
          generalize distE (l.getD k ([], 0)).1 w = dd at *
          have b1 : decide (dd ≤ kk) = true := decide_eq_true hd
          refine aw_reg fun K hK => ?_; simp (maxSteps := 1000000) (disch := omega) [-List.getD_eq_getElem?_getD, b1, hd]; refine hK _ ?_; clear hK K
          refine aw_if rfl (fun h => ?_) (fun h => absurd h (by simp))
          have hdl : (foundE (l.take k) w kk).length ≤ 1000 := Nat.le_trans (found_len _ _ _) (by rw [List.length_take]; omega)
          generalize foundE (l.take k) w kk = d at *
          generalize hp2 : l.getD k ([], 0) = p at *
          obtain ⟨hG, hok2, ⟨rfl, rfl⟩ | ⟨i, cap, r, rfl, hi, hb, hr⟩⟩ := h2'
          · have hI := fun nc hn => GInv.first (H := H) (T := T) (H1 := H1 ++ [.cells [.str p.1, .int .i64 p.2]]) (out := .sl 0 [] .full) ⟨hG, hok2, .inl ⟨rfl, rfl⟩⟩ (p.1, dd, p.2) nc hn
            refine aw_reg0 fun K hK => ?_; simp (maxSteps := 1000000) (disch := omega) [-List.getD_eq_getElem?_getD]
            intro nc hn
            refine hK _ ?_; clear hK K
            refine hK3 _ ?_; clear hK3
            refine aw_reg0 fun K hK => ?_; simp (maxSteps := 1000000) (disch := omega) [-List.getD_eq_getElem?_getD]
            refine hK _ ?_; clear hK K
            refine ⟨(k + 1, H1 ++ [.cells [.str p.1, .int .i64 p.2], .cells (.str p.1 :: .int .i64 dd :: .int .i64 p.2 :: List.replicate ((nc - 1) * 3) .top)], .csl (H1.length + 1) 1 nc), ⟨by show k + 1 ≤ _; omega, by show GInv H T (foundE (l.take (k + 1)) w kk) _ _; rw [hft]; simpa [fndAV] using hI nc hn⟩, by show l.length - (k + 1) < l.length - k; omega, ?_⟩
            have hok3 := (hI nc hn).2.1
            refine weak_to [] [] ?_ ?_ ?_ ?_ (by simpa [fndAV] using hok3) ?_
            all_goals simp
            all_goals omega
          · have hen : d.length + 1 ≤ cap → GInv H T (d ++ [(p.1, dd, p.2)]) ((H1 ++ [Blk.cells [AV.str p.1, AV.int .i64 p.2]]).set i (Blk.cells ((fndAV d ++ List.replicate r AV.top).take (d.length * 3) ++ [AV.str p.1, AV.int .i64 dd, AV.int .i64 p.2] ++ (fndAV d ++ List.replicate r AV.top).drop ((d.length + 1) * 3)))) (AV.csl i (d.length + 1) cap) := fun hle => GInv.put (H := H) (T := T) hok2 hG hi hb hr hle (p.1, dd, p.2)
            have hgr : ∀ nc, d.length + 1 ≤ nc → GInv H T (d ++ [(p.1, dd, p.2)]) ((H1 ++ [Blk.cells [AV.str p.1, AV.int .i64 p.2]]) ++ [Blk.cells ((fndAV d ++ List.replicate r AV.top).take (d.length * 3) ++ [AV.str p.1, AV.int .i64 dd, AV.int .i64 p.2] ++ List.replicate ((nc - (d.length + 1)) * 3) AV.top)]) (AV.csl (H1 ++ [Blk.cells [AV.str p.1, AV.int .i64 p.2]]).length (d.length + 1) nc) := fun nc hn => GInv.grow (H := H) (T := T) hok2 hG hn (p.1, dd, p.2)
            have hft' : foundE (l.take (k + 1)) w kk = d ++ [(p.1, dd, p.2)] := hft
            have fin : ∀ e H2 out2, GInv H T (d ++ [(p.1, dd, p.2)]) H2 out2 → envLe H2.length T.length e [(0, .sl l.length (entAV l) .none), (1, .str w), (2, .int .i64 kk), (7, out2), (8, .sl (chars w).length (ints (chars w)) .none), (27, .sl l.length (entAV l) .none), (28, .int .i64 (l.length : Nat)), (29, .int .i64 (k : Nat))] → K3 ⟨e, H2, T⟩ := by
              intro e H2 out2 hg he
              have hb2 := below_out hg
              refine hK3 _ (aw_weak ⟨[(0, .sl l.length (entAV l) .none), (1, .str w), (2, .int .i64 kk), (7, out2), (8, .sl (chars w).length (ints (chars w)) .none), (27, .sl l.length (entAV l) .none), (28, .int .i64 (l.length : Nat)), (29, .int .i64 (k : Nat))], H2, T⟩ (weak_to [] [] (by simp) (by simp) (by simpa using hb2.2) (by simp) hg.2.1 he) ?_)
              refine aw_reg0 fun K hK => ?_; simp (maxSteps := 1000000) (disch := omega) [-List.getD_eq_getElem?_getD]
              refine hK _ ?_; clear hK K
              refine ⟨(k + 1, H2, out2), ⟨by show k + 1 ≤ _; omega, by show GInv H T (foundE (l.take (k + 1)) w kk) _ _; rw [hft']; exact hg⟩, by show l.length - (k + 1) < l.length - k; omega, ?_⟩
              refine weak_to [] [] ?_ ?_ ?_ ?_ hg.2.1 ?_
              all_goals simp [hb2.1, hb2.2]
            clear hK3
            refine aw_reg0 fun K hK => ?_; simp (maxSteps := 1000000) (disch := omega) [-List.getD_eq_getElem?_getD]
            refine ⟨44, _, [.str p.1, .int .i64 dd, .int .i64 p.2], 1, by kernel_rfl, hb, by simp [fndAV_len]; omega, by simp, by simp; omega, by omega, by kernel_rfl, by simp, fun hle => ?_, fun nc hlt hnc => ?_⟩
            · have hg := hen hle
              simp only [cells44]
              generalize hX : (H1 ++ [Blk.cells [.str p.1, .int .i64 p.2]]).set i _ = H2 at hg ⊢
              have hb2 := below_out hg
              simp (maxSteps := 1000000) (disch := omega) [-List.getD_eq_getElem?_getD]
              refine hK _ ?_; clear hK K
              refine fin _ _ _ hg ?_
              simp [hb2.1]
            · have hg := hgr nc hnc
              simp only [cells44]
              generalize hX : (H1 ++ [Blk.cells [.str p.1, .int .i64 p.2]]) ++ [Blk.cells _] = H2 at hg ⊢
              generalize hY : (H1 ++ [Blk.cells [.str p.1, .int .i64 p.2]]).length = i2 at hg ⊢
              have hb2 := below_out hg
              simp (maxSteps := 1000000) (disch := omega) [-List.getD_eq_getElem?_getD]
              refine hK _ ?_; clear hK K
              refine fin _ _ _ hg ?_
              simp [hb2.1]
        have fin2 : ∀ e (n' : Int) (b : Bool), (b = true → ¬ n' ≤ kk) → ¬ distE (l.getD k ([], 0)).1 w ≤ kk → envLe (H1.length + 1) T.length e [(0, .sl l.length (entAV l) .none), (1, .str w), (2, .int .i64 kk), (7, out), (8, .sl (chars w).length (ints (chars w)) .none), (10, .ptr H1.length 0), (11, .int .i64 n'), (12, .bool b), (27, .sl l.length (entAV l) .none), (28, .int .i64 (l.length : Nat)), (29, .int .i64 (k : Nat))] →
            K4 ⟨e, H1 ++ [.cells [.str (l.getD k ([], 0)).1, .int .i64 (l.getD k ([], 0)).2]], T⟩ := by
          intro e n' b hb hd he
          have hok := h2'.2.1
          have hlen : (H1 ++ [Blk.cells [.str (l.getD k ([], 0)).1, .int .i64 (l.getD k ([], 0)).2]]).length = H1.length + 1 := by simp
          refine hK4 _ (aw_weak ⟨[(0, .sl l.length (entAV l) .none), (1, .str w), (2, .int .i64 kk), (7, out), (8, .sl (chars w).length (ints (chars w)) .none), (10, .ptr H1.length 0), (11, .int .i64 n'), (12, .bool b), (27, .sl l.length (entAV l) .none), (28, .int .i64 (l.length : Nat)), (29, .int .i64 (k : Nat))], H1 ++ [.cells [.str (l.getD k ([], 0)).1, .int .i64 (l.getD k ([], 0)).2]], T⟩ (weak_to [] [] (by simp) (by simp) (by rw [hlen]; show H.length ≤ _; have := hbo.2; omega) (by simp) hok (by rw [hlen]; exact he)) ?_)
          have hno : nearOf w kk (l.getD k ([], 0)) = none := by rw [nearOf, if_neg hd]
          rw [hno] at hft
          have hft' : foundE (l.take (k + 1)) w kk = foundE (l.take k) w kk := by rw [hft]; simp
          have go : ∀ e b', b' = false → envLe (H1.length + 1) T.length e [(0, .sl l.length (entAV l) .none), (1, .str w), (2, .int .i64 kk), (7, out), (8, .sl (chars w).length (ints (chars w)) .none), (27, .sl l.length (entAV l) .none), (28, .int .i64 (l.length : Nat)), (29, .int .i64 (k : Nat)), (53, .bool b')] → True := fun _ _ _ _ => trivial
          cases b with
          | false =>
            refine aw_reg fun K hK => ?_; simp (maxSteps := 1000000) (disch := omega) [-List.getD_eq_getElem?_getD]; refine hK _ ?_; clear hK K
            refine aw_if rfl (fun h => absurd h (by simp)) (fun h => ?_)
            refine aw_skip ?_; simp (maxSteps := 1000000) (disch := omega) [-List.getD_eq_getElem?_getD]
            refine hK3 _ ?_; clear hK3
            refine aw_reg0 fun K hK => ?_; simp (maxSteps := 1000000) (disch := omega) [-List.getD_eq_getElem?_getD]
            refine hK _ ?_; clear hK K
            refine ⟨(k + 1, H1 ++ [.cells [.str (l.getD k ([], 0)).1, .int .i64 (l.getD k ([], 0)).2]], out), ⟨by show k + 1 ≤ _; omega, by show GInv H T (foundE (l.take (k + 1)) w kk) _ _; rw [hft']; exact h2'⟩, by show l.length - (k + 1) < l.length - k; omega, ?_⟩
            refine weak_to [] [] ?_ ?_ ?_ ?_ hok ?_
            all_goals simp [hbo3]
            all_goals omega
          | true =>
            have hn := hb rfl
            have b1 : decide (n' ≤ kk) = false := decide_eq_false hn
            refine aw_reg fun K hK => ?_; simp (maxSteps := 1000000) (disch := omega) [-List.getD_eq_getElem?_getD, b1, hn]; refine hK _ ?_; clear hK K
            refine aw_if rfl (fun h => absurd h (by simp)) (fun h => ?_)
            refine aw_skip ?_; simp (maxSteps := 1000000) (disch := omega) [-List.getD_eq_getElem?_getD]
            refine hK3 _ ?_; clear hK3
            refine aw_reg0 fun K hK => ?_; simp (maxSteps := 1000000) (disch := omega) [-List.getD_eq_getElem?_getD]
            refine hK _ ?_; clear hK K
            refine ⟨(k + 1, H1 ++ [.cells [.str (l.getD k ([], 0)).1, .int .i64 (l.getD k ([], 0)).2]], out), ⟨by show k + 1 ≤ _; omega, by show GInv H T (foundE (l.take (k + 1)) w kk) _ _; rw [hft']; exact h2'⟩, by show l.length - (k + 1) < l.length - k; omega, ?_⟩
            refine weak_to [] [] ?_ ?_ ?_ ?_ hok ?_
            all_goals simp [hbo3]
            all_goals omega
        clear hK4
        by_cases hxw : (l.getD k ([], 0)).1 = w
        · have b1 : ((l.getD k ([], 0)).1 != w) = false := by simp only [bne_eq_false_iff_eq]; exact hxw
          have b1' : ((l.getD k ([], 0)).1 == w) = true := by simp only [beq_iff_eq]; exact hxw
          have hE1 := hE0 hxw
          subst hE1
          rw [if_pos hxw] at hdist
          have b2 : decide ((0 : Int) ≤ kk) = true := decide_eq_true hk0
          refine aw_reg fun K hK => ?_; simp (maxSteps := 1000000) (disch := omega) [-List.getD_eq_getElem?_getD, b1, b1']
          refine hK _ ?_; clear hK K
          refine aw_if rfl (fun h => absurd h (by simp)) (fun h => ?_)
          refine aw_skip ?_; simp (maxSteps := 1000000) (disch := omega) [-List.getD_eq_getElem?_getD]
          refine fin1 _ (by omega) ?_
          rw [hdist]
          simp [hbo3, hk0]
        · have b1 : ((l.getD k ([], 0)).1 != w) = true := bne_iff_ne.2 hxw
          have b1' : ((l.getD k ([], 0)).1 == w) = false := beq_eq_false_iff_ne.2 hxw
          rw [if_neg hxw] at hdist
          refine aw_reg fun K hK => ?_; simp (maxSteps := 1000000) (disch := omega) [-List.getD_eq_getElem?_getD, b1, b1']
          refine hK _ ?_; clear hK K
          refine aw_if rfl (fun h => ?_) (fun h => absurd h (by simp))
          by_cases hEk : (E : Int) ≤ kk
          · have b3 : decide ((E : Int) ≤ kk) = true := decide_eq_true hEk
            by_cases hd : distE (l.getD k ([], 0)).1 w ≤ kk
            · refine aw_reg0 fun K hK => ?_; simp (maxSteps := 1000000) (disch := omega) [-List.getD_eq_getElem?_getD, b3, hEk]
              refine hK _ ?_; clear hK K
              refine fin1 _ hd ?_
              rw [hdist]
              simp [hbo3, hEk]
              omega
            · refine aw_reg0 fun K hK => ?_; simp (maxSteps := 1000000) (disch := omega) [-List.getD_eq_getElem?_getD, b3, hEk]
              refine hK _ ?_; clear hK K
              refine fin2 _ (distE (l.getD k ([], 0)).1 w) true (fun _ => hd) hd ?_
              rw [hdist]
              simp [hbo3, hEk]
              omega
          · have b3 : decide ((E : Int) ≤ kk) = false := decide_eq_false hEk
            refine aw_reg0 fun K hK => ?_; simp (maxSteps := 1000000) (disch := omega) [-List.getD_eq_getElem?_getD, b3, hEk]
            refine hK _ ?_; clear hK K
            refine fin2 _ 1 false (fun h => by cases h) (by omega) ?_
            simp [hbo3, hEk]
      · simp [-List.getD_eq_getElem?_getD] at hk
        have e : k = l.length := by omega
        subst e
        rw [List.take_length] at h2
        have hfl := found_len l w kk
        have hwe : q = sortF (foundE l w kk) := by rw [← hq, withinE, if_pos ⟨hv, hk0, hk3⟩]
        generalize hd : foundE l w kk = d at *
        obtain ⟨hG, hok, ⟨rfl, rfl⟩ | ⟨i, cap, r, rfl, hi, hb, hr⟩⟩ := h2
        · have c := sortP0_ok H1 T .full
          refine aw_exit ?_; simp (maxSteps := 1000000) (disch := omega) [-List.getD_eq_getElem?_getD]
          refine hK1 _ ?_; clear hK1
          refine aw_reg fun K hK => ?_; simp (maxSteps := 1000000) (disch := omega) [-List.getD_eq_getElem?_getD]
          refine acall_is (c) ?_; simp (maxSteps := 1000000) (disch := omega) [-List.getD_eq_getElem?_getD]
          refine hK _ ?_; clear hK K
          refine aw_reg fun K hK => ?_; simp (maxSteps := 1000000) (disch := omega) [-List.getD_eq_getElem?_getD]; refine hK _ ?_; clear hK K
          refine aw_ret ?_; simp (maxSteps := 1000000) (disch := omega) [-List.getD_eq_getElem?_getD]
          rw [hwe]
          exact ⟨hG, by simp [sortF, fndAV_nil]⟩
        · have c := sortP_ok d (List.replicate r .top) i cap (by omega) H1 T hb
          refine aw_exit ?_; simp (maxSteps := 1000000) (disch := omega) [-List.getD_eq_getElem?_getD]
          refine hK1 _ ?_; clear hK1
          refine aw_reg fun K hK => ?_; simp (maxSteps := 1000000) (disch := omega) [-List.getD_eq_getElem?_getD]
          refine acall_is (c) ?_; simp (maxSteps := 1000000) (disch := omega) [-List.getD_eq_getElem?_getD]
          refine hK _ ?_; clear hK K
          refine aw_reg fun K hK => ?_; simp (maxSteps := 1000000) (disch := omega) [-List.getD_eq_getElem?_getD]; refine hK _ ?_; clear hK K
          refine aw_ret ?_; simp (maxSteps := 1000000) (disch := omega) [-List.getD_eq_getElem?_getD]
          rw [hwe]
          obtain ⟨G, rfl⟩ := hG
          exact ⟨⟨G.set (i - H.length) _, by rw [List.set_append_right _ _ hi]⟩, i, ⟨rfl, (sortF_len d).symm⟩, hi, _, List.getElem?_set_self (List.getElem?_eq_some_iff.1 hb).1⟩
  · have hwe : q = [] := by rw [← hq, withinE, if_neg hno]
    subst hwe
    cases hv : validE l with
    | false =>
      rw [hv] at c0
      refine aw_reg fun K hK => ?_; simp (maxSteps := 1000000) (disch := omega) [-List.getD_eq_getElem?_getD]
      refine acall_is (c0) ?_; simp (maxSteps := 1000000) (disch := omega) [-List.getD_eq_getElem?_getD]
      refine hK _ ?_; clear hK K
      refine aw_if rfl (fun h => ?_) (fun h => absurd h (by simp))
      refine aw_reg fun K hK => ?_; simp (maxSteps := 1000000) (disch := omega) [-List.getD_eq_getElem?_getD]; refine hK _ ?_; clear hK K
      refine aw_ret ?_; simp (maxSteps := 1000000) (disch := omega) [-List.getD_eq_getElem?_getD, fndAV_nil]
    | true =>
      rw [hv] at c0
      by_cases h1 : kk < 0
      · have b1 : decide (kk < 0) = true := decide_eq_true h1
        refine aw_reg fun K hK => ?_; simp (maxSteps := 1000000) (disch := omega) [-List.getD_eq_getElem?_getD]
        refine acall_is (c0) ?_; simp (maxSteps := 1000000) (disch := omega) [-List.getD_eq_getElem?_getD, b1, h1]
        refine hK _ ?_; clear hK K
        refine aw_if rfl (fun h => ?_) (fun h => absurd h (by simp))
        refine aw_reg fun K hK => ?_; simp (maxSteps := 1000000) (disch := omega) [-List.getD_eq_getElem?_getD]; refine hK _ ?_; clear hK K
        refine aw_ret ?_; simp (maxSteps := 1000000) (disch := omega) [-List.getD_eq_getElem?_getD, fndAV_nil]
      · have b1 : decide (kk < 0) = false := decide_eq_false h1
        have h2 : 3 < kk := by
          rcases Int.lt_or_le 3 kk with h2 | h2
          · exact h2
          · exact absurd ⟨hv, by omega, h2⟩ hno
        have b2 : decide (3 < kk) = true := decide_eq_true h2
        refine aw_reg fun K hK => ?_; simp (maxSteps := 1000000) (disch := omega) [-List.getD_eq_getElem?_getD]
        refine acall_is (c0) ?_; simp (maxSteps := 1000000) (disch := omega) [-List.getD_eq_getElem?_getD, b1, h1, b2, h2]
        refine hK _ ?_; clear hK K
        refine aw_if rfl (fun h => ?_) (fun h => absurd h (by simp))
        refine aw_reg fun K hK => ?_; simp (maxSteps := 1000000) (disch := omega) [-List.getD_eq_getElem?_getD]; refine hK _ ?_; clear hK K
        refine aw_ret ?_; simp (maxSteps := 1000000) (disch := omega) [-List.getD_eq_getElem?_getD, fndAV_nil]
end Go.Proofs.Ytbijefgmleagnaa
