/- Completing a prefix: the program's (layer 43).
   Conditions: lengths below 40 and 1000, as the theorem says. -/
import Derived.Test.YtbijefgmleagnaaSSt5
import Derived.Test.YtbijefgmleagnaaSFrz2
namespace Sug
open Go.Proofs.Ytbijefgmleagnaa
def hasP (p w : Str) : Bool := decide (p.length ≤ w.length) && (w.take p.length == p)
theorem slt_pre : ∀ (p s : Str), slt (p ++ s) p = false
  | [], s => by cases s <;> rfl
  | x :: p, s => by
    have h : Go.Op.bytesLess (p ++ s) p = false := slt_pre p s
    show (decide (x < x) || (x == x && Go.Op.bytesLess (p ++ s) p)) = false
    rw [h]
    simp
theorem hasP_app {p w : Str} (h : hasP p w = true) : ∃ s, w = p ++ s := by
  simp only [hasP, Bool.and_eq_true, decide_eq_true_eq, beq_iff_eq] at h
  exact ⟨w.drop p.length, by conv => lhs; rw [← List.take_append_drop p.length w, h.2]⟩
theorem hasP_slt {p w : Str} (h : slt w p = true) : hasP p w = false := by
  cases hh : hasP p w with
  | false => rfl
  | true =>
    obtain ⟨s, rfl⟩ := hasP_app hh
    rw [slt_pre] at h; cases h
theorem hasP_mk (p s : Str) : hasP p (p ++ s) = true := by simp [hasP]
def keepE (p : Str) (l : List Ent) : List Ent := l.filter fun e => hasP p e.1
def compE (l : List Ent) (p : Str) (most : Int) : List Ent := if validE l = true ∧ 1 ≤ most then (sortC (keepE p l)).take most.toNat else []
theorem keep_drop {l : List Ent} {p : Str} {n : Nat} (hn : n ≤ l.length) (h : ∀ j, j < n → slt (l.getD j ([], 0)).1 p = true) : keepE p (l.drop n) = keepE p l := by
  conv => rhs; rw [← List.take_append_drop n l]
  unfold keepE
  rw [List.filter_append]
  have : (l.take n).filter (fun e => hasP p e.1) = [] := by
    rw [List.filter_eq_nil_iff]
    intro e he
    obtain ⟨j, hj, e1⟩ := List.mem_iff_getElem.1 he
    rw [List.length_take] at hj
    have h1 := h j (by omega)
    rw [List.getD_eq_getElem?_getD, List.getElem?_eq_getElem (by omega)] at h1
    rw [List.getElem_take] at e1
    rw [← e1]
    simpa using hasP_slt h1
  rw [this, List.nil_append]
theorem keep_take {l : List Ent} {p : Str} {k : Nat} (hk : k < l.length) : keepE p (l.take (k + 1)) = keepE p (l.take k) ++ if hasP p (l.getD k ([], 0)).1 = true then [l.getD k ([], 0)] else [] := by
  have e : l.take (k + 1) = l.take k ++ [l.getD k ([], 0)] := by
    rw [List.take_succ_eq_append_getElem hk, List.getD_eq_getElem?_getD, List.getElem?_eq_getElem hk]
    rfl
  rw [e, keepE, List.filter_append]
  congr 1
  rw [List.filter_cons]
  split <;> rfl
theorem keep_len (p : Str) (l : List Ent) : (keepE p l).length ≤ l.length := List.length_filter_le _ _
theorem keep_asc {l : List Ent} (h : validE l = true) (p : Str) : Wg (keepE p l) 0 (keepE p l).length := by
  have hw : l.Pairwise fun a b => slt a.1 b.1 = true := by
    rw [List.pairwise_iff_getElem]
    intro i j hi hj hij
    have := validE_lt h hij hj
    rwa [List.getD_eq_getElem?_getD, List.getD_eq_getElem?_getD, List.getElem?_eq_getElem hi, List.getElem?_eq_getElem hj] at this
  have hk : (keepE p l).Pairwise fun a b => slt a.1 b.1 = true := hw.filter _
  intro i j _ hij hj
  have := List.pairwise_iff_getElem.1 hk i j (by omega) hj hij
  rw [List.getD_eq_getElem?_getD, List.getD_eq_getElem?_getD, List.getElem?_eq_getElem (by omega : i < (keepE p l).length), List.getElem?_eq_getElem hj]
  exact this
end Sug
namespace Go.Proofs.Ytbijefgmleagnaa
open Go Go.Am Sug
set_option linter.unusedVariables false

theorem entAV_takeN : ∀ (l : List Ent) (k : Nat), (entAV l).take (k * 2) = entAV (l.take k) := by
  intro l
  induction l with
  | nil => intro k; simp [entAV]
  | cons p l ih =>
    intro k
    cases k with
    | zero => simp [entAV]
    | succ k => rw [entAV_cons, show (k + 1) * 2 = k * 2 + 1 + 1 by omega, List.take_succ_cons, List.take_succ_cons, ih, List.take_succ_cons, entAV_cons]
theorem entAV_dropN : ∀ (l : List Ent) (k : Nat), (entAV l).drop (k * 2) = entAV (l.drop k) := by
  intro l
  induction l with
  | nil => intro k; simp [entAV]
  | cons p l ih =>
    intro k
    cases k with
    | zero => simp
    | succ k => rw [entAV_cons, show (k + 1) * 2 = k * 2 + 1 + 1 by omega, List.drop_succ_cons, List.drop_succ_cons, ih, List.drop_succ_cons]
theorem entAV_app (a b : List Ent) : entAV a ++ entAV b = entAV (a ++ b) := by simp [entAV]

theorem hasPrefix_ok (w p : Str) (hw : w.length ≤ 1000) (hp : p.length ≤ 1000) (H : List Blk) (T : Toks) : ACall Try.prog 43 [.str w, .str p] H T (Is (.bool (hasP p w)) H T) := by
  have c : ACall Try.prog 54 [.str w, .str p] H T (Is (.bool (hasP p w)) H T) := by
    generalize hq : hasP p w = q
    unfold hasP at hq
    refine acall_enter 5 [] Try.ntmps54 Try.func54 rfl (fun _ _ => Try.call54 _ _) (by simp) (fun HO => ?_)
    refine aw_reg fun K hK => ?_; simp (maxSteps := 1000000) (disch := omega) [-List.getD_eq_getElem?_getD]; refine hK _ ?_; clear hK K
    by_cases h : p.length ≤ w.length
    · have b : decide ((p.length : Int) ≤ w.length) = true := decide_eq_true (by omega)
      rw [decide_eq_true h, Bool.true_and] at hq
      refine aw_reg fun K hK => ?_; simp (maxSteps := 1000000) (disch := omega) [-List.getD_eq_getElem?_getD, b, h]; refine hK _ ?_; clear hK K
      refine aw_ret ?_; simp (maxSteps := 1000000) (disch := omega) [-List.getD_eq_getElem?_getD]
      rw [← hq]
      exact ⟨rfl, rfl, rfl⟩
    · have b : decide ((p.length : Int) ≤ w.length) = false := decide_eq_false (by omega)
      rw [decide_eq_false h, Bool.false_and] at hq
      refine aw_reg fun K hK => ?_; simp (maxSteps := 1000000) (disch := omega) [-List.getD_eq_getElem?_getD, b, h]; refine hK _ ?_; clear hK K
      refine aw_ret ?_; simp (maxSteps := 1000000) (disch := omega) [-List.getD_eq_getElem?_getD]
      rw [← hq]
      exact ⟨rfl, rfl, rfl⟩
  generalize hasP p w = q at *
  refine acall_enter 5 [] Try.ntmps43 Try.func43 rfl (fun _ _ => Try.call43 _ _) (by simp) (fun HO => ?_)
  refine aw_reg fun K hK => ?_; simp (maxSteps := 1000000) (disch := omega) [-List.getD_eq_getElem?_getD]; refine hK _ ?_; clear hK K
  refine aw_reg fun K hK => ?_; simp (maxSteps := 1000000) (disch := omega) [-List.getD_eq_getElem?_getD]
  refine acall_is (c) ?_; simp (maxSteps := 1000000) (disch := omega) [-List.getD_eq_getElem?_getD]
  refine hK _ ?_; clear hK K
  refine aw_ret ?_; simp (maxSteps := 1000000) (disch := omega) [-List.getD_eq_getElem?_getD]
  exact ⟨rfl, rfl, rfl⟩

/-- What the list of entries is while it grows. -/
def GInvE (H : List Blk) (T : Toks) (d : List Ent) (H1 : List Blk) (out : AV) : Prop :=
  (∃ G, H1 = H ++ G) ∧ HOk H1 T ∧ ((d = [] ∧ out = .sl 0 [] .full) ∨ ∃ i cap r, out = .csl i d.length cap ∧ H.length ≤ i ∧ H1[i]? = some (.cells (entAV d ++ List.replicate r AV.top)) ∧ d.length * 2 + r = cap * 2)

theorem GInvE.more {H : List Blk} {T : Toks} {d : List Ent} {H1 : List Blk} {out : AV} (h : GInvE H T d H1 out) (vs : List AV) (hv : BelowAll (H1.length + 1) T.length vs) : GInvE H T d (H1 ++ [.cells vs]) out := by
  obtain ⟨⟨G, rfl⟩, h2, h3⟩ := h
  refine ⟨⟨G ++ [.cells vs], by simp⟩, h2.snoc hv, ?_⟩
  rcases h3 with h3 | ⟨i, cap, r, e, hi, hb, hr⟩
  · exact .inl h3
  · exact .inr ⟨i, cap, r, e, hi, by rw [List.getElem?_append_left (List.getElem?_eq_some_iff.1 hb).1]; exact hb, hr⟩
theorem GInvE.first {H : List Blk} {T : Toks} {H1 : List Blk} {out : AV} (h : GInvE H T [] H1 out) (x : Ent) (nc : Nat) (hn : 1 ≤ nc) : GInvE H T [x] (H1 ++ [.cells (entAV [x] ++ List.replicate ((nc - 1) * 2) AV.top)]) (.csl H1.length 1 nc) := by
  obtain ⟨⟨G, rfl⟩, h2, h3⟩ := h
  refine ⟨⟨G ++ _, by rw [List.append_assoc]⟩, h2.snoc (by simp), .inr ⟨_, nc, (nc - 1) * 2, rfl, by simp, by simp, ?_⟩⟩
  simp only [List.length_singleton]
  omega
theorem GInvE.put {H : List Blk} {T : Toks} {d : List Ent} {H1 : List Blk} {i cap r : Nat} (h2 : HOk H1 T) (hG : ∃ G, H1 = H ++ G) (hi : H.length ≤ i) (hb : H1[i]? = some (.cells (entAV d ++ List.replicate r AV.top))) (hr : d.length * 2 + r = cap * 2) (hle : d.length + 1 ≤ cap) (x : Ent) :
    GInvE H T (d ++ [x]) (H1.set i (.cells ((entAV d ++ List.replicate r AV.top).take (d.length * 2) ++ entAV [x] ++ (entAV d ++ List.replicate r AV.top).drop ((d.length + 1) * 2)))) (.csl i (d.length + 1) cap) := by
  obtain ⟨G, rfl⟩ := hG
  have hil := (List.getElem?_eq_some_iff.1 hb).1
  have e1 : (entAV d ++ List.replicate r AV.top).take (d.length * 2) = entAV d := by rw [← entAV_len, List.take_left']; rfl
  have e2 : (entAV d ++ List.replicate r AV.top).drop ((d.length + 1) * 2) = List.replicate (r - 2) AV.top := by
    rw [show (d.length + 1) * 2 = (entAV d).length + 2 by rw [entAV_len]; omega, ← List.drop_drop, List.drop_left', List.drop_replicate]
    rfl
  rw [e1, e2, entAV_app]
  refine ⟨⟨G.set (i - H.length) _, by rw [List.set_append_right _ _ hi]⟩, h2.set (by simp), .inr ⟨i, cap, r - 2, by simp, hi, by rw [List.getElem?_set_self hil], ?_⟩⟩
  simp only [List.length_append, List.length_singleton]
  omega
theorem GInvE.grow {H : List Blk} {T : Toks} {d : List Ent} {H1 : List Blk} {r nc : Nat} (h2 : HOk H1 T) (hG : ∃ G, H1 = H ++ G) (hn : d.length + 1 ≤ nc) (x : Ent) :
    GInvE H T (d ++ [x]) (H1 ++ [.cells ((entAV d ++ List.replicate r AV.top).take (d.length * 2) ++ entAV [x] ++ List.replicate ((nc - (d.length + 1)) * 2) AV.top)]) (.csl H1.length (d.length + 1) nc) := by
  obtain ⟨G, rfl⟩ := hG
  have e1 : (entAV d ++ List.replicate r AV.top).take (d.length * 2) = entAV d := by rw [← entAV_len, List.take_left']; rfl
  rw [e1, entAV_app]
  refine ⟨⟨G ++ _, by rw [List.append_assoc]⟩, h2.snoc (by simp), .inr ⟨(H ++ G).length, nc, (nc - (d.length + 1)) * 2, by simp, by simp, by simp, ?_⟩⟩
  simp only [List.length_append, List.length_singleton]
  omega

theorem below_outE {H : List Blk} {T : Toks} {d : List Ent} {H1 : List Blk} {out : AV} (h : GInvE H T d H1 out) : Below H1.length T.length out ∧ H.length ≤ H1.length := by
  obtain ⟨⟨G, rfl⟩, h2, h3⟩ := h
  refine ⟨?_, by simp⟩
  rcases h3 with ⟨_, rfl⟩ | ⟨i, cap, r, rfl, hi, hb, hr⟩
  · simp
  · have := (List.getElem?_eq_some_iff.1 hb).1
    exact below_csl.2 this



set_option maxRecDepth 100000 in
set_option maxHeartbeats 8000000 in
theorem complete_ok (l : List Ent) (p : Str) (most : Int) (hm : -9223372036854775808 ≤ most ∧ most ≤ 9223372036854775807) (hl : l.length ≤ 40) (hp : ∀ p ∈ l, p.1.length ≤ 1000) (hpl : p.length ≤ 1000) (H : List Blk) (T : Toks) (tg : Tag) :
    ACall Try.prog 28 [.sl l.length (entAV l) tg, .str p, .int .i64 most] H T (Is (.sl (compE l p most).length (entAV (compE l p most)) .none) H T) := by
  refine ACall.untag1 ?_
  refine ACall.freezeM (by simp) ?_
  have c0 := validP_ok l (by omega) hp H T .none
  have c1 := find_ok l p (by omega) H T .none
  generalize hq : compE l p most = q
  refine acall_enter 31 [100041] Try.ntmps28 Try.func28 rfl (fun _ _ => Try.call28 _ _) (by simp) (fun HO => ?_)
  refine aw_reg fun K hK => ?_; simp (maxSteps := 1000000) (disch := omega) [-List.getD_eq_getElem?_getD]; refine hK _ ?_; clear hK K
  refine aw_reg fun K hK => ?_; simp (maxSteps := 1000000) (disch := omega) [-List.getD_eq_getElem?_getD]; refine hK _ ?_; clear hK K
  refine aw_then fun K1 hK1 => ?_
  rcases Classical.em (validE l = true ∧ 1 ≤ most) with ⟨hv, hm1⟩ | hno
  · rw [hv] at c0
    have b1 : decide (most < 1) = false := decide_eq_false (by omega)
    have n1 : ¬ most < 1 := by omega
    obtain ⟨mo, rfl⟩ : ∃ mo : Nat, most = mo := ⟨most.toNat, by omega⟩
    refine aw_reg fun K hK => ?_; simp (maxSteps := 1000000) (disch := omega) [-List.getD_eq_getElem?_getD]
    refine acall_is (c0) ?_; simp (maxSteps := 1000000) (disch := omega) [-List.getD_eq_getElem?_getD, b1, n1]
    refine hK _ ?_; clear hK K
    refine aw_if rfl (fun h => absurd h (by simp)) (fun h => ?_)
    refine aw_skip ?_; simp (maxSteps := 1000000) (disch := omega) [-List.getD_eq_getElem?_getD]
    refine hK1 _ ?_; clear hK1
    refine aw_reg fun K hK => ?_; simp (maxSteps := 1000000) (disch := omega) [-List.getD_eq_getElem?_getD]
    refine ⟨_, c1, ?_⟩
    rintro v H' T' ⟨rfl, rfl, n0, fd, rfl, f1, _, _, f4⟩
    obtain ⟨f5, _⟩ := f4 hv
    have hkd := keep_drop f1 f5
    clear f4 f5
    simp (maxSteps := 1000000) (disch := omega) [-List.getD_eq_getElem?_getD]
    refine hK _ ?_; clear hK K
    refine aw_then fun K1 hK1 => ?_
    have hdn := entAV_dropN l n0
    have hld : (entAV (l.drop n0)).length = (l.length - n0) * 2 := by rw [entAV_len, List.length_drop]
    have hld2 : (l.drop n0).length = l.length - n0 := List.length_drop
    have hdt : (entAV (l.drop n0)).take ((l.length - n0) * 2) = entAV (l.drop n0) := by rw [← hld, List.take_length]
    refine aw_reg fun K hK => ?_; simp (maxSteps := 1000000) (disch := omega) [-List.getD_eq_getElem?_getD, entAV_len, hdn, hdt]; refine hK _ ?_; clear hK K
    have hmem : ∀ e ∈ l.drop n0, e ∈ l := fun e he => List.mem_of_mem_drop he
    have hwe : q = (sortC (keepE p (l.drop n0))).take mo := by rw [← hq, compE, if_pos ⟨hv, hm1⟩, hkd]; rfl
    have hasc : Wg (keepE p (l.drop n0)) 0 (keepE p (l.drop n0)).length := by rw [hkd]; exact keep_asc hv p
    rw [← hld2]
    have hl2 : (l.drop n0).length ≤ 40 := by omega
    clear hdn hld hld2 hdt hkd hq
    generalize l.drop n0 = l2 at *
    refine aw_block ?_
    refine aw_loop (X := Nat × List Blk × AV) (fun x => ⟨[(1, .str p), (2, .int .i64 (mo : Nat)), (7, x.2.2), (28, .sl l2.length (entAV l2) .none), (29, .int .i64 (l2.length : Nat)), (30, .int .i64 (x.1 : Nat))], x.2.1, T'⟩)
      (fun x => x.1 ≤ l2.length ∧ GInvE H' T' (keepE p (l2.take x.1)) x.2.1 x.2.2) (fun x => l2.length - x.1) (0, H', .sl 0 [] .full) ?_ ?_ ?_
    · exact ⟨Nat.zero_le _, ⟨[], by simp⟩, HO, .inl ⟨rfl, rfl⟩⟩
    · refine weak_to [] [] ?_ ?_ ?_ ?_ HO ?_
      all_goals simp
    · rintro ⟨k, H1, out⟩ ⟨h1, h2⟩
      simp only at h1 h2
      have hbo := below_outE h2
      refine aw_reg fun K hK => ?_; simp (maxSteps := 1000000) (disch := omega) [-List.getD_eq_getElem?_getD]; refine hK _ ?_; clear hK K
      refine aw_then fun K2 hK2 => ?_
      refine aw_if rfl (fun hk => ?_) (fun hk => ?_)
      · simp [-List.getD_eq_getElem?_getD] at hk
        have hcut := entAV_cut l2 k hk
        have hpe := hp _ (hmem _ (memD l2 k ([], 0) hk))
        refine aw_skip ?_; simp (maxSteps := 1000000) (disch := omega) [-List.getD_eq_getElem?_getD]
        refine hK2 _ ?_; clear hK2
        refine aw_then fun K3 hK3 => ?_
        refine aw_block ?_
        refine aw_reg fun K hK => ?_; simp (maxSteps := 1000000) (disch := omega) [-List.getD_eq_getElem?_getD, hcut, entAV_len]; refine hK _ ?_; clear hK K
        have h2' := h2.more [.str (l2.getD k ([], 0)).1, .int .i64 (l2.getD k ([], 0)).2] (by simp)
        have hkt := keep_take (p := p) hk
        have hbo2 := below_outE h2'
        have hbo3 : Below (H1.length + 1) T'.length out := by have := hbo2.1; simpa using this
        have hdl : (keepE p (l2.take k)).length ≤ 1000 := Nat.le_trans (keep_len _ _) (by rw [List.length_take]; omega)
        generalize l2.getD k ([], 0) = y at *
        have c2 := fun H T => hasPrefix_ok y.1 p hpe hpl H T
        have fin : ∀ e H2 out2, GInvE H' T' (keepE p (l2.take (k + 1))) H2 out2 → envLe H2.length T'.length e [(1, .str p), (2, .int .i64 (mo : Nat)), (7, out2), (28, .sl l2.length (entAV l2) .none), (29, .int .i64 (l2.length : Nat)), (30, .int .i64 (k : Nat))] → K3 ⟨e, H2, T'⟩ := by
          intro e H2 out2 hg he
          have hb2 := below_outE hg
          refine hK3 _ (aw_weak ⟨[(1, .str p), (2, .int .i64 (mo : Nat)), (7, out2), (28, .sl l2.length (entAV l2) .none), (29, .int .i64 (l2.length : Nat)), (30, .int .i64 (k : Nat))], H2, T'⟩ (weak_to [] [] (by simp) (by simp) (by simpa using hb2.2) (by simp) hg.2.1 he) ?_)
          refine aw_reg0 fun K hK => ?_; simp (maxSteps := 1000000) (disch := omega) [-List.getD_eq_getElem?_getD]
          refine hK _ ?_; clear hK K
          refine ⟨(k + 1, H2, out2), ⟨by show k + 1 ≤ _; omega, hg⟩, by show l2.length - (k + 1) < l2.length - k; omega, ?_⟩
          refine weak_to [] [] ?_ ?_ ?_ ?_ hg.2.1 ?_
          all_goals simp [hb2.1, hb2.2]
        clear hK3
        cases hpr : hasP p y.1 with
        | false =>
          rw [hpr] at c2 hkt
          rw [if_neg (by simp), List.append_nil] at hkt
          refine aw_reg fun K hK => ?_; simp (maxSteps := 1000000) (disch := omega) [-List.getD_eq_getElem?_getD]
          refine acall_is (c2 _ _) ?_; simp (maxSteps := 1000000) (disch := omega) [-List.getD_eq_getElem?_getD]
          refine hK _ ?_; clear hK K
          refine aw_if rfl (fun h => absurd h (by simp)) (fun h => ?_)
          refine aw_skip ?_; simp (maxSteps := 1000000) (disch := omega) [-List.getD_eq_getElem?_getD]
          refine fin _ _ out (by rw [hkt]; exact h2') ?_
          simp [hbo3]
        | true =>
          rw [hpr] at c2 hkt
          rw [if_pos rfl] at hkt
          refine aw_reg fun K hK => ?_; simp (maxSteps := 1000000) (disch := omega) [-List.getD_eq_getElem?_getD]
          refine acall_is (c2 _ _) ?_; simp (maxSteps := 1000000) (disch := omega) [-List.getD_eq_getElem?_getD]
          refine hK _ ?_; clear hK K
          refine aw_if rfl (fun h => ?_) (fun h => absurd h (by simp))
          generalize keepE p (l2.take k) = d at *
          rw [hkt] at fin
          clear hkt
          obtain ⟨hG, hok2, ⟨rfl, rfl⟩ | ⟨i, cap, r, rfl, hi, hb, hr⟩⟩ := h2'
          · have hI := fun nc hn => GInvE.first (H := H') (T := T') (H1 := H1 ++ [.cells [.str y.1, .int .i64 y.2]]) (out := .sl 0 [] .full) ⟨hG, hok2, .inl ⟨rfl, rfl⟩⟩ y nc hn
            refine aw_reg0 fun K hK => ?_; simp (maxSteps := 1000000) (disch := omega) [-List.getD_eq_getElem?_getD]
            intro nc hn
            refine hK _ ?_; clear hK K
            have hg := hI nc hn
            have hb2 := below_outE hg
            refine fin _ _ (.csl (H1.length + 1) 1 nc) (by simpa [entAV] using hg) ?_
            simp
          · have hen : d.length + 1 ≤ cap → GInvE H' T' (d ++ [y]) ((H1 ++ [Blk.cells [AV.str y.1, AV.int .i64 y.2]]).set i (Blk.cells ((entAV d ++ List.replicate r AV.top).take (d.length * 2) ++ [AV.str y.1, AV.int .i64 y.2] ++ (entAV d ++ List.replicate r AV.top).drop ((d.length + 1) * 2)))) (AV.csl i (d.length + 1) cap) := fun hle => GInvE.put (H := H') (T := T') hok2 hG hi hb hr hle y
            have hgr : ∀ nc, d.length + 1 ≤ nc → GInvE H' T' (d ++ [y]) ((H1 ++ [Blk.cells [AV.str y.1, AV.int .i64 y.2]]) ++ [Blk.cells ((entAV d ++ List.replicate r AV.top).take (d.length * 2) ++ [AV.str y.1, AV.int .i64 y.2] ++ List.replicate ((nc - (d.length + 1)) * 2) AV.top)]) (AV.csl (H1 ++ [Blk.cells [AV.str y.1, AV.int .i64 y.2]]).length (d.length + 1) nc) := fun nc hn => GInvE.grow (H := H') (T := T') hok2 hG hn y
            refine aw_reg0 fun K hK => ?_; simp (maxSteps := 1000000) (disch := omega) [-List.getD_eq_getElem?_getD]
            refine ⟨57, _, [.str y.1, .int .i64 y.2], 1, by kernel_rfl, hb, by simp [entAV_len]; omega, by simp, by simp; omega, by omega, by kernel_rfl, by simp, fun hle => ?_, fun nc hlt hnc => ?_⟩
            · have hg := hen hle
              simp only [cells57]
              generalize hX : (H1 ++ [Blk.cells [.str y.1, .int .i64 y.2]]).set i _ = H2 at hg ⊢
              have hb2 := below_outE hg
              simp (maxSteps := 1000000) (disch := omega) [-List.getD_eq_getElem?_getD]
              refine hK _ ?_; clear hK K
              refine fin _ _ _ hg ?_
              simp [hb2.1]
            · have hg := hgr nc hnc
              simp only [cells57]
              generalize hX : (H1 ++ [Blk.cells [.str y.1, .int .i64 y.2]]) ++ [Blk.cells _] = H2 at hg ⊢
              generalize hY : (H1 ++ [Blk.cells [.str y.1, .int .i64 y.2]]).length = i2 at hg ⊢
              have hb2 := below_outE hg
              simp (maxSteps := 1000000) (disch := omega) [-List.getD_eq_getElem?_getD]
              refine hK _ ?_; clear hK K
              refine fin _ _ _ hg ?_
              simp [hb2.1]
      · simp [-List.getD_eq_getElem?_getD] at hk
        have e : k = l2.length := by omega
        subst e
        rw [List.take_length] at h2
        have hkl := keep_len p l2
        generalize keepE p l2 = d at *
        have hsl := sortC_len d
        obtain ⟨hG, hok, ⟨rfl, rfl⟩ | ⟨i, cap, r, rfl, hi, hb, hr⟩⟩ := h2
        · have c := stableF0_ok H1 T' .full
          have hw0 : q = [] := by rw [hwe]; simp [sortC]
          subst hw0
          refine aw_exit ?_; simp (maxSteps := 1000000) (disch := omega) [-List.getD_eq_getElem?_getD]
          refine hK1 _ ?_; clear hK1
          refine aw_reg fun K hK => ?_; simp (maxSteps := 1000000) (disch := omega) [-List.getD_eq_getElem?_getD]
          refine acall_is (c) ?_; simp (maxSteps := 1000000) (disch := omega) [-List.getD_eq_getElem?_getD]
          refine hK _ ?_; clear hK K
          refine aw_reg fun K hK => ?_; simp (maxSteps := 1000000) (disch := omega) [-List.getD_eq_getElem?_getD]; refine hK _ ?_; clear hK K
          refine aw_ret ?_; simp (maxSteps := 1000000) (disch := omega) [-List.getD_eq_getElem?_getD, entAV_nil]
          exact hG
        · have hbl : BelowAll H1.length T'.length (List.replicate r AV.top) := by simp
          have c := stableF_ok d (List.replicate r .top) i (by omega) hasc H1 T' hb hbl
          have hil := (List.getElem?_eq_some_iff.1 hb).1
          refine aw_exit ?_; simp (maxSteps := 1000000) (disch := omega) [-List.getD_eq_getElem?_getD]
          refine hK1 _ ?_; clear hK1
          refine aw_weak ⟨[(2, .int .i64 (mo : Nat)), (7, .msl i 0 d.length)], H1, T'⟩ (weak_to [] [] (by simp) (by simp) (by simpa using hbo.2) (by simp) hok (by simp [hil])) ?_
          refine aw_reg fun K hK => ?_; simp (maxSteps := 1000000) (disch := omega) [-List.getD_eq_getElem?_getD]
          refine acall_is (c) ?_; simp (maxSteps := 1000000) (disch := omega) [-List.getD_eq_getElem?_getD]
          refine hK _ ?_; clear hK K
          refine aw_reg fun K hK => ?_; simp (maxSteps := 1000000) (disch := omega) [-List.getD_eq_getElem?_getD]; refine hK _ ?_; clear hK K
          refine aw_ret ?_; simp (maxSteps := 1000000) (disch := omega) [-List.getD_eq_getElem?_getD]
          obtain ⟨G, rfl⟩ := hG
          refine ⟨⟨G.set (i - H'.length) _, by rw [List.set_append_right _ _ hi]⟩, i, ⟨rfl, ?_⟩, hi, entAV ((sortC d).drop mo) ++ List.replicate r .top, ?_⟩
          · rw [hwe, List.length_take, hsl]
            omega
          · rw [List.getElem?_set_self hil, hwe, ← List.append_assoc, entAV_app, List.take_append_drop]
  · have hwe : q = [] := by rw [← hq, compE, if_neg hno]
    subst hwe
    cases hv : validE l with
    | false =>
      rw [hv] at c0
      refine aw_reg fun K hK => ?_; simp (maxSteps := 1000000) (disch := omega) [-List.getD_eq_getElem?_getD]
      refine acall_is (c0) ?_; simp (maxSteps := 1000000) (disch := omega) [-List.getD_eq_getElem?_getD]
      refine hK _ ?_; clear hK K
      refine aw_if rfl (fun h => ?_) (fun h => absurd h (by simp))
      refine aw_reg fun K hK => ?_; simp (maxSteps := 1000000) (disch := omega) [-List.getD_eq_getElem?_getD]; refine hK _ ?_; clear hK K
      refine aw_ret ?_; simp (maxSteps := 1000000) (disch := omega) [-List.getD_eq_getElem?_getD, entAV_nil]
    | true =>
      rw [hv] at c0
      have h1 : most < 1 := by
        rcases Int.lt_or_le most 1 with h1 | h1
        · exact h1
        · exact absurd ⟨hv, h1⟩ hno
      have b1 : decide (most < 1) = true := decide_eq_true h1
      refine aw_reg fun K hK => ?_; simp (maxSteps := 1000000) (disch := omega) [-List.getD_eq_getElem?_getD]
      refine acall_is (c0) ?_; simp (maxSteps := 1000000) (disch := omega) [-List.getD_eq_getElem?_getD, b1, h1]
      refine hK _ ?_; clear hK K
      refine aw_if rfl (fun h => ?_) (fun h => absurd h (by simp))
      refine aw_reg fun K hK => ?_; simp (maxSteps := 1000000) (disch := omega) [-List.getD_eq_getElem?_getD]; refine hK _ ?_; clear hK K
      refine aw_ret ?_; simp (maxSteps := 1000000) (disch := omega) [-List.getD_eq_getElem?_getD, entAV_nil]
end Go.Proofs.Ytbijefgmleagnaa
