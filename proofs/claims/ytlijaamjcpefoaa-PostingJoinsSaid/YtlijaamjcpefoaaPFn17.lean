/- What is kept of a posting: the function that filtered gives to merge.
   Conditions: lengths below 1000. -/
import Derived.Test.YtlijaamjcpefoaaPFn14
import Derived.Test.YtlijaamjcpefoaaPFn15
import Derived.Test.YtlijaamjcpefoaaPPl2
import Derived.Test.YtlijaamjcpefoaaAmBox
namespace Go.Proofs.Ytlijaamjcpefoaa
open Go Go.Am Post
set_option linter.unusedVariables false

/-- The boxes of filtered: the function that chooses, the list that is being made. -/
def SP (H : List Blk) (fv : AV) (out : PL) (tk : Nat) : List Blk := H ++ [.cells [fv], .cells [.sl out.length (psAV out) (.own tk)]]
def STp (T : Toks) (out : PL) : Toks := T ++ [(out.length * 2, 2)]
theorem SP_len (H : List Blk) (fv : AV) (out : PL) (tk : Nat) : (SP H fv out tk).length = H.length + 2 := by simp [SP]
theorem STp_len (T : Toks) (out : PL) : (STp T out).length = T.length + 1 := by simp [STp]
theorem hok_SP {H : List Blk} {T : Toks} (h : HOk H T) (fv : AV) (hf : Below H.length T.length fv) (out : PL) : HOk (SP H fv out T.length) (STp T out) := by
  have e : SP H fv out T.length = (H ++ [.cells [fv]]) ++ [.cells [.sl out.length (psAV out) (.own T.length)]] := by simp [SP]
  rw [e]
  refine HOk.snoc (HOk.snoc (h.toks (by rw [STp_len]; omega)) ?_) ?_
  · intro v hv
    simp at hv
    subst hv
    exact hf.more (by simp) (by rw [STp_len]; omega)
  · simp [STp_len]

theorem hok_SP' {H : List Blk} {T1 T2 : Toks} {fv : AV} {out out' : PL} {tk : Nat} (h : HOk (SP H fv out tk) T1) (ht : T1.length ≤ T2.length) (hk : tk < T2.length) : HOk (SP H fv out' tk) T2 := by
  have e : SP H fv out' tk = (SP H fv out tk).set (H.length + 1) (.cells [.sl out'.length (psAV out') (.own tk)]) := by simp [SP]
  rw [e]
  refine HOk.set (h.toks ht) ?_
  simp [hk]

theorem doc_ok (p : Int × List Int) (H : List Blk) (T : Toks) : ACall Try.prog 65 [.agg [.int .i64 p.1, .sl p.2.length (ints p.2) .none]] H T (Is (.int .i64 p.1) H T) := by
  refine ACall.drop' ?_ (by simp)
  refine acall_enter 3 [] Try.ntmps65 Try.func65 rfl (fun _ _ => Try.call65 _ _) (by simp) (fun HO => ?_)
  refine aw_reg fun K hK => ?_; simp (maxSteps := 200000) (disch := omega) [-List.getD_eq_getElem?_getD]; refine hK _ ?_; clear hK K
  refine aw_reg fun K hK => ?_; simp (maxSteps := 200000) (disch := omega) [-List.getD_eq_getElem?_getD]; refine hK _ ?_; clear hK K
  refine aw_ret ?_; simp (maxSteps := 200000) (disch := omega) [-List.getD_eq_getElem?_getD]

theorem filtA_ok (cs : List AV) (o x y : Nat) (H : List Blk) (T : Toks) : ACall Try.prog 86 [.vptr cs o, .nilp, .ptr x 0, .ptr y 0] H T (Is (.tup []) H T) := by
  refine acall_enter 21 [] Try.ntmps86 Try.func86 rfl (fun _ _ => Try.call86 _ _) (by simp) (fun HO => ?_)
  refine aw_then fun K1 hK1 => ?_
  refine aw_reg fun K hK => ?_; simp (maxSteps := 200000) (disch := omega) [-List.getD_eq_getElem?_getD]; refine hK _ ?_; clear hK K
  refine aw_if rfl (fun h => ?_) (fun h => absurd h (by simp))
  refine aw_ret ?_; simp (maxSteps := 200000) (disch := omega) [-List.getD_eq_getElem?_getD]
  exact ⟨rfl, rfl, rfl⟩

theorem filtB_ok (cs : List AV) (o x y : Nat) (H : List Blk) (T : Toks) : ACall Try.prog 86 [.nilp, .vptr cs o, .ptr x 0, .ptr y 0] H T (Is (.tup []) H T) := by
  refine acall_enter 21 [] Try.ntmps86 Try.func86 rfl (fun _ _ => Try.call86 _ _) (by simp) (fun HO => ?_)
  refine aw_then fun K1 hK1 => ?_
  refine aw_reg fun K hK => ?_; simp (maxSteps := 200000) (disch := omega) [-List.getD_eq_getElem?_getD]; refine hK _ ?_; clear hK K
  refine aw_if rfl (fun h => ?_) (fun h => absurd h (by simp))
  refine aw_ret ?_; simp (maxSteps := 200000) (disch := omega) [-List.getD_eq_getElem?_getD]
  exact ⟨rfl, rfl, rfl⟩

set_option maxRecDepth 100000 in
set_option maxHeartbeats 2000000 in
theorem filtAB_ok (g : Nat) (caps : List AV) (kf : Int → List Int → Bool) (H : List Blk) (T : Toks) (out : PL) (ho : out.length ≤ 1000) (a b : PL) (i j : Nat) (hi : i < a.length) (hj : j < b.length)
    (ha : (a.getD i (0, [])).2.length ≤ 1000)
    (hg : ∀ p, p ∈ (a.getD i (0, [])).2 → ∀ T', ACall Try.prog g ([.int .i64 p, .sl (b.getD j (0, [])).2.length (ints (b.getD j (0, [])).2) .none] ++ caps) (SP H (.fn g [] caps) out T.length) T' (Is (.bool (kf p (b.getD j (0, [])).2)) (SP H (.fn g [] caps) out T.length) T')) :
    ACall Try.prog 86 [.vptr (psAV a) (i * 2), .vptr (psAV b) (j * 2), .ptr H.length 0, .ptr (H.length + 1) 0] (SP H (.fn g [] caps) out T.length) (STp T out)
      (Is (.tup []) (SP H (.fn g [] caps) (out ++ fl1 (fun _ z => kf z (b.getD j (0, [])).2) (a.getD i (0, []))) T.length) (STp T (out ++ fl1 (fun _ z => kf z (b.getD j (0, [])).2) (a.getD i (0, []))))) := by
  have hia := psAV_at a i hi
  have hjb := psAV_at b j hj
  have k1 : (SP H (.fn g [] caps) out T.length)[H.length]? = some (.cells [.fn g [] caps]) := by simp [SP]
  have hl := SP_len H (.fn g [] caps) out T.length
  have htl := STp_len T out
  generalize a.getD i (0, []) = x at *
  generalize b.getD j (0, []) = y at *
  refine ACall.cut _ _ (by simp [SP_len]) (by simp [STp_len]) (fun ho => ?_) (by simp) ?_
  · exact hok_SP' ho (by simp [STp_len]) (by simp [STp_len])
  have k2 : ∀ h : H.length < (SP H (.fn g [] caps) out T.length).length, (SP H (.fn g [] caps) out T.length)[H.length]'h = .cells [.fn g [] caps] := fun h => by
    have := (List.getElem?_eq_some_iff.1 k1).2
    exact this
  generalize hS : SP H (.fn g [] caps) out T.length = S at *
  generalize hU : STp T out = U at *
  refine acall_enter 21 [] Try.ntmps86 Try.func86 rfl (fun _ _ => Try.call86 _ _) (by simp) (fun HO => ?_)
  refine aw_then fun K1 hK1 => ?_
  refine aw_reg fun K hK => ?_; simp (maxSteps := 200000) (disch := omega) [-List.getD_eq_getElem?_getD]; refine hK _ ?_; clear hK K
  refine aw_if rfl (fun h => absurd h (by simp)) (fun h => ?_)
  refine aw_skip ?_; simp (maxSteps := 200000) (disch := omega) [-List.getD_eq_getElem?_getD]
  refine hK1 _ ?_; clear hK1
  refine aw_reg fun K hK => ?_; simp (maxSteps := 200000) (disch := omega) [-List.getD_eq_getElem?_getD]; refine hK _ ?_; clear hK K
  refine aw_then fun K1 hK1 => ?_
  refine aw_reg fun K hK => ?_; simp (maxSteps := 200000) (disch := omega) [-List.getD_eq_getElem?_getD, hia.2, psAV_len]; refine hK _ ?_; clear hK K
  refine aw_block ?_
  refine aw_own 6 0 1 [] (by omega) (by simp) ?_
  refine aw_loop (X := Nat) (fun k => ⟨[(0, .vptr (psAV a) (i * 2)), (1, .vptr (psAV b) (j * 2)), (2, .ptr H.length 0), (3, .ptr (H.length + 1) 0), (6, .sl ((x.2.take k).filter (fun z => kf z y.2)).length (ints ((x.2.take k).filter (fun z => kf z y.2))) (.own U.length)), (18, .sl x.2.length (ints x.2) .none), (19, .int .i64 (x.2.length : Nat)), (20, .int .i64 (k : Nat))], S, U ++ [(((x.2.take k).filter (fun z => kf z y.2)).length, 1)]⟩) (fun k => k ≤ x.2.length) (fun k => x.2.length - k) 0 ?_ ?_ ?_
  · exact Nat.zero_le _
  · refine weak_to [] [] ?_ ?_ ?_ ?_ (HO.toks (by simp)) ?_
    all_goals simp [hl]
  · intro k hk0
    have hlen : ((x.2.take k).filter (fun z => kf z y.2)).length ≤ k := by
      refine Nat.le_trans (List.length_filter_le _ _) ?_
      rw [List.length_take]; omega
    refine aw_reg fun K hK => ?_; simp (maxSteps := 200000) (disch := omega) [-List.getD_eq_getElem?_getD]; refine hK _ ?_; clear hK K
    refine aw_then fun K2 hK2 => ?_
    refine aw_if rfl (fun hk => ?_) (fun hk => ?_)
    · simp [-List.getD_eq_getElem?_getD] at hk
      have hst := filter_step x.2 k (fun z => kf z y.2) hk
      have hc := hg (x.2.getD k 0) (memD x.2 k 0 hk) (U ++ [(((x.2.take k).filter (fun z => kf z y.2)).length, 1)])
      generalize (x.2.take k).filter (fun z => kf z y.2) = lk at *
      refine aw_skip ?_; simp (maxSteps := 200000) (disch := omega) [-List.getD_eq_getElem?_getD]
      refine hK2 _ ?_; clear hK2
      refine aw_then fun K3 hK3 => ?_
      refine aw_block ?_
      refine aw_reg fun K hK => ?_; simp (maxSteps := 200000) (disch := omega) [-List.getD_eq_getElem?_getD, getD_ints]; refine hK _ ?_; clear hK K
      cases hkf : kf (x.2.getD k 0) y.2
      · rw [hkf] at hc hst
        refine aw_draw [] [] [] drawMixed (by kernel_rfl) (by kernel_rfl) fun K hK => ?_; simp (maxSteps := 200000) (disch := omega) [-List.getD_eq_getElem?_getD, hjb.2, psAV_len, k2, hj]
        refine dcall_is (hc) rfl ?_; simp (maxSteps := 200000) (disch := omega) [-List.getD_eq_getElem?_getD]
        refine hK _ ?_; clear hK K
        refine aw_if rfl (fun h => absurd h (by simp)) (fun h => ?_)
        refine aw_skip ?_; simp (maxSteps := 200000) (disch := omega) [-List.getD_eq_getElem?_getD]
        refine hK3 _ ?_; clear hK3
        refine aw_reg0 fun K hK => ?_; simp (maxSteps := 200000) (disch := omega) [-List.getD_eq_getElem?_getD]
        refine hK _ ?_; clear hK K
        refine ⟨k + 1, by show k + 1 ≤ _; omega, by show x.2.length - (k + 1) < x.2.length - k; omega, ?_⟩
        rw [hst]
        refine weak_to [] [] ?_ ?_ ?_ ?_ (HO.toks (by simp)) ?_
        all_goals simp [hl]
      · rw [hkf] at hc hst
        refine aw_draw [] [] [] drawMixed (by kernel_rfl) (by kernel_rfl) fun K hK => ?_; simp (maxSteps := 200000) (disch := omega) [-List.getD_eq_getElem?_getD, hjb.2, psAV_len, k2, hj]
        refine dcall_is (hc) rfl ?_; simp (maxSteps := 200000) (disch := omega) [-List.getD_eq_getElem?_getD]
        refine hK _ ?_; clear hK K
        refine aw_if rfl (fun h => ?_) (fun h => absurd h (by simp))
        refine aw_reg0 fun K hK => ?_; simp (maxSteps := 200000) (disch := omega) [-List.getD_eq_getElem?_getD]
        refine hK _ ?_; clear hK K
        refine hK3 _ ?_; clear hK3
        refine aw_reg0 fun K hK => ?_; simp (maxSteps := 200000) (disch := omega) [-List.getD_eq_getElem?_getD]
        refine hK _ ?_; clear hK K
        refine ⟨k + 1, by show k + 1 ≤ _; omega, by show x.2.length - (k + 1) < x.2.length - k; omega, ?_⟩
        rw [hst]
        refine weak_to [] [] ?_ ?_ ?_ ?_ (HO.toks (by simp)) ?_
        all_goals simp [-List.getD_eq_getElem?_getD, ints_snoc, hl]
    · simp at hk
      have : k = x.2.length := by omega
      subst this
      rw [List.take_length] at hlen ⊢
      have hcells : ∀ w : List Int, BelowAll (H.length + 2) (T.length + 1) (ints w) := fun w => by simp
      refine aw_exit ?_; simp (maxSteps := 200000) (disch := omega) [-List.getD_eq_getElem?_getD]
      refine hK1 _ ?_; clear hK1
      -- the row of its own becomes a row like others
      have hf1 : fl1 (fun _ z => kf z y.2) x = if x.2.filter (fun z => kf z y.2) = [] then [] else [(x.1, x.2.filter (fun z => kf z y.2))] := rfl
      rw [hf1]
      generalize x.2.filter (fun z => kf z y.2) = lk at *
      refine aw_weak ⟨[(0, .vptr (psAV a) (i * 2)), (2, .ptr H.length 0), (3, .ptr (H.length + 1) 0), (6, .sl lk.length (ints lk) .none)], S, U⟩ (weak_to [] [(_, _)] ?_ rfl ?_ ?_ HO ?_) ?_
      · simp
      · simp
      · simp
      · simp [hl]
      refine aw_reg fun K hK => ?_; simp (maxSteps := 200000) (disch := omega) [-List.getD_eq_getElem?_getD]; refine hK _ ?_; clear hK K
      by_cases h0 : lk = []
      · have b : decide ((0 : Int) < (lk.length : Int)) = false := by simp [h0]
        subst h0
        simp only [if_true, List.append_nil]
        refine aw_if rfl (fun h => absurd h (by simp)) (fun h => ?_)
        refine aw_skip ?_; simp (maxSteps := 200000) (disch := omega) [-List.getD_eq_getElem?_getD]
        subst hS; subst hU
        exact ⟨⟨[], by simp⟩, ⟨[], by simp⟩⟩
      · have b : decide ((0 : Int) < (lk.length : Int)) = true := by have := List.length_pos_iff.2 h0; simp; omega
        have b2 : 0 < lk.length := List.length_pos_iff.2 h0
        simp only [if_neg h0]
        refine aw_if rfl (fun h => ?_) (fun h => absurd h (by simp; omega))
        subst hS; subst hU
        have hps := psAV_snoc out x.1 lk
        simp only [SP, STp]
        refine aw_draw0 [8, 9] [0, 0, 0, 0, 0, 0, 0, 0, 0, 1] [[], []] drawMixed (by kernel_rfl) (by kernel_rfl) fun K hK => ?_; simp (maxSteps := 200000) (disch := omega) [-List.getD_eq_getElem?_getD, hia.1, psAV_len, hps, hi]
        refine hK _ ?_; clear hK K
        exact ⟨⟨[], by simp⟩, ⟨[], by simp⟩, .inl rfl⟩
end Go.Proofs.Ytlijaamjcpefoaa
