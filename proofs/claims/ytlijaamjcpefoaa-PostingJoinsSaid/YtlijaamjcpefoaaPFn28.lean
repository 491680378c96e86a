/- Union of layer 38.
   Conditions: lengths below 400. -/
import Derived.Test.YtlijaamjcpefoaaPPl4
import Derived.Test.YtlijaamjcpefoaaPFn14
namespace Go.Proofs.Ytlijaamjcpefoaa
open Go Go.Am Post
set_option linter.unusedVariables false

/-- The box of Union: the list that is being made. -/
def SU (H : List Blk) (out : PL) (tk : Nat) : List Blk := H ++ [.cells [.sl out.length (psAV out) (.own tk)]]
theorem SU_len (H : List Blk) (out : PL) (tk : Nat) : (SU H out tk).length = H.length + 1 := by simp [SU]
theorem hok_SU {H : List Blk} {T : Toks} (h : HOk H T) (out : PL) : HOk (SU H out T.length) (STp T out) := HOk.snoc (h.toks (by rw [STp_len]; omega)) (by simp [STp_len])

set_option maxRecDepth 100000 in
theorem unA_ok (a : PL) (i : Nat) (hi : i < a.length) (ha : (a.getD i (0, [])).2.length ≤ 1000) (out : PL) (ho : out.length ≤ 1000) (H : List Blk) (T : Toks) :
    ACall Try.prog 66 [.vptr (psAV a) (i * 2), .nilp, .ptr H.length 0] (SU H out T.length) (STp T out) (Is (.tup []) (SU H (out ++ [a.getD i (0, [])]) T.length) (STp T (out ++ [a.getD i (0, [])]))) := by
  have hia := psAV_at a i hi
  have c := cloneI_ok (a.getD i (0, [])).2 ha (SU H out T.length) (STp T out)
  have hps := psAV_snoc out (a.getD i (0, [])).1 (a.getD i (0, [])).2
  rw [show ((a.getD i (0, [])).1, (a.getD i (0, [])).2) = a.getD i (0, []) from rfl] at hps
  generalize a.getD i (0, []) = x at *
  simp only [SU, STp] at c ⊢
  refine acall_enter 3 [] Try.ntmps66 Try.func66 rfl (fun _ _ => Try.call66 _ _) (by simp) (fun HO => ?_)
  refine aw_block ?_
  refine aw_reg fun K hK => ?_; simp (maxSteps := 1000000) (disch := omega) [-List.getD_eq_getElem?_getD]; refine hK _ ?_; clear hK K
  refine aw_if rfl (fun h => absurd h (by simp)) (fun h => ?_)
  refine aw_reg fun K hK => ?_; simp (maxSteps := 1000000) (disch := omega) [-List.getD_eq_getElem?_getD]; refine hK _ ?_; clear hK K
  refine aw_if rfl (fun h => ?_) (fun h => absurd h (by simp))
  refine aw_draw0 [12, 13] [0, 0, 0, 0, 0, 0, 0, 0, 0, 0, 0, 0, 0, 1] [[], []] drawMixed (by kernel_rfl) (by kernel_rfl) fun K hK => ?_; simp (maxSteps := 1000000) (disch := omega) [-List.getD_eq_getElem?_getD, hia.1, hia.2, psAV_len, hps, hi]
  refine dcall_is (c) rfl ?_; simp (maxSteps := 1000000) (disch := omega) [-List.getD_eq_getElem?_getD, hia.1, hia.2, psAV_len, hps, hi]
  refine hK _ ?_; clear hK K
  exact ⟨rfl, by simp, by simp⟩

set_option maxRecDepth 100000 in
theorem unB_ok (b : PL) (j : Nat) (hj : j < b.length) (hb : (b.getD j (0, [])).2.length ≤ 1000) (out : PL) (ho : out.length ≤ 1000) (H : List Blk) (T : Toks) :
    ACall Try.prog 66 [.nilp, .vptr (psAV b) (j * 2), .ptr H.length 0] (SU H out T.length) (STp T out) (Is (.tup []) (SU H (out ++ [b.getD j (0, [])]) T.length) (STp T (out ++ [b.getD j (0, [])]))) := by
  have hia := psAV_at b j hj
  have c := cloneI_ok (b.getD j (0, [])).2 hb (SU H out T.length) (STp T out)
  have hps := psAV_snoc out (b.getD j (0, [])).1 (b.getD j (0, [])).2
  rw [show ((b.getD j (0, [])).1, (b.getD j (0, [])).2) = b.getD j (0, []) from rfl] at hps
  generalize b.getD j (0, []) = x at *
  simp only [SU, STp] at c ⊢
  refine acall_enter 3 [] Try.ntmps66 Try.func66 rfl (fun _ _ => Try.call66 _ _) (by simp) (fun HO => ?_)
  refine aw_block ?_
  refine aw_reg fun K hK => ?_; simp (maxSteps := 1000000) (disch := omega) [-List.getD_eq_getElem?_getD]; refine hK _ ?_; clear hK K
  refine aw_if rfl (fun h => ?_) (fun h => absurd h (by simp))
  refine aw_draw0 [12, 13] [0, 0, 0, 0, 0, 0, 0, 0, 0, 0, 0, 0, 0, 1] [[], []] drawMixed (by kernel_rfl) (by kernel_rfl) fun K hK => ?_; simp (maxSteps := 1000000) (disch := omega) [-List.getD_eq_getElem?_getD, hia.1, hia.2, psAV_len, hps, hj]
  refine dcall_is (c) rfl ?_; simp (maxSteps := 1000000) (disch := omega) [-List.getD_eq_getElem?_getD, hia.1, hia.2, psAV_len, hps, hj]
  refine hK _ ?_; clear hK K
  exact ⟨rfl, by simp, by simp⟩

set_option maxRecDepth 100000 in
theorem unAB_ok (a b : PL) (i j : Nat) (hi : i < a.length) (hj : j < b.length) (ha : (a.getD i (0, [])).2.length ≤ 400) (hb : (b.getD j (0, [])).2.length ≤ 400) (out : PL) (ho : out.length ≤ 1000) (H : List Blk) (T : Toks) :
    ACall Try.prog 66 [.vptr (psAV a) (i * 2), .vptr (psAV b) (j * 2), .ptr H.length 0] (SU H out T.length) (STp T out) (Is (.tup []) (SU H (out ++ [((a.getD i (0, [])).1, jn (a.getD i (0, [])).2 (b.getD j (0, [])).2)]) T.length) (STp T (out ++ [((a.getD i (0, [])).1, jn (a.getD i (0, [])).2 (b.getD j (0, [])).2)]))) := by
  have hia := psAV_at a i hi
  have hjb := psAV_at b j hj
  have c := joined_ok (a.getD i (0, [])).2 (b.getD j (0, [])).2 ha hb (SU H out T.length) (STp T out) .none .none
  have hps := psAV_snoc out (a.getD i (0, [])).1 (jn (a.getD i (0, [])).2 (b.getD j (0, [])).2)
  generalize a.getD i (0, []) = x at *
  generalize b.getD j (0, []) = y at *
  generalize jn x.2 y.2 = r at *
  simp only [SU, STp] at c ⊢
  refine acall_enter 3 [] Try.ntmps66 Try.func66 rfl (fun _ _ => Try.call66 _ _) (by simp) (fun HO => ?_)
  refine aw_block ?_
  refine aw_reg fun K hK => ?_; simp (maxSteps := 1000000) (disch := omega) [-List.getD_eq_getElem?_getD]; refine hK _ ?_; clear hK K
  refine aw_if rfl (fun h => absurd h (by simp)) (fun h => ?_)
  refine aw_reg fun K hK => ?_; simp (maxSteps := 1000000) (disch := omega) [-List.getD_eq_getElem?_getD]; refine hK _ ?_; clear hK K
  refine aw_if rfl (fun h => absurd h (by simp)) (fun h => ?_)
  refine aw_draw0 [16, 17] [0, 0, 0, 0, 0, 0, 0, 0, 0, 0, 0, 0, 0, 0, 0, 0, 0, 1] [[], []] drawMixed (by kernel_rfl) (by kernel_rfl) fun K hK => ?_; simp (maxSteps := 1000000) (disch := omega) [-List.getD_eq_getElem?_getD, hia.1, hia.2, hjb.1, hjb.2, psAV_len, hps, hi, hj]
  refine dcall_is (c) rfl ?_; simp (maxSteps := 1000000) (disch := omega) [-List.getD_eq_getElem?_getD, hia.1, hia.2, psAV_len, hps, hi]
  refine hK _ ?_; clear hK K
  exact ⟨rfl, by simp, by simp⟩

def unionL (a b : PL) : PL := if validL a = true ∧ validL b = true then unL a b else []

theorem union_ok (a b : PL) (ha : a.length ≤ 400) (hb : b.length ≤ 400) (hpa : ∀ p ∈ a, p.2.length ≤ 400) (hpb : ∀ p ∈ b, p.2.length ≤ 400) (H : List Blk) (T : Toks) (ta tb : Tag) :
    ACall Try.prog 27 [.sl a.length (psAV a) ta, .sl b.length (psAV b) tb] H T (Is (.sl (unionL a b).length (psAV (unionL a b)) .none) H T) := by
  refine ACall.untag1 (ACall.untag2 ?_)
  refine ACall.drop' ?_ (by simp)
  have hml : 400 ≤ maxLen := by decide
  have c1 := valid_ok a (by omega) (fun p h => Nat.le_trans (hpa p h) hml) (H ++ [.cells [.sl 0 [] .full]]) T .none
  have c2 := valid_ok b (by omega) (fun p h => Nat.le_trans (hpb p h) hml) (H ++ [.cells [.sl 0 [] .full]]) T .none
  refine acall_enter 6 [] Try.ntmps27 Try.func27 rfl (fun _ _ => Try.call27 _ _) (by simp) (fun HO => ?_)
  refine aw_reg fun K hK => ?_; simp (maxSteps := 1000000) (disch := omega) [-List.getD_eq_getElem?_getD]; refine hK _ ?_; clear hK K
  refine aw_reg fun K hK => ?_; simp (maxSteps := 1000000) (disch := omega) [-List.getD_eq_getElem?_getD]; refine hK _ ?_; clear hK K
  refine aw_then fun K1 hK1 => ?_
  cases hva : validL a with
  | false =>
    rw [hva] at c1
    refine aw_reg fun K hK => ?_; simp (maxSteps := 1000000) (disch := omega) [-List.getD_eq_getElem?_getD]
    refine acall_is (c1) ?_; simp (maxSteps := 1000000) (disch := omega) [-List.getD_eq_getElem?_getD]
    refine hK _ ?_; clear hK K
    refine aw_if rfl (fun h => ?_) (fun h => absurd h (by simp))
    refine aw_reg fun K hK => ?_; simp (maxSteps := 1000000) (disch := omega) [-List.getD_eq_getElem?_getD]; refine hK _ ?_; clear hK K
    refine aw_ret ?_; simp (maxSteps := 1000000) (disch := omega) [-List.getD_eq_getElem?_getD]
    simp [unionL, hva, psAV]
  | true =>
    rw [hva] at c1
    cases hvb : validL b with
    | false =>
      rw [hvb] at c2
      refine aw_reg fun K hK => ?_; simp (maxSteps := 1000000) (disch := omega) [-List.getD_eq_getElem?_getD]
      refine acall_is (c1) ?_; simp (maxSteps := 1000000) (disch := omega) [-List.getD_eq_getElem?_getD]
      refine acall_is (c2) ?_; simp (maxSteps := 1000000) (disch := omega) [-List.getD_eq_getElem?_getD]
      refine hK _ ?_; clear hK K
      refine aw_if rfl (fun h => ?_) (fun h => absurd h (by simp))
      refine aw_reg fun K hK => ?_; simp (maxSteps := 1000000) (disch := omega) [-List.getD_eq_getElem?_getD]; refine hK _ ?_; clear hK K
      refine aw_ret ?_; simp (maxSteps := 1000000) (disch := omega) [-List.getD_eq_getElem?_getD]
      simp [unionL, hvb, psAV]
    | true =>
      rw [hvb] at c2
      obtain ⟨a1, a2, a3⟩ := validL_iff hva
      obtain ⟨e1, e2, e3⟩ := validL_iff hvb
      have hr : unionL a b = unL a b := by unfold unionL; rw [if_pos ⟨hva, hvb⟩]
      have hres : MP (fun o x => o ++ [x]) (fun o y => o ++ [y]) (fun o x y => o ++ [(x.1, jn x.2 y.2)]) a b (a.length + b.length) 0 0 [] = unL a b := mgP_unL a1 e1 (fun p hp => (a3 p hp).2.1) (fun p hp => (e3 p hp).2.1)
      have c := mergeP_ok (β := PL) 66 [.ptr H.length 0] (fun o x => o ++ [x]) (fun o y => o ++ [y]) (fun o x y => o ++ [(x.1, jn x.2 y.2)])
        (fun o => SU H o T.length) (fun o => STp T o) (fun n o => o.length ≤ n) (H.length + 1) (T.length + 1) [] a b ha hb (fun o => SU_len _ _ _) (fun o => STp_len _ _) (by simp)
        (fun n o _ => hok_SU HO o) (Nat.zero_le _)
        (fun n i o hi hn h => unA_ok a i hi (by have := hpa _ (memD a i (0, []) hi); omega) o (by omega) H T) (fun n j o hj hn h => unB_ok b j hj (by have := hpb _ (memD b j (0, []) hj); omega) o (by omega) H T)
        (fun n i j o hi hj hn h => unAB_ok a b i j hi hj (hpa _ (memD a i _ hi)) (hpb _ (memD b j _ hj)) o (by omega) H T)
        (fun n i o _ h => by simp; omega) (fun n j o _ h => by simp; omega) (fun n i j o _ _ h => by simp; omega)
      rw [hres, ← hr] at c
      generalize unionL a b = r at *
      have k1 : (SU H r T.length)[H.length]? = some (.cells [.sl r.length (psAV r) (.own T.length)]) := by simp [SU]
      have hH : ∃ rH, SU H r T.length = H ++ rH := ⟨_, rfl⟩
      have hT : ∃ rT, STp T r = T ++ rT := ⟨_, rfl⟩
      refine aw_reg fun K hK => ?_; simp (maxSteps := 1000000) (disch := omega) [-List.getD_eq_getElem?_getD]
      refine acall_is (c1) ?_; simp (maxSteps := 1000000) (disch := omega) [-List.getD_eq_getElem?_getD]
      refine acall_is (c2) ?_; simp (maxSteps := 1000000) (disch := omega) [-List.getD_eq_getElem?_getD]
      refine hK _ ?_; clear hK K
      refine aw_if rfl (fun h => absurd h (by simp)) (fun h => ?_)
      refine aw_skip ?_; simp (maxSteps := 1000000) (disch := omega) [-List.getD_eq_getElem?_getD]
      refine hK1 _ ?_; clear hK1
      refine aw_ownB 2 H 0 [] (by omega) (by simp) ?_
      refine aw_reg fun K hK => ?_; simp (maxSteps := 1000000) (disch := omega) [-List.getD_eq_getElem?_getD]
      refine acall_is (c) ?_; simp (maxSteps := 1000000) (disch := omega) [-List.getD_eq_getElem?_getD]
      refine hK _ ?_; clear hK K
      refine aw_reg fun K hK => ?_; simp (maxSteps := 1000000) (disch := omega) [-List.getD_eq_getElem?_getD, k1]; refine hK _ ?_; clear hK K
      refine aw_ret ?_; simp (maxSteps := 1000000) (disch := omega) [-List.getD_eq_getElem?_getD]
      exact ⟨hH, hT⟩
end Go.Proofs.Ytlijaamjcpefoaa
