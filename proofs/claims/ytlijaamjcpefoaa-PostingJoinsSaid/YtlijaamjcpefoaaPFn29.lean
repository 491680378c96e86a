/- Union of the reference of layer 38.
   Conditions: lengths below 200. -/
import Derived.Test.YtlijaamjcpefoaaPFn28
import Derived.Test.YtlijaamjcpefoaaPFn24
namespace Go.Proofs.Ytlijaamjcpefoaa
open Go Go.Am Post
set_option linter.unusedVariables false

set_option maxRecDepth 100000 in
theorem unionR_ok (a b : PL) (ha : a.length ≤ 200) (hb : b.length ≤ 200) (hpa : ∀ p ∈ a, p.2.length ≤ 400) (hpb : ∀ p ∈ b, p.2.length ≤ 400) (H : List Blk) (T : Toks) (ta tb : Tag) :
    ACall Try.prog 28 [.sl a.length (psAV a) ta, .sl b.length (psAV b) tb] H T (Is (.sl (unionL a b).length (psAV (unionL a b)) .none) H T) := by
  refine ACall.untag1 (ACall.untag2 ?_)
  refine ACall.drop' ?_ (by simp)
  have hml : 400 ≤ maxLen := by decide
  have c1 := validR_ok a (by omega) (fun p h => Nat.le_trans (hpa p h) hml) H T .none
  have c2 := validR_ok b (by omega) (fun p h => Nat.le_trans (hpb p h) hml) H T .none
  refine acall_enter 8 [] Try.ntmps28 Try.func28 rfl (fun _ _ => Try.call28 _ _) (by simp) (fun HO => ?_)
  refine aw_reg fun K hK => ?_; simp (maxSteps := 1000000) (disch := omega) [-List.getD_eq_getElem?_getD]; refine hK _ ?_; clear hK K
  refine aw_then fun K1 hK1 => ?_
  cases hva : validL a with
  | false =>
    rw [hva] at c1
    refine aw_reg fun K hK => ?_; simp (maxSteps := 1000000) (disch := omega) [-List.getD_eq_getElem?_getD]
    refine acall_is (c1) ?_; simp (maxSteps := 1000000) (disch := omega) [-List.getD_eq_getElem?_getD]
    refine hK _ ?_; clear hK K
    refine aw_if rfl (fun h => ?_) (fun h => absurd h (by simp))
    refine aw_reg fun K hK => ?_; simp (maxSteps := 1000000) (disch := omega) [-List.getD_eq_getElem?_getD]; refine hK _ ?_; clear hK K
    refine aw_ret ?_; simp (maxSteps := 1000000) (disch := omega) [-List.getD_eq_getElem?_getD]
    simp [unionL, hva, psAV]
  | true =>
    rw [hva] at c1
    cases hvb : validL b with
    | false =>
      rw [hvb] at c2
      refine aw_reg fun K hK => ?_; simp (maxSteps := 1000000) (disch := omega) [-List.getD_eq_getElem?_getD]
      refine acall_is (c1) ?_; simp (maxSteps := 1000000) (disch := omega) [-List.getD_eq_getElem?_getD]
      refine acall_is (c2) ?_; simp (maxSteps := 1000000) (disch := omega) [-List.getD_eq_getElem?_getD]
      refine hK _ ?_; clear hK K
      refine aw_if rfl (fun h => ?_) (fun h => absurd h (by simp))
      refine aw_reg fun K hK => ?_; simp (maxSteps := 1000000) (disch := omega) [-List.getD_eq_getElem?_getD]; refine hK _ ?_; clear hK K
      refine aw_ret ?_; simp (maxSteps := 1000000) (disch := omega) [-List.getD_eq_getElem?_getD]
      simp [unionL, hvb, psAV]
    | true =>
      rw [hvb] at c2
      have hr : unionL a b = (jn (docs a) (docs b)).map (un1 a b) := by unfold unionL; rw [if_pos ⟨hva, hvb⟩]; rfl
      have hda : (docs a).length = a.length := by simp [docs]
      have hdb : (docs b).length = b.length := by simp [docs]
      have c3 := docsR_ok a (by omega) H T .none
      have c4 := docsR_ok b (by omega) H T .none
      have c5 := merged_ok (docs a) (docs b) (by omega) (by omega) H T .none .none
      rw [hda, hdb] at c5
      have hjl := jn_len (docs a) (docs b)
      rw [hda, hdb] at hjl
      rw [show MG (fun _ _ => true) (docs a) (docs b) (a.length + b.length) 0 0 [] = jn (docs a) (docs b) by unfold jn; rw [hda, hdb]] at c5
      generalize jn (docs a) (docs b) = l at *
      obtain ⟨L, hL⟩ : ∃ L, L = l.map (un1 a b) := ⟨_, rfl⟩
      have hLl : L.length = l.length := by rw [hL]; simp
      have hLg : ∀ k, k < l.length → L.getD k (0, []) = un1 a b (l.getD k 0) := fun k hk => by
        rw [hL, List.getD_eq_getElem?_getD, List.getD_eq_getElem?_getD, List.getElem?_map, List.getElem?_eq_getElem hk]
        rfl
      rw [← hL] at hr
      clear hL
      refine aw_reg fun K hK => ?_; simp (maxSteps := 1000000) (disch := omega) [-List.getD_eq_getElem?_getD]
      refine acall_is (c1) ?_; simp (maxSteps := 1000000) (disch := omega) [-List.getD_eq_getElem?_getD]
      refine acall_is (c2) ?_; simp (maxSteps := 1000000) (disch := omega) [-List.getD_eq_getElem?_getD]
      refine hK _ ?_; clear hK K
      refine aw_if rfl (fun h => absurd h (by simp)) (fun h => ?_)
      refine aw_skip ?_; simp (maxSteps := 1000000) (disch := omega) [-List.getD_eq_getElem?_getD]
      refine hK1 _ ?_; clear hK1
      refine aw_reg fun K hK => ?_; simp (maxSteps := 1000000) (disch := omega) [-List.getD_eq_getElem?_getD]; refine hK _ ?_; clear hK K
      refine aw_reg fun K hK => ?_; simp (maxSteps := 1000000) (disch := omega) [-List.getD_eq_getElem?_getD]
      refine acall_is (c3) ?_; simp (maxSteps := 1000000) (disch := omega) [-List.getD_eq_getElem?_getD]
      refine acall_is (c4) ?_; simp (maxSteps := 1000000) (disch := omega) [-List.getD_eq_getElem?_getD]
      refine acall_is (c5) ?_; simp (maxSteps := 1000000) (disch := omega) [-List.getD_eq_getElem?_getD]
      refine hK _ ?_; clear hK K
      refine aw_then fun K1 hK1 => ?_
      refine aw_reg fun K hK => ?_; simp (maxSteps := 1000000) (disch := omega) [-List.getD_eq_getElem?_getD]; refine hK _ ?_; clear hK K
      refine aw_block ?_
      refine aw_own 5 0 2 [] (by omega) (by simp) ?_
      refine aw_loop (X := Nat) (fun k => ⟨[(0, .sl a.length (psAV a) .none), (1, .sl b.length (psAV b) .none), (5, .sl k (psAV (L.take k)) (.own T.length)), (6, .sl l.length (ints l) .none), (7, .int .i64 (k : Nat))], H, T ++ [(k * 2, 2)]⟩) (fun k => k ≤ l.length) (fun k => l.length - k) 0 ?_ ?_ ?_
      · exact Nat.zero_le _
      · refine weak_to [] [] ?_ ?_ ?_ ?_ (HO.toks (by simp)) ?_
        all_goals simp [psAV_nil]
      · intro k hk0
        refine aw_then fun K2 hK2 => ?_
        refine aw_reg fun K hK => ?_; simp (maxSteps := 1000000) (disch := omega) [-List.getD_eq_getElem?_getD]; refine hK _ ?_; clear hK K
        refine aw_if rfl (fun hk => ?_) (fun hk => ?_)
        · simp [-List.getD_eq_getElem?_getD] at hk
          have hgk := getD_ints (xs := l) (k := k) hk
          have hst := psAV_take L k (by omega)
          rw [hLg k hk] at hst
          have htl : (psAV (L.take k)).length = k * 2 := by rw [psAV_len, List.length_take]; omega
          generalize l.getD k 0 = d at *
          have c6 := atR_ok a d (by omega) H (T ++ [(k * 2, 2)]) .none
          have c7 := atR_ok b d (by omega) H (T ++ [(k * 2, 2)]) .none
          have c8 := merged_ok (posOf a d) (posOf b d) (posOf_len hpa d) (posOf_len hpb d) H (T ++ [(k * 2, 2)]) .none .none
          have hj : MG (fun _ _ => true) (posOf a d) (posOf b d) ((posOf a d).length + (posOf b d).length) 0 0 [] = jn (posOf a d) (posOf b d) := rfl
          rw [hj] at c8
          have hst' : psAV (L.take k) ++ [.int .i64 d, .sl (jn (posOf a d) (posOf b d)).length (ints (jn (posOf a d) (posOf b d))) .none] = psAV (L.take (k + 1)) := hst
          generalize jn (posOf a d) (posOf b d) = r at *
          generalize posOf a d = pa at *
          generalize posOf b d = pb at *
          refine aw_skip ?_; simp (maxSteps := 1000000) (disch := omega) [-List.getD_eq_getElem?_getD]
          refine hK2 _ ?_; clear hK2
          refine aw_then fun K3 hK3 => ?_
          refine aw_block ?_
          refine aw_draw0 [20] [0, 0, 0, 0, 0, 0, 0, 0, 0, 0, 0, 0, 0, 0, 0, 0, 0, 0, 0, 0, 0, 1] [[]] drawMixed (by kernel_rfl) (by kernel_rfl) fun K hK => ?_; simp (maxSteps := 1000000) (disch := omega) [-List.getD_eq_getElem?_getD, hgk, hk, htl, psAV_len, hst']
          refine dcall_is (c6) rfl ?_; simp (maxSteps := 1000000) (disch := omega) [-List.getD_eq_getElem?_getD, hgk, hk]
          refine dcall_is (c7) rfl ?_; simp (maxSteps := 1000000) (disch := omega) [-List.getD_eq_getElem?_getD]
          refine dcall_is (c8) rfl ?_; simp (maxSteps := 1000000) (disch := omega) [-List.getD_eq_getElem?_getD, htl, psAV_len, hst']
          refine hK _ ?_; clear hK K
          refine hK3 _ ?_; clear hK3
          refine aw_reg0 fun K hK => ?_; simp (maxSteps := 1000000) (disch := omega) [-List.getD_eq_getElem?_getD]
          refine hK _ ?_; clear hK K
          refine ⟨k + 1, by show k + 1 ≤ _; omega, by show l.length - (k + 1) < l.length - k; omega, ?_⟩
          refine weak_to [] [] ?_ ?_ ?_ ?_ (HO.toks (by simp)) ?_
          all_goals simp
        · simp at hk
          have : k = l.length := by omega
          subst this
          refine aw_exit ?_; simp (maxSteps := 1000000) (disch := omega) [-List.getD_eq_getElem?_getD]
          refine hK1 _ ?_; clear hK1
          refine aw_reg fun K hK => ?_; simp (maxSteps := 1000000) (disch := omega) [-List.getD_eq_getElem?_getD]; refine hK _ ?_; clear hK K
          refine aw_ret ?_; simp (maxSteps := 1000000) (disch := omega) [-List.getD_eq_getElem?_getD]
          rw [hr, ← hLl, List.take_length]
          simp
end Go.Proofs.Ytlijaamjcpefoaa
