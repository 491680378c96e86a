/- Scripts of layer 11: copies, comparison, Cost of the reference, and how they are read.
   Conditions: lengths below 1000. -/
import Derived.Test.YtgndlhfnenlhkaaEFn10
import Derived.Test.YtgndlhfnenlhkaaAmArg
namespace Go.Am
open Go Go.ChangeShapes Go.WideShapes Go.RowKit
section
variable {H : Type} {enc : TypeId × Value → H} {P : Program} {w : World} {b0 base : Nat} {sp : Nat → Bool} {held : Bool} {t e : TypeId} {v : Value} {d : DataW H} {ps : List MemPlace} {r : Reach} {fs : Array Field} {f0 f1 : Field}
/-- A slice of structs of two numbers. -/
theorem av_pairs (ht : P.underlying t = some (.slice e)) (hs : P.underlying e = some (.struct fs)) (h0 : fs[0]? = some f0) (h1 : fs[1]? = some f1) (o0 : f0.offset = 0) (o1 : f1.offset = 1)
    (u0 : P.underlying f0.type = some (.int .i64)) (u1 : P.underlying f1.type = some (.int .i64)) (c0 : P.cellsOf f0.type = 1) (c1 : P.cellsOf f1.type = 1) (ce : P.cellsOf e = 2)
    (hval : Value.okWide P w r b0 t v) (h : DataW.Trod enc P w base sp held t v d ps) :
    ∃ l : List (Int × Int), l.length ≤ maxLen ∧ Rep (lay0 w) 0 [] w (.sl l.length (l.flatMap fun p => [.int .i64 p.1, .int .i64 p.2]) .none) v := by
  obtain ⟨es, ⟨hG, hl⟩, hr⟩ := av_slice (G := fun a => ∃ k c : Int, a = [.int .i64 k, .int .i64 c]) ht (by omega) (fun n cs y hy => by
    obtain ⟨hlen, hf⟩ := rc_fields hs hy
    obtain ⟨n0, y0, g0⟩ := hf 0 _ h0
    obtain ⟨n1, y1, g1⟩ := hf 1 _ h1
    rw [o0, c0] at g0
    rw [o1, c1] at g1
    rw [ce] at hlen
    obtain ⟨k, _, b0⟩ := rc_int u0 g0
    obtain ⟨c, _, b1⟩ := rc_int u1 g1
    match cs, hlen with
    | [x, y], _ => exact ⟨[.int .i64 k, .int .i64 c], ⟨k, c, rfl⟩, b0.append b1⟩) hval h
  have key : ∀ es : List (List AV), (∀ a ∈ es, ∃ k c : Int, a = [AV.int .i64 k, .int .i64 c]) → ∃ l : List (Int × Int), l.length = es.length ∧ es.flatten = l.flatMap fun p => [.int .i64 p.1, .int .i64 p.2] := by
    intro es
    induction es with
    | nil => intro _; exact ⟨[], rfl, rfl⟩
    | cons x es ih =>
      intro h
      obtain ⟨l, g1, g2⟩ := ih (fun a ha => h a (by simp [ha]))
      obtain ⟨k, c, rfl⟩ := h x (by simp)
      exact ⟨(k, c) :: l, by simp [g1], by simp [g2]⟩
  obtain ⟨l, g1, g2⟩ := key es hG
  rw [← g1, g2] at hr
  exact ⟨l, by omega, hr⟩
end
end Go.Am
namespace Go.Proofs.Ytgndlhfnenlhkaa
open Go Go.Am Edit
set_option linter.unusedVariables false

theorem opsAV_take (l : List (Int × Int)) (k : Nat) (h : k < l.length) : opsAV (l.take k) ++ [.int .i64 (l.getD k (0, 0)).1, .int .i64 (l.getD k (0, 0)).2] = opsAV (l.take (k + 1)) := by
  rw [opsAV_snoc, show ((l.getD k (0, 0)).1, (l.getD k (0, 0)).2) = l.getD k (0, 0) from rfl]
  congr 1
  rw [List.take_succ_eq_append_getElem h]
  simp [h]
theorem opsAV_nil : opsAV [] = [] := rfl

theorem own_ok (l : List (Int × Int)) (hl : l.length ≤ 1000) (H : List Blk) (T : Toks) (tg : Tag) : ACall Try.prog 27 [.sl l.length (opsAV l) tg] H T (Is (.sl l.length (opsAV l) .none) H T) := by
  refine ACall.untag1 ?_
  refine ACall.drop' ?_ (by simp)
  refine acall_enter 5 [] Try.ntmps27 Try.func27 rfl (fun _ _ => Try.call27 _ _) (by simp) (fun HO => ?_)
  refine aw_reg fun K hK => ?_; simp (maxSteps := 200000) (disch := omega) [-List.getD_eq_getElem?_getD]; refine hK _ ?_; clear hK K
  refine aw_reg fun K hK => ?_; simp (maxSteps := 200000) (disch := omega) [-List.getD_eq_getElem?_getD]; refine hK _ ?_; clear hK K
  refine aw_then fun K1 hK1 => ?_
  refine aw_reg fun K hK => ?_; simp (maxSteps := 200000) (disch := omega) [-List.getD_eq_getElem?_getD]; refine hK _ ?_; clear hK K
  refine aw_block ?_
  refine aw_own 3 0 2 [] (by omega) (by simp) ?_
  refine aw_loop (X := Nat) (fun k => ⟨[(0, .sl l.length (opsAV l) .none), (3, .sl k (opsAV (l.take k)) (.own T.length)), (4, .int .i64 (k : Nat))], H, T ++ [(k * 2, 2)]⟩) (fun k => k ≤ l.length) (fun k => l.length - k) 0 ?_ ?_ ?_
  · exact Nat.zero_le _
  · refine weak_to [] [] ?_ ?_ ?_ ?_ (HO.toks (by simp)) ?_
    all_goals simp [opsAV_nil]
  · intro k hk
    refine aw_then fun K2 hK2 => ?_
    refine aw_reg fun K hK => ?_; simp (maxSteps := 200000) (disch := omega) [-List.getD_eq_getElem?_getD]; refine hK _ ?_; clear hK K
    refine aw_if rfl (fun hk2 => ?_) (fun hk2 => ?_)
    · simp [-List.getD_eq_getElem?_getD] at hk2
      have hcut := opsAV_cut l k hk2
      have htl : (opsAV (l.take k)).length = k * 2 := by rw [opsAV_len, List.length_take]; omega
      refine aw_skip ?_; simp (maxSteps := 200000) (disch := omega) [-List.getD_eq_getElem?_getD]
      refine hK2 _ ?_; clear hK2
      refine aw_then fun K3 hK3 => ?_
      refine aw_block ?_
      refine aw_reg0 fun K hK => ?_; simp (maxSteps := 200000) (disch := omega) [-List.getD_eq_getElem?_getD, hcut, opsAV_len, htl, opsAV_take l k hk2]
      refine hK _ ?_; clear hK K
      refine hK3 _ ?_; clear hK3
      refine aw_reg0 fun K hK => ?_; simp (maxSteps := 200000) (disch := omega) [-List.getD_eq_getElem?_getD]
      refine hK _ ?_; clear hK K
      refine ⟨k + 1, by show k + 1 ≤ _; omega, by show l.length - (k + 1) < l.length - k; omega, ?_⟩
      refine weak_to [] [] ?_ ?_ ?_ ?_ (HO.toks (by simp)) ?_
      all_goals simp
    · simp at hk2
      have : k = l.length := by omega
      subst this
      refine aw_exit ?_; simp (maxSteps := 200000) (disch := omega) [-List.getD_eq_getElem?_getD]
      refine hK1 _ ?_; clear hK1
      refine aw_reg fun K hK => ?_; simp (maxSteps := 200000) (disch := omega) [-List.getD_eq_getElem?_getD]; refine hK _ ?_; clear hK K
      refine aw_ret ?_; simp (maxSteps := 200000) (disch := omega) [-List.getD_eq_getElem?_getD]

theorem theirs_ok (l : List (Int × Int)) (hl : l.length ≤ 1000) (H : List Blk) (T : Toks) (tg : Tag) : ACall Try.prog 19 [.sl l.length (opsAV l) tg] H T (Is (.sl l.length (opsAV l) .none) H T) := by
  refine ACall.untag1 ?_
  refine ACall.drop' ?_ (by simp)
  refine acall_enter 5 [] Try.ntmps19 Try.func19 rfl (fun _ _ => Try.call19 _ _) (by simp) (fun HO => ?_)
  refine aw_reg fun K hK => ?_; simp (maxSteps := 200000) (disch := omega) [-List.getD_eq_getElem?_getD]; refine hK _ ?_; clear hK K
  refine aw_reg fun K hK => ?_; simp (maxSteps := 200000) (disch := omega) [-List.getD_eq_getElem?_getD]; refine hK _ ?_; clear hK K
  refine aw_then fun K1 hK1 => ?_
  refine aw_reg fun K hK => ?_; simp (maxSteps := 200000) (disch := omega) [-List.getD_eq_getElem?_getD]; refine hK _ ?_; clear hK K
  refine aw_block ?_
  refine aw_own 3 0 2 [] (by omega) (by simp) ?_
  refine aw_loop (X := Nat) (fun k => ⟨[(0, .sl l.length (opsAV l) .none), (3, .sl k (opsAV (l.take k)) (.own T.length)), (4, .int .i64 (k : Nat))], H, T ++ [(k * 2, 2)]⟩) (fun k => k ≤ l.length) (fun k => l.length - k) 0 ?_ ?_ ?_
  · exact Nat.zero_le _
  · refine weak_to [] [] ?_ ?_ ?_ ?_ (HO.toks (by simp)) ?_
    all_goals simp [opsAV_nil]
  · intro k hk
    refine aw_then fun K2 hK2 => ?_
    refine aw_reg fun K hK => ?_; simp (maxSteps := 200000) (disch := omega) [-List.getD_eq_getElem?_getD]; refine hK _ ?_; clear hK K
    refine aw_if rfl (fun hk2 => ?_) (fun hk2 => ?_)
    · simp [-List.getD_eq_getElem?_getD] at hk2
      have hcut := opsAV_cut l k hk2
      have htl : (opsAV (l.take k)).length = k * 2 := by rw [opsAV_len, List.length_take]; omega
      refine aw_skip ?_; simp (maxSteps := 200000) (disch := omega) [-List.getD_eq_getElem?_getD]
      refine hK2 _ ?_; clear hK2
      refine aw_then fun K3 hK3 => ?_
      refine aw_block ?_
      refine aw_reg0 fun K hK => ?_; simp (maxSteps := 200000) (disch := omega) [-List.getD_eq_getElem?_getD, hcut, opsAV_len, htl, opsAV_take l k hk2]
      refine hK _ ?_; clear hK K
      refine hK3 _ ?_; clear hK3
      refine aw_reg0 fun K hK => ?_; simp (maxSteps := 200000) (disch := omega) [-List.getD_eq_getElem?_getD]
      refine hK _ ?_; clear hK K
      refine ⟨k + 1, by show k + 1 ≤ _; omega, by show l.length - (k + 1) < l.length - k; omega, ?_⟩
      refine weak_to [] [] ?_ ?_ ?_ ?_ (HO.toks (by simp)) ?_
      all_goals simp
    · simp at hk2
      have : k = l.length := by omega
      subst this
      refine aw_exit ?_; simp (maxSteps := 200000) (disch := omega) [-List.getD_eq_getElem?_getD]
      refine hK1 _ ?_; clear hK1
      refine aw_reg fun K hK => ?_; simp (maxSteps := 200000) (disch := omega) [-List.getD_eq_getElem?_getD]; refine hK _ ?_; clear hK K
      refine aw_ret ?_; simp (maxSteps := 200000) (disch := omega) [-List.getD_eq_getElem?_getD]

theorem costR_ok (l : List (Int × Int)) (hl : l.length ≤ 1000) (H : List Blk) (T : Toks) (tg : Tag) : ACall Try.prog 30 [.sl l.length (opsAV l) tg] H T (Is (.int .i64 (cost l : Nat)) H T) := by
  refine ACall.untag1 ?_
  refine ACall.drop' ?_ (by simp)
  refine acall_enter 5 [] Try.ntmps30 Try.func30 rfl (fun _ _ => Try.call30 _ _) (by simp) (fun HO => ?_)
  refine aw_reg fun K hK => ?_; simp (maxSteps := 200000) (disch := omega) [-List.getD_eq_getElem?_getD]; refine hK _ ?_; clear hK K
  refine aw_reg fun K hK => ?_; simp (maxSteps := 200000) (disch := omega) [-List.getD_eq_getElem?_getD]; refine hK _ ?_; clear hK K
  refine aw_then fun K1 hK1 => ?_
  refine aw_reg fun K hK => ?_; simp (maxSteps := 200000) (disch := omega) [-List.getD_eq_getElem?_getD]; refine hK _ ?_; clear hK K
  refine aw_block ?_
  refine aw_loop (X := Nat) (fun k => ⟨[(0, .sl l.length (opsAV l) .none), (3, .int .i64 (cost (l.take k) : Nat)), (4, .int .i64 (k : Nat))], H, T⟩) (fun k => k ≤ l.length) (fun k => l.length - k) 0 ?_ ?_ ?_
  · exact Nat.zero_le _
  · refine weak_to [] [] ?_ ?_ ?_ ?_ HO ?_
    all_goals simp [cost]
  · intro k hk
    refine aw_then fun K2 hK2 => ?_
    refine aw_reg fun K hK => ?_; simp (maxSteps := 200000) (disch := omega) [-List.getD_eq_getElem?_getD]; refine hK _ ?_; clear hK K
    refine aw_if rfl (fun hk2 => ?_) (fun hk2 => ?_)
    · simp [-List.getD_eq_getElem?_getD] at hk2
      have hcut := opsAV_cut l k hk2
      have hat := (opsAV_at l k hk2).1
      have hcost := costN l k hk2
      have hle : cost (l.take k) ≤ 1000 := by
        refine Nat.le_trans (List.length_filter_le _ _) ?_
        rw [List.length_take]; omega
      refine aw_skip ?_; simp (maxSteps := 200000) (disch := omega) [-List.getD_eq_getElem?_getD]
      refine hK2 _ ?_; clear hK2
      refine aw_then fun K3 hK3 => ?_
      refine aw_block ?_
      by_cases h1 : (l.getD k (0, 0)).1 = 1
      · have b1 : ((l.getD k (0, 0)).1 != 1) = false := by simpa using h1
        rw [if_pos h1] at hcost
        refine aw_reg fun K hK => ?_; simp (maxSteps := 200000) (disch := omega) [-List.getD_eq_getElem?_getD, hcut, hat, opsAV_len, b1]; refine hK _ ?_; clear hK K
        refine aw_if rfl (fun h => absurd h (by simp)) (fun h => ?_)
        refine aw_skip ?_; simp (maxSteps := 200000) (disch := omega) [-List.getD_eq_getElem?_getD]
        refine hK3 _ ?_; clear hK3
        refine aw_reg0 fun K hK => ?_; simp (maxSteps := 200000) (disch := omega) [-List.getD_eq_getElem?_getD]
        refine hK _ ?_; clear hK K
        refine ⟨k + 1, by show k + 1 ≤ _; omega, by show l.length - (k + 1) < l.length - k; omega, ?_⟩
        refine weak_to [] [] ?_ ?_ ?_ ?_ HO ?_
        all_goals simp [hcost]
      · have b1 : ((l.getD k (0, 0)).1 != 1) = true := by simpa using h1
        rw [if_neg h1] at hcost
        refine aw_reg fun K hK => ?_; simp (maxSteps := 200000) (disch := omega) [-List.getD_eq_getElem?_getD, hcut, hat, opsAV_len, b1]; refine hK _ ?_; clear hK K
        refine aw_if rfl (fun h => ?_) (fun h => absurd h (by simp))
        refine aw_reg0 fun K hK => ?_; simp (maxSteps := 200000) (disch := omega) [-List.getD_eq_getElem?_getD]
        refine hK _ ?_; clear hK K
        refine hK3 _ ?_; clear hK3
        refine aw_reg0 fun K hK => ?_; simp (maxSteps := 200000) (disch := omega) [-List.getD_eq_getElem?_getD]
        refine hK _ ?_; clear hK K
        refine ⟨k + 1, by show k + 1 ≤ _; omega, by show l.length - (k + 1) < l.length - k; omega, ?_⟩
        refine weak_to [] [] ?_ ?_ ?_ ?_ HO ?_
        all_goals simp [hcost]
    · simp at hk2
      refine aw_exit ?_; simp (maxSteps := 200000) (disch := omega) [-List.getD_eq_getElem?_getD]
      refine hK1 _ ?_; clear hK1
      have : k = l.length := by omega
      subst this
      refine aw_reg fun K hK => ?_; simp (maxSteps := 200000) (disch := omega) [-List.getD_eq_getElem?_getD]; refine hK _ ?_; clear hK K
      refine aw_ret ?_; simp (maxSteps := 200000) (disch := omega) [-List.getD_eq_getElem?_getD]

theorem eq_getDP {a b : List (Int × Int)} (h : a.length = b.length) (hj : ∀ j, j < a.length → a.getD j (0, 0) = b.getD j (0, 0)) : a = b := by
  apply List.ext_getElem h
  intro i h1 h2
  have := hj i h1
  rwa [List.getD_eq_getElem?_getD, List.getD_eq_getElem?_getD, List.getElem?_eq_getElem h1, List.getElem?_eq_getElem h2] at this

theorem sameOps_ok (a b : List (Int × Int)) (ha : a.length ≤ 1000) (hb : b.length ≤ 1000) (H : List Blk) (T : Toks) (ta tb : Tag) : ACall Try.prog 18 [.sl a.length (opsAV a) ta, .sl b.length (opsAV b) tb] H T (Is (.bool (a == b)) H T) := by
  refine ACall.untag1 (ACall.untag2 ?_)
  refine acall_enter 6 [] Try.ntmps18 Try.func18 rfl (fun _ _ => Try.call18 _ _) (by simp) (fun HO => ?_)
  refine aw_reg fun K hK => ?_; simp (maxSteps := 200000) (disch := omega) [-List.getD_eq_getElem?_getD]; refine hK _ ?_; clear hK K
  refine aw_then fun K1 hK1 => ?_
  refine aw_reg fun K hK => ?_; simp (maxSteps := 200000) (disch := omega) [-List.getD_eq_getElem?_getD]; refine hK _ ?_; clear hK K
  refine aw_if rfl (fun h => ?_) (fun h => ?_)
  · simp [-List.getD_eq_getElem?_getD] at h
    refine aw_reg fun K hK => ?_; simp (maxSteps := 200000) (disch := omega) [-List.getD_eq_getElem?_getD]; refine hK _ ?_; clear hK K
    refine aw_ret ?_; simp (maxSteps := 200000) (disch := omega) [-List.getD_eq_getElem?_getD]
    have : (a == b) = false := by rw [beq_eq_false_iff_ne]; intro e; subst e; exact h rfl
    rw [this]
    exact ⟨rfl, rfl, rfl⟩
  · simp [-List.getD_eq_getElem?_getD] at h
    have hl : a.length = b.length := by omega
    refine aw_skip ?_; simp (maxSteps := 200000) (disch := omega) [-List.getD_eq_getElem?_getD]
    refine hK1 _ ?_; clear hK1
    refine aw_then fun K1 hK1 => ?_
    refine aw_reg fun K hK => ?_; simp (maxSteps := 200000) (disch := omega) [-List.getD_eq_getElem?_getD]; refine hK _ ?_; clear hK K
    refine aw_block ?_
    refine aw_loop (X := Nat) (fun i => ⟨[(0, .sl a.length (opsAV a) .none), (1, .sl b.length (opsAV b) .none), (5, .int .i64 (i : Nat))], H, T⟩) (fun i => i ≤ a.length ∧ ∀ j, j < i → a.getD j (0, 0) = b.getD j (0, 0)) (fun i => a.length - i) 0 ?_ ?_ ?_
    · exact ⟨by omega, fun j hj => by omega⟩
    · refine weak_to [] [] ?_ ?_ ?_ ?_ HO ?_
      all_goals simp
    · rintro i ⟨hi, hj⟩
      refine aw_then fun K2 hK2 => ?_
      refine aw_reg fun K hK => ?_; simp (maxSteps := 200000) (disch := omega) [-List.getD_eq_getElem?_getD]; refine hK _ ?_; clear hK K
      refine aw_if rfl (fun h' => ?_) (fun h' => ?_)
      · simp [-List.getD_eq_getElem?_getD] at h'
        have c1 := opsAV_cut a i h'
        have c2 := opsAV_cut b i (by omega)
        refine aw_skip ?_; simp (maxSteps := 200000) (disch := omega) [-List.getD_eq_getElem?_getD]
        refine hK2 _ ?_; clear hK2
        refine aw_then fun K3 hK3 => ?_
        refine aw_block ?_
        by_cases he : a.getD i (0, 0) = b.getD i (0, 0)
        · rw [← he] at c2
          refine aw_draw [] [] [] drawMixed (by kernel_rfl) (by kernel_rfl) fun K hK => ?_; simp (maxSteps := 200000) (disch := omega) [-List.getD_eq_getElem?_getD, c1, c2, opsAV_len]
          refine hK _ ?_; clear hK K
          refine aw_if rfl (fun h => absurd h (by simp)) (fun h => ?_)
          refine aw_skip ?_; simp (maxSteps := 200000) (disch := omega) [-List.getD_eq_getElem?_getD]
          refine hK3 _ ?_; clear hK3
          refine aw_reg0 fun K hK => ?_; simp (maxSteps := 200000) (disch := omega) [-List.getD_eq_getElem?_getD]
          refine hK _ ?_; clear hK K
          refine ⟨i + 1, ⟨by omega, fun j hj' => ?_⟩, by omega, ?_⟩
          · rcases Nat.lt_or_ge j i with h1 | h1
            · exact hj j h1
            · have : j = i := by omega
              subst this; exact he
          · refine weak_to [] [] ?_ ?_ ?_ ?_ HO ?_
            all_goals simp
        · have hne : (((a.getD i (0, 0)).1 == (b.getD i (0, 0)).1) && ((a.getD i (0, 0)).2 == (b.getD i (0, 0)).2)) = false := by
            rw [Bool.and_eq_false_iff, beq_eq_false_iff_ne, beq_eq_false_iff_ne]
            by_cases h1 : (a.getD i (0, 0)).1 = (b.getD i (0, 0)).1
            · exact .inr fun h2 => he (Prod.ext h1 h2)
            · exact .inl h1
          have hab : (a == b) = false := by rw [beq_eq_false_iff_ne]; intro e; subst e; exact he rfl
          generalize a.getD i (0, 0) = p at *
          generalize b.getD i (0, 0) = q at *
          refine aw_draw [] [] [] drawMixed (by kernel_rfl) (by kernel_rfl) fun K hK => ?_; simp (maxSteps := 200000) (disch := omega) [-List.getD_eq_getElem?_getD, c1, c2, opsAV_len, hne]
          refine hK _ ?_; clear hK K
          refine aw_if rfl (fun h => ?_) (fun h => absurd h (by simp_all))
          refine aw_reg fun K hK => ?_; simp (maxSteps := 200000) (disch := omega) [-List.getD_eq_getElem?_getD]; refine hK _ ?_; clear hK K
          refine aw_ret ?_; simp (maxSteps := 200000) (disch := omega) [-List.getD_eq_getElem?_getD]
          rw [hab]
          exact ⟨rfl, rfl, rfl⟩
      · simp [-List.getD_eq_getElem?_getD] at h'
        refine aw_exit ?_; simp (maxSteps := 200000) (disch := omega) [-List.getD_eq_getElem?_getD]
        refine hK1 _ ?_; clear hK1
        refine aw_reg fun K hK => ?_; simp (maxSteps := 200000) (disch := omega) [-List.getD_eq_getElem?_getD]; refine hK _ ?_; clear hK K
        refine aw_ret ?_; simp (maxSteps := 200000) (disch := omega) [-List.getD_eq_getElem?_getD]
        refine ⟨?_, rfl, rfl⟩
        have : a = b := eq_getDP hl (fun j hj' => hj j (by omega))
        simp [this]
end Go.Proofs.Ytgndlhfnenlhkaa
