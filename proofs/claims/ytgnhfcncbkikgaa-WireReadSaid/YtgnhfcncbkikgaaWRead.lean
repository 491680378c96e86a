/- WireRead: the walk.
   Conditions: none. -/
import Derived.Test.YtgnhfcncbkikgaaWFn12
import Derived.Test.YtgnhfcncbkikgaaWFn4
import Derived.Test.YtgnhfcncbkikgaaAmArg
namespace Go.Am
open Go Go.ChangeShapes Go.WideShapes Go.RowKit
/-- The cells of read calls. -/
def rdsAV (l : List (Int × Int × Int × Int)) : List AV := l.flatMap fun p => [.int .i64 p.1, .int .i64 p.2.1, .int .i64 p.2.2.1, .int .i64 p.2.2.2]
section
variable {H : Type} {enc : TypeId × Value → H} {P : Program} {w : World} {b0 base : Nat} {sp : Nat → Bool} {held : Bool} {t e : TypeId} {v : Value} {d : DataW H} {ps : List MemPlace} {r : Reach} {fs : Array Field} {f0 f1 f2 f3 : Field}
theorem av_quads (ht : P.underlying t = some (.slice e)) (hs : P.underlying e = some (.struct fs)) (h0 : fs[0]? = some f0) (h1 : fs[1]? = some f1) (h2 : fs[2]? = some f2) (h3 : fs[3]? = some f3)
    (o0 : f0.offset = 0) (o1 : f1.offset = 1) (o2 : f2.offset = 2) (o3 : f3.offset = 3)
    (u0 : P.underlying f0.type = some (.int .i64)) (u1 : P.underlying f1.type = some (.int .i64)) (u2 : P.underlying f2.type = some (.int .i64)) (u3 : P.underlying f3.type = some (.int .i64))
    (c0 : P.cellsOf f0.type = 1) (c1 : P.cellsOf f1.type = 1) (c2 : P.cellsOf f2.type = 1) (c3 : P.cellsOf f3.type = 1) (ce : P.cellsOf e = 4)
    (hval : Value.okWide P w r b0 t v) (h : DataW.Trod enc P w base sp held t v d ps) :
    ∃ l : List (Int × Int × Int × Int), l.length ≤ maxLen ∧ Rep (lay0 w) 0 [] w (.sl l.length (rdsAV l) .none) v := by
  obtain ⟨es, ⟨hG, hl⟩, hr⟩ := av_slice (G := fun a => ∃ p q r s : Int, a = [.int .i64 p, .int .i64 q, .int .i64 r, .int .i64 s]) ht (by omega) (fun n cs y hy => by
    obtain ⟨hlen, hf⟩ := rc_fields hs hy
    obtain ⟨n0, y0, g0⟩ := hf 0 _ h0
    obtain ⟨n1, y1, g1⟩ := hf 1 _ h1
    obtain ⟨n2, y2, g2⟩ := hf 2 _ h2
    obtain ⟨n3, y3, g3⟩ := hf 3 _ h3
    rw [o0, c0] at g0
    rw [o1, c1] at g1
    rw [o2, c2] at g2
    rw [o3, c3] at g3
    rw [ce] at hlen
    obtain ⟨k0, _, b0⟩ := rc_int u0 g0
    obtain ⟨k1, _, b1⟩ := rc_int u1 g1
    obtain ⟨k2, _, b2⟩ := rc_int u2 g2
    obtain ⟨k3, _, b3⟩ := rc_int u3 g3
    match cs, hlen with
    | [x, y, z, u], _ => exact ⟨[.int .i64 k0, .int .i64 k1, .int .i64 k2, .int .i64 k3], ⟨k0, k1, k2, k3, rfl⟩, ((b0.append b1).append b2).append b3⟩) hval h
  have key : ∀ es : List (List AV), (∀ a ∈ es, ∃ p q r s : Int, a = [AV.int .i64 p, AV.int .i64 q, AV.int .i64 r, AV.int .i64 s]) → ∃ l : List (Int × Int × Int × Int), l.length = es.length ∧ es.flatten = rdsAV l := by
    intro es
    induction es with
    | nil => intro _; exact ⟨[], rfl, rfl⟩
    | cons x es ih =>
      intro h
      obtain ⟨l, g1, g2⟩ := ih (fun a ha => h a (by simp [ha]))
      obtain ⟨p, q, r, s, rfl⟩ := h x (by simp)
      exact ⟨(p, q, r, s) :: l, by simp [g1], by simp [g2, rdsAV]⟩
  obtain ⟨l, g1, g2⟩ := key es hG
  rw [← g1, g2] at hr
  exact ⟨l, by omega, hr⟩
end
end Go.Am
namespace Go.Proofs.Ytgnhfcncbkikgaa
open Go Go.Am Wire
set_option linter.unusedVariables false

theorem rdsAV_len (l : List (Int × Int × Int × Int)) : (rdsAV l).length = l.length * 4 := by
  induction l with
  | nil => rfl
  | cons p l ih => simp only [rdsAV, List.flatMap_cons, List.length_append, List.length_cons, List.length_nil] at ih ⊢; omega
theorem rdsAV_cons (p : Int × Int × Int × Int) (l : List (Int × Int × Int × Int)) : rdsAV (p :: l) = .int .i64 p.1 :: .int .i64 p.2.1 :: .int .i64 p.2.2.1 :: .int .i64 p.2.2.2 :: rdsAV l := by simp [rdsAV]
theorem rdsAV_cut : ∀ (l : List (Int × Int × Int × Int)) (i : Nat), i < l.length → ((rdsAV l).drop (i * 4)).take 4 = [.int .i64 (l.getD i (0, 0, 0, 0)).1, .int .i64 (l.getD i (0, 0, 0, 0)).2.1, .int .i64 (l.getD i (0, 0, 0, 0)).2.2.1, .int .i64 (l.getD i (0, 0, 0, 0)).2.2.2] := by
  intro l
  induction l with
  | nil => intro i h; simp at h
  | cons p l ih =>
    intro i h
    cases i with
    | zero => rw [rdsAV_cons]; rfl
    | succ i =>
      have := ih i (by simpa using h)
      rw [rdsAV_cons, show (i + 1) * 4 = i * 4 + 1 + 1 + 1 + 1 by omega]
      exact this
@[simp] theorem below_rds (n t : Nat) (l : List (Int × Int × Int × Int)) : BelowAll n t (rdsAV l) := by
  intro v hv
  obtain ⟨p, _, hv⟩ := List.mem_flatMap.1 hv
  simp at hv
  rcases hv with rfl | rfl | rfl | rfl <;> simp

theorem set_twice {α : Type} (l : List α) (p q : Nat) (x y u v : α) : ((((l.set p x).set q y).set p u).set q v) = (l.set p u).set q v := by
  apply List.ext_getElem?
  intro j
  simp only [List.getElem?_set, List.length_set]
  by_cases h1 : q = j
  · simp [h1]
  · by_cases h2 : p = j
    · simp [h1, h2]
    · simp [h1, h2]

/-- The copy is a box that is written to. -/
theorem behindB_ok (bs : List UInt8) (h0 : 0 < bs.length) (hb : bs.length ≤ 1099511627776) (H : List Blk) (T : Toks) :
    ACall Try.prog 13 [.sl bs.length (encB bs) .none, .sl 0 [] .full] H T (fun r H' T' => T' = T ∧ r = .msl H.length 0 bs.length ∧ ∃ k, H' = H ++ [.cells (encB bs ++ List.replicate k .top)]) := by
  refine acall_enter 2 [7] Try.ntmps13 Try.func13 rfl (fun _ _ => Try.call13 _ _) (by simp) (fun HO => ?_)
  refine aw_reg fun K hK => ?_; simp (maxSteps := 200000) (disch := omega) [-List.getD_eq_getElem?_getD]; refine hK _ ?_; clear hK K
  refine aw_reg fun K hK => ?_; simp (maxSteps := 200000) (disch := omega) [-List.getD_eq_getElem?_getD, h0]
  intro k
  refine hK _ ?_
  clear hK K
  refine aw_ret ?_; simp (maxSteps := 200000) (disch := omega) [-List.getD_eq_getElem?_getD]

theorem take_top (l : List AV) (n k : Nat) (h : l.length = n) : (l ++ List.replicate k AV.top).take n = l := by
  rw [List.take_append_of_le_length (by omega), List.take_of_length_le (by omega)]

theorem cloneM_ok (bs : List UInt8) (h0 : 0 < bs.length) (hb : bs.length ≤ 1099511627776) (H : List Blk) (T : Toks) (p k : Nat) (hp : H[p]? = some (.cells (encB bs ++ List.replicate k .top))) :
    ACall Try.prog 33 [.msl p 0 bs.length] H T (Is (.sl bs.length (encB bs) .none) H T) := by
  refine ACall.cut H T (Nat.le_refl _) (Nat.le_refl _) id (by simp) ?_
  have ht := take_top (encB bs) bs.length k (by simp [encB])
  refine acall_enter 3 [] Try.ntmps33 Try.func33 rfl (fun _ _ => Try.call33 _ _) (by simp) (fun HO => ?_)
  refine aw_reg fun K hK => ?_; simp (maxSteps := 200000) (disch := omega) [-List.getD_eq_getElem?_getD]; refine hK _ ?_; clear hK K
  refine aw_then fun K1 hK1 => ?_
  refine aw_reg fun K hK => ?_; simp (maxSteps := 200000) (disch := omega) [-List.getD_eq_getElem?_getD]
  refine ⟨hK _ ?_, fun he => by rw [he] at h0; exact absurd h0 (by simp)⟩
  clear hK K
  refine aw_if rfl (fun h => absurd h (by simp)) (fun h => ?_)
  refine aw_skip ?_; simp (maxSteps := 200000) (disch := omega) [-List.getD_eq_getElem?_getD]
  refine hK1 _ ?_; clear hK1
  refine aw_reg fun K hK => ?_; simp (maxSteps := 200000) (disch := omega) [-List.getD_eq_getElem?_getD, hp, ht]; refine hK _ ?_; clear hK K
  refine aw_ret ?_; simp (maxSteps := 200000) (disch := omega) [-List.getD_eq_getElem?_getD]

theorem fromM_ok (bs : List UInt8) (h0 : 0 < bs.length) (hb : bs.length ≤ 1099511627776) (H : List Blk) (T : Toks) (p k : Nat) (hp : H[p]? = some (.cells (encB bs ++ List.replicate k .top))) :
    ACall Try.prog 14 [.msl p 0 bs.length] H T (Is (.ptr H.length 0) (H ++ [.cells (rd bs ⟨0, false⟩)]) T) := by
  refine acall_enter 3 [] Try.ntmps14 Try.func14 rfl (fun _ _ => Try.call14 _ _) (by simp) (fun HO => ?_)
  refine aw_reg fun K hK => ?_; simp (maxSteps := 200000) (disch := omega) [-List.getD_eq_getElem?_getD]; refine hK _ ?_; clear hK K
  refine aw_reg fun K hK => ?_; simp (maxSteps := 200000) (disch := omega) [-List.getD_eq_getElem?_getD]
  refine acall_is (cloneM_ok bs h0 hb H T p k hp) ?_; simp (maxSteps := 200000) (disch := omega) [-List.getD_eq_getElem?_getD, rd]
  refine hK _ ?_; clear hK K
  refine aw_ret ?_; simp (maxSteps := 200000) (disch := omega) [-List.getD_eq_getElem?_getD]
  exact ⟨rfl, rfl, rfl⟩

/-- Bytes as cells, and those of a box with room. -/
def u8s (zs : List Int) : List AV := zs.map (.int .u8)
theorem u8s_enc (bs : List UInt8) : encB bs = u8s (bs.map fun b => (b.toNat : Int)) := by simp [encB, u8s]
theorem u8s_at (zs : List Int) (k i : Nat) (h : i < zs.length) : (u8s zs ++ List.replicate k AV.top).getD i .top = .int .u8 (zs.getD i 0) := by
  rw [List.getD_eq_getElem?_getD, List.getElem?_append_left (by simpa [u8s] using h)]
  simp [u8s, h]
theorem u8s_set (zs : List Int) (k i : Nat) (z : Int) (h : i < zs.length) : (u8s zs ++ List.replicate k AV.top).set i (.int .u8 z) = u8s (zs.set i z) ++ List.replicate k AV.top := by
  rw [List.set_append_left _ _ (by simpa [u8s] using h)]
  simp [u8s, List.map_set]
theorem u8s_len (zs : List Int) : (u8s zs).length = zs.length := by simp [u8s]
theorem below_u8s (n t k : Nat) (zs : List Int) : BelowAll n t (u8s zs ++ List.replicate k .top) := by
  intro v hv
  rcases List.mem_append.1 hv with hv | hv
  · obtain ⟨x, _, rfl⟩ := List.mem_map.1 hv
    exact .int _ _
  · rw [List.mem_replicate] at hv
    rw [hv.2]
    exact .top

theorem hok2 {H : List Blk} {T : Toks} (h : HOk H T) (p q : Nat) (x y : Rd) (bs : List UInt8) : HOk ((H.set p (.cells (rd bs x))).set q (.cells (rd bs y))) T :=
  (h.set (by simp [rd])).set (by simp [rd])

set_option maxRecDepth 100000 in
set_option maxHeartbeats 4000000 in
theorem read_ok (bs : List UInt8) (hbl : bs.length ≤ maxLen) (l : List (Int × Int × Int × Int)) (hll : l.length ≤ maxLen) :
    ACall Try.prog 4 [.sl bs.length (encB bs) .none, .sl l.length (rdsAV l) .none] [] [] (fun r _ _ => r = .bool true) := by
  have hml : maxLen ≤ 9223372036854775807 := by decide
  have hb' := Nat.le_trans hbl hml
  have hl' := Nat.le_trans hll hml
  refine acall_enter 10 [] Try.ntmps4 Try.func4 rfl (fun _ _ => Try.call4 _ _) (by simp) (fun HO => ?_)
  refine aw_reg fun K hK => ?_; simp (maxSteps := 200000) (disch := omega) [-List.getD_eq_getElem?_getD]; refine hK _ ?_; clear hK K
  refine aw_then fun K1 hK1 => ?_
  refine aw_reg fun K hK => ?_; simp (maxSteps := 200000) (disch := omega) [-List.getD_eq_getElem?_getD]
  refine acall_is (awake_ok _ _) ?_; simp (maxSteps := 200000) (disch := omega) [-List.getD_eq_getElem?_getD]
  refine hK _ ?_; clear hK K
  refine aw_if rfl (fun h => absurd h (by simp)) (fun h => ?_)
  refine aw_skip ?_; simp (maxSteps := 200000) (disch := omega) [-List.getD_eq_getElem?_getD]
  refine hK1 _ ?_; clear hK1
  refine aw_then fun K1 hK1 => ?_
  by_cases h6 : 600 < bs.length
  · have b6 : decide ((600 : Int) < bs.length) = true := by simp; omega
    refine aw_reg fun K hK => ?_; simp (maxSteps := 200000) (disch := omega) [-List.getD_eq_getElem?_getD, b6, h6]; refine hK _ ?_; clear hK K
    refine aw_if rfl (fun h => ?_) (fun h => absurd h (by simp))
    refine aw_reg fun K hK => ?_; simp (maxSteps := 200000) (disch := omega) [-List.getD_eq_getElem?_getD]; refine hK _ ?_; clear hK K
    refine aw_ret ?_; simp (maxSteps := 200000) (disch := omega) [-List.getD_eq_getElem?_getD]
  · have b6 : decide ((600 : Int) < bs.length) = false := by simp; omega
    by_cases h2 : 20 < l.length
    · have b2 : decide ((20 : Int) < l.length) = true := by simp; omega
      refine aw_reg fun K hK => ?_; simp (maxSteps := 200000) (disch := omega) [-List.getD_eq_getElem?_getD, b6, h6, b2, h2]; refine hK _ ?_; clear hK K
      refine aw_if rfl (fun h => ?_) (fun h => absurd h (by simp))
      refine aw_reg fun K hK => ?_; simp (maxSteps := 200000) (disch := omega) [-List.getD_eq_getElem?_getD]; refine hK _ ?_; clear hK K
      refine aw_ret ?_; simp (maxSteps := 200000) (disch := omega) [-List.getD_eq_getElem?_getD]
    · have b2 : decide ((20 : Int) < l.length) = false := by simp; omega
      have h40 : bs.length ≤ 1099511627776 := by omega
      refine aw_reg fun K hK => ?_; simp (maxSteps := 200000) (disch := omega) [-List.getD_eq_getElem?_getD, b6, h6, b2, h2]; refine hK _ ?_; clear hK K
      refine aw_if rfl (fun h => absurd h (by simp)) (fun h => ?_)
      refine aw_skip ?_; simp (maxSteps := 200000) (disch := omega) [-List.getD_eq_getElem?_getD]
      refine hK1 _ ?_; clear hK1
      rcases Nat.eq_zero_or_pos bs.length with h0 | h0
      · have hnil : bs = [] := List.eq_nil_of_length_eq_zero h0
        subst hnil
        have c1 := behind_ok [] [] (by decide) [] [] .none .full
        have c2 := from_ok [] (by decide) [] []
        simp only [List.append_nil, List.length_nil] at c1 c2
        have hok : ∀ x, HOk [.cells (rd [] x), .cells (rd [] x)] [] := fun x => (HO.snoc (vs := rd [] x) (by simp [rd])).snoc (vs := rd [] x) (by simp [rd])
        refine aw_reg fun K hK => ?_; simp (maxSteps := 200000) (disch := omega) [-List.getD_eq_getElem?_getD]
        refine acall_is (c1) ?_; simp (maxSteps := 200000) (disch := omega) [-List.getD_eq_getElem?_getD]
        refine hK _ ?_; clear hK K
        refine aw_reg fun K hK => ?_; simp (maxSteps := 200000) (disch := omega) [-List.getD_eq_getElem?_getD]
        refine acall_is (c2) ?_; simp (maxSteps := 200000) (disch := omega) [-List.getD_eq_getElem?_getD]
        refine hK _ ?_; clear hK K
        refine aw_then fun K1 hK1 => ?_
        refine aw_reg fun K hK => ?_; simp (maxSteps := 200000) (disch := omega) [-List.getD_eq_getElem?_getD]; refine hK _ ?_; clear hK K
        refine aw_block ?_
        refine aw_loop (X := Nat) (fun i => ⟨[(1, .sl l.length (rdsAV l) .none), (5, .sl 0 [] .none), (6, .ptr 0 0), (7, .ptr 1 0), (8, .int .i64 0)], [.cells (rd [] ⟨0, false⟩), .cells (rd [] ⟨0, false⟩)], []⟩) (fun _ => True) (fun i => i) 0 trivial ?_ ?_
        · refine weak_to [] [] ?_ ?_ ?_ ?_ (hok _) ?_
          all_goals simp [rd]
        · intro i _
          refine aw_then fun K2 hK2 => ?_
          refine aw_reg fun K hK => ?_; simp (maxSteps := 200000) (disch := omega) [-List.getD_eq_getElem?_getD]; refine hK _ ?_; clear hK K
          refine aw_if rfl (fun h => absurd h (by simp)) (fun h => ?_)
          refine aw_exit ?_; simp (maxSteps := 200000) (disch := omega) [-List.getD_eq_getElem?_getD]
          refine hK1 _ ?_; clear hK1
          refine aw_then fun K2 hK2 => ?_
          refine aw_reg fun K hK => ?_; simp (maxSteps := 200000) (disch := omega) [-List.getD_eq_getElem?_getD]; refine hK _ ?_; clear hK K
          refine aw_block ?_
          refine aw_loop (X := Nat × Rd) (fun x => ⟨[(1, .sl l.length (rdsAV l) .none), (6, .ptr 0 0), (7, .ptr 1 0), (9, .int .i64 (x.1 : Nat))], [.cells (rd [] x.2), .cells (rd [] x.2)], []⟩) (fun x => x.1 ≤ l.length ∧ x.2.at_ ≤ List.length ([] : List UInt8)) (fun x => l.length - x.1) (0, ⟨0, false⟩) ?_ ?_ ?_
          · exact ⟨Nat.zero_le _, Nat.zero_le _⟩
          · refine weak_to [] [] ?_ ?_ ?_ ?_ (hok _) ?_
            all_goals simp
          · rintro ⟨i, s⟩ ⟨h1, h3⟩
            simp only at h1 h3
            by_cases hi : i < l.length
            · have hcut := rdsAV_cut l i hi
              have bi : decide ((i : Int) < l.length) = true := by simp; omega
              generalize l.getD i (0, 0, 0, 0) = r at hcut
              obtain ⟨kd, mx, lo, hi2⟩ := r
              simp only at hcut
              have c1 := sameRd_ok [] s kd mx lo hi2 h3 (by decide) [.cells (rd [] s), .cells (rd [] s)] [] 0 1 (by decide) rfl rfl
              have h4 := rstep_le [] kd mx lo hi2 s h3
              generalize rstep [] kd mx lo hi2 s = s' at c1 h4
              simp only [List.set_cons_zero, List.set_cons_succ] at c1
              have c2 := wRest_ok [] s' h4 (by decide) [.cells (rd [] s'), .cells (rd [] s')] [] 0 rfl
              have c3 := restR_ok [] s' h4 (by decide) [.cells (rd [] s'), .cells (rd [] s')] [] 1 rfl
              have c4 := wDone_ok [] s' h4 (by decide) [.cells (rd [] s'), .cells (rd [] s')] [] 0 rfl
              have c5 := doneR_ok [] s' h4 (by decide) [.cells (rd [] s'), .cells (rd [] s')] [] 1 rfl
              refine aw_then fun K3 hK3 => ?_
              refine aw_reg fun K hK => ?_; simp (maxSteps := 200000) (disch := omega) [-List.getD_eq_getElem?_getD, bi, hi]; refine hK _ ?_; clear hK K
              refine aw_if rfl (fun h => ?_) (fun h => absurd h (by simp))
              refine aw_skip ?_; simp (maxSteps := 200000) (disch := omega) [-List.getD_eq_getElem?_getD]
              refine hK3 _ ?_; clear hK3
              refine aw_then fun K4 hK4 => ?_
              refine aw_block ?_
              refine aw_reg fun K hK => ?_; simp (maxSteps := 200000) (disch := omega) [-List.getD_eq_getElem?_getD, hcut, rdsAV_len]
              refine acall_is (c1) ?_; simp (maxSteps := 200000) (disch := omega) [-List.getD_eq_getElem?_getD]
              refine acall_is (c2) ?_; simp (maxSteps := 200000) (disch := omega) [-List.getD_eq_getElem?_getD]
              refine acall_is (c3) ?_; simp (maxSteps := 200000) (disch := omega) [-List.getD_eq_getElem?_getD]
              refine acall_is (c4) ?_; simp (maxSteps := 200000) (disch := omega) [-List.getD_eq_getElem?_getD]
              refine acall_is (c5) ?_; simp (maxSteps := 200000) (disch := omega) [-List.getD_eq_getElem?_getD]
              refine hK _ ?_; clear hK K
              refine aw_if rfl (fun h => absurd h (by simp)) (fun h => ?_)
              refine aw_skip ?_; simp (maxSteps := 200000) (disch := omega) [-List.getD_eq_getElem?_getD]
              refine hK4 _ ?_; clear hK4
              refine aw_reg0 fun K hK => ?_; simp (maxSteps := 200000) (disch := omega) [-List.getD_eq_getElem?_getD]
              refine hK _ ?_; clear hK K
              refine ⟨(i + 1, s'), ⟨by show i + 1 ≤ _; omega, h4⟩, by show l.length - (i + 1) < l.length - i; omega, ?_⟩
              refine weak_to [] [] ?_ ?_ ?_ ?_ (hok _) ?_
              all_goals simp
            · have bi : decide ((i : Int) < l.length) = false := by simp; omega
              refine aw_then fun K3 hK3 => ?_
              refine aw_reg fun K hK => ?_; simp (maxSteps := 200000) (disch := omega) [-List.getD_eq_getElem?_getD, bi, hi]; refine hK _ ?_; clear hK K
              refine aw_if rfl (fun h => absurd h (by simp)) (fun h => ?_)
              refine aw_exit ?_; simp (maxSteps := 200000) (disch := omega) [-List.getD_eq_getElem?_getD]
              refine hK2 _ ?_; clear hK2
              refine aw_reg fun K hK => ?_; simp (maxSteps := 200000) (disch := omega) [-List.getD_eq_getElem?_getD]; refine hK _ ?_; clear hK K
              refine aw_ret ?_; simp (maxSteps := 200000) (disch := omega) [-List.getD_eq_getElem?_getD]
      · have c1 := behindB_ok bs h0 h40 [] []
        refine aw_reg fun K hK => ?_; simp (maxSteps := 200000) (disch := omega) [-List.getD_eq_getElem?_getD]
        refine ⟨_, c1, ?_⟩
        rintro v H' T' ⟨rfl, rfl, k, rfl⟩
        have c2 := fromM_ok bs h0 h40 ([] ++ [.cells (encB bs ++ List.replicate k .top)]) [] 0 k rfl
        simp only [List.nil_append, List.length_nil, List.length_cons] at c2
        have hok : ∀ x zs, HOk [.cells (u8s zs ++ List.replicate k .top), .cells (rd bs x), .cells (rd bs x)] [] := fun x zs => ((HO.snoc (vs := u8s zs ++ List.replicate k AV.top) (below_u8s _ _ _ _)).snoc (vs := rd bs x) (by simp [rd])).snoc (vs := rd bs x) (by simp [rd])
        simp (maxSteps := 200000) (disch := omega) [-List.getD_eq_getElem?_getD]
        refine hK _ ?_; clear hK K
        refine aw_reg fun K hK => ?_; simp (maxSteps := 200000) (disch := omega) [-List.getD_eq_getElem?_getD]
        refine acall_is (c2) ?_; simp (maxSteps := 200000) (disch := omega) [-List.getD_eq_getElem?_getD]
        refine hK _ ?_; clear hK K
        obtain ⟨zs0, hz0, hz1⟩ : ∃ zs0 : List Int, zs0.length = bs.length ∧ encB bs = u8s zs0 := ⟨bs.map fun b => (b.toNat : Int), by simp, u8s_enc bs⟩
        refine aw_then fun K1 hK1 => ?_
        refine aw_reg fun K hK => ?_; simp (maxSteps := 200000) (disch := omega) [-List.getD_eq_getElem?_getD]; refine hK _ ?_; clear hK K
        refine aw_block ?_
        refine aw_loop (X := Nat × List Int) (fun x => ⟨[(1, .sl l.length (rdsAV l) .none), (5, .msl 0 0 bs.length), (6, .ptr 1 0), (7, .ptr 2 0), (8, .int .i64 (x.1 : Nat))], [.cells (u8s x.2 ++ List.replicate k .top), .cells (rd bs ⟨0, false⟩), .cells (rd bs ⟨0, false⟩)], []⟩) (fun x => x.1 ≤ bs.length ∧ x.2.length = bs.length) (fun x => bs.length - x.1) (0, zs0) ⟨Nat.zero_le _, hz0⟩ ?_ ?_
        · refine weak_to [] [] ?_ ?_ ?_ ?_ (hok _ _) ?_
          · simp [rd, hz1]
          · simp
          · simp
          · simp
          · simp
        · rintro ⟨i, zs⟩ ⟨g1, g2⟩
          simp only at g1 g2
          by_cases hi : i < bs.length
          · have bi : decide ((i : Int) < bs.length) = true := by simp; omega
            have hat := u8s_at zs k i (by omega)
            have hset := fun z => u8s_set zs k i z (by omega)
            refine aw_then fun K2 hK2 => ?_
            refine aw_reg fun K hK => ?_; simp (maxSteps := 200000) (disch := omega) [-List.getD_eq_getElem?_getD, bi, hi]; refine hK _ ?_; clear hK K
            refine aw_if rfl (fun h => ?_) (fun h => absurd h (by simp))
            refine aw_skip ?_; simp (maxSteps := 200000) (disch := omega) [-List.getD_eq_getElem?_getD]
            refine hK2 _ ?_; clear hK2
            refine aw_then fun K3 hK3 => ?_
            refine aw_block ?_
            refine aw_reg0 fun K hK => ?_; simp (maxSteps := 200000) (disch := omega) [-List.getD_eq_getElem?_getD, hat, hset, u8s_len]
            refine hK _ ?_; clear hK K
            refine hK3 _ ?_; clear hK3
            refine aw_reg0 fun K hK => ?_; simp (maxSteps := 200000) (disch := omega) [-List.getD_eq_getElem?_getD]
            refine hK _ ?_; clear hK K
            refine ⟨(i + 1, zs.set i (IntKind.u8.wrap (zs.getD i 0 + 1))), ⟨by show i + 1 ≤ _; omega, by simpa using g2⟩, by show bs.length - (i + 1) < bs.length - i; omega, ?_⟩
            refine weak_to [] [] ?_ ?_ ?_ ?_ (hok _ _) ?_
            all_goals simp [-List.getD_eq_getElem?_getD]
          · have bi : decide ((i : Int) < bs.length) = false := by simp; omega
            have hok := fun x => hok x zs
            refine aw_then fun K2 hK2 => ?_
            refine aw_reg fun K hK => ?_; simp (maxSteps := 200000) (disch := omega) [-List.getD_eq_getElem?_getD, bi, hi]; refine hK _ ?_; clear hK K
            refine aw_if rfl (fun h => absurd h (by simp)) (fun h => ?_)
            refine aw_exit ?_; simp (maxSteps := 200000) (disch := omega) [-List.getD_eq_getElem?_getD]
            refine hK1 _ ?_; clear hK1
            refine aw_then fun K2 hK2 => ?_
            refine aw_reg fun K hK => ?_; simp (maxSteps := 200000) (disch := omega) [-List.getD_eq_getElem?_getD]; refine hK _ ?_; clear hK K
            refine aw_block ?_
            refine aw_loop (X := Nat × Rd) (fun x => ⟨[(1, .sl l.length (rdsAV l) .none), (6, .ptr 1 0), (7, .ptr 2 0), (9, .int .i64 (x.1 : Nat))], [.cells (u8s zs ++ List.replicate k .top), .cells (rd bs x.2), .cells (rd bs x.2)], []⟩) (fun x => x.1 ≤ l.length ∧ x.2.at_ ≤ List.length bs) (fun x => l.length - x.1) (0, ⟨0, false⟩) ?_ ?_ ?_
            · exact ⟨Nat.zero_le _, Nat.zero_le _⟩
            · refine weak_to [] [] ?_ ?_ ?_ ?_ (hok _) ?_
              all_goals simp
            · rintro ⟨i, s⟩ ⟨h1, h3⟩
              simp only at h1 h3
              by_cases hi : i < l.length
              · have hcut := rdsAV_cut l i hi
                have bi : decide ((i : Int) < l.length) = true := by simp; omega
                generalize l.getD i (0, 0, 0, 0) = r at hcut
                obtain ⟨kd, mx, lo, hi2⟩ := r
                simp only at hcut
                have c1 := sameRd_ok bs s kd mx lo hi2 h3 h40 [.cells (u8s zs ++ List.replicate k .top), .cells (rd bs s), .cells (rd bs s)] [] 1 2 (by decide) rfl rfl
                have h4 := rstep_le bs kd mx lo hi2 s h3
                generalize rstep bs kd mx lo hi2 s = s' at c1 h4
                simp only [List.set_cons_zero, List.set_cons_succ] at c1
                have c2 := wRest_ok bs s' h4 h40 [.cells (u8s zs ++ List.replicate k .top), .cells (rd bs s'), .cells (rd bs s')] [] 1 rfl
                have c3 := restR_ok bs s' h4 h40 [.cells (u8s zs ++ List.replicate k .top), .cells (rd bs s'), .cells (rd bs s')] [] 2 rfl
                have c4 := wDone_ok bs s' h4 h40 [.cells (u8s zs ++ List.replicate k .top), .cells (rd bs s'), .cells (rd bs s')] [] 1 rfl
                have c5 := doneR_ok bs s' h4 h40 [.cells (u8s zs ++ List.replicate k .top), .cells (rd bs s'), .cells (rd bs s')] [] 2 rfl
                refine aw_then fun K3 hK3 => ?_
                refine aw_reg fun K hK => ?_; simp (maxSteps := 200000) (disch := omega) [-List.getD_eq_getElem?_getD, bi, hi]; refine hK _ ?_; clear hK K
                refine aw_if rfl (fun h => ?_) (fun h => absurd h (by simp))
                refine aw_skip ?_; simp (maxSteps := 200000) (disch := omega) [-List.getD_eq_getElem?_getD]
                refine hK3 _ ?_; clear hK3
                refine aw_then fun K4 hK4 => ?_
                refine aw_block ?_
                refine aw_reg fun K hK => ?_; simp (maxSteps := 200000) (disch := omega) [-List.getD_eq_getElem?_getD, hcut, rdsAV_len]
                refine acall_is (c1) ?_; simp (maxSteps := 200000) (disch := omega) [-List.getD_eq_getElem?_getD]
                refine acall_is (c2) ?_; simp (maxSteps := 200000) (disch := omega) [-List.getD_eq_getElem?_getD]
                refine acall_is (c3) ?_; simp (maxSteps := 200000) (disch := omega) [-List.getD_eq_getElem?_getD]
                refine acall_is (c4) ?_; simp (maxSteps := 200000) (disch := omega) [-List.getD_eq_getElem?_getD]
                refine acall_is (c5) ?_; simp (maxSteps := 200000) (disch := omega) [-List.getD_eq_getElem?_getD]
                refine hK _ ?_; clear hK K
                refine aw_if rfl (fun h => absurd h (by simp)) (fun h => ?_)
                refine aw_skip ?_; simp (maxSteps := 200000) (disch := omega) [-List.getD_eq_getElem?_getD]
                refine hK4 _ ?_; clear hK4
                refine aw_reg0 fun K hK => ?_; simp (maxSteps := 200000) (disch := omega) [-List.getD_eq_getElem?_getD]
                refine hK _ ?_; clear hK K
                refine ⟨(i + 1, s'), ⟨by show i + 1 ≤ _; omega, h4⟩, by show l.length - (i + 1) < l.length - i; omega, ?_⟩
                refine weak_to [] [] ?_ ?_ ?_ ?_ (hok _) ?_
                all_goals simp
              · have bi : decide ((i : Int) < l.length) = false := by simp; omega
                refine aw_then fun K3 hK3 => ?_
                refine aw_reg fun K hK => ?_; simp (maxSteps := 200000) (disch := omega) [-List.getD_eq_getElem?_getD, bi, hi]; refine hK _ ?_; clear hK K
                refine aw_if rfl (fun h => absurd h (by simp)) (fun h => ?_)
                refine aw_exit ?_; simp (maxSteps := 200000) (disch := omega) [-List.getD_eq_getElem?_getD]
                refine hK2 _ ?_; clear hK2
                refine aw_reg fun K hK => ?_; simp (maxSteps := 200000) (disch := omega) [-List.getD_eq_getElem?_getD]; refine hK _ ?_; clear hK K
                refine aw_ret ?_; simp (maxSteps := 200000) (disch := omega) [-List.getD_eq_getElem?_getD]
end Go.Proofs.Ytgnhfcncbkikgaa
