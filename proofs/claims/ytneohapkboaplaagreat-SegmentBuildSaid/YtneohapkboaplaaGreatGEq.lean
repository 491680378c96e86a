/- The reference's Equal of a segment and itself, and the law's equal (layer 39).
  Conditions: sizes, as the theorem says. -/
import Derived.Test.YtneohapkboaplaaGreatGThr
import Derived.Test.YtneohapkboaplaaGreatAmC
set_option linter.all false
set_option maxRecDepth 100000
namespace Go.Proofs.YtneohapkboaplaaGreat
open Go Go.Am Sug Seg Post
set_option maxHeartbeats 8000000 in
theorem refEqual_ok (s : Sg) (hs : SzS s) (H : List Blk) (T : Toks) : ACall Tryz.prog 38 [sgAV s, sgAV s] H T (Is (.bool true) H T) := by
 refine ACall.drop' ?_ (by simp)
 have hml : (400 : Nat) ≤ maxLen := by decide
 have hd := hs.d
 have htl := hs.t
 have hw := hs.w
 have hcl := hs.c
 have hx := hs.x
 obtain ⟨docs, tms, cols⟩ := s
 simp only at hd htl hw hcl hx
 have htl' : tms.length ≤ 9223372036854775807 := by omega
 have hcl' : cols.length ≤ 9223372036854775807 := by omega
 have cd := fun H T => sameInts_ok docs docs (by omega) (by omega) H T .none .none
 rw [beq_self_eq_true] at cd
 refine acall_enter 10 [] Tryz.ntmps38 Tryz.func38 rfl (fun _ _ => Tryz.call38 _ _) (by simp) (fun HO => ?_)
 refine aw_reg fun K hK => ?_; simp (disch := omega) [-List.getD_eq_getElem?_getD]; refine hK _ ?_; clear hK K
 have HO1 : HOk (H ++ [.cells (sgC ⟨docs, tms, cols⟩), .cells (sgC ⟨docs, tms, cols⟩)]) T := by
  have := (HO.snoc (vs := sgC ⟨docs, tms, cols⟩) (by simp)).snoc (vs := sgC ⟨docs, tms, cols⟩) (by simp)
  simpa using this
 refine aw_then fun K1 hK1 => ?_
 refine aw_reg fun K hK => ?_; simp (disch := omega) [-List.getD_eq_getElem?_getD]
 refine acall_is (cd _ _) ?_; simp (disch := omega) [-List.getD_eq_getElem?_getD]
 refine hK _ ?_; clear hK K
 refine aw_iff rfl ?_
 refine aw_skip ?_
 refine hK1 _ ?_; clear hK1
 refine aw_then fun K1 hK1 => ?_
 refine aw_reg fun K hK => ?_; simp (disch := omega) [-List.getD_eq_getElem?_getD]; refine hK _ ?_; clear hK K
 refine aw_block ?_
 refine aw_loop (X := Nat) (fun i => ⟨[(2, .ptr H.length 0), (3, .ptr (H.length + 1) 0), (5, .int .i64 (i : Nat))], H ++ [.cells (sgC ⟨docs, tms, cols⟩), .cells (sgC ⟨docs, tms, cols⟩)], T⟩)
  (fun i => i ≤ tms.length) (fun i => tms.length - i) 0 ?_ ?_ ?_
 ·exact Nat.zero_le _
 ·refine weak_to [] [] ?_ ?_ ?_ ?_ HO1 ?_
  all_goals simp
 ·intro i g1
  refine aw_then fun K2 hK2 => ?_
  refine aw_reg fun K hK => ?_; simp (disch := omega) [-List.getD_eq_getElem?_getD]; refine hK _ ?_; clear hK K
  refine aw_if rfl (fun hk => ?_) (fun hk => ?_)
  ·simp [-List.getD_eq_getElem?_getD] at hk
   obtain ⟨a1, a2, a3⟩ := tmAV_at tms i hk
   obtain ⟨_, q2, q3⟩ := hw _ (getD_mem tms i t0 hk)
   have c := fun H => sameP_ok (tms.getD i t0).l (tms.getD i t0).l (by omega) (by omega) (fun p hp => Nat.le_trans (q3 p hp) hml) (fun p hp => Nat.le_trans (q3 p hp) hml) H T .none .none
   simp only [decide_true] at c
   generalize tms.getD i t0 = t at *
   obtain ⟨f, w, l⟩ := t
   simp only at a1 a2 a3 c
   refine aw_skip ?_
   refine hK2 _ ?_; clear hK2
   refine aw_then fun K3 hK3 => ?_
   refine aw_block ?_
   refine aw_draw [] [] [] drawMixed (by kernel_rfl) (by kernel_rfl) fun K hK => ?_; simp (disch := omega) [-List.getD_eq_getElem?_getD, a1, a2, a3, tmAV_len, hk]
   refine dcall_is (c _) rfl ?_; simp (disch := omega) [-List.getD_eq_getElem?_getD]
   refine hK _ ?_; clear hK K
   refine aw_iff rfl ?_
   refine aw_skip ?_
   refine hK3 _ ?_; clear hK3
   refine aw_reg0 fun K hK => ?_; simp (disch := omega) [-List.getD_eq_getElem?_getD]
   refine hK _ ?_; clear hK K
   refine ⟨i + 1, by show i + 1 ≤ _; omega, by show tms.length - (i + 1) < tms.length - i; omega, ?_⟩
   refine weak_to [] [] ?_ ?_ ?_ ?_ HO1 ?_
   all_goals simp
  ·simp [-List.getD_eq_getElem?_getD] at hk
   refine aw_exit ?_; simp (disch := omega) [-List.getD_eq_getElem?_getD]
   refine hK1 _ ?_; clear hK1
   refine aw_then fun K1 hK1 => ?_
   refine aw_reg fun K hK => ?_; simp (disch := omega) [-List.getD_eq_getElem?_getD]; refine hK _ ?_; clear hK K
   refine aw_block ?_
   refine aw_loop (X := Nat) (fun i => ⟨[(2, .ptr H.length 0), (3, .ptr (H.length + 1) 0), (6, .int .i64 (i : Nat))], H ++ [.cells (sgC ⟨docs, tms, cols⟩), .cells (sgC ⟨docs, tms, cols⟩)], T⟩)
    (fun i => i ≤ cols.length) (fun i => cols.length - i) 0 ?_ ?_ ?_
   ·exact Nat.zero_le _
   ·refine weak_to [] [] ?_ ?_ ?_ ?_ HO1 ?_
    all_goals simp
   ·intro j j1
    refine aw_then fun K2 hK2 => ?_
    refine aw_reg fun K hK => ?_; simp (disch := omega) [-List.getD_eq_getElem?_getD]; refine hK _ ?_; clear hK K
    refine aw_if rfl (fun hk2 => ?_) (fun hk2 => ?_)
    ·simp [-List.getD_eq_getElem?_getD] at hk2
     have hcut := clAV_cut cols j hk2
     have hxl := hx _ (getD_mem cols j c0 hk2)
     generalize cols.getD j c0 = c at *
     obtain ⟨f, x⟩ := c
     simp only at hcut hxl
     have hxl' : x.length ≤ 9223372036854775807 := by omega
     refine aw_skip ?_
     refine hK2 _ ?_; clear hK2
     refine aw_then fun K3 hK3 => ?_
     refine aw_block ?_
     refine aw_draw2 10 11 [10, 11, 12, 13] [0, 0, 0, 0, 0, 0, 0, 0, 0, 0, 0, 1, 2, 3] [[0, 1, 2, 3, 4, 5, 6, 7, 8, 9], [0, 1, 2, 3, 4, 5, 6, 7, 8, 9], [5, 6, 7, 8, 9], []] [10, 11, 12, 13] [0, 0, 0, 0, 0, 0, 0, 0, 0, 0, 0, 1, 2, 3] [[0, 1, 2, 3, 4, 5, 6, 7, 8, 9], [0, 1, 2, 3, 4, 5, 6, 7, 8, 9], [5, 6, 7, 8, 9], []] drawMixed (by kernel_rfl) (by kernel_rfl) (by kernel_rfl) (by kernel_rfl) (by kernel_rfl) fun K hK => ?_
     have key : ∀ (e : Env) (pa pb : Nat), (H ++ [.cells (sgC ⟨docs, tms, cols⟩), .cells (sgC ⟨docs, tms, cols⟩), .cells (clC ⟨f, x⟩), .cells (clC ⟨f, x⟩)])[pa]? = some (.cells (clC ⟨f, x⟩)) → (H ++ [.cells (sgC ⟨docs, tms, cols⟩), .cells (sgC ⟨docs, tms, cols⟩), .cells (clC ⟨f, x⟩), .cells (clC ⟨f, x⟩)])[pb]? = some (.cells (clC ⟨f, x⟩)) →
       envLe (H.length + 4) T.length e [(2, .ptr H.length 0), (3, .ptr (H.length + 1) 0), (6, .int .i64 (j : Nat)), (7, .ptr pa 0), (8, .ptr pb 0)] → K ⟨e, H ++ [.cells (sgC ⟨docs, tms, cols⟩), .cells (sgC ⟨docs, tms, cols⟩), .cells (clC ⟨f, x⟩), .cells (clC ⟨f, x⟩)], T⟩ := by
      intro e pa pb ga gb he
      have HO2 : HOk (H ++ [.cells (sgC ⟨docs, tms, cols⟩), .cells (sgC ⟨docs, tms, cols⟩), .cells (clC ⟨f, x⟩), .cells (clC ⟨f, x⟩)]) T := by
       have := (HO1.snoc (vs := clC ⟨f, x⟩) (by simp)).snoc (vs := clC ⟨f, x⟩) (by simp)
       simpa using this
      have hlen : (H ++ [Blk.cells (sgC ⟨docs, tms, cols⟩), .cells (sgC ⟨docs, tms, cols⟩), .cells (clC ⟨f, x⟩), .cells (clC ⟨f, x⟩)]).length = H.length + 4 := by simp
      have hpre : H ++ [Blk.cells (sgC ⟨docs, tms, cols⟩), .cells (sgC ⟨docs, tms, cols⟩), .cells (clC ⟨f, x⟩), .cells (clC ⟨f, x⟩)] = (H ++ [Blk.cells (sgC ⟨docs, tms, cols⟩), .cells (sgC ⟨docs, tms, cols⟩)]) ++ [.cells (clC ⟨f, x⟩), .cells (clC ⟨f, x⟩)] := by simp
      generalize H ++ [Blk.cells (sgC ⟨docs, tms, cols⟩), .cells (sgC ⟨docs, tms, cols⟩), .cells (clC ⟨f, x⟩), .cells (clC ⟨f, x⟩)] = G at *
      have ea := at_of ga
      have eb := at_of gb
      have la := (List.getElem?_eq_some_iff.1 ga).1
      have lb := (List.getElem?_eq_some_iff.1 gb).1
      refine hK _ (aw_weak ⟨[(2, .ptr H.length 0), (3, .ptr (H.length + 1) 0), (6, .int .i64 (j : Nat)), (7, .ptr pa 0), (8, .ptr pb 0)], G, T⟩ (weak_to [] [] (by simp) (by simp) (by show H.length ≤ G.length; omega) (by simp) HO2 (by rw [hlen]; exact he)) ?_)
      clear hK he
      refine aw_then fun K4 hK4 => ?_
      refine aw_reg fun K hK => ?_; simp (disch := omega) [-List.getD_eq_getElem?_getD, ea, eb, la, lb]; refine hK _ ?_; clear hK K
      refine aw_iff rfl ?_
      refine aw_skip ?_
      refine hK4 _ ?_; clear hK4
      refine aw_reg fun K hK => ?_; simp (disch := omega) [-List.getD_eq_getElem?_getD]; refine hK _ ?_; clear hK K
      refine aw_block ?_
      refine aw_loop (X := Nat) (fun m => ⟨[(2, .ptr H.length 0), (3, .ptr (H.length + 1) 0), (6, .int .i64 (j : Nat)), (7, .ptr pa 0), (8, .ptr pb 0), (9, .int .i64 (m : Nat))], G, T⟩)
       (fun m => m ≤ x.length) (fun m => x.length - m) 0 ?_ ?_ ?_
      ·exact Nat.zero_le _
      ·refine weak_to [] [] (by simp) (by simp) (by show H.length ≤ G.length; omega) (by simp) HO2 ?_
       simp [la, lb]; omega
      ·intro m m1
       refine aw_then fun K5 hK5 => ?_
       refine aw_reg fun K hK => ?_; simp (disch := omega) [-List.getD_eq_getElem?_getD, ea, la]; refine hK _ ?_; clear hK K
       refine aw_if rfl (fun hk3 => ?_) (fun hk3 => ?_)
       ·simp [-List.getD_eq_getElem?_getD] at hk3
        have hcn := nmAV_cut x m hk3
        generalize x.getD m n0 = y at *
        obtain ⟨y1, y2⟩ := y
        simp only at hcn
        refine aw_skip ?_
        refine hK5 _ ?_; clear hK5
        refine aw_then fun K6 hK6 => ?_
        refine aw_block ?_
        refine aw_draw [] [] [] drawMixed (by kernel_rfl) (by kernel_rfl) fun K hK => ?_; simp (disch := omega) [-List.getD_eq_getElem?_getD, ea, eb, la, lb, hcn, nmAV_len, hk3]
        refine hK _ ?_; clear hK K
        refine aw_iff rfl ?_
        refine aw_skip ?_
        refine hK6 _ ?_; clear hK6
        refine aw_reg0 fun K hK => ?_; simp (disch := omega) [-List.getD_eq_getElem?_getD]
        refine hK _ ?_; clear hK K
        refine ⟨m + 1, by show m + 1 ≤ _; omega, by show x.length - (m + 1) < x.length - m; omega, ?_⟩
        refine weak_to [] [] (by simp) (by simp) (by show H.length ≤ G.length; omega) (by simp) HO2 ?_
        simp [la, lb]; omega
       ·simp [-List.getD_eq_getElem?_getD] at hk3
        refine aw_exit ?_; simp (disch := omega) [-List.getD_eq_getElem?_getD]
        refine hK3 _ (aw_weak ⟨[(2, .ptr H.length 0), (3, .ptr (H.length + 1) 0), (6, .int .i64 (j : Nat))], H ++ [.cells (sgC ⟨docs, tms, cols⟩), .cells (sgC ⟨docs, tms, cols⟩)], T⟩ (weak_to [.cells (clC ⟨f, x⟩), .cells (clC ⟨f, x⟩)] [] hpre (by simp) (by simp) (by simp) HO1 (by simp)) ?_)
        refine aw_reg0 fun K hK => ?_; simp (disch := omega) [-List.getD_eq_getElem?_getD]
        refine hK _ ?_; clear hK K
        refine ⟨j + 1, by show j + 1 ≤ _; omega, by show cols.length - (j + 1) < cols.length - j; omega, ?_⟩
        refine weak_to [] [] ?_ ?_ ?_ ?_ HO1 ?_
        all_goals simp
     clear hK
     refine ⟨?_, ?_⟩
     ·simp (disch := omega) [-List.getD_eq_getElem?_getD, addE, hcut, clAV_len, hk2]
      refine key _ (H.length + 2) (H.length + 3) (by simp) (by simp) ?_
      simp
     ·simp (disch := omega) [-List.getD_eq_getElem?_getD, addE, swapE, relO, sw, hcut, clAV_len, hk2]
      refine key _ (H.length + 3) (H.length + 2) (by simp) (by simp) ?_
      simp
    ·simp [-List.getD_eq_getElem?_getD] at hk2
     refine aw_exit ?_; simp (disch := omega) [-List.getD_eq_getElem?_getD]
     refine hK1 _ ?_; clear hK1
     refine aw_reg fun K hK => ?_; simp (disch := omega) [-List.getD_eq_getElem?_getD]; refine hK _ ?_; clear hK K
     refine aw_ret ?_; simp (disch := omega) [-List.getD_eq_getElem?_getD]
theorem equal_ok (s : Sg) (hs : SzS s) (H : List Blk) (T : Toks) : ACall Tryz.prog 15 [sgAV s, sgAV s] H T (Is (.bool true) H T) := by
 refine ACall.drop' ?_ (by simp)
 refine acall_enter 5 [] Tryz.ntmps15 Tryz.func15 rfl (fun _ _ => Tryz.call15 _ _) (by simp) (fun HO => ?_)
 refine aw_reg fun K hK => ?_; simp (disch := omega) [-List.getD_eq_getElem?_getD]; refine hK _ ?_; clear hK K
 refine aw_draw [] [] [] drawMixed (by kernel_rfl) (by kernel_rfl) fun K hK => ?_; simp (disch := omega) [-List.getD_eq_getElem?_getD]
 refine dcall_is (theirsS_ok s hs _ _) rfl ?_; simp (disch := omega) [-List.getD_eq_getElem?_getD]
 refine dcall_is (refEqual_ok s hs _ _) rfl ?_; simp (disch := omega) [-List.getD_eq_getElem?_getD]
 refine hK _ ?_; clear hK K
 refine aw_ret ?_; simp (disch := omega) [-List.getD_eq_getElem?_getD]
end Go.Proofs.YtneohapkboaplaaGreat
