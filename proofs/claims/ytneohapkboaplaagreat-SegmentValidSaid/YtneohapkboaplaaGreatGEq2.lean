/- The reference's Equal (layer 39).
  Conditions: sizes, as the theorem says. -/
import Derived.Test.YtneohapkboaplaaGreatGQa
import Derived.Test.YtneohapkboaplaaGreatGLA
import Derived.Test.YtneohapkboaplaaGreatAmC
set_option linter.all false
set_option maxRecDepth 100000
namespace Go.Proofs.YtneohapkboaplaaGreat
open Go Go.Am Sug Seg Post
abbrev twoS (a b:Sg):List Blk:=[.cells (sgC a),.cells (sgC b)]
attribute [-simp] List.getD_eq_getElem?_getD in
set_option maxHeartbeats 8000000 in
theorem refEqualG_ok (a b : Sg) (ha : SzS a) (hb : SzS b) (H : List Blk) (T : Toks) : ACall Tryz.prog 38 [sgAV a, sgAV b] H T (Is (.bool (eqB a b)) H T) := by
 refine ACall.drop' ?_ (by simp)
 have hml : (400 : Nat) ≤ maxLen := by decide
 obtain ⟨ad, ats, ac⟩ := a
 obtain ⟨bd, bts, bc⟩ := b
 obtain ⟨a1, a2, a3, a4, a5⟩ := ha
 obtain ⟨b1, b2, b3, b4, b5⟩ := hb
 simp only at a1 a2 a3 a4 a5 b1 b2 b3 b4 b5
 have hatl : ats.length ≤ 9223372036854775807 := by omega
 have hacl : ac.length ≤ 9223372036854775807 := by omega
 have cd := fun H T => sameInts_ok ad bd (by omega) (by omega) H T .none .none
 refine acall_enter 10 [] Tryz.ntmps38 Tryz.func38 rfl (fun _ _ => Tryz.call38 _ _) (by simp) (fun HO => ?_)
 refine aw_reg fun K hK => ?_; simp (disch := omega) ; refine hK _ ?_; clear hK K
 have HO1 : HOk (H ++ twoS ⟨ad, ats, ac⟩ ⟨bd, bts, bc⟩) T := by
  have := (HO.snoc (vs := sgC ⟨ad, ats, ac⟩) (by simp)).snoc (vs := sgC ⟨bd, bts, bc⟩) (by simp)
  simpa using this
 refine aw_then fun K1 hK1 => ?_
 by_cases hd : ad = bd
 rotate_left
 ·have bb : (ad == bd) = false := by simpa using hd
  rw [bb] at cd
  refine aw_reg fun K hK => ?_; simp (disch := omega) 
  refine acall_is (cd _ _) ?_; simp (disch := omega) 
  refine hK _ ?_; clear hK K
  refine aw_ift rfl ?_
  refine aw_reg fun K hK => ?_; simp (disch := omega) ; refine hK _ ?_; clear hK K
  refine aw_ret ?_; simp (disch := omega) 
  rw [eqB_false fun h => hd (congrArg Sg.docs h)]
 have bb : (ad == bd) = true := by simpa using hd
 rw [bb] at cd
 by_cases ht : ats.length = bts.length
 rotate_left
 ·have bt : ((ats.length : Int) != (bts.length : Int)) = true := by simpa using fun h => ht (by omega)
  refine aw_reg fun K hK => ?_; simp (disch := omega) [bt]
  refine acall_is (cd _ _) ?_; simp (disch := omega) [bt]
  refine hK _ ?_; clear hK K
  refine aw_ift rfl ?_
  refine aw_reg fun K hK => ?_; simp (disch := omega) ; refine hK _ ?_; clear hK K
  refine aw_ret ?_; simp (disch := omega) 
  rw [eqB_false fun h => ht (congrArg (fun s => s.tms.length) h)]
 have bt : ((ats.length : Int) != (bts.length : Int)) = false := by simp [ht]
 by_cases hc : ac.length = bc.length
 rotate_left
 ·have bc' : ((ac.length : Int) != (bc.length : Int)) = true := by simpa using fun h => hc (by omega)
  refine aw_reg fun K hK => ?_; simp (disch := omega) [bt, bc']
  refine acall_is (cd _ _) ?_; simp (disch := omega) [bt, bc']
  refine hK _ ?_; clear hK K
  refine aw_ift rfl ?_
  refine aw_reg fun K hK => ?_; simp (disch := omega) ; refine hK _ ?_; clear hK K
  refine aw_ret ?_; simp (disch := omega) 
  rw [eqB_false fun h => hc (congrArg (fun s => s.cols.length) h)]
 have bc' : ((ac.length : Int) != (bc.length : Int)) = false := by simp [hc]
 refine aw_reg fun K hK => ?_; simp (disch := omega) [bt, bc']
 refine acall_is (cd _ _) ?_; simp (disch := omega) [bt, bc']
 refine hK _ ?_; clear hK K
 refine aw_iff rfl ?_
 refine aw_skip ?_
 refine hK1 _ ?_; clear hK1
 refine aw_then fun K1 hK1 => ?_
 refine aw_reg fun K hK => ?_; simp (disch := omega) ; refine hK _ ?_; clear hK K
 refine aw_block ?_
 refine aw_loop (X := Nat) (fun i => ⟨[(2, .ptr H.length 0), (3, .ptr (H.length + 1) 0), (5, .int .i64 (i : Nat))], H ++ twoS ⟨ad, ats, ac⟩ ⟨bd, bts, bc⟩, T⟩)
  (fun i => i ≤ ats.length ∧ ∀ j, j < i → ats.getD j t0 = bts.getD j t0) (fun i => ats.length - i) 0 ?_ ?_ ?_
 ·exact ⟨Nat.zero_le _, fun j hj => absurd hj (Nat.not_lt_zero _)⟩
 ·refine weak_to [] [] ?_ ?_ ?_ ?_ HO1 ?_
  all_goals simp
 ·rintro i ⟨g1, g2⟩
  refine aw_then fun K2 hK2 => ?_
  refine aw_reg fun K hK => ?_; simp (disch := omega) ; refine hK _ ?_; clear hK K
  refine aw_if rfl (fun hk => ?_) (fun hk => ?_)
  ·simp  at hk
   have hkb : i < bts.length := by omega
   obtain ⟨x1, x2, x3⟩ := tmAV_at ats i hk
   obtain ⟨y1, y2, y3⟩ := tmAV_at bts i hkb
   obtain ⟨_, q2, q3⟩ := a3 _ (getD_mem ats i t0 hk)
   obtain ⟨_, r2, r3⟩ := b3 _ (getD_mem bts i t0 hkb)
   have c := fun H => sameP_ok (ats.getD i t0).l (bts.getD i t0).l (by omega) (by omega) (fun p hp => Nat.le_trans (q3 p hp) hml) (fun p hp => Nat.le_trans (r3 p hp) hml) H T .none .none
   have hne : ats.getD i t0 ≠ bts.getD i t0 → eqB (⟨ad, ats, ac⟩ : Sg) ⟨bd, bts, bc⟩ = false := fun hx => eqB_false fun h => hx (by have h5 : ats = bts := congrArg Sg.tms h; rw [h5])
   have step : ats.getD i t0 = bts.getD i t0 → ∀ j, j < i + 1 → ats.getD j t0 = bts.getD j t0 := fun hx j hj => by
    rcases Nat.lt_or_ge j i with h | h
    ·exact g2 j h
    ·have : j = i := by omega
     subst this; exact hx
   generalize ats.getD i t0 = x at *
   generalize bts.getD i t0 = y at *
   obtain ⟨xf, xw, xl⟩ := x
   obtain ⟨yf, yw, yl⟩ := y
   simp only at x1 x2 x3 y1 y2 y3 c
   refine aw_skip ?_
   refine hK2 _ ?_; clear hK2
   refine aw_then fun K3 hK3 => ?_
   refine aw_block ?_
   by_cases h1 : xf = yf
   rotate_left
   ·have e1 : (xf != yf) = true := by simpa using h1
    refine aw_draw [] [] [] drawMixed (by kernel_rfl) (by kernel_rfl) fun K hK => ?_; simp (disch := omega) [x1, x2, x3, y1, y2, y3, tmAV_len, hk, hkb, e1]
    refine hK _ ?_; clear hK K
    refine aw_ift rfl ?_
    refine aw_reg fun K hK => ?_; simp (disch := omega) ; refine hK _ ?_; clear hK K
    refine aw_ret ?_; simp (disch := omega) 
    rw [hne (by simp [h1])]
   subst h1
   by_cases h2 : xw = yw
   rotate_left
   ·have e2 : (xw != yw) = true := by simpa using h2
    have e3 : (xw == yw) = false := by simpa using h2
    refine aw_draw [] [] [] drawMixed (by kernel_rfl) (by kernel_rfl) fun K hK => ?_; simp (disch := omega) [x1, x2, x3, y1, y2, y3, tmAV_len, hk, hkb, e2, e3, h2]
    refine hK _ ?_; clear hK K
    refine aw_ift rfl ?_
    refine aw_reg fun K hK => ?_; simp (disch := omega) ; refine hK _ ?_; clear hK K
    refine aw_ret ?_; simp (disch := omega) 
    rw [hne (by simp [h2])]
   subst h2
   by_cases h3 : xl = yl
   rotate_left
   ·rw [decide_eq_false h3] at c
    refine aw_draw [] [] [] drawMixed (by kernel_rfl) (by kernel_rfl) fun K hK => ?_; simp (disch := omega) [x1, x2, x3, y1, y2, y3, tmAV_len, hk, hkb]
    refine dcall_is (c _) rfl ?_; simp (disch := omega) 
    refine hK _ ?_; clear hK K
    refine aw_ift rfl ?_
    refine aw_reg fun K hK => ?_; simp (disch := omega) ; refine hK _ ?_; clear hK K
    refine aw_ret ?_; simp (disch := omega) 
    rw [hne (by simp [h3])]
   subst h3
   rw [decide_eq_true rfl] at c
   refine aw_draw [] [] [] drawMixed (by kernel_rfl) (by kernel_rfl) fun K hK => ?_; simp (disch := omega) [x1, x2, x3, y1, y2, y3, tmAV_len, hk, hkb]
   refine dcall_is (c _) rfl ?_; simp (disch := omega) 
   refine hK _ ?_; clear hK K
   refine aw_iff rfl ?_
   refine aw_skip ?_
   refine hK3 _ ?_; clear hK3
   refine aw_reg0 fun K hK => ?_; simp (disch := omega) 
   refine hK _ ?_; clear hK K
   refine ⟨i + 1, ⟨by show i + 1 ≤ _; omega, step rfl⟩, by show ats.length - (i + 1) < ats.length - i; omega, ?_⟩
   refine weak_to [] [] ?_ ?_ ?_ ?_ HO1 ?_
   all_goals simp
  ·simp  at hk
   have hie : i = ats.length := by omega
   subst hie
   have hts : ats = bts := list_ext t0 ht g2
   refine aw_exit ?_; simp (disch := omega) 
   refine hK1 _ ?_; clear hK1
   refine aw_then fun K1 hK1 => ?_
   refine aw_reg fun K hK => ?_; simp (disch := omega) ; refine hK _ ?_; clear hK K
   refine aw_block ?_
   refine aw_loop (X := Nat) (fun i => ⟨[(2, .ptr H.length 0), (3, .ptr (H.length + 1) 0), (6, .int .i64 (i : Nat))], H ++ twoS ⟨ad, ats, ac⟩ ⟨bd, bts, bc⟩, T⟩)
    (fun i => i ≤ ac.length ∧ ∀ j, j < i → ac.getD j c0 = bc.getD j c0) (fun i => ac.length - i) 0 ?_ ?_ ?_
   ·exact ⟨Nat.zero_le _, fun j hj => absurd hj (Nat.not_lt_zero _)⟩
   ·refine weak_to [] [] ?_ ?_ ?_ ?_ HO1 ?_
    all_goals simp
   ·rintro j ⟨j1, j2⟩
    refine aw_then fun K2 hK2 => ?_
    refine aw_reg fun K hK => ?_; simp (disch := omega) ; refine hK _ ?_; clear hK K
    refine aw_if rfl (fun hk2 => ?_) (fun hk2 => ?_)
    ·simp  at hk2
     have hkb2 : j < bc.length := by omega
     have hcut := clAV_cut ac j hk2
     have hcut2 := clAV_cut bc j hkb2
     have hxl := a5 _ (getD_mem ac j c0 hk2)
     have hne : ac.getD j c0 ≠ bc.getD j c0 → eqB (⟨ad, ats, ac⟩ : Sg) ⟨bd, bts, bc⟩ = false := fun hx => eqB_false fun h => hx (by have h5 : ac = bc := congrArg Sg.cols h; rw [h5])
     have step : ac.getD j c0 = bc.getD j c0 → ∀ m, m < j + 1 → ac.getD m c0 = bc.getD m c0 := fun hx m hm => by
      rcases Nat.lt_or_ge m j with h | h
      ·exact j2 m h
      ·have : m = j := by omega
       subst this; exact hx
     generalize ac.getD j c0 = c at *
     generalize bc.getD j c0 = d at *
     obtain ⟨f, x⟩ := c
     obtain ⟨f2, x'⟩ := d
     simp only at hcut hcut2 hxl
     have hxl' : x.length ≤ 9223372036854775807 := by omega
     refine aw_skip ?_
     refine hK2 _ ?_; clear hK2
     refine aw_then fun K3 hK3 => ?_
     refine aw_block ?_
     refine aw_draw2 10 11 [10, 11, 12, 13] [0, 0, 0, 0, 0, 0, 0, 0, 0, 0, 0, 1, 2, 3] [[0, 1, 2, 3, 4, 5, 6, 7, 8, 9], [0, 1, 2, 3, 4, 5, 6, 7, 8, 9], [5, 6, 7, 8, 9], []] [10, 11, 12, 13] [0, 0, 0, 0, 0, 0, 0, 0, 0, 0, 0, 1, 2, 3] [[0, 1, 2, 3, 4, 5, 6, 7, 8, 9], [0, 1, 2, 3, 4, 5, 6, 7, 8, 9], [5, 6, 7, 8, 9], []] drawMixed (by kernel_rfl) (by kernel_rfl) (by kernel_rfl) (by kernel_rfl) (by kernel_rfl) fun K hK => ?_
     have key : ∀ (e : Env) (pa pb : Nat) (G2 : List Blk), G2.length = 2 → (∃ u v, G2 = [.cells u, .cells v] ∧ BelowAll 0 0 u ∧ BelowAll 0 0 v) → (H ++ twoS ⟨ad, ats, ac⟩ ⟨bd, bts, bc⟩ ++ G2)[pa]? = some (.cells (clC ⟨f, x⟩)) → (H ++ twoS ⟨ad, ats, ac⟩ ⟨bd, bts, bc⟩ ++ G2)[pb]? = some (.cells (clC ⟨f2, x'⟩)) →
       envLe (H.length + 4) T.length e [(2, .ptr H.length 0), (3, .ptr (H.length + 1) 0), (6, .int .i64 (j : Nat)), (7, .ptr pa 0), (8, .ptr pb 0)] → K ⟨e, H ++ twoS ⟨ad, ats, ac⟩ ⟨bd, bts, bc⟩ ++ G2, T⟩ := by
      intro e pa pb G2 hG2 hG3 ga gb he
      have HO2 : HOk (H ++ twoS ⟨ad, ats, ac⟩ ⟨bd, bts, bc⟩ ++ G2) T := by
       obtain ⟨u, v, rfl, hu, hv⟩ := hG3
       have := (HO1.snoc (vs := u) (fun w hw => (hu w hw).more (Nat.zero_le _) (Nat.zero_le _))).snoc (vs := v) (fun w hw => (hv w hw).more (Nat.zero_le _) (Nat.zero_le _))
       simpa using this
      have hlen : (H ++ twoS ⟨ad, ats, ac⟩ ⟨bd, bts, bc⟩ ++ G2).length = H.length + 4 := by simp [hG2]
      have hpre : ∃ X, X = H ++ twoS ⟨ad, ats, ac⟩ ⟨bd, bts, bc⟩ ++ G2 := ⟨_, rfl⟩
      obtain ⟨G, hGe⟩ := hpre
      rw [← hGe] at HO2 hlen ga gb ⊢
      have ea := at_of ga
      have eb := at_of gb
      have la := (List.getElem?_eq_some_iff.1 ga).1
      have lb := (List.getElem?_eq_some_iff.1 gb).1
      refine hK _ (aw_weak ⟨[(2, .ptr H.length 0), (3, .ptr (H.length + 1) 0), (6, .int .i64 (j : Nat)), (7, .ptr pa 0), (8, .ptr pb 0)], G, T⟩ (weak_to [] [] (by simp) (by simp) (by show H.length ≤ G.length; omega) (by simp) HO2 (by rw [hlen]; exact he)) ?_)
      clear hK he
      refine aw_then fun K4 hK4 => ?_
      by_cases h1 : f = f2
      rotate_left
      ·have e1 : (f != f2) = true := by simpa using h1
       refine aw_reg fun K hK => ?_; simp (disch := omega) [ea, eb, la, lb, e1]; refine hK _ ?_; clear hK K
       refine aw_ift rfl ?_
       refine aw_reg fun K hK => ?_; simp (disch := omega) ; refine hK _ ?_; clear hK K
       refine aw_ret ?_; simp (disch := omega) 
       rw [hGe, hne (by simp [h1])]
       simp
      have e1 : (f != f2) = false := by simp [h1]
      by_cases h2 : x.length = x'.length
      rotate_left
      ·have e2 : ((x.length : Int) != (x'.length : Int)) = true := by simpa using fun h => h2 (by omega)
       refine aw_reg fun K hK => ?_; simp (disch := omega) [ea, eb, la, lb, e1, e2]; refine hK _ ?_; clear hK K
       refine aw_ift rfl ?_
       refine aw_reg fun K hK => ?_; simp (disch := omega) ; refine hK _ ?_; clear hK K
       refine aw_ret ?_; simp (disch := omega) 
       rw [hGe, hne (by
        intro h
        have : x = x' := congrArg Cl.x h
        exact h2 (by rw [this]))]
       simp
      have e2 : ((x.length : Int) != (x'.length : Int)) = false := by simp [h2]
      refine aw_reg fun K hK => ?_; simp (disch := omega) [ea, eb, la, lb, e1, e2]; refine hK _ ?_; clear hK K
      refine aw_iff rfl ?_
      refine aw_skip ?_
      refine hK4 _ ?_; clear hK4
      refine aw_reg fun K hK => ?_; simp (disch := omega) ; refine hK _ ?_; clear hK K
      refine aw_block ?_
      refine aw_loop (X := Nat) (fun m => ⟨[(2, .ptr H.length 0), (3, .ptr (H.length + 1) 0), (6, .int .i64 (j : Nat)), (7, .ptr pa 0), (8, .ptr pb 0), (9, .int .i64 (m : Nat))], G, T⟩)
       (fun m => m ≤ x.length ∧ ∀ n, n < m → x.getD n n0 = x'.getD n n0) (fun m => x.length - m) 0 ?_ ?_ ?_
      ·exact ⟨Nat.zero_le _, fun j hj => absurd hj (Nat.not_lt_zero _)⟩
      ·refine weak_to [] [] (by simp) (by simp) (by show H.length ≤ G.length; omega) (by simp) HO2 ?_
       simp [la, lb]; omega
      ·rintro m ⟨m1, m2⟩
       refine aw_then fun K5 hK5 => ?_
       refine aw_reg fun K hK => ?_; simp (disch := omega) [ea, la]; refine hK _ ?_; clear hK K
       refine aw_if rfl (fun hk3 => ?_) (fun hk3 => ?_)
       ·simp  at hk3
        have hk4 : m < x'.length := by omega
        have hcn := nmAV_cut x m hk3
        have hcn2 := nmAV_cut x' m hk4
        have hne2 : x.getD m n0 ≠ x'.getD m n0 → x ≠ x' := fun hx h => hx (by rw [h])
        have step2 : x.getD m n0 = x'.getD m n0 → ∀ n, n < m + 1 → x.getD n n0 = x'.getD n n0 := fun hx n hn => by
         rcases Nat.lt_or_ge n m with h | h
         ·exact m2 n h
         ·have : n = m := by omega
          subst this; exact hx
        generalize x.getD m n0 = y at *
        generalize x'.getD m n0 = y' at *
        refine aw_skip ?_
        refine hK5 _ ?_; clear hK5
        refine aw_then fun K6 hK6 => ?_
        refine aw_block ?_
        by_cases h3 : y = y'
        ·subst h3
         refine aw_draw [] [] [] drawMixed (by kernel_rfl) (by kernel_rfl) fun K hK => ?_; simp (disch := omega) [ea, eb, la, lb, hcn, hcn2, nmAV_len, hk3, hk4]
         refine hK _ ?_; clear hK K
         refine aw_iff rfl ?_
         refine aw_skip ?_
         refine hK6 _ ?_; clear hK6
         refine aw_reg0 fun K hK => ?_; simp (disch := omega) 
         refine hK _ ?_; clear hK K
         refine ⟨m + 1, ⟨by show m + 1 ≤ _; omega, step2 rfl⟩, by show x.length - (m + 1) < x.length - m; omega, ?_⟩
         refine weak_to [] [] (by simp) (by simp) (by show H.length ≤ G.length; omega) (by simp) HO2 ?_
         simp [la, lb]; omega
        ·have bx : (y.1 == y'.1 && y.2 == y'.2) = false := by
          obtain ⟨u1, u2⟩ := y
          obtain ⟨v1, v2⟩ := y'
          simpa using h3
         refine aw_draw [] [] [] drawMixed (by kernel_rfl) (by kernel_rfl) fun K hK => ?_; simp (disch := omega) [ea, eb, la, lb, hcn, hcn2, nmAV_len, hk3, hk4, bx]
         refine hK _ ?_; clear hK K
         refine aw_ift rfl ?_
         refine aw_reg fun K hK => ?_; simp (disch := omega) ; refine hK _ ?_; clear hK K
         refine aw_ret ?_; simp (disch := omega) 
         rw [hGe, hne (by
          intro h
          exact hne2 h3 (congrArg Cl.x h))]
         simp
       ·simp  at hk3
        have hme : m = x.length := by omega
        subst hme
        have hxx : x = x' := list_ext n0 h2 m2
        refine aw_exit ?_; simp (disch := omega) 
        refine hK3 _ (aw_weak ⟨[(2, .ptr H.length 0), (3, .ptr (H.length + 1) 0), (6, .int .i64 (j : Nat))], H ++ twoS ⟨ad, ats, ac⟩ ⟨bd, bts, bc⟩, T⟩ (weak_to G2 [] (by rw [hGe]) (by simp) (by simp) (by simp) HO1 (by simp)) ?_)
        refine aw_reg0 fun K hK => ?_; simp (disch := omega) 
        refine hK _ ?_; clear hK K
        refine ⟨j + 1, ⟨by show j + 1 ≤ _; omega, step (by rw [h1, hxx])⟩, by show ac.length - (j + 1) < ac.length - j; omega, ?_⟩
        refine weak_to [] [] ?_ ?_ ?_ ?_ HO1 ?_
        all_goals simp
     clear hK
     have kk : ∀ (e : Env) (pa pb : Nat) (u v : List AV), BelowAll 0 0 u → BelowAll 0 0 v → (H ++ twoS ⟨ad, ats, ac⟩ ⟨bd, bts, bc⟩ ++ [.cells u, .cells v])[pa]? = some (.cells (clC ⟨f, x⟩)) → (H ++ twoS ⟨ad, ats, ac⟩ ⟨bd, bts, bc⟩ ++ [.cells u, .cells v])[pb]? = some (.cells (clC ⟨f2, x'⟩)) →
       envLe (H.length + 4) T.length e [(2, .ptr H.length 0), (3, .ptr (H.length + 1) 0), (6, .int .i64 (j : Nat)), (7, .ptr pa 0), (8, .ptr pb 0)] → K ⟨e, H ++ [.cells (sgC ⟨ad, ats, ac⟩), .cells (sgC ⟨bd, bts, bc⟩), .cells u, .cells v], T⟩ := fun e pa pb u v hu hv ga gb he => by
      have := key e pa pb [.cells u, .cells v] rfl ⟨u, v, rfl, hu, hv⟩ ga gb he
      simpa using this
     clear key
     refine ⟨?_, ?_⟩
     ·simp (disch := omega) [addE, hcut, hcut2, clAV_len, hk2, hkb2]
      refine kk _ (H.length + 2) (H.length + 3) _ _ (by simp) (by simp) (by simp) (by simp) ?_
      simp
     ·simp (disch := omega) [addE, swapE, relO, sw, hcut, hcut2, clAV_len, hk2, hkb2]
      refine kk _ (H.length + 3) (H.length + 2) _ _ (by simp) (by simp) (by simp) (by simp) ?_
      simp
    ·simp  at hk2
     have hje : j = ac.length := by omega
     subst hje
     refine aw_exit ?_; simp (disch := omega) 
     refine hK1 _ ?_; clear hK1
     refine aw_reg fun K hK => ?_; simp (disch := omega) ; refine hK _ ?_; clear hK K
     refine aw_ret ?_; simp (disch := omega) 
     rw [eqB_true (by rw [hd, hts, list_ext c0 hc j2])]
end Go.Proofs.YtneohapkboaplaaGreat
