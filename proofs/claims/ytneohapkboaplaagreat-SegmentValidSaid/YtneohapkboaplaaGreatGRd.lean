/- The reference's words and Documents (layer 39).
  Conditions: the sizes of SzS. -/
import Derived.Test.YtneohapkboaplaaGreatGDf
import Derived.Test.YtneohapkboaplaaGreatPD
import Derived.Test.YtneohapkboaplaaGreatAmC
set_option linter.all false
set_option maxRecDepth 100000
namespace Seg
open Sug
def insW (k:Wd):List Wd→List Wd
 |[]=>[k]
 |x::r=>if x.2<k.2 then x::insW k r else k::x::r
def isortW (l:List Wd):List Wd:=l.foldl (fun a d=>insW d a) []
theorem insW_at (x:Wd):∀(d:List Wd)(n:Nat),n≤d.length→(∀j,j<n→(d.getD j w0).2<x.2)→(n<d.length→¬(d.getD n w0).2<x.2)→insW x d=d.take n++x::d.drop n
 |[],n,h,_,_=>by
  have:n=0:=by simpa using h
  subst this;rfl
 |y::r,0,_,_,h=>by
  have h1:¬y.2<x.2:=h (by simp)
  rw[insW,if_neg h1];rfl
 |y::r,n+1,h0,h1,h2=>by
  have hy:y.2<x.2:=h1 0 (by omega)
  rw[insW,if_pos hy,insW_at x r n (by simpa using h0) (fun j hj=>h1 (j+1) (by omega)) (fun hn=>h2 (by simpa using hn))]
  rfl
theorem isortW_snoc (l:List Wd)(x:Wd):isortW (l++[x])=insW x (isortW l):=by simp[isortW]
theorem insW_perm (k:Wd)(l:List Wd):(insW k l).Perm (k::l):=by
 induction l with
 |nil=>exact .refl _
 |cons x r ih=>
  unfold insW
  split
  ·exact(ih.cons x).trans (.swap _ _ _)
  ·exact .refl _
theorem insW_ord (k:Wd){l:List Wd}(h:l.Pairwise fun x y=>x.2≤y.2):(insW k l).Pairwise fun x y=>x.2≤y.2:=by
 induction l with
 |nil=>simp[insW]
 |cons x r ih=>
  have ⟨h1,h2⟩:=List.pairwise_cons.1 h
  unfold insW
  split
  ·rename_i hx
   refine List.pairwise_cons.2 ⟨fun y hy=>?_,ih h2⟩
   rcases List.mem_cons.1 ((insW_perm k r).mem_iff.1 hy) with rfl|hy
   ·omega
   ·exact h1 y hy
  ·rename_i hx
   refine List.pairwise_cons.2 ⟨fun y hy=>?_,h⟩
   rcases List.mem_cons.1 hy with rfl|hy
   ·omega
   ·have:=h1 y hy;omega
theorem isortW_spec (l:List Wd):(isortW l).Perm l∧(isortW l).Pairwise fun x y=>x.2≤y.2:=by
 have key:∀(l a:List Wd),(a.Pairwise fun x y=>x.2≤y.2)→(l.foldl (fun a d=>insW d a) a).Perm (l++a)∧(l.foldl (fun a d=>insW d a) a).Pairwise fun x y=>x.2≤y.2:=by
  intro l
  induction l with
  |nil=>intro a h;exact⟨.refl _,h⟩
  |cons d r ih=>
   intro a h
   obtain⟨h1,h2⟩:=ih (insW d a) (insW_ord d h)
   exact⟨h1.trans (((insW_perm d a).append_left r).trans List.perm_middle),h2⟩
 have:=key l [] .nil
 rw[List.append_nil] at this
 exact this
theorem sortW_spec (l:List Wd):(sortW l).Perm l∧(sortW l).Pairwise fun x y=>x.2≤y.2:=by
 refine⟨List.mergeSort_perm _ _,?_⟩
 have:=List.pairwise_mergeSort (le:=fun x y:Wd=>!(decide (y.2<x.2))) (fun a b c h1 h2=>by simp at *;omega) (fun a b=>by simp;omega) l
 exact this.imp fun h=>by simpa using h
theorem ordW_unique {l a b:List Wd}(hd:l.Pairwise fun x y=>x.2≠y.2)(ha:a.Perm l)(hb:b.Perm l)(oa:a.Pairwise fun x y=>x.2≤y.2)(ob:b.Pairwise fun x y=>x.2≤y.2):a=b:=by
 have sym:∀x y:Wd,x.2≠y.2→y.2≠x.2:=fun _ _ h e=>h e.symm
 have st:∀{c:List Wd},c.Perm l→(c.Pairwise fun x y=>x.2≤y.2)→c.Pairwise fun x y=>x.2<y.2:=fun hp ho=>(ho.and ((hp.pairwise_iff (fun {x y} h=>sym x y h)).2 hd)).imp fun⟨h1,h2⟩=>by omega
 refine List.Perm.eq_of_pairwise (le:=fun x y:Wd=>x.2<y.2) (fun x y _ _ h1 h2=>by omega) (st ha oa) (st hb ob) (ha.trans hb.symm)
theorem isortW_eq {l:List Wd}(hd:l.Pairwise fun x y=>x.2≠y.2):isortW l=sortW l:=
 ordW_unique hd (isortW_spec l).1 (sortW_spec l).1 (isortW_spec l).2 (sortW_spec l).2
end Seg
namespace Go.Proofs.YtneohapkboaplaaGreat
open Go Go.Am Sug Post Seg
def wdT (d f:Int)(t:Tm):List Wd:=if t.f=f then (posOf t.l d).map fun a=>(t.w,a) else []
set_option maxHeartbeats 8000000 in
theorem refWords_ok (s : Sg) (hs : SzS s) (d f : Int) (H : List Blk) (T : Toks) : ACall Tryz.prog 104 [sgAV s, .int .i64 d, .int .i64 f] H T (Is (.sl (isortW (s.tms.flatMap (wdT d f))).length (wdAV (isortW (s.tms.flatMap (wdT d f)))) .none) H T) := by
  refine ACall.drop' ?_ (by simp)
  obtain ⟨docs, ts, cols⟩ := s
  obtain ⟨sd, st, sw, sc, sx⟩ := hs
  simp only at sd st sw sc sx
  have htl : ts.length ≤ 9223372036854775807 := by omega
  have hbnd : ∀ i, i ≤ ts.length → ((ts.take i).flatMap (wdT d f)).length ≤ 400 * i := by
    intro i
    induction i with
    | zero => intro _; simp
    | succ i ih =>
      intro hi
      have h1 := ih (by omega)
      rw [take_getD ts i t0 (by omega), List.flatMap_append, List.length_append]
      have h2 : (wdT d f (ts.getD i t0)).length ≤ 400 := by
        unfold wdT
        split
        · rw [List.length_map]; exact posOf_len (fun p hp => (sw _ (getD_mem ts i t0 (by omega))).2.2 p hp) d
        · simp
      simp only [List.flatMap_cons, List.flatMap_nil, List.append_nil]
      omega
  refine acall_enter 12 [] Tryz.ntmps104 Tryz.func104 rfl (fun _ _ => Tryz.call104 _ _) (by simp) (fun HO => ?_)
  have HO1 : HOk (H ++ [.cells (sgC ⟨docs, ts, cols⟩)]) T := HO.snoc (by simp)
  simp only at HO1 ⊢
  refine aw_reg fun K hK => ?_; simp (maxSteps := 1000000) (disch := omega) [-List.getD_eq_getElem?_getD]; refine hK _ ?_; clear hK K
  refine aw_reg fun K hK => ?_; simp (maxSteps := 1000000) (disch := omega) [-List.getD_eq_getElem?_getD]; refine hK _ ?_; clear hK K
  refine aw_then fun K1 hK1 => ?_
  refine aw_reg fun K hK => ?_; simp (maxSteps := 1000000) (disch := omega) [-List.getD_eq_getElem?_getD]; refine hK _ ?_; clear hK K
  refine aw_block ?_
  refine aw_loop (X := Nat) (fun i => ⟨[(3, .ptr H.length 0), (1, .int .i64 d), (2, .int .i64 f), (7, .sl (isortW ((ts.take i).flatMap (wdT d f))).length (wdAV (isortW ((ts.take i).flatMap (wdT d f)))) .none), (8, .int .i64 (i : Nat))], H ++ [.cells (sgC ⟨docs, ts, cols⟩)], T⟩)
    (fun i => i ≤ ts.length) (fun i => ts.length - i) 0 ?_ ?_ ?_
  · exact Nat.zero_le _
  · refine weak_to [] [] ?_ ?_ ?_ ?_ HO1 ?_
    all_goals simp [isortW, wdAV_nil]
  · intro i h1
    refine aw_then fun K2 hK2 => ?_
    refine aw_reg fun K hK => ?_; simp (maxSteps := 1000000) (disch := omega) [-List.getD_eq_getElem?_getD]; refine hK _ ?_; clear hK K
    refine aw_if rfl (fun hk => ?_) (fun hk => ?_)
    · simp [-List.getD_eq_getElem?_getD] at hk
      obtain ⟨hat1, hat2, hat3⟩ := tmAV_at ts i hk
      have htm := getD_mem ts i t0 hk
      have hw := sw _ htm
      have hfl := flat_take ts (wdT d f) t0 i hk
      have hb1 := hbnd (i + 1) (by omega)
      rw [hfl] at hb1
      have cA := fun H T => atR_ok (ts.getD i t0).l d (by omega) H T .none
      have hwd : wdT d f (ts.getD i t0) = if (ts.getD i t0).f = f then (posOf (ts.getD i t0).l d).map (fun a => ((ts.getD i t0).w, a)) else [] := rfl
      generalize (ts.take i).flatMap (wdT d f) = pre at *
      generalize wdT d f (ts.getD i t0) = il at *
      generalize ts.getD i t0 = t at *
      refine aw_skip ?_; simp (maxSteps := 1000000) (disch := omega) [-List.getD_eq_getElem?_getD]
      refine hK2 _ ?_; clear hK2
      refine aw_then fun K3 hK3 => ?_
      refine aw_block ?_
      refine aw_then fun K4 hK4 => ?_
      by_cases hf : t.f = f
      rotate_left
      · have bd : (t.f != f) = true := by simpa using hf
        rw [if_neg hf] at hwd
        refine aw_reg fun K hK => ?_; simp (maxSteps := 1000000) (disch := omega) [-List.getD_eq_getElem?_getD, hat1, tmAV_len, hk, bd]; refine hK _ ?_; clear hK K
        refine aw_if rfl (fun h => ?_) (fun h => absurd h (by simp))
        refine aw_exit ?_; simp (maxSteps := 1000000) (disch := omega) [-List.getD_eq_getElem?_getD]
        refine hK3 _ ?_; clear hK3
        refine aw_reg0 fun K hK => ?_; simp (maxSteps := 1000000) (disch := omega) [-List.getD_eq_getElem?_getD]
        refine hK _ ?_; clear hK K
        refine ⟨i + 1, by show i + 1 ≤ _; omega, by show ts.length - (i + 1) < ts.length - i; omega, ?_⟩
        simp only [hfl, hwd, List.append_nil]
        refine weak_to [] [] ?_ ?_ ?_ ?_ HO1 ?_
        all_goals simp
      have bd : (t.f != f) = false := by simpa using hf
      rw [if_pos hf] at hwd
      refine aw_reg fun K hK => ?_; simp (maxSteps := 1000000) (disch := omega) [-List.getD_eq_getElem?_getD, hat1, tmAV_len, hk, bd]; refine hK _ ?_; clear hK K
      refine aw_if rfl (fun h => absurd h (by simp)) (fun h => ?_)
      refine aw_skip ?_; simp (maxSteps := 1000000) (disch := omega) [-List.getD_eq_getElem?_getD]
      refine hK4 _ ?_; clear hK4
      have hil : il.length = (posOf t.l d).length := by rw [hwd, List.length_map]
      have hig : ∀ m, m < (posOf t.l d).length → il.getD m w0 = (t.w, (posOf t.l d).getD m 0) := fun m hm => by
        rw [hwd, List.getD_eq_getElem?_getD, List.getElem?_map, List.getD_eq_getElem?_getD, List.getElem?_eq_getElem hm]; rfl
      generalize posOf t.l d = nl at *
      have hnl : nl.length ≤ 1000000 := by rw [List.length_append] at hb1; omega
      refine aw_reg fun K hK => ?_; simp (maxSteps := 1000000) (disch := omega) [-List.getD_eq_getElem?_getD, hat3, tmAV_len, hk]
      refine acall_is (cA _ _) ?_; simp (maxSteps := 1000000) (disch := omega) [-List.getD_eq_getElem?_getD]
      refine hK _ ?_; clear hK K
      refine aw_reg fun K hK => ?_; simp (maxSteps := 1000000) (disch := omega) [-List.getD_eq_getElem?_getD]; refine hK _ ?_; clear hK K
      refine aw_block ?_
      refine aw_loop (X := Nat) (fun m => ⟨[(3, .ptr H.length 0), (1, .int .i64 d), (2, .int .i64 f), (7, .sl (isortW (pre ++ il.take m)).length (wdAV (isortW (pre ++ il.take m))) .none), (8, .int .i64 (i : Nat)), (9, .sl nl.length (ints nl) .none), (10, .int .i64 (m : Nat))], H ++ [.cells (sgC ⟨docs, ts, cols⟩)], T⟩)
        (fun m => m ≤ nl.length) (fun m => nl.length - m) 0 ?_ ?_ ?_
      · exact Nat.zero_le _
      · refine weak_to [] [] ?_ ?_ ?_ ?_ HO1 ?_
        all_goals simp
      · intro m hm1
        refine aw_then fun K4 hK4 => ?_
        refine aw_reg fun K hK => ?_; simp (maxSteps := 1000000) (disch := omega) [-List.getD_eq_getElem?_getD]; refine hK _ ?_; clear hK K
        refine aw_if rfl (fun hm => ?_) (fun hm => ?_)
        · simp [-List.getD_eq_getElem?_getD] at hm
          have hnat := getD_ints hm
          have hft2 : pre ++ il.take (m + 1) = (pre ++ il.take m) ++ [(t.w, nl.getD m 0)] := by rw [take_getD il m w0 (by omega), hig m hm, List.append_assoc]
          have hdl' : (isortW (pre ++ il.take m)).length ≤ 1000000 := by rw [(isortW_spec _).1.length_eq, List.length_append, List.length_take]; rw [List.length_append] at hb1; omega
          generalize pre ++ il.take m = pm at *
          have hft3 : isortW (pre ++ il.take (m + 1)) = insW (t.w, nl.getD m 0) (isortW pm) := by rw [hft2]; exact isortW_snoc _ _
          generalize isortW pm = dd at *
          generalize nl.getD m 0 = nv at *
          have hil2 : m < (ints nl).length := by simpa using hm
          refine aw_skip ?_; simp (maxSteps := 1000000) (disch := omega) [-List.getD_eq_getElem?_getD]
          refine hK4 _ ?_; clear hK4
          refine aw_then fun K5 hK5 => ?_
          refine aw_block ?_
          refine aw_reg fun K hK => ?_; simp (maxSteps := 1000000) (disch := omega) [-List.getD_eq_getElem?_getD]; refine hK _ ?_; clear hK K
          refine aw_then fun K6 hK6 => ?_
          refine aw_block ?_
          refine aw_loop (X := Nat) (fun n => ⟨[(3, .ptr H.length 0), (1, .int .i64 d), (2, .int .i64 f), (7, .sl dd.length (wdAV dd) .none), (8, .int .i64 (i : Nat)), (9, .sl nl.length (ints nl) .none), (10, .int .i64 (m : Nat)), (11, .int .i64 (n : Nat))], H ++ [.cells (sgC ⟨docs, ts, cols⟩)], T⟩)
            (fun n => n ≤ dd.length ∧ ∀ j, j < n → (dd.getD j w0).2 < nv) (fun n => dd.length - n) 0 ?_ ?_ ?_
          · exact ⟨Nat.zero_le _, fun j hj => absurd hj (Nat.not_lt_zero _)⟩
          · refine weak_to [] [] ?_ ?_ ?_ ?_ HO1 ?_
            all_goals simp
          · rintro n ⟨hn1, hn2⟩
            have go : (n < dd.length → ¬ (dd.getD n w0).2 < nv) → ∀ e, envLe (H.length + 1) T.length e [(3, .ptr H.length 0), (1, .int .i64 d), (2, .int .i64 f), (7, .sl dd.length (wdAV dd) .none), (8, .int .i64 (i : Nat)), (9, .sl nl.length (ints nl) .none), (10, .int .i64 (m : Nat)), (11, .int .i64 (n : Nat))] →
                K6 ⟨e, H ++ [.cells (sgC ⟨docs, ts, cols⟩)], T⟩ := by
              intro hn3 e he
              have hins := insW_at (t.w, nv) dd n hn1 hn2 hn3
              refine hK6 _ (aw_weak ⟨[(3, .ptr H.length 0), (1, .int .i64 d), (2, .int .i64 f), (7, .sl dd.length (wdAV dd) .none), (8, .int .i64 (i : Nat)), (9, .sl nl.length (ints nl) .none), (10, .int .i64 (m : Nat)), (11, .int .i64 (n : Nat))], H ++ [.cells (sgC ⟨docs, ts, cols⟩)], T⟩ (weak_to [] [] (by simp) (by simp) (by simp) (by simp) HO1 (by simpa using he)) ?_)
              have ht := wdAV_tk dd n
              have hdr := wdAV_drop dd n
              have hlt : (wdAV (dd.take n)).length = n * 2 := by rw [wdAV_len, List.length_take]; omega
              have hld : (wdAV (dd.drop n)).length = (dd.length - n) * 2 := by rw [wdAV_len, List.length_drop]
              have htk : (wdAV (dd.drop n)).take ((dd.length - n) * 2) = wdAV (dd.drop n) := by rw [← hld, List.take_length]
              have hres : wdAV (dd.take n) ++ .str t.w :: .int .i64 nv :: wdAV (dd.drop n) = wdAV (insW (t.w, nv) dd) := by rw [hins]; simp [wdAV]
              have hlen : n + 1 + (dd.length - n) = (insW (t.w, nv) dd).length := by rw [hins]; simp; omega
              refine aw_draw0 [4, 17, 21] [0, 0, 0, 0, 0, 0, 0, 0, 0, 0, 0, 0, 0, 0, 0, 0, 0, 1, 0, 0, 0, 2, 3] [[], [], []] drawMixed (by kernel_rfl) (by kernel_rfl) fun K hK => ?_; simp (maxSteps := 1000000) (disch := omega) [-List.getD_eq_getElem?_getD, amade_zero, wdAV_len, ht, hdr, hlt, hld, htk, hat2, tmAV_len, hk, hnat]
              rw [hres, hlen]
              refine hK _ ?_
              refine hK5 _ ?_; clear hK5
              refine aw_reg0 fun K hK => ?_; simp (maxSteps := 1000000) (disch := omega) [-List.getD_eq_getElem?_getD]
              refine hK _ ?_; clear hK K
              refine ⟨m + 1, by show m + 1 ≤ _; omega, by show nl.length - (m + 1) < nl.length - m; omega, ?_⟩
              simp only [hft3]
              refine weak_to [] [((insW (t.w, nv) dd).length * 2, 2)] ?_ ?_ ?_ ?_ HO1 ?_
              all_goals simp
            clear hK6
            refine aw_then fun K7 hK7 => ?_
            by_cases hn3 : n < dd.length
            · have hcut2 := (wdAV_at dd n hn3).2
              have hst : (dd.getD n w0).2 < nv → ∀ j, j < n + 1 → (dd.getD j w0).2 < nv := fun h j hj => by
                rcases Nat.lt_or_ge j n with h3 | h3
                · exact hn2 j h3
                · have : j = n := by omega
                  subst this; exact h
              generalize dd.getD n w0 = y at *
              have b4 : decide ((n : Int) < dd.length) = true := decide_eq_true (by omega)
              by_cases ha : y.2 < nv
              · have b5 : decide (y.2 < nv) = true := decide_eq_true ha
                refine aw_draw [] [] [] drawMixed (by kernel_rfl) (by kernel_rfl) fun K hK => ?_; simp (maxSteps := 1000000) (disch := omega) [-List.getD_eq_getElem?_getD, b4, hn3, hcut2, wdAV_len, hnat, b5]
                refine hK _ ?_; clear hK K
                refine aw_if rfl (fun h => ?_) (fun h => absurd h (by simp))
                refine aw_skip ?_; simp (maxSteps := 1000000) (disch := omega) [-List.getD_eq_getElem?_getD]
                refine hK7 _ ?_; clear hK7
                refine aw_block ?_
                refine aw_reg0 fun K hK => ?_; simp (maxSteps := 1000000) (disch := omega) [-List.getD_eq_getElem?_getD]
                refine hK _ ?_; clear hK K
                refine ⟨n + 1, ⟨by show n + 1 ≤ _; omega, hst ha⟩, by show dd.length - (n + 1) < dd.length - n; omega, ?_⟩
                refine weak_to [] [] ?_ ?_ ?_ ?_ HO1 ?_
                all_goals simp
              · have b5 : decide (y.2 < nv) = false := decide_eq_false ha
                refine aw_draw [] [] [] drawMixed (by kernel_rfl) (by kernel_rfl) fun K hK => ?_; simp (maxSteps := 1000000) (disch := omega) [-List.getD_eq_getElem?_getD, b4, hn3, hcut2, wdAV_len, hnat, b5]
                refine hK _ ?_; clear hK K
                refine aw_if rfl (fun h => absurd h (by simp)) (fun h => ?_)
                refine aw_exit ?_; simp (maxSteps := 1000000) (disch := omega) [-List.getD_eq_getElem?_getD]
                refine go (fun _ => ha) _ ?_
                simp
            · have b4 : decide ((n : Int) < dd.length) = false := decide_eq_false (by omega)
              refine aw_draw [] [] [] drawMixed (by kernel_rfl) (by kernel_rfl) fun K hK => ?_; simp (maxSteps := 1000000) (disch := omega) [-List.getD_eq_getElem?_getD, b4, hn3]
              refine hK _ ?_; clear hK K
              refine aw_if rfl (fun h => absurd h (by simp)) (fun h => ?_)
              refine aw_exit ?_; simp (maxSteps := 1000000) (disch := omega) [-List.getD_eq_getElem?_getD]
              refine go (fun h => absurd h hn3) _ ?_
              simp
        · simp [-List.getD_eq_getElem?_getD] at hm
          have e : m = nl.length := by omega
          subst e
          rw [← hil, List.take_length]
          refine aw_exit ?_; simp (maxSteps := 1000000) (disch := omega) [-List.getD_eq_getElem?_getD]
          refine hK3 _ ?_; clear hK3
          refine aw_reg0 fun K hK => ?_; simp (maxSteps := 1000000) (disch := omega) [-List.getD_eq_getElem?_getD]
          refine hK _ ?_; clear hK K
          refine ⟨i + 1, by show i + 1 ≤ _; omega, by show ts.length - (i + 1) < ts.length - i; omega, ?_⟩
          simp only [hfl]
          refine weak_to [] [] ?_ ?_ ?_ ?_ HO1 ?_
          all_goals simp
    · simp [-List.getD_eq_getElem?_getD] at hk
      have hie : i = ts.length := by omega
      subst hie
      rw [List.take_length]
      refine aw_exit ?_; simp (maxSteps := 1000000) (disch := omega) [-List.getD_eq_getElem?_getD]
      refine hK1 _ ?_; clear hK1
      refine aw_reg fun K hK => ?_; simp (maxSteps := 1000000) (disch := omega) [-List.getD_eq_getElem?_getD]; refine hK _ ?_; clear hK K
      refine aw_ret ?_; simp (maxSteps := 1000000) (disch := omega) [-List.getD_eq_getElem?_getD]
end Go.Proofs.YtneohapkboaplaaGreat
