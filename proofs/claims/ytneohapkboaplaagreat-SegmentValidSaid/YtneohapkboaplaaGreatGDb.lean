/- segment.Documents (layer 39): one posting.
  Conditions: at most 2^40 words and zones of a document, as the theorems say. -/
import Derived.Test.YtneohapkboaplaaGreatGDa
set_option linter.all false
set_option maxRecDepth 100000
namespace Go.Proofs.YtneohapkboaplaaGreat
open Go Go.Am Sug Seg
def opn (zs:List Zn)(f:Int):List Zn:=match zs.getLast? with
 |some z=>if z.f=f then zs else zs++[⟨f,[]⟩]
 |none=>[⟨f,[]⟩]
theorem opn_snoc (l:List Zn)(z:Zn)(f:Int):opn (l++[z]) f=if z.f=f then l++[z] else (l++[z])++[⟨f,[]⟩]:=by
 simp[opn]
set_option maxHeartbeats 16000000 in
theorem zpush (H : List Blk) (T : Toks) (ts : List Tm) (l : List Ps) (vi vj b1 bo bm nd p8 p10 : Nat) (N : Nat) (f : Int) (w : Bs) (lv : AV) (R : List (Nat × Blk)) (J : List Blk) (U : Toks) (D1 D2 : List Dz) (d : Dz)
    (hS : DS H T R bo N J U (D1 ++ d :: D2)) (hN : N ≤ 1099511627776) (hb1 : b1 < J.length) (hbm : bm < J.length) (hbo : H.length ≤ bo) (hp10 : p10 < J.length) (h8 : (p8, .cells [.int .i64 f, .str w, lv]) ∈ R) (Q : Exit → St → Prop)
    (go : ∀ (e : Env) (J' : List Blk) (d' : Dz) (zs : List Wz) (z : Wz), DS H T R bo (N + 1) J' U (D1 ++ d' :: D2) → J.length ≤ J'.length → d'.id = d.id → d'.ns = d.ns → d'.zs = zs ++ [z] → z.f = f → d'.dc.zs = opn d.dc.zs f →
      envLe J'.length U.length e [(1, .ptr b1 0), (3, .csl bo nd nd), (4, .mref bm), (51, .sl ts.length (tmAV ts) .none), (52, .int .i64 (ts.length : Nat)), (53, .int .i64 (vi : Nat)), (8, .ptr p8 0), (58, .sl l.length (psAV l) .none), (59, .int .i64 (l.length : Nat)), (60, .int .i64 (vj : Nat)), (10, .ptr p10 0), (11, .ptr bo (D1.length * 3)), (13, .ptr d'.i (zs.length * 2))] → AW ⟨Tryz.prog, 192, 190, H.length, T.length, [100100, 100131]⟩ (subC [1, 1, 1, 1, 1, 0, 1, 0, 0, 1, 1, 0, 0, 1, 1, 0, 0, 1, 1, 0, 0, 1, 1, 1, 1] (Tryz.f40.body.getD .skip)) Q ⟨e, J', U⟩) :
    AW ⟨Tryz.prog, 192, 190, H.length, T.length, [100100, 100131]⟩ (subC [1, 1, 1, 1, 1, 0, 1, 0, 0, 1, 1, 0, 0, 1, 1, 0, 0, 1, 1, 0, 0, 1, 1] (Tryz.f40.body.getD .skip)) Q ⟨[(1, .ptr b1 0), (3, .csl bo nd nd), (4, .mref bm), (51, .sl ts.length (tmAV ts) .none), (52, .int .i64 (ts.length : Nat)), (53, .int .i64 (vi : Nat)), (8, .ptr p8 0), (58, .sl l.length (psAV l) .none), (59, .int .i64 (l.length : Nat)), (60, .int .i64 (vj : Nat)), (10, .ptr p10 0), (11, .ptr bo (D1.length * 3))], J, U⟩ := by
  conv => arg 2; whnf
  have g8 := hS.hJ.get (List.mem_append_left _ h8)
  have go_ := hS.hJ.get (i := bo) (b := .cells (drs (D1 ++ d :: D2))) (by simp)
  have l8 := (List.getElem?_eq_some_iff.1 g8).1
  have lo := (List.getElem?_eq_some_iff.1 go_).1
  have e8 := at_of g8
  have eo := at_of go_
  have lH := hS.pJ.le
  have lT := hS.pU.le
  obtain ⟨r1, r2, r3⟩ := drs_at (D1 := D1) (D2 := D2) d
  have hrl : (drs (D1 ++ d :: D2)).length = (D1.length + 1 + D2.length) * 3 := by rw [drs_len]; simp; omega
  have hset := fun v => (drs_set (D1 := D1) (D2 := D2) d v).1
  obtain ⟨id, zs, i, cap, rest, ns, tk⟩ := d
  simp only at r1 r2 r3 hset
  have hok := hS.hD ⟨id, zs, i, cap, rest, ns, tk⟩ (by simp)
  obtain ⟨⟨z1, z2⟩, z3, z4⟩ := hok
  simp only at z1 z2 z3 z4
  refine aw_then fun K1 hK1 => ?_
  have fin : ∀ (e : Env) (J2 : List Blk) (zs' : List Wz) (z : Wz) (i2 cap2 : Nat) (rest2 : List AV), (HOk J2 U → DS H T R bo (N + 1) J2 U (D1 ++ ⟨id, zs' ++ [z], i2, cap2, rest2, ns, tk⟩ :: D2)) → J.length ≤ J2.length → z.f = f → (zs' ++ [z]).map Wz.zn = opn (zs.map Wz.zn) f →
      envLe J2.length U.length e [(1, .ptr b1 0), (3, .csl bo nd nd), (4, .mref bm), (51, .sl ts.length (tmAV ts) .none), (52, .int .i64 (ts.length : Nat)), (53, .int .i64 (vi : Nat)), (8, .ptr p8 0), (58, .sl l.length (psAV l) .none), (59, .int .i64 (l.length : Nat)), (60, .int .i64 (vj : Nat)), (10, .ptr p10 0), (11, .ptr bo (D1.length * 3))] → K1 ⟨e, J2, U⟩ := by
    intro e J2 zs' z i2 cap2 rest2 hS2 hl2 hzf hop he
    refine hK1 _ ?_; clear hK1
    refine aw_hok fun HO2 => ?_
    replace hS2 := hS2 HO2
    refine aw_weak ⟨[(1, .ptr b1 0), (3, .csl bo nd nd), (4, .mref bm), (51, .sl ts.length (tmAV ts) .none), (52, .int .i64 (ts.length : Nat)), (53, .int .i64 (vi : Nat)), (8, .ptr p8 0), (58, .sl l.length (psAV l) .none), (59, .int .i64 (l.length : Nat)), (60, .int .i64 (vj : Nat)), (10, .ptr p10 0), (11, .ptr bo (D1.length * 3))], J2, U⟩ (weak_to [] [] (by simp) (by simp) (by show H.length ≤ _; omega) (by show T.length ≤ _; omega) hS2.ok he) ?_
    have g2 := hS2.hJ.get (i := bo) (b := .cells (drs (D1 ++ ⟨id, zs' ++ [z], i2, cap2, rest2, ns, tk⟩ :: D2))) (by simp)
    have l2 := (List.getElem?_eq_some_iff.1 g2).1
    have e2 := at_of g2
    obtain ⟨s1, s2, s3⟩ := drs_at (D1 := D1) (D2 := D2) ⟨id, zs' ++ [z], i2, cap2, rest2, ns, tk⟩
    simp only [gv, List.length_append, List.length_singleton, Nat.succ_ne_zero, if_false] at s2
    have hrl2 : (drs (D1 ++ ⟨id, zs' ++ [z], i2, cap2, rest2, ns, tk⟩ :: D2)).length = (D1.length + 1 + D2.length) * 3 := by rw [drs_len]; simp; omega
    have gz := hS2.hJ.get (i := i2) (b := .cells (zrs (zs' ++ [z]) ++ rest2)) (by simp [Dz.bx, gb])
    have lz := (List.getElem?_eq_some_iff.1 gz).1
    have ez := at_of gz
    have hzl : (zrs (zs' ++ [z]) ++ rest2).length = (zs'.length + 1) * 2 + rest2.length := by rw [List.length_append, zrs_len, List.length_append, List.length_singleton]
    have hzn : zs'.length + 1 ≤ N + 1 := by
      have := (hS2.hD ⟨id, zs' ++ [z], i2, cap2, rest2, ns, tk⟩ (by simp)).z.1
      simpa using this
    refine aw_draw [] [] [] drawMixed (by kernel_rfl) (by kernel_rfl) fun K hK => ?_; simp (maxSteps := 1000000) (disch := omega) [-List.getD_eq_getElem?_getD, e2, s2, hrl2]
    refine hK _ ?_
    refine go _ _ ⟨id, zs' ++ [z], i2, cap2, rest2, ns, tk⟩ zs' z hS2 hl2 rfl rfl rfl hzf hop ?_
    simp
    omega
  have push : opn (zs.map Wz.zn) f = zs.map Wz.zn ++ [⟨f, []⟩] → ∀ (Q' : Exit → St → Prop), (∀ s, K1 s → Q' .normal s) → ∀ e : Env, envLe J.length U.length e [(1, .ptr b1 0), (3, .csl bo nd nd), (4, .mref bm), (51, .sl ts.length (tmAV ts) .none), (52, .int .i64 (ts.length : Nat)), (53, .int .i64 (vi : Nat)), (8, .ptr p8 0), (58, .sl l.length (psAV l) .none), (59, .int .i64 (l.length : Nat)), (60, .int .i64 (vj : Nat)), (10, .ptr p10 0), (11, .ptr bo (D1.length * 3))] → AW ⟨Tryz.prog, 192, 190, H.length, T.length, [100100, 100131]⟩ (subC [1, 1, 1, 1, 1, 0, 1, 0, 0, 1, 1, 0, 0, 1, 1, 0, 0, 1, 1, 0, 0, 1, 1, 0, 1, 1, 0] (Tryz.f40.body.getD .skip)) Q' ⟨e, J, U⟩ := by
    intro hop Q' hQ e he
    conv => arg 2; whnf
    refine aw_weak ⟨[(1, .ptr b1 0), (3, .csl bo nd nd), (4, .mref bm), (51, .sl ts.length (tmAV ts) .none), (52, .int .i64 (ts.length : Nat)), (53, .int .i64 (vi : Nat)), (8, .ptr p8 0), (58, .sl l.length (psAV l) .none), (59, .int .i64 (l.length : Nat)), (60, .int .i64 (vj : Nat)), (10, .ptr p10 0), (11, .ptr bo (D1.length * 3))], J, U⟩ (weak_to [] [] (by simp) (by simp) (by show H.length ≤ _; omega) (by show T.length ≤ _; omega) hS.ok he) ?_
    refine aw_drawM0 9 [9, 12] [0, 0, 0, 0, 0, 0, 0, 0, 0, 0, 1, 1, 1] [[0], []] drawMixed (by kernel_rfl) (by kernel_rfl) (by kernel_rfl) fun K hK => ?_
    simp (maxSteps := 1000000) (disch := omega) [-List.getD_eq_getElem?_getD, -mexec, eo, e8, r2, hrl]
    have hJb : Has J ((R ++ (bo, .cells (drs (D1 ++ ⟨id, zs, i, cap, rest, ns, tk⟩ :: D2))) :: D1.flatMap Dz.bx) ++ (gb zs.length i (zrs zs ++ rest) ++ (zs.flatMap Wz.bx ++ D2.flatMap Dz.bx))) := by simpa [Dz.bx] using hS.hJ
    refine grow (t := 63) (t2 := 63) (el := 98) (z := 2) (row := [.int .i64 f, .sl 0 [] .full]) (x := .sl 1 [.int .i64 f, .sl 0 [] .full] .full) (fun h => by simp [gv, h]) (fun h => by simp [gv, h]) (by kernel_rfl) (by kernel_rfl) (fun _ => by simp) ?_ ?_ (by kernel_rfl) (by kernel_rfl) (zrs_len _) hJb z2 hS.pJ fun i2 cap2 rest2 J2 hJ2 hP2 hl2 hr2 hc2 hi2 => ?_
    · rw [show Tryz.prog.bytesOf 98 = 32 by kernel_rfl]; omega
    · omega
    have g2 := hJ2.get (i := bo) (b := .cells (drs (D1 ++ ⟨id, zs, i, cap, rest, ns, tk⟩ :: D2))) (by simp)
    have l2 := (List.getElem?_eq_some_iff.1 g2).1
    have e2 := at_of g2
    simp (maxSteps := 1000000) (disch := omega) [-List.getD_eq_getElem?_getD, e2, hrl, hset]
    refine hK _ (hQ _ ?_)
    have hdr : drs (D1 ++ ⟨id, zs ++ [⟨f, [], 0, 0, []⟩], i2, cap2, rest2, ns, tk⟩ :: D2) = drs D1 ++ AV.int .i64 id :: .csl i2 (zs.length + 1) cap2 :: ov ns tk :: drs D2 := by simp [drs, gv]
    rw [← hdr]
    refine fin _ _ zs ⟨f, [], 0, 0, []⟩ i2 cap2 rest2 (fun ho => ⟨?_, ?_, ?_, hP2.set hbo _, hS.pU, ho⟩) (by simp; omega) rfl (by rw [hop]; simp [Wz.zn]) ?_
    · have hbx : Dz.bx ⟨id, zs ++ [⟨f, [], 0, 0, []⟩], i2, cap2, rest2, ns, tk⟩ = (i2, .cells (zrs zs ++ ([.int .i64 f, .sl 0 [] .full] ++ rest2))) :: zs.flatMap Wz.bx := by simp [Dz.bx, gb, zrs, Wz.bx, gv]
      have := Has.set (A := R) (B := D1.flatMap Dz.bx ++ ((i2, .cells (zrs zs ++ ([.int .i64 f, .sl 0 [] .full] ++ rest2))) :: (zs.flatMap Wz.bx ++ D2.flatMap Dz.bx))) (by simpa using hJ2) (.cells (drs (D1 ++ ⟨id, zs ++ [⟨f, [], 0, 0, []⟩], i2, cap2, rest2, ns, tk⟩ :: D2)))
      rw [List.flatMap_append, List.flatMap_cons, hbx]
      simpa using this
    · simpa [Dz.tx] using hS.hU
    · intro x hx
      rcases List.mem_append.1 hx with hx | hx
      · exact (hS.hD x (by simp [hx])).more (Nat.le_succ _)
      rcases List.mem_cons.1 hx with rfl | hx
      · refine ⟨⟨by simp; omega, fun _ => by simpa using ⟨hr2, hc2, hi2⟩⟩, fun z hz => ?_, ⟨by show ns.length ≤ _; omega, z4.2⟩⟩
        rcases List.mem_append.1 hz with hz | hz
        · exact (z3 z hz).more (Nat.le_succ _)
        · obtain rfl := List.mem_singleton.1 hz
          exact ⟨Nat.zero_le _, fun h => absurd rfl h⟩
      · exact (hS.hD x (by simp [hx])).more (Nat.le_succ _)
    · simp; omega
  rcases List.eq_nil_or_concat zs with hz | ⟨zs0, z0, hz⟩
  · subst hz
    simp only [gv, List.length_nil, if_true] at r2
    refine aw_reg fun K hK => ?_; simp (maxSteps := 1000000) (disch := omega) [-List.getD_eq_getElem?_getD, eo, r2, hrl]; refine hK _ ?_; clear hK K
    refine aw_draw [] [] [] drawMixed (by kernel_rfl) (by kernel_rfl) fun K hK => ?_; simp (maxSteps := 1000000) (disch := omega) [-List.getD_eq_getElem?_getD, eo, r2, hrl]
    refine hK _ ?_; clear hK K
    refine aw_if rfl (fun h => ?_) (fun h => absurd h (by simp))
    refine push (by simp [opn]) _ (fun s h => ?_) _ ?_
    · exact h
    · simp; omega
  · rw [List.concat_eq_append] at hz
    subst hz
    simp only [gv, List.length_append, List.length_singleton, Nat.succ_ne_zero, if_false] at r2
    have gz := hS.hJ.get (i := i) (b := .cells (zrs (zs0 ++ [z0]) ++ rest)) (by simp [Dz.bx, gb])
    have lz := (List.getElem?_eq_some_iff.1 gz).1
    have ez := at_of gz
    have hzl : (zrs (zs0 ++ [z0]) ++ rest).length = (zs0.length + 1) * 2 + rest.length := by rw [List.length_append, zrs_len, List.length_append, List.length_singleton]
    obtain ⟨y1, y2⟩ := zrs_at zs0 z0 rest
    have z1q : zs0.length + 1 ≤ N := by simpa using z1
    have bn : (((zs0.length : Int) + 1) == 0) = false := beq_eq_false_iff_ne.2 (by omega)
    have bn' : ¬ ((zs0.length : Int) + 1) = 0 := by omega
    by_cases hf : z0.f = f
    · have bd : (z0.f != f) = false := by simpa using hf
      refine aw_reg fun K hK => ?_; simp (maxSteps := 1000000) (disch := omega) [-List.getD_eq_getElem?_getD, eo, r2, hrl]; refine hK _ ?_; clear hK K
      refine aw_draw [] [] [] drawMixed (by kernel_rfl) (by kernel_rfl) fun K hK => ?_; simp (maxSteps := 1000000) (disch := omega) [-List.getD_eq_getElem?_getD, eo, e8, r2, hrl, bn, bn', ez, hzl, y1, bd]
      refine hK _ ?_; clear hK K
      refine aw_if rfl (fun h => absurd h (by simp)) (fun h => ?_)
      refine aw_skip ?_; simp (maxSteps := 1000000) (disch := omega) [-List.getD_eq_getElem?_getD]
      refine fin _ _ zs0 z0 i cap rest (fun ho => hS.more (Nat.le_succ _)) (Nat.le_refl _) hf ?_ ?_
      · rw [List.map_append, List.map_singleton, opn_snoc, if_pos (show z0.zn.f = f from hf)]
      · simp; omega
    · have bd : (z0.f != f) = true := by simpa using hf
      refine aw_reg fun K hK => ?_; simp (maxSteps := 1000000) (disch := omega) [-List.getD_eq_getElem?_getD, eo, r2, hrl]; refine hK _ ?_; clear hK K
      refine aw_draw [] [] [] drawMixed (by kernel_rfl) (by kernel_rfl) fun K hK => ?_; simp (maxSteps := 1000000) (disch := omega) [-List.getD_eq_getElem?_getD, eo, e8, r2, hrl, bn, bn', ez, hzl, y1, bd]
      refine hK _ ?_; clear hK K
      refine aw_if rfl (fun h => ?_) (fun h => absurd h (by simp))
      refine push ?_ _ (fun s h => ?_) _ ?_
      · rw [List.map_append, List.map_singleton, opn_snoc, if_neg (show ¬ z0.zn.f = f from hf)]
      · exact h
      · simp; omega
attribute [-simp] List.getD_eq_getElem?_getD in
set_option maxHeartbeats 16000000 in
theorem wpush (H:List Blk)(T:Toks)(ts:List Tm)(l:List Ps)(vi vj b1 bo bm nd p8 p10:Nat)(N:Nat)(f a:Int)(w:Bs)(lv:AV)(at_:List Int)(vk:Nat)(R:List (Nat×Blk))(J:List Blk)(U:Toks)(D1 D2:List Dz)(d:Dz)(zs:List Wz)(z:Wz)
  (hS:DS H T R bo N J U (D1++d::D2)) (hz:d.zs=zs++[z]) (hN:N≤1099511627776) (hal:at_.length≤1000) (hvk:vk<at_.length) (hb1:b1<J.length) (hbm:bm<J.length) (hp10:p10<J.length) (h8:(p8,.cells [.int .i64 f,.str w,lv])∈R) (Q:Exit→St→Prop)
  (go:∀(e:Env)(J':List Blk)(d':Dz)(z':Wz),(HOk J' U→DS H T R bo (N+1) J' U (D1++d'::D2))→J.length≤J'.length→d'.id=d.id→d'.ns=d.ns→d'.zs=zs++[z']→d'.i=d.i→z'.f=z.f→z'.ws=z.ws++[(w,at_.getD vk 0)]→
   envLe J'.length U.length e [(1,.ptr b1 0),(3,.csl bo nd nd),(4,.mref bm),(51,.sl ts.length (tmAV ts) .none),(52,.int .i64 (ts.length:Nat)),(53,.int .i64 (vi:Nat)),(8,.ptr p8 0),(58,.sl l.length (psAV l) .none),(59,.int .i64 (l.length:Nat)),(60,.int .i64 (vj:Nat)),(10,.ptr p10 0),(11,.ptr bo (D1.length*3)),(13,.ptr d.i (zs.length*2)),(115,.sl at_.length (ints at_) .none),(116,.int .i64 (at_.length:Nat)),(117,.int .i64 (vk:Nat))]→Q .normal ⟨e,J',U⟩) :
  AW ⟨Tryz.prog,192,190,H.length,T.length,[100100,100131]⟩ (subC [1,1,1,1,1,0,1,0,0,1,1,0,0,1,1,0,0,1,1,0,0,1,1,1,1,1,0,0,1,1,0,0] (Tryz.f40.body.getD .skip)) Q ⟨[(1,.ptr b1 0),(3,.csl bo nd nd),(4,.mref bm),(51,.sl ts.length (tmAV ts) .none),(52,.int .i64 (ts.length:Nat)),(53,.int .i64 (vi:Nat)),(8,.ptr p8 0),(58,.sl l.length (psAV l) .none),(59,.int .i64 (l.length:Nat)),(60,.int .i64 (vj:Nat)),(10,.ptr p10 0),(11,.ptr bo (D1.length*3)),(13,.ptr d.i (zs.length*2)),(115,.sl at_.length (ints at_) .none),(116,.int .i64 (at_.length:Nat)),(117,.int .i64 (vk:Nat))],J,U⟩:=by
 conv=>arg 2;whnf
 have hvk2:vk<(ints at_).length:=by simpa using hvk
 have hga:=getD_ints (xs:=at_) (k:=vk) hvk
 generalize at_.getD vk 0=p at *
 obtain⟨id,zs1,i,cap,rest,ns,tk⟩:=d
 simp only at hz
 subst hz
 have g8:=hS.hJ.get (List.mem_append_left _ h8)
 have go_:=hS.hJ.get (i:=bo) (b:=.cells (drs (D1++⟨id,zs++[z],i,cap,rest,ns,tk⟩::D2))) (by simp)
 have gz:=hS.hJ.get (i:=i) (b:=.cells (zrs (zs++[z])++rest)) (by simp[Dz.bx,gb])
 have l8:=(List.getElem?_eq_some_iff.1 g8).1
 have lo:=(List.getElem?_eq_some_iff.1 go_).1
 have lz:=(List.getElem?_eq_some_iff.1 gz).1
 have e8:=at_of g8
 have ez:=at_of gz
 have lH:=hS.pJ.le
 have lT:=hS.pU.le
 have hzl:(zrs (zs++[z])++rest).length=(zs.length+1)*2+rest.length:=by rw[List.length_append,zrs_len,List.length_append,List.length_singleton]
 obtain⟨y1,y2⟩:=zrs_at zs z rest
 have hset:=fun v=>zrs_set zs z rest v
 obtain⟨⟨z1,z2⟩,z3,z4⟩:=hS.hD ⟨id,zs++[z],i,cap,rest,ns,tk⟩ (by simp)
 simp only at z1 z2 z3 z4
 obtain⟨q1,q2⟩:=z3 z (by simp)
 obtain⟨zf,ws,zi,zc,zr⟩:=z
 simp only at q1 q2 y1 y2 hset
 refine aw_reg fun K hK=>?_;simp(disch:=omega)[hga];refine hK _ ?_;clear hK K
 refine aw_drawM0 10 [10,13] [0,0,0,0,0,0,0,0,0,0,0,1,1,1] [[0],[]] drawMixed (by kernel_rfl) (by kernel_rfl) (by kernel_rfl) fun K hK=>?_
 simp(disch:=omega)[-mexec,e8,ez,y2,hzl]
 have hJb:Has J ((R++(bo,.cells (drs (D1++⟨id,zs++[⟨zf,ws,zi,zc,zr⟩],i,cap,rest,ns,tk⟩::D2)))::(D1.flatMap Dz.bx++((i,.cells (zrs (zs++[⟨zf,ws,zi,zc,zr⟩])++rest))::zs.flatMap Wz.bx)))++(gb ws.length zi (wdAV ws++zr)++D2.flatMap Dz.bx)):=by simpa[Dz.bx,gb,Wz.bx] using hS.hJ
 refine grow (t:=61) (t2:=61) (el:=71) (z:=2) (row:=[.str w,.int .i64 p]) (x:=.sl 1 [.str w,.int .i64 p] .full) (fun h=>by simp[gv,h]) (fun h=>by simp[gv,h]) (by kernel_rfl) (by kernel_rfl) (fun _=>by simp) ?_ ?_ (by kernel_rfl) (by kernel_rfl) (wdAV_len _) hJb q2 hS.pJ fun i2 cap2 rest2 J2 hJ2 hP2 hl2 hr2 hc2 hi2=>?_
 ·rw[show Tryz.prog.bytesOf 71=24 by kernel_rfl];omega
 ·omega
 have g2:=hJ2.get (i:=i) (b:=.cells (zrs (zs++[⟨zf,ws,zi,zc,zr⟩])++rest)) (by simp)
 have l2:=(List.getElem?_eq_some_iff.1 g2).1
 have e2:=at_of g2
 simp(disch:=omega)[e2,hzl,hset]
 refine hK _ ?_
 have hz2:zrs zs++AV.int IntKind.i64 zf::AV.csl i2 (ws.length+1) cap2::rest=zrs (zs++[⟨zf,ws++[(w,p)],i2,cap2,rest2⟩])++rest:=by simp[zrs,gv]
 rw[hz2]
 refine go _ _ ⟨id,zs++[⟨zf,ws++[(w,p)],i2,cap2,rest2⟩],i,cap,rest,ns,tk⟩ ⟨zf,ws++[(w,p)],i2,cap2,rest2⟩ (fun ho=>⟨?_,?_,?_,hP2.set ?_ _,hS.pU,ho⟩) (by simp;omega) rfl rfl rfl rfl rfl rfl ?_
 ·have hbx:Dz.bx ⟨id,zs++[⟨zf,ws++[(w,p)],i2,cap2,rest2⟩],i,cap,rest,ns,tk⟩=(i,.cells (zrs (zs++[⟨zf,ws++[(w,p)],i2,cap2,rest2⟩])++rest))::(zs.flatMap Wz.bx++[(i2,.cells (wdAV ws++([.str w,.int .i64 p]++rest2)))]):=by
   simp[Dz.bx,gb,Wz.bx,←wdAV_snoc]
  have hdr:drs (D1++⟨id,zs++[⟨zf,ws++[(w,p)],i2,cap2,rest2⟩],i,cap,rest,ns,tk⟩::D2)=drs (D1++⟨id,zs++[⟨zf,ws,zi,zc,zr⟩],i,cap,rest,ns,tk⟩::D2):=by simp[drs]
  have:=Has.set (A:=R++(bo,.cells (drs (D1++⟨id,zs++[⟨zf,ws,zi,zc,zr⟩],i,cap,rest,ns,tk⟩::D2)))::D1.flatMap Dz.bx) (B:=zs.flatMap Wz.bx++((i2,.cells (wdAV ws++([.str w,.int .i64 p]++rest2)))::D2.flatMap Dz.bx)) (by simpa using hJ2) (.cells (zrs (zs++[⟨zf,ws++[(w,p)],i2,cap2,rest2⟩])++rest))
  rw[List.flatMap_append,List.flatMap_cons,hbx,hdr]
  simpa using this
 ·simpa[Dz.tx] using hS.hU
 ·intro x hx
  rcases List.mem_append.1 hx with hx|hx
  ·exact(hS.hD x (by simp[hx])).more (Nat.le_succ _)
  rcases List.mem_cons.1 hx with rfl|hx
  ·refine⟨⟨by simp at z1 ⊢;omega,fun _=>by simpa using z2 (by simp)⟩,fun y hy=>?_,⟨by show ns.length≤_;omega,z4.2⟩⟩
   rcases List.mem_append.1 hy with hy|hy
   ·exact(z3 y (by simp[hy])).more (Nat.le_succ _)
   ·obtain rfl:=List.mem_singleton.1 hy
    exact⟨by simp;omega,fun h=>by simpa using⟨hr2,hc2,hi2⟩⟩
  ·exact(hS.hD x (by simp[hx])).more (Nat.le_succ _)
 ·exact(z2 (by simp)).2.2
 ·simp;omega
end Go.Proofs.YtneohapkboaplaaGreat
