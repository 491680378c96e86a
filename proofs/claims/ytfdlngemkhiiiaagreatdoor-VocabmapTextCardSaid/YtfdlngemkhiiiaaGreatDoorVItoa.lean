/- Decimal numerals: strconv.Itoa by the library's contract, and the reference's.
   Conditions: the library's table of powers of ten holds what its text lays. -/
import Derived.Shelf.Strconv.Itoa3
import Derived.Test.YtfdlngemkhiiiaaGreatDoorAmFacts
import Derived.Test.YtfdlngemkhiiiaaGreatDoorAmGlob
namespace Go.Proofs.YtfdlngemkhiiiaaGreatDoor
open Go Go.Am Go.Shelf
set_option linter.unusedVariables false
set_option maxRecDepth 100000
def laysIR : Ren := ⟨fun | 129 => 70 | 171 => 37 | 243 => 48 | 246 => 60 | 283 => 81 | 284 => 82 | 285 => 83 | 286 => 84 | 317 => 94 | 318 => 95 | 319 => 96 | 320 => 97 | 337 => 101 | 338 => 102 | x => x,
  fun | 37 => 45 | 46 => 71 | 51 => 96 | 53 => 98 | 171 => 109 | 173 => 111 | 212 => 126 | 213 => 127 | 232 => 140 | 233 => 141 | x => x, fun | 17 => 3 | 18 => 6 | 19 => 7 | x => x⟩
theorem laysI : LaysM.n171 Tryz.prog laysIR :=
  {
    mixed := by kernel_rfl
    f129 := Tryz.func70.trans (congrArg some (by kernel_rfl))
    f171 := Tryz.func37.trans (congrArg some (by kernel_rfl))
    f243 := Tryz.func48.trans (congrArg some (by kernel_rfl))
    f246 := Tryz.func60.trans (congrArg some (by kernel_rfl))
    f283 := Tryz.func81.trans (congrArg some (by kernel_rfl))
    f284 := Tryz.func82.trans (congrArg some (by kernel_rfl))
    f285 := Tryz.func83.trans (congrArg some (by kernel_rfl))
    f286 := Tryz.func84.trans (congrArg some (by kernel_rfl))
    f317 := Tryz.func94.trans (congrArg some (by kernel_rfl))
    f318 := Tryz.func95.trans (congrArg some (by kernel_rfl))
    f319 := Tryz.func96.trans (congrArg some (by kernel_rfl))
    f320 := Tryz.func97.trans (congrArg some (by kernel_rfl))
    f337 := Tryz.func101.trans (congrArg some (by kernel_rfl))
    f338 := Tryz.func102.trans (congrArg some (by kernel_rfl))
    t0 := Tryz.underlying0
    a0 := Tryz.isAgg0
    z0 := Tryz.sizeOf0
    v0 := Tryz.zeroValue0
    t2 := Tryz.underlying2
    a2 := Tryz.isAgg2
    z2 := Tryz.sizeOf2
    v2 := Tryz.zeroValue2
    t3 := Tryz.underlying3
    a3 := Tryz.isAgg3
    z3 := Tryz.sizeOf3
    v3 := Tryz.zeroValue3
    t4 := Tryz.underlying4
    a4 := Tryz.isAgg4
    z4 := Tryz.sizeOf4
    v4 := Tryz.zeroValue4
    t5 := Tryz.underlying5
    a5 := Tryz.isAgg5
    z5 := Tryz.sizeOf5
    v5 := Tryz.zeroValue5
    t9 := Tryz.underlying9
    a9 := Tryz.isAgg9
    z9 := Tryz.sizeOf9
    v9 := Tryz.zeroValue9
    t20 := Tryz.underlying20
    a20 := Tryz.isAgg20
    z20 := Tryz.sizeOf20
    v20 := Tryz.zeroValue20
    t37 := Tryz.underlying45
    a37 := Tryz.isAgg45
    z37 := Tryz.sizeOf45
    v37 := Tryz.zeroValue45
    t46 := Tryz.underlying71
    a46 := Tryz.isAgg71
    z46 := Tryz.sizeOf71
    v46 := Tryz.zeroValue71
    t51 := Tryz.underlying96
    a51 := Tryz.isAgg96
    z51 := Tryz.sizeOf96
    v51 := Tryz.zeroValue96
    t53 := Tryz.underlying98
    a53 := Tryz.isAgg98
    z53 := Tryz.sizeOf98
    v53 := Tryz.zeroValue98
    t171 := Tryz.underlying109
    a171 := Tryz.isAgg109
    z171 := Tryz.sizeOf109
    v171 := Tryz.zeroValue109
    t173 := Tryz.underlying111
    a173 := Tryz.isAgg111
    z173 := Tryz.sizeOf111
    v173 := Tryz.zeroValue111
    t212 := Tryz.underlying126
    a212 := Tryz.isAgg126
    z212 := Tryz.sizeOf126
    v212 := Tryz.zeroValue126
    t213 := Tryz.underlying127
    a213 := Tryz.isAgg127
    z213 := Tryz.sizeOf127
    t232 := Tryz.underlying140
    a232 := Tryz.isAgg140
    z232 := Tryz.sizeOf140
    v232 := Tryz.zeroValue140
    t233 := Tryz.underlying141
    a233 := Tryz.isAgg141
    z233 := Tryz.sizeOf141
    v233 := Tryz.zeroValue141
    g17 := by kernel_rfl
    g18 := by kernel_rfl
    g19 := by kernel_rfl
    i0 := by kernel_rfl
    i2 := by kernel_rfl
    i3 := by kernel_rfl
    i4 := by kernel_rfl
    i5 := by kernel_rfl
    i9 := by kernel_rfl
    i20 := by kernel_rfl
    i37 := by kernel_rfl
    i46 := by kernel_rfl
    i51 := by kernel_rfl
    i53 := by kernel_rfl
    i171 := by kernel_rfl
    i173 := by kernel_rfl
    i212 := by kernel_rfl
    i232 := by kernel_rfl
    i233 := by kernel_rfl
    m17 := by kernel_rfl
    m18 := by kernel_rfl
    m19 := by kernel_rfl }

/-- The table of powers of ten. -/
def isPow (o : Obj) : Prop := ∃ t fr, o = .cells (Lib.pow10Tab.map fun z => Value.int .u64 z).toArray t fr

theorem below_grow (w : World) (k : Nat) (os : Array Obj) : Go.RowKit.Below w.heap.size w (Go.Sort.grow (w.drewN k) os) :=
  ⟨rfl, rfl, rfl, by simp [Go.Sort.grow, World.drewN], fun i hi => by
    show (w.heap ++ os)[i]? = _
    rw [Array.getElem?_append_left hi]⟩

theorem itoa_ok (n : Int) (h0 : -9223372036854775808 ≤ n) (h1 : n ≤ 9223372036854775807) (H : List Blk) (T : Toks) (hG : Gl H 3 isPow) :
    ACall Tryz.prog 37 [.int .i64 n] H T (Is (.str (Lib.itoa n)) H T) := by
  refine ⟨fun _ _ => Tryz.call37 _ _, fun L w ca hc hl hr => ?_⟩
  obtain ⟨hd, o, ho, t, fr, rfl⟩ := hG.at hc
  have e0 : ca = #[.int .i64 n] := by
    obtain ⟨l⟩ := ca
    have hl2 : l.length = 1 := by simpa using hl
    match l, hl2 with
    | [a], _ =>
      have r0 := hr 0 (by simp) (by simp)
      simp at r0
      cases r0
      rfl
  subst e0
  have htab : Lib.TabIs Tryz.prog w "internal/strconv.uint64pow10" .u64 Lib.pow10Tab := by
    unfold Lib.TabIs World.var?
    rw [show Tryz.prog.globalNamed "internal/strconv.uint64pow10" = some 3 from by kernel_rfl]
    simp [ho]
  refine Calls.mono (Go.Proofs.Any.strconv_Itoa laysI n h0 h1 w htab) ?_
  rintro e w' ⟨rfl, k, os, rfl⟩
  obtain ⟨c1, c2⟩ := hc.belowW (below_grow w k os) (fun e => by rw [hd] at e; cases e)
  exact ⟨_, H, T, L, _, ⟨rfl, rfl, rfl⟩, rfl, c1, .str _, c2⟩

theorem dec_step {m : Nat} (h : ¬ m < 10) (s : List UInt8) : Lib.decDigits m ++ s = Lib.decDigits (m / 10) ++ UInt8.ofNat (48 + m % 10) :: s := by
  rw [Lib.decDigits, dif_neg h, List.append_assoc]; rfl
theorem dec_len {u : Nat} (h : u ≤ 9223372036854775807) : (Lib.decDigits u).length ≤ 20 := by
  have key : ∀ (k u : Nat), u < 10 ^ k → (Lib.decDigits u).length ≤ k + 1 := by
    intro k
    induction k with
    | zero => intro u hu; have : u = 0 := by simpa using hu
              subst this; rw [Lib.decDigits, dif_pos (by omega)]; simp
    | succ k ih =>
      intro u hu
      rw [Lib.decDigits]
      split
      · simp
      · rw [List.length_append]
        have := ih (u / 10) (by rw [Nat.pow_succ] at hu; omega)
        simp; omega
  exact key 19 u (by omega)

set_option maxHeartbeats 4000000 in
theorem itoaR_ok (u : Nat) (hu : u ≤ 9223372036854775807) (H : List Blk) (T : Toks) : ACall Tryz.prog 46 [.int .i64 (u : Nat)] H T (Is (.str (Lib.decDigits u)) H T) := by
  generalize hq : Lib.decDigits u = q
  have hql : q.length ≤ 20 := by rw [← hq]; exact dec_len hu
  refine acall_enter 7 [] Tryz.ntmps46 Tryz.func46 rfl (fun _ _ => Tryz.call46 _ _) (by simp) (fun HO => ?_)
  refine aw_reg fun K hK => ?_; simp (maxSteps := 1000000) (disch := omega) [-List.getD_eq_getElem?_getD]; refine hK _ ?_; clear hK K
  refine aw_reg fun K hK => ?_; simp (maxSteps := 1000000) (disch := omega) [-List.getD_eq_getElem?_getD]; refine hK _ ?_; clear hK K
  refine aw_then fun K1 hK1 => ?_
  have b0 : decide ((u : Int) < 0) = false := decide_eq_false (by omega)
  refine aw_reg fun K hK => ?_; simp (maxSteps := 1000000) (disch := omega) [-List.getD_eq_getElem?_getD, b0]; refine hK _ ?_; clear hK K
  refine aw_if rfl (fun h => absurd h (by simp)) (fun h => ?_)
  refine aw_skip ?_; simp (maxSteps := 1000000) (disch := omega) [-List.getD_eq_getElem?_getD]
  refine hK1 _ ?_; clear hK1
  refine aw_then fun K1 hK1 => ?_
  refine aw_reg fun K hK => ?_; simp (maxSteps := 1000000) (disch := omega) [-List.getD_eq_getElem?_getD]; refine hK _ ?_; clear hK K
  refine aw_block ?_
  refine aw_loop (X := Nat × List UInt8 × Bool) (fun x => ⟨[(0, .int .i64 (x.1 : Nat)), (3, .str x.2.1), (4, .str []), (5, .bool x.2.2)], H, T⟩) (fun x => x.1 ≤ 9223372036854775807 ∧ x.2.1.length ≤ 20 ∧ (x.2.2 = true → q = Lib.decDigits x.1 ++ x.2.1) ∧ (x.2.2 = false → q = x.2.1)) (fun x => x.1 + (if x.2.2 then 1 else 0)) (u, [], true) ?_ ?_ ?_
  · exact ⟨hu, by simp, fun _ => by simp [hq], fun h => by cases h⟩
  · refine weak_to [] [] ?_ ?_ ?_ ?_ HO ?_
    all_goals simp
  · rintro ⟨m, s, b⟩ ⟨h1, h2, h3, h4⟩
    simp only at h1 h2 h3 h4
    refine aw_then fun K2 hK2 => ?_
    refine aw_reg fun K hK => ?_; simp (maxSteps := 1000000) (disch := omega) [-List.getD_eq_getElem?_getD]; refine hK _ ?_; clear hK K
    cases b with
    | false =>
      refine aw_if rfl (fun h => absurd h (by simp)) (fun h => ?_)
      refine aw_exit ?_; simp (maxSteps := 1000000) (disch := omega) [-List.getD_eq_getElem?_getD]
      refine hK1 _ ?_; clear hK1
      refine aw_reg fun K hK => ?_; simp (maxSteps := 1000000) (disch := omega) [-List.getD_eq_getElem?_getD]; refine hK _ ?_; clear hK K
      refine aw_ret ?_; simp (maxSteps := 1000000) (disch := omega) [-List.getD_eq_getElem?_getD]
      rw [h4 rfl]
      exact ⟨rfl, rfl, rfl⟩
    | true =>
      refine aw_if rfl (fun h => ?_) (fun h => absurd h (by simp))
      refine aw_skip ?_; simp (maxSteps := 1000000) (disch := omega) [-List.getD_eq_getElem?_getD]
      refine hK2 _ ?_; clear hK2
      refine aw_then fun K3 hK3 => ?_
      refine aw_block ?_
      obtain ⟨d, e1, hdm⟩ : ∃ d : Nat, (m : Int).tmod 10 = (d : Int) ∧ d = m % 10 := ⟨m % 10, by rw [Int.tmod_eq_emod_of_nonneg (by omega)]; omega, rfl⟩
      obtain ⟨m', e2, hmm⟩ : ∃ m' : Nat, (m : Int).tdiv 10 = (m' : Int) ∧ m' = m / 10 := ⟨m / 10, by rw [Int.tdiv_eq_ediv_of_nonneg (by omega)]; omega, rfl⟩
      have hd : d < 10 := by omega
      have hs : Lib.decDigits m ++ s = if m' = 0 then UInt8.ofNat (48 + d) :: s else Lib.decDigits m' ++ UInt8.ofNat (48 + d) :: s := by
        split
        · rw [Lib.decDigits, dif_pos (by omega), show m = d by omega]; rfl
        · rw [hdm, hmm]; exact dec_step (by omega) s
      rw [← h3 rfl] at hs
      have hlt : m' < m ∨ m' = 0 := by omega
      have hle : m' ≤ 9223372036854775807 := by omega
      have hby : bytesOf [AV.int .u8 (48 + (d : Int))] = some [UInt8.ofNat (48 + d)] := by
        have : [AV.int .u8 (48 + (d : Int))] = encB [UInt8.ofNat (48 + d)] := by
          simp only [encB, List.map_cons, List.map_nil, List.cons.injEq, and_true, AV.int.injEq, true_and]
          rw [UInt8.toNat_ofNat']; omega
        rw [this]; exact bytesOf_encB _
      have hql2 : 1 + s.length ≤ 20 := by
        have := congrArg List.length hs
        split at this
        · simp at this; omega
        · simp at this; omega
      clear hdm hmm
      generalize UInt8.ofNat (48 + d) = c at hs hby
      refine aw_reg fun K hK => ?_; simp (maxSteps := 1000000) (disch := omega) [-List.getD_eq_getElem?_getD, e1]; refine hK _ ?_; clear hK K
      refine aw_then fun K4 hK4 => ?_
      have b1 : decide ((d : Int) < 0) = false := decide_eq_false (by omega)
      refine aw_reg fun K hK => ?_; simp (maxSteps := 1000000) (disch := omega) [-List.getD_eq_getElem?_getD, b1]; refine hK _ ?_; clear hK K
      refine aw_if rfl (fun h => absurd h (by simp)) (fun h => ?_)
      refine aw_skip ?_; simp (maxSteps := 1000000) (disch := omega) [-List.getD_eq_getElem?_getD]
      refine hK4 _ ?_; clear hK4
      refine aw_reg fun K hK => ?_; simp (maxSteps := 1000000) (disch := omega) [-List.getD_eq_getElem?_getD, hby]; refine hK _ ?_; clear hK K
      refine aw_reg0 fun K hK => ?_; simp (maxSteps := 1000000) (disch := omega) [-List.getD_eq_getElem?_getD, e2]; refine hK _ ?_; clear hK K
      refine hK3 _ ?_; clear hK3
      by_cases hm0 : m' = 0
      · subst hm0
        rw [if_pos rfl] at hs
        refine aw_reg0 fun K hK => ?_; simp (maxSteps := 1000000) (disch := omega) [-List.getD_eq_getElem?_getD]
        refine hK _ ?_; clear hK K
        refine ⟨(0, c :: s, false), ⟨by show 0 ≤ _; omega, by show (c :: s).length ≤ 20; rw [List.length_cons]; omega, fun h => (by cases h), fun _ => hs⟩, by show 0 + 0 < m + 1; omega, ?_⟩
        refine weak_to [] [] ?_ ?_ ?_ ?_ HO ?_
        all_goals simp
      · rw [if_neg hm0] at hs
        have b2 : ((m' : Int) != 0) = true := bne_iff_ne.2 (by omega)
        refine aw_reg0 fun K hK => ?_; simp (maxSteps := 1000000) (disch := omega) [-List.getD_eq_getElem?_getD, b2, hm0]
        refine hK _ ?_; clear hK K
        refine ⟨(m', c :: s, true), ⟨hle, by show (c :: s).length ≤ 20; rw [List.length_cons]; omega, fun _ => hs, fun h => (by cases h)⟩, by show m' + 1 < m + 1; omega, ?_⟩
        refine weak_to [] [] ?_ ?_ ?_ ?_ HO ?_
        all_goals simp
end Go.Proofs.YtfdlngemkhiiiaaGreatDoor
