/- Decimal numerals: strconv.Itoa by the library's contract, and the reference's.
   Conditions: the library's table of powers of ten holds what its text lays. -/
import Derived.Shelf.Strconv.Itoa3
import Derived.Test.YtfdlngemkhiiiaaDoorAmFacts
import Derived.Test.YtfdlngemkhiiiaaDoorAmGlob
namespace Go.Proofs.YtfdlngemkhiiiaaDoor
open Go Go.Am Go.Shelf
set_option linter.unusedVariables false
set_option maxRecDepth 100000
def laysIR : Ren := ⟨fun | 129 => 58 | 171 => 42 | 243 => 48 | 246 => 59 | 283 => 65 | 284 => 66 | 285 => 67 | 286 => 68 | 317 => 70 | 318 => 71 | 319 => 72 | 320 => 73 | 337 => 74 | 338 => 75 | x => x,
  fun | 37 => 44 | 46 => 66 | 51 => 81 | 53 => 83 | 171 => 91 | 173 => 93 | 212 => 99 | 213 => 100 | 232 => 101 | 233 => 102 | x => x, fun | 17 => 0 | 18 => 1 | 19 => 2 | x => x⟩
theorem laysI : LaysM.n171 Tryd.prog laysIR :=
  {
    mixed := by kernel_rfl
    f129 := Tryd.func58.trans (congrArg some (by kernel_rfl))
    f171 := Tryd.func42.trans (congrArg some (by kernel_rfl))
    f243 := Tryd.func48.trans (congrArg some (by kernel_rfl))
    f246 := Tryd.func59.trans (congrArg some (by kernel_rfl))
    f283 := Tryd.func65.trans (congrArg some (by kernel_rfl))
    f284 := Tryd.func66.trans (congrArg some (by kernel_rfl))
    f285 := Tryd.func67.trans (congrArg some (by kernel_rfl))
    f286 := Tryd.func68.trans (congrArg some (by kernel_rfl))
    f317 := Tryd.func70.trans (congrArg some (by kernel_rfl))
    f318 := Tryd.func71.trans (congrArg some (by kernel_rfl))
    f319 := Tryd.func72.trans (congrArg some (by kernel_rfl))
    f320 := Tryd.func73.trans (congrArg some (by kernel_rfl))
    f337 := Tryd.func74.trans (congrArg some (by kernel_rfl))
    f338 := Tryd.func75.trans (congrArg some (by kernel_rfl))
    t0 := Tryd.underlying0
    a0 := Tryd.isAgg0
    z0 := Tryd.sizeOf0
    v0 := Tryd.zeroValue0
    t2 := Tryd.underlying2
    a2 := Tryd.isAgg2
    z2 := Tryd.sizeOf2
    v2 := Tryd.zeroValue2
    t3 := Tryd.underlying3
    a3 := Tryd.isAgg3
    z3 := Tryd.sizeOf3
    v3 := Tryd.zeroValue3
    t4 := Tryd.underlying4
    a4 := Tryd.isAgg4
    z4 := Tryd.sizeOf4
    v4 := Tryd.zeroValue4
    t5 := Tryd.underlying5
    a5 := Tryd.isAgg5
    z5 := Tryd.sizeOf5
    v5 := Tryd.zeroValue5
    t9 := Tryd.underlying9
    a9 := Tryd.isAgg9
    z9 := Tryd.sizeOf9
    v9 := Tryd.zeroValue9
    t20 := Tryd.underlying20
    a20 := Tryd.isAgg20
    z20 := Tryd.sizeOf20
    v20 := Tryd.zeroValue20
    t37 := Tryd.underlying44
    a37 := Tryd.isAgg44
    z37 := Tryd.sizeOf44
    v37 := Tryd.zeroValue44
    t46 := Tryd.underlying66
    a46 := Tryd.isAgg66
    z46 := Tryd.sizeOf66
    v46 := Tryd.zeroValue66
    t51 := Tryd.underlying81
    a51 := Tryd.isAgg81
    z51 := Tryd.sizeOf81
    v51 := Tryd.zeroValue81
    t53 := Tryd.underlying83
    a53 := Tryd.isAgg83
    z53 := Tryd.sizeOf83
    v53 := Tryd.zeroValue83
    t171 := Tryd.underlying91
    a171 := Tryd.isAgg91
    z171 := Tryd.sizeOf91
    v171 := Tryd.zeroValue91
    t173 := Tryd.underlying93
    a173 := Tryd.isAgg93
    z173 := Tryd.sizeOf93
    v173 := Tryd.zeroValue93
    t212 := Tryd.underlying99
    a212 := Tryd.isAgg99
    z212 := Tryd.sizeOf99
    v212 := Tryd.zeroValue99
    t213 := Tryd.underlying100
    a213 := Tryd.isAgg100
    z213 := Tryd.sizeOf100
    t232 := Tryd.underlying101
    a232 := Tryd.isAgg101
    z232 := Tryd.sizeOf101
    v232 := Tryd.zeroValue101
    t233 := Tryd.underlying102
    a233 := Tryd.isAgg102
    z233 := Tryd.sizeOf102
    v233 := Tryd.zeroValue102
    g17 := by kernel_rfl
    g18 := by kernel_rfl
    g19 := by kernel_rfl
    i0 := by kernel_rfl
    i2 := by kernel_rfl
    i3 := by kernel_rfl
    i4 := by kernel_rfl
    i5 := by kernel_rfl
    i9 := by kernel_rfl
    i20 := by kernel_rfl
    i37 := by kernel_rfl
    i46 := by kernel_rfl
    i51 := by kernel_rfl
    i53 := by kernel_rfl
    i171 := by kernel_rfl
    i173 := by kernel_rfl
    i212 := by kernel_rfl
    i232 := by kernel_rfl
    i233 := by kernel_rfl
    m17 := by kernel_rfl
    m18 := by kernel_rfl
    m19 := by kernel_rfl }

/-- The table of powers of ten. -/
def isPow (o : Obj) : Prop := ∃ t fr, o = .cells (Lib.pow10Tab.map fun z => Value.int .u64 z).toArray t fr

theorem below_grow (w : World) (k : Nat) (os : Array Obj) : Go.RowKit.Below w.heap.size w (Go.Sort.grow (w.drewN k) os) :=
  ⟨rfl, rfl, rfl, by simp [Go.Sort.grow, World.drewN], fun i hi => by
    show (w.heap ++ os)[i]? = _
    rw [Array.getElem?_append_left hi]⟩

theorem itoa_ok (n : Int) (h0 : -9223372036854775808 ≤ n) (h1 : n ≤ 9223372036854775807) (H : List Blk) (T : Toks) (hG : Gl H 0 isPow) :
    ACall Tryd.prog 42 [.int .i64 n] H T (Is (.str (Lib.itoa n)) H T) := by
  refine ⟨fun _ _ => Tryd.call42 _ _, fun L w ca hc hl hr => ?_⟩
  obtain ⟨hd, o, ho, t, fr, rfl⟩ := hG.at hc
  have e0 : ca = #[.int .i64 n] := by
    obtain ⟨l⟩ := ca
    have hl2 : l.length = 1 := by simpa using hl
    match l, hl2 with
    | [a], _ =>
      have r0 := hr 0 (by simp) (by simp)
      simp at r0
      cases r0
      rfl
  subst e0
  have htab : Lib.TabIs Tryd.prog w "internal/strconv.uint64pow10" .u64 Lib.pow10Tab := by
    unfold Lib.TabIs World.var?
    rw [show Tryd.prog.globalNamed "internal/strconv.uint64pow10" = some 0 from by kernel_rfl]
    simp [ho]
  refine Calls.mono (Go.Proofs.Any.strconv_Itoa laysI n h0 h1 w htab) ?_
  rintro e w' ⟨rfl, k, os, rfl⟩
  obtain ⟨c1, c2⟩ := hc.belowW (below_grow w k os) (fun e => by rw [hd] at e; cases e)
  exact ⟨_, H, T, L, _, ⟨rfl, rfl, rfl⟩, rfl, c1, .str _, c2⟩

theorem dec_step {m : Nat} (h : ¬ m < 10) (s : List UInt8) : Lib.decDigits m ++ s = Lib.decDigits (m / 10) ++ UInt8.ofNat (48 + m % 10) :: s := by
  rw [Lib.decDigits, dif_neg h, List.append_assoc]; rfl
theorem dec_len {u : Nat} (h : u ≤ 9223372036854775807) : (Lib.decDigits u).length ≤ 20 := by
  have key : ∀ (k u : Nat), u < 10 ^ k → (Lib.decDigits u).length ≤ k + 1 := by
    intro k
    induction k with
    | zero => intro u hu; have : u = 0 := by simpa using hu
              subst this; rw [Lib.decDigits, dif_pos (by omega)]; simp
    | succ k ih =>
      intro u hu
      rw [Lib.decDigits]
      split
      · simp
      · rw [List.length_append]
        have := ih (u / 10) (by rw [Nat.pow_succ] at hu; omega)
        simp; omega
  exact key 19 u (by omega)

set_option maxHeartbeats 4000000 in
theorem itoaR_ok (u : Nat) (hu : u ≤ 9223372036854775807) (H : List Blk) (T : Toks) : ACall Tryd.prog 43 [.int .i64 (u : Nat)] H T (Is (.str (Lib.decDigits u)) H T) := by
  generalize hq : Lib.decDigits u = q
  have hql : q.length ≤ 20 := by rw [← hq]; exact dec_len hu
  refine acall_enter 7 [] Tryd.ntmps43 Tryd.func43 rfl (fun _ _ => Tryd.call43 _ _) (by simp) (fun HO => ?_)
  refine aw_reg fun K hK => ?_; simp (maxSteps := 1000000) (disch := omega) [-List.getD_eq_getElem?_getD]; refine hK _ ?_; clear hK K
  refine aw_reg fun K hK => ?_; simp (maxSteps := 1000000) (disch := omega) [-List.getD_eq_getElem?_getD]; refine hK _ ?_; clear hK K
  refine aw_then fun K1 hK1 => ?_
  have b0 : decide ((u : Int) < 0) = false := decide_eq_false (by omega)
  refine aw_reg fun K hK => ?_; simp (maxSteps := 1000000) (disch := omega) [-List.getD_eq_getElem?_getD, b0]; refine hK _ ?_; clear hK K
  refine aw_if rfl (fun h => absurd h (by simp)) (fun h => ?_)
  refine aw_skip ?_; simp (maxSteps := 1000000) (disch := omega) [-List.getD_eq_getElem?_getD]
  refine hK1 _ ?_; clear hK1
  refine aw_then fun K1 hK1 => ?_
  refine aw_reg fun K hK => ?_; simp (maxSteps := 1000000) (disch := omega) [-List.getD_eq_getElem?_getD]; refine hK _ ?_; clear hK K
  refine aw_block ?_
  refine aw_loop (X := Nat × List UInt8 × Bool) (fun x => ⟨[(0, .int .i64 (x.1 : Nat)), (3, .str x.2.1), (4, .str []), (5, .bool x.2.2)], H, T⟩) (fun x => x.1 ≤ 9223372036854775807 ∧ x.2.1.length ≤ 20 ∧ (x.2.2 = true → q = Lib.decDigits x.1 ++ x.2.1) ∧ (x.2.2 = false → q = x.2.1)) (fun x => x.1 + (if x.2.2 then 1 else 0)) (u, [], true) ?_ ?_ ?_
  · exact ⟨hu, by simp, fun _ => by simp [hq], fun h => by cases h⟩
  · refine weak_to [] [] ?_ ?_ ?_ ?_ HO ?_
    all_goals simp
  · rintro ⟨m, s, b⟩ ⟨h1, h2, h3, h4⟩
    simp only at h1 h2 h3 h4
    refine aw_then fun K2 hK2 => ?_
    refine aw_reg fun K hK => ?_; simp (maxSteps := 1000000) (disch := omega) [-List.getD_eq_getElem?_getD]; refine hK _ ?_; clear hK K
    cases b with
    | false =>
      refine aw_if rfl (fun h => absurd h (by simp)) (fun h => ?_)
      refine aw_exit ?_; simp (maxSteps := 1000000) (disch := omega) [-List.getD_eq_getElem?_getD]
      refine hK1 _ ?_; clear hK1
      refine aw_reg fun K hK => ?_; simp (maxSteps := 1000000) (disch := omega) [-List.getD_eq_getElem?_getD]; refine hK _ ?_; clear hK K
      refine aw_ret ?_; simp (maxSteps := 1000000) (disch := omega) [-List.getD_eq_getElem?_getD]
      rw [h4 rfl]
      exact ⟨rfl, rfl, rfl⟩
    | true =>
      refine aw_if rfl (fun h => ?_) (fun h => absurd h (by simp))
      refine aw_skip ?_; simp (maxSteps := 1000000) (disch := omega) [-List.getD_eq_getElem?_getD]
      refine hK2 _ ?_; clear hK2
      refine aw_then fun K3 hK3 => ?_
      refine aw_block ?_
      obtain ⟨d, e1, hdm⟩ : ∃ d : Nat, (m : Int).tmod 10 = (d : Int) ∧ d = m % 10 := ⟨m % 10, by rw [Int.tmod_eq_emod_of_nonneg (by omega)]; omega, rfl⟩
      obtain ⟨m', e2, hmm⟩ : ∃ m' : Nat, (m : Int).tdiv 10 = (m' : Int) ∧ m' = m / 10 := ⟨m / 10, by rw [Int.tdiv_eq_ediv_of_nonneg (by omega)]; omega, rfl⟩
      have hd : d < 10 := by omega
      have hs : Lib.decDigits m ++ s = if m' = 0 then UInt8.ofNat (48 + d) :: s else Lib.decDigits m' ++ UInt8.ofNat (48 + d) :: s := by
        split
        · rw [Lib.decDigits, dif_pos (by omega), show m = d by omega]; rfl
        · rw [hdm, hmm]; exact dec_step (by omega) s
      rw [← h3 rfl] at hs
      have hlt : m' < m ∨ m' = 0 := by omega
      have hle : m' ≤ 9223372036854775807 := by omega
      have hby : bytesOf [AV.int .u8 (48 + (d : Int))] = some [UInt8.ofNat (48 + d)] := by
        have : [AV.int .u8 (48 + (d : Int))] = encB [UInt8.ofNat (48 + d)] := by
          simp only [encB, List.map_cons, List.map_nil, List.cons.injEq, and_true, AV.int.injEq, true_and]
          rw [UInt8.toNat_ofNat']; omega
        rw [this]; exact bytesOf_encB _
      have hql2 : 1 + s.length ≤ 20 := by
        have := congrArg List.length hs
        split at this
        · simp at this; omega
        · simp at this; omega
      clear hdm hmm
      generalize UInt8.ofNat (48 + d) = c at hs hby
      refine aw_reg fun K hK => ?_; simp (maxSteps := 1000000) (disch := omega) [-List.getD_eq_getElem?_getD, e1]; refine hK _ ?_; clear hK K
      refine aw_then fun K4 hK4 => ?_
      have b1 : decide ((d : Int) < 0) = false := decide_eq_false (by omega)
      refine aw_reg fun K hK => ?_; simp (maxSteps := 1000000) (disch := omega) [-List.getD_eq_getElem?_getD, b1]; refine hK _ ?_; clear hK K
      refine aw_if rfl (fun h => absurd h (by simp)) (fun h => ?_)
      refine aw_skip ?_; simp (maxSteps := 1000000) (disch := omega) [-List.getD_eq_getElem?_getD]
      refine hK4 _ ?_; clear hK4
      refine aw_reg fun K hK => ?_; simp (maxSteps := 1000000) (disch := omega) [-List.getD_eq_getElem?_getD, hby]; refine hK _ ?_; clear hK K
      refine aw_reg0 fun K hK => ?_; simp (maxSteps := 1000000) (disch := omega) [-List.getD_eq_getElem?_getD, e2]; refine hK _ ?_; clear hK K
      refine hK3 _ ?_; clear hK3
      by_cases hm0 : m' = 0
      · subst hm0
        rw [if_pos rfl] at hs
        refine aw_reg0 fun K hK => ?_; simp (maxSteps := 1000000) (disch := omega) [-List.getD_eq_getElem?_getD]
        refine hK _ ?_; clear hK K
        refine ⟨(0, c :: s, false), ⟨by show 0 ≤ _; omega, by show (c :: s).length ≤ 20; rw [List.length_cons]; omega, fun h => (by cases h), fun _ => hs⟩, by show 0 + 0 < m + 1; omega, ?_⟩
        refine weak_to [] [] ?_ ?_ ?_ ?_ HO ?_
        all_goals simp
      · rw [if_neg hm0] at hs
        have b2 : ((m' : Int) != 0) = true := bne_iff_ne.2 (by omega)
        refine aw_reg0 fun K hK => ?_; simp (maxSteps := 1000000) (disch := omega) [-List.getD_eq_getElem?_getD, b2, hm0]
        refine hK _ ?_; clear hK K
        refine ⟨(m', c :: s, true), ⟨hle, by show (c :: s).length ≤ 20; rw [List.length_cons]; omega, fun _ => hs, fun h => (by cases h)⟩, by show m' + 1 < m + 1; omega, ?_⟩
        refine weak_to [] [] ?_ ?_ ?_ ?_ HO ?_
        all_goals simp
end Go.Proofs.YtfdlngemkhiiiaaDoor
