/- Decimal numerals: strconv.Itoa by the library's contract, and the reference's.
   Conditions: the library's table of powers of ten holds what its text lays. -/
import Derived.Shelf.Strconv.Itoa3
import Derived.Test.YtnmlpohhommagaaGreatDoorAmFacts
import Derived.Test.YtnmlpohhommagaaGreatDoorAmGlob
namespace Go.Proofs.YtnmlpohhommagaaGreatDoor
open Go Go.Am Go.Shelf
set_option linter.unusedVariables false
set_option maxRecDepth 100000
set_option maxRecDepth 100000
def laysIR : Ren := ⟨fun | 129 => 132 | 171 => 72 | 243 => 87 | 246 => 101 | 283 => 118 | 284 => 119 | 285 => 120 | 286 => 121 | 317 => 131 | 318 => 133 | 319 => 134 | 320 => 135 | 337 => 138 | 338 => 139 | x => x,
  fun | 37 => 38 | 46 => 63 | 51 => 124 | 53 => 119 | 171 => 118 | 173 => 122 | 212 => 140 | 213 => 141 | 232 => 149 | 233 => 150 | x => x, fun | 17 => 5 | 18 => 6 | 19 => 7 | x => x⟩
theorem laysI : LaysM.n171 Tryz.prog laysIR :=
  {
    mixed := by kernel_rfl
    f129 := Tryz.func132.trans (congrArg some (by kernel_rfl))
    f171 := Tryz.func72.trans (congrArg some (by kernel_rfl))
    f243 := Tryz.func87.trans (congrArg some (by kernel_rfl))
    f246 := Tryz.func101.trans (congrArg some (by kernel_rfl))
    f283 := Tryz.func118.trans (congrArg some (by kernel_rfl))
    f284 := Tryz.func119.trans (congrArg some (by kernel_rfl))
    f285 := Tryz.func120.trans (congrArg some (by kernel_rfl))
    f286 := Tryz.func121.trans (congrArg some (by kernel_rfl))
    f317 := Tryz.func131.trans (congrArg some (by kernel_rfl))
    f318 := Tryz.func133.trans (congrArg some (by kernel_rfl))
    f319 := Tryz.func134.trans (congrArg some (by kernel_rfl))
    f320 := Tryz.func135.trans (congrArg some (by kernel_rfl))
    f337 := Tryz.func138.trans (congrArg some (by kernel_rfl))
    f338 := Tryz.func139.trans (congrArg some (by kernel_rfl))
    t0 := Tryz.underlying0
    a0 := Tryz.isAgg0
    z0 := Tryz.sizeOf0
    v0 := Tryz.zeroValue0
    t2 := Tryz.underlying2
    a2 := Tryz.isAgg2
    z2 := Tryz.sizeOf2
    v2 := Tryz.zeroValue2
    t3 := Tryz.underlying3
    a3 := Tryz.isAgg3
    z3 := Tryz.sizeOf3
    v3 := Tryz.zeroValue3
    t4 := Tryz.underlying4
    a4 := Tryz.isAgg4
    z4 := Tryz.sizeOf4
    v4 := Tryz.zeroValue4
    t5 := Tryz.underlying5
    a5 := Tryz.isAgg5
    z5 := Tryz.sizeOf5
    v5 := Tryz.zeroValue5
    t9 := Tryz.underlying9
    a9 := Tryz.isAgg9
    z9 := Tryz.sizeOf9
    v9 := Tryz.zeroValue9
    t20 := Tryz.underlying20
    a20 := Tryz.isAgg20
    z20 := Tryz.sizeOf20
    v20 := Tryz.zeroValue20
    t37 := Tryz.underlying38
    a37 := Tryz.isAgg38
    z37 := Tryz.sizeOf38
    v37 := Tryz.zeroValue38
    t46 := Tryz.underlying63
    a46 := Tryz.isAgg63
    z46 := Tryz.sizeOf63
    v46 := Tryz.zeroValue63
    t51 := Tryz.underlying124
    a51 := Tryz.isAgg124
    z51 := Tryz.sizeOf124
    v51 := Tryz.zeroValue124
    t53 := Tryz.underlying119
    a53 := Tryz.isAgg119
    z53 := Tryz.sizeOf119
    v53 := Tryz.zeroValue119
    t171 := Tryz.underlying118
    a171 := Tryz.isAgg118
    z171 := Tryz.sizeOf118
    v171 := Tryz.zeroValue118
    t173 := Tryz.underlying122
    a173 := Tryz.isAgg122
    z173 := Tryz.sizeOf122
    v173 := Tryz.zeroValue122
    t212 := Tryz.underlying140
    a212 := Tryz.isAgg140
    z212 := Tryz.sizeOf140
    v212 := Tryz.zeroValue140
    t213 := Tryz.underlying141
    a213 := Tryz.isAgg141
    z213 := Tryz.sizeOf141
    t232 := Tryz.underlying149
    a232 := Tryz.isAgg149
    z232 := Tryz.sizeOf149
    v232 := Tryz.zeroValue149
    t233 := Tryz.underlying150
    a233 := Tryz.isAgg150
    z233 := Tryz.sizeOf150
    v233 := Tryz.zeroValue150
    g17 := by kernel_rfl
    g18 := by kernel_rfl
    g19 := by kernel_rfl
    i0 := by kernel_rfl
    i2 := by kernel_rfl
    i3 := by kernel_rfl
    i4 := by kernel_rfl
    i5 := by kernel_rfl
    i9 := by kernel_rfl
    i20 := by kernel_rfl
    i37 := by kernel_rfl
    i46 := by kernel_rfl
    i51 := by kernel_rfl
    i53 := by kernel_rfl
    i171 := by kernel_rfl
    i173 := by kernel_rfl
    i212 := by kernel_rfl
    i232 := by kernel_rfl
    i233 := by kernel_rfl
    m17 := by kernel_rfl
    m18 := by kernel_rfl
    m19 := by kernel_rfl }

/-- The table of powers of ten. -/
def isPow (o : Obj) : Prop := ∃ t fr, o = .cells (Lib.pow10Tab.map fun z => Value.int .u64 z).toArray t fr

theorem below_grow (w : World) (k : Nat) (os : Array Obj) : Go.RowKit.Below w.heap.size w (Go.Sort.grow (w.drewN k) os) :=
  ⟨rfl, rfl, rfl, by simp [Go.Sort.grow, World.drewN], fun i hi => by
    show (w.heap ++ os)[i]? = _
    rw [Array.getElem?_append_left hi]⟩

theorem itoa_ok (n : Int) (h0 : -9223372036854775808 ≤ n) (h1 : n ≤ 9223372036854775807) (H : List Blk) (T : Toks) (hG : Gl H 5 isPow) :
    ACall Tryz.prog 72 [.int .i64 n] H T (Is (.str (Lib.itoa n)) H T) := by
  refine ⟨fun _ _ => Tryz.call72 _ _, fun L w ca hc hl hr => ?_⟩
  obtain ⟨hd, o, ho, t, fr, rfl⟩ := hG.at hc
  have e0 : ca = #[.int .i64 n] := by
    obtain ⟨l⟩ := ca
    have hl2 : l.length = 1 := by simpa using hl
    match l, hl2 with
    | [a], _ =>
      have r0 := hr 0 (by simp) (by simp)
      simp at r0
      cases r0
      rfl
  subst e0
  have htab : Lib.TabIs Tryz.prog w "internal/strconv.uint64pow10" .u64 Lib.pow10Tab := by
    unfold Lib.TabIs World.var?
    rw [show Tryz.prog.globalNamed "internal/strconv.uint64pow10" = some 5 from by kernel_rfl]
    simp [ho]
  refine Calls.mono (Go.Proofs.Any.strconv_Itoa laysI n h0 h1 w htab) ?_
  rintro e w' ⟨rfl, k, os, rfl⟩
  obtain ⟨c1, c2⟩ := hc.belowW (below_grow w k os) (fun e => by rw [hd] at e; cases e)
  exact ⟨_, H, T, L, _, ⟨rfl, rfl, rfl⟩, rfl, c1, .str _, c2⟩

theorem dec_step {m : Nat} (h : ¬ m < 10) (s : List UInt8) : Lib.decDigits m ++ s = Lib.decDigits (m / 10) ++ UInt8.ofNat (48 + m % 10) :: s := by
  rw [Lib.decDigits, dif_neg h, List.append_assoc]; rfl
theorem dec_len {u : Nat} (h : u ≤ 9223372036854775807) : (Lib.decDigits u).length ≤ 20 := by
  have key : ∀ (k u : Nat), u < 10 ^ k → (Lib.decDigits u).length ≤ k + 1 := by
    intro k
    induction k with
    | zero => intro u hu; have : u = 0 := by simpa using hu
              subst this; rw [Lib.decDigits, dif_pos (by omega)]; simp
    | succ k ih =>
      intro u hu
      rw [Lib.decDigits]
      split
      · simp
      · rw [List.length_append]
        have := ih (u / 10) (by rw [Nat.pow_succ] at hu; omega)
        simp; omega
  exact key 19 u (by omega)

end Go.Proofs.YtnmlpohhommagaaGreatDoor
