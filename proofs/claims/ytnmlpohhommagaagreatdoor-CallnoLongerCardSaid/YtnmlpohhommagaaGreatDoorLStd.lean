/- The library's Cut, Split and Atoi as contracts of the abstract machine.
   Conditions: a separator of one byte; the library's own variables hold values of their types. -/
import Derived.Shelf.Strings.Split
import Derived.Shelf.Strings.Cut
import Derived.Shelf.Strconv.AtoiAll
import Derived.Test.YtnmlpohhommagaaGreatDoorAmFacts
import Derived.Test.YtnmlpohhommagaaGreatDoorAmGlob
import Derived.Test.YtnmlpohhommagaaGreatDoorLLib
import Derived.Lib.SmallJoins
namespace Go.Proofs.YtnmlpohhommagaaGreatDoor
open Go Go.Am Go.Shelf Lst
set_option linter.unusedVariables false
set_option maxRecDepth 100000
set_option maxRecDepth 100000
def laysCutR : Ren := ⟨fun | 145 => 52 | 217 => 104 | 219 => 92 | 220 => 75 | 224 => 106 | 225 => 105 | 266 => 122 | 267 => 107 | 314 => 123 | x => x,
  fun | 46 => 63 | 51 => 124 | 59 => 68 | 146 => 125 | x => x, fun | 1 => 0 | x => x⟩
theorem laysCut : Lays.n145 Tryz.prog laysCutR :=
  {
    mixed := by kernel_rfl
    f145 := Tryz.func52.trans (congrArg some (by kernel_rfl))
    f217 := Tryz.func104.trans (congrArg some (by kernel_rfl))
    f219 := Tryz.func92.trans (congrArg some (by kernel_rfl))
    f220 := Tryz.func75.trans (congrArg some (by kernel_rfl))
    f224 := Tryz.func106.trans (congrArg some (by kernel_rfl))
    f225 := Tryz.func105.trans (congrArg some (by kernel_rfl))
    f266 := Tryz.func122.trans (congrArg some (by kernel_rfl))
    f267 := Tryz.func107.trans (congrArg some (by kernel_rfl))
    f314 := Tryz.func123.trans (congrArg some (by kernel_rfl))
    t3 := Tryz.underlying3
    a3 := Tryz.isAgg3
    z3 := Tryz.sizeOf3
    v3 := Tryz.zeroValue3
    t4 := Tryz.underlying4
    a4 := Tryz.isAgg4
    z4 := Tryz.sizeOf4
    v4 := Tryz.zeroValue4
    t5 := Tryz.underlying5
    a5 := Tryz.isAgg5
    z5 := Tryz.sizeOf5
    v5 := Tryz.zeroValue5
    t9 := Tryz.underlying9
    a9 := Tryz.isAgg9
    z9 := Tryz.sizeOf9
    v9 := Tryz.zeroValue9
    t46 := Tryz.underlying63
    a46 := Tryz.isAgg63
    z46 := Tryz.sizeOf63
    v46 := Tryz.zeroValue63
    t51 := Tryz.underlying124
    a51 := Tryz.isAgg124
    z51 := Tryz.sizeOf124
    v51 := Tryz.zeroValue124
    t59 := Tryz.underlying68
    a59 := Tryz.isAgg68
    z59 := Tryz.sizeOf68
    v59 := Tryz.zeroValue68
    t146 := Tryz.underlying125
    a146 := Tryz.isAgg125
    z146 := Tryz.sizeOf125
    v146 := Tryz.zeroValue125
    g1 := by kernel_rfl }
def laysSplitR : Ren := ⟨fun | 138 => 90 | 143 => 91 | 146 => 51 | 195 => 102 | 197 => 94 | 217 => 104 | 218 => 103 | 219 => 92 | 221 => 74 | 224 => 106 | 225 => 105 | 260 => 108 | 266 => 122 | 267 => 107 | 268 => 89 | 314 => 123 | x => x,
  fun | 31 => 22 | 46 => 63 | 51 => 124 | 105 => 103 | 119 => 127 | 138 => 129 | 139 => 130 | 146 => 125 | x => x, fun | 1 => 0 | 3 => 1 | 4 => 2 | x => x⟩
theorem laysSplit : Lays.n146 Tryz.prog laysSplitR :=
  {
    mixed := by kernel_rfl
    f138 := Tryz.func90.trans (congrArg some (by kernel_rfl))
    f143 := Tryz.func91.trans (congrArg some (by kernel_rfl))
    f146 := Tryz.func51.trans (congrArg some (by kernel_rfl))
    f195 := Tryz.func102.trans (congrArg some (by kernel_rfl))
    f197 := Tryz.func94.trans (congrArg some (by kernel_rfl))
    f217 := Tryz.func104.trans (congrArg some (by kernel_rfl))
    f218 := Tryz.func103.trans (congrArg some (by kernel_rfl))
    f219 := Tryz.func92.trans (congrArg some (by kernel_rfl))
    f221 := Tryz.func74.trans (congrArg some (by kernel_rfl))
    f224 := Tryz.func106.trans (congrArg some (by kernel_rfl))
    f225 := Tryz.func105.trans (congrArg some (by kernel_rfl))
    f260 := Tryz.func108.trans (congrArg some (by kernel_rfl))
    f266 := Tryz.func122.trans (congrArg some (by kernel_rfl))
    f267 := Tryz.func107.trans (congrArg some (by kernel_rfl))
    f268 := Tryz.func89.trans (congrArg some (by kernel_rfl))
    f314 := Tryz.func123.trans (congrArg some (by kernel_rfl))
    t0 := Tryz.underlying0
    a0 := Tryz.isAgg0
    z0 := Tryz.sizeOf0
    v0 := Tryz.zeroValue0
    t3 := Tryz.underlying3
    a3 := Tryz.isAgg3
    z3 := Tryz.sizeOf3
    v3 := Tryz.zeroValue3
    t4 := Tryz.underlying4
    a4 := Tryz.isAgg4
    z4 := Tryz.sizeOf4
    v4 := Tryz.zeroValue4
    t5 := Tryz.underlying5
    a5 := Tryz.isAgg5
    z5 := Tryz.sizeOf5
    v5 := Tryz.zeroValue5
    t9 := Tryz.underlying9
    a9 := Tryz.isAgg9
    z9 := Tryz.sizeOf9
    v9 := Tryz.zeroValue9
    t21 := Tryz.underlying21
    a21 := Tryz.isAgg21
    z21 := Tryz.sizeOf21
    v21 := Tryz.zeroValue21
    t31 := Tryz.underlying22
    a31 := Tryz.isAgg22
    z31 := Tryz.sizeOf22
    v31 := Tryz.zeroValue22
    t46 := Tryz.underlying63
    a46 := Tryz.isAgg63
    z46 := Tryz.sizeOf63
    v46 := Tryz.zeroValue63
    t51 := Tryz.underlying124
    a51 := Tryz.isAgg124
    z51 := Tryz.sizeOf124
    v51 := Tryz.zeroValue124
    t105 := Tryz.underlying103
    a105 := Tryz.isAgg103
    z105 := Tryz.sizeOf103
    v105 := Tryz.zeroValue103
    t119 := Tryz.underlying127
    a119 := Tryz.isAgg127
    z119 := Tryz.sizeOf127
    t138 := Tryz.underlying129
    a138 := Tryz.isAgg129
    z138 := Tryz.sizeOf129
    v138 := Tryz.zeroValue129
    t139 := Tryz.underlying130
    a139 := Tryz.isAgg130
    z139 := Tryz.sizeOf130
    v139 := Tryz.zeroValue130
    t146 := Tryz.underlying125
    a146 := Tryz.isAgg125
    z146 := Tryz.sizeOf125
    v146 := Tryz.zeroValue125
    g1 := by kernel_rfl
    g3 := by kernel_rfl
    g4 := by kernel_rfl }
def laysAtoiR : Ren := ⟨fun | 129 => 132 | 171 => 72 | 172 => 80 | 205 => 128 | 243 => 87 | 244 => 96 | 245 => 97 | 246 => 101 | 247 => 110 | 279 => 111 | 280 => 112 | 281 => 113 | 282 => 114 | 283 => 118 | 284 => 119 | 285 => 120 | 286 => 121 | 287 => 126 | 316 => 127 | 317 => 131 | 318 => 133 | 319 => 134 | 320 => 135 | 321 => 136 | 322 => 137 | 337 => 138 | 338 => 139 | x => x,
  fun | 37 => 38 | 46 => 63 | 51 => 124 | 53 => 119 | 75 => 95 | 76 => 96 | 80 => 79 | 85 => 112 | 127 => 144 | 143 => 145 | 145 => 147 | 167 => 111 | 168 => 114 | 171 => 118 | 173 => 122 | 175 => 132 | 210 => 136 | 212 => 140 | 213 => 141 | 232 => 149 | 233 => 150 | x => x, fun | 15 => 3 | 16 => 4 | 17 => 5 | 18 => 6 | 19 => 7 | x => x⟩
theorem laysAtoi : LaysC.n172 Tryz.prog laysAtoiR :=
  {
    mixed := by kernel_rfl
    f129 := Tryz.func132.trans (congrArg some (by kernel_rfl))
    f171 := Tryz.func72.trans (congrArg some (by kernel_rfl))
    f172 := Tryz.func80.trans (congrArg some (by kernel_rfl))
    f205 := Tryz.func128.trans (congrArg some (by kernel_rfl))
    f243 := Tryz.func87.trans (congrArg some (by kernel_rfl))
    f244 := Tryz.func96.trans (congrArg some (by kernel_rfl))
    f245 := Tryz.func97.trans (congrArg some (by kernel_rfl))
    f246 := Tryz.func101.trans (congrArg some (by kernel_rfl))
    f247 := Tryz.func110.trans (congrArg some (by kernel_rfl))
    f279 := Tryz.func111.trans (congrArg some (by kernel_rfl))
    f280 := Tryz.func112.trans (congrArg some (by kernel_rfl))
    f281 := Tryz.func113.trans (congrArg some (by kernel_rfl))
    f282 := Tryz.func114.trans (congrArg some (by kernel_rfl))
    f283 := Tryz.func118.trans (congrArg some (by kernel_rfl))
    f284 := Tryz.func119.trans (congrArg some (by kernel_rfl))
    f285 := Tryz.func120.trans (congrArg some (by kernel_rfl))
    f286 := Tryz.func121.trans (congrArg some (by kernel_rfl))
    f287 := Tryz.func126.trans (congrArg some (by kernel_rfl))
    f316 := Tryz.func127.trans (congrArg some (by kernel_rfl))
    f317 := Tryz.func131.trans (congrArg some (by kernel_rfl))
    f318 := Tryz.func133.trans (congrArg some (by kernel_rfl))
    f319 := Tryz.func134.trans (congrArg some (by kernel_rfl))
    f320 := Tryz.func135.trans (congrArg some (by kernel_rfl))
    f321 := Tryz.func136.trans (congrArg some (by kernel_rfl))
    f322 := Tryz.func137.trans (congrArg some (by kernel_rfl))
    f337 := Tryz.func138.trans (congrArg some (by kernel_rfl))
    f338 := Tryz.func139.trans (congrArg some (by kernel_rfl))
    t0 := Tryz.underlying0
    a0 := Tryz.isAgg0
    z0 := Tryz.sizeOf0
    v0 := Tryz.zeroValue0
    t2 := Tryz.underlying2
    a2 := Tryz.isAgg2
    z2 := Tryz.sizeOf2
    v2 := Tryz.zeroValue2
    t3 := Tryz.underlying3
    a3 := Tryz.isAgg3
    z3 := Tryz.sizeOf3
    v3 := Tryz.zeroValue3
    t4 := Tryz.underlying4
    a4 := Tryz.isAgg4
    z4 := Tryz.sizeOf4
    v4 := Tryz.zeroValue4
    t5 := Tryz.underlying5
    a5 := Tryz.isAgg5
    z5 := Tryz.sizeOf5
    v5 := Tryz.zeroValue5
    t9 := Tryz.underlying9
    a9 := Tryz.isAgg9
    z9 := Tryz.sizeOf9
    v9 := Tryz.zeroValue9
    t20 := Tryz.underlying20
    a20 := Tryz.isAgg20
    z20 := Tryz.sizeOf20
    v20 := Tryz.zeroValue20
    t21 := Tryz.underlying21
    a21 := Tryz.isAgg21
    z21 := Tryz.sizeOf21
    v21 := Tryz.zeroValue21
    t37 := Tryz.underlying38
    a37 := Tryz.isAgg38
    z37 := Tryz.sizeOf38
    v37 := Tryz.zeroValue38
    t46 := Tryz.underlying63
    a46 := Tryz.isAgg63
    z46 := Tryz.sizeOf63
    v46 := Tryz.zeroValue63
    t51 := Tryz.underlying124
    a51 := Tryz.isAgg124
    z51 := Tryz.sizeOf124
    v51 := Tryz.zeroValue124
    t53 := Tryz.underlying119
    a53 := Tryz.isAgg119
    z53 := Tryz.sizeOf119
    v53 := Tryz.zeroValue119
    t75 := Tryz.underlying95
    a75 := Tryz.isAgg95
    z75 := Tryz.sizeOf95
    v75 := Tryz.zeroValue95
    t76 := Tryz.underlying96
    a76 := Tryz.isAgg96
    z76 := Tryz.sizeOf96
    v76 := Tryz.zeroValue96
    t85 := Tryz.underlying112
    a85 := Tryz.isAgg112
    z85 := Tryz.sizeOf112
    v85 := Tryz.zeroValue112
    t127 := Tryz.underlying144
    a127 := Tryz.isAgg144
    z127 := Tryz.sizeOf144
    v127 := Tryz.zeroValue144
    t143 := Tryz.underlying145
    a143 := Tryz.isAgg145
    z143 := Tryz.sizeOf145
    v143 := Tryz.zeroValue145
    t145 := Tryz.underlying147
    a145 := Tryz.isAgg147
    z145 := Tryz.sizeOf147
    v145 := Tryz.zeroValue147
    t167 := Tryz.underlying111
    a167 := Tryz.isAgg111
    z167 := Tryz.sizeOf111
    v167 := Tryz.zeroValue111
    t168 := Tryz.underlying114
    a168 := Tryz.isAgg114
    z168 := Tryz.sizeOf114
    v168 := Tryz.zeroValue114
    t171 := Tryz.underlying118
    a171 := Tryz.isAgg118
    z171 := Tryz.sizeOf118
    v171 := Tryz.zeroValue118
    t173 := Tryz.underlying122
    a173 := Tryz.isAgg122
    z173 := Tryz.sizeOf122
    v173 := Tryz.zeroValue122
    t175 := Tryz.underlying132
    a175 := Tryz.isAgg132
    z175 := Tryz.sizeOf132
    v175 := Tryz.zeroValue132
    t210 := Tryz.underlying136
    a210 := Tryz.isAgg136
    z210 := Tryz.sizeOf136
    v210 := Tryz.zeroValue136
    t212 := Tryz.underlying140
    a212 := Tryz.isAgg140
    z212 := Tryz.sizeOf140
    v212 := Tryz.zeroValue140
    t213 := Tryz.underlying141
    a213 := Tryz.isAgg141
    z213 := Tryz.sizeOf141
    t232 := Tryz.underlying149
    a232 := Tryz.isAgg149
    z232 := Tryz.sizeOf149
    v232 := Tryz.zeroValue149
    t233 := Tryz.underlying150
    a233 := Tryz.isAgg150
    z233 := Tryz.sizeOf150
    v233 := Tryz.zeroValue150
    g15 := by kernel_rfl
    g16 := by kernel_rfl
    g17 := by kernel_rfl
    g18 := by kernel_rfl
    g19 := by kernel_rfl
    t80 := Tryz.underlying79
    a80 := Tryz.isAgg79
    z80 := Tryz.sizeOf79
    v80 := Tryz.zeroValue79
    i0 := by kernel_rfl
    i2 := by kernel_rfl
    i3 := by kernel_rfl
    i4 := by kernel_rfl
    i5 := by kernel_rfl
    i9 := by kernel_rfl
    i20 := by kernel_rfl
    i21 := by kernel_rfl
    i37 := by kernel_rfl
    i46 := by kernel_rfl
    i51 := by kernel_rfl
    i53 := by kernel_rfl
    i75 := by kernel_rfl
    i76 := by kernel_rfl
    i80 := by kernel_rfl
    i85 := by kernel_rfl
    i127 := by kernel_rfl
    i143 := by kernel_rfl
    i145 := by kernel_rfl
    i167 := by kernel_rfl
    i168 := by kernel_rfl
    i171 := by kernel_rfl
    i173 := by kernel_rfl
    i175 := by kernel_rfl
    i210 := by kernel_rfl
    i212 := by kernel_rfl
    i232 := by kernel_rfl
    i233 := by kernel_rfl
    m15 := by kernel_rfl
    m16 := by kernel_rfl
    m17 := by kernel_rfl
    m18 := by kernel_rfl
    m19 := by kernel_rfl
    c0 := by kernel_rfl
    c2 := by kernel_rfl
    c3 := by kernel_rfl
    c4 := by kernel_rfl
    c5 := by kernel_rfl
    c9 := by kernel_rfl
    c20 := by kernel_rfl
    c21 := by kernel_rfl
    c37 := by kernel_rfl
    c46 := by kernel_rfl
    c51 := by kernel_rfl
    c53 := by kernel_rfl
    c75 := by kernel_rfl
    c76 := by kernel_rfl
    c80 := by kernel_rfl
    c85 := by kernel_rfl
    c127 := by kernel_rfl
    c143 := by kernel_rfl
    c145 := by kernel_rfl
    c167 := by kernel_rfl
    c168 := by kernel_rfl
    c171 := by kernel_rfl
    c173 := by kernel_rfl
    c175 := by kernel_rfl
    c210 := by kernel_rfl
    c212 := by kernel_rfl
    c213 := by kernel_rfl
    c232 := by kernel_rfl
    c233 := by kernel_rfl }

/-- One integer. -/
def isOne (o : Obj) : Prop := ∃ (cs : Array Value) (m : Int) (t : TypeId) (fr : Nat × Nat), o = .cells cs t fr ∧ cs[0]? = some (.int .i64 m)
/-- One error, or none. -/
def isErr (o : Obj) : Prop := ∃ ev t fr, o = .cells #[ev] t fr ∧ (ev = .nilIface ∨ ∃ te pe, ev = .iface te pe)

theorem two {ca : Array Value} {a b : AV} (hl : ca.size = [a, b].length) : ∃ x y, ca = #[x, y] := by
  obtain ⟨s⟩ := ca
  have hl2 : s.length = 2 := by simpa using hl
  match s, hl2 with
  | [x, y], _ => exact ⟨x, y, rfl⟩
theorem size_str (s : List UInt8) : (⟨s.toArray⟩ : ByteArray).size = s.length := by simp [ByteArray.size]

theorem below_drewN (w : World) (k : Nat) : Go.RowKit.Below w.heap.size w (w.drewN k) := ⟨rfl, rfl, rfl, Nat.le_refl _, fun i hi => rfl⟩

theorem cut_ok (c : UInt8) (s : List UInt8) (hs : s.length < 4294967281) (H : List Blk) (T : Toks) (hG : Gl H 0 isOne) :
    ACall Tryz.prog 52 [.str s, .str [c]] H T (Is (.tup [.str (cutT c s).1, .str (cutT c s).2.1, .bool (cutT c s).2.2]) H T) := by
  refine ⟨fun _ _ => Tryz.call52 _ _, fun L w ca hc hl hr => ?_⟩
  obtain ⟨hd, o, ho, cs, m, t, fr, rfl, hm⟩ := hG.at hc
  obtain ⟨x, y, rfl⟩ := two hl
  have h0 : Rep L H.length T w (.str s) x := hr 0 (by simp) (by simp)
  have h1 : Rep L H.length T w (.str [c]) y := hr 1 (by simp) (by simp)
  rw [h0.str_inv, h1.str_inv]
  refine Calls.mono (Go.Proofs.Any.strings_Cut laysCut _ _ m w (by rw [size_str]; exact hs) (by rw [show laysCutR.g 1 = 0 from by kernel_rfl, cell_row ho]; exact hm)) ?_
  rintro e w' ⟨rfl, k, rfl⟩
  obtain ⟨c1, c2⟩ := hc.belowW (below_drewN w k) (fun e => by rw [hd] at e; cases e)
  have e0 := cut_one c s
  refine ⟨_, H, T, L, _, ⟨rfl, rfl, rfl⟩, rfl, c1, .tup _ _ rfl (fun j h1 h2 => ?_), c2⟩
  have e1 : Lib.cut (⟨s.toArray⟩ : ByteArray).data.toList (⟨[c].toArray⟩ : ByteArray).data.toList = cutT c s := e0
  match j, h1 with
  | 0, _ => show Rep L H.length T _ (.str (cutT c s).1) (.string ⟨_⟩); rw [e1]; exact .str _
  | 1, _ => show Rep L H.length T _ (.str (cutT c s).2.1) (.string ⟨_⟩); rw [e1]; exact .str _
  | 2, _ => show Rep L H.length T _ (.bool (cutT c s).2.2) (.bool _); rw [e1]; exact .bool _

theorem repStrs {L : Lay} {N : Nat} {T : Toks} {w : World} (zs : List (List UInt8)) : RepC L N T w (strs zs) (zs.map fun z => Value.string ⟨z.toArray⟩) :=
  ⟨by simp [strs], fun j h => by simp [Value.oneCell'], fun j h h' => by simp only [strs, List.getElem_map]; exact .str _⟩

theorem split_ok (c : UInt8) (s : List UInt8) (hs : s.length < 4294967281) (H : List Blk) (T : Toks) (hG : Gl H 0 isOne) :
    ACall Tryz.prog 51 [.str s, .str [c]] H T (Is (.sl (splitL c s).length (strs (splitL c s)) .none) H T) := by
  refine ⟨fun _ _ => Tryz.call51 _ _, fun L w ca hc hl hr => ?_⟩
  obtain ⟨hd, o, ho, cs, m, t, fr, rfl, hm⟩ := hG.at hc
  obtain ⟨x, y, rfl⟩ := two hl
  have h0 : Rep L H.length T w (.str s) x := hr 0 (by simp) (by simp)
  have h1 : Rep L H.length T w (.str [c]) y := hr 1 (by simp) (by simp)
  rw [h0.str_inv, h1.str_inv]
  refine Calls.mono (Go.Proofs.Any.strings_Split laysSplit (by kernel_rfl) _ _ m w (by rw [size_str]; exact hs) (by rw [show laysSplitR.g 1 = 0 from by kernel_rfl, cell_row ho]; exact hm) (by rw [size_str]; simp)) ?_
  rintro e w' ⟨rfl, rfl⟩
  have hsd : (Lib.splitB ⟨[c].toArray⟩ 0 (Lib.countB ⟨s.toArray⟩ ⟨[c].toArray⟩) ⟨s.toArray⟩).map (·.data.toList) = splitL c s := by
    rw [Lib.splitB_data]
    exact split_one c s.length s (Nat.le_refl _)
  have hln := Lib.splitB_all ⟨[c].toArray⟩ (by rw [size_str]; simp) 0 _ ⟨s.toArray⟩ rfl
  have hv : (Lib.splitB ⟨[c].toArray⟩ 0 (Lib.countB ⟨s.toArray⟩ ⟨[c].toArray⟩) ⟨s.toArray⟩).map Value.string = (splitL c s).map fun z => Value.string ⟨z.toArray⟩ := by
    rw [← hsd, List.map_map]
    rfl
  have hn : Lib.countB ⟨s.toArray⟩ ⟨[c].toArray⟩ + 1 = (splitL c s).length := by rw [← hln, ← hsd, List.length_map]
  rw [hv, hn]
  obtain ⟨k1, k2, k3⟩ := hc.newRow ((splitL c s).map fun z => Value.string ⟨z.toArray⟩).toArray (laysSplitR.t 9) (0, 0) (vs := strs (splitL c s)) (strs (splitL c s)).length (Nat.le_refl _) (by
    have := repStrs (L := L) (N := H.length) (T := T) (w := w) (splitL c s)
    rw [List.take_of_length_le (by simp [strs])]
    exact this) (splitL c s).length (splitL c s).length (Nat.le_refl _) .none (.inl rfl)
  exact ⟨_, H, T, _, _, ⟨rfl, rfl, rfl⟩, rfl, k1, k3, k2⟩

/-- What Atoi answers. -/
def atoiR (s : List UInt8) : Int × AV := match Lib.atoiAll s with | .ok v => (v, .nili) | .syntax => (0, .ifc) | .range => (Lib.atoiSat s, .ifc)

theorem atoi_ok (s : List UInt8) (hs : s.length ≤ 281474976710656) (H : List Blk) (T : Toks) (h1 : Gl H 3 isErr) (h2 : Gl H 4 isErr) :
    ACall Tryz.prog 80 [.str s] H T (Is (.tup [.int .i64 (atoiR s).1, (atoiR s).2]) H T) := by
  refine ⟨fun _ _ => Tryz.call80 _ _, fun L w ca hc hl hr => ?_⟩
  obtain ⟨hd, o1, ho1, ev1, t1, fr1, rfl, he1⟩ := h1.at hc
  obtain ⟨_, o2, ho2, ev2, t2, fr2, rfl, he2⟩ := h2.at hc
  have e0 : ca = #[.string ⟨s.toArray⟩] := by
    obtain ⟨l⟩ := ca
    have hl2 : l.length = 1 := by simpa using hl
    match l, hl2 with
    | [a], _ =>
      have r0 : Rep L H.length T w (.str s) a := hr 0 (by simp) (by simp)
      rw [r0.str_inv]
  subst e0
  have fin : ∀ (v : Int) (a : AV) (c : Value) (w' : World), Go.RowKit.Below w.heap.size w w' → Rep L H.length T w' a c → atoiR s = (v, a) →
      CallPost L H T w (Is (.tup [.int .i64 (atoiR s).1, (atoiR s).2]) H T) (.returned (.tuple #[.int .i64 v, c])) w' := by
    intro v a c w' hb hr he
    obtain ⟨c1, c2⟩ := hc.belowW hb (fun e => by rw [hd] at e; cases e)
    refine ⟨_, H, T, L, _, ⟨rfl, rfl, rfl⟩, rfl, c1, .tup _ _ rfl (fun j h1 h2 => ?_), c2⟩
    match j, h1 with
    | 0, _ => rw [he]; exact .int _ _
    | 1, _ => rw [he]; exact hr
  cases h : Lib.atoiAll s with
  | ok v =>
    refine Calls.mono (Go.Proofs.Any.strconv_Atoi_ok laysAtoi _ (by rw [size_str]; omega) v (show Lib.atoiAll s = _ from h) w) ?_
    rintro e w' ⟨rfl, hw⟩
    refine fin v .nili .nilIface w' ?_ .nili (by unfold atoiR; rw [h])
    rcases hw with rfl | ⟨t, rfl⟩
    · exact Go.RowKit.Below.refl _ _
    · exact Lib.bytesWorld_below _ _ _
  | «syntax» =>
    refine Calls.mono (Go.Proofs.Any.strconv_Atoi_syntax laysAtoi _ (by rw [size_str]; omega) (show Lib.atoiAll s = _ from h) ev1 w (by rw [show laysAtoiR.g 15 = 3 from by kernel_rfl, cell_row ho1]; rfl) he1) ?_
    rintro e w' ⟨N, rfl, _, _, hb⟩
    exact fin 0 .ifc _ w' hb (.ifc _ _) (by unfold atoiR; rw [h])
  | range =>
    refine Calls.mono (Go.Proofs.Any.strconv_Atoi_range laysAtoi _ (by rw [size_str]; omega) (show Lib.atoiAll s = _ from h) ev2 w (by rw [show laysAtoiR.g 16 = 4 from by kernel_rfl, cell_row ho2]; rfl) he2) ?_
    rintro e w' ⟨N, rfl, _, _, hb⟩
    exact fin _ .ifc _ w' hb (.ifc _ _) (by unfold atoiR; rw [h])
end Go.Proofs.YtnmlpohhommagaaGreatDoor
