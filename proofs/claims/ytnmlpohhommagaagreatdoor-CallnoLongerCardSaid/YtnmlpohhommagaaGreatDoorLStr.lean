/- The library's HasPrefix, HasSuffix, TrimPrefix, Compare, TrimLeft as contracts of the abstract machine.
   Conditions: lengths that memory holds; a set of ASCII letters. -/
import Derived.Shelf.Strings.Prefix
import Derived.Shelf.Strings.SlTrimAscii
import Derived.Shelf.Small.Strs
import Derived.Test.YtnmlpohhommagaaGreatDoorLStd
namespace Go.Proofs.YtnmlpohhommagaaGreatDoor
open Go Go.Am Go.Shelf Lst
set_option linter.unusedVariables false
set_option maxRecDepth 100000
set_option maxRecDepth 100000
def laysHpR : Ren := ⟨fun | 99 => 60 | 206 => 82 | x => x,
  fun x => x, fun x => x⟩
theorem laysHp : Lays.n99 Tryz.prog laysHpR :=
  {
    mixed := by kernel_rfl
    f99 := Tryz.func60.trans (congrArg some (by kernel_rfl))
    f206 := Tryz.func82.trans (congrArg some (by kernel_rfl))
    t3 := Tryz.underlying3
    a3 := Tryz.isAgg3
    z3 := Tryz.sizeOf3
    v3 := Tryz.zeroValue3
    t4 := Tryz.underlying4
    a4 := Tryz.isAgg4
    z4 := Tryz.sizeOf4
    v4 := Tryz.zeroValue4
    t9 := Tryz.underlying9
    a9 := Tryz.isAgg9
    z9 := Tryz.sizeOf9
    v9 := Tryz.zeroValue9 }
def laysHsR : Ren := ⟨fun | 100 => 73 | 207 => 88 | x => x,
  fun x => x, fun x => x⟩
theorem laysHs : Lays.n100 Tryz.prog laysHsR :=
  {
    mixed := by kernel_rfl
    f100 := Tryz.func73.trans (congrArg some (by kernel_rfl))
    f207 := Tryz.func88.trans (congrArg some (by kernel_rfl))
    t3 := Tryz.underlying3
    a3 := Tryz.isAgg3
    z3 := Tryz.sizeOf3
    v3 := Tryz.zeroValue3
    t4 := Tryz.underlying4
    a4 := Tryz.isAgg4
    z4 := Tryz.sizeOf4
    v4 := Tryz.zeroValue4
    t9 := Tryz.underlying9
    a9 := Tryz.isAgg9
    z9 := Tryz.sizeOf9
    v9 := Tryz.zeroValue9 }
def laysTpR : Ren := ⟨fun | 101 => 55 | 206 => 82 | 208 => 81 | x => x,
  fun x => x, fun x => x⟩
theorem laysTp : Lays.n101 Tryz.prog laysTpR :=
  {
    mixed := by kernel_rfl
    f101 := Tryz.func55.trans (congrArg some (by kernel_rfl))
    f206 := Tryz.func82.trans (congrArg some (by kernel_rfl))
    f208 := Tryz.func81.trans (congrArg some (by kernel_rfl))
    t3 := Tryz.underlying3
    a3 := Tryz.isAgg3
    z3 := Tryz.sizeOf3
    v3 := Tryz.zeroValue3
    t4 := Tryz.underlying4
    a4 := Tryz.isAgg4
    z4 := Tryz.sizeOf4
    v4 := Tryz.zeroValue4
    t9 := Tryz.underlying9
    a9 := Tryz.isAgg9
    z9 := Tryz.sizeOf9
    v9 := Tryz.zeroValue9 }
def laysCmpR : Ren := ⟨fun | 106 => 70 | 213 => 85 | 265 => 99 | x => x,
  fun x => x, fun x => x⟩
theorem laysCmp : Lays.n106 Tryz.prog laysCmpR :=
  {
    mixed := by kernel_rfl
    f106 := Tryz.func70.trans (congrArg some (by kernel_rfl))
    f213 := Tryz.func85.trans (congrArg some (by kernel_rfl))
    f265 := Tryz.func99.trans (congrArg some (by kernel_rfl))
    t3 := Tryz.underlying3
    a3 := Tryz.isAgg3
    z3 := Tryz.sizeOf3
    v3 := Tryz.zeroValue3
    t9 := Tryz.underlying9
    a9 := Tryz.isAgg9
    z9 := Tryz.sizeOf9
    v9 := Tryz.zeroValue9 }
def laysTlR : Ren := ⟨fun | 119 => 125 | 137 => 124 | 151 => 95 | 152 => 109 | 161 => 53 | 197 => 94 | 217 => 104 | 224 => 106 | 225 => 105 | 227 => 77 | 228 => 93 | 231 => 76 | 233 => 78 | 235 => 79 | 260 => 108 | 266 => 122 | x => x,
  fun | 46 => 63 | 105 => 103 | 116 => 89 | 117 => 90 | 119 => 127 | 124 => 93 | 138 => 129 | 139 => 130 | x => x, fun | 3 => 1 | 4 => 2 | x => x⟩
theorem laysTl : Lays.n161 Tryz.prog laysTlR :=
  {
    mixed := by kernel_rfl
    f119 := Tryz.func125.trans (congrArg some (by kernel_rfl))
    f137 := Tryz.func124.trans (congrArg some (by kernel_rfl))
    f151 := Tryz.func95.trans (congrArg some (by kernel_rfl))
    f152 := Tryz.func109.trans (congrArg some (by kernel_rfl))
    f161 := Tryz.func53.trans (congrArg some (by kernel_rfl))
    f197 := Tryz.func94.trans (congrArg some (by kernel_rfl))
    f217 := Tryz.func104.trans (congrArg some (by kernel_rfl))
    f224 := Tryz.func106.trans (congrArg some (by kernel_rfl))
    f225 := Tryz.func105.trans (congrArg some (by kernel_rfl))
    f227 := Tryz.func77.trans (congrArg some (by kernel_rfl))
    f228 := Tryz.func93.trans (congrArg some (by kernel_rfl))
    f231 := Tryz.func76.trans (congrArg some (by kernel_rfl))
    f233 := Tryz.func78.trans (congrArg some (by kernel_rfl))
    f235 := Tryz.func79.trans (congrArg some (by kernel_rfl))
    f260 := Tryz.func108.trans (congrArg some (by kernel_rfl))
    f266 := Tryz.func122.trans (congrArg some (by kernel_rfl))
    t0 := Tryz.underlying0
    a0 := Tryz.isAgg0
    z0 := Tryz.sizeOf0
    v0 := Tryz.zeroValue0
    t3 := Tryz.underlying3
    a3 := Tryz.isAgg3
    z3 := Tryz.sizeOf3
    v3 := Tryz.zeroValue3
    t4 := Tryz.underlying4
    a4 := Tryz.isAgg4
    z4 := Tryz.sizeOf4
    v4 := Tryz.zeroValue4
    t5 := Tryz.underlying5
    a5 := Tryz.isAgg5
    z5 := Tryz.sizeOf5
    v5 := Tryz.zeroValue5
    t9 := Tryz.underlying9
    a9 := Tryz.isAgg9
    z9 := Tryz.sizeOf9
    v9 := Tryz.zeroValue9
    t21 := Tryz.underlying21
    a21 := Tryz.isAgg21
    z21 := Tryz.sizeOf21
    v21 := Tryz.zeroValue21
    t46 := Tryz.underlying63
    a46 := Tryz.isAgg63
    z46 := Tryz.sizeOf63
    v46 := Tryz.zeroValue63
    t105 := Tryz.underlying103
    a105 := Tryz.isAgg103
    z105 := Tryz.sizeOf103
    v105 := Tryz.zeroValue103
    t116 := Tryz.underlying89
    a116 := Tryz.isAgg89
    z116 := Tryz.sizeOf89
    t117 := Tryz.underlying90
    a117 := Tryz.isAgg90
    z117 := Tryz.sizeOf90
    v117 := Tryz.zeroValue90
    t119 := Tryz.underlying127
    a119 := Tryz.isAgg127
    z119 := Tryz.sizeOf127
    t124 := Tryz.underlying93
    a124 := Tryz.isAgg93
    z124 := Tryz.sizeOf93
    v124 := Tryz.zeroValue93
    t138 := Tryz.underlying129
    a138 := Tryz.isAgg129
    z138 := Tryz.sizeOf129
    v138 := Tryz.zeroValue129
    t139 := Tryz.underlying130
    a139 := Tryz.isAgg130
    z139 := Tryz.sizeOf130
    v139 := Tryz.zeroValue130
    g3 := by kernel_rfl
    g4 := by kernel_rfl }

/-- A contract on two texts that leaves the world alone. -/
theorem acall_str2 {P : Program} {f : FuncId} (hcall : ∀ xs w, (callFunc f xs).run P w = .ok (.enter f xs) w) (a b : List UInt8) (r : AV) (v : Value) (hv : ∀ L N T w, Rep L N T w r v)
    (h : ∀ w, Calls P f #[.string ⟨a.toArray⟩, .string ⟨b.toArray⟩] w fun e w' => e = .returned v ∧ w' = w) (H : List Blk) (T : Toks) : ACall P f [.str a, .str b] H T (Is r H T) := by
  refine ⟨hcall, fun L w ca hc hl hr => ?_⟩
  obtain ⟨x, y, rfl⟩ := two hl
  have h0 : Rep L H.length T w (.str a) x := hr 0 (by simp) (by simp)
  have h1 : Rep L H.length T w (.str b) y := hr 1 (by simp) (by simp)
  rw [h0.str_inv, h1.str_inv]
  refine Calls.mono (h w) ?_
  rintro e w' ⟨rfl, rfl⟩
  exact ⟨_, H, T, L, _, ⟨rfl, rfl, rfl⟩, rfl, hc, hv _ _ _ _, Ev.refl (Nat.le_refl _) (Nat.le_refl _)⟩

theorem hasPrefix_ok (s p : List UInt8) (H : List Blk) (T : Toks) : ACall Tryz.prog 60 [.str s, .str p] H T (Is (.bool (p.isPrefixOf s)) H T) :=
  acall_str2 (fun _ _ => Tryz.call60 _ _) s p _ (.bool (p.isPrefixOf s)) (fun _ _ _ _ => .bool _) (fun w => Go.Proofs.Any.strings_HasPrefix laysHp _ _ w) H T
theorem hasSuffix_ok (s p : List UInt8) (hs : s.length ≤ 9223372036854775807) (H : List Blk) (T : Toks) : ACall Tryz.prog 73 [.str s, .str p] H T (Is (.bool (p.isSuffixOf s)) H T) :=
  acall_str2 (fun _ _ => Tryz.call73 _ _) s p _ (.bool (p.isSuffixOf s)) (fun _ _ _ _ => .bool _) (fun w => Go.Proofs.Any.strings_HasSuffix laysHs _ _ w (by rw [size_str]; exact hs)) H T
theorem trimPrefix_ok (s p : List UInt8) (H : List Blk) (T : Toks) : ACall Tryz.prog 55 [.str s, .str p] H T (Is (.str (Lib.trimPrefix s p)) H T) :=
  acall_str2 (fun _ _ => Tryz.call55 _ _) s p _ (.string ⟨(Lib.trimPrefix s p).toArray⟩) (fun _ _ _ _ => .str _) (fun w => Go.Proofs.Any.strings_TrimPrefix laysTp _ _ w) H T
theorem compareS_ok (a b : List UInt8) (H : List Blk) (T : Toks) : ACall Tryz.prog 70 [.str a, .str b] H T (Is (.int .i64 (Lib.compareBytes a b)) H T) :=
  acall_str2 (fun _ _ => Tryz.call70 _ _) a b _ (.int .i64 (Lib.compareBytes a b)) (fun _ _ _ _ => .int _ _) (fun w => Go.Proofs.Any.strings_Compare laysCmp _ _ w) H T

/-- TrimLeft by a set of ASCII letters. -/
theorem trimLeft_ok (s cs : List UInt8) (hcs : cs.length < 4294967281) (ha : ∀ b ∈ cs, b.toNat < 128) (H : List Blk) (T : Toks) (hdr : ∃ g q, Gl H g q) :
    ACall Tryz.prog 53 [.str s, .str cs] H T (Is (.str (s.dropWhile (cs.contains ·))) H T) := by
  refine ⟨fun _ _ => Tryz.call53 _ _, fun L w ca hc hl hr => ?_⟩
  obtain ⟨g, q, hG⟩ := hdr
  obtain ⟨hd, _⟩ := hG.at hc
  obtain ⟨x, y, rfl⟩ := two hl
  have h0 : Rep L H.length T w (.str s) x := hr 0 (by simp) (by simp)
  have h1 : Rep L H.length T w (.str cs) y := hr 1 (by simp) (by simp)
  rw [h0.str_inv, h1.str_inv]
  refine Calls.mono (Go.Proofs.Any.strings_TrimLeft_laid laysTl (by kernel_rfl) _ _ w (by rw [size_str]; exact hcs) (fun j b hb => ha b (List.mem_of_getElem? hb))) ?_
  rintro e w' ⟨rfl, hb⟩
  obtain ⟨c1, c2⟩ := hc.belowW hb (fun e => by rw [hd] at e; cases e)
  exact ⟨_, H, T, L, _, ⟨rfl, rfl, rfl⟩, rfl, c1, .str _, c2⟩
end Go.Proofs.YtnmlpohhommagaaGreatDoor
