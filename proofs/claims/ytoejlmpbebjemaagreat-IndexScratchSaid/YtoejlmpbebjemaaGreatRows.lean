/-
  No cell of these rows narrows 'for every input' (looked for: loops, veiled, ifaces, maps, wideKeys, modest, calm, conditions, laid).
  DERIVED. THE GIVEN ROWS OF THIS SEAT. 7 by the template 'for every input the law returns true; each argument reads behind the call as it read before'; 0 by the template 'total and deterministic' (their statements: YtoejlmpbebjemaaGreatTotals.lean).
  GIVEN WITH THE SEED: the statements are not yours to turn. If you find one false, say at which input.
  Laid BY PROGRAM, IN A SANDBOX (cutbox-rows.mjs): the forced cells as the released guide's own fill.sh prints them over the translation 5ae641363cb79acc… (all of the seat's roots in one cut). By AI agents, Wed Nov 11 2026. No macro, syntax, notation, axiom, sorry.
-/
import Derived.Test.YtoejlmpbebjemaaGreatChecked
import GoSem.Claim
import GoSem.ClaimJoined
import GoSem.ClaimMapViews
import Derived.JoinedTies
import Derived.KernelRfl
namespace Go.Proofs.YtoejlmpbebjemaaGreat
/- THE CELL 'sum', in the pinned program and in every row, IS THE sha256 OF THE DUMP (.gsa) THAT YtoejlmpbebjemaaGreatProg.lean LOADS. Nothing in Lean hashes anything: it is a label: what it is worth is what the hold of that sum in a sandbox is worth. -/
noncomputable def Tryz.pinned : Pinned := { name := "ytoejlmpbebjemaagreat", sum := "5ae641363cb79accb1a046e563f85a0d04b31ebff8063e7f038b5f00788e03af", checked := Tryz.checked }
namespace Rows
def none {H : Type} : Left H := { results := [], args := [] }

/-- 'bookplatelaw40.IndexPut': WHATEVER THE INPUT: true; the input reads as it did. -/
def indexPutSpec : ChangeSpec := { name := "indexPut", fn := fun _ => fun
  | [d1, d2, d3] => { results := [.lit (.bool true)], args := [d1, d2, d3] }
  | _ => none }
def indexPutRow : OpenClaim := { program := "ytoejlmpbebjemaagreat", sum := "5ae641363cb79accb1a046e563f85a0d04b31ebff8063e7f038b5f00788e03af", func := "bookplate/bookplatelaw40.IndexPut", spec := "indexPut", unfollowed := true, recurses := true, plainKeys := false, apart := false }
def IndexPutSaid : Prop := indexPutRow.holds Tryz.pinned (OpenSpec.ofChange indexPutSpec)

/-- ITS FALSE NEIGHBOUR: 'it returns false'. Refute it at one input. -/
def indexPutWrong : ChangeSpec := { name := "indexPut", fn := fun _ => fun
  | [d1, d2, d3] => { results := [.lit (.bool false)], args := [d1, d2, d3] }
  | _ => none }
def IndexPutWrongFalsely : Prop := indexPutRow.holds Tryz.pinned (OpenSpec.ofChange indexPutWrong)

/-- 'bookplatelaw40.IndexValid': WHATEVER THE INPUT: true; the input reads as it did. -/
def indexValidSpec : ChangeSpec := { name := "indexValid", fn := fun _ => fun
  | [d] => { results := [.lit (.bool true)], args := [d] }
  | _ => none }
def indexValidRow : OpenClaim := { program := "ytoejlmpbebjemaagreat", sum := "5ae641363cb79accb1a046e563f85a0d04b31ebff8063e7f038b5f00788e03af", func := "bookplate/bookplatelaw40.IndexValid", spec := "indexValid", unfollowed := true, recurses := true, plainKeys := false, apart := false }
def IndexValidSaid : Prop := indexValidRow.holds Tryz.pinned (OpenSpec.ofChange indexValidSpec)

/-- ITS FALSE NEIGHBOUR: 'it returns false'. Refute it at one input. -/
def indexValidWrong : ChangeSpec := { name := "indexValid", fn := fun _ => fun
  | [d] => { results := [.lit (.bool false)], args := [d] }
  | _ => none }
def IndexValidWrongFalsely : Prop := indexValidRow.holds Tryz.pinned (OpenSpec.ofChange indexValidWrong)

/-- 'bookplatelaw40.IndexSize': WHATEVER THE INPUT: true; the input reads as it did. -/
def indexSizeSpec : ChangeSpec := { name := "indexSize", fn := fun _ => fun
  | [d] => { results := [.lit (.bool true)], args := [d] }
  | _ => none }
def indexSizeRow : OpenClaim := { program := "ytoejlmpbebjemaagreat", sum := "5ae641363cb79accb1a046e563f85a0d04b31ebff8063e7f038b5f00788e03af", func := "bookplate/bookplatelaw40.IndexSize", spec := "indexSize", unfollowed := true, recurses := true, plainKeys := false, apart := false }
def IndexSizeSaid : Prop := indexSizeRow.holds Tryz.pinned (OpenSpec.ofChange indexSizeSpec)

/-- ITS FALSE NEIGHBOUR: 'it returns false'. Refute it at one input. -/
def indexSizeWrong : ChangeSpec := { name := "indexSize", fn := fun _ => fun
  | [d] => { results := [.lit (.bool false)], args := [d] }
  | _ => none }
def IndexSizeWrongFalsely : Prop := indexSizeRow.holds Tryz.pinned (OpenSpec.ofChange indexSizeWrong)

/-- 'bookplatelaw40.IndexOf': WHATEVER THE INPUT: true; the input reads as it did. -/
def indexOfSpec : ChangeSpec := { name := "indexOf", fn := fun _ => fun
  | [d1, d2] => { results := [.lit (.bool true)], args := [d1, d2] }
  | _ => none }
def indexOfRow : OpenClaim := { program := "ytoejlmpbebjemaagreat", sum := "5ae641363cb79accb1a046e563f85a0d04b31ebff8063e7f038b5f00788e03af", func := "bookplate/bookplatelaw40.IndexOf", spec := "indexOf", unfollowed := true, recurses := true, plainKeys := false, apart := false }
def IndexOfSaid : Prop := indexOfRow.holds Tryz.pinned (OpenSpec.ofChange indexOfSpec)

/-- ITS FALSE NEIGHBOUR: 'it returns false'. Refute it at one input. -/
def indexOfWrong : ChangeSpec := { name := "indexOf", fn := fun _ => fun
  | [d1, d2] => { results := [.lit (.bool false)], args := [d1, d2] }
  | _ => none }
def IndexOfWrongFalsely : Prop := indexOfRow.holds Tryz.pinned (OpenSpec.ofChange indexOfWrong)

/-- 'bookplatelaw40.IndexScratch': WHATEVER THE INPUT: true; the input reads as it did. -/
def indexScratchSpec : ChangeSpec := { name := "indexScratch", fn := fun _ => fun
  | [d1, d2] => { results := [.lit (.bool true)], args := [d1, d2] }
  | _ => none }
def indexScratchRow : OpenClaim := { program := "ytoejlmpbebjemaagreat", sum := "5ae641363cb79accb1a046e563f85a0d04b31ebff8063e7f038b5f00788e03af", func := "bookplate/bookplatelaw40.IndexScratch", spec := "indexScratch", unfollowed := true, recurses := true, plainKeys := false, apart := false }
def IndexScratchSaid : Prop := indexScratchRow.holds Tryz.pinned (OpenSpec.ofChange indexScratchSpec)

/-- ITS FALSE NEIGHBOUR: 'it returns false'. Refute it at one input. -/
def indexScratchWrong : ChangeSpec := { name := "indexScratch", fn := fun _ => fun
  | [d1, d2] => { results := [.lit (.bool false)], args := [d1, d2] }
  | _ => none }
def IndexScratchWrongFalsely : Prop := indexScratchRow.holds Tryz.pinned (OpenSpec.ofChange indexScratchWrong)

/-- 'bookplatelaw40.IndexOrder': WHATEVER THE INPUT: true; the input reads as it did. -/
def indexOrderSpec : ChangeSpec := { name := "indexOrder", fn := fun _ => fun
  | [d1, d2] => { results := [.lit (.bool true)], args := [d1, d2] }
  | _ => none }
def indexOrderRow : OpenClaim := { program := "ytoejlmpbebjemaagreat", sum := "5ae641363cb79accb1a046e563f85a0d04b31ebff8063e7f038b5f00788e03af", func := "bookplate/bookplatelaw40.IndexOrder", spec := "indexOrder", unfollowed := true, recurses := true, plainKeys := false, apart := false }
def IndexOrderSaid : Prop := indexOrderRow.holds Tryz.pinned (OpenSpec.ofChange indexOrderSpec)

/-- ITS FALSE NEIGHBOUR: 'it returns false'. Refute it at one input. -/
def indexOrderWrong : ChangeSpec := { name := "indexOrder", fn := fun _ => fun
  | [d1, d2] => { results := [.lit (.bool false)], args := [d1, d2] }
  | _ => none }
def IndexOrderWrongFalsely : Prop := indexOrderRow.holds Tryz.pinned (OpenSpec.ofChange indexOrderWrong)

/-- 'bookplatelaw40.IndexFind': WHATEVER THE INPUT: true; the input reads as it did. -/
def indexFindSpec : ChangeSpec := { name := "indexFind", fn := fun _ => fun
  | [d1, d2, d3] => { results := [.lit (.bool true)], args := [d1, d2, d3] }
  | _ => none }
def indexFindRow : OpenClaim := { program := "ytoejlmpbebjemaagreat", sum := "5ae641363cb79accb1a046e563f85a0d04b31ebff8063e7f038b5f00788e03af", func := "bookplate/bookplatelaw40.IndexFind", spec := "indexFind", unfollowed := true, recurses := true, plainKeys := false, apart := false }
def IndexFindSaid : Prop := indexFindRow.holds Tryz.pinned (OpenSpec.ofChange indexFindSpec)

/-- ITS FALSE NEIGHBOUR: 'it returns false'. Refute it at one input. -/
def indexFindWrong : ChangeSpec := { name := "indexFind", fn := fun _ => fun
  | [d1, d2, d3] => { results := [.lit (.bool false)], args := [d1, d2, d3] }
  | _ => none }
def IndexFindWrongFalsely : Prop := indexFindRow.holds Tryz.pinned (OpenSpec.ofChange indexFindWrong)

/- THE SECOND FORM. 'bulk': how many values and letters a reading holds, each counted each time it is reached (what is shared counts as often as it is met; a slice's spare places count too). A statement '..UptoSaid' is the law's where the arguments, and the package variables that the reading takes, are together of bulk at most 1048576: NARROWER than '..Said'. Prove '..Said' where nothing that the law and all that it calls make is longer than what came in: it says more and counts as full. Else prove '..UptoSaid'. A law counts once. -/
mutual
def uptoBulk {H : Type} : DataW H → Nat
  | .lit (.string bytes) => bytes.length + 1
  | .lit _ => 1
  | .nil => 1
  | .ptr d => uptoBulk d + 1
  | .slice elems spare => uptoBulkAll elems + uptoBulkAll spare + 1
  | .agg parts => uptoBulkAll parts + 1
  | .iface _ d => uptoBulk d + 1
  | .map entries => uptoBulkEntries entries + 1
  | .held _ => 1
def uptoBulkAll {H : Type} : List (DataW H) → Nat
  | [] => 0
  | d :: r => uptoBulk d + uptoBulkAll r
def uptoBulkEntries {H : Type} : List (Lit × DataW H) → Nat
  | [] => 0
  | x :: r => uptoBulkEntry x + uptoBulkEntries r
def uptoBulkEntry {H : Type} : Lit × DataW H → Nat
  | (.string bytes, d) => bytes.length + uptoBulk d + 1
  | (_, d) => uptoBulk d + 1
 end
def uptoSmall : (H : Type) → List (DataW H) → Bool := fun _ ds => decide (uptoBulkAll ds ≤ 1048576)
def OpenSpec.upto (s : _root_.Go.ChangeSpec) : _root_.Go.OpenSpec := { _root_.Go.OpenSpec.ofChange s with cond := some uptoSmall }

/-- 'bookplatelaw40.IndexPut', WHERE WHAT IT READS IS OF BULK AT MOST 1048576: true; the input reads as it did. -/
def indexPutUptoRow : OpenClaim := { program := "ytoejlmpbebjemaagreat", sum := "5ae641363cb79accb1a046e563f85a0d04b31ebff8063e7f038b5f00788e03af", func := "bookplate/bookplatelaw40.IndexPut", spec := "indexPut", unfollowed := true, recurses := true, plainKeys := false, apart := false, narrowed := true }
def IndexPutUptoSaid : Prop := indexPutUptoRow.holds Tryz.pinned (OpenSpec.upto indexPutSpec)

/-- 'bookplatelaw40.IndexValid', WHERE WHAT IT READS IS OF BULK AT MOST 1048576: true; the input reads as it did. -/
def indexValidUptoRow : OpenClaim := { program := "ytoejlmpbebjemaagreat", sum := "5ae641363cb79accb1a046e563f85a0d04b31ebff8063e7f038b5f00788e03af", func := "bookplate/bookplatelaw40.IndexValid", spec := "indexValid", unfollowed := true, recurses := true, plainKeys := false, apart := false, narrowed := true }
def IndexValidUptoSaid : Prop := indexValidUptoRow.holds Tryz.pinned (OpenSpec.upto indexValidSpec)

/-- 'bookplatelaw40.IndexSize', WHERE WHAT IT READS IS OF BULK AT MOST 1048576: true; the input reads as it did. -/
def indexSizeUptoRow : OpenClaim := { program := "ytoejlmpbebjemaagreat", sum := "5ae641363cb79accb1a046e563f85a0d04b31ebff8063e7f038b5f00788e03af", func := "bookplate/bookplatelaw40.IndexSize", spec := "indexSize", unfollowed := true, recurses := true, plainKeys := false, apart := false, narrowed := true }
def IndexSizeUptoSaid : Prop := indexSizeUptoRow.holds Tryz.pinned (OpenSpec.upto indexSizeSpec)

/-- 'bookplatelaw40.IndexOf', WHERE WHAT IT READS IS OF BULK AT MOST 1048576: true; the input reads as it did. -/
def indexOfUptoRow : OpenClaim := { program := "ytoejlmpbebjemaagreat", sum := "5ae641363cb79accb1a046e563f85a0d04b31ebff8063e7f038b5f00788e03af", func := "bookplate/bookplatelaw40.IndexOf", spec := "indexOf", unfollowed := true, recurses := true, plainKeys := false, apart := false, narrowed := true }
def IndexOfUptoSaid : Prop := indexOfUptoRow.holds Tryz.pinned (OpenSpec.upto indexOfSpec)

/-- 'bookplatelaw40.IndexScratch', WHERE WHAT IT READS IS OF BULK AT MOST 1048576: true; the input reads as it did. -/
def indexScratchUptoRow : OpenClaim := { program := "ytoejlmpbebjemaagreat", sum := "5ae641363cb79accb1a046e563f85a0d04b31ebff8063e7f038b5f00788e03af", func := "bookplate/bookplatelaw40.IndexScratch", spec := "indexScratch", unfollowed := true, recurses := true, plainKeys := false, apart := false, narrowed := true }
def IndexScratchUptoSaid : Prop := indexScratchUptoRow.holds Tryz.pinned (OpenSpec.upto indexScratchSpec)

/-- 'bookplatelaw40.IndexOrder', WHERE WHAT IT READS IS OF BULK AT MOST 1048576: true; the input reads as it did. -/
def indexOrderUptoRow : OpenClaim := { program := "ytoejlmpbebjemaagreat", sum := "5ae641363cb79accb1a046e563f85a0d04b31ebff8063e7f038b5f00788e03af", func := "bookplate/bookplatelaw40.IndexOrder", spec := "indexOrder", unfollowed := true, recurses := true, plainKeys := false, apart := false, narrowed := true }
def IndexOrderUptoSaid : Prop := indexOrderUptoRow.holds Tryz.pinned (OpenSpec.upto indexOrderSpec)

/-- 'bookplatelaw40.IndexFind', WHERE WHAT IT READS IS OF BULK AT MOST 1048576: true; the input reads as it did. -/
def indexFindUptoRow : OpenClaim := { program := "ytoejlmpbebjemaagreat", sum := "5ae641363cb79accb1a046e563f85a0d04b31ebff8063e7f038b5f00788e03af", func := "bookplate/bookplatelaw40.IndexFind", spec := "indexFind", unfollowed := true, recurses := true, plainKeys := false, apart := false, narrowed := true }
def IndexFindUptoSaid : Prop := indexFindUptoRow.holds Tryz.pinned (OpenSpec.upto indexFindSpec)

end Rows
end Go.Proofs.YtoejlmpbebjemaaGreat
