/-
  No cell of these rows narrows 'for every input' (looked for: loops, veiled, ifaces, maps, wideKeys, modest, calm, conditions, laid).
  DERIVED. THE GIVEN ROWS OF THIS SEAT. 8 by the template 'for every input the law returns true; each argument reads behind the call as it read before'; 0 by the template 'total and deterministic' (their statements: YtneohapkboaplaaGreatTotals.lean).
  GIVEN WITH THE SEED: the statements are not yours to turn. If you find one false, say at which input.
  Laid BY PROGRAM, IN A SANDBOX (cutbox-rows.mjs): the forced cells as the released guide's own fill.sh prints them over the translation 239b122b8bc0ad06… (all of the seat's roots in one cut). By AI agents, Wed Nov 11 2026. No macro, syntax, notation, axiom, sorry.
-/
import Derived.Test.YtneohapkboaplaaGreatChecked
import GoSem.Claim
import GoSem.ClaimJoined
import GoSem.ClaimMapViews
import Derived.JoinedTies
import Derived.KernelRfl
namespace Go.Proofs.YtneohapkboaplaaGreat
/- THE CELL 'sum', in the pinned program and in every row, IS THE sha256 OF THE DUMP (.gsa) THAT YtneohapkboaplaaGreatProg.lean LOADS. Nothing in Lean hashes anything: it is a label: what it is worth is what the hold of that sum in a sandbox is worth. -/
noncomputable def Tryz.pinned : Pinned := { name := "ytneohapkboaplaagreat", sum := "239b122b8bc0ad062fdd696929b0abe3d4836b206342eca4fa1b1647949df6bc", checked := Tryz.checked }
namespace Rows
def none {H : Type} : Left H := { results := [], args := [] }

/-- 'bookplatelaw39.SegmentBuild': WHATEVER THE INPUT: true; the input reads as it did. -/
def segmentBuildSpec : ChangeSpec := { name := "segmentBuild", fn := fun _ => fun
  | [d] => { results := [.lit (.bool true)], args := [d] }
  | _ => none }
def segmentBuildRow : OpenClaim := { program := "ytneohapkboaplaagreat", sum := "239b122b8bc0ad062fdd696929b0abe3d4836b206342eca4fa1b1647949df6bc", func := "bookplate/bookplatelaw39.SegmentBuild", spec := "segmentBuild", unfollowed := true, recurses := true, plainKeys := false, apart := false }
def SegmentBuildSaid : Prop := segmentBuildRow.holds Tryz.pinned (OpenSpec.ofChange segmentBuildSpec)

/-- ITS FALSE NEIGHBOUR: 'it returns false'. Refute it at one input. -/
def segmentBuildWrong : ChangeSpec := { name := "segmentBuild", fn := fun _ => fun
  | [d] => { results := [.lit (.bool false)], args := [d] }
  | _ => none }
def SegmentBuildWrongFalsely : Prop := segmentBuildRow.holds Tryz.pinned (OpenSpec.ofChange segmentBuildWrong)

/-- 'bookplatelaw39.SegmentFind': WHATEVER THE INPUT: true; the input reads as it did. -/
def segmentFindSpec : ChangeSpec := { name := "segmentFind", fn := fun _ => fun
  | [d1, d2] => { results := [.lit (.bool true)], args := [d1, d2] }
  | _ => none }
def segmentFindRow : OpenClaim := { program := "ytneohapkboaplaagreat", sum := "239b122b8bc0ad062fdd696929b0abe3d4836b206342eca4fa1b1647949df6bc", func := "bookplate/bookplatelaw39.SegmentFind", spec := "segmentFind", unfollowed := true, recurses := true, plainKeys := false, apart := false }
def SegmentFindSaid : Prop := segmentFindRow.holds Tryz.pinned (OpenSpec.ofChange segmentFindSpec)

/-- ITS FALSE NEIGHBOUR: 'it returns false'. Refute it at one input. -/
def segmentFindWrong : ChangeSpec := { name := "segmentFind", fn := fun _ => fun
  | [d1, d2] => { results := [.lit (.bool false)], args := [d1, d2] }
  | _ => none }
def SegmentFindWrongFalsely : Prop := segmentFindRow.holds Tryz.pinned (OpenSpec.ofChange segmentFindWrong)

/-- 'bookplatelaw39.SegmentTerms': WHATEVER THE INPUT: true; the input reads as it did. -/
def segmentTermsSpec : ChangeSpec := { name := "segmentTerms", fn := fun _ => fun
  | [d1, d2] => { results := [.lit (.bool true)], args := [d1, d2] }
  | _ => none }
def segmentTermsRow : OpenClaim := { program := "ytneohapkboaplaagreat", sum := "239b122b8bc0ad062fdd696929b0abe3d4836b206342eca4fa1b1647949df6bc", func := "bookplate/bookplatelaw39.SegmentTerms", spec := "segmentTerms", unfollowed := true, recurses := true, plainKeys := false, apart := false }
def SegmentTermsSaid : Prop := segmentTermsRow.holds Tryz.pinned (OpenSpec.ofChange segmentTermsSpec)

/-- ITS FALSE NEIGHBOUR: 'it returns false'. Refute it at one input. -/
def segmentTermsWrong : ChangeSpec := { name := "segmentTerms", fn := fun _ => fun
  | [d1, d2] => { results := [.lit (.bool false)], args := [d1, d2] }
  | _ => none }
def SegmentTermsWrongFalsely : Prop := segmentTermsRow.holds Tryz.pinned (OpenSpec.ofChange segmentTermsWrong)

/-- 'bookplatelaw39.SegmentValid': WHATEVER THE INPUT: true; the input reads as it did. -/
def segmentValidSpec : ChangeSpec := { name := "segmentValid", fn := fun _ => fun
  | [d1, d2] => { results := [.lit (.bool true)], args := [d1, d2] }
  | _ => none }
def segmentValidRow : OpenClaim := { program := "ytneohapkboaplaagreat", sum := "239b122b8bc0ad062fdd696929b0abe3d4836b206342eca4fa1b1647949df6bc", func := "bookplate/bookplatelaw39.SegmentValid", spec := "segmentValid", unfollowed := true, recurses := true, plainKeys := false, apart := false }
def SegmentValidSaid : Prop := segmentValidRow.holds Tryz.pinned (OpenSpec.ofChange segmentValidSpec)

/-- ITS FALSE NEIGHBOUR: 'it returns false'. Refute it at one input. -/
def segmentValidWrong : ChangeSpec := { name := "segmentValid", fn := fun _ => fun
  | [d1, d2] => { results := [.lit (.bool false)], args := [d1, d2] }
  | _ => none }
def SegmentValidWrongFalsely : Prop := segmentValidRow.holds Tryz.pinned (OpenSpec.ofChange segmentValidWrong)

/-- 'bookplatelaw39.SegmentInverse': WHATEVER THE INPUT: true; the input reads as it did. -/
def segmentInverseSpec : ChangeSpec := { name := "segmentInverse", fn := fun _ => fun
  | [d] => { results := [.lit (.bool true)], args := [d] }
  | _ => none }
def segmentInverseRow : OpenClaim := { program := "ytneohapkboaplaagreat", sum := "239b122b8bc0ad062fdd696929b0abe3d4836b206342eca4fa1b1647949df6bc", func := "bookplate/bookplatelaw39.SegmentInverse", spec := "segmentInverse", unfollowed := true, recurses := true, plainKeys := false, apart := false }
def SegmentInverseSaid : Prop := segmentInverseRow.holds Tryz.pinned (OpenSpec.ofChange segmentInverseSpec)

/-- ITS FALSE NEIGHBOUR: 'it returns false'. Refute it at one input. -/
def segmentInverseWrong : ChangeSpec := { name := "segmentInverse", fn := fun _ => fun
  | [d] => { results := [.lit (.bool false)], args := [d] }
  | _ => none }
def SegmentInverseWrongFalsely : Prop := segmentInverseRow.holds Tryz.pinned (OpenSpec.ofChange segmentInverseWrong)

/-- 'bookplatelaw39.SegmentMerge': WHATEVER THE INPUT: true; the input reads as it did. -/
def segmentMergeSpec : ChangeSpec := { name := "segmentMerge", fn := fun _ => fun
  | [d1, d2, d3] => { results := [.lit (.bool true)], args := [d1, d2, d3] }
  | _ => none }
def segmentMergeRow : OpenClaim := { program := "ytneohapkboaplaagreat", sum := "239b122b8bc0ad062fdd696929b0abe3d4836b206342eca4fa1b1647949df6bc", func := "bookplate/bookplatelaw39.SegmentMerge", spec := "segmentMerge", unfollowed := true, recurses := true, plainKeys := false, apart := false }
def SegmentMergeSaid : Prop := segmentMergeRow.holds Tryz.pinned (OpenSpec.ofChange segmentMergeSpec)

/-- ITS FALSE NEIGHBOUR: 'it returns false'. Refute it at one input. -/
def segmentMergeWrong : ChangeSpec := { name := "segmentMerge", fn := fun _ => fun
  | [d1, d2, d3] => { results := [.lit (.bool false)], args := [d1, d2, d3] }
  | _ => none }
def SegmentMergeWrongFalsely : Prop := segmentMergeRow.holds Tryz.pinned (OpenSpec.ofChange segmentMergeWrong)

/-- 'bookplatelaw39.SegmentMerges': WHATEVER THE INPUT: true; the input reads as it did. -/
def segmentMergesSpec : ChangeSpec := { name := "segmentMerges", fn := fun _ => fun
  | [d1, d2, d3] => { results := [.lit (.bool true)], args := [d1, d2, d3] }
  | _ => none }
def segmentMergesRow : OpenClaim := { program := "ytneohapkboaplaagreat", sum := "239b122b8bc0ad062fdd696929b0abe3d4836b206342eca4fa1b1647949df6bc", func := "bookplate/bookplatelaw39.SegmentMerges", spec := "segmentMerges", unfollowed := true, recurses := true, plainKeys := false, apart := false }
def SegmentMergesSaid : Prop := segmentMergesRow.holds Tryz.pinned (OpenSpec.ofChange segmentMergesSpec)

/-- ITS FALSE NEIGHBOUR: 'it returns false'. Refute it at one input. -/
def segmentMergesWrong : ChangeSpec := { name := "segmentMerges", fn := fun _ => fun
  | [d1, d2, d3] => { results := [.lit (.bool false)], args := [d1, d2, d3] }
  | _ => none }
def SegmentMergesWrongFalsely : Prop := segmentMergesRow.holds Tryz.pinned (OpenSpec.ofChange segmentMergesWrong)

/-- 'bookplatelaw39.SegmentCode': WHATEVER THE INPUT: true; the input reads as it did. -/
def segmentCodeSpec : ChangeSpec := { name := "segmentCode", fn := fun _ => fun
  | [d1, d2] => { results := [.lit (.bool true)], args := [d1, d2] }
  | _ => none }
def segmentCodeRow : OpenClaim := { program := "ytneohapkboaplaagreat", sum := "239b122b8bc0ad062fdd696929b0abe3d4836b206342eca4fa1b1647949df6bc", func := "bookplate/bookplatelaw39.SegmentCode", spec := "segmentCode", unfollowed := true, recurses := true, plainKeys := false, apart := false }
def SegmentCodeSaid : Prop := segmentCodeRow.holds Tryz.pinned (OpenSpec.ofChange segmentCodeSpec)

/-- ITS FALSE NEIGHBOUR: 'it returns false'. Refute it at one input. -/
def segmentCodeWrong : ChangeSpec := { name := "segmentCode", fn := fun _ => fun
  | [d1, d2] => { results := [.lit (.bool false)], args := [d1, d2] }
  | _ => none }
def SegmentCodeWrongFalsely : Prop := segmentCodeRow.holds Tryz.pinned (OpenSpec.ofChange segmentCodeWrong)

/- THE SECOND FORM. 'bulk': how many values and letters a reading holds, each counted each time it is reached (what is shared counts as often as it is met; a slice's spare places count too). A statement '..UptoSaid' is the law's where the arguments, and the package variables that the reading takes, are together of bulk at most 1048576: NARROWER than '..Said'. Prove '..Said' where nothing that the law and all that it calls make is longer than what came in: it says more and counts as full. Else prove '..UptoSaid'. A law counts once. -/
mutual
def uptoBulk {H : Type} : DataW H → Nat
  | .lit (.string bytes) => bytes.length + 1
  | .lit _ => 1
  | .nil => 1
  | .ptr d => uptoBulk d + 1
  | .slice elems spare => uptoBulkAll elems + uptoBulkAll spare + 1
  | .agg parts => uptoBulkAll parts + 1
  | .iface _ d => uptoBulk d + 1
  | .map entries => uptoBulkEntries entries + 1
  | .held _ => 1
def uptoBulkAll {H : Type} : List (DataW H) → Nat
  | [] => 0
  | d :: r => uptoBulk d + uptoBulkAll r
def uptoBulkEntries {H : Type} : List (Lit × DataW H) → Nat
  | [] => 0
  | x :: r => uptoBulkEntry x + uptoBulkEntries r
def uptoBulkEntry {H : Type} : Lit × DataW H → Nat
  | (.string bytes, d) => bytes.length + uptoBulk d + 1
  | (_, d) => uptoBulk d + 1
 end
def uptoSmall : (H : Type) → List (DataW H) → Bool := fun _ ds => decide (uptoBulkAll ds ≤ 1048576)
def OpenSpec.upto (s : _root_.Go.ChangeSpec) : _root_.Go.OpenSpec := { _root_.Go.OpenSpec.ofChange s with cond := some uptoSmall }

/-- 'bookplatelaw39.SegmentBuild', WHERE WHAT IT READS IS OF BULK AT MOST 1048576: true; the input reads as it did. -/
def segmentBuildUptoRow : OpenClaim := { program := "ytneohapkboaplaagreat", sum := "239b122b8bc0ad062fdd696929b0abe3d4836b206342eca4fa1b1647949df6bc", func := "bookplate/bookplatelaw39.SegmentBuild", spec := "segmentBuild", unfollowed := true, recurses := true, plainKeys := false, apart := false, narrowed := true }
def SegmentBuildUptoSaid : Prop := segmentBuildUptoRow.holds Tryz.pinned (OpenSpec.upto segmentBuildSpec)

/-- 'bookplatelaw39.SegmentFind', WHERE WHAT IT READS IS OF BULK AT MOST 1048576: true; the input reads as it did. -/
def segmentFindUptoRow : OpenClaim := { program := "ytneohapkboaplaagreat", sum := "239b122b8bc0ad062fdd696929b0abe3d4836b206342eca4fa1b1647949df6bc", func := "bookplate/bookplatelaw39.SegmentFind", spec := "segmentFind", unfollowed := true, recurses := true, plainKeys := false, apart := false, narrowed := true }
def SegmentFindUptoSaid : Prop := segmentFindUptoRow.holds Tryz.pinned (OpenSpec.upto segmentFindSpec)

/-- 'bookplatelaw39.SegmentTerms', WHERE WHAT IT READS IS OF BULK AT MOST 1048576: true; the input reads as it did. -/
def segmentTermsUptoRow : OpenClaim := { program := "ytneohapkboaplaagreat", sum := "239b122b8bc0ad062fdd696929b0abe3d4836b206342eca4fa1b1647949df6bc", func := "bookplate/bookplatelaw39.SegmentTerms", spec := "segmentTerms", unfollowed := true, recurses := true, plainKeys := false, apart := false, narrowed := true }
def SegmentTermsUptoSaid : Prop := segmentTermsUptoRow.holds Tryz.pinned (OpenSpec.upto segmentTermsSpec)

/-- 'bookplatelaw39.SegmentValid', WHERE WHAT IT READS IS OF BULK AT MOST 1048576: true; the input reads as it did. -/
def segmentValidUptoRow : OpenClaim := { program := "ytneohapkboaplaagreat", sum := "239b122b8bc0ad062fdd696929b0abe3d4836b206342eca4fa1b1647949df6bc", func := "bookplate/bookplatelaw39.SegmentValid", spec := "segmentValid", unfollowed := true, recurses := true, plainKeys := false, apart := false, narrowed := true }
def SegmentValidUptoSaid : Prop := segmentValidUptoRow.holds Tryz.pinned (OpenSpec.upto segmentValidSpec)

/-- 'bookplatelaw39.SegmentInverse', WHERE WHAT IT READS IS OF BULK AT MOST 1048576: true; the input reads as it did. -/
def segmentInverseUptoRow : OpenClaim := { program := "ytneohapkboaplaagreat", sum := "239b122b8bc0ad062fdd696929b0abe3d4836b206342eca4fa1b1647949df6bc", func := "bookplate/bookplatelaw39.SegmentInverse", spec := "segmentInverse", unfollowed := true, recurses := true, plainKeys := false, apart := false, narrowed := true }
def SegmentInverseUptoSaid : Prop := segmentInverseUptoRow.holds Tryz.pinned (OpenSpec.upto segmentInverseSpec)

/-- 'bookplatelaw39.SegmentMerge', WHERE WHAT IT READS IS OF BULK AT MOST 1048576: true; the input reads as it did. -/
def segmentMergeUptoRow : OpenClaim := { program := "ytneohapkboaplaagreat", sum := "239b122b8bc0ad062fdd696929b0abe3d4836b206342eca4fa1b1647949df6bc", func := "bookplate/bookplatelaw39.SegmentMerge", spec := "segmentMerge", unfollowed := true, recurses := true, plainKeys := false, apart := false, narrowed := true }
def SegmentMergeUptoSaid : Prop := segmentMergeUptoRow.holds Tryz.pinned (OpenSpec.upto segmentMergeSpec)

/-- 'bookplatelaw39.SegmentMerges', WHERE WHAT IT READS IS OF BULK AT MOST 1048576: true; the input reads as it did. -/
def segmentMergesUptoRow : OpenClaim := { program := "ytneohapkboaplaagreat", sum := "239b122b8bc0ad062fdd696929b0abe3d4836b206342eca4fa1b1647949df6bc", func := "bookplate/bookplatelaw39.SegmentMerges", spec := "segmentMerges", unfollowed := true, recurses := true, plainKeys := false, apart := false, narrowed := true }
def SegmentMergesUptoSaid : Prop := segmentMergesUptoRow.holds Tryz.pinned (OpenSpec.upto segmentMergesSpec)

/-- 'bookplatelaw39.SegmentCode', WHERE WHAT IT READS IS OF BULK AT MOST 1048576: true; the input reads as it did. -/
def segmentCodeUptoRow : OpenClaim := { program := "ytneohapkboaplaagreat", sum := "239b122b8bc0ad062fdd696929b0abe3d4836b206342eca4fa1b1647949df6bc", func := "bookplate/bookplatelaw39.SegmentCode", spec := "segmentCode", unfollowed := true, recurses := true, plainKeys := false, apart := false, narrowed := true }
def SegmentCodeUptoSaid : Prop := segmentCodeUptoRow.holds Tryz.pinned (OpenSpec.upto segmentCodeSpec)

end Rows
end Go.Proofs.YtneohapkboaplaaGreat
