/-
  No cell of these rows narrows 'for every input' (looked for: loops, veiled, ifaces, maps, wideKeys, modest, calm, conditions, laid).
  DERIVED. THE GIVEN ROWS OF THIS SEAT. 5 by the template 'for every input the law returns true; each argument reads behind the call as it read before'; 0 by the template 'total and deterministic' (their statements: YtbijefgmleagnaaTotals.lean).
  GIVEN WITH THE SEED: the statements are not yours to turn. If you find one false, say at which input.
  Laid BY PROGRAM, IN A SANDBOX (cutbox-rows.mjs): the forced cells as the released guide's own fill.sh prints them over the translation aeef0575c82ab6c5… (all of the seat's roots in one cut). By AI agents, Wed Nov 11 2026. No macro, syntax, notation, axiom, sorry.
-/
import Derived.Test.YtbijefgmleagnaaChecked
import GoSem.Claim
import GoSem.ClaimJoined
import GoSem.ClaimMapViews
import Derived.JoinedTies
import Derived.KernelRfl
namespace Go.Proofs.Ytbijefgmleagnaa
/- THE CELL 'sum', in the pinned program and in every row, IS THE sha256 OF THE DUMP (.gsa) THAT YtbijefgmleagnaaProg.lean LOADS. Nothing in Lean hashes anything: it is a label: what it is worth is what the hold of that sum in a sandbox is worth. -/
noncomputable def Try.pinned : Pinned := { name := "ytbijefgmleagnaa", sum := "aeef0575c82ab6c5cd01e16bd220d1004241d43275fbbf22ae7e58fe8ac3f106", checked := Try.checked }
namespace Rows
def none {H : Type} : Left H := { results := [], args := [] }

/-- 'bookplatelaw43.SuggestNear': WHATEVER THE INPUT: true; the input reads as it did. -/
def suggestNearSpec : ChangeSpec := { name := "suggestNear", fn := fun _ => fun
  | [d1, d2, d3] => { results := [.lit (.bool true)], args := [d1, d2, d3] }
  | _ => none }
def suggestNearRow : OpenClaim := { program := "ytbijefgmleagnaa", sum := "aeef0575c82ab6c5cd01e16bd220d1004241d43275fbbf22ae7e58fe8ac3f106", func := "bookplate/bookplatelaw43.SuggestNear", spec := "suggestNear", unfollowed := true, recurses := true, apart := false }
def SuggestNearSaid : Prop := suggestNearRow.holds Try.pinned (OpenSpec.ofChange suggestNearSpec)

/-- ITS FALSE NEIGHBOUR: 'it returns false'. Refute it at one input. -/
def suggestNearWrong : ChangeSpec := { name := "suggestNear", fn := fun _ => fun
  | [d1, d2, d3] => { results := [.lit (.bool false)], args := [d1, d2, d3] }
  | _ => none }
def SuggestNearWrongFalsely : Prop := suggestNearRow.holds Try.pinned (OpenSpec.ofChange suggestNearWrong)

/-- 'bookplatelaw43.SuggestWithin': WHATEVER THE INPUT: true; the input reads as it did. -/
def suggestWithinSpec : ChangeSpec := { name := "suggestWithin", fn := fun _ => fun
  | [d1, d2, d3] => { results := [.lit (.bool true)], args := [d1, d2, d3] }
  | _ => none }
def suggestWithinRow : OpenClaim := { program := "ytbijefgmleagnaa", sum := "aeef0575c82ab6c5cd01e16bd220d1004241d43275fbbf22ae7e58fe8ac3f106", func := "bookplate/bookplatelaw43.SuggestWithin", spec := "suggestWithin", unfollowed := true, recurses := true, apart := false }
def SuggestWithinSaid : Prop := suggestWithinRow.holds Try.pinned (OpenSpec.ofChange suggestWithinSpec)

/-- ITS FALSE NEIGHBOUR: 'it returns false'. Refute it at one input. -/
def suggestWithinWrong : ChangeSpec := { name := "suggestWithin", fn := fun _ => fun
  | [d1, d2, d3] => { results := [.lit (.bool false)], args := [d1, d2, d3] }
  | _ => none }
def SuggestWithinWrongFalsely : Prop := suggestWithinRow.holds Try.pinned (OpenSpec.ofChange suggestWithinWrong)

/-- 'bookplatelaw43.SuggestCorrect': WHATEVER THE INPUT: true; the input reads as it did. -/
def suggestCorrectSpec : ChangeSpec := { name := "suggestCorrect", fn := fun _ => fun
  | [d1, d2, d3] => { results := [.lit (.bool true)], args := [d1, d2, d3] }
  | _ => none }
def suggestCorrectRow : OpenClaim := { program := "ytbijefgmleagnaa", sum := "aeef0575c82ab6c5cd01e16bd220d1004241d43275fbbf22ae7e58fe8ac3f106", func := "bookplate/bookplatelaw43.SuggestCorrect", spec := "suggestCorrect", unfollowed := true, recurses := true, apart := false }
def SuggestCorrectSaid : Prop := suggestCorrectRow.holds Try.pinned (OpenSpec.ofChange suggestCorrectSpec)

/-- ITS FALSE NEIGHBOUR: 'it returns false'. Refute it at one input. -/
def suggestCorrectWrong : ChangeSpec := { name := "suggestCorrect", fn := fun _ => fun
  | [d1, d2, d3] => { results := [.lit (.bool false)], args := [d1, d2, d3] }
  | _ => none }
def SuggestCorrectWrongFalsely : Prop := suggestCorrectRow.holds Try.pinned (OpenSpec.ofChange suggestCorrectWrong)

/-- 'bookplatelaw43.SuggestAgain': WHATEVER THE INPUT: true; the input reads as it did. -/
def suggestAgainSpec : ChangeSpec := { name := "suggestAgain", fn := fun _ => fun
  | [d1, d2, d3] => { results := [.lit (.bool true)], args := [d1, d2, d3] }
  | _ => none }
def suggestAgainRow : OpenClaim := { program := "ytbijefgmleagnaa", sum := "aeef0575c82ab6c5cd01e16bd220d1004241d43275fbbf22ae7e58fe8ac3f106", func := "bookplate/bookplatelaw43.SuggestAgain", spec := "suggestAgain", unfollowed := true, recurses := true, apart := false }
def SuggestAgainSaid : Prop := suggestAgainRow.holds Try.pinned (OpenSpec.ofChange suggestAgainSpec)

/-- ITS FALSE NEIGHBOUR: 'it returns false'. Refute it at one input. -/
def suggestAgainWrong : ChangeSpec := { name := "suggestAgain", fn := fun _ => fun
  | [d1, d2, d3] => { results := [.lit (.bool false)], args := [d1, d2, d3] }
  | _ => none }
def SuggestAgainWrongFalsely : Prop := suggestAgainRow.holds Try.pinned (OpenSpec.ofChange suggestAgainWrong)

/-- 'bookplatelaw43.SuggestComplete': WHATEVER THE INPUT: true; the input reads as it did. -/
def suggestCompleteSpec : ChangeSpec := { name := "suggestComplete", fn := fun _ => fun
  | [d1, d2, d3] => { results := [.lit (.bool true)], args := [d1, d2, d3] }
  | _ => none }
def suggestCompleteRow : OpenClaim := { program := "ytbijefgmleagnaa", sum := "aeef0575c82ab6c5cd01e16bd220d1004241d43275fbbf22ae7e58fe8ac3f106", func := "bookplate/bookplatelaw43.SuggestComplete", spec := "suggestComplete", unfollowed := true, recurses := true, apart := false }
def SuggestCompleteSaid : Prop := suggestCompleteRow.holds Try.pinned (OpenSpec.ofChange suggestCompleteSpec)

/-- ITS FALSE NEIGHBOUR: 'it returns false'. Refute it at one input. -/
def suggestCompleteWrong : ChangeSpec := { name := "suggestComplete", fn := fun _ => fun
  | [d1, d2, d3] => { results := [.lit (.bool false)], args := [d1, d2, d3] }
  | _ => none }
def SuggestCompleteWrongFalsely : Prop := suggestCompleteRow.holds Try.pinned (OpenSpec.ofChange suggestCompleteWrong)

/- THE SECOND FORM. 'bulk': how many values and letters a reading holds, each counted each time it is reached (what is shared counts as often as it is met; a slice's spare places count too). A statement '..UptoSaid' is the law's where the arguments, and the package variables that the reading takes, are together of bulk at most 1048576: NARROWER than '..Said'. Prove '..Said' where nothing that the law and all that it calls make is longer than what came in: it says more and counts as full. Else prove '..UptoSaid'. A law counts once. -/
mutual
def uptoBulk {H : Type} : DataW H → Nat
  | .lit (.string bytes) => bytes.length + 1
  | .lit _ => 1
  | .nil => 1
  | .ptr d => uptoBulk d + 1
  | .slice elems spare => uptoBulkAll elems + uptoBulkAll spare + 1
  | .agg parts => uptoBulkAll parts + 1
  | .iface _ d => uptoBulk d + 1
  | .map entries => uptoBulkEntries entries + 1
  | .held _ => 1
def uptoBulkAll {H : Type} : List (DataW H) → Nat
  | [] => 0
  | d :: r => uptoBulk d + uptoBulkAll r
def uptoBulkEntries {H : Type} : List (Lit × DataW H) → Nat
  | [] => 0
  | x :: r => uptoBulkEntry x + uptoBulkEntries r
def uptoBulkEntry {H : Type} : Lit × DataW H → Nat
  | (.string bytes, d) => bytes.length + uptoBulk d + 1
  | (_, d) => uptoBulk d + 1
 end
def uptoSmall : (H : Type) → List (DataW H) → Bool := fun _ ds => decide (uptoBulkAll ds ≤ 1048576)
def OpenSpec.upto (s : _root_.Go.ChangeSpec) : _root_.Go.OpenSpec := { _root_.Go.OpenSpec.ofChange s with cond := some uptoSmall }

/-- 'bookplatelaw43.SuggestNear', WHERE WHAT IT READS IS OF BULK AT MOST 1048576: true; the input reads as it did. -/
def suggestNearUptoRow : OpenClaim := { program := "ytbijefgmleagnaa", sum := "aeef0575c82ab6c5cd01e16bd220d1004241d43275fbbf22ae7e58fe8ac3f106", func := "bookplate/bookplatelaw43.SuggestNear", spec := "suggestNear", unfollowed := true, recurses := true, apart := false, narrowed := true }
def SuggestNearUptoSaid : Prop := suggestNearUptoRow.holds Try.pinned (OpenSpec.upto suggestNearSpec)

/-- 'bookplatelaw43.SuggestWithin', WHERE WHAT IT READS IS OF BULK AT MOST 1048576: true; the input reads as it did. -/
def suggestWithinUptoRow : OpenClaim := { program := "ytbijefgmleagnaa", sum := "aeef0575c82ab6c5cd01e16bd220d1004241d43275fbbf22ae7e58fe8ac3f106", func := "bookplate/bookplatelaw43.SuggestWithin", spec := "suggestWithin", unfollowed := true, recurses := true, apart := false, narrowed := true }
def SuggestWithinUptoSaid : Prop := suggestWithinUptoRow.holds Try.pinned (OpenSpec.upto suggestWithinSpec)

/-- 'bookplatelaw43.SuggestCorrect', WHERE WHAT IT READS IS OF BULK AT MOST 1048576: true; the input reads as it did. -/
def suggestCorrectUptoRow : OpenClaim := { program := "ytbijefgmleagnaa", sum := "aeef0575c82ab6c5cd01e16bd220d1004241d43275fbbf22ae7e58fe8ac3f106", func := "bookplate/bookplatelaw43.SuggestCorrect", spec := "suggestCorrect", unfollowed := true, recurses := true, apart := false, narrowed := true }
def SuggestCorrectUptoSaid : Prop := suggestCorrectUptoRow.holds Try.pinned (OpenSpec.upto suggestCorrectSpec)

/-- 'bookplatelaw43.SuggestAgain', WHERE WHAT IT READS IS OF BULK AT MOST 1048576: true; the input reads as it did. -/
def suggestAgainUptoRow : OpenClaim := { program := "ytbijefgmleagnaa", sum := "aeef0575c82ab6c5cd01e16bd220d1004241d43275fbbf22ae7e58fe8ac3f106", func := "bookplate/bookplatelaw43.SuggestAgain", spec := "suggestAgain", unfollowed := true, recurses := true, apart := false, narrowed := true }
def SuggestAgainUptoSaid : Prop := suggestAgainUptoRow.holds Try.pinned (OpenSpec.upto suggestAgainSpec)

/-- 'bookplatelaw43.SuggestComplete', WHERE WHAT IT READS IS OF BULK AT MOST 1048576: true; the input reads as it did. -/
def suggestCompleteUptoRow : OpenClaim := { program := "ytbijefgmleagnaa", sum := "aeef0575c82ab6c5cd01e16bd220d1004241d43275fbbf22ae7e58fe8ac3f106", func := "bookplate/bookplatelaw43.SuggestComplete", spec := "suggestComplete", unfollowed := true, recurses := true, apart := false, narrowed := true }
def SuggestCompleteUptoSaid : Prop := suggestCompleteUptoRow.holds Try.pinned (OpenSpec.upto suggestCompleteSpec)

end Rows
end Go.Proofs.Ytbijefgmleagnaa
