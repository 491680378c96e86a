/-
  No cell of these rows narrows 'for every input' (looked for: loops, veiled, ifaces, maps, wideKeys, modest, calm, conditions, laid).
  DERIVED. THE GIVEN ROWS OF THIS SEAT. 3 by the template 'for every input the law returns true; each argument reads behind the call as it read before'; 0 by the template 'total and deterministic' (their statements: YtfdlngemkhiiiaaTotals.lean).
  GIVEN WITH THE SEED: the statements are not yours to turn. If you find one false, say at which input.
  Laid BY PROGRAM, IN A SANDBOX (cutbox-rows.mjs): the forced cells as the released guide's own fill.sh prints them over the translation f0aa874c73592921… (all of the seat's roots in one cut). By AI agents, Wed Nov 11 2026. No macro, syntax, notation, axiom, sorry.
-/
import Derived.Test.YtfdlngemkhiiiaaChecked
import GoSem.Claim
import GoSem.ClaimJoined
import GoSem.ClaimMapViews
import Derived.JoinedTies
import Derived.KernelRfl
namespace Go.Proofs.Ytfdlngemkhiiiaa
/- THE CELL 'sum', in the pinned program and in every row, IS THE sha256 OF THE DUMP (.gsa) THAT YtfdlngemkhiiiaaProg.lean LOADS. Nothing in Lean hashes anything: it is a label: what it is worth is what the hold of that sum in a sandbox is worth. -/
noncomputable def Try.pinned : Pinned := { name := "ytfdlngemkhiiiaa", sum := "f0aa874c7359292151c812246e8736f3434fbe475c4ecb1ee325d3b31e237f8e", checked := Try.checked }
namespace Rows
def none {H : Type} : Left H := { results := [], args := [] }

/-- 'bookplatelaw26.VocabmapCompose': WHATEVER THE INPUT: true; the input reads as it did. -/
def vocabmapComposeSpec : ChangeSpec := { name := "vocabmapCompose", fn := fun _ => fun
  | [d1, d2] => { results := [.lit (.bool true)], args := [d1, d2] }
  | _ => none }
def vocabmapComposeRow : OpenClaim := { program := "ytfdlngemkhiiiaa", sum := "f0aa874c7359292151c812246e8736f3434fbe475c4ecb1ee325d3b31e237f8e", func := "bookplate/bookplatelaw26.VocabmapCompose", spec := "vocabmapCompose", unfollowed := true, recurses := true, plainKeys := false, apart := false }
def VocabmapComposeSaid : Prop := vocabmapComposeRow.holds Try.pinned (OpenSpec.ofChange vocabmapComposeSpec)

/-- ITS FALSE NEIGHBOUR: 'it returns false'. Refute it at one input. -/
def vocabmapComposeWrong : ChangeSpec := { name := "vocabmapCompose", fn := fun _ => fun
  | [d1, d2] => { results := [.lit (.bool false)], args := [d1, d2] }
  | _ => none }
def VocabmapComposeWrongFalsely : Prop := vocabmapComposeRow.holds Try.pinned (OpenSpec.ofChange vocabmapComposeWrong)

/-- 'bookplatelaw26.VocabmapExact': WHATEVER THE INPUT: true; the input reads as it did. -/
def vocabmapExactSpec : ChangeSpec := { name := "vocabmapExact", fn := fun _ => fun
  | [d1, d2] => { results := [.lit (.bool true)], args := [d1, d2] }
  | _ => none }
def vocabmapExactRow : OpenClaim := { program := "ytfdlngemkhiiiaa", sum := "f0aa874c7359292151c812246e8736f3434fbe475c4ecb1ee325d3b31e237f8e", func := "bookplate/bookplatelaw26.VocabmapExact", spec := "vocabmapExact", unfollowed := true, recurses := true, plainKeys := false, apart := false }
def VocabmapExactSaid : Prop := vocabmapExactRow.holds Try.pinned (OpenSpec.ofChange vocabmapExactSpec)

/-- ITS FALSE NEIGHBOUR: 'it returns false'. Refute it at one input. -/
def vocabmapExactWrong : ChangeSpec := { name := "vocabmapExact", fn := fun _ => fun
  | [d1, d2] => { results := [.lit (.bool false)], args := [d1, d2] }
  | _ => none }
def VocabmapExactWrongFalsely : Prop := vocabmapExactRow.holds Try.pinned (OpenSpec.ofChange vocabmapExactWrong)

/-- 'bookplatelaw26.VocabmapInverse': WHATEVER THE INPUT: true; the input reads as it did. -/
def vocabmapInverseSpec : ChangeSpec := { name := "vocabmapInverse", fn := fun _ => fun
  | [d1, d2, d3] => { results := [.lit (.bool true)], args := [d1, d2, d3] }
  | _ => none }
def vocabmapInverseRow : OpenClaim := { program := "ytfdlngemkhiiiaa", sum := "f0aa874c7359292151c812246e8736f3434fbe475c4ecb1ee325d3b31e237f8e", func := "bookplate/bookplatelaw26.VocabmapInverse", spec := "vocabmapInverse", unfollowed := true, recurses := true, plainKeys := false, apart := false }
def VocabmapInverseSaid : Prop := vocabmapInverseRow.holds Try.pinned (OpenSpec.ofChange vocabmapInverseSpec)

/-- ITS FALSE NEIGHBOUR: 'it returns false'. Refute it at one input. -/
def vocabmapInverseWrong : ChangeSpec := { name := "vocabmapInverse", fn := fun _ => fun
  | [d1, d2, d3] => { results := [.lit (.bool false)], args := [d1, d2, d3] }
  | _ => none }
def VocabmapInverseWrongFalsely : Prop := vocabmapInverseRow.holds Try.pinned (OpenSpec.ofChange vocabmapInverseWrong)

/- THE SECOND FORM. 'bulk': how many values and letters a reading holds, each counted each time it is reached (what is shared counts as often as it is met; a slice's spare places count too). A statement '..UptoSaid' is the law's where the arguments, and the package variables that the reading takes, are together of bulk at most 1048576: NARROWER than '..Said'. Prove '..Said' where nothing that the law and all that it calls make is longer than what came in: it says more and counts as full. Else prove '..UptoSaid'. A law counts once. -/
mutual
def uptoBulk {H : Type} : DataW H → Nat
  | .lit (.string bytes) => bytes.length + 1
  | .lit _ => 1
  | .nil => 1
  | .ptr d => uptoBulk d + 1
  | .slice elems spare => uptoBulkAll elems + uptoBulkAll spare + 1
  | .agg parts => uptoBulkAll parts + 1
  | .iface _ d => uptoBulk d + 1
  | .map entries => uptoBulkEntries entries + 1
  | .held _ => 1
def uptoBulkAll {H : Type} : List (DataW H) → Nat
  | [] => 0
  | d :: r => uptoBulk d + uptoBulkAll r
def uptoBulkEntries {H : Type} : List (Lit × DataW H) → Nat
  | [] => 0
  | x :: r => uptoBulkEntry x + uptoBulkEntries r
def uptoBulkEntry {H : Type} : Lit × DataW H → Nat
  | (.string bytes, d) => bytes.length + uptoBulk d + 1
  | (_, d) => uptoBulk d + 1
 end
def uptoSmall : (H : Type) → List (DataW H) → Bool := fun _ ds => decide (uptoBulkAll ds ≤ 1048576)
def OpenSpec.upto (s : _root_.Go.ChangeSpec) : _root_.Go.OpenSpec := { _root_.Go.OpenSpec.ofChange s with cond := some uptoSmall }

/-- 'bookplatelaw26.VocabmapCompose', WHERE WHAT IT READS IS OF BULK AT MOST 1048576: true; the input reads as it did. -/
def vocabmapComposeUptoRow : OpenClaim := { program := "ytfdlngemkhiiiaa", sum := "f0aa874c7359292151c812246e8736f3434fbe475c4ecb1ee325d3b31e237f8e", func := "bookplate/bookplatelaw26.VocabmapCompose", spec := "vocabmapCompose", unfollowed := true, recurses := true, plainKeys := false, apart := false, narrowed := true }
def VocabmapComposeUptoSaid : Prop := vocabmapComposeUptoRow.holds Try.pinned (OpenSpec.upto vocabmapComposeSpec)

/-- 'bookplatelaw26.VocabmapExact', WHERE WHAT IT READS IS OF BULK AT MOST 1048576: true; the input reads as it did. -/
def vocabmapExactUptoRow : OpenClaim := { program := "ytfdlngemkhiiiaa", sum := "f0aa874c7359292151c812246e8736f3434fbe475c4ecb1ee325d3b31e237f8e", func := "bookplate/bookplatelaw26.VocabmapExact", spec := "vocabmapExact", unfollowed := true, recurses := true, plainKeys := false, apart := false, narrowed := true }
def VocabmapExactUptoSaid : Prop := vocabmapExactUptoRow.holds Try.pinned (OpenSpec.upto vocabmapExactSpec)

/-- 'bookplatelaw26.VocabmapInverse', WHERE WHAT IT READS IS OF BULK AT MOST 1048576: true; the input reads as it did. -/
def vocabmapInverseUptoRow : OpenClaim := { program := "ytfdlngemkhiiiaa", sum := "f0aa874c7359292151c812246e8736f3434fbe475c4ecb1ee325d3b31e237f8e", func := "bookplate/bookplatelaw26.VocabmapInverse", spec := "vocabmapInverse", unfollowed := true, recurses := true, plainKeys := false, apart := false, narrowed := true }
def VocabmapInverseUptoSaid : Prop := vocabmapInverseUptoRow.holds Try.pinned (OpenSpec.upto vocabmapInverseSpec)

end Rows
end Go.Proofs.Ytfdlngemkhiiiaa
