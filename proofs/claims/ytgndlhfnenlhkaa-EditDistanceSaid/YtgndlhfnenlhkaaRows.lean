/-
  No cell of these rows narrows 'for every input' (looked for: loops, veiled, ifaces, maps, wideKeys, modest, calm, conditions, laid).
  DERIVED. THE GIVEN ROWS OF THIS SEAT. 8 by the template 'for every input the law returns true; each argument reads behind the call as it read before'; 0 by the template 'total and deterministic' (their statements: YtgndlhfnenlhkaaTotals.lean).
  GIVEN WITH THE SEED: the statements are not yours to turn. If you find one false, say at which input.
  Laid BY PROGRAM, IN A SANDBOX (cutbox-rows.mjs): the forced cells as the released guide's own fill.sh prints them over the translation 29fb05e729863f93… (all of the seat's roots in one cut). By AI agents, Wed Nov 11 2026. No macro, syntax, notation, axiom, sorry.
-/
import Derived.Test.YtgndlhfnenlhkaaChecked
import GoSem.Claim
import GoSem.ClaimJoined
import GoSem.ClaimMapViews
import Derived.JoinedTies
import Derived.KernelRfl
namespace Go.Proofs.Ytgndlhfnenlhkaa
/- THE CELL 'sum', in the pinned program and in every row, IS THE sha256 OF THE DUMP (.gsa) THAT YtgndlhfnenlhkaaProg.lean LOADS. Nothing in Lean hashes anything: it is a label: what it is worth is what the hold of that sum in a sandbox is worth. -/
noncomputable def Try.pinned : Pinned := { name := "ytgndlhfnenlhkaa", sum := "29fb05e729863f9388a786b5e036821f0e46750045f5c07aba7f16e00c0a5b31", checked := Try.checked }
namespace Rows
def none {H : Type} : Left H := { results := [], args := [] }

/-- 'bookplatelaw11.EditText': WHATEVER THE INPUT: true; the input reads as it did. -/
def editTextSpec : ChangeSpec := { name := "editText", fn := fun _ => fun
  | [d1, d2] => { results := [.lit (.bool true)], args := [d1, d2] }
  | _ => none }
def editTextRow : OpenClaim := { program := "ytgndlhfnenlhkaa", sum := "29fb05e729863f9388a786b5e036821f0e46750045f5c07aba7f16e00c0a5b31", func := "bookplate/bookplatelaw11.EditText", spec := "editText", apart := false }
def EditTextSaid : Prop := editTextRow.holds Try.pinned (OpenSpec.ofChange editTextSpec)

/-- ITS FALSE NEIGHBOUR: 'it returns false'. Refute it at one input. -/
def editTextWrong : ChangeSpec := { name := "editText", fn := fun _ => fun
  | [d1, d2] => { results := [.lit (.bool false)], args := [d1, d2] }
  | _ => none }
def EditTextWrongFalsely : Prop := editTextRow.holds Try.pinned (OpenSpec.ofChange editTextWrong)

/-- 'bookplatelaw11.EditScript': WHATEVER THE INPUT: true; the input reads as it did. -/
def editScriptSpec : ChangeSpec := { name := "editScript", fn := fun _ => fun
  | [d1, d2] => { results := [.lit (.bool true)], args := [d1, d2] }
  | _ => none }
def editScriptRow : OpenClaim := { program := "ytgndlhfnenlhkaa", sum := "29fb05e729863f9388a786b5e036821f0e46750045f5c07aba7f16e00c0a5b31", func := "bookplate/bookplatelaw11.EditScript", spec := "editScript", apart := false }
def EditScriptSaid : Prop := editScriptRow.holds Try.pinned (OpenSpec.ofChange editScriptSpec)

/-- ITS FALSE NEIGHBOUR: 'it returns false'. Refute it at one input. -/
def editScriptWrong : ChangeSpec := { name := "editScript", fn := fun _ => fun
  | [d1, d2] => { results := [.lit (.bool false)], args := [d1, d2] }
  | _ => none }
def EditScriptWrongFalsely : Prop := editScriptRow.holds Try.pinned (OpenSpec.ofChange editScriptWrong)

/-- 'bookplatelaw11.EditMetric': WHATEVER THE INPUT: true; the input reads as it did. -/
def editMetricSpec : ChangeSpec := { name := "editMetric", fn := fun _ => fun
  | [d1, d2, d3] => { results := [.lit (.bool true)], args := [d1, d2, d3] }
  | _ => none }
def editMetricRow : OpenClaim := { program := "ytgndlhfnenlhkaa", sum := "29fb05e729863f9388a786b5e036821f0e46750045f5c07aba7f16e00c0a5b31", func := "bookplate/bookplatelaw11.EditMetric", spec := "editMetric", apart := false }
def EditMetricSaid : Prop := editMetricRow.holds Try.pinned (OpenSpec.ofChange editMetricSpec)

/-- ITS FALSE NEIGHBOUR: 'it returns false'. Refute it at one input. -/
def editMetricWrong : ChangeSpec := { name := "editMetric", fn := fun _ => fun
  | [d1, d2, d3] => { results := [.lit (.bool false)], args := [d1, d2, d3] }
  | _ => none }
def EditMetricWrongFalsely : Prop := editMetricRow.holds Try.pinned (OpenSpec.ofChange editMetricWrong)

/-- 'bookplatelaw11.EditBounds': WHATEVER THE INPUT: true; the input reads as it did. -/
def editBoundsSpec : ChangeSpec := { name := "editBounds", fn := fun _ => fun
  | [d1, d2, d3] => { results := [.lit (.bool true)], args := [d1, d2, d3] }
  | _ => none }
def editBoundsRow : OpenClaim := { program := "ytgndlhfnenlhkaa", sum := "29fb05e729863f9388a786b5e036821f0e46750045f5c07aba7f16e00c0a5b31", func := "bookplate/bookplatelaw11.EditBounds", spec := "editBounds", apart := false }
def EditBoundsSaid : Prop := editBoundsRow.holds Try.pinned (OpenSpec.ofChange editBoundsSpec)

/-- ITS FALSE NEIGHBOUR: 'it returns false'. Refute it at one input. -/
def editBoundsWrong : ChangeSpec := { name := "editBounds", fn := fun _ => fun
  | [d1, d2, d3] => { results := [.lit (.bool false)], args := [d1, d2, d3] }
  | _ => none }
def EditBoundsWrongFalsely : Prop := editBoundsRow.holds Try.pinned (OpenSpec.ofChange editBoundsWrong)

/-- 'bookplatelaw11.EditSubsequence': WHATEVER THE INPUT: true; the input reads as it did. -/
def editSubsequenceSpec : ChangeSpec := { name := "editSubsequence", fn := fun _ => fun
  | [d1, d2, d3] => { results := [.lit (.bool true)], args := [d1, d2, d3] }
  | _ => none }
def editSubsequenceRow : OpenClaim := { program := "ytgndlhfnenlhkaa", sum := "29fb05e729863f9388a786b5e036821f0e46750045f5c07aba7f16e00c0a5b31", func := "bookplate/bookplatelaw11.EditSubsequence", spec := "editSubsequence", apart := false }
def EditSubsequenceSaid : Prop := editSubsequenceRow.holds Try.pinned (OpenSpec.ofChange editSubsequenceSpec)

/-- ITS FALSE NEIGHBOUR: 'it returns false'. Refute it at one input. -/
def editSubsequenceWrong : ChangeSpec := { name := "editSubsequence", fn := fun _ => fun
  | [d1, d2, d3] => { results := [.lit (.bool false)], args := [d1, d2, d3] }
  | _ => none }
def EditSubsequenceWrongFalsely : Prop := editSubsequenceRow.holds Try.pinned (OpenSpec.ofChange editSubsequenceWrong)

/-- 'bookplatelaw11.EditApply': WHATEVER THE INPUT: true; the input reads as it did. -/
def editApplySpec : ChangeSpec := { name := "editApply", fn := fun _ => fun
  | [d1, d2] => { results := [.lit (.bool true)], args := [d1, d2] }
  | _ => none }
def editApplyRow : OpenClaim := { program := "ytgndlhfnenlhkaa", sum := "29fb05e729863f9388a786b5e036821f0e46750045f5c07aba7f16e00c0a5b31", func := "bookplate/bookplatelaw11.EditApply", spec := "editApply", apart := false }
def EditApplySaid : Prop := editApplyRow.holds Try.pinned (OpenSpec.ofChange editApplySpec)

/-- ITS FALSE NEIGHBOUR: 'it returns false'. Refute it at one input. -/
def editApplyWrong : ChangeSpec := { name := "editApply", fn := fun _ => fun
  | [d1, d2] => { results := [.lit (.bool false)], args := [d1, d2] }
  | _ => none }
def EditApplyWrongFalsely : Prop := editApplyRow.holds Try.pinned (OpenSpec.ofChange editApplyWrong)

/-- 'bookplatelaw11.EditLeast': WHATEVER THE INPUT: true; the input reads as it did. -/
def editLeastSpec : ChangeSpec := { name := "editLeast", fn := fun _ => fun
  | [d1, d2, d3] => { results := [.lit (.bool true)], args := [d1, d2, d3] }
  | _ => none }
def editLeastRow : OpenClaim := { program := "ytgndlhfnenlhkaa", sum := "29fb05e729863f9388a786b5e036821f0e46750045f5c07aba7f16e00c0a5b31", func := "bookplate/bookplatelaw11.EditLeast", spec := "editLeast", apart := false }
def EditLeastSaid : Prop := editLeastRow.holds Try.pinned (OpenSpec.ofChange editLeastSpec)

/-- ITS FALSE NEIGHBOUR: 'it returns false'. Refute it at one input. -/
def editLeastWrong : ChangeSpec := { name := "editLeast", fn := fun _ => fun
  | [d1, d2, d3] => { results := [.lit (.bool false)], args := [d1, d2, d3] }
  | _ => none }
def EditLeastWrongFalsely : Prop := editLeastRow.holds Try.pinned (OpenSpec.ofChange editLeastWrong)

/-- 'bookplatelaw11.EditDistance': WHATEVER THE INPUT: true; the input reads as it did. -/
def editDistanceSpec : ChangeSpec := { name := "editDistance", fn := fun _ => fun
  | [d1, d2, d3] => { results := [.lit (.bool true)], args := [d1, d2, d3] }
  | _ => none }
def editDistanceRow : OpenClaim := { program := "ytgndlhfnenlhkaa", sum := "29fb05e729863f9388a786b5e036821f0e46750045f5c07aba7f16e00c0a5b31", func := "bookplate/bookplatelaw11.EditDistance", spec := "editDistance", apart := false }
def EditDistanceSaid : Prop := editDistanceRow.holds Try.pinned (OpenSpec.ofChange editDistanceSpec)

/-- ITS FALSE NEIGHBOUR: 'it returns false'. Refute it at one input. -/
def editDistanceWrong : ChangeSpec := { name := "editDistance", fn := fun _ => fun
  | [d1, d2, d3] => { results := [.lit (.bool false)], args := [d1, d2, d3] }
  | _ => none }
def EditDistanceWrongFalsely : Prop := editDistanceRow.holds Try.pinned (OpenSpec.ofChange editDistanceWrong)

/- THE SECOND FORM. 'bulk': how many values and letters a reading holds, each counted each time it is reached (what is shared counts as often as it is met; a slice's spare places count too). A statement '..UptoSaid' is the law's where the arguments, and the package variables that the reading takes, are together of bulk at most 1048576: NARROWER than '..Said'. Prove '..Said' where nothing that the law and all that it calls make is longer than what came in: it says more and counts as full. Else prove '..UptoSaid'. A law counts once. -/
mutual
def uptoBulk {H : Type} : DataW H → Nat
  | .lit (.string bytes) => bytes.length + 1
  | .lit _ => 1
  | .nil => 1
  | .ptr d => uptoBulk d + 1
  | .slice elems spare => uptoBulkAll elems + uptoBulkAll spare + 1
  | .agg parts => uptoBulkAll parts + 1
  | .iface _ d => uptoBulk d + 1
  | .map entries => uptoBulkEntries entries + 1
  | .held _ => 1
def uptoBulkAll {H : Type} : List (DataW H) → Nat
  | [] => 0
  | d :: r => uptoBulk d + uptoBulkAll r
def uptoBulkEntries {H : Type} : List (Lit × DataW H) → Nat
  | [] => 0
  | x :: r => uptoBulkEntry x + uptoBulkEntries r
def uptoBulkEntry {H : Type} : Lit × DataW H → Nat
  | (.string bytes, d) => bytes.length + uptoBulk d + 1
  | (_, d) => uptoBulk d + 1
 end
def uptoSmall : (H : Type) → List (DataW H) → Bool := fun _ ds => decide (uptoBulkAll ds ≤ 1048576)
def OpenSpec.upto (s : _root_.Go.ChangeSpec) : _root_.Go.OpenSpec := { _root_.Go.OpenSpec.ofChange s with cond := some uptoSmall }

/-- 'bookplatelaw11.EditText', WHERE WHAT IT READS IS OF BULK AT MOST 1048576: true; the input reads as it did. -/
def editTextUptoRow : OpenClaim := { program := "ytgndlhfnenlhkaa", sum := "29fb05e729863f9388a786b5e036821f0e46750045f5c07aba7f16e00c0a5b31", func := "bookplate/bookplatelaw11.EditText", spec := "editText", apart := false, narrowed := true }
def EditTextUptoSaid : Prop := editTextUptoRow.holds Try.pinned (OpenSpec.upto editTextSpec)

/-- 'bookplatelaw11.EditScript', WHERE WHAT IT READS IS OF BULK AT MOST 1048576: true; the input reads as it did. -/
def editScriptUptoRow : OpenClaim := { program := "ytgndlhfnenlhkaa", sum := "29fb05e729863f9388a786b5e036821f0e46750045f5c07aba7f16e00c0a5b31", func := "bookplate/bookplatelaw11.EditScript", spec := "editScript", apart := false, narrowed := true }
def EditScriptUptoSaid : Prop := editScriptUptoRow.holds Try.pinned (OpenSpec.upto editScriptSpec)

/-- 'bookplatelaw11.EditMetric', WHERE WHAT IT READS IS OF BULK AT MOST 1048576: true; the input reads as it did. -/
def editMetricUptoRow : OpenClaim := { program := "ytgndlhfnenlhkaa", sum := "29fb05e729863f9388a786b5e036821f0e46750045f5c07aba7f16e00c0a5b31", func := "bookplate/bookplatelaw11.EditMetric", spec := "editMetric", apart := false, narrowed := true }
def EditMetricUptoSaid : Prop := editMetricUptoRow.holds Try.pinned (OpenSpec.upto editMetricSpec)

/-- 'bookplatelaw11.EditBounds', WHERE WHAT IT READS IS OF BULK AT MOST 1048576: true; the input reads as it did. -/
def editBoundsUptoRow : OpenClaim := { program := "ytgndlhfnenlhkaa", sum := "29fb05e729863f9388a786b5e036821f0e46750045f5c07aba7f16e00c0a5b31", func := "bookplate/bookplatelaw11.EditBounds", spec := "editBounds", apart := false, narrowed := true }
def EditBoundsUptoSaid : Prop := editBoundsUptoRow.holds Try.pinned (OpenSpec.upto editBoundsSpec)

/-- 'bookplatelaw11.EditSubsequence', WHERE WHAT IT READS IS OF BULK AT MOST 1048576: true; the input reads as it did. -/
def editSubsequenceUptoRow : OpenClaim := { program := "ytgndlhfnenlhkaa", sum := "29fb05e729863f9388a786b5e036821f0e46750045f5c07aba7f16e00c0a5b31", func := "bookplate/bookplatelaw11.EditSubsequence", spec := "editSubsequence", apart := false, narrowed := true }
def EditSubsequenceUptoSaid : Prop := editSubsequenceUptoRow.holds Try.pinned (OpenSpec.upto editSubsequenceSpec)

/-- 'bookplatelaw11.EditApply', WHERE WHAT IT READS IS OF BULK AT MOST 1048576: true; the input reads as it did. -/
def editApplyUptoRow : OpenClaim := { program := "ytgndlhfnenlhkaa", sum := "29fb05e729863f9388a786b5e036821f0e46750045f5c07aba7f16e00c0a5b31", func := "bookplate/bookplatelaw11.EditApply", spec := "editApply", apart := false, narrowed := true }
def EditApplyUptoSaid : Prop := editApplyUptoRow.holds Try.pinned (OpenSpec.upto editApplySpec)

/-- 'bookplatelaw11.EditLeast', WHERE WHAT IT READS IS OF BULK AT MOST 1048576: true; the input reads as it did. -/
def editLeastUptoRow : OpenClaim := { program := "ytgndlhfnenlhkaa", sum := "29fb05e729863f9388a786b5e036821f0e46750045f5c07aba7f16e00c0a5b31", func := "bookplate/bookplatelaw11.EditLeast", spec := "editLeast", apart := false, narrowed := true }
def EditLeastUptoSaid : Prop := editLeastUptoRow.holds Try.pinned (OpenSpec.upto editLeastSpec)

/-- 'bookplatelaw11.EditDistance', WHERE WHAT IT READS IS OF BULK AT MOST 1048576: true; the input reads as it did. -/
def editDistanceUptoRow : OpenClaim := { program := "ytgndlhfnenlhkaa", sum := "29fb05e729863f9388a786b5e036821f0e46750045f5c07aba7f16e00c0a5b31", func := "bookplate/bookplatelaw11.EditDistance", spec := "editDistance", apart := false, narrowed := true }
def EditDistanceUptoSaid : Prop := editDistanceUptoRow.holds Try.pinned (OpenSpec.upto editDistanceSpec)

end Rows
end Go.Proofs.Ytgndlhfnenlhkaa
