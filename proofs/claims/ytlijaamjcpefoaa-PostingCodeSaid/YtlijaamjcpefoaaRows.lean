/-
  No cell of these rows narrows 'for every input' (looked for: loops, veiled, ifaces, maps, wideKeys, modest, calm, conditions, laid).
  DERIVED. THE GIVEN ROWS OF THIS SEAT. 8 by the template 'for every input the law returns true; each argument reads behind the call as it read before'; 0 by the template 'total and deterministic' (their statements: YtlijaamjcpefoaaTotals.lean).
  GIVEN WITH THE SEED: the statements are not yours to turn. If you find one false, say at which input.
  Laid BY PROGRAM, IN A SANDBOX (cutbox-rows.mjs): the forced cells as the released guide's own fill.sh prints them over the translation 0531ae2b427dbc8c… (all of the seat's roots in one cut). By AI agents, Wed Nov 11 2026. No macro, syntax, notation, axiom, sorry.
-/
import Derived.Test.YtlijaamjcpefoaaChecked
import GoSem.Claim
import GoSem.ClaimJoined
import GoSem.ClaimMapViews
import Derived.JoinedTies
import Derived.KernelRfl
namespace Go.Proofs.Ytlijaamjcpefoaa
/- THE CELL 'sum', in the pinned program and in every row, IS THE sha256 OF THE DUMP (.gsa) THAT YtlijaamjcpefoaaProg.lean LOADS. Nothing in Lean hashes anything: it is a label: what it is worth is what the hold of that sum in a sandbox is worth. -/
noncomputable def Try.pinned : Pinned := { name := "ytlijaamjcpefoaa", sum := "0531ae2b427dbc8c822b79c284092f4ef7eb3f9b6ecaaeb2bfd2531894837604", checked := Try.checked }
namespace Rows
def none {H : Type} : Left H := { results := [], args := [] }

/-- 'bookplatelaw38.PostingPhrase': WHATEVER THE INPUT: true; the input reads as it did. -/
def postingPhraseSpec : ChangeSpec := { name := "postingPhrase", fn := fun _ => fun
  | [d] => { results := [.lit (.bool true)], args := [d] }
  | _ => none }
def postingPhraseRow : OpenClaim := { program := "ytlijaamjcpefoaa", sum := "0531ae2b427dbc8c822b79c284092f4ef7eb3f9b6ecaaeb2bfd2531894837604", func := "bookplate/bookplatelaw38.PostingPhrase", spec := "postingPhrase", unfollowed := true, recurses := true, apart := false }
def PostingPhraseSaid : Prop := postingPhraseRow.holds Try.pinned (OpenSpec.ofChange postingPhraseSpec)

/-- ITS FALSE NEIGHBOUR: 'it returns false'. Refute it at one input. -/
def postingPhraseWrong : ChangeSpec := { name := "postingPhrase", fn := fun _ => fun
  | [d] => { results := [.lit (.bool false)], args := [d] }
  | _ => none }
def PostingPhraseWrongFalsely : Prop := postingPhraseRow.holds Try.pinned (OpenSpec.ofChange postingPhraseWrong)

/-- 'bookplatelaw38.PostingSets': WHATEVER THE INPUT: true; the input reads as it did. -/
def postingSetsSpec : ChangeSpec := { name := "postingSets", fn := fun _ => fun
  | [d1, d2] => { results := [.lit (.bool true)], args := [d1, d2] }
  | _ => none }
def postingSetsRow : OpenClaim := { program := "ytlijaamjcpefoaa", sum := "0531ae2b427dbc8c822b79c284092f4ef7eb3f9b6ecaaeb2bfd2531894837604", func := "bookplate/bookplatelaw38.PostingSets", spec := "postingSets", unfollowed := true, recurses := true, apart := false }
def PostingSetsSaid : Prop := postingSetsRow.holds Try.pinned (OpenSpec.ofChange postingSetsSpec)

/-- ITS FALSE NEIGHBOUR: 'it returns false'. Refute it at one input. -/
def postingSetsWrong : ChangeSpec := { name := "postingSets", fn := fun _ => fun
  | [d1, d2] => { results := [.lit (.bool false)], args := [d1, d2] }
  | _ => none }
def PostingSetsWrongFalsely : Prop := postingSetsRow.holds Try.pinned (OpenSpec.ofChange postingSetsWrong)

/-- 'bookplatelaw38.PostingAlgebra': WHATEVER THE INPUT: true; the input reads as it did. -/
def postingAlgebraSpec : ChangeSpec := { name := "postingAlgebra", fn := fun _ => fun
  | [d1, d2, d3] => { results := [.lit (.bool true)], args := [d1, d2, d3] }
  | _ => none }
def postingAlgebraRow : OpenClaim := { program := "ytlijaamjcpefoaa", sum := "0531ae2b427dbc8c822b79c284092f4ef7eb3f9b6ecaaeb2bfd2531894837604", func := "bookplate/bookplatelaw38.PostingAlgebra", spec := "postingAlgebra", unfollowed := true, recurses := true, apart := false }
def PostingAlgebraSaid : Prop := postingAlgebraRow.holds Try.pinned (OpenSpec.ofChange postingAlgebraSpec)

/-- ITS FALSE NEIGHBOUR: 'it returns false'. Refute it at one input. -/
def postingAlgebraWrong : ChangeSpec := { name := "postingAlgebra", fn := fun _ => fun
  | [d1, d2, d3] => { results := [.lit (.bool false)], args := [d1, d2, d3] }
  | _ => none }
def PostingAlgebraWrongFalsely : Prop := postingAlgebraRow.holds Try.pinned (OpenSpec.ofChange postingAlgebraWrong)

/-- 'bookplatelaw38.PostingJoins': WHATEVER THE INPUT: true; the input reads as it did. -/
def postingJoinsSpec : ChangeSpec := { name := "postingJoins", fn := fun _ => fun
  | [d1, d2, d3] => { results := [.lit (.bool true)], args := [d1, d2, d3] }
  | _ => none }
def postingJoinsRow : OpenClaim := { program := "ytlijaamjcpefoaa", sum := "0531ae2b427dbc8c822b79c284092f4ef7eb3f9b6ecaaeb2bfd2531894837604", func := "bookplate/bookplatelaw38.PostingJoins", spec := "postingJoins", unfollowed := true, recurses := true, apart := false }
def PostingJoinsSaid : Prop := postingJoinsRow.holds Try.pinned (OpenSpec.ofChange postingJoinsSpec)

/-- ITS FALSE NEIGHBOUR: 'it returns false'. Refute it at one input. -/
def postingJoinsWrong : ChangeSpec := { name := "postingJoins", fn := fun _ => fun
  | [d1, d2, d3] => { results := [.lit (.bool false)], args := [d1, d2, d3] }
  | _ => none }
def PostingJoinsWrongFalsely : Prop := postingJoinsRow.holds Try.pinned (OpenSpec.ofChange postingJoinsWrong)

/-- 'bookplatelaw38.PostingUnion': WHATEVER THE INPUT: true; the input reads as it did. -/
def postingUnionSpec : ChangeSpec := { name := "postingUnion", fn := fun _ => fun
  | [d1, d2, d3] => { results := [.lit (.bool true)], args := [d1, d2, d3] }
  | _ => none }
def postingUnionRow : OpenClaim := { program := "ytlijaamjcpefoaa", sum := "0531ae2b427dbc8c822b79c284092f4ef7eb3f9b6ecaaeb2bfd2531894837604", func := "bookplate/bookplatelaw38.PostingUnion", spec := "postingUnion", unfollowed := true, recurses := true, apart := false }
def PostingUnionSaid : Prop := postingUnionRow.holds Try.pinned (OpenSpec.ofChange postingUnionSpec)

/-- ITS FALSE NEIGHBOUR: 'it returns false'. Refute it at one input. -/
def postingUnionWrong : ChangeSpec := { name := "postingUnion", fn := fun _ => fun
  | [d1, d2, d3] => { results := [.lit (.bool false)], args := [d1, d2, d3] }
  | _ => none }
def PostingUnionWrongFalsely : Prop := postingUnionRow.holds Try.pinned (OpenSpec.ofChange postingUnionWrong)

/-- 'bookplatelaw38.PostingPhrases': WHATEVER THE INPUT: true; the input reads as it did. -/
def postingPhrasesSpec : ChangeSpec := { name := "postingPhrases", fn := fun _ => fun
  | [d1, d2] => { results := [.lit (.bool true)], args := [d1, d2] }
  | _ => none }
def postingPhrasesRow : OpenClaim := { program := "ytlijaamjcpefoaa", sum := "0531ae2b427dbc8c822b79c284092f4ef7eb3f9b6ecaaeb2bfd2531894837604", func := "bookplate/bookplatelaw38.PostingPhrases", spec := "postingPhrases", unfollowed := true, recurses := true, apart := false }
def PostingPhrasesSaid : Prop := postingPhrasesRow.holds Try.pinned (OpenSpec.ofChange postingPhrasesSpec)

/-- ITS FALSE NEIGHBOUR: 'it returns false'. Refute it at one input. -/
def postingPhrasesWrong : ChangeSpec := { name := "postingPhrases", fn := fun _ => fun
  | [d1, d2] => { results := [.lit (.bool false)], args := [d1, d2] }
  | _ => none }
def PostingPhrasesWrongFalsely : Prop := postingPhrasesRow.holds Try.pinned (OpenSpec.ofChange postingPhrasesWrong)

/-- 'bookplatelaw38.PostingLists': WHATEVER THE INPUT: true; the input reads as it did. -/
def postingListsSpec : ChangeSpec := { name := "postingLists", fn := fun _ => fun
  | [d1, d2, d3] => { results := [.lit (.bool true)], args := [d1, d2, d3] }
  | _ => none }
def postingListsRow : OpenClaim := { program := "ytlijaamjcpefoaa", sum := "0531ae2b427dbc8c822b79c284092f4ef7eb3f9b6ecaaeb2bfd2531894837604", func := "bookplate/bookplatelaw38.PostingLists", spec := "postingLists", unfollowed := true, recurses := true, apart := false }
def PostingListsSaid : Prop := postingListsRow.holds Try.pinned (OpenSpec.ofChange postingListsSpec)

/-- ITS FALSE NEIGHBOUR: 'it returns false'. Refute it at one input. -/
def postingListsWrong : ChangeSpec := { name := "postingLists", fn := fun _ => fun
  | [d1, d2, d3] => { results := [.lit (.bool false)], args := [d1, d2, d3] }
  | _ => none }
def PostingListsWrongFalsely : Prop := postingListsRow.holds Try.pinned (OpenSpec.ofChange postingListsWrong)

/-- 'bookplatelaw38.PostingCode': WHATEVER THE INPUT: true; the input reads as it did. -/
def postingCodeSpec : ChangeSpec := { name := "postingCode", fn := fun _ => fun
  | [d1, d2] => { results := [.lit (.bool true)], args := [d1, d2] }
  | _ => none }
def postingCodeRow : OpenClaim := { program := "ytlijaamjcpefoaa", sum := "0531ae2b427dbc8c822b79c284092f4ef7eb3f9b6ecaaeb2bfd2531894837604", func := "bookplate/bookplatelaw38.PostingCode", spec := "postingCode", unfollowed := true, recurses := true, apart := false }
def PostingCodeSaid : Prop := postingCodeRow.holds Try.pinned (OpenSpec.ofChange postingCodeSpec)

/-- ITS FALSE NEIGHBOUR: 'it returns false'. Refute it at one input. -/
def postingCodeWrong : ChangeSpec := { name := "postingCode", fn := fun _ => fun
  | [d1, d2] => { results := [.lit (.bool false)], args := [d1, d2] }
  | _ => none }
def PostingCodeWrongFalsely : Prop := postingCodeRow.holds Try.pinned (OpenSpec.ofChange postingCodeWrong)

/- THE SECOND FORM. 'bulk': how many values and letters a reading holds, each counted each time it is reached (what is shared counts as often as it is met; a slice's spare places count too). A statement '..UptoSaid' is the law's where the arguments, and the package variables that the reading takes, are together of bulk at most 1048576: NARROWER than '..Said'. Prove '..Said' where nothing that the law and all that it calls make is longer than what came in: it says more and counts as full. Else prove '..UptoSaid'. A law counts once. -/
mutual
def uptoBulk {H : Type} : DataW H → Nat
  | .lit (.string bytes) => bytes.length + 1
  | .lit _ => 1
  | .nil => 1
  | .ptr d => uptoBulk d + 1
  | .slice elems spare => uptoBulkAll elems + uptoBulkAll spare + 1
  | .agg parts => uptoBulkAll parts + 1
  | .iface _ d => uptoBulk d + 1
  | .map entries => uptoBulkEntries entries + 1
  | .held _ => 1
def uptoBulkAll {H : Type} : List (DataW H) → Nat
  | [] => 0
  | d :: r => uptoBulk d + uptoBulkAll r
def uptoBulkEntries {H : Type} : List (Lit × DataW H) → Nat
  | [] => 0
  | x :: r => uptoBulkEntry x + uptoBulkEntries r
def uptoBulkEntry {H : Type} : Lit × DataW H → Nat
  | (.string bytes, d) => bytes.length + uptoBulk d + 1
  | (_, d) => uptoBulk d + 1
 end
def uptoSmall : (H : Type) → List (DataW H) → Bool := fun _ ds => decide (uptoBulkAll ds ≤ 1048576)
def OpenSpec.upto (s : _root_.Go.ChangeSpec) : _root_.Go.OpenSpec := { _root_.Go.OpenSpec.ofChange s with cond := some uptoSmall }

/-- 'bookplatelaw38.PostingPhrase', WHERE WHAT IT READS IS OF BULK AT MOST 1048576: true; the input reads as it did. -/
def postingPhraseUptoRow : OpenClaim := { program := "ytlijaamjcpefoaa", sum := "0531ae2b427dbc8c822b79c284092f4ef7eb3f9b6ecaaeb2bfd2531894837604", func := "bookplate/bookplatelaw38.PostingPhrase", spec := "postingPhrase", unfollowed := true, recurses := true, apart := false, narrowed := true }
def PostingPhraseUptoSaid : Prop := postingPhraseUptoRow.holds Try.pinned (OpenSpec.upto postingPhraseSpec)

/-- 'bookplatelaw38.PostingSets', WHERE WHAT IT READS IS OF BULK AT MOST 1048576: true; the input reads as it did. -/
def postingSetsUptoRow : OpenClaim := { program := "ytlijaamjcpefoaa", sum := "0531ae2b427dbc8c822b79c284092f4ef7eb3f9b6ecaaeb2bfd2531894837604", func := "bookplate/bookplatelaw38.PostingSets", spec := "postingSets", unfollowed := true, recurses := true, apart := false, narrowed := true }
def PostingSetsUptoSaid : Prop := postingSetsUptoRow.holds Try.pinned (OpenSpec.upto postingSetsSpec)

/-- 'bookplatelaw38.PostingAlgebra', WHERE WHAT IT READS IS OF BULK AT MOST 1048576: true; the input reads as it did. -/
def postingAlgebraUptoRow : OpenClaim := { program := "ytlijaamjcpefoaa", sum := "0531ae2b427dbc8c822b79c284092f4ef7eb3f9b6ecaaeb2bfd2531894837604", func := "bookplate/bookplatelaw38.PostingAlgebra", spec := "postingAlgebra", unfollowed := true, recurses := true, apart := false, narrowed := true }
def PostingAlgebraUptoSaid : Prop := postingAlgebraUptoRow.holds Try.pinned (OpenSpec.upto postingAlgebraSpec)

/-- 'bookplatelaw38.PostingJoins', WHERE WHAT IT READS IS OF BULK AT MOST 1048576: true; the input reads as it did. -/
def postingJoinsUptoRow : OpenClaim := { program := "ytlijaamjcpefoaa", sum := "0531ae2b427dbc8c822b79c284092f4ef7eb3f9b6ecaaeb2bfd2531894837604", func := "bookplate/bookplatelaw38.PostingJoins", spec := "postingJoins", unfollowed := true, recurses := true, apart := false, narrowed := true }
def PostingJoinsUptoSaid : Prop := postingJoinsUptoRow.holds Try.pinned (OpenSpec.upto postingJoinsSpec)

/-- 'bookplatelaw38.PostingUnion', WHERE WHAT IT READS IS OF BULK AT MOST 1048576: true; the input reads as it did. -/
def postingUnionUptoRow : OpenClaim := { program := "ytlijaamjcpefoaa", sum := "0531ae2b427dbc8c822b79c284092f4ef7eb3f9b6ecaaeb2bfd2531894837604", func := "bookplate/bookplatelaw38.PostingUnion", spec := "postingUnion", unfollowed := true, recurses := true, apart := false, narrowed := true }
def PostingUnionUptoSaid : Prop := postingUnionUptoRow.holds Try.pinned (OpenSpec.upto postingUnionSpec)

/-- 'bookplatelaw38.PostingPhrases', WHERE WHAT IT READS IS OF BULK AT MOST 1048576: true; the input reads as it did. -/
def postingPhrasesUptoRow : OpenClaim := { program := "ytlijaamjcpefoaa", sum := "0531ae2b427dbc8c822b79c284092f4ef7eb3f9b6ecaaeb2bfd2531894837604", func := "bookplate/bookplatelaw38.PostingPhrases", spec := "postingPhrases", unfollowed := true, recurses := true, apart := false, narrowed := true }
def PostingPhrasesUptoSaid : Prop := postingPhrasesUptoRow.holds Try.pinned (OpenSpec.upto postingPhrasesSpec)

/-- 'bookplatelaw38.PostingLists', WHERE WHAT IT READS IS OF BULK AT MOST 1048576: true; the input reads as it did. -/
def postingListsUptoRow : OpenClaim := { program := "ytlijaamjcpefoaa", sum := "0531ae2b427dbc8c822b79c284092f4ef7eb3f9b6ecaaeb2bfd2531894837604", func := "bookplate/bookplatelaw38.PostingLists", spec := "postingLists", unfollowed := true, recurses := true, apart := false, narrowed := true }
def PostingListsUptoSaid : Prop := postingListsUptoRow.holds Try.pinned (OpenSpec.upto postingListsSpec)

/-- 'bookplatelaw38.PostingCode', WHERE WHAT IT READS IS OF BULK AT MOST 1048576: true; the input reads as it did. -/
def postingCodeUptoRow : OpenClaim := { program := "ytlijaamjcpefoaa", sum := "0531ae2b427dbc8c822b79c284092f4ef7eb3f9b6ecaaeb2bfd2531894837604", func := "bookplate/bookplatelaw38.PostingCode", spec := "postingCode", unfollowed := true, recurses := true, apart := false, narrowed := true }
def PostingCodeUptoSaid : Prop := postingCodeUptoRow.holds Try.pinned (OpenSpec.upto postingCodeSpec)

end Rows
end Go.Proofs.Ytlijaamjcpefoaa
