/-
  No cell of these rows narrows 'for every input' (looked for: loops, veiled, ifaces, maps, wideKeys, modest, calm, conditions, laid).
  DERIVED. THE GIVEN ROWS OF THIS SEAT. 7 by the template 'for every input the law returns true; each argument reads behind the call as it read before'; 0 by the template 'total and deterministic' (their statements: YtlemepdiegacbaaTotals.lean).
  GIVEN WITH THE SEED: the statements are not yours to turn. If you find one false, say at which input.
  Laid BY PROGRAM, IN A SANDBOX (cutbox-rows.mjs): the forced cells as the released guide's own fill.sh prints them over the translation db9d5454a294f8fb… (all of the seat's roots in one cut). By AI agents, Wed Nov 11 2026. No macro, syntax, notation, axiom, sorry.
-/
import Derived.Test.YtlemepdiegacbaaChecked
import GoSem.Claim
import GoSem.ClaimJoined
import GoSem.ClaimMapViews
import Derived.JoinedTies
import Derived.KernelRfl
namespace Go.Proofs.Ytlemepdiegacbaa
/- THE CELL 'sum', in the pinned program and in every row, IS THE sha256 OF THE DUMP (.gsa) THAT YtlemepdiegacbaaProg.lean LOADS. Nothing in Lean hashes anything: it is a label: what it is worth is what the hold of that sum in a sandbox is worth. -/
noncomputable def Try.pinned : Pinned := { name := "ytlemepdiegacbaa", sum := "db9d5454a294f8fb91206194631241d5543131232d9eb20cc7611071754c1920", checked := Try.checked }
namespace Rows
def none {H : Type} : Left H := { results := [], args := [] }

/-- 'bookplatelaw14.IdentIssn': WHATEVER THE INPUT: true; the input reads as it did. -/
def identIssnSpec : ChangeSpec := { name := "identIssn", fn := fun _ => fun
  | [d1, d2] => { results := [.lit (.bool true)], args := [d1, d2] }
  | _ => none }
def identIssnRow : OpenClaim := { program := "ytlemepdiegacbaa", sum := "db9d5454a294f8fb91206194631241d5543131232d9eb20cc7611071754c1920", func := "bookplate/bookplatelaw14.IdentIssn", spec := "identIssn", inPlace := ["internal/bytealg.IndexByteString", "internal/bytealg.IndexString"], unfollowed := true, recurses := true, named := ["internal/bytealg.MaxLen"], apart := false }
def IdentIssnSaid : Prop := identIssnRow.holds Try.pinned (OpenSpec.ofChange identIssnSpec)

/-- ITS FALSE NEIGHBOUR: 'it returns false'. Refute it at one input. -/
def identIssnWrong : ChangeSpec := { name := "identIssn", fn := fun _ => fun
  | [d1, d2] => { results := [.lit (.bool false)], args := [d1, d2] }
  | _ => none }
def IdentIssnWrongFalsely : Prop := identIssnRow.holds Try.pinned (OpenSpec.ofChange identIssnWrong)

/-- 'bookplatelaw14.IdentDigit': WHATEVER THE INPUT: true; the input reads as it did. -/
def identDigitSpec : ChangeSpec := { name := "identDigit", fn := fun _ => fun
  | [d1, d2, d3] => { results := [.lit (.bool true)], args := [d1, d2, d3] }
  | _ => none }
def identDigitRow : OpenClaim := { program := "ytlemepdiegacbaa", sum := "db9d5454a294f8fb91206194631241d5543131232d9eb20cc7611071754c1920", func := "bookplate/bookplatelaw14.IdentDigit", spec := "identDigit", inPlace := ["internal/bytealg.IndexByteString", "internal/bytealg.IndexString"], unfollowed := true, recurses := true, named := ["internal/bytealg.MaxLen"], apart := false }
def IdentDigitSaid : Prop := identDigitRow.holds Try.pinned (OpenSpec.ofChange identDigitSpec)

/-- ITS FALSE NEIGHBOUR: 'it returns false'. Refute it at one input. -/
def identDigitWrong : ChangeSpec := { name := "identDigit", fn := fun _ => fun
  | [d1, d2, d3] => { results := [.lit (.bool false)], args := [d1, d2, d3] }
  | _ => none }
def IdentDigitWrongFalsely : Prop := identDigitRow.holds Try.pinned (OpenSpec.ofChange identDigitWrong)

/-- 'bookplatelaw14.IdentSwap': WHATEVER THE INPUT: true; the input reads as it did. -/
def identSwapSpec : ChangeSpec := { name := "identSwap", fn := fun _ => fun
  | [d1, d2] => { results := [.lit (.bool true)], args := [d1, d2] }
  | _ => none }
def identSwapRow : OpenClaim := { program := "ytlemepdiegacbaa", sum := "db9d5454a294f8fb91206194631241d5543131232d9eb20cc7611071754c1920", func := "bookplate/bookplatelaw14.IdentSwap", spec := "identSwap", inPlace := ["internal/bytealg.IndexByteString", "internal/bytealg.IndexString"], unfollowed := true, recurses := true, named := ["internal/bytealg.MaxLen"], apart := false }
def IdentSwapSaid : Prop := identSwapRow.holds Try.pinned (OpenSpec.ofChange identSwapSpec)

/-- ITS FALSE NEIGHBOUR: 'it returns false'. Refute it at one input. -/
def identSwapWrong : ChangeSpec := { name := "identSwap", fn := fun _ => fun
  | [d1, d2] => { results := [.lit (.bool false)], args := [d1, d2] }
  | _ => none }
def IdentSwapWrongFalsely : Prop := identSwapRow.holds Try.pinned (OpenSpec.ofChange identSwapWrong)

/-- 'bookplatelaw14.IdentSerial': WHATEVER THE INPUT: true; the input reads as it did. -/
def identSerialSpec : ChangeSpec := { name := "identSerial", fn := fun _ => fun
  | [d1, d2, d3] => { results := [.lit (.bool true)], args := [d1, d2, d3] }
  | _ => none }
def identSerialRow : OpenClaim := { program := "ytlemepdiegacbaa", sum := "db9d5454a294f8fb91206194631241d5543131232d9eb20cc7611071754c1920", func := "bookplate/bookplatelaw14.IdentSerial", spec := "identSerial", inPlace := ["internal/bytealg.IndexByteString", "internal/bytealg.IndexString"], unfollowed := true, recurses := true, named := ["internal/bytealg.MaxLen"], apart := false }
def IdentSerialSaid : Prop := identSerialRow.holds Try.pinned (OpenSpec.ofChange identSerialSpec)

/-- ITS FALSE NEIGHBOUR: 'it returns false'. Refute it at one input. -/
def identSerialWrong : ChangeSpec := { name := "identSerial", fn := fun _ => fun
  | [d1, d2, d3] => { results := [.lit (.bool false)], args := [d1, d2, d3] }
  | _ => none }
def IdentSerialWrongFalsely : Prop := identSerialRow.holds Try.pinned (OpenSpec.ofChange identSerialWrong)

/-- 'bookplatelaw14.IdentForms': WHATEVER THE INPUT: true; the input reads as it did. -/
def identFormsSpec : ChangeSpec := { name := "identForms", fn := fun _ => fun
  | [d1, d2, d3] => { results := [.lit (.bool true)], args := [d1, d2, d3] }
  | _ => none }
def identFormsRow : OpenClaim := { program := "ytlemepdiegacbaa", sum := "db9d5454a294f8fb91206194631241d5543131232d9eb20cc7611071754c1920", func := "bookplate/bookplatelaw14.IdentForms", spec := "identForms", inPlace := ["internal/bytealg.IndexByteString", "internal/bytealg.IndexString"], unfollowed := true, recurses := true, named := ["internal/bytealg.MaxLen"], apart := false }
def IdentFormsSaid : Prop := identFormsRow.holds Try.pinned (OpenSpec.ofChange identFormsSpec)

/-- ITS FALSE NEIGHBOUR: 'it returns false'. Refute it at one input. -/
def identFormsWrong : ChangeSpec := { name := "identForms", fn := fun _ => fun
  | [d1, d2, d3] => { results := [.lit (.bool false)], args := [d1, d2, d3] }
  | _ => none }
def IdentFormsWrongFalsely : Prop := identFormsRow.holds Try.pinned (OpenSpec.ofChange identFormsWrong)

/-- 'bookplatelaw14.IdentIsbn': WHATEVER THE INPUT: true; the input reads as it did. -/
def identIsbnSpec : ChangeSpec := { name := "identIsbn", fn := fun _ => fun
  | [d] => { results := [.lit (.bool true)], args := [d] }
  | _ => none }
def identIsbnRow : OpenClaim := { program := "ytlemepdiegacbaa", sum := "db9d5454a294f8fb91206194631241d5543131232d9eb20cc7611071754c1920", func := "bookplate/bookplatelaw14.IdentIsbn", spec := "identIsbn", inPlace := ["internal/bytealg.IndexByteString", "internal/bytealg.IndexString"], unfollowed := true, recurses := true, named := ["internal/bytealg.MaxLen"], apart := false }
def IdentIsbnSaid : Prop := identIsbnRow.holds Try.pinned (OpenSpec.ofChange identIsbnSpec)

/-- ITS FALSE NEIGHBOUR: 'it returns false'. Refute it at one input. -/
def identIsbnWrong : ChangeSpec := { name := "identIsbn", fn := fun _ => fun
  | [d] => { results := [.lit (.bool false)], args := [d] }
  | _ => none }
def IdentIsbnWrongFalsely : Prop := identIsbnRow.holds Try.pinned (OpenSpec.ofChange identIsbnWrong)

/-- 'bookplatelaw14.IdentRound': WHATEVER THE INPUT: true; the input reads as it did. -/
def identRoundSpec : ChangeSpec := { name := "identRound", fn := fun _ => fun
  | [d1, d2] => { results := [.lit (.bool true)], args := [d1, d2] }
  | _ => none }
def identRoundRow : OpenClaim := { program := "ytlemepdiegacbaa", sum := "db9d5454a294f8fb91206194631241d5543131232d9eb20cc7611071754c1920", func := "bookplate/bookplatelaw14.IdentRound", spec := "identRound", inPlace := ["internal/bytealg.IndexByteString", "internal/bytealg.IndexString"], unfollowed := true, recurses := true, named := ["internal/bytealg.MaxLen"], apart := false }
def IdentRoundSaid : Prop := identRoundRow.holds Try.pinned (OpenSpec.ofChange identRoundSpec)

/-- ITS FALSE NEIGHBOUR: 'it returns false'. Refute it at one input. -/
def identRoundWrong : ChangeSpec := { name := "identRound", fn := fun _ => fun
  | [d1, d2] => { results := [.lit (.bool false)], args := [d1, d2] }
  | _ => none }
def IdentRoundWrongFalsely : Prop := identRoundRow.holds Try.pinned (OpenSpec.ofChange identRoundWrong)

/- THE SECOND FORM. 'bulk': how many values and letters a reading holds, each counted each time it is reached (what is shared counts as often as it is met; a slice's spare places count too). A statement '..UptoSaid' is the law's where the arguments, and the package variables that the reading takes, are together of bulk at most 1048576: NARROWER than '..Said'. Prove '..Said' where nothing that the law and all that it calls make is longer than what came in: it says more and counts as full. Else prove '..UptoSaid'. A law counts once. -/
mutual
def uptoBulk {H : Type} : DataW H → Nat
  | .lit (.string bytes) => bytes.length + 1
  | .lit _ => 1
  | .nil => 1
  | .ptr d => uptoBulk d + 1
  | .slice elems spare => uptoBulkAll elems + uptoBulkAll spare + 1
  | .agg parts => uptoBulkAll parts + 1
  | .iface _ d => uptoBulk d + 1
  | .map entries => uptoBulkEntries entries + 1
  | .held _ => 1
def uptoBulkAll {H : Type} : List (DataW H) → Nat
  | [] => 0
  | d :: r => uptoBulk d + uptoBulkAll r
def uptoBulkEntries {H : Type} : List (Lit × DataW H) → Nat
  | [] => 0
  | x :: r => uptoBulkEntry x + uptoBulkEntries r
def uptoBulkEntry {H : Type} : Lit × DataW H → Nat
  | (.string bytes, d) => bytes.length + uptoBulk d + 1
  | (_, d) => uptoBulk d + 1
 end
def uptoSmall : (H : Type) → List (DataW H) → Bool := fun _ ds => decide (uptoBulkAll ds ≤ 1048576)
def OpenSpec.upto (s : _root_.Go.ChangeSpec) : _root_.Go.OpenSpec := { _root_.Go.OpenSpec.ofChange s with cond := some uptoSmall }

/-- 'bookplatelaw14.IdentIssn', WHERE WHAT IT READS IS OF BULK AT MOST 1048576: true; the input reads as it did. -/
def identIssnUptoRow : OpenClaim := { program := "ytlemepdiegacbaa", sum := "db9d5454a294f8fb91206194631241d5543131232d9eb20cc7611071754c1920", func := "bookplate/bookplatelaw14.IdentIssn", spec := "identIssn", inPlace := ["internal/bytealg.IndexByteString", "internal/bytealg.IndexString"], unfollowed := true, recurses := true, named := ["internal/bytealg.MaxLen"], apart := false, narrowed := true }
def IdentIssnUptoSaid : Prop := identIssnUptoRow.holds Try.pinned (OpenSpec.upto identIssnSpec)

/-- 'bookplatelaw14.IdentDigit', WHERE WHAT IT READS IS OF BULK AT MOST 1048576: true; the input reads as it did. -/
def identDigitUptoRow : OpenClaim := { program := "ytlemepdiegacbaa", sum := "db9d5454a294f8fb91206194631241d5543131232d9eb20cc7611071754c1920", func := "bookplate/bookplatelaw14.IdentDigit", spec := "identDigit", inPlace := ["internal/bytealg.IndexByteString", "internal/bytealg.IndexString"], unfollowed := true, recurses := true, named := ["internal/bytealg.MaxLen"], apart := false, narrowed := true }
def IdentDigitUptoSaid : Prop := identDigitUptoRow.holds Try.pinned (OpenSpec.upto identDigitSpec)

/-- 'bookplatelaw14.IdentSwap', WHERE WHAT IT READS IS OF BULK AT MOST 1048576: true; the input reads as it did. -/
def identSwapUptoRow : OpenClaim := { program := "ytlemepdiegacbaa", sum := "db9d5454a294f8fb91206194631241d5543131232d9eb20cc7611071754c1920", func := "bookplate/bookplatelaw14.IdentSwap", spec := "identSwap", inPlace := ["internal/bytealg.IndexByteString", "internal/bytealg.IndexString"], unfollowed := true, recurses := true, named := ["internal/bytealg.MaxLen"], apart := false, narrowed := true }
def IdentSwapUptoSaid : Prop := identSwapUptoRow.holds Try.pinned (OpenSpec.upto identSwapSpec)

/-- 'bookplatelaw14.IdentSerial', WHERE WHAT IT READS IS OF BULK AT MOST 1048576: true; the input reads as it did. -/
def identSerialUptoRow : OpenClaim := { program := "ytlemepdiegacbaa", sum := "db9d5454a294f8fb91206194631241d5543131232d9eb20cc7611071754c1920", func := "bookplate/bookplatelaw14.IdentSerial", spec := "identSerial", inPlace := ["internal/bytealg.IndexByteString", "internal/bytealg.IndexString"], unfollowed := true, recurses := true, named := ["internal/bytealg.MaxLen"], apart := false, narrowed := true }
def IdentSerialUptoSaid : Prop := identSerialUptoRow.holds Try.pinned (OpenSpec.upto identSerialSpec)

/-- 'bookplatelaw14.IdentForms', WHERE WHAT IT READS IS OF BULK AT MOST 1048576: true; the input reads as it did. -/
def identFormsUptoRow : OpenClaim := { program := "ytlemepdiegacbaa", sum := "db9d5454a294f8fb91206194631241d5543131232d9eb20cc7611071754c1920", func := "bookplate/bookplatelaw14.IdentForms", spec := "identForms", inPlace := ["internal/bytealg.IndexByteString", "internal/bytealg.IndexString"], unfollowed := true, recurses := true, named := ["internal/bytealg.MaxLen"], apart := false, narrowed := true }
def IdentFormsUptoSaid : Prop := identFormsUptoRow.holds Try.pinned (OpenSpec.upto identFormsSpec)

/-- 'bookplatelaw14.IdentIsbn', WHERE WHAT IT READS IS OF BULK AT MOST 1048576: true; the input reads as it did. -/
def identIsbnUptoRow : OpenClaim := { program := "ytlemepdiegacbaa", sum := "db9d5454a294f8fb91206194631241d5543131232d9eb20cc7611071754c1920", func := "bookplate/bookplatelaw14.IdentIsbn", spec := "identIsbn", inPlace := ["internal/bytealg.IndexByteString", "internal/bytealg.IndexString"], unfollowed := true, recurses := true, named := ["internal/bytealg.MaxLen"], apart := false, narrowed := true }
def IdentIsbnUptoSaid : Prop := identIsbnUptoRow.holds Try.pinned (OpenSpec.upto identIsbnSpec)

/-- 'bookplatelaw14.IdentRound', WHERE WHAT IT READS IS OF BULK AT MOST 1048576: true; the input reads as it did. -/
def identRoundUptoRow : OpenClaim := { program := "ytlemepdiegacbaa", sum := "db9d5454a294f8fb91206194631241d5543131232d9eb20cc7611071754c1920", func := "bookplate/bookplatelaw14.IdentRound", spec := "identRound", inPlace := ["internal/bytealg.IndexByteString", "internal/bytealg.IndexString"], unfollowed := true, recurses := true, named := ["internal/bytealg.MaxLen"], apart := false, narrowed := true }
def IdentRoundUptoSaid : Prop := identRoundUptoRow.holds Try.pinned (OpenSpec.upto identRoundSpec)

end Rows
end Go.Proofs.Ytlemepdiegacbaa
