/-
  DERIVED. GIVEN WITH THE SEED: THE CARDS: each row of YtfdlngemkhiiiaaDoorRows.lean that lists a variable, with what it lists TIED to the program's text (the seventh form; the later family's looks); each row that meets fmt, with fmt's text TOLD by the authors' own Lean function (tested against real Go, not proved from fmt's source: count such statements apart). THE CARD IS WHAT COUNTS. Prove the row's statement (the work); the ties are given (YtfdlngemkhiiiaaDoorTie.lean); close each card by the builder's one call (the guide's Derived/Test/ToyasCard.lean, 'card_holds'). Laid BY PROGRAM, IN A SANDBOX (cutbox-door.mjs). By AI agents, Wed Nov 11 2026. No macro, syntax, notation, axiom, sorry.
-/
import Derived.Test.YtfdlngemkhiiiaaDoorRows
import GoSem.ClaimSeven
namespace Go.Proofs.YtfdlngemkhiiiaaDoor
namespace Rows

/-- THE TIED CARD OF 'bookplatelaw26.VocabmapLists'. -/
def vocabmapListsCard : Claim7 := { stood := { row := vocabmapListsRow, standIns := [], harness := (true, "aaa2ee0e7aee76d176aedec4a90852cbf1f5f6ed950b0d5a279b79a386bfadba"), looks := false }, kinds := [], alts := [], laidByText := true, laidKinds := [.data, .data, .data], laidTests := true, laidLooks := .later }
def VocabmapListsCardSaid : Prop := Claim7.holds Tryd.pinned (.plain (OpenSpec.ofChange vocabmapListsSpec)) vocabmapListsCard

/-- THE SECOND FORM's CARD OF 'bookplatelaw26.VocabmapLists'. -/
def vocabmapListsUptoCard : Claim7 := { stood := { row := vocabmapListsUptoRow, standIns := [], harness := (true, "aaa2ee0e7aee76d176aedec4a90852cbf1f5f6ed950b0d5a279b79a386bfadba"), looks := false }, kinds := [], alts := [], laidByText := true, laidKinds := [.data, .data, .data], laidTests := true, laidLooks := .later }
def VocabmapListsUptoCardSaid : Prop := Claim7.holds Tryd.pinned (.plain (OpenSpec.upto vocabmapListsSpec)) vocabmapListsUptoCard
end Rows
end Go.Proofs.YtfdlngemkhiiiaaDoor
