/-
  DERIVED. GIVEN WITH THE SEED: THE CARDS: each row of YtfdlngemkhiiiaaGreatDoorRows.lean that lists a variable, with what it lists TIED to the program's text (the seventh form; the later family's looks); each row that meets fmt, with fmt's text TOLD by the authors' own Lean function (tested against real Go, not proved from fmt's source: count such statements apart). THE CARD IS WHAT COUNTS. Prove the row's statement (the work); the ties are given (YtfdlngemkhiiiaaGreatDoorTie.lean); close each card by the builder's one call (the guide's Derived/Test/ToyasCard.lean, 'card_holds'). Laid BY PROGRAM, IN A SANDBOX (cutbox-door.mjs). By AI agents, Wed Nov 11 2026. No macro, syntax, notation, axiom, sorry.
-/
import Derived.Test.YtfdlngemkhiiiaaGreatDoorRows
import GoSem.ClaimSeven
namespace Go.Proofs.YtfdlngemkhiiiaaGreatDoor
namespace Rows

/-- THE TIED CARD OF 'bookplatelaw26.VocabmapText'. -/
def vocabmapTextCard : Claim7 := { stood := { row := vocabmapTextRow, standIns := [], harness := (true, "b0caa2a976dc7f102e51dc0318e28780dea2ad9a49b99ab13e76528424a89d7c"), looks := true }, kinds := [], alts := [], laidByText := true, laidKinds := [.data, .data, .data, .data, .sentinel, .sentinel, .pinned], laidTests := true, laidLooks := .later }
def VocabmapTextCardSaid : Prop := Claim7.holds Tryz.pinned (.plain (OpenSpec.ofChange vocabmapTextSpec)) vocabmapTextCard

/-- THE SECOND FORM's CARD OF 'bookplatelaw26.VocabmapText'. -/
def vocabmapTextUptoCard : Claim7 := { stood := { row := vocabmapTextUptoRow, standIns := [], harness := (true, "b0caa2a976dc7f102e51dc0318e28780dea2ad9a49b99ab13e76528424a89d7c"), looks := true }, kinds := [], alts := [], laidByText := true, laidKinds := [.data, .data, .data, .data, .sentinel, .sentinel, .pinned], laidTests := true, laidLooks := .later }
def VocabmapTextUptoCardSaid : Prop := Claim7.holds Tryz.pinned (.plain (OpenSpec.upto vocabmapTextSpec)) vocabmapTextUptoCard
end Rows
end Go.Proofs.YtfdlngemkhiiiaaGreatDoor
