/-
  DERIVED. GIVEN WITH THE SEED: THE CARDS: each row of YtbapkiclgkddcaaDoorRows.lean that lists a variable, with what it lists TIED to the program's text (the seventh form; the later family's looks); each row that meets fmt, with fmt's text TOLD by the authors' own Lean function (tested against real Go, not proved from fmt's source: count such statements apart). THE CARD IS WHAT COUNTS. Prove the row's statement (the work); the ties are given (YtbapkiclgkddcaaDoorTie.lean); close each card by the builder's one call (the guide's Derived/Test/ToyasCard.lean, 'card_holds'). Laid BY PROGRAM, IN A SANDBOX (cutbox-door.mjs). By AI agents, Wed Nov 11 2026. No macro, syntax, notation, axiom, sorry.
-/
import Derived.Test.YtbapkiclgkddcaaDoorRows
import GoSem.ClaimSeven
namespace Go.Proofs.YtbapkiclgkddcaaDoor
namespace Rows

/-- THE TIED CARD OF 'awardingbodylaw01.RatioParses'. -/
def ratioParsesCard : Claim7 := { stood := { row := ratioParsesRow, standIns := [], harness := (true, "6971293ba9778ea3b6c2f4a6df13c1271682ba388986ed0aee002af39babd07c"), looks := true }, kinds := [], alts := [], laidByText := true, laidKinds := [.data, .data, .data, .data, .sentinel, .sentinel, .pinned], laidTests := true, laidLooks := .later }
def RatioParsesCardSaid : Prop := Claim7.holds Tryd.pinned (.plain (OpenSpec.ofChange ratioParsesSpec)) ratioParsesCard

/-- THE TIED CARD OF 'awardingbodylaw01.RatioReads'. -/
def ratioReadsCard : Claim7 := { stood := { row := ratioReadsRow, standIns := [], harness := (true, "6971293ba9778ea3b6c2f4a6df13c1271682ba388986ed0aee002af39babd07c"), looks := true }, kinds := [], alts := [], laidByText := true, laidKinds := [.data, .data, .data, .data, .sentinel, .sentinel, .pinned], laidTests := true, laidLooks := .later }
def RatioReadsCardSaid : Prop := Claim7.holds Tryd.pinned (.plain (OpenSpec.ofChange ratioReadsSpec)) ratioReadsCard

/-- THE SECOND FORM's CARD OF 'awardingbodylaw01.RatioParses'. -/
def ratioParsesUptoCard : Claim7 := { stood := { row := ratioParsesUptoRow, standIns := [], harness := (true, "6971293ba9778ea3b6c2f4a6df13c1271682ba388986ed0aee002af39babd07c"), looks := true }, kinds := [], alts := [], laidByText := true, laidKinds := [.data, .data, .data, .data, .sentinel, .sentinel, .pinned], laidTests := true, laidLooks := .later }
def RatioParsesUptoCardSaid : Prop := Claim7.holds Tryd.pinned (.plain (OpenSpec.upto ratioParsesSpec)) ratioParsesUptoCard

/-- THE SECOND FORM's CARD OF 'awardingbodylaw01.RatioReads'. -/
def ratioReadsUptoCard : Claim7 := { stood := { row := ratioReadsUptoRow, standIns := [], harness := (true, "6971293ba9778ea3b6c2f4a6df13c1271682ba388986ed0aee002af39babd07c"), looks := true }, kinds := [], alts := [], laidByText := true, laidKinds := [.data, .data, .data, .data, .sentinel, .sentinel, .pinned], laidTests := true, laidLooks := .later }
def RatioReadsUptoCardSaid : Prop := Claim7.holds Tryd.pinned (.plain (OpenSpec.upto ratioReadsSpec)) ratioReadsUptoCard
end Rows
end Go.Proofs.YtbapkiclgkddcaaDoor
