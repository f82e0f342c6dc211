/-
  DERIVED. GIVEN WITH THE SEED: THE CARDS: each row of YtaoklfecdcakbaaDoorRows.lean that lists a variable, with what it lists TIED to the program's text (the seventh form; the later family's looks); each row that meets fmt, with fmt's text TOLD by the authors' own Lean function (tested against real Go, not proved from fmt's source: count such statements apart). THE CARD IS WHAT COUNTS. Prove the row's statement (the work); the ties are given (YtaoklfecdcakbaaDoorTie.lean); close each card by the builder's one call (the guide's Derived/Test/ToyasCard.lean, 'card_holds'). Laid BY PROGRAM, IN A SANDBOX (cutbox-door.mjs). By AI agents, Wed Nov 11 2026. No macro, syntax, notation, axiom, sorry.
-/
import Derived.Test.YtaoklfecdcakbaaDoorRows
import GoSem.ClaimSeven
namespace Go.Proofs.YtaoklfecdcakbaaDoor
namespace Rows

/-- THE TIED CARD OF 'heartwoodlaw23.LightPlays'. -/
def lightPlaysCard : Claim7 := { stood := { row := lightPlaysRow, standIns := [], harness := (true, "ff6210aca0350a8e3de2cae80261608dda6b4546baf883aa0c1205f6f9fc54e4"), looks := true }, kinds := [], alts := [], laidByText := true, laidKinds := [.data, .data], laidTests := true, laidLooks := .later }
def LightPlaysCardSaid : Prop := Claim7.holds Tryd.pinned (.plain (OpenSpec.ofChange lightPlaysSpec)) lightPlaysCard

/-- THE TIED CARD OF 'heartwoodlaw13.FoldStays'. -/
def foldStaysCard : Claim7 := { stood := { row := foldStaysRow, standIns := [], harness := (true, "ff6210aca0350a8e3de2cae80261608dda6b4546baf883aa0c1205f6f9fc54e4"), looks := true }, kinds := [], alts := [], laidByText := true, laidKinds := [.data, .data], laidTests := true, laidLooks := .later }
def FoldStaysCardSaid : Prop := Claim7.holds Tryd.pinned (.plain (OpenSpec.ofChange foldStaysSpec)) foldStaysCard

/-- THE TIED CARD OF 'heartwoodlaw13.FoldSame'. -/
def foldSameCard : Claim7 := { stood := { row := foldSameRow, standIns := [], harness := (true, "ff6210aca0350a8e3de2cae80261608dda6b4546baf883aa0c1205f6f9fc54e4"), looks := true }, kinds := [], alts := [], laidByText := true, laidKinds := [.data, .data], laidTests := true, laidLooks := .later }
def FoldSameCardSaid : Prop := Claim7.holds Tryd.pinned (.plain (OpenSpec.ofChange foldSameSpec)) foldSameCard

/-- THE TIED CARD OF 'heartwoodlaw23.LightRight'. -/
def lightRightCard : Claim7 := { stood := { row := lightRightRow, standIns := [], harness := (true, "ff6210aca0350a8e3de2cae80261608dda6b4546baf883aa0c1205f6f9fc54e4"), looks := true }, kinds := [], alts := [], laidByText := true, laidKinds := [.data, .data], laidTests := true, laidLooks := .later }
def LightRightCardSaid : Prop := Claim7.holds Tryd.pinned (.plain (OpenSpec.ofChange lightRightSpec)) lightRightCard

/-- THE TIED CARD OF 'heartwoodlaw23.LightStays'. -/
def lightStaysCard : Claim7 := { stood := { row := lightStaysRow, standIns := [], harness := (true, "ff6210aca0350a8e3de2cae80261608dda6b4546baf883aa0c1205f6f9fc54e4"), looks := true }, kinds := [], alts := [], laidByText := true, laidKinds := [.data, .data], laidTests := true, laidLooks := .later }
def LightStaysCardSaid : Prop := Claim7.holds Tryd.pinned (.plain (OpenSpec.ofChange lightStaysSpec)) lightStaysCard

/-- THE SECOND FORM's CARD OF 'heartwoodlaw23.LightPlays'. -/
def lightPlaysUptoCard : Claim7 := { stood := { row := lightPlaysUptoRow, standIns := [], harness := (true, "ff6210aca0350a8e3de2cae80261608dda6b4546baf883aa0c1205f6f9fc54e4"), looks := true }, kinds := [], alts := [], laidByText := true, laidKinds := [.data, .data], laidTests := true, laidLooks := .later }
def LightPlaysUptoCardSaid : Prop := Claim7.holds Tryd.pinned (.plain (OpenSpec.upto lightPlaysSpec)) lightPlaysUptoCard

/-- THE SECOND FORM's CARD OF 'heartwoodlaw13.FoldStays'. -/
def foldStaysUptoCard : Claim7 := { stood := { row := foldStaysUptoRow, standIns := [], harness := (true, "ff6210aca0350a8e3de2cae80261608dda6b4546baf883aa0c1205f6f9fc54e4"), looks := true }, kinds := [], alts := [], laidByText := true, laidKinds := [.data, .data], laidTests := true, laidLooks := .later }
def FoldStaysUptoCardSaid : Prop := Claim7.holds Tryd.pinned (.plain (OpenSpec.upto foldStaysSpec)) foldStaysUptoCard

/-- THE SECOND FORM's CARD OF 'heartwoodlaw13.FoldSame'. -/
def foldSameUptoCard : Claim7 := { stood := { row := foldSameUptoRow, standIns := [], harness := (true, "ff6210aca0350a8e3de2cae80261608dda6b4546baf883aa0c1205f6f9fc54e4"), looks := true }, kinds := [], alts := [], laidByText := true, laidKinds := [.data, .data], laidTests := true, laidLooks := .later }
def FoldSameUptoCardSaid : Prop := Claim7.holds Tryd.pinned (.plain (OpenSpec.upto foldSameSpec)) foldSameUptoCard

/-- THE SECOND FORM's CARD OF 'heartwoodlaw23.LightRight'. -/
def lightRightUptoCard : Claim7 := { stood := { row := lightRightUptoRow, standIns := [], harness := (true, "ff6210aca0350a8e3de2cae80261608dda6b4546baf883aa0c1205f6f9fc54e4"), looks := true }, kinds := [], alts := [], laidByText := true, laidKinds := [.data, .data], laidTests := true, laidLooks := .later }
def LightRightUptoCardSaid : Prop := Claim7.holds Tryd.pinned (.plain (OpenSpec.upto lightRightSpec)) lightRightUptoCard

/-- THE SECOND FORM's CARD OF 'heartwoodlaw23.LightStays'. -/
def lightStaysUptoCard : Claim7 := { stood := { row := lightStaysUptoRow, standIns := [], harness := (true, "ff6210aca0350a8e3de2cae80261608dda6b4546baf883aa0c1205f6f9fc54e4"), looks := true }, kinds := [], alts := [], laidByText := true, laidKinds := [.data, .data], laidTests := true, laidLooks := .later }
def LightStaysUptoCardSaid : Prop := Claim7.holds Tryd.pinned (.plain (OpenSpec.upto lightStaysSpec)) lightStaysUptoCard
end Rows
end Go.Proofs.YtaoklfecdcakbaaDoor
