/-
  DERIVED. GIVEN WITH THE SEED: THE CARDS: each row of YtclfnechcblmoaaDoorRows.lean that lists a variable, with what it lists TIED to the program's text (the seventh form; the later family's looks); each row that meets fmt, with fmt's text TOLD by the authors' own Lean function (tested against real Go, not proved from fmt's source: count such statements apart). THE CARD IS WHAT COUNTS. Prove the row's statement (the work); the ties are given (YtclfnechcblmoaaDoorTie.lean); close each card by the builder's one call (the guide's Derived/Test/ToyasCard.lean, 'card_holds'). Laid BY PROGRAM, IN A SANDBOX (cutbox-door.mjs). By AI agents, Wed Nov 11 2026. No macro, syntax, notation, axiom, sorry.
-/
import Derived.Test.YtclfnechcblmoaaDoorRows
import GoSem.ClaimSeven
namespace Go.Proofs.YtclfnechcblmoaaDoor
namespace Rows

/-- THE TIED CARD OF 'heartwoodlaw08.CheckTakes'. -/
def checkTakesCard : Claim7 := { stood := { row := checkTakesRow, standIns := [], harness := (true, "626ae4bf86cbc33bbf6db94899f0c9adb386df2c23d6743a8e21a7eff496d09c"), looks := true }, kinds := [], alts := [], laidByText := true, laidKinds := [.data, .data], laidTests := true, laidLooks := .later }
def CheckTakesCardSaid : Prop := Claim7.holds Tryd.pinned (.plain (OpenSpec.ofChange checkTakesSpec)) checkTakesCard

/-- THE TIED CARD OF 'heartwoodlaw08.CheckOwn'. -/
def checkOwnCard : Claim7 := { stood := { row := checkOwnRow, standIns := [], harness := (true, "626ae4bf86cbc33bbf6db94899f0c9adb386df2c23d6743a8e21a7eff496d09c"), looks := true }, kinds := [], alts := [], laidByText := true, laidKinds := [.data, .data], laidTests := true, laidLooks := .later }
def CheckOwnCardSaid : Prop := Claim7.holds Tryd.pinned (.plain (OpenSpec.ofChange checkOwnSpec)) checkOwnCard

/-- THE TIED CARD OF 'heartwoodlaw08.CheckLess'. -/
def checkLessCard : Claim7 := { stood := { row := checkLessRow, standIns := [], harness := (true, "626ae4bf86cbc33bbf6db94899f0c9adb386df2c23d6743a8e21a7eff496d09c"), looks := true }, kinds := [], alts := [], laidByText := true, laidKinds := [.data, .data], laidTests := true, laidLooks := .later }
def CheckLessCardSaid : Prop := Claim7.holds Tryd.pinned (.plain (OpenSpec.ofChange checkLessSpec)) checkLessCard

/-- THE TIED CARD OF 'heartwoodlaw09.ClashFinds'. -/
def clashFindsCard : Claim7 := { stood := { row := clashFindsRow, standIns := [], harness := (true, "626ae4bf86cbc33bbf6db94899f0c9adb386df2c23d6743a8e21a7eff496d09c"), looks := true }, kinds := [], alts := [], laidByText := true, laidKinds := [.data, .data], laidTests := true, laidLooks := .later }
def ClashFindsCardSaid : Prop := Claim7.holds Tryd.pinned (.plain (OpenSpec.ofChange clashFindsSpec)) clashFindsCard

/-- THE TIED CARD OF 'heartwoodlaw09.ClashRight'. -/
def clashRightCard : Claim7 := { stood := { row := clashRightRow, standIns := [], harness := (true, "626ae4bf86cbc33bbf6db94899f0c9adb386df2c23d6743a8e21a7eff496d09c"), looks := true }, kinds := [], alts := [], laidByText := true, laidKinds := [.data, .data], laidTests := true, laidLooks := .later }
def ClashRightCardSaid : Prop := Claim7.holds Tryd.pinned (.plain (OpenSpec.ofChange clashRightSpec)) clashRightCard

/-- THE TIED CARD OF 'heartwoodlaw09.ClashSame'. -/
def clashSameCard : Claim7 := { stood := { row := clashSameRow, standIns := [], harness := (true, "626ae4bf86cbc33bbf6db94899f0c9adb386df2c23d6743a8e21a7eff496d09c"), looks := true }, kinds := [], alts := [], laidByText := true, laidKinds := [.data, .data], laidTests := true, laidLooks := .later }
def ClashSameCardSaid : Prop := Claim7.holds Tryd.pinned (.plain (OpenSpec.ofChange clashSameSpec)) clashSameCard

/-- THE TIED CARD OF 'heartwoodlaw09.ClashStays'. -/
def clashStaysCard : Claim7 := { stood := { row := clashStaysRow, standIns := [], harness := (true, "626ae4bf86cbc33bbf6db94899f0c9adb386df2c23d6743a8e21a7eff496d09c"), looks := true }, kinds := [], alts := [], laidByText := true, laidKinds := [.data, .data], laidTests := true, laidLooks := .later }
def ClashStaysCardSaid : Prop := Claim7.holds Tryd.pinned (.plain (OpenSpec.ofChange clashStaysSpec)) clashStaysCard

/-- THE TIED CARD OF 'heartwoodlaw08.CheckBytes'. -/
def checkBytesCard : Claim7 := { stood := { row := checkBytesRow, standIns := [], harness := (true, "626ae4bf86cbc33bbf6db94899f0c9adb386df2c23d6743a8e21a7eff496d09c"), looks := true }, kinds := [], alts := [], laidByText := true, laidKinds := [.data, .data], laidTests := true, laidLooks := .later }
def CheckBytesCardSaid : Prop := Claim7.holds Tryd.pinned (.plain (OpenSpec.ofChange checkBytesSpec)) checkBytesCard

/-- THE TIED CARD OF 'heartwoodlaw07.ProofShows'. -/
def proofShowsCard : Claim7 := { stood := { row := proofShowsRow, standIns := [], harness := (true, "626ae4bf86cbc33bbf6db94899f0c9adb386df2c23d6743a8e21a7eff496d09c"), looks := true }, kinds := [], alts := [], laidByText := true, laidKinds := [.data, .data], laidTests := true, laidLooks := .later }
def ProofShowsCardSaid : Prop := Claim7.holds Tryd.pinned (.plain (OpenSpec.ofChange proofShowsSpec)) proofShowsCard

/-- THE TIED CARD OF 'heartwoodlaw07.ProofRoots'. -/
def proofRootsCard : Claim7 := { stood := { row := proofRootsRow, standIns := [], harness := (true, "626ae4bf86cbc33bbf6db94899f0c9adb386df2c23d6743a8e21a7eff496d09c"), looks := true }, kinds := [], alts := [], laidByText := true, laidKinds := [.data, .data], laidTests := true, laidLooks := .later }
def ProofRootsCardSaid : Prop := Claim7.holds Tryd.pinned (.plain (OpenSpec.ofChange proofRootsSpec)) proofRootsCard

/-- THE TIED CARD OF 'heartwoodlaw07.ProofStays'. -/
def proofStaysCard : Claim7 := { stood := { row := proofStaysRow, standIns := [], harness := (true, "626ae4bf86cbc33bbf6db94899f0c9adb386df2c23d6743a8e21a7eff496d09c"), looks := true }, kinds := [], alts := [], laidByText := true, laidKinds := [.data, .data], laidTests := true, laidLooks := .later }
def ProofStaysCardSaid : Prop := Claim7.holds Tryd.pinned (.plain (OpenSpec.ofChange proofStaysSpec)) proofStaysCard

/-- THE TIED CARD OF 'heartwoodlaw08.CheckStays'. -/
def checkStaysCard : Claim7 := { stood := { row := checkStaysRow, standIns := [], harness := (true, "626ae4bf86cbc33bbf6db94899f0c9adb386df2c23d6743a8e21a7eff496d09c"), looks := true }, kinds := [], alts := [], laidByText := true, laidKinds := [.data, .data], laidTests := true, laidLooks := .later }
def CheckStaysCardSaid : Prop := Claim7.holds Tryd.pinned (.plain (OpenSpec.ofChange checkStaysSpec)) checkStaysCard

/-- THE TIED CARD OF 'heartwoodlaw09.ClashProves'. -/
def clashProvesCard : Claim7 := { stood := { row := clashProvesRow, standIns := [], harness := (true, "626ae4bf86cbc33bbf6db94899f0c9adb386df2c23d6743a8e21a7eff496d09c"), looks := true }, kinds := [], alts := [], laidByText := true, laidKinds := [.data, .data], laidTests := true, laidLooks := .later }
def ClashProvesCardSaid : Prop := Claim7.holds Tryd.pinned (.plain (OpenSpec.ofChange clashProvesSpec)) clashProvesCard

/-- THE TIED CARD OF 'heartwoodlaw08.CheckHonest'. -/
def checkHonestCard : Claim7 := { stood := { row := checkHonestRow, standIns := [], harness := (true, "626ae4bf86cbc33bbf6db94899f0c9adb386df2c23d6743a8e21a7eff496d09c"), looks := true }, kinds := [], alts := [], laidByText := true, laidKinds := [.data, .data], laidTests := true, laidLooks := .later }
def CheckHonestCardSaid : Prop := Claim7.holds Tryd.pinned (.plain (OpenSpec.ofChange checkHonestSpec)) checkHonestCard

/-- THE SECOND FORM's CARD OF 'heartwoodlaw08.CheckTakes'. -/
def checkTakesUptoCard : Claim7 := { stood := { row := checkTakesUptoRow, standIns := [], harness := (true, "626ae4bf86cbc33bbf6db94899f0c9adb386df2c23d6743a8e21a7eff496d09c"), looks := true }, kinds := [], alts := [], laidByText := true, laidKinds := [.data, .data], laidTests := true, laidLooks := .later }
def CheckTakesUptoCardSaid : Prop := Claim7.holds Tryd.pinned (.plain (OpenSpec.upto checkTakesSpec)) checkTakesUptoCard

/-- THE SECOND FORM's CARD OF 'heartwoodlaw08.CheckOwn'. -/
def checkOwnUptoCard : Claim7 := { stood := { row := checkOwnUptoRow, standIns := [], harness := (true, "626ae4bf86cbc33bbf6db94899f0c9adb386df2c23d6743a8e21a7eff496d09c"), looks := true }, kinds := [], alts := [], laidByText := true, laidKinds := [.data, .data], laidTests := true, laidLooks := .later }
def CheckOwnUptoCardSaid : Prop := Claim7.holds Tryd.pinned (.plain (OpenSpec.upto checkOwnSpec)) checkOwnUptoCard

/-- THE SECOND FORM's CARD OF 'heartwoodlaw08.CheckLess'. -/
def checkLessUptoCard : Claim7 := { stood := { row := checkLessUptoRow, standIns := [], harness := (true, "626ae4bf86cbc33bbf6db94899f0c9adb386df2c23d6743a8e21a7eff496d09c"), looks := true }, kinds := [], alts := [], laidByText := true, laidKinds := [.data, .data], laidTests := true, laidLooks := .later }
def CheckLessUptoCardSaid : Prop := Claim7.holds Tryd.pinned (.plain (OpenSpec.upto checkLessSpec)) checkLessUptoCard

/-- THE SECOND FORM's CARD OF 'heartwoodlaw09.ClashFinds'. -/
def clashFindsUptoCard : Claim7 := { stood := { row := clashFindsUptoRow, standIns := [], harness := (true, "626ae4bf86cbc33bbf6db94899f0c9adb386df2c23d6743a8e21a7eff496d09c"), looks := true }, kinds := [], alts := [], laidByText := true, laidKinds := [.data, .data], laidTests := true, laidLooks := .later }
def ClashFindsUptoCardSaid : Prop := Claim7.holds Tryd.pinned (.plain (OpenSpec.upto clashFindsSpec)) clashFindsUptoCard

/-- THE SECOND FORM's CARD OF 'heartwoodlaw09.ClashRight'. -/
def clashRightUptoCard : Claim7 := { stood := { row := clashRightUptoRow, standIns := [], harness := (true, "626ae4bf86cbc33bbf6db94899f0c9adb386df2c23d6743a8e21a7eff496d09c"), looks := true }, kinds := [], alts := [], laidByText := true, laidKinds := [.data, .data], laidTests := true, laidLooks := .later }
def ClashRightUptoCardSaid : Prop := Claim7.holds Tryd.pinned (.plain (OpenSpec.upto clashRightSpec)) clashRightUptoCard

/-- THE SECOND FORM's CARD OF 'heartwoodlaw09.ClashSame'. -/
def clashSameUptoCard : Claim7 := { stood := { row := clashSameUptoRow, standIns := [], harness := (true, "626ae4bf86cbc33bbf6db94899f0c9adb386df2c23d6743a8e21a7eff496d09c"), looks := true }, kinds := [], alts := [], laidByText := true, laidKinds := [.data, .data], laidTests := true, laidLooks := .later }
def ClashSameUptoCardSaid : Prop := Claim7.holds Tryd.pinned (.plain (OpenSpec.upto clashSameSpec)) clashSameUptoCard

/-- THE SECOND FORM's CARD OF 'heartwoodlaw09.ClashStays'. -/
def clashStaysUptoCard : Claim7 := { stood := { row := clashStaysUptoRow, standIns := [], harness := (true, "626ae4bf86cbc33bbf6db94899f0c9adb386df2c23d6743a8e21a7eff496d09c"), looks := true }, kinds := [], alts := [], laidByText := true, laidKinds := [.data, .data], laidTests := true, laidLooks := .later }
def ClashStaysUptoCardSaid : Prop := Claim7.holds Tryd.pinned (.plain (OpenSpec.upto clashStaysSpec)) clashStaysUptoCard

/-- THE SECOND FORM's CARD OF 'heartwoodlaw08.CheckBytes'. -/
def checkBytesUptoCard : Claim7 := { stood := { row := checkBytesUptoRow, standIns := [], harness := (true, "626ae4bf86cbc33bbf6db94899f0c9adb386df2c23d6743a8e21a7eff496d09c"), looks := true }, kinds := [], alts := [], laidByText := true, laidKinds := [.data, .data], laidTests := true, laidLooks := .later }
def CheckBytesUptoCardSaid : Prop := Claim7.holds Tryd.pinned (.plain (OpenSpec.upto checkBytesSpec)) checkBytesUptoCard

/-- THE SECOND FORM's CARD OF 'heartwoodlaw07.ProofShows'. -/
def proofShowsUptoCard : Claim7 := { stood := { row := proofShowsUptoRow, standIns := [], harness := (true, "626ae4bf86cbc33bbf6db94899f0c9adb386df2c23d6743a8e21a7eff496d09c"), looks := true }, kinds := [], alts := [], laidByText := true, laidKinds := [.data, .data], laidTests := true, laidLooks := .later }
def ProofShowsUptoCardSaid : Prop := Claim7.holds Tryd.pinned (.plain (OpenSpec.upto proofShowsSpec)) proofShowsUptoCard

/-- THE SECOND FORM's CARD OF 'heartwoodlaw07.ProofRoots'. -/
def proofRootsUptoCard : Claim7 := { stood := { row := proofRootsUptoRow, standIns := [], harness := (true, "626ae4bf86cbc33bbf6db94899f0c9adb386df2c23d6743a8e21a7eff496d09c"), looks := true }, kinds := [], alts := [], laidByText := true, laidKinds := [.data, .data], laidTests := true, laidLooks := .later }
def ProofRootsUptoCardSaid : Prop := Claim7.holds Tryd.pinned (.plain (OpenSpec.upto proofRootsSpec)) proofRootsUptoCard

/-- THE SECOND FORM's CARD OF 'heartwoodlaw07.ProofStays'. -/
def proofStaysUptoCard : Claim7 := { stood := { row := proofStaysUptoRow, standIns := [], harness := (true, "626ae4bf86cbc33bbf6db94899f0c9adb386df2c23d6743a8e21a7eff496d09c"), looks := true }, kinds := [], alts := [], laidByText := true, laidKinds := [.data, .data], laidTests := true, laidLooks := .later }
def ProofStaysUptoCardSaid : Prop := Claim7.holds Tryd.pinned (.plain (OpenSpec.upto proofStaysSpec)) proofStaysUptoCard

/-- THE SECOND FORM's CARD OF 'heartwoodlaw08.CheckStays'. -/
def checkStaysUptoCard : Claim7 := { stood := { row := checkStaysUptoRow, standIns := [], harness := (true, "626ae4bf86cbc33bbf6db94899f0c9adb386df2c23d6743a8e21a7eff496d09c"), looks := true }, kinds := [], alts := [], laidByText := true, laidKinds := [.data, .data], laidTests := true, laidLooks := .later }
def CheckStaysUptoCardSaid : Prop := Claim7.holds Tryd.pinned (.plain (OpenSpec.upto checkStaysSpec)) checkStaysUptoCard

/-- THE SECOND FORM's CARD OF 'heartwoodlaw09.ClashProves'. -/
def clashProvesUptoCard : Claim7 := { stood := { row := clashProvesUptoRow, standIns := [], harness := (true, "626ae4bf86cbc33bbf6db94899f0c9adb386df2c23d6743a8e21a7eff496d09c"), looks := true }, kinds := [], alts := [], laidByText := true, laidKinds := [.data, .data], laidTests := true, laidLooks := .later }
def ClashProvesUptoCardSaid : Prop := Claim7.holds Tryd.pinned (.plain (OpenSpec.upto clashProvesSpec)) clashProvesUptoCard

/-- THE SECOND FORM's CARD OF 'heartwoodlaw08.CheckHonest'. -/
def checkHonestUptoCard : Claim7 := { stood := { row := checkHonestUptoRow, standIns := [], harness := (true, "626ae4bf86cbc33bbf6db94899f0c9adb386df2c23d6743a8e21a7eff496d09c"), looks := true }, kinds := [], alts := [], laidByText := true, laidKinds := [.data, .data], laidTests := true, laidLooks := .later }
def CheckHonestUptoCardSaid : Prop := Claim7.holds Tryd.pinned (.plain (OpenSpec.upto checkHonestSpec)) checkHonestUptoCard
end Rows
end Go.Proofs.YtclfnechcblmoaaDoor
