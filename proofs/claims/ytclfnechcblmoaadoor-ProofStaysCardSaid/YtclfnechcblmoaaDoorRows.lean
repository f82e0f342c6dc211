/-
  NARROWER THAN 'FOR EVERY INPUT', by the rows' own cells (each row's printed sentence says how): CheckTakes: loops, laid · CheckOwn: loops, laid · CheckLess: loops, laid · ClashFinds: loops, laid · ClashRight: loops, laid · ClashSame: loops, laid · ClashStays: loops, laid · CheckBytes: loops, laid · ProofShows: loops, laid · ProofRoots: laid · ProofStays: laid · CheckStays: laid · ClashProves: loops, laid · CheckHonest: laid.
  DERIVED. THE GIVEN ROWS OF THIS SEAT. 14 by the template 'for every input the law returns true; each argument reads behind the call as it read before'; 0 by the template 'total and deterministic' (their statements: YtclfnechcblmoaaDoorTotals.lean).
  GIVEN WITH THE SEED: the statements are not yours to turn. If you find one false, say at which input.
  Laid BY PROGRAM, IN A SANDBOX (cutbox-rows.mjs): the forced cells as the released guide's own fill.sh prints them over the translation ea7f688784b86afb… (all of the seat's roots in one cut). By AI agents, Wed Nov 11 2026. No macro, syntax, notation, axiom, sorry.
-/
import Derived.Test.YtclfnechcblmoaaDoorChecked
import GoSem.Claim
import GoSem.ClaimJoined
import GoSem.ClaimMapViews
import Derived.JoinedTies
import Derived.KernelRfl
namespace Go.Proofs.YtclfnechcblmoaaDoor
/- THE CELL 'sum', in the pinned program and in every row, IS THE sha256 OF THE DUMP (.gsa) THAT YtclfnechcblmoaaDoorProg.lean LOADS. Nothing in Lean hashes anything: it is a label: what it is worth is what the hold of that sum in a sandbox is worth. -/
noncomputable def Tryd.pinned : Pinned := { name := "ytclfnechcblmoaadoor", sum := "ea7f688784b86afb5b728b5bd9cb953c2ff423219efd9a962de76bf512bd6605", checked := Tryd.checked }
namespace Rows
def none {H : Type} : Left H := { results := [], args := [] }

/- WHAT THE LISTED PACKAGE-LEVEL VARIABLES READ AS WHEN THE CALL BEGINS. Each datum BY PROGRAM (the guide's laid-datum.mjs) off the statement by which the dump's own 'gosem.cut.vars' lays the variable. In a bare row this is a premise. The card (YtclfnechcblmoaaDoorCards.lean) ties it to the program's text. -/
def laid_heartwood_sha_constants {H : Type} : DataW H := .agg [.lit (.int .u32 1116352408), .lit (.int .u32 1899447441), .lit (.int .u32 3049323471), .lit (.int .u32 3921009573), .lit (.int .u32 961987163), .lit (.int .u32 1508970993), .lit (.int .u32 2453635748), .lit (.int .u32 2870763221), .lit (.int .u32 3624381080), .lit (.int .u32 310598401), .lit (.int .u32 607225278), .lit (.int .u32 1426881987), .lit (.int .u32 1925078388), .lit (.int .u32 2162078206), .lit (.int .u32 2614888103), .lit (.int .u32 3248222580), .lit (.int .u32 3835390401), .lit (.int .u32 4022224774), .lit (.int .u32 264347078), .lit (.int .u32 604807628), .lit (.int .u32 770255983), .lit (.int .u32 1249150122), .lit (.int .u32 1555081692), .lit (.int .u32 1996064986), .lit (.int .u32 2554220882), .lit (.int .u32 2821834349), .lit (.int .u32 2952996808), .lit (.int .u32 3210313671), .lit (.int .u32 3336571891), .lit (.int .u32 3584528711), .lit (.int .u32 113926993), .lit (.int .u32 338241895), .lit (.int .u32 666307205), .lit (.int .u32 773529912), .lit (.int .u32 1294757372), .lit (.int .u32 1396182291), .lit (.int .u32 1695183700), .lit (.int .u32 1986661051), .lit (.int .u32 2177026350), .lit (.int .u32 2456956037), .lit (.int .u32 2730485921), .lit (.int .u32 2820302411), .lit (.int .u32 3259730800), .lit (.int .u32 3345764771), .lit (.int .u32 3516065817), .lit (.int .u32 3600352804), .lit (.int .u32 4094571909), .lit (.int .u32 275423344), .lit (.int .u32 430227734), .lit (.int .u32 506948616), .lit (.int .u32 659060556), .lit (.int .u32 883997877), .lit (.int .u32 958139571), .lit (.int .u32 1322822218), .lit (.int .u32 1537002063), .lit (.int .u32 1747873779), .lit (.int .u32 1955562222), .lit (.int .u32 2024104815), .lit (.int .u32 2227730452), .lit (.int .u32 2361852424), .lit (.int .u32 2428436474), .lit (.int .u32 2756734187), .lit (.int .u32 3204031479), .lit (.int .u32 3329325298)]
def laid_heartwood_sha_first {H : Type} : DataW H := .agg [.lit (.int .u32 1779033703), .lit (.int .u32 3144134277), .lit (.int .u32 1013904242), .lit (.int .u32 2773480762), .lit (.int .u32 1359893119), .lit (.int .u32 2600822924), .lit (.int .u32 528734635), .lit (.int .u32 1541459225)]

/-- 'heartwoodlaw08.CheckTakes': WHATEVER THE INPUT: true; the input reads as it did. -/
def checkTakesSpec : ChangeSpec := { name := "checkTakes", fn := fun _ => fun
  | [d1, d2, d3, d4] => { results := [.lit (.bool true)], args := [d1, d2, d3, d4] }
  | _ => none }
def checkTakesRow : OpenClaim := { program := "ytclfnechcblmoaadoor", sum := "ea7f688784b86afb5b728b5bd9cb953c2ff423219efd9a962de76bf512bd6605", func := "heartwood/heartwoodlaw08.CheckTakes", spec := "checkTakes", inPlace := ["internal/bytealg.Compare"], unfollowed := true, recurses := true, named := ["heartwood/sha.first", "heartwood/sha.constants"], loops := true, apart := false, laid := [("heartwood/sha.constants", laid_heartwood_sha_constants), ("heartwood/sha.first", laid_heartwood_sha_first)] }
def CheckTakesSaid : Prop := checkTakesRow.holds Tryd.pinned (OpenSpec.ofChange checkTakesSpec)

/-- ITS FALSE NEIGHBOUR: 'it returns false'. Refute it at one input. -/
def checkTakesWrong : ChangeSpec := { name := "checkTakes", fn := fun _ => fun
  | [d1, d2, d3, d4] => { results := [.lit (.bool false)], args := [d1, d2, d3, d4] }
  | _ => none }
def CheckTakesWrongFalsely : Prop := checkTakesRow.holds Tryd.pinned (OpenSpec.ofChange checkTakesWrong)

/-- 'heartwoodlaw08.CheckOwn': WHATEVER THE INPUT: true; the input reads as it did. -/
def checkOwnSpec : ChangeSpec := { name := "checkOwn", fn := fun _ => fun
  | [d1, d2, d3] => { results := [.lit (.bool true)], args := [d1, d2, d3] }
  | _ => none }
def checkOwnRow : OpenClaim := { program := "ytclfnechcblmoaadoor", sum := "ea7f688784b86afb5b728b5bd9cb953c2ff423219efd9a962de76bf512bd6605", func := "heartwood/heartwoodlaw08.CheckOwn", spec := "checkOwn", inPlace := ["internal/bytealg.Compare"], unfollowed := true, recurses := true, named := ["heartwood/sha.first", "heartwood/sha.constants"], loops := true, apart := false, laid := [("heartwood/sha.constants", laid_heartwood_sha_constants), ("heartwood/sha.first", laid_heartwood_sha_first)] }
def CheckOwnSaid : Prop := checkOwnRow.holds Tryd.pinned (OpenSpec.ofChange checkOwnSpec)

/-- ITS FALSE NEIGHBOUR: 'it returns false'. Refute it at one input. -/
def checkOwnWrong : ChangeSpec := { name := "checkOwn", fn := fun _ => fun
  | [d1, d2, d3] => { results := [.lit (.bool false)], args := [d1, d2, d3] }
  | _ => none }
def CheckOwnWrongFalsely : Prop := checkOwnRow.holds Tryd.pinned (OpenSpec.ofChange checkOwnWrong)

/-- 'heartwoodlaw08.CheckLess': WHATEVER THE INPUT: true; the input reads as it did. -/
def checkLessSpec : ChangeSpec := { name := "checkLess", fn := fun _ => fun
  | [d1, d2, d3, d4, d5] => { results := [.lit (.bool true)], args := [d1, d2, d3, d4, d5] }
  | _ => none }
def checkLessRow : OpenClaim := { program := "ytclfnechcblmoaadoor", sum := "ea7f688784b86afb5b728b5bd9cb953c2ff423219efd9a962de76bf512bd6605", func := "heartwood/heartwoodlaw08.CheckLess", spec := "checkLess", inPlace := ["internal/bytealg.Compare"], unfollowed := true, recurses := true, named := ["heartwood/sha.first", "heartwood/sha.constants"], loops := true, apart := false, laid := [("heartwood/sha.constants", laid_heartwood_sha_constants), ("heartwood/sha.first", laid_heartwood_sha_first)] }
def CheckLessSaid : Prop := checkLessRow.holds Tryd.pinned (OpenSpec.ofChange checkLessSpec)

/-- ITS FALSE NEIGHBOUR: 'it returns false'. Refute it at one input. -/
def checkLessWrong : ChangeSpec := { name := "checkLess", fn := fun _ => fun
  | [d1, d2, d3, d4, d5] => { results := [.lit (.bool false)], args := [d1, d2, d3, d4, d5] }
  | _ => none }
def CheckLessWrongFalsely : Prop := checkLessRow.holds Tryd.pinned (OpenSpec.ofChange checkLessWrong)

/-- 'heartwoodlaw09.ClashFinds': WHATEVER THE INPUT: true; the input reads as it did. -/
def clashFindsSpec : ChangeSpec := { name := "clashFinds", fn := fun _ => fun
  | [d1, d2, d3] => { results := [.lit (.bool true)], args := [d1, d2, d3] }
  | _ => none }
def clashFindsRow : OpenClaim := { program := "ytclfnechcblmoaadoor", sum := "ea7f688784b86afb5b728b5bd9cb953c2ff423219efd9a962de76bf512bd6605", func := "heartwood/heartwoodlaw09.ClashFinds", spec := "clashFinds", unfollowed := true, recurses := true, named := ["heartwood/sha.first", "heartwood/sha.constants"], loops := true, apart := false, laid := [("heartwood/sha.constants", laid_heartwood_sha_constants), ("heartwood/sha.first", laid_heartwood_sha_first)] }
def ClashFindsSaid : Prop := clashFindsRow.holds Tryd.pinned (OpenSpec.ofChange clashFindsSpec)

/-- ITS FALSE NEIGHBOUR: 'it returns false'. Refute it at one input. -/
def clashFindsWrong : ChangeSpec := { name := "clashFinds", fn := fun _ => fun
  | [d1, d2, d3] => { results := [.lit (.bool false)], args := [d1, d2, d3] }
  | _ => none }
def ClashFindsWrongFalsely : Prop := clashFindsRow.holds Tryd.pinned (OpenSpec.ofChange clashFindsWrong)

/-- 'heartwoodlaw09.ClashRight': WHATEVER THE INPUT: true; the input reads as it did. -/
def clashRightSpec : ChangeSpec := { name := "clashRight", fn := fun _ => fun
  | [d1, d2, d3] => { results := [.lit (.bool true)], args := [d1, d2, d3] }
  | _ => none }
def clashRightRow : OpenClaim := { program := "ytclfnechcblmoaadoor", sum := "ea7f688784b86afb5b728b5bd9cb953c2ff423219efd9a962de76bf512bd6605", func := "heartwood/heartwoodlaw09.ClashRight", spec := "clashRight", unfollowed := true, recurses := true, named := ["heartwood/sha.first", "heartwood/sha.constants"], loops := true, apart := false, laid := [("heartwood/sha.constants", laid_heartwood_sha_constants), ("heartwood/sha.first", laid_heartwood_sha_first)] }
def ClashRightSaid : Prop := clashRightRow.holds Tryd.pinned (OpenSpec.ofChange clashRightSpec)

/-- ITS FALSE NEIGHBOUR: 'it returns false'. Refute it at one input. -/
def clashRightWrong : ChangeSpec := { name := "clashRight", fn := fun _ => fun
  | [d1, d2, d3] => { results := [.lit (.bool false)], args := [d1, d2, d3] }
  | _ => none }
def ClashRightWrongFalsely : Prop := clashRightRow.holds Tryd.pinned (OpenSpec.ofChange clashRightWrong)

/-- 'heartwoodlaw09.ClashSame': WHATEVER THE INPUT: true; the input reads as it did. -/
def clashSameSpec : ChangeSpec := { name := "clashSame", fn := fun _ => fun
  | [d1, d2, d3] => { results := [.lit (.bool true)], args := [d1, d2, d3] }
  | _ => none }
def clashSameRow : OpenClaim := { program := "ytclfnechcblmoaadoor", sum := "ea7f688784b86afb5b728b5bd9cb953c2ff423219efd9a962de76bf512bd6605", func := "heartwood/heartwoodlaw09.ClashSame", spec := "clashSame", unfollowed := true, recurses := true, named := ["heartwood/sha.first", "heartwood/sha.constants"], loops := true, apart := false, laid := [("heartwood/sha.constants", laid_heartwood_sha_constants), ("heartwood/sha.first", laid_heartwood_sha_first)] }
def ClashSameSaid : Prop := clashSameRow.holds Tryd.pinned (OpenSpec.ofChange clashSameSpec)

/-- ITS FALSE NEIGHBOUR: 'it returns false'. Refute it at one input. -/
def clashSameWrong : ChangeSpec := { name := "clashSame", fn := fun _ => fun
  | [d1, d2, d3] => { results := [.lit (.bool false)], args := [d1, d2, d3] }
  | _ => none }
def ClashSameWrongFalsely : Prop := clashSameRow.holds Tryd.pinned (OpenSpec.ofChange clashSameWrong)

/-- 'heartwoodlaw09.ClashStays': WHATEVER THE INPUT: true; the input reads as it did. -/
def clashStaysSpec : ChangeSpec := { name := "clashStays", fn := fun _ => fun
  | [d1, d2, d3] => { results := [.lit (.bool true)], args := [d1, d2, d3] }
  | _ => none }
def clashStaysRow : OpenClaim := { program := "ytclfnechcblmoaadoor", sum := "ea7f688784b86afb5b728b5bd9cb953c2ff423219efd9a962de76bf512bd6605", func := "heartwood/heartwoodlaw09.ClashStays", spec := "clashStays", unfollowed := true, recurses := true, named := ["heartwood/sha.first", "heartwood/sha.constants"], loops := true, apart := false, laid := [("heartwood/sha.constants", laid_heartwood_sha_constants), ("heartwood/sha.first", laid_heartwood_sha_first)] }
def ClashStaysSaid : Prop := clashStaysRow.holds Tryd.pinned (OpenSpec.ofChange clashStaysSpec)

/-- ITS FALSE NEIGHBOUR: 'it returns false'. Refute it at one input. -/
def clashStaysWrong : ChangeSpec := { name := "clashStays", fn := fun _ => fun
  | [d1, d2, d3] => { results := [.lit (.bool false)], args := [d1, d2, d3] }
  | _ => none }
def ClashStaysWrongFalsely : Prop := clashStaysRow.holds Tryd.pinned (OpenSpec.ofChange clashStaysWrong)

/-- 'heartwoodlaw08.CheckBytes': WHATEVER THE INPUT: true; the input reads as it did. -/
def checkBytesSpec : ChangeSpec := { name := "checkBytes", fn := fun _ => fun
  | [d1, d2, d3] => { results := [.lit (.bool true)], args := [d1, d2, d3] }
  | _ => none }
def checkBytesRow : OpenClaim := { program := "ytclfnechcblmoaadoor", sum := "ea7f688784b86afb5b728b5bd9cb953c2ff423219efd9a962de76bf512bd6605", func := "heartwood/heartwoodlaw08.CheckBytes", spec := "checkBytes", inPlace := ["internal/bytealg.Compare"], unfollowed := true, recurses := true, named := ["heartwood/sha.first", "heartwood/sha.constants"], loops := true, apart := false, laid := [("heartwood/sha.constants", laid_heartwood_sha_constants), ("heartwood/sha.first", laid_heartwood_sha_first)] }
def CheckBytesSaid : Prop := checkBytesRow.holds Tryd.pinned (OpenSpec.ofChange checkBytesSpec)

/-- ITS FALSE NEIGHBOUR: 'it returns false'. Refute it at one input. -/
def checkBytesWrong : ChangeSpec := { name := "checkBytes", fn := fun _ => fun
  | [d1, d2, d3] => { results := [.lit (.bool false)], args := [d1, d2, d3] }
  | _ => none }
def CheckBytesWrongFalsely : Prop := checkBytesRow.holds Tryd.pinned (OpenSpec.ofChange checkBytesWrong)

/-- 'heartwoodlaw07.ProofShows': WHATEVER THE INPUT: true; the input reads as it did. -/
def proofShowsSpec : ChangeSpec := { name := "proofShows", fn := fun _ => fun
  | [d1, d2, d3] => { results := [.lit (.bool true)], args := [d1, d2, d3] }
  | _ => none }
def proofShowsRow : OpenClaim := { program := "ytclfnechcblmoaadoor", sum := "ea7f688784b86afb5b728b5bd9cb953c2ff423219efd9a962de76bf512bd6605", func := "heartwood/heartwoodlaw07.ProofShows", spec := "proofShows", inPlace := ["internal/bytealg.Compare"], unfollowed := true, recurses := true, named := ["heartwood/sha.first", "heartwood/sha.constants"], loops := true, apart := false, laid := [("heartwood/sha.constants", laid_heartwood_sha_constants), ("heartwood/sha.first", laid_heartwood_sha_first)] }
def ProofShowsSaid : Prop := proofShowsRow.holds Tryd.pinned (OpenSpec.ofChange proofShowsSpec)

/-- ITS FALSE NEIGHBOUR: 'it returns false'. Refute it at one input. -/
def proofShowsWrong : ChangeSpec := { name := "proofShows", fn := fun _ => fun
  | [d1, d2, d3] => { results := [.lit (.bool false)], args := [d1, d2, d3] }
  | _ => none }
def ProofShowsWrongFalsely : Prop := proofShowsRow.holds Tryd.pinned (OpenSpec.ofChange proofShowsWrong)

/-- 'heartwoodlaw07.ProofRoots': WHATEVER THE INPUT: true; the input reads as it did. -/
def proofRootsSpec : ChangeSpec := { name := "proofRoots", fn := fun _ => fun
  | [d1, d2, d3] => { results := [.lit (.bool true)], args := [d1, d2, d3] }
  | _ => none }
def proofRootsRow : OpenClaim := { program := "ytclfnechcblmoaadoor", sum := "ea7f688784b86afb5b728b5bd9cb953c2ff423219efd9a962de76bf512bd6605", func := "heartwood/heartwoodlaw07.ProofRoots", spec := "proofRoots", inPlace := ["internal/bytealg.Compare"], unfollowed := true, recurses := true, named := ["heartwood/sha.first", "heartwood/sha.constants"], apart := false, laid := [("heartwood/sha.constants", laid_heartwood_sha_constants), ("heartwood/sha.first", laid_heartwood_sha_first)] }
def ProofRootsSaid : Prop := proofRootsRow.holds Tryd.pinned (OpenSpec.ofChange proofRootsSpec)

/-- ITS FALSE NEIGHBOUR: 'it returns false'. Refute it at one input. -/
def proofRootsWrong : ChangeSpec := { name := "proofRoots", fn := fun _ => fun
  | [d1, d2, d3] => { results := [.lit (.bool false)], args := [d1, d2, d3] }
  | _ => none }
def ProofRootsWrongFalsely : Prop := proofRootsRow.holds Tryd.pinned (OpenSpec.ofChange proofRootsWrong)

/-- 'heartwoodlaw07.ProofStays': WHATEVER THE INPUT: true; the input reads as it did. -/
def proofStaysSpec : ChangeSpec := { name := "proofStays", fn := fun _ => fun
  | [d1, d2] => { results := [.lit (.bool true)], args := [d1, d2] }
  | _ => none }
def proofStaysRow : OpenClaim := { program := "ytclfnechcblmoaadoor", sum := "ea7f688784b86afb5b728b5bd9cb953c2ff423219efd9a962de76bf512bd6605", func := "heartwood/heartwoodlaw07.ProofStays", spec := "proofStays", inPlace := ["internal/bytealg.Compare"], unfollowed := true, recurses := true, named := ["heartwood/sha.first", "heartwood/sha.constants"], apart := false, laid := [("heartwood/sha.constants", laid_heartwood_sha_constants), ("heartwood/sha.first", laid_heartwood_sha_first)] }
def ProofStaysSaid : Prop := proofStaysRow.holds Tryd.pinned (OpenSpec.ofChange proofStaysSpec)

/-- ITS FALSE NEIGHBOUR: 'it returns false'. Refute it at one input. -/
def proofStaysWrong : ChangeSpec := { name := "proofStays", fn := fun _ => fun
  | [d1, d2] => { results := [.lit (.bool false)], args := [d1, d2] }
  | _ => none }
def ProofStaysWrongFalsely : Prop := proofStaysRow.holds Tryd.pinned (OpenSpec.ofChange proofStaysWrong)

/-- 'heartwoodlaw08.CheckStays': WHATEVER THE INPUT: true; the input reads as it did. -/
def checkStaysSpec : ChangeSpec := { name := "checkStays", fn := fun _ => fun
  | [d1, d2] => { results := [.lit (.bool true)], args := [d1, d2] }
  | _ => none }
def checkStaysRow : OpenClaim := { program := "ytclfnechcblmoaadoor", sum := "ea7f688784b86afb5b728b5bd9cb953c2ff423219efd9a962de76bf512bd6605", func := "heartwood/heartwoodlaw08.CheckStays", spec := "checkStays", inPlace := ["internal/bytealg.Compare"], unfollowed := true, recurses := true, named := ["heartwood/sha.first", "heartwood/sha.constants"], apart := false, laid := [("heartwood/sha.constants", laid_heartwood_sha_constants), ("heartwood/sha.first", laid_heartwood_sha_first)] }
def CheckStaysSaid : Prop := checkStaysRow.holds Tryd.pinned (OpenSpec.ofChange checkStaysSpec)

/-- ITS FALSE NEIGHBOUR: 'it returns false'. Refute it at one input. -/
def checkStaysWrong : ChangeSpec := { name := "checkStays", fn := fun _ => fun
  | [d1, d2] => { results := [.lit (.bool false)], args := [d1, d2] }
  | _ => none }
def CheckStaysWrongFalsely : Prop := checkStaysRow.holds Tryd.pinned (OpenSpec.ofChange checkStaysWrong)

/-- 'heartwoodlaw09.ClashProves': WHATEVER THE INPUT: true; the input reads as it did. -/
def clashProvesSpec : ChangeSpec := { name := "clashProves", fn := fun _ => fun
  | [d1, d2, d3, d4] => { results := [.lit (.bool true)], args := [d1, d2, d3, d4] }
  | _ => none }
def clashProvesRow : OpenClaim := { program := "ytclfnechcblmoaadoor", sum := "ea7f688784b86afb5b728b5bd9cb953c2ff423219efd9a962de76bf512bd6605", func := "heartwood/heartwoodlaw09.ClashProves", spec := "clashProves", inPlace := ["internal/bytealg.Compare"], unfollowed := true, recurses := true, named := ["heartwood/sha.first", "heartwood/sha.constants"], loops := true, apart := false, laid := [("heartwood/sha.constants", laid_heartwood_sha_constants), ("heartwood/sha.first", laid_heartwood_sha_first)] }
def ClashProvesSaid : Prop := clashProvesRow.holds Tryd.pinned (OpenSpec.ofChange clashProvesSpec)

/-- ITS FALSE NEIGHBOUR: 'it returns false'. Refute it at one input. -/
def clashProvesWrong : ChangeSpec := { name := "clashProves", fn := fun _ => fun
  | [d1, d2, d3, d4] => { results := [.lit (.bool false)], args := [d1, d2, d3, d4] }
  | _ => none }
def ClashProvesWrongFalsely : Prop := clashProvesRow.holds Tryd.pinned (OpenSpec.ofChange clashProvesWrong)

/-- 'heartwoodlaw08.CheckHonest': WHATEVER THE INPUT: true; the input reads as it did. -/
def checkHonestSpec : ChangeSpec := { name := "checkHonest", fn := fun _ => fun
  | [d1, d2, d3] => { results := [.lit (.bool true)], args := [d1, d2, d3] }
  | _ => none }
def checkHonestRow : OpenClaim := { program := "ytclfnechcblmoaadoor", sum := "ea7f688784b86afb5b728b5bd9cb953c2ff423219efd9a962de76bf512bd6605", func := "heartwood/heartwoodlaw08.CheckHonest", spec := "checkHonest", inPlace := ["internal/bytealg.Compare"], unfollowed := true, recurses := true, named := ["heartwood/sha.first", "heartwood/sha.constants"], apart := false, laid := [("heartwood/sha.constants", laid_heartwood_sha_constants), ("heartwood/sha.first", laid_heartwood_sha_first)] }
def CheckHonestSaid : Prop := checkHonestRow.holds Tryd.pinned (OpenSpec.ofChange checkHonestSpec)

/-- ITS FALSE NEIGHBOUR: 'it returns false'. Refute it at one input. -/
def checkHonestWrong : ChangeSpec := { name := "checkHonest", fn := fun _ => fun
  | [d1, d2, d3] => { results := [.lit (.bool false)], args := [d1, d2, d3] }
  | _ => none }
def CheckHonestWrongFalsely : Prop := checkHonestRow.holds Tryd.pinned (OpenSpec.ofChange checkHonestWrong)

/- THE SECOND FORM. 'bulk': how many values and letters a reading holds, each counted each time it is reached (what is shared counts as often as it is met; a slice's spare places count too). A statement '..UptoSaid' is the law's where the arguments, and the package variables that the reading takes, are together of bulk at most 1048576: NARROWER than '..Said'. Prove '..Said' where nothing that the law and all that it calls make is longer than what came in: it says more and counts as full. Else prove '..UptoSaid'. A law counts once. -/
mutual
def uptoBulk {H : Type} : DataW H → Nat
  | .lit (.string bytes) => bytes.length + 1
  | .lit _ => 1
  | .nil => 1
  | .ptr d => uptoBulk d + 1
  | .slice elems spare => uptoBulkAll elems + uptoBulkAll spare + 1
  | .agg parts => uptoBulkAll parts + 1
  | .iface _ d => uptoBulk d + 1
  | .map entries => uptoBulkEntries entries + 1
  | .held _ => 1
def uptoBulkAll {H : Type} : List (DataW H) → Nat
  | [] => 0
  | d :: r => uptoBulk d + uptoBulkAll r
def uptoBulkEntries {H : Type} : List (Lit × DataW H) → Nat
  | [] => 0
  | x :: r => uptoBulkEntry x + uptoBulkEntries r
def uptoBulkEntry {H : Type} : Lit × DataW H → Nat
  | (.string bytes, d) => bytes.length + uptoBulk d + 1
  | (_, d) => uptoBulk d + 1
 end
def uptoSmall : (H : Type) → List (DataW H) → Bool := fun _ ds => decide (uptoBulkAll ds ≤ 1048576)
def OpenSpec.upto (s : _root_.Go.ChangeSpec) : _root_.Go.OpenSpec := { _root_.Go.OpenSpec.ofChange s with cond := some uptoSmall }

/-- 'heartwoodlaw08.CheckTakes', WHERE WHAT IT READS IS OF BULK AT MOST 1048576: true; the input reads as it did. -/
def checkTakesUptoRow : OpenClaim := { program := "ytclfnechcblmoaadoor", sum := "ea7f688784b86afb5b728b5bd9cb953c2ff423219efd9a962de76bf512bd6605", func := "heartwood/heartwoodlaw08.CheckTakes", spec := "checkTakes", inPlace := ["internal/bytealg.Compare"], unfollowed := true, recurses := true, named := ["heartwood/sha.first", "heartwood/sha.constants"], loops := true, apart := false, laid := [("heartwood/sha.constants", laid_heartwood_sha_constants), ("heartwood/sha.first", laid_heartwood_sha_first)], narrowed := true }
def CheckTakesUptoSaid : Prop := checkTakesUptoRow.holds Tryd.pinned (OpenSpec.upto checkTakesSpec)

/-- 'heartwoodlaw08.CheckOwn', WHERE WHAT IT READS IS OF BULK AT MOST 1048576: true; the input reads as it did. -/
def checkOwnUptoRow : OpenClaim := { program := "ytclfnechcblmoaadoor", sum := "ea7f688784b86afb5b728b5bd9cb953c2ff423219efd9a962de76bf512bd6605", func := "heartwood/heartwoodlaw08.CheckOwn", spec := "checkOwn", inPlace := ["internal/bytealg.Compare"], unfollowed := true, recurses := true, named := ["heartwood/sha.first", "heartwood/sha.constants"], loops := true, apart := false, laid := [("heartwood/sha.constants", laid_heartwood_sha_constants), ("heartwood/sha.first", laid_heartwood_sha_first)], narrowed := true }
def CheckOwnUptoSaid : Prop := checkOwnUptoRow.holds Tryd.pinned (OpenSpec.upto checkOwnSpec)

/-- 'heartwoodlaw08.CheckLess', WHERE WHAT IT READS IS OF BULK AT MOST 1048576: true; the input reads as it did. -/
def checkLessUptoRow : OpenClaim := { program := "ytclfnechcblmoaadoor", sum := "ea7f688784b86afb5b728b5bd9cb953c2ff423219efd9a962de76bf512bd6605", func := "heartwood/heartwoodlaw08.CheckLess", spec := "checkLess", inPlace := ["internal/bytealg.Compare"], unfollowed := true, recurses := true, named := ["heartwood/sha.first", "heartwood/sha.constants"], loops := true, apart := false, laid := [("heartwood/sha.constants", laid_heartwood_sha_constants), ("heartwood/sha.first", laid_heartwood_sha_first)], narrowed := true }
def CheckLessUptoSaid : Prop := checkLessUptoRow.holds Tryd.pinned (OpenSpec.upto checkLessSpec)

/-- 'heartwoodlaw09.ClashFinds', WHERE WHAT IT READS IS OF BULK AT MOST 1048576: true; the input reads as it did. -/
def clashFindsUptoRow : OpenClaim := { program := "ytclfnechcblmoaadoor", sum := "ea7f688784b86afb5b728b5bd9cb953c2ff423219efd9a962de76bf512bd6605", func := "heartwood/heartwoodlaw09.ClashFinds", spec := "clashFinds", unfollowed := true, recurses := true, named := ["heartwood/sha.first", "heartwood/sha.constants"], loops := true, apart := false, laid := [("heartwood/sha.constants", laid_heartwood_sha_constants), ("heartwood/sha.first", laid_heartwood_sha_first)], narrowed := true }
def ClashFindsUptoSaid : Prop := clashFindsUptoRow.holds Tryd.pinned (OpenSpec.upto clashFindsSpec)

/-- 'heartwoodlaw09.ClashRight', WHERE WHAT IT READS IS OF BULK AT MOST 1048576: true; the input reads as it did. -/
def clashRightUptoRow : OpenClaim := { program := "ytclfnechcblmoaadoor", sum := "ea7f688784b86afb5b728b5bd9cb953c2ff423219efd9a962de76bf512bd6605", func := "heartwood/heartwoodlaw09.ClashRight", spec := "clashRight", unfollowed := true, recurses := true, named := ["heartwood/sha.first", "heartwood/sha.constants"], loops := true, apart := false, laid := [("heartwood/sha.constants", laid_heartwood_sha_constants), ("heartwood/sha.first", laid_heartwood_sha_first)], narrowed := true }
def ClashRightUptoSaid : Prop := clashRightUptoRow.holds Tryd.pinned (OpenSpec.upto clashRightSpec)

/-- 'heartwoodlaw09.ClashSame', WHERE WHAT IT READS IS OF BULK AT MOST 1048576: true; the input reads as it did. -/
def clashSameUptoRow : OpenClaim := { program := "ytclfnechcblmoaadoor", sum := "ea7f688784b86afb5b728b5bd9cb953c2ff423219efd9a962de76bf512bd6605", func := "heartwood/heartwoodlaw09.ClashSame", spec := "clashSame", unfollowed := true, recurses := true, named := ["heartwood/sha.first", "heartwood/sha.constants"], loops := true, apart := false, laid := [("heartwood/sha.constants", laid_heartwood_sha_constants), ("heartwood/sha.first", laid_heartwood_sha_first)], narrowed := true }
def ClashSameUptoSaid : Prop := clashSameUptoRow.holds Tryd.pinned (OpenSpec.upto clashSameSpec)

/-- 'heartwoodlaw09.ClashStays', WHERE WHAT IT READS IS OF BULK AT MOST 1048576: true; the input reads as it did. -/
def clashStaysUptoRow : OpenClaim := { program := "ytclfnechcblmoaadoor", sum := "ea7f688784b86afb5b728b5bd9cb953c2ff423219efd9a962de76bf512bd6605", func := "heartwood/heartwoodlaw09.ClashStays", spec := "clashStays", unfollowed := true, recurses := true, named := ["heartwood/sha.first", "heartwood/sha.constants"], loops := true, apart := false, laid := [("heartwood/sha.constants", laid_heartwood_sha_constants), ("heartwood/sha.first", laid_heartwood_sha_first)], narrowed := true }
def ClashStaysUptoSaid : Prop := clashStaysUptoRow.holds Tryd.pinned (OpenSpec.upto clashStaysSpec)

/-- 'heartwoodlaw08.CheckBytes', WHERE WHAT IT READS IS OF BULK AT MOST 1048576: true; the input reads as it did. -/
def checkBytesUptoRow : OpenClaim := { program := "ytclfnechcblmoaadoor", sum := "ea7f688784b86afb5b728b5bd9cb953c2ff423219efd9a962de76bf512bd6605", func := "heartwood/heartwoodlaw08.CheckBytes", spec := "checkBytes", inPlace := ["internal/bytealg.Compare"], unfollowed := true, recurses := true, named := ["heartwood/sha.first", "heartwood/sha.constants"], loops := true, apart := false, laid := [("heartwood/sha.constants", laid_heartwood_sha_constants), ("heartwood/sha.first", laid_heartwood_sha_first)], narrowed := true }
def CheckBytesUptoSaid : Prop := checkBytesUptoRow.holds Tryd.pinned (OpenSpec.upto checkBytesSpec)

/-- 'heartwoodlaw07.ProofShows', WHERE WHAT IT READS IS OF BULK AT MOST 1048576: true; the input reads as it did. -/
def proofShowsUptoRow : OpenClaim := { program := "ytclfnechcblmoaadoor", sum := "ea7f688784b86afb5b728b5bd9cb953c2ff423219efd9a962de76bf512bd6605", func := "heartwood/heartwoodlaw07.ProofShows", spec := "proofShows", inPlace := ["internal/bytealg.Compare"], unfollowed := true, recurses := true, named := ["heartwood/sha.first", "heartwood/sha.constants"], loops := true, apart := false, laid := [("heartwood/sha.constants", laid_heartwood_sha_constants), ("heartwood/sha.first", laid_heartwood_sha_first)], narrowed := true }
def ProofShowsUptoSaid : Prop := proofShowsUptoRow.holds Tryd.pinned (OpenSpec.upto proofShowsSpec)

/-- 'heartwoodlaw07.ProofRoots', WHERE WHAT IT READS IS OF BULK AT MOST 1048576: true; the input reads as it did. -/
def proofRootsUptoRow : OpenClaim := { program := "ytclfnechcblmoaadoor", sum := "ea7f688784b86afb5b728b5bd9cb953c2ff423219efd9a962de76bf512bd6605", func := "heartwood/heartwoodlaw07.ProofRoots", spec := "proofRoots", inPlace := ["internal/bytealg.Compare"], unfollowed := true, recurses := true, named := ["heartwood/sha.first", "heartwood/sha.constants"], apart := false, laid := [("heartwood/sha.constants", laid_heartwood_sha_constants), ("heartwood/sha.first", laid_heartwood_sha_first)], narrowed := true }
def ProofRootsUptoSaid : Prop := proofRootsUptoRow.holds Tryd.pinned (OpenSpec.upto proofRootsSpec)

/-- 'heartwoodlaw07.ProofStays', WHERE WHAT IT READS IS OF BULK AT MOST 1048576: true; the input reads as it did. -/
def proofStaysUptoRow : OpenClaim := { program := "ytclfnechcblmoaadoor", sum := "ea7f688784b86afb5b728b5bd9cb953c2ff423219efd9a962de76bf512bd6605", func := "heartwood/heartwoodlaw07.ProofStays", spec := "proofStays", inPlace := ["internal/bytealg.Compare"], unfollowed := true, recurses := true, named := ["heartwood/sha.first", "heartwood/sha.constants"], apart := false, laid := [("heartwood/sha.constants", laid_heartwood_sha_constants), ("heartwood/sha.first", laid_heartwood_sha_first)], narrowed := true }
def ProofStaysUptoSaid : Prop := proofStaysUptoRow.holds Tryd.pinned (OpenSpec.upto proofStaysSpec)

/-- 'heartwoodlaw08.CheckStays', WHERE WHAT IT READS IS OF BULK AT MOST 1048576: true; the input reads as it did. -/
def checkStaysUptoRow : OpenClaim := { program := "ytclfnechcblmoaadoor", sum := "ea7f688784b86afb5b728b5bd9cb953c2ff423219efd9a962de76bf512bd6605", func := "heartwood/heartwoodlaw08.CheckStays", spec := "checkStays", inPlace := ["internal/bytealg.Compare"], unfollowed := true, recurses := true, named := ["heartwood/sha.first", "heartwood/sha.constants"], apart := false, laid := [("heartwood/sha.constants", laid_heartwood_sha_constants), ("heartwood/sha.first", laid_heartwood_sha_first)], narrowed := true }
def CheckStaysUptoSaid : Prop := checkStaysUptoRow.holds Tryd.pinned (OpenSpec.upto checkStaysSpec)

/-- 'heartwoodlaw09.ClashProves', WHERE WHAT IT READS IS OF BULK AT MOST 1048576: true; the input reads as it did. -/
def clashProvesUptoRow : OpenClaim := { program := "ytclfnechcblmoaadoor", sum := "ea7f688784b86afb5b728b5bd9cb953c2ff423219efd9a962de76bf512bd6605", func := "heartwood/heartwoodlaw09.ClashProves", spec := "clashProves", inPlace := ["internal/bytealg.Compare"], unfollowed := true, recurses := true, named := ["heartwood/sha.first", "heartwood/sha.constants"], loops := true, apart := false, laid := [("heartwood/sha.constants", laid_heartwood_sha_constants), ("heartwood/sha.first", laid_heartwood_sha_first)], narrowed := true }
def ClashProvesUptoSaid : Prop := clashProvesUptoRow.holds Tryd.pinned (OpenSpec.upto clashProvesSpec)

/-- 'heartwoodlaw08.CheckHonest', WHERE WHAT IT READS IS OF BULK AT MOST 1048576: true; the input reads as it did. -/
def checkHonestUptoRow : OpenClaim := { program := "ytclfnechcblmoaadoor", sum := "ea7f688784b86afb5b728b5bd9cb953c2ff423219efd9a962de76bf512bd6605", func := "heartwood/heartwoodlaw08.CheckHonest", spec := "checkHonest", inPlace := ["internal/bytealg.Compare"], unfollowed := true, recurses := true, named := ["heartwood/sha.first", "heartwood/sha.constants"], apart := false, laid := [("heartwood/sha.constants", laid_heartwood_sha_constants), ("heartwood/sha.first", laid_heartwood_sha_first)], narrowed := true }
def CheckHonestUptoSaid : Prop := checkHonestUptoRow.holds Tryd.pinned (OpenSpec.upto checkHonestSpec)

end Rows
end Go.Proofs.YtclfnechcblmoaaDoor
