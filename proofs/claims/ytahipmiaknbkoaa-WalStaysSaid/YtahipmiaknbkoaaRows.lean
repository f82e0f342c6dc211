/-
  No cell of these rows narrows 'for every input' (looked for: loops, veiled, ifaces, maps, wideKeys, modest, calm, conditions, laid).
  DERIVED. THE GIVEN ROWS OF THIS SEAT. 7 by the template 'for every input the law returns true; each argument reads behind the call as it read before'; 0 by the template 'total and deterministic' (their statements: YtahipmiaknbkoaaTotals.lean).
  GIVEN WITH THE SEED: the statements are not yours to turn. If you find one false, say at which input.
  Laid BY PROGRAM, IN A SANDBOX (cutbox-rows.mjs): the forced cells as the released guide's own fill.sh prints them over the translation cb34875397a09857… (all of the seat's roots in one cut). By AI agents, Wed Nov 11 2026. No macro, syntax, notation, axiom, sorry.
-/
import Derived.Test.YtahipmiaknbkoaaChecked
import GoSem.Claim
import GoSem.ClaimJoined
import GoSem.ClaimMapViews
import Derived.JoinedTies
import Derived.KernelRfl
namespace Go.Proofs.Ytahipmiaknbkoaa
/- THE CELL 'sum', in the pinned program and in every row, IS THE sha256 OF THE DUMP (.gsa) THAT YtahipmiaknbkoaaProg.lean LOADS. Nothing in Lean hashes anything: it is a label: what it is worth is what the hold of that sum in a sandbox is worth. -/
noncomputable def Try.pinned : Pinned := { name := "ytahipmiaknbkoaa", sum := "cb34875397a09857884e241e2d9c714d3f04179a4c94d615de3cd284a792d76c", checked := Try.checked }
namespace Rows
def none {H : Type} : Left H := { results := [], args := [] }

/-- 'heartwoodlaw15.DiskStays': WHATEVER THE INPUT: true; the input reads as it did. -/
def diskStaysSpec : ChangeSpec := { name := "diskStays", fn := fun _ => fun
  | [d] => { results := [.lit (.bool true)], args := [d] }
  | _ => none }
def diskStaysRow : OpenClaim := { program := "ytahipmiaknbkoaa", sum := "cb34875397a09857884e241e2d9c714d3f04179a4c94d615de3cd284a792d76c", func := "heartwood/heartwoodlaw15.DiskStays", spec := "diskStays", unfollowed := true, recurses := true, apart := false }
def DiskStaysSaid : Prop := diskStaysRow.holds Try.pinned (OpenSpec.ofChange diskStaysSpec)

/-- ITS FALSE NEIGHBOUR: 'it returns false'. Refute it at one input. -/
def diskStaysWrong : ChangeSpec := { name := "diskStays", fn := fun _ => fun
  | [d] => { results := [.lit (.bool false)], args := [d] }
  | _ => none }
def DiskStaysWrongFalsely : Prop := diskStaysRow.holds Try.pinned (OpenSpec.ofChange diskStaysWrong)

/-- 'heartwoodlaw15.DiskKeeps': WHATEVER THE INPUT: true; the input reads as it did. -/
def diskKeepsSpec : ChangeSpec := { name := "diskKeeps", fn := fun _ => fun
  | [d1, d2, d3, d4] => { results := [.lit (.bool true)], args := [d1, d2, d3, d4] }
  | _ => none }
def diskKeepsRow : OpenClaim := { program := "ytahipmiaknbkoaa", sum := "cb34875397a09857884e241e2d9c714d3f04179a4c94d615de3cd284a792d76c", func := "heartwood/heartwoodlaw15.DiskKeeps", spec := "diskKeeps", unfollowed := true, recurses := true, apart := false }
def DiskKeepsSaid : Prop := diskKeepsRow.holds Try.pinned (OpenSpec.ofChange diskKeepsSpec)

/-- ITS FALSE NEIGHBOUR: 'it returns false'. Refute it at one input. -/
def diskKeepsWrong : ChangeSpec := { name := "diskKeeps", fn := fun _ => fun
  | [d1, d2, d3, d4] => { results := [.lit (.bool false)], args := [d1, d2, d3, d4] }
  | _ => none }
def DiskKeepsWrongFalsely : Prop := diskKeepsRow.holds Try.pinned (OpenSpec.ofChange diskKeepsWrong)

/-- 'heartwoodlaw16.WalLong': WHATEVER THE INPUT: true; the input reads as it did. -/
def walLongSpec : ChangeSpec := { name := "walLong", fn := fun _ => fun
  | [d] => { results := [.lit (.bool true)], args := [d] }
  | _ => none }
def walLongRow : OpenClaim := { program := "ytahipmiaknbkoaa", sum := "cb34875397a09857884e241e2d9c714d3f04179a4c94d615de3cd284a792d76c", func := "heartwood/heartwoodlaw16.WalLong", spec := "walLong", inPlace := ["internal/reflectlite.TypeOf"], unfollowed := true, recurses := true, apart := false }
def WalLongSaid : Prop := walLongRow.holds Try.pinned (OpenSpec.ofChange walLongSpec)

/-- ITS FALSE NEIGHBOUR: 'it returns false'. Refute it at one input. -/
def walLongWrong : ChangeSpec := { name := "walLong", fn := fun _ => fun
  | [d] => { results := [.lit (.bool false)], args := [d] }
  | _ => none }
def WalLongWrongFalsely : Prop := walLongRow.holds Try.pinned (OpenSpec.ofChange walLongWrong)

/-- 'heartwoodlaw16.WalFull': WHATEVER THE INPUT: true; the input reads as it did. -/
def walFullSpec : ChangeSpec := { name := "walFull", fn := fun _ => fun
  | [d1, d2, d3, d4] => { results := [.lit (.bool true)], args := [d1, d2, d3, d4] }
  | _ => none }
def walFullRow : OpenClaim := { program := "ytahipmiaknbkoaa", sum := "cb34875397a09857884e241e2d9c714d3f04179a4c94d615de3cd284a792d76c", func := "heartwood/heartwoodlaw16.WalFull", spec := "walFull", inPlace := ["internal/reflectlite.TypeOf"], unfollowed := true, recurses := true, apart := false }
def WalFullSaid : Prop := walFullRow.holds Try.pinned (OpenSpec.ofChange walFullSpec)

/-- ITS FALSE NEIGHBOUR: 'it returns false'. Refute it at one input. -/
def walFullWrong : ChangeSpec := { name := "walFull", fn := fun _ => fun
  | [d1, d2, d3, d4] => { results := [.lit (.bool false)], args := [d1, d2, d3, d4] }
  | _ => none }
def WalFullWrongFalsely : Prop := walFullRow.holds Try.pinned (OpenSpec.ofChange walFullWrong)

/-- 'heartwoodlaw16.WalStays': WHATEVER THE INPUT: true; the input reads as it did. -/
def walStaysSpec : ChangeSpec := { name := "walStays", fn := fun _ => fun
  | [d1, d2] => { results := [.lit (.bool true)], args := [d1, d2] }
  | _ => none }
def walStaysRow : OpenClaim := { program := "ytahipmiaknbkoaa", sum := "cb34875397a09857884e241e2d9c714d3f04179a4c94d615de3cd284a792d76c", func := "heartwood/heartwoodlaw16.WalStays", spec := "walStays", inPlace := ["internal/reflectlite.TypeOf"], unfollowed := true, recurses := true, apart := false }
def WalStaysSaid : Prop := walStaysRow.holds Try.pinned (OpenSpec.ofChange walStaysSpec)

/-- ITS FALSE NEIGHBOUR: 'it returns false'. Refute it at one input. -/
def walStaysWrong : ChangeSpec := { name := "walStays", fn := fun _ => fun
  | [d1, d2] => { results := [.lit (.bool false)], args := [d1, d2] }
  | _ => none }
def WalStaysWrongFalsely : Prop := walStaysRow.holds Try.pinned (OpenSpec.ofChange walStaysWrong)

/-- 'heartwoodlaw16.WalLasts': WHATEVER THE INPUT: true; the input reads as it did. -/
def walLastsSpec : ChangeSpec := { name := "walLasts", fn := fun _ => fun
  | [d1, d2, d3, d4] => { results := [.lit (.bool true)], args := [d1, d2, d3, d4] }
  | _ => none }
def walLastsRow : OpenClaim := { program := "ytahipmiaknbkoaa", sum := "cb34875397a09857884e241e2d9c714d3f04179a4c94d615de3cd284a792d76c", func := "heartwood/heartwoodlaw16.WalLasts", spec := "walLasts", inPlace := ["internal/reflectlite.TypeOf"], unfollowed := true, recurses := true, apart := false }
def WalLastsSaid : Prop := walLastsRow.holds Try.pinned (OpenSpec.ofChange walLastsSpec)

/-- ITS FALSE NEIGHBOUR: 'it returns false'. Refute it at one input. -/
def walLastsWrong : ChangeSpec := { name := "walLasts", fn := fun _ => fun
  | [d1, d2, d3, d4] => { results := [.lit (.bool false)], args := [d1, d2, d3, d4] }
  | _ => none }
def WalLastsWrongFalsely : Prop := walLastsRow.holds Try.pinned (OpenSpec.ofChange walLastsWrong)

/-- 'heartwoodlaw16.WalEither': WHATEVER THE INPUT: true; the input reads as it did. -/
def walEitherSpec : ChangeSpec := { name := "walEither", fn := fun _ => fun
  | [d1, d2, d3, d4] => { results := [.lit (.bool true)], args := [d1, d2, d3, d4] }
  | _ => none }
def walEitherRow : OpenClaim := { program := "ytahipmiaknbkoaa", sum := "cb34875397a09857884e241e2d9c714d3f04179a4c94d615de3cd284a792d76c", func := "heartwood/heartwoodlaw16.WalEither", spec := "walEither", inPlace := ["internal/reflectlite.TypeOf"], unfollowed := true, recurses := true, apart := false }
def WalEitherSaid : Prop := walEitherRow.holds Try.pinned (OpenSpec.ofChange walEitherSpec)

/-- ITS FALSE NEIGHBOUR: 'it returns false'. Refute it at one input. -/
def walEitherWrong : ChangeSpec := { name := "walEither", fn := fun _ => fun
  | [d1, d2, d3, d4] => { results := [.lit (.bool false)], args := [d1, d2, d3, d4] }
  | _ => none }
def WalEitherWrongFalsely : Prop := walEitherRow.holds Try.pinned (OpenSpec.ofChange walEitherWrong)

/- THE SECOND FORM. 'bulk': how many values and letters a reading holds, each counted each time it is reached (what is shared counts as often as it is met; a slice's spare places count too). A statement '..UptoSaid' is the law's where the arguments, and the package variables that the reading takes, are together of bulk at most 1048576: NARROWER than '..Said'. Prove '..Said' where nothing that the law and all that it calls make is longer than what came in: it says more and counts as full. Else prove '..UptoSaid'. A law counts once. -/
mutual
def uptoBulk {H : Type} : DataW H → Nat
  | .lit (.string bytes) => bytes.length + 1
  | .lit _ => 1
  | .nil => 1
  | .ptr d => uptoBulk d + 1
  | .slice elems spare => uptoBulkAll elems + uptoBulkAll spare + 1
  | .agg parts => uptoBulkAll parts + 1
  | .iface _ d => uptoBulk d + 1
  | .map entries => uptoBulkEntries entries + 1
  | .held _ => 1
def uptoBulkAll {H : Type} : List (DataW H) → Nat
  | [] => 0
  | d :: r => uptoBulk d + uptoBulkAll r
def uptoBulkEntries {H : Type} : List (Lit × DataW H) → Nat
  | [] => 0
  | x :: r => uptoBulkEntry x + uptoBulkEntries r
def uptoBulkEntry {H : Type} : Lit × DataW H → Nat
  | (.string bytes, d) => bytes.length + uptoBulk d + 1
  | (_, d) => uptoBulk d + 1
 end
def uptoSmall : (H : Type) → List (DataW H) → Bool := fun _ ds => decide (uptoBulkAll ds ≤ 1048576)
def OpenSpec.upto (s : _root_.Go.ChangeSpec) : _root_.Go.OpenSpec := { _root_.Go.OpenSpec.ofChange s with cond := some uptoSmall }

/-- 'heartwoodlaw15.DiskStays', WHERE WHAT IT READS IS OF BULK AT MOST 1048576: true; the input reads as it did. -/
def diskStaysUptoRow : OpenClaim := { program := "ytahipmiaknbkoaa", sum := "cb34875397a09857884e241e2d9c714d3f04179a4c94d615de3cd284a792d76c", func := "heartwood/heartwoodlaw15.DiskStays", spec := "diskStays", unfollowed := true, recurses := true, apart := false, narrowed := true }
def DiskStaysUptoSaid : Prop := diskStaysUptoRow.holds Try.pinned (OpenSpec.upto diskStaysSpec)

/-- 'heartwoodlaw15.DiskKeeps', WHERE WHAT IT READS IS OF BULK AT MOST 1048576: true; the input reads as it did. -/
def diskKeepsUptoRow : OpenClaim := { program := "ytahipmiaknbkoaa", sum := "cb34875397a09857884e241e2d9c714d3f04179a4c94d615de3cd284a792d76c", func := "heartwood/heartwoodlaw15.DiskKeeps", spec := "diskKeeps", unfollowed := true, recurses := true, apart := false, narrowed := true }
def DiskKeepsUptoSaid : Prop := diskKeepsUptoRow.holds Try.pinned (OpenSpec.upto diskKeepsSpec)

/-- 'heartwoodlaw16.WalLong', WHERE WHAT IT READS IS OF BULK AT MOST 1048576: true; the input reads as it did. -/
def walLongUptoRow : OpenClaim := { program := "ytahipmiaknbkoaa", sum := "cb34875397a09857884e241e2d9c714d3f04179a4c94d615de3cd284a792d76c", func := "heartwood/heartwoodlaw16.WalLong", spec := "walLong", inPlace := ["internal/reflectlite.TypeOf"], unfollowed := true, recurses := true, apart := false, narrowed := true }
def WalLongUptoSaid : Prop := walLongUptoRow.holds Try.pinned (OpenSpec.upto walLongSpec)

/-- 'heartwoodlaw16.WalFull', WHERE WHAT IT READS IS OF BULK AT MOST 1048576: true; the input reads as it did. -/
def walFullUptoRow : OpenClaim := { program := "ytahipmiaknbkoaa", sum := "cb34875397a09857884e241e2d9c714d3f04179a4c94d615de3cd284a792d76c", func := "heartwood/heartwoodlaw16.WalFull", spec := "walFull", inPlace := ["internal/reflectlite.TypeOf"], unfollowed := true, recurses := true, apart := false, narrowed := true }
def WalFullUptoSaid : Prop := walFullUptoRow.holds Try.pinned (OpenSpec.upto walFullSpec)

/-- 'heartwoodlaw16.WalStays', WHERE WHAT IT READS IS OF BULK AT MOST 1048576: true; the input reads as it did. -/
def walStaysUptoRow : OpenClaim := { program := "ytahipmiaknbkoaa", sum := "cb34875397a09857884e241e2d9c714d3f04179a4c94d615de3cd284a792d76c", func := "heartwood/heartwoodlaw16.WalStays", spec := "walStays", inPlace := ["internal/reflectlite.TypeOf"], unfollowed := true, recurses := true, apart := false, narrowed := true }
def WalStaysUptoSaid : Prop := walStaysUptoRow.holds Try.pinned (OpenSpec.upto walStaysSpec)

/-- 'heartwoodlaw16.WalLasts', WHERE WHAT IT READS IS OF BULK AT MOST 1048576: true; the input reads as it did. -/
def walLastsUptoRow : OpenClaim := { program := "ytahipmiaknbkoaa", sum := "cb34875397a09857884e241e2d9c714d3f04179a4c94d615de3cd284a792d76c", func := "heartwood/heartwoodlaw16.WalLasts", spec := "walLasts", inPlace := ["internal/reflectlite.TypeOf"], unfollowed := true, recurses := true, apart := false, narrowed := true }
def WalLastsUptoSaid : Prop := walLastsUptoRow.holds Try.pinned (OpenSpec.upto walLastsSpec)

/-- 'heartwoodlaw16.WalEither', WHERE WHAT IT READS IS OF BULK AT MOST 1048576: true; the input reads as it did. -/
def walEitherUptoRow : OpenClaim := { program := "ytahipmiaknbkoaa", sum := "cb34875397a09857884e241e2d9c714d3f04179a4c94d615de3cd284a792d76c", func := "heartwood/heartwoodlaw16.WalEither", spec := "walEither", inPlace := ["internal/reflectlite.TypeOf"], unfollowed := true, recurses := true, apart := false, narrowed := true }
def WalEitherUptoSaid : Prop := walEitherUptoRow.holds Try.pinned (OpenSpec.upto walEitherSpec)

end Rows
end Go.Proofs.Ytahipmiaknbkoaa
