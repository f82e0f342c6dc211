/-
  NARROWER THAN 'FOR EVERY INPUT', by the rows' own cells (each row's printed sentence says how): RaftSound: loops · RaftStays: loops.
  DERIVED. THE GIVEN ROWS OF THIS SEAT. 5 by the template 'for every input the law returns true; each argument reads behind the call as it read before'; 0 by the template 'total and deterministic' (their statements: YtndkpoacbheemaaTotals.lean).
  GIVEN WITH THE SEED: the statements are not yours to turn. If you find one false, say at which input.
  Laid BY PROGRAM, IN A SANDBOX (cutbox-rows.mjs): the forced cells as the released guide's own fill.sh prints them over the translation 7a905bcb1ec640e6… (all of the seat's roots in one cut). By AI agents, Wed Nov 11 2026. No macro, syntax, notation, axiom, sorry.
-/
import Derived.Test.YtndkpoacbheemaaChecked
import GoSem.Claim
import GoSem.ClaimJoined
import GoSem.ClaimMapViews
import Derived.JoinedTies
import Derived.KernelRfl
namespace Go.Proofs.Ytndkpoacbheemaa
/- THE CELL 'sum', in the pinned program and in every row, IS THE sha256 OF THE DUMP (.gsa) THAT YtndkpoacbheemaaProg.lean LOADS. Nothing in Lean hashes anything: it is a label: what it is worth is what the hold of that sum in a sandbox is worth. -/
noncomputable def Try.pinned : Pinned := { name := "ytndkpoacbheemaa", sum := "7a905bcb1ec640e6631899199f7a25456628e670f5d96bdfb5e53cedb07e6975", checked := Try.checked }
namespace Rows
def none {H : Type} : Left H := { results := [], args := [] }

/-- 'heartwoodlaw19.RaftNew': WHATEVER THE INPUT: true; the input reads as it did. -/
def raftNewSpec : ChangeSpec := { name := "raftNew", fn := fun _ => fun
  | [d1, d2, d3, d4, d5] => { results := [.lit (.bool true)], args := [d1, d2, d3, d4, d5] }
  | _ => none }
def raftNewRow : OpenClaim := { program := "ytndkpoacbheemaa", sum := "7a905bcb1ec640e6631899199f7a25456628e670f5d96bdfb5e53cedb07e6975", func := "heartwood/heartwoodlaw19.RaftNew", spec := "raftNew", unfollowed := true, recurses := true, apart := false }
def RaftNewSaid : Prop := raftNewRow.holds Try.pinned (OpenSpec.ofChange raftNewSpec)

/-- ITS FALSE NEIGHBOUR: 'it returns false'. Refute it at one input. -/
def raftNewWrong : ChangeSpec := { name := "raftNew", fn := fun _ => fun
  | [d1, d2, d3, d4, d5] => { results := [.lit (.bool false)], args := [d1, d2, d3, d4, d5] }
  | _ => none }
def RaftNewWrongFalsely : Prop := raftNewRow.holds Try.pinned (OpenSpec.ofChange raftNewWrong)

/-- 'heartwoodlaw19.RaftSound': WHATEVER THE INPUT: true; the input reads as it did. -/
def raftSoundSpec : ChangeSpec := { name := "raftSound", fn := fun _ => fun
  | [d1, d2] => { results := [.lit (.bool true)], args := [d1, d2] }
  | _ => none }
def raftSoundRow : OpenClaim := { program := "ytndkpoacbheemaa", sum := "7a905bcb1ec640e6631899199f7a25456628e670f5d96bdfb5e53cedb07e6975", func := "heartwood/heartwoodlaw19.RaftSound", spec := "raftSound", unfollowed := true, recurses := true, loops := true, apart := false }
def RaftSoundSaid : Prop := raftSoundRow.holds Try.pinned (OpenSpec.ofChange raftSoundSpec)

/-- ITS FALSE NEIGHBOUR: 'it returns false'. Refute it at one input. -/
def raftSoundWrong : ChangeSpec := { name := "raftSound", fn := fun _ => fun
  | [d1, d2] => { results := [.lit (.bool false)], args := [d1, d2] }
  | _ => none }
def RaftSoundWrongFalsely : Prop := raftSoundRow.holds Try.pinned (OpenSpec.ofChange raftSoundWrong)

/-- 'heartwoodlaw19.RaftStays': WHATEVER THE INPUT: true; the input reads as it did. -/
def raftStaysSpec : ChangeSpec := { name := "raftStays", fn := fun _ => fun
  | [d1, d2] => { results := [.lit (.bool true)], args := [d1, d2] }
  | _ => none }
def raftStaysRow : OpenClaim := { program := "ytndkpoacbheemaa", sum := "7a905bcb1ec640e6631899199f7a25456628e670f5d96bdfb5e53cedb07e6975", func := "heartwood/heartwoodlaw19.RaftStays", spec := "raftStays", unfollowed := true, recurses := true, loops := true, apart := false }
def RaftStaysSaid : Prop := raftStaysRow.holds Try.pinned (OpenSpec.ofChange raftStaysSpec)

/-- ITS FALSE NEIGHBOUR: 'it returns false'. Refute it at one input. -/
def raftStaysWrong : ChangeSpec := { name := "raftStays", fn := fun _ => fun
  | [d1, d2] => { results := [.lit (.bool false)], args := [d1, d2] }
  | _ => none }
def RaftStaysWrongFalsely : Prop := raftStaysRow.holds Try.pinned (OpenSpec.ofChange raftStaysWrong)

/-- 'heartwoodlaw19.RaftSafe': WHATEVER THE INPUT: true; the input reads as it did. -/
def raftSafeSpec : ChangeSpec := { name := "raftSafe", fn := fun _ => fun
  | [d1, d2, d3] => { results := [.lit (.bool true)], args := [d1, d2, d3] }
  | _ => none }
def raftSafeRow : OpenClaim := { program := "ytndkpoacbheemaa", sum := "7a905bcb1ec640e6631899199f7a25456628e670f5d96bdfb5e53cedb07e6975", func := "heartwood/heartwoodlaw19.RaftSafe", spec := "raftSafe", unfollowed := true, recurses := true, apart := false }
def RaftSafeSaid : Prop := raftSafeRow.holds Try.pinned (OpenSpec.ofChange raftSafeSpec)

/-- ITS FALSE NEIGHBOUR: 'it returns false'. Refute it at one input. -/
def raftSafeWrong : ChangeSpec := { name := "raftSafe", fn := fun _ => fun
  | [d1, d2, d3] => { results := [.lit (.bool false)], args := [d1, d2, d3] }
  | _ => none }
def RaftSafeWrongFalsely : Prop := raftSafeRow.holds Try.pinned (OpenSpec.ofChange raftSafeWrong)

/-- 'heartwoodlaw19.RaftLives': WHATEVER THE INPUT: true; the input reads as it did. -/
def raftLivesSpec : ChangeSpec := { name := "raftLives", fn := fun _ => fun
  | [d1, d2] => { results := [.lit (.bool true)], args := [d1, d2] }
  | _ => none }
def raftLivesRow : OpenClaim := { program := "ytndkpoacbheemaa", sum := "7a905bcb1ec640e6631899199f7a25456628e670f5d96bdfb5e53cedb07e6975", func := "heartwood/heartwoodlaw19.RaftLives", spec := "raftLives", unfollowed := true, recurses := true, apart := false }
def RaftLivesSaid : Prop := raftLivesRow.holds Try.pinned (OpenSpec.ofChange raftLivesSpec)

/-- ITS FALSE NEIGHBOUR: 'it returns false'. Refute it at one input. -/
def raftLivesWrong : ChangeSpec := { name := "raftLives", fn := fun _ => fun
  | [d1, d2] => { results := [.lit (.bool false)], args := [d1, d2] }
  | _ => none }
def RaftLivesWrongFalsely : Prop := raftLivesRow.holds Try.pinned (OpenSpec.ofChange raftLivesWrong)

/- THE SECOND FORM. 'bulk': how many values and letters a reading holds, each counted each time it is reached (what is shared counts as often as it is met; a slice's spare places count too). A statement '..UptoSaid' is the law's where the arguments, and the package variables that the reading takes, are together of bulk at most 1048576: NARROWER than '..Said'. Prove '..Said' where nothing that the law and all that it calls make is longer than what came in: it says more and counts as full. Else prove '..UptoSaid'. A law counts once. -/
mutual
def uptoBulk {H : Type} : DataW H → Nat
  | .lit (.string bytes) => bytes.length + 1
  | .lit _ => 1
  | .nil => 1
  | .ptr d => uptoBulk d + 1
  | .slice elems spare => uptoBulkAll elems + uptoBulkAll spare + 1
  | .agg parts => uptoBulkAll parts + 1
  | .iface _ d => uptoBulk d + 1
  | .map entries => uptoBulkEntries entries + 1
  | .held _ => 1
def uptoBulkAll {H : Type} : List (DataW H) → Nat
  | [] => 0
  | d :: r => uptoBulk d + uptoBulkAll r
def uptoBulkEntries {H : Type} : List (Lit × DataW H) → Nat
  | [] => 0
  | x :: r => uptoBulkEntry x + uptoBulkEntries r
def uptoBulkEntry {H : Type} : Lit × DataW H → Nat
  | (.string bytes, d) => bytes.length + uptoBulk d + 1
  | (_, d) => uptoBulk d + 1
 end
def uptoSmall : (H : Type) → List (DataW H) → Bool := fun _ ds => decide (uptoBulkAll ds ≤ 1048576)
def OpenSpec.upto (s : _root_.Go.ChangeSpec) : _root_.Go.OpenSpec := { _root_.Go.OpenSpec.ofChange s with cond := some uptoSmall }

/-- 'heartwoodlaw19.RaftNew', WHERE WHAT IT READS IS OF BULK AT MOST 1048576: true; the input reads as it did. -/
def raftNewUptoRow : OpenClaim := { program := "ytndkpoacbheemaa", sum := "7a905bcb1ec640e6631899199f7a25456628e670f5d96bdfb5e53cedb07e6975", func := "heartwood/heartwoodlaw19.RaftNew", spec := "raftNew", unfollowed := true, recurses := true, apart := false, narrowed := true }
def RaftNewUptoSaid : Prop := raftNewUptoRow.holds Try.pinned (OpenSpec.upto raftNewSpec)

/-- 'heartwoodlaw19.RaftSound', WHERE WHAT IT READS IS OF BULK AT MOST 1048576: true; the input reads as it did. -/
def raftSoundUptoRow : OpenClaim := { program := "ytndkpoacbheemaa", sum := "7a905bcb1ec640e6631899199f7a25456628e670f5d96bdfb5e53cedb07e6975", func := "heartwood/heartwoodlaw19.RaftSound", spec := "raftSound", unfollowed := true, recurses := true, loops := true, apart := false, narrowed := true }
def RaftSoundUptoSaid : Prop := raftSoundUptoRow.holds Try.pinned (OpenSpec.upto raftSoundSpec)

/-- 'heartwoodlaw19.RaftStays', WHERE WHAT IT READS IS OF BULK AT MOST 1048576: true; the input reads as it did. -/
def raftStaysUptoRow : OpenClaim := { program := "ytndkpoacbheemaa", sum := "7a905bcb1ec640e6631899199f7a25456628e670f5d96bdfb5e53cedb07e6975", func := "heartwood/heartwoodlaw19.RaftStays", spec := "raftStays", unfollowed := true, recurses := true, loops := true, apart := false, narrowed := true }
def RaftStaysUptoSaid : Prop := raftStaysUptoRow.holds Try.pinned (OpenSpec.upto raftStaysSpec)

/-- 'heartwoodlaw19.RaftSafe', WHERE WHAT IT READS IS OF BULK AT MOST 1048576: true; the input reads as it did. -/
def raftSafeUptoRow : OpenClaim := { program := "ytndkpoacbheemaa", sum := "7a905bcb1ec640e6631899199f7a25456628e670f5d96bdfb5e53cedb07e6975", func := "heartwood/heartwoodlaw19.RaftSafe", spec := "raftSafe", unfollowed := true, recurses := true, apart := false, narrowed := true }
def RaftSafeUptoSaid : Prop := raftSafeUptoRow.holds Try.pinned (OpenSpec.upto raftSafeSpec)

/-- 'heartwoodlaw19.RaftLives', WHERE WHAT IT READS IS OF BULK AT MOST 1048576: true; the input reads as it did. -/
def raftLivesUptoRow : OpenClaim := { program := "ytndkpoacbheemaa", sum := "7a905bcb1ec640e6631899199f7a25456628e670f5d96bdfb5e53cedb07e6975", func := "heartwood/heartwoodlaw19.RaftLives", spec := "raftLives", unfollowed := true, recurses := true, apart := false, narrowed := true }
def RaftLivesUptoSaid : Prop := raftLivesUptoRow.holds Try.pinned (OpenSpec.upto raftLivesSpec)

end Rows
end Go.Proofs.Ytndkpoacbheemaa
