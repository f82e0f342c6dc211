/-
  No cell of these rows narrows 'for every input' (looked for: loops, veiled, ifaces, maps, wideKeys, modest, calm, conditions, laid).
  DERIVED. THE GIVEN ROWS OF THIS SEAT. 6 by the template 'for every input the law returns true; each argument reads behind the call as it read before'; 0 by the template 'total and deterministic' (their statements: YtdihhoglamkfkaaTotals.lean).
  GIVEN WITH THE SEED: the statements are not yours to turn. If you find one false, say at which input.
  Laid BY PROGRAM, IN A SANDBOX (cutbox-rows.mjs): the forced cells as the released guide's own fill.sh prints them over the translation 7d253866e830f52d… (all of the seat's roots in one cut). By AI agents, Wed Nov 11 2026. No macro, syntax, notation, axiom, sorry.
-/
import Derived.Test.YtdihhoglamkfkaaChecked
import GoSem.Claim
import GoSem.ClaimJoined
import GoSem.ClaimMapViews
import Derived.JoinedTies
import Derived.KernelRfl
namespace Go.Proofs.Ytdihhoglamkfkaa
/- THE CELL 'sum', in the pinned program and in every row, IS THE sha256 OF THE DUMP (.gsa) THAT YtdihhoglamkfkaaProg.lean LOADS. Nothing in Lean hashes anything: it is a label: what it is worth is what the hold of that sum in a sandbox is worth. -/
noncomputable def Try.pinned : Pinned := { name := "ytdihhoglamkfkaa", sum := "7d253866e830f52d60a55146ffb93cd70797e0775ac970cbf70273e384e251f0", checked := Try.checked }
namespace Rows
def none {H : Type} : Left H := { results := [], args := [] }

/-- 'heartwoodlaw16.WalScans': WHATEVER THE INPUT: true; the input reads as it did. -/
def walScansSpec : ChangeSpec := { name := "walScans", fn := fun _ => fun
  | [d] => { results := [.lit (.bool true)], args := [d] }
  | _ => none }
def walScansRow : OpenClaim := { program := "ytdihhoglamkfkaa", sum := "7d253866e830f52d60a55146ffb93cd70797e0775ac970cbf70273e384e251f0", func := "heartwood/heartwoodlaw16.WalScans", spec := "walScans", apart := false }
def WalScansSaid : Prop := walScansRow.holds Try.pinned (OpenSpec.ofChange walScansSpec)

/-- ITS FALSE NEIGHBOUR: 'it returns false'. Refute it at one input. -/
def walScansWrong : ChangeSpec := { name := "walScans", fn := fun _ => fun
  | [d] => { results := [.lit (.bool false)], args := [d] }
  | _ => none }
def WalScansWrongFalsely : Prop := walScansRow.holds Try.pinned (OpenSpec.ofChange walScansWrong)

/-- 'heartwoodlaw18.LogMerges': WHATEVER THE INPUT: true; the input reads as it did. -/
def logMergesSpec : ChangeSpec := { name := "logMerges", fn := fun _ => fun
  | [d1, d2, d3] => { results := [.lit (.bool true)], args := [d1, d2, d3] }
  | _ => none }
def logMergesRow : OpenClaim := { program := "ytdihhoglamkfkaa", sum := "7d253866e830f52d60a55146ffb93cd70797e0775ac970cbf70273e384e251f0", func := "heartwood/heartwoodlaw18.LogMerges", spec := "logMerges", apart := false }
def LogMergesSaid : Prop := logMergesRow.holds Try.pinned (OpenSpec.ofChange logMergesSpec)

/-- ITS FALSE NEIGHBOUR: 'it returns false'. Refute it at one input. -/
def logMergesWrong : ChangeSpec := { name := "logMerges", fn := fun _ => fun
  | [d1, d2, d3] => { results := [.lit (.bool false)], args := [d1, d2, d3] }
  | _ => none }
def LogMergesWrongFalsely : Prop := logMergesRow.holds Try.pinned (OpenSpec.ofChange logMergesWrong)

/-- 'heartwoodlaw18.LogAgain': WHATEVER THE INPUT: true; the input reads as it did. -/
def logAgainSpec : ChangeSpec := { name := "logAgain", fn := fun _ => fun
  | [d1, d2, d3] => { results := [.lit (.bool true)], args := [d1, d2, d3] }
  | _ => none }
def logAgainRow : OpenClaim := { program := "ytdihhoglamkfkaa", sum := "7d253866e830f52d60a55146ffb93cd70797e0775ac970cbf70273e384e251f0", func := "heartwood/heartwoodlaw18.LogAgain", spec := "logAgain", apart := false }
def LogAgainSaid : Prop := logAgainRow.holds Try.pinned (OpenSpec.ofChange logAgainSpec)

/-- ITS FALSE NEIGHBOUR: 'it returns false'. Refute it at one input. -/
def logAgainWrong : ChangeSpec := { name := "logAgain", fn := fun _ => fun
  | [d1, d2, d3] => { results := [.lit (.bool false)], args := [d1, d2, d3] }
  | _ => none }
def LogAgainWrongFalsely : Prop := logAgainRow.holds Try.pinned (OpenSpec.ofChange logAgainWrong)

/-- 'heartwoodlaw18.LogCompacts': WHATEVER THE INPUT: true; the input reads as it did. -/
def logCompactsSpec : ChangeSpec := { name := "logCompacts", fn := fun _ => fun
  | [d1, d2] => { results := [.lit (.bool true)], args := [d1, d2] }
  | _ => none }
def logCompactsRow : OpenClaim := { program := "ytdihhoglamkfkaa", sum := "7d253866e830f52d60a55146ffb93cd70797e0775ac970cbf70273e384e251f0", func := "heartwood/heartwoodlaw18.LogCompacts", spec := "logCompacts", apart := false }
def LogCompactsSaid : Prop := logCompactsRow.holds Try.pinned (OpenSpec.ofChange logCompactsSpec)

/-- ITS FALSE NEIGHBOUR: 'it returns false'. Refute it at one input. -/
def logCompactsWrong : ChangeSpec := { name := "logCompacts", fn := fun _ => fun
  | [d1, d2] => { results := [.lit (.bool false)], args := [d1, d2] }
  | _ => none }
def LogCompactsWrongFalsely : Prop := logCompactsRow.holds Try.pinned (OpenSpec.ofChange logCompactsWrong)

/-- 'heartwoodlaw18.LogTells': WHATEVER THE INPUT: true; the input reads as it did. -/
def logTellsSpec : ChangeSpec := { name := "logTells", fn := fun _ => fun
  | [d1, d2, d3] => { results := [.lit (.bool true)], args := [d1, d2, d3] }
  | _ => none }
def logTellsRow : OpenClaim := { program := "ytdihhoglamkfkaa", sum := "7d253866e830f52d60a55146ffb93cd70797e0775ac970cbf70273e384e251f0", func := "heartwood/heartwoodlaw18.LogTells", spec := "logTells", apart := false }
def LogTellsSaid : Prop := logTellsRow.holds Try.pinned (OpenSpec.ofChange logTellsSpec)

/-- ITS FALSE NEIGHBOUR: 'it returns false'. Refute it at one input. -/
def logTellsWrong : ChangeSpec := { name := "logTells", fn := fun _ => fun
  | [d1, d2, d3] => { results := [.lit (.bool false)], args := [d1, d2, d3] }
  | _ => none }
def LogTellsWrongFalsely : Prop := logTellsRow.holds Try.pinned (OpenSpec.ofChange logTellsWrong)

/-- 'heartwoodlaw18.LogKeeps': WHATEVER THE INPUT: true; the input reads as it did. -/
def logKeepsSpec : ChangeSpec := { name := "logKeeps", fn := fun _ => fun
  | [d1, d2] => { results := [.lit (.bool true)], args := [d1, d2] }
  | _ => none }
def logKeepsRow : OpenClaim := { program := "ytdihhoglamkfkaa", sum := "7d253866e830f52d60a55146ffb93cd70797e0775ac970cbf70273e384e251f0", func := "heartwood/heartwoodlaw18.LogKeeps", spec := "logKeeps", apart := false }
def LogKeepsSaid : Prop := logKeepsRow.holds Try.pinned (OpenSpec.ofChange logKeepsSpec)

/-- ITS FALSE NEIGHBOUR: 'it returns false'. Refute it at one input. -/
def logKeepsWrong : ChangeSpec := { name := "logKeeps", fn := fun _ => fun
  | [d1, d2] => { results := [.lit (.bool false)], args := [d1, d2] }
  | _ => none }
def LogKeepsWrongFalsely : Prop := logKeepsRow.holds Try.pinned (OpenSpec.ofChange logKeepsWrong)

/- THE SECOND FORM. 'bulk': how many values and letters a reading holds, each counted each time it is reached (what is shared counts as often as it is met; a slice's spare places count too). A statement '..UptoSaid' is the law's where the arguments, and the package variables that the reading takes, are together of bulk at most 1048576: NARROWER than '..Said'. Prove '..Said' where nothing that the law and all that it calls make is longer than what came in: it says more and counts as full. Else prove '..UptoSaid'. A law counts once. -/
mutual
def uptoBulk {H : Type} : DataW H → Nat
  | .lit (.string bytes) => bytes.length + 1
  | .lit _ => 1
  | .nil => 1
  | .ptr d => uptoBulk d + 1
  | .slice elems spare => uptoBulkAll elems + uptoBulkAll spare + 1
  | .agg parts => uptoBulkAll parts + 1
  | .iface _ d => uptoBulk d + 1
  | .map entries => uptoBulkEntries entries + 1
  | .held _ => 1
def uptoBulkAll {H : Type} : List (DataW H) → Nat
  | [] => 0
  | d :: r => uptoBulk d + uptoBulkAll r
def uptoBulkEntries {H : Type} : List (Lit × DataW H) → Nat
  | [] => 0
  | x :: r => uptoBulkEntry x + uptoBulkEntries r
def uptoBulkEntry {H : Type} : Lit × DataW H → Nat
  | (.string bytes, d) => bytes.length + uptoBulk d + 1
  | (_, d) => uptoBulk d + 1
 end
def uptoSmall : (H : Type) → List (DataW H) → Bool := fun _ ds => decide (uptoBulkAll ds ≤ 1048576)
def OpenSpec.upto (s : _root_.Go.ChangeSpec) : _root_.Go.OpenSpec := { _root_.Go.OpenSpec.ofChange s with cond := some uptoSmall }

/-- 'heartwoodlaw16.WalScans', WHERE WHAT IT READS IS OF BULK AT MOST 1048576: true; the input reads as it did. -/
def walScansUptoRow : OpenClaim := { program := "ytdihhoglamkfkaa", sum := "7d253866e830f52d60a55146ffb93cd70797e0775ac970cbf70273e384e251f0", func := "heartwood/heartwoodlaw16.WalScans", spec := "walScans", apart := false, narrowed := true }
def WalScansUptoSaid : Prop := walScansUptoRow.holds Try.pinned (OpenSpec.upto walScansSpec)

/-- 'heartwoodlaw18.LogMerges', WHERE WHAT IT READS IS OF BULK AT MOST 1048576: true; the input reads as it did. -/
def logMergesUptoRow : OpenClaim := { program := "ytdihhoglamkfkaa", sum := "7d253866e830f52d60a55146ffb93cd70797e0775ac970cbf70273e384e251f0", func := "heartwood/heartwoodlaw18.LogMerges", spec := "logMerges", apart := false, narrowed := true }
def LogMergesUptoSaid : Prop := logMergesUptoRow.holds Try.pinned (OpenSpec.upto logMergesSpec)

/-- 'heartwoodlaw18.LogAgain', WHERE WHAT IT READS IS OF BULK AT MOST 1048576: true; the input reads as it did. -/
def logAgainUptoRow : OpenClaim := { program := "ytdihhoglamkfkaa", sum := "7d253866e830f52d60a55146ffb93cd70797e0775ac970cbf70273e384e251f0", func := "heartwood/heartwoodlaw18.LogAgain", spec := "logAgain", apart := false, narrowed := true }
def LogAgainUptoSaid : Prop := logAgainUptoRow.holds Try.pinned (OpenSpec.upto logAgainSpec)

/-- 'heartwoodlaw18.LogCompacts', WHERE WHAT IT READS IS OF BULK AT MOST 1048576: true; the input reads as it did. -/
def logCompactsUptoRow : OpenClaim := { program := "ytdihhoglamkfkaa", sum := "7d253866e830f52d60a55146ffb93cd70797e0775ac970cbf70273e384e251f0", func := "heartwood/heartwoodlaw18.LogCompacts", spec := "logCompacts", apart := false, narrowed := true }
def LogCompactsUptoSaid : Prop := logCompactsUptoRow.holds Try.pinned (OpenSpec.upto logCompactsSpec)

/-- 'heartwoodlaw18.LogTells', WHERE WHAT IT READS IS OF BULK AT MOST 1048576: true; the input reads as it did. -/
def logTellsUptoRow : OpenClaim := { program := "ytdihhoglamkfkaa", sum := "7d253866e830f52d60a55146ffb93cd70797e0775ac970cbf70273e384e251f0", func := "heartwood/heartwoodlaw18.LogTells", spec := "logTells", apart := false, narrowed := true }
def LogTellsUptoSaid : Prop := logTellsUptoRow.holds Try.pinned (OpenSpec.upto logTellsSpec)

/-- 'heartwoodlaw18.LogKeeps', WHERE WHAT IT READS IS OF BULK AT MOST 1048576: true; the input reads as it did. -/
def logKeepsUptoRow : OpenClaim := { program := "ytdihhoglamkfkaa", sum := "7d253866e830f52d60a55146ffb93cd70797e0775ac970cbf70273e384e251f0", func := "heartwood/heartwoodlaw18.LogKeeps", spec := "logKeeps", apart := false, narrowed := true }
def LogKeepsUptoSaid : Prop := logKeepsUptoRow.holds Try.pinned (OpenSpec.upto logKeepsSpec)

end Rows
end Go.Proofs.Ytdihhoglamkfkaa
