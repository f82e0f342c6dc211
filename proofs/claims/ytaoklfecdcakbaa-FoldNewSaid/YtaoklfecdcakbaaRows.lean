/-
  NARROWER THAN 'FOR EVERY INPUT', by the rows' own cells (each row's printed sentence says how): CommandApplies: loops · CommandLooks: loops · FoldNew: loops.
  DERIVED. THE GIVEN ROWS OF THIS SEAT. 7 by the template 'for every input the law returns true; each argument reads behind the call as it read before'; 0 by the template 'total and deterministic' (their statements: YtaoklfecdcakbaaTotals.lean).
  GIVEN WITH THE SEED: the statements are not yours to turn. If you find one false, say at which input.
  Laid BY PROGRAM, IN A SANDBOX (cutbox-rows.mjs): the forced cells as the released guide's own fill.sh prints them over the translation 84441f230c942b57… (all of the seat's roots in one cut). By AI agents, Wed Nov 11 2026. No macro, syntax, notation, axiom, sorry.
-/
import Derived.Test.YtaoklfecdcakbaaChecked
import GoSem.Claim
import GoSem.ClaimJoined
import GoSem.ClaimMapViews
import Derived.JoinedTies
import Derived.KernelRfl
namespace Go.Proofs.Ytaoklfecdcakbaa
/- THE CELL 'sum', in the pinned program and in every row, IS THE sha256 OF THE DUMP (.gsa) THAT YtaoklfecdcakbaaProg.lean LOADS. Nothing in Lean hashes anything: it is a label: what it is worth is what the hold of that sum in a sandbox is worth. -/
noncomputable def Try.pinned : Pinned := { name := "ytaoklfecdcakbaa", sum := "84441f230c942b577f502d40f5486076dbc474a346dc15eb430557cbdd132853", checked := Try.checked }
namespace Rows
def none {H : Type} : Left H := { results := [], args := [] }

/-- 'heartwoodlaw12.CommandWrites': WHATEVER THE INPUT: true; the input reads as it did. -/
def commandWritesSpec : ChangeSpec := { name := "commandWrites", fn := fun _ => fun
  | [d] => { results := [.lit (.bool true)], args := [d] }
  | _ => none }
def commandWritesRow : OpenClaim := { program := "ytaoklfecdcakbaa", sum := "84441f230c942b577f502d40f5486076dbc474a346dc15eb430557cbdd132853", func := "heartwood/heartwoodlaw12.CommandWrites", spec := "commandWrites", inPlace := ["internal/bytealg.Compare"], unfollowed := true, recurses := true, apart := false }
def CommandWritesSaid : Prop := commandWritesRow.holds Try.pinned (OpenSpec.ofChange commandWritesSpec)

/-- ITS FALSE NEIGHBOUR: 'it returns false'. Refute it at one input. -/
def commandWritesWrong : ChangeSpec := { name := "commandWrites", fn := fun _ => fun
  | [d] => { results := [.lit (.bool false)], args := [d] }
  | _ => none }
def CommandWritesWrongFalsely : Prop := commandWritesRow.holds Try.pinned (OpenSpec.ofChange commandWritesWrong)

/-- 'heartwoodlaw12.CommandReads': WHATEVER THE INPUT: true; the input reads as it did. -/
def commandReadsSpec : ChangeSpec := { name := "commandReads", fn := fun _ => fun
  | [d] => { results := [.lit (.bool true)], args := [d] }
  | _ => none }
def commandReadsRow : OpenClaim := { program := "ytaoklfecdcakbaa", sum := "84441f230c942b577f502d40f5486076dbc474a346dc15eb430557cbdd132853", func := "heartwood/heartwoodlaw12.CommandReads", spec := "commandReads", inPlace := ["internal/bytealg.Compare"], unfollowed := true, recurses := true, apart := false }
def CommandReadsSaid : Prop := commandReadsRow.holds Try.pinned (OpenSpec.ofChange commandReadsSpec)

/-- ITS FALSE NEIGHBOUR: 'it returns false'. Refute it at one input. -/
def commandReadsWrong : ChangeSpec := { name := "commandReads", fn := fun _ => fun
  | [d] => { results := [.lit (.bool false)], args := [d] }
  | _ => none }
def CommandReadsWrongFalsely : Prop := commandReadsRow.holds Try.pinned (OpenSpec.ofChange commandReadsWrong)

/-- 'heartwoodlaw12.CommandApplies': WHATEVER THE INPUT: true; the input reads as it did. -/
def commandAppliesSpec : ChangeSpec := { name := "commandApplies", fn := fun _ => fun
  | [d1, d2] => { results := [.lit (.bool true)], args := [d1, d2] }
  | _ => none }
def commandAppliesRow : OpenClaim := { program := "ytaoklfecdcakbaa", sum := "84441f230c942b577f502d40f5486076dbc474a346dc15eb430557cbdd132853", func := "heartwood/heartwoodlaw12.CommandApplies", spec := "commandApplies", inPlace := ["internal/bytealg.Compare"], unfollowed := true, recurses := true, loops := true, apart := false }
def CommandAppliesSaid : Prop := commandAppliesRow.holds Try.pinned (OpenSpec.ofChange commandAppliesSpec)

/-- ITS FALSE NEIGHBOUR: 'it returns false'. Refute it at one input. -/
def commandAppliesWrong : ChangeSpec := { name := "commandApplies", fn := fun _ => fun
  | [d1, d2] => { results := [.lit (.bool false)], args := [d1, d2] }
  | _ => none }
def CommandAppliesWrongFalsely : Prop := commandAppliesRow.holds Try.pinned (OpenSpec.ofChange commandAppliesWrong)

/-- 'heartwoodlaw12.CommandLooks': WHATEVER THE INPUT: true; the input reads as it did. -/
def commandLooksSpec : ChangeSpec := { name := "commandLooks", fn := fun _ => fun
  | [d1, d2] => { results := [.lit (.bool true)], args := [d1, d2] }
  | _ => none }
def commandLooksRow : OpenClaim := { program := "ytaoklfecdcakbaa", sum := "84441f230c942b577f502d40f5486076dbc474a346dc15eb430557cbdd132853", func := "heartwood/heartwoodlaw12.CommandLooks", spec := "commandLooks", inPlace := ["internal/bytealg.Compare"], unfollowed := true, recurses := true, loops := true, apart := false }
def CommandLooksSaid : Prop := commandLooksRow.holds Try.pinned (OpenSpec.ofChange commandLooksSpec)

/-- ITS FALSE NEIGHBOUR: 'it returns false'. Refute it at one input. -/
def commandLooksWrong : ChangeSpec := { name := "commandLooks", fn := fun _ => fun
  | [d1, d2] => { results := [.lit (.bool false)], args := [d1, d2] }
  | _ => none }
def CommandLooksWrongFalsely : Prop := commandLooksRow.holds Try.pinned (OpenSpec.ofChange commandLooksWrong)

/-- 'heartwoodlaw12.CommandOnce': WHATEVER THE INPUT: true; the input reads as it did. -/
def commandOnceSpec : ChangeSpec := { name := "commandOnce", fn := fun _ => fun
  | [d1, d2, d3, d4] => { results := [.lit (.bool true)], args := [d1, d2, d3, d4] }
  | _ => none }
def commandOnceRow : OpenClaim := { program := "ytaoklfecdcakbaa", sum := "84441f230c942b577f502d40f5486076dbc474a346dc15eb430557cbdd132853", func := "heartwood/heartwoodlaw12.CommandOnce", spec := "commandOnce", inPlace := ["internal/bytealg.Compare"], unfollowed := true, recurses := true, apart := false }
def CommandOnceSaid : Prop := commandOnceRow.holds Try.pinned (OpenSpec.ofChange commandOnceSpec)

/-- ITS FALSE NEIGHBOUR: 'it returns false'. Refute it at one input. -/
def commandOnceWrong : ChangeSpec := { name := "commandOnce", fn := fun _ => fun
  | [d1, d2, d3, d4] => { results := [.lit (.bool false)], args := [d1, d2, d3, d4] }
  | _ => none }
def CommandOnceWrongFalsely : Prop := commandOnceRow.holds Try.pinned (OpenSpec.ofChange commandOnceWrong)

/-- 'heartwoodlaw12.CommandTells': WHATEVER THE INPUT: true; the input reads as it did. -/
def commandTellsSpec : ChangeSpec := { name := "commandTells", fn := fun _ => fun
  | [d1, d2, d3] => { results := [.lit (.bool true)], args := [d1, d2, d3] }
  | _ => none }
def commandTellsRow : OpenClaim := { program := "ytaoklfecdcakbaa", sum := "84441f230c942b577f502d40f5486076dbc474a346dc15eb430557cbdd132853", func := "heartwood/heartwoodlaw12.CommandTells", spec := "commandTells", inPlace := ["internal/bytealg.Compare"], unfollowed := true, recurses := true, apart := false }
def CommandTellsSaid : Prop := commandTellsRow.holds Try.pinned (OpenSpec.ofChange commandTellsSpec)

/-- ITS FALSE NEIGHBOUR: 'it returns false'. Refute it at one input. -/
def commandTellsWrong : ChangeSpec := { name := "commandTells", fn := fun _ => fun
  | [d1, d2, d3] => { results := [.lit (.bool false)], args := [d1, d2, d3] }
  | _ => none }
def CommandTellsWrongFalsely : Prop := commandTellsRow.holds Try.pinned (OpenSpec.ofChange commandTellsWrong)

/-- 'heartwoodlaw13.FoldNew': WHATEVER THE INPUT: true; the input reads as it did. -/
def foldNewSpec : ChangeSpec := { name := "foldNew", fn := fun _ => fun
  | [d1, d2] => { results := [.lit (.bool true)], args := [d1, d2] }
  | _ => none }
def foldNewRow : OpenClaim := { program := "ytaoklfecdcakbaa", sum := "84441f230c942b577f502d40f5486076dbc474a346dc15eb430557cbdd132853", func := "heartwood/heartwoodlaw13.FoldNew", spec := "foldNew", inPlace := ["internal/bytealg.Compare"], unfollowed := true, recurses := true, loops := true, apart := false }
def FoldNewSaid : Prop := foldNewRow.holds Try.pinned (OpenSpec.ofChange foldNewSpec)

/-- ITS FALSE NEIGHBOUR: 'it returns false'. Refute it at one input. -/
def foldNewWrong : ChangeSpec := { name := "foldNew", fn := fun _ => fun
  | [d1, d2] => { results := [.lit (.bool false)], args := [d1, d2] }
  | _ => none }
def FoldNewWrongFalsely : Prop := foldNewRow.holds Try.pinned (OpenSpec.ofChange foldNewWrong)

/- THE SECOND FORM. 'bulk': how many values and letters a reading holds, each counted each time it is reached (what is shared counts as often as it is met; a slice's spare places count too). A statement '..UptoSaid' is the law's where the arguments, and the package variables that the reading takes, are together of bulk at most 1048576: NARROWER than '..Said'. Prove '..Said' where nothing that the law and all that it calls make is longer than what came in: it says more and counts as full. Else prove '..UptoSaid'. A law counts once. -/
mutual
def uptoBulk {H : Type} : DataW H → Nat
  | .lit (.string bytes) => bytes.length + 1
  | .lit _ => 1
  | .nil => 1
  | .ptr d => uptoBulk d + 1
  | .slice elems spare => uptoBulkAll elems + uptoBulkAll spare + 1
  | .agg parts => uptoBulkAll parts + 1
  | .iface _ d => uptoBulk d + 1
  | .map entries => uptoBulkEntries entries + 1
  | .held _ => 1
def uptoBulkAll {H : Type} : List (DataW H) → Nat
  | [] => 0
  | d :: r => uptoBulk d + uptoBulkAll r
def uptoBulkEntries {H : Type} : List (Lit × DataW H) → Nat
  | [] => 0
  | x :: r => uptoBulkEntry x + uptoBulkEntries r
def uptoBulkEntry {H : Type} : Lit × DataW H → Nat
  | (.string bytes, d) => bytes.length + uptoBulk d + 1
  | (_, d) => uptoBulk d + 1
 end
def uptoSmall : (H : Type) → List (DataW H) → Bool := fun _ ds => decide (uptoBulkAll ds ≤ 1048576)
def OpenSpec.upto (s : _root_.Go.ChangeSpec) : _root_.Go.OpenSpec := { _root_.Go.OpenSpec.ofChange s with cond := some uptoSmall }

/-- 'heartwoodlaw12.CommandWrites', WHERE WHAT IT READS IS OF BULK AT MOST 1048576: true; the input reads as it did. -/
def commandWritesUptoRow : OpenClaim := { program := "ytaoklfecdcakbaa", sum := "84441f230c942b577f502d40f5486076dbc474a346dc15eb430557cbdd132853", func := "heartwood/heartwoodlaw12.CommandWrites", spec := "commandWrites", inPlace := ["internal/bytealg.Compare"], unfollowed := true, recurses := true, apart := false, narrowed := true }
def CommandWritesUptoSaid : Prop := commandWritesUptoRow.holds Try.pinned (OpenSpec.upto commandWritesSpec)

/-- 'heartwoodlaw12.CommandReads', WHERE WHAT IT READS IS OF BULK AT MOST 1048576: true; the input reads as it did. -/
def commandReadsUptoRow : OpenClaim := { program := "ytaoklfecdcakbaa", sum := "84441f230c942b577f502d40f5486076dbc474a346dc15eb430557cbdd132853", func := "heartwood/heartwoodlaw12.CommandReads", spec := "commandReads", inPlace := ["internal/bytealg.Compare"], unfollowed := true, recurses := true, apart := false, narrowed := true }
def CommandReadsUptoSaid : Prop := commandReadsUptoRow.holds Try.pinned (OpenSpec.upto commandReadsSpec)

/-- 'heartwoodlaw12.CommandApplies', WHERE WHAT IT READS IS OF BULK AT MOST 1048576: true; the input reads as it did. -/
def commandAppliesUptoRow : OpenClaim := { program := "ytaoklfecdcakbaa", sum := "84441f230c942b577f502d40f5486076dbc474a346dc15eb430557cbdd132853", func := "heartwood/heartwoodlaw12.CommandApplies", spec := "commandApplies", inPlace := ["internal/bytealg.Compare"], unfollowed := true, recurses := true, loops := true, apart := false, narrowed := true }
def CommandAppliesUptoSaid : Prop := commandAppliesUptoRow.holds Try.pinned (OpenSpec.upto commandAppliesSpec)

/-- 'heartwoodlaw12.CommandLooks', WHERE WHAT IT READS IS OF BULK AT MOST 1048576: true; the input reads as it did. -/
def commandLooksUptoRow : OpenClaim := { program := "ytaoklfecdcakbaa", sum := "84441f230c942b577f502d40f5486076dbc474a346dc15eb430557cbdd132853", func := "heartwood/heartwoodlaw12.CommandLooks", spec := "commandLooks", inPlace := ["internal/bytealg.Compare"], unfollowed := true, recurses := true, loops := true, apart := false, narrowed := true }
def CommandLooksUptoSaid : Prop := commandLooksUptoRow.holds Try.pinned (OpenSpec.upto commandLooksSpec)

/-- 'heartwoodlaw12.CommandOnce', WHERE WHAT IT READS IS OF BULK AT MOST 1048576: true; the input reads as it did. -/
def commandOnceUptoRow : OpenClaim := { program := "ytaoklfecdcakbaa", sum := "84441f230c942b577f502d40f5486076dbc474a346dc15eb430557cbdd132853", func := "heartwood/heartwoodlaw12.CommandOnce", spec := "commandOnce", inPlace := ["internal/bytealg.Compare"], unfollowed := true, recurses := true, apart := false, narrowed := true }
def CommandOnceUptoSaid : Prop := commandOnceUptoRow.holds Try.pinned (OpenSpec.upto commandOnceSpec)

/-- 'heartwoodlaw12.CommandTells', WHERE WHAT IT READS IS OF BULK AT MOST 1048576: true; the input reads as it did. -/
def commandTellsUptoRow : OpenClaim := { program := "ytaoklfecdcakbaa", sum := "84441f230c942b577f502d40f5486076dbc474a346dc15eb430557cbdd132853", func := "heartwood/heartwoodlaw12.CommandTells", spec := "commandTells", inPlace := ["internal/bytealg.Compare"], unfollowed := true, recurses := true, apart := false, narrowed := true }
def CommandTellsUptoSaid : Prop := commandTellsUptoRow.holds Try.pinned (OpenSpec.upto commandTellsSpec)

/-- 'heartwoodlaw13.FoldNew', WHERE WHAT IT READS IS OF BULK AT MOST 1048576: true; the input reads as it did. -/
def foldNewUptoRow : OpenClaim := { program := "ytaoklfecdcakbaa", sum := "84441f230c942b577f502d40f5486076dbc474a346dc15eb430557cbdd132853", func := "heartwood/heartwoodlaw13.FoldNew", spec := "foldNew", inPlace := ["internal/bytealg.Compare"], unfollowed := true, recurses := true, loops := true, apart := false, narrowed := true }
def FoldNewUptoSaid : Prop := foldNewUptoRow.holds Try.pinned (OpenSpec.upto foldNewSpec)

end Rows
end Go.Proofs.Ytaoklfecdcakbaa
