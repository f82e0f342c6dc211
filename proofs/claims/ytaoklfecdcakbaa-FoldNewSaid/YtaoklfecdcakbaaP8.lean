/- A part of the proof: what the functions of the program answer, as plain lists and numbers. -/
import Derived.Lib.BytesEntry
import Derived.Test.YtaoklfecdcakbaaP7
namespace Go.Pm
/-- what bytes.Compare answers -/
noncomputable def cmpF (a : List AV) (H : List AObj) : Option R3 := match a with
  | [.lst x, .lst y] => (toBytes x).bind fun l => (toBytes y).bind fun m => some (.int .i64 (Lib.compareBytes l m), H, [])
  | _ => none
/-- one function more that is answered by hand -/
def addI (g : FuncId) (F : List AV → List AObj → Option R3) (I : FuncId → Option (List AV → List AObj → Option R3)) (f : FuncId) : Option (List AV → List AObj → Option R3) := if f = g then some F else I f
end Go.Pm
