/- A part of the proof: what the functions of the program answer, as plain lists and numbers. -/
import Derived.Test.YtahipmiaknbkoaaP7
namespace Go.Pm
set_option linter.unusedVariables false
def isF (t0 : TypeId) (args : List AV) (H : List AObj) : Option R3 :=
  match args with
  | [.ifc t (.int .i64 a), .ifc u (.int .i64 b)] => if t = t0 ∧ u = t0 ∧ a = b then some (.bool true, H, []) else none
  | _ => none
def keyL : AV × AV → Option (List UInt8)
  | (.str s, _) => some (bl s)
  | _ => none
def sortL (l : List (List UInt8)) : List (List UInt8) := l.mergeSort fun x y => decide (x ≤ y)
def sortF (g0 : FuncId) (args : List AV) (H : List AObj) : Option R3 :=
  match args with
  | [.clo g [] [.ptr l 1 0 0]] =>
    if g = g0 then
      match H[l]? with
      | some (.row 1 [.mp L]) => match H[L]? with
        | some (.mp es) => (es.mapM keyL).bind fun ks => if es.length < 2^40 ∧ ks.all (fun k => decide (k.length < 2^40)) = true then some (.lst ((sortL ks).map sv), H, []) else none
        | _ => none
      | _ => none
    else none
  | _ => none
def fileLen : AV → Option Nat
  | .agg [.lst bs, .int .i64 _] => some bs.length
  | _ => none
def sumLen : List (AV × AV) → Option Nat
  | [] => some 0
  | p :: es => (fileLen p.2).bind fun n => (sumLen es).map (n + ·)
def roomF (args : List AV) (H : List AObj) : Option R3 :=
  match args with
  | [.ptr D 1 0 0] =>
    match H[D]? with
    | some (.row 6 [.agg [.int .i64 sz, .mp L, a, b, c, d]]) => match H[L]? with
      | some (.mp es) => (sumLen es).bind fun s => if 0 ≤ sz ∧ sz < 2^62 ∧ s < 2^62 then some (.int .i64 (sz - s), H, []) else none
      | _ => none
    | _ => none
  | _ => none
/-- a function is taken for another -/
def addI (g : FuncId) (F : List AV → List AObj → Option R3) (I : FuncId → Option (List AV → List AObj → Option R3)) (f : FuncId) : Option (List AV → List AObj → Option R3) := if f = g then some F else I f
theorem addI_ok {g : FuncId} {F0 : List AV → List AObj → Option R3} {I : FuncId → Option (List AV → List AObj → Option R3)} {P : Program} {G : Nat → Option (List AV)} (h0 : ∀ a H r, F0 a H = some r → SpecR P G g a H r) (h1 : ∀ f F a H r, I f = some F → F a H = some r → SpecR P G f a H r) :
    ∀ f F a H r, addI g F0 I f = some F → F a H = some r → SpecR P G f a H r := fun f F a H r hF hr => by
  unfold addI at hF
  split at hF
  · rename_i hf; subst hf; injection hF with hF; subst hF; exact h0 a H r hr
  · exact h1 f F a H r hF hr
end Go.Pm
