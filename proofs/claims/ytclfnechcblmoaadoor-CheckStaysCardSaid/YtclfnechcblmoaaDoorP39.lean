/- A part of the proof: what the functions of the program answer, as plain lists and numbers. -/
import Derived.Test.YtclfnechcblmoaaDoorP9
namespace Go.Pm
open Go.Proofs
set_option linter.unusedVariables false
set_option maxRecDepth 100000
noncomputable def ref06_Range_J4 (n : Nat) (t3 t5 t6 t7 : AV) (H : List AObj) (E : List Nat) : Option R3 :=
 loopK Tryd.prog C.G (EV C) (C.hint 46) Tryd.f46 (cAt (bodyOf Tryd.f46) [1, 1, 1, 0, 1, 0, 0]) (kAt Tryd.prog C.G (EV C) (C.hint 46) Tryd.f46 (bodyOf Tryd.f46) [1, 1, 1, 0, 1, 0] [] (endK Tryd.prog (C.hint 46) Tryd.f46 n))
 ⟨pat 40 [(3, t3), (5, t5), (6, t6), (7, t7)], H, E⟩
theorem ref06_Range_J4_of {r : R3} {n : Nat} {t3 t5 t6 t7 : AV} {H : List AObj} {E : List Nat} (hh : (
 (lenV t6 H).bind fun a1 =>
 (binA .lss (Go.TypeDesc.int Go.IntKind.i64) (cmpT Tryd.prog) false t7 a1).bind fun a2 =>
 condK a2
 ((loadA true 3 t3 H).bind fun a3 =>
 (ixA 5 t6 t7 H).bind fun a4 =>
 (offA a4 1).bind fun a5 =>
 (loadA false 1 a5 H).bind fun a6 =>
 (callD (EV C) n_ref06_In [a3, a6] H).bind fun a7 =>
 condK a7
 ((ixA 5 t6 t7 H).bind fun a8 =>
 (offA a8 1).bind fun a9 =>
 (loadA false 1 a9 H).bind fun a10 =>
 (ixA 5 t6 t7 H).bind fun a11 =>
 (offA a11 2).bind fun a12 =>
 (loadA false 1 a12 H).bind fun a13 =>
 (fillB (AV.cells (.agg [.nils, .nils])) [(0, 1, a10), (1, 1, a13)]).bind fun c14 =>
 (litD 2 1 (.agg [.nils, .nils]) [(0, (.agg c14))] H).bind fun a15 =>
 appK 2 48 t5 a15 H fun a16 H16 E16 =>
 (binA .add (Go.TypeDesc.int Go.IntKind.i64) (cmpT Tryd.prog) true t7 (.int .i64 1)).bind fun a17 =>
 ref06_Range_J4 n t3 a16 t6 a17 H16 ((E16 ++ []) ++ E))
 ((binA .add (Go.TypeDesc.int Go.IntKind.i64) (cmpT Tryd.prog) true t7 (.int .i64 1)).bind fun a18 =>
 ref06_Range_J4 n t3 t5 t6 a18 H E))
 (endB false false n t5 H E)) = some r) : ref06_Range_J4 n t3 t5 t6 t7 H E = some r :=
 loop_step' (by kernel_rfl) hh
theorem ref06_Range_of {r : R3} {x0 x1 : AV} {H : List AObj} (hh : (fun n => (
 newK x0 H fun a1 H1 E1 =>
 newK x1 H1 fun a2 H2 E2 =>
 (loadA true 5 a1 (H2 ++ [.vrow])).bind fun a3 =>
 callK (EV C) false n_ref04_List [a3] (H2 ++ [.vrow]) fun a4 H4 E4 =>
 ref06_Range_J4 n a2 (.slc (List.length H2) 0 0 0) a4 (.int .i64 0) H4 (E4 ++ (E2 ++ (E1 ++ []))))) (List.length H) = some r) : EV C n_ref06_Range [x0, x1] H = some r :=
 EV_of_fnK' (fn := Tryd.f46) (by kernel_rfl) (by kernel_rfl) (by kernel_rfl) hh
end Go.Pm
