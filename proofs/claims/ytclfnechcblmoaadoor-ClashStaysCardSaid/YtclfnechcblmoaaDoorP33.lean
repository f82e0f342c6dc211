/- A part of the proof: what the functions of the program answer, as plain lists and numbers. -/
import Derived.Test.YtclfnechcblmoaaDoorP9
namespace Go.Pm
open Go.Proofs
set_option linter.unusedVariables false
set_option maxRecDepth 100000
noncomputable def ref04_Same_J4 (n : Nat) (t2 t3 t5 : AV) (H : List AObj) (E : List Nat) : Option R3 :=
 loopK Tryd.prog C.G (EV C) (C.hint 34) Tryd.f34 (cAt (bodyOf Tryd.f34) [1, 1, 0, 1, 0, 0]) (kAt Tryd.prog C.G (EV C) (C.hint 34) Tryd.f34 (bodyOf Tryd.f34) [1, 1, 0, 1, 0] [] (endK Tryd.prog (C.hint 34) Tryd.f34 n))
 ⟨pat 68 [(2, t2), (3, t3), (5, t5)], H, E⟩
theorem ref04_Same_J4_of {r : R3} {n : Nat} {t2 t3 t5 : AV} {H : List AObj} {E : List Nat} (hh : (
 (offA t2 4).bind fun a1 =>
 (loadA false 1 a1 H).bind fun a2 =>
 (lenV a2 H).bind fun a3 =>
 (binA .lss (Go.TypeDesc.int Go.IntKind.i64) (cmpT Tryd.prog) false t5 a3).bind fun a4 =>
 condK a4
 ((offA t2 4).bind fun a5 =>
 (loadA false 1 a5 H).bind fun a6 =>
 (ixA 5 a6 t5 H).bind fun a7 =>
 (loadA true 5 a7 H).bind fun a8 =>
 (offA t3 4).bind fun a9 =>
 (loadA false 1 a9 H).bind fun a10 =>
 (ixA 5 a10 t5 H).bind fun a11 =>
 (loadA true 5 a11 H).bind fun a12 =>
 (callD (EV C) n_ref04_Same [a8, a12] H).bind fun a13 =>
 (unA .not a13).bind fun a14 =>
 condK a14
 (endB false false n (.bool false) H E)
 ((binA .add (Go.TypeDesc.int Go.IntKind.i64) (cmpT Tryd.prog) true t5 (.int .i64 1)).bind fun a15 =>
 ref04_Same_J4 n t2 t3 a15 H E))
 (endB false false n (.bool true) H E)) = some r) : ref04_Same_J4 n t2 t3 t5 H E = some r :=
 loop_step' (by kernel_rfl) hh
theorem ref04_Same_of {r : R3} {x0 x1 : AV} {H : List AObj} (hh : (fun n => (
 newK x0 H fun a1 H1 E1 =>
 newK x1 H1 fun a2 H2 E2 =>
 (offA a1 0).bind fun a3 =>
 (loadA false 1 a3 H2).bind fun a4 =>
 (offA a2 0).bind fun a5 =>
 (loadA false 1 a5 H2).bind fun a6 =>
 (binA .neq (Go.TypeDesc.int Go.IntKind.i64) (cmpT Tryd.prog) false a4 a6).bind fun a7 =>
 splitK a7
 (endB false false n (.bool false) H2 (E2 ++ (E1 ++ [])))
 ((offA a1 1).bind fun a8 =>
 (loadA false 1 a8 H2).bind fun a9 =>
 (cvL a9 H2).bind fun a10 =>
 (offA a2 1).bind fun a11 =>
 (loadA false 1 a11 H2).bind fun a12 =>
 (cvL a12 H2).bind fun a13 =>
 (binA .neq Go.TypeDesc.string (cmpT Tryd.prog) false a10 a13).bind fun a14 =>
 splitK a14
 (endB false false n (.bool false) H2 (E2 ++ (E1 ++ [])))
 ((offA a1 2).bind fun a15 =>
 (loadA false 1 a15 H2).bind fun a16 =>
 (cvL a16 H2).bind fun a17 =>
 (offA a2 2).bind fun a18 =>
 (loadA false 1 a18 H2).bind fun a19 =>
 (cvL a19 H2).bind fun a20 =>
 (binA .neq Go.TypeDesc.string (cmpT Tryd.prog) false a17 a20).bind fun a21 =>
 splitK a21
 (endB false false n (.bool false) H2 (E2 ++ (E1 ++ [])))
 ((offA a1 3).bind fun a22 =>
 (loadA false 1 a22 H2).bind fun a23 =>
 (cvL a23 H2).bind fun a24 =>
 (offA a2 3).bind fun a25 =>
 (loadA false 1 a25 H2).bind fun a26 =>
 (cvL a26 H2).bind fun a27 =>
 (binA .neq Go.TypeDesc.string (cmpT Tryd.prog) false a24 a27).bind fun a28 =>
 splitK a28
 (endB false false n (.bool false) H2 (E2 ++ (E1 ++ [])))
 ((offA a1 4).bind fun a29 =>
 (loadA false 1 a29 H2).bind fun a30 =>
 (lenV a30 H2).bind fun a31 =>
 (offA a2 4).bind fun a32 =>
 (loadA false 1 a32 H2).bind fun a33 =>
 (lenV a33 H2).bind fun a34 =>
 (binA .neq (Go.TypeDesc.int Go.IntKind.i64) (cmpT Tryd.prog) false a31 a34).bind fun a35 =>
 condK a35
 (endB false false n (.bool false) H2 (E2 ++ (E1 ++ [])))
 (ref04_Same_J4 n a1 a2 (.int .i64 0) H2 (E2 ++ (E1 ++ []))))))))) (List.length H) = some r) : EV C n_ref04_Same [x0, x1] H = some r :=
 EV_of_fnK' (fn := Tryd.f34) (by kernel_rfl) (by kernel_rfl) (by kernel_rfl) hh
end Go.Pm
