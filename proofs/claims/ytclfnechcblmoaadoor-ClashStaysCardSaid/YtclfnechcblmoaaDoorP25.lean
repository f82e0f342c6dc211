/- A part of the proof: what the functions of the program answer, as plain lists and numbers. -/
import Derived.Test.YtclfnechcblmoaaDoorP9
namespace Go.Pm
open Go.Proofs
set_option linter.unusedVariables false
set_option maxRecDepth 100000
noncomputable def ref04_Deep_J5 (n : Nat) (t1 t2 t6 : AV) (H : List AObj) (E : List Nat) : Option R3 :=
 loopK Tryd.prog C.G (EV C) (C.hint 67) Tryd.f67 (cAt (bodyOf Tryd.f67) [1, 1, 1, 0, 1, 0, 0]) (kAt Tryd.prog C.G (EV C) (C.hint 67) Tryd.f67 (bodyOf Tryd.f67) [1, 1, 1, 0, 1, 0] [] (endK Tryd.prog (C.hint 67) Tryd.f67 n))
 ⟨pat 43 [(1, t1), (2, t2), (6, t6)], H, E⟩
theorem ref04_Deep_J5_of {r : R3} {n : Nat} {t1 t2 t6 : AV} {H : List AObj} {E : List Nat} (hh : (
 (offA t2 4).bind fun a1 =>
 (loadA false 1 a1 H).bind fun a2 =>
 (lenV a2 H).bind fun a3 =>
 (binA .lss (Go.TypeDesc.int Go.IntKind.i64) (cmpT Tryd.prog) false t6 a3).bind fun a4 =>
 condK a4
 ((offA t2 4).bind fun a5 =>
 (loadA false 1 a5 H).bind fun a6 =>
 (ixA 5 a6 t6 H).bind fun a7 =>
 (loadA true 5 a7 H).bind fun a8 =>
 (binA .sub (Go.TypeDesc.int Go.IntKind.i64) (cmpT Tryd.prog) true t1 (.int .i64 1)).bind fun a9 =>
 callK (EV C) false n_ref04_Deep [a8, a9] H fun a10 H10 E10 =>
 condK a10
 (endB false false n (.bool true) H10 ((E10 ++ []) ++ E))
 ((binA .add (Go.TypeDesc.int Go.IntKind.i64) (cmpT Tryd.prog) true t6 (.int .i64 1)).bind fun a11 =>
 ref04_Deep_J5 n t1 t2 a11 H10 ((E10 ++ []) ++ E)))
 (endB false false n (.bool false) H E)) = some r) : ref04_Deep_J5 n t1 t2 t6 H E = some r :=
 loop_step' (by kernel_rfl) hh
theorem ref04_Deep_of {r : R3} {x0 x1 : AV} {H : List AObj} (hh : (fun n => (
 newK x0 H fun a1 H1 E1 =>
 (offA a1 0).bind fun a2 =>
 (loadA false 1 a2 H1).bind fun a3 =>
 (binA .eql (Go.TypeDesc.int Go.IntKind.i64) (cmpT Tryd.prog) true a3 (.int .i64 1)).bind fun a4 =>
 splitK a4
 ((binA .eql (Go.TypeDesc.int Go.IntKind.i64) (cmpT Tryd.prog) true x1 (.int .i64 0)).bind fun a5 =>
 condK a5
 (endB false false n (.bool true) H1 (E1 ++ []))
 (ref04_Deep_J5 n x1 a1 (.int .i64 0) H1 (E1 ++ [])))
 ((offA a1 0).bind fun a6 =>
 (loadA false 1 a6 H1).bind fun a7 =>
 (binA .eql (Go.TypeDesc.int Go.IntKind.i64) (cmpT Tryd.prog) true a7 (.int .i64 2)).bind fun a8 =>
 splitK a8
 ((binA .eql (Go.TypeDesc.int Go.IntKind.i64) (cmpT Tryd.prog) true x1 (.int .i64 0)).bind fun a9 =>
 condK a9
 (endB false false n (.bool true) H1 (E1 ++ []))
 (ref04_Deep_J5 n x1 a1 (.int .i64 0) H1 (E1 ++ [])))
 ((offA a1 4).bind fun a10 =>
 (loadA false 1 a10 H1).bind fun a11 =>
 (lenV a11 H1).bind fun a12 =>
 (binA .gtr (Go.TypeDesc.int Go.IntKind.i64) (cmpT Tryd.prog) true a12 (.int .i64 0)).bind fun a13 =>
 splitK a13
 ((binA .eql (Go.TypeDesc.int Go.IntKind.i64) (cmpT Tryd.prog) true x1 (.int .i64 0)).bind fun a14 =>
 condK a14
 (endB false false n (.bool true) H1 (E1 ++ []))
 (ref04_Deep_J5 n x1 a1 (.int .i64 0) H1 (E1 ++ [])))
 (ref04_Deep_J5 n x1 a1 (.int .i64 0) H1 (E1 ++ [])))))) (List.length H) = some r) : EV C n_ref04_Deep [x0, x1] H = some r :=
 EV_of_fnK' (fn := Tryd.f67) (by kernel_rfl) (by kernel_rfl) (by kernel_rfl) hh
noncomputable def ref04_Formed_J16 (n : Nat) (t1 t6 t7 t8 : AV) (H : List AObj) (E : List Nat) : Option R3 :=
 loopK Tryd.prog C.G (EV C) (C.hint 68) Tryd.f68 (cAt (bodyOf Tryd.f68) [1, 1, 1, 1, 1, 1, 1, 0, 1, 0, 0]) (kAt Tryd.prog C.G (EV C) (C.hint 68) Tryd.f68 (bodyOf Tryd.f68) [1, 1, 1, 1, 1, 1, 1, 0, 1, 0] [] (endK Tryd.prog (C.hint 68) Tryd.f68 n))
 ⟨pat 94 [(1, t1), (6, t6), (7, t7), (8, t8)], H, E⟩
theorem ref04_Formed_J16_of {r : R3} {n : Nat} {t1 t6 t7 t8 : AV} {H : List AObj} {E : List Nat} (hh : (
 (binA .lss (Go.TypeDesc.int Go.IntKind.i64) (cmpT Tryd.prog) false t8 t6).bind fun a1 =>
 splitK a1
 (condK t7
 ((offA t1 4).bind fun a2 =>
 (loadA false 1 a2 H).bind fun a3 =>
 (ixA 5 a3 t8 H).bind fun a4 =>
 (loadA true 5 a4 H).bind fun a5 =>
 callK (EV C) false n_ref04_Formed [a5] H fun a6 H6 E6 =>
 (binA .add (Go.TypeDesc.int Go.IntKind.i64) (cmpT Tryd.prog) true t8 (.int .i64 1)).bind fun a7 =>
 ref04_Formed_J16 n t1 t6 a6 a7 H6 ((E6 ++ []) ++ E))
 (endB false false n t7 H E))
 (endB false false n t7 H E)) = some r) : ref04_Formed_J16 n t1 t6 t7 t8 H E = some r :=
 loop_step' (by kernel_rfl) hh
theorem ref04_Formed_of {r : R3} {x0 : AV} {H : List AObj} (hh : (fun n => (
 newK x0 H fun a1 H1 E1 =>
 (offA a1 1).bind fun a2 =>
 (loadA false 1 a2 H1).bind fun a3 =>
 (lenV a3 H1).bind fun a4 =>
 (offA a1 2).bind fun a5 =>
 (loadA false 1 a5 H1).bind fun a6 =>
 (lenV a6 H1).bind fun a7 =>
 (offA a1 3).bind fun a8 =>
 (loadA false 1 a8 H1).bind fun a9 =>
 (lenV a9 H1).bind fun a10 =>
 (offA a1 4).bind fun a11 =>
 (loadA false 1 a11 H1).bind fun a12 =>
 (lenV a12 H1).bind fun a13 =>
 (offA a1 0).bind fun a14 =>
 (loadA false 1 a14 H1).bind fun a15 =>
 (binA .eql (Go.TypeDesc.int Go.IntKind.i64) (cmpT Tryd.prog) true a15 (.int .i64 0)).bind fun a16 =>
 condK a16
 ((binA .eql (Go.TypeDesc.int Go.IntKind.i64) (cmpT Tryd.prog) true a4 (.int .i64 0)).bind fun a17 =>
 splitK a17
 ((binA .eql (Go.TypeDesc.int Go.IntKind.i64) (cmpT Tryd.prog) true a7 (.int .i64 0)).bind fun a18 =>
 splitK a18
 ((binA .eql (Go.TypeDesc.int Go.IntKind.i64) (cmpT Tryd.prog) true a10 (.int .i64 0)).bind fun a19 =>
 splitK a19
 ((binA .eql (Go.TypeDesc.int Go.IntKind.i64) (cmpT Tryd.prog) true a13 (.int .i64 0)).bind fun a20 =>
 ref04_Formed_J16 n a1 a13 a20 (.int .i64 0) H1 (E1 ++ []))
 (ref04_Formed_J16 n a1 a13 (.bool false) (.int .i64 0) H1 (E1 ++ [])))
 (ref04_Formed_J16 n a1 a13 (.bool false) (.int .i64 0) H1 (E1 ++ [])))
 (ref04_Formed_J16 n a1 a13 (.bool false) (.int .i64 0) H1 (E1 ++ [])))
 ((binA .eql (Go.TypeDesc.int Go.IntKind.i64) (cmpT Tryd.prog) true a15 (.int .i64 1)).bind fun a21 =>
 condK a21
 ((binA .leq (Go.TypeDesc.int Go.IntKind.i64) (cmpT Tryd.prog) true a4 (.int .i64 80)).bind fun a22 =>
 splitK a22
 ((binA .leq (Go.TypeDesc.int Go.IntKind.i64) (cmpT Tryd.prog) true a7 (.int .i64 1024)).bind fun a23 =>
 splitK a23
 ((binA .eql (Go.TypeDesc.int Go.IntKind.i64) (cmpT Tryd.prog) true a10 (.int .i64 0)).bind fun a24 =>
 splitK a24
 ((binA .eql (Go.TypeDesc.int Go.IntKind.i64) (cmpT Tryd.prog) true a13 (.int .i64 2)).bind fun a25 =>
 ref04_Formed_J16 n a1 a13 a25 (.int .i64 0) H1 (E1 ++ []))
 (ref04_Formed_J16 n a1 a13 (.bool false) (.int .i64 0) H1 (E1 ++ [])))
 (ref04_Formed_J16 n a1 a13 (.bool false) (.int .i64 0) H1 (E1 ++ [])))
 (ref04_Formed_J16 n a1 a13 (.bool false) (.int .i64 0) H1 (E1 ++ [])))
 ((binA .eql (Go.TypeDesc.int Go.IntKind.i64) (cmpT Tryd.prog) true a15 (.int .i64 2)).bind fun a26 =>
 condK a26
 ((binA .leq (Go.TypeDesc.int Go.IntKind.i64) (cmpT Tryd.prog) true a4 (.int .i64 80)).bind fun a27 =>
 splitK a27
 ((binA .eql (Go.TypeDesc.int Go.IntKind.i64) (cmpT Tryd.prog) true a7 (.int .i64 0)).bind fun a28 =>
 splitK a28
 ((binA .eql (Go.TypeDesc.int Go.IntKind.i64) (cmpT Tryd.prog) true a13 (.int .i64 2)).bind fun a29 =>
 ref04_Formed_J16 n a1 a13 a29 (.int .i64 0) H1 (E1 ++ []))
 (ref04_Formed_J16 n a1 a13 (.bool false) (.int .i64 0) H1 (E1 ++ [])))
 (ref04_Formed_J16 n a1 a13 (.bool false) (.int .i64 0) H1 (E1 ++ [])))
 ((binA .eql (Go.TypeDesc.int Go.IntKind.i64) (cmpT Tryd.prog) true a15 (.int .i64 3)).bind fun a30 =>
 condK a30
 ((binA .eql (Go.TypeDesc.int Go.IntKind.i64) (cmpT Tryd.prog) true a4 (.int .i64 0)).bind fun a31 =>
 splitK a31
 ((binA .eql (Go.TypeDesc.int Go.IntKind.i64) (cmpT Tryd.prog) true a7 (.int .i64 0)).bind fun a32 =>
 splitK a32
 ((binA .eql (Go.TypeDesc.int Go.IntKind.i64) (cmpT Tryd.prog) true a13 (.int .i64 0)).bind fun a33 =>
 ref04_Formed_J16 n a1 a13 a33 (.int .i64 0) H1 (E1 ++ []))
 (ref04_Formed_J16 n a1 a13 (.bool false) (.int .i64 0) H1 (E1 ++ [])))
 (ref04_Formed_J16 n a1 a13 (.bool false) (.int .i64 0) H1 (E1 ++ [])))
 (ref04_Formed_J16 n a1 a13 (.bool false) (.int .i64 0) H1 (E1 ++ []))))))) (List.length H) = some r) : EV C n_ref04_Formed [x0] H = some r :=
 EV_of_fnK' (fn := Tryd.f68) (by kernel_rfl) (by kernel_rfl) (by kernel_rfl) hh
theorem ref04_Check_of {r : R3} {x0 : AV} {H : List AObj} (hh : (fun n => (
 newK x0 H fun a1 H1 E1 =>
 (loadA true 5 a1 H1).bind fun a2 =>
 callK (EV C) false n_ref04_Deep [a2, (.int .i64 64)] H1 fun a3 H3 E3 =>
 condK a3
 (endB false false n (.int .i64 5) H3 (E3 ++ (E1 ++ [])))
 ((loadA true 5 a1 H3).bind fun a4 =>
 callK (EV C) false n_ref04_Formed [a4] H3 fun a5 H5 E5 =>
 (unA .not a5).bind fun a6 =>
 condK a6
 (endB false false n (.int .i64 3) H5 (E5 ++ (E3 ++ (E1 ++ []))))
 (endB false false n (.int .i64 0) H5 (E5 ++ (E3 ++ (E1 ++ []))))))) (List.length H) = some r) : EV C n_ref04_Check [x0] H = some r :=
 EV_of_fnK' (fn := Tryd.f35) (by kernel_rfl) (by kernel_rfl) (by kernel_rfl) hh
noncomputable def law00_Code_J4 (n : Nat) (t0 t3 : AV) (H : List AObj) (E : List Nat) : Option R3 :=
 loopK Tryd.prog C.G (EV C) (C.hint 22) Tryd.f22 (cAt (bodyOf Tryd.f22) [1, 1, 0, 1, 0, 0]) (kAt Tryd.prog C.G (EV C) (C.hint 22) Tryd.f22 (bodyOf Tryd.f22) [1, 1, 0, 1, 0] [] (endK Tryd.prog (C.hint 22) Tryd.f22 n))
 ⟨pat 15 [(0, t0), (3, t3)], H, E⟩
theorem law00_Code_J4_of {r : R3} {n : Nat} {t0 t3 : AV} {H : List AObj} {E : List Nat} (hh : (
 (binA .leq (Go.TypeDesc.int Go.IntKind.i64) (cmpT Tryd.prog) true t3 (.int .i64 13)).bind fun a1 =>
 condK a1
 ((binA .eql (Go.TypeDesc.interface #[("Error", 138)]) (cmpT Tryd.prog) false t0 (.ifc t_api_Code t3)).bind fun a2 =>
 condK a2
 (endB false false n t3 H E)
 ((binA .add (Go.TypeDesc.int Go.IntKind.i64) (cmpT Tryd.prog) true t3 (.int .i64 1)).bind fun a3 =>
 law00_Code_J4 n t0 a3 H E))
 (endB false false n (.int .i64 (-1)) H E)) = some r) : law00_Code_J4 n t0 t3 H E = some r :=
 loop_step' (by kernel_rfl) hh
theorem law00_Code_of {r : R3} {x0 : AV} {H : List AObj} (hh : (fun n => (
 (binA .eql (Go.TypeDesc.interface #[("Error", 138)]) (cmpT Tryd.prog) true x0 .nili).bind fun a1 =>
 condK a1
 (endB false false n (.int .i64 0) H [])
 (law00_Code_J4 n x0 (.int .i64 1) H []))) (List.length H) = some r) : EV C n_law00_Code [x0] H = some r :=
 EV_of_fnK' (fn := Tryd.f22) (by kernel_rfl) (by kernel_rfl) (by kernel_rfl) hh
end Go.Pm
