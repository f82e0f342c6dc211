/- A part of the proof: what the functions of the program answer, as plain lists and numbers. -/
import Derived.Test.YtclfnechcblmoaaDoorP9
namespace Go.Pm
open Go.Proofs
set_option linter.unusedVariables false
set_option maxRecDepth 100000
noncomputable def sha_Tail_J4 (n : Nat) (t0 t4 : AV) (H : List AObj) (E : List Nat) : Option R3 :=
 loopK Tryd.prog C.G (EV C) (C.hint 90) Tryd.f90 (cAt (bodyOf Tryd.f90) [1, 1, 1, 0, 0, 0]) (kAt Tryd.prog C.G (EV C) (C.hint 90) Tryd.f90 (bodyOf Tryd.f90) [1, 1, 1, 0, 0] [] (endK Tryd.prog (C.hint 90) Tryd.f90 n))
 ⟨pat 37 [(0, t0), (4, t4)], H, E⟩
noncomputable def sha_Tail_J7 (n : Nat) (t0 t4 t5 : AV) (H : List AObj) (E : List Nat) : Option R3 :=
 loopK Tryd.prog C.G (EV C) (C.hint 90) Tryd.f90 (cAt (bodyOf Tryd.f90) [1, 1, 1, 1, 0, 1, 0, 0]) (kAt Tryd.prog C.G (EV C) (C.hint 90) Tryd.f90 (bodyOf Tryd.f90) [1, 1, 1, 1, 0, 1, 0] [] (endK Tryd.prog (C.hint 90) Tryd.f90 n))
 ⟨pat 37 [(0, t0), (4, t4), (5, t5)], H, E⟩
theorem sha_Tail_J4_of {r : R3} {n : Nat} {t0 t4 : AV} {H : List AObj} {E : List Nat} (hh : (
 (lenV t4 H).bind fun a1 =>
 (binA .add (Go.TypeDesc.int Go.IntKind.i64) (cmpT Tryd.prog) false t0 a1).bind fun a2 =>
 (binA .rem (Go.TypeDesc.int Go.IntKind.i64) (cmpT Tryd.prog) true a2 (.int .i64 64)).bind fun a3 =>
 (binA .neq (Go.TypeDesc.int Go.IntKind.i64) (cmpT Tryd.prog) true a3 (.int .i64 56)).bind fun a4 =>
 condK a4
 (litK 1 1 (.int .u8 0) [(0, (.int .u8 0))] H fun a5 H5 E5 =>
 appK 1 1 t4 a5 H5 fun a6 H6 E6 =>
 sha_Tail_J4 n t0 a6 H6 ((E6 ++ (E5 ++ [])) ++ E))
 (sha_Tail_J7 n t0 t4 (.int .i64 56) H E)) = some r) : sha_Tail_J4 n t0 t4 H E = some r :=
 loop_step' (by kernel_rfl) hh
theorem sha_Tail_J7_of {r : R3} {n : Nat} {t0 t4 t5 : AV} {H : List AObj} {E : List Nat} (hh : (
 (binA .geq (Go.TypeDesc.int Go.IntKind.i64) (cmpT Tryd.prog) true t5 (.int .i64 0)).bind fun a1 =>
 condK a1
 ((cvI .u64 t0).bind fun a2 =>
 (binA .mul (Go.TypeDesc.int Go.IntKind.u64) (cmpT Tryd.prog) true (.int .u64 8) a2).bind fun a3 =>
 (binA .shr (Go.TypeDesc.int Go.IntKind.u64) (cmpT Tryd.prog) false a3 t5).bind fun a4 =>
 (cvI .u8 a4).bind fun a5 =>
 litK 1 1 (.int .u8 0) [(0, a5)] H fun a6 H6 E6 =>
 appK 1 1 t4 a6 H6 fun a7 H7 E7 =>
 (binA .sub (Go.TypeDesc.int Go.IntKind.i64) (cmpT Tryd.prog) true t5 (.int .i64 8)).bind fun a8 =>
 sha_Tail_J7 n t0 a7 a8 H7 ((E7 ++ (E6 ++ [])) ++ E))
 (endB false false n (.tup [t4, .nili]) H E)) = some r) : sha_Tail_J7 n t0 t4 t5 H E = some r :=
 loop_step' (by kernel_rfl) hh
theorem sha_Tail_of {r : R3} {x0 : AV} {H : List AObj} (hh : (fun n => (
 (binA .lss (Go.TypeDesc.int Go.IntKind.i64) (cmpT Tryd.prog) true x0 (.int .i64 0)).bind fun a1 =>
 splitK a1
 (endB false false n (.tup [.nils, (.ifc t_api_Code (.int .i64 1))]) H [])
 ((binA .gtr (Go.TypeDesc.int Go.IntKind.i64) (cmpT Tryd.prog) true x0 (.int .i64 1125899906842624)).bind fun a2 =>
 condK a2
 (endB false false n (.tup [.nils, (.ifc t_api_Code (.int .i64 1))]) H [])
 (rawK 1 1 (.int .u8 0) [(0, (.int .u8 128))] H fun a3 H3 E3 =>
 sha_Tail_J4 n x0 a3 H3 (E3 ++ []))))) (List.length H) = some r) : EV C n_sha_Tail [x0] H = some r :=
 EV_of_fnK' (fn := Tryd.f90) (by kernel_rfl) (by kernel_rfl) (by kernel_rfl) hh
noncomputable def sha_Words_J5 (n : Nat) (t4 t17 t18 t19 : AV) (H : List AObj) (E : List Nat) : Option R3 :=
 loopK Tryd.prog C.G (EV C) (C.hint 106) Tryd.f106 (cAt (bodyOf Tryd.f106) [1, 1, 1, 0, 1, 0, 0]) (kAt Tryd.prog C.G (EV C) (C.hint 106) Tryd.f106 (bodyOf Tryd.f106) [1, 1, 1, 0, 1, 0] [] (endK Tryd.prog (C.hint 106) Tryd.f106 n))
 ⟨pat 87 [(4, t4), (17, t17), (18, t18), (19, t19)], H, E⟩
noncomputable def sha_Words_J10 (n : Nat) (t4 t7 : AV) (H : List AObj) (E : List Nat) : Option R3 :=
 loopK Tryd.prog C.G (EV C) (C.hint 106) Tryd.f106 (cAt (bodyOf Tryd.f106) [1, 1, 1, 1, 0, 1, 0, 0]) (kAt Tryd.prog C.G (EV C) (C.hint 106) Tryd.f106 (bodyOf Tryd.f106) [1, 1, 1, 1, 0, 1, 0] [] (endK Tryd.prog (C.hint 106) Tryd.f106 n))
 ⟨pat 87 [(4, t4), (7, t7)], H, E⟩
theorem sha_Words_J5_of {r : R3} {n : Nat} {t4 t17 t18 t19 : AV} {H : List AObj} {E : List Nat} (hh : (
 (binA .lss (Go.TypeDesc.int Go.IntKind.i64) (cmpT Tryd.prog) false t19 t18).bind fun a1 =>
 condK a1
 ((ixA 1 t17 t19 H).bind fun a2 =>
 (loadA false 1 a2 H).bind fun a3 =>
 (binA .quo (Go.TypeDesc.int Go.IntKind.i64) (cmpT Tryd.prog) true t19 (.int .i64 4)).bind fun a4 =>
 (binA .quo (Go.TypeDesc.int Go.IntKind.i64) (cmpT Tryd.prog) true t19 (.int .i64 4)).bind fun a5 =>
 (ixA 1 t4 a5 H).bind fun a6 =>
 (loadA false 1 a6 H).bind fun a7 =>
 (binA .shl (Go.TypeDesc.int Go.IntKind.u32) (cmpT Tryd.prog) true a7 (.int .u64 8)).bind fun a8 =>
 (cvI .u32 a3).bind fun a9 =>
 (binA .or (Go.TypeDesc.int Go.IntKind.u32) (cmpT Tryd.prog) false a8 a9).bind fun a10 =>
 (ixA 1 t4 a4 H).bind fun a11 =>
 stoK 1 a11 a10 H fun H12 E12 =>
 (binA .add (Go.TypeDesc.int Go.IntKind.i64) (cmpT Tryd.prog) true t19 (.int .i64 1)).bind fun a13 =>
 sha_Words_J5 n t4 t17 t18 a13 H12 ((E12 ++ []) ++ E))
 (sha_Words_J10 n t4 (.int .i64 16) H E)) = some r) : sha_Words_J5 n t4 t17 t18 t19 H E = some r :=
 loop_step' (by kernel_rfl) hh
theorem sha_Words_J10_of {r : R3} {n : Nat} {t4 t7 : AV} {H : List AObj} {E : List Nat} (hh : (
 (binA .lss (Go.TypeDesc.int Go.IntKind.i64) (cmpT Tryd.prog) true t7 (.int .i64 64)).bind fun a1 =>
 condK a1
 ((binA .sub (Go.TypeDesc.int Go.IntKind.i64) (cmpT Tryd.prog) true t7 (.int .i64 15)).bind fun a2 =>
 (ixA 1 t4 a2 H).bind fun a3 =>
 (loadA false 1 a3 H).bind fun a4 =>
 (binA .sub (Go.TypeDesc.int Go.IntKind.i64) (cmpT Tryd.prog) true t7 (.int .i64 2)).bind fun a5 =>
 (ixA 1 t4 a5 H).bind fun a6 =>
 (loadA false 1 a6 H).bind fun a7 =>
 callK (EV C) false n_math_bits_RotateLeft32 [a4, (.int .i64 (-7))] H fun a8 H8 E8 =>
 callK (EV C) false n_math_bits_RotateLeft32 [a4, (.int .i64 (-18))] H8 fun a9 H9 E9 =>
 (binA .xor (Go.TypeDesc.int Go.IntKind.u32) (cmpT Tryd.prog) false a8 a9).bind fun a10 =>
 (binA .shr (Go.TypeDesc.int Go.IntKind.u32) (cmpT Tryd.prog) true a4 (.int .u64 3)).bind fun a11 =>
 (binA .xor (Go.TypeDesc.int Go.IntKind.u32) (cmpT Tryd.prog) false a10 a11).bind fun a12 =>
 callK (EV C) false n_math_bits_RotateLeft32 [a7, (.int .i64 (-17))] H9 fun a13 H13 E13 =>
 callK (EV C) false n_math_bits_RotateLeft32 [a7, (.int .i64 (-19))] H13 fun a14 H14 E14 =>
 (binA .xor (Go.TypeDesc.int Go.IntKind.u32) (cmpT Tryd.prog) false a13 a14).bind fun a15 =>
 (binA .shr (Go.TypeDesc.int Go.IntKind.u32) (cmpT Tryd.prog) true a7 (.int .u64 10)).bind fun a16 =>
 (binA .xor (Go.TypeDesc.int Go.IntKind.u32) (cmpT Tryd.prog) false a15 a16).bind fun a17 =>
 (binA .sub (Go.TypeDesc.int Go.IntKind.i64) (cmpT Tryd.prog) true t7 (.int .i64 16)).bind fun a18 =>
 (ixA 1 t4 a18 H14).bind fun a19 =>
 (loadA false 1 a19 H14).bind fun a20 =>
 (binA .add (Go.TypeDesc.int Go.IntKind.u32) (cmpT Tryd.prog) false a20 a12).bind fun a21 =>
 (binA .sub (Go.TypeDesc.int Go.IntKind.i64) (cmpT Tryd.prog) true t7 (.int .i64 7)).bind fun a22 =>
 (ixA 1 t4 a22 H14).bind fun a23 =>
 (loadA false 1 a23 H14).bind fun a24 =>
 (binA .add (Go.TypeDesc.int Go.IntKind.u32) (cmpT Tryd.prog) false a21 a24).bind fun a25 =>
 (binA .add (Go.TypeDesc.int Go.IntKind.u32) (cmpT Tryd.prog) false a25 a17).bind fun a26 =>
 (ixA 1 t4 t7 H14).bind fun a27 =>
 stoK 1 a27 a26 H14 fun H28 E28 =>
 (binA .add (Go.TypeDesc.int Go.IntKind.i64) (cmpT Tryd.prog) true t7 (.int .i64 1)).bind fun a29 =>
 sha_Words_J10 n t4 a29 H28 ((E28 ++ (E14 ++ (E13 ++ (E9 ++ (E8 ++ []))))) ++ E))
 (endB false false n (.tup [t4, .nili]) H E)) = some r) : sha_Words_J10 n t4 t7 H E = some r :=
 loop_step' (by kernel_rfl) hh
theorem sha_Words_of {r : R3} {x0 : AV} {H : List AObj} (hh : (fun n => (
 (lenV x0 H).bind fun a1 =>
 (binA .neq (Go.TypeDesc.int Go.IntKind.i64) (cmpT Tryd.prog) true a1 (.int .i64 64)).bind fun a2 =>
 condK a2
 (endB false false n (.tup [.nils, (.ifc t_api_Code (.int .i64 1))]) H [])
 (mkK 1 4 (.int .u32 0) (.int .i64 64) (.int .i64 64) H fun a3 H3 E3 =>
 (lenV x0 H3).bind fun a4 =>
 sha_Words_J5 n a3 x0 a4 (.int .i64 0) H3 (E3 ++ [])))) (List.length H) = some r) : EV C n_sha_Words [x0] H = some r :=
 EV_of_fnK' (fn := Tryd.f106) (by kernel_rfl) (by kernel_rfl) (by kernel_rfl) hh
theorem sha_Round_of {r : R3} {x0 x1 x2 : AV} {H : List AObj} (hh : (fun n => (
 newK x0 H fun a1 H1 E1 =>
 newK (.agg [(.int .u32 0), (.int .u32 0), (.int .u32 0), (.int .u32 0), (.int .u32 0), (.int .u32 0), (.int .u32 0), (.int .u32 0)]) H1 fun a2 H2 E2 =>
 (arA 8 1 a1 (.int .i64 0)).bind fun a3 =>
 (loadA false 1 a3 H2).bind fun a4 =>
 (arA 8 1 a1 (.int .i64 1)).bind fun a5 =>
 (loadA false 1 a5 H2).bind fun a6 =>
 (arA 8 1 a1 (.int .i64 2)).bind fun a7 =>
 (loadA false 1 a7 H2).bind fun a8 =>
 (arA 8 1 a1 (.int .i64 4)).bind fun a9 =>
 (loadA false 1 a9 H2).bind fun a10 =>
 (arA 8 1 a1 (.int .i64 5)).bind fun a11 =>
 (loadA false 1 a11 H2).bind fun a12 =>
 (arA 8 1 a1 (.int .i64 6)).bind fun a13 =>
 (loadA false 1 a13 H2).bind fun a14 =>
 (arA 8 1 a1 (.int .i64 7)).bind fun a15 =>
 (loadA false 1 a15 H2).bind fun a16 =>
 (callD (EV C) n_math_bits_RotateLeft32 [a10, (.int .i64 (-6))] H2).bind fun a17 =>
 (callD (EV C) n_math_bits_RotateLeft32 [a10, (.int .i64 (-11))] H2).bind fun a18 =>
 (binA .xor (Go.TypeDesc.int Go.IntKind.u32) (cmpT Tryd.prog) false a17 a18).bind fun a19 =>
 (callD (EV C) n_math_bits_RotateLeft32 [a10, (.int .i64 (-25))] H2).bind fun a20 =>
 (binA .xor (Go.TypeDesc.int Go.IntKind.u32) (cmpT Tryd.prog) false a19 a20).bind fun a21 =>
 (binA .add (Go.TypeDesc.int Go.IntKind.u32) (cmpT Tryd.prog) false a16 a21).bind fun a22 =>
 (binA .and (Go.TypeDesc.int Go.IntKind.u32) (cmpT Tryd.prog) false a10 a12).bind fun a23 =>
 (unA .xor a10).bind fun a24 =>
 (binA .and (Go.TypeDesc.int Go.IntKind.u32) (cmpT Tryd.prog) false a24 a14).bind fun a25 =>
 (binA .xor (Go.TypeDesc.int Go.IntKind.u32) (cmpT Tryd.prog) false a23 a25).bind fun a26 =>
 (binA .add (Go.TypeDesc.int Go.IntKind.u32) (cmpT Tryd.prog) false a22 a26).bind fun a27 =>
 (binA .add (Go.TypeDesc.int Go.IntKind.u32) (cmpT Tryd.prog) false a27 x1).bind fun a28 =>
 (binA .add (Go.TypeDesc.int Go.IntKind.u32) (cmpT Tryd.prog) false a28 x2).bind fun a29 =>
 callK (EV C) false n_math_bits_RotateLeft32 [a4, (.int .i64 (-2))] H2 fun a30 H30 E30 =>
 callK (EV C) false n_math_bits_RotateLeft32 [a4, (.int .i64 (-13))] H30 fun a31 H31 E31 =>
 (binA .xor (Go.TypeDesc.int Go.IntKind.u32) (cmpT Tryd.prog) false a30 a31).bind fun a32 =>
 callK (EV C) false n_math_bits_RotateLeft32 [a4, (.int .i64 (-22))] H31 fun a33 H33 E33 =>
 (binA .xor (Go.TypeDesc.int Go.IntKind.u32) (cmpT Tryd.prog) false a32 a33).bind fun a34 =>
 (binA .and (Go.TypeDesc.int Go.IntKind.u32) (cmpT Tryd.prog) false a4 a6).bind fun a35 =>
 (binA .and (Go.TypeDesc.int Go.IntKind.u32) (cmpT Tryd.prog) false a4 a8).bind fun a36 =>
 (binA .xor (Go.TypeDesc.int Go.IntKind.u32) (cmpT Tryd.prog) false a35 a36).bind fun a37 =>
 (binA .and (Go.TypeDesc.int Go.IntKind.u32) (cmpT Tryd.prog) false a6 a8).bind fun a38 =>
 (binA .xor (Go.TypeDesc.int Go.IntKind.u32) (cmpT Tryd.prog) false a37 a38).bind fun a39 =>
 (binA .add (Go.TypeDesc.int Go.IntKind.u32) (cmpT Tryd.prog) false a34 a39).bind fun a40 =>
 (binA .add (Go.TypeDesc.int Go.IntKind.u32) (cmpT Tryd.prog) false a29 a40).bind fun a41 =>
 (arA 8 1 a1 (.int .i64 3)).bind fun a42 =>
 (loadA false 1 a42 H33).bind fun a43 =>
 (binA .add (Go.TypeDesc.int Go.IntKind.u32) (cmpT Tryd.prog) false a43 a29).bind fun a44 =>
 (fillB (AV.cells (.agg [(.int .u32 0), (.int .u32 0), (.int .u32 0), (.int .u32 0), (.int .u32 0), (.int .u32 0), (.int .u32 0), (.int .u32 0)])) [(0, 1, a41), (1, 1, a4), (2, 1, a6), (3, 1, a8), (4, 1, a44), (5, 1, a10), (6, 1, a12), (7, 1, a14)]).bind fun c45 =>
 stoK 8 a2 (.agg c45) H33 fun H46 E46 =>
 (loadA true 8 a2 H46).bind fun a47 =>
 endB false false n a47 H46 (E46 ++ (E33 ++ (E31 ++ (E30 ++ (E2 ++ (E1 ++ [])))))))) (List.length H) = some r) : EV C n_sha_Round [x0, x1, x2] H = some r :=
 EV_of_fnK' (fn := Tryd.f107) (by kernel_rfl) (by kernel_rfl) (by kernel_rfl) hh
noncomputable def sha_Step_J6 (n : Nat) (t2 t4 t8 t22 t23 t24 : AV) (H : List AObj) (E : List Nat) : Option R3 :=
 loopK Tryd.prog C.G (EV C) (C.hint 91) Tryd.f91 (cAt (bodyOf Tryd.f91) [1, 1, 1, 1, 0, 1, 0, 0]) (kAt Tryd.prog C.G (EV C) (C.hint 91) Tryd.f91 (bodyOf Tryd.f91) [1, 1, 1, 1, 0, 1, 0] [] (endK Tryd.prog (C.hint 91) Tryd.f91 n))
 ⟨pat 49 [(2, t2), (4, t4), (8, t8), (22, t22), (23, t23), (24, t24)], H, E⟩
noncomputable def sha_Step_J11 (n : Nat) (t2 t4 t8 t36 : AV) (H : List AObj) (E : List Nat) : Option R3 :=
 loopK Tryd.prog C.G (EV C) (C.hint 91) Tryd.f91 (cAt (bodyOf Tryd.f91) [1, 1, 1, 1, 1, 0, 1, 0, 0]) (kAt Tryd.prog C.G (EV C) (C.hint 91) Tryd.f91 (bodyOf Tryd.f91) [1, 1, 1, 1, 1, 0, 1, 0] [] (endK Tryd.prog (C.hint 91) Tryd.f91 n))
 ⟨pat 49 [(2, t2), (4, t4), (8, t8), (36, t36)], H, E⟩
theorem sha_Step_J6_of {r : R3} {n : Nat} {t2 t4 t8 t22 t23 t24 : AV} {H : List AObj} {E : List Nat} (hh : (
 (binA .lss (Go.TypeDesc.int Go.IntKind.i64) (cmpT Tryd.prog) false t24 t23).bind fun a1 =>
 condK a1
 ((ixA 1 t22 t24 H).bind fun a2 =>
 (loadA false 1 a2 H).bind fun a3 =>
 (loadA true 8 t8 H).bind fun a4 =>
 (arA 64 1 (.ip gl_constants) t24).bind fun a5 =>
 (loadA false 1 a5 H).bind fun a6 =>
 (callD (EV C) n_sha_Round [a4, a6, a3] H).bind fun a7 =>
 stoK 8 t8 a7 H fun H8 E8 =>
 (binA .add (Go.TypeDesc.int Go.IntKind.i64) (cmpT Tryd.prog) true t24 (.int .i64 1)).bind fun a9 =>
 sha_Step_J6 n t2 t4 t8 t22 t23 a9 H8 ((E8 ++ []) ++ E))
 (sha_Step_J11 n t2 t4 t8 (.int .i64 0) H E)) = some r) : sha_Step_J6 n t2 t4 t8 t22 t23 t24 H E = some r :=
 loop_step' (by kernel_rfl) hh
theorem sha_Step_J11_of {r : R3} {n : Nat} {t2 t4 t8 t36 : AV} {H : List AObj} {E : List Nat} (hh : (
 (binA .lss (Go.TypeDesc.int Go.IntKind.i64) (cmpT Tryd.prog) true t36 (.int .i64 8)).bind fun a1 =>
 condK a1
 ((arA 8 1 t2 t36).bind fun a2 =>
 (loadA false 1 a2 H).bind fun a3 =>
 (arA 8 1 t8 t36).bind fun a4 =>
 (loadA false 1 a4 H).bind fun a5 =>
 (binA .add (Go.TypeDesc.int Go.IntKind.u32) (cmpT Tryd.prog) false a3 a5).bind fun a6 =>
 (arA 8 1 t2 t36).bind fun a7 =>
 stoK 1 a7 a6 H fun H8 E8 =>
 (binA .add (Go.TypeDesc.int Go.IntKind.i64) (cmpT Tryd.prog) true t36 (.int .i64 1)).bind fun a9 =>
 sha_Step_J11 n t2 t4 t8 a9 H8 ((E8 ++ []) ++ E))
 ((loadA true 8 t2 H).bind fun a10 =>
 stoK 8 t4 a10 H fun H11 E11 =>
 (loadA true 8 t4 H11).bind fun a12 =>
 endB false false n (.tup [a12, .nili]) H11 (E11 ++ E))) = some r) : sha_Step_J11 n t2 t4 t8 t36 H E = some r :=
 loop_step' (by kernel_rfl) hh
theorem sha_Step_of {r : R3} {x0 x1 : AV} {H : List AObj} (hh : (fun n => (
 newK x0 H fun a1 H1 E1 =>
 newK (.agg [(.int .u32 0), (.int .u32 0), (.int .u32 0), (.int .u32 0), (.int .u32 0), (.int .u32 0), (.int .u32 0), (.int .u32 0)]) H1 fun a2 H2 E2 =>
 callK (EV C) false n_sha_Words [x1] H2 fun a3 H3 E3 =>
 (extA a3 0).bind fun a4 =>
 (extA a3 1).bind fun a5 =>
 (binA .neq (Go.TypeDesc.interface #[("Error", 138)]) (cmpT Tryd.prog) true a5 .nili).bind fun a6 =>
 condK a6
 ((fillB (AV.cells (.agg [(.int .u32 0), (.int .u32 0), (.int .u32 0), (.int .u32 0), (.int .u32 0), (.int .u32 0), (.int .u32 0), (.int .u32 0)])) []).bind fun c7 =>
 stoK 8 a2 (.agg c7) H3 fun H8 E8 =>
 (loadA true 8 a2 H8).bind fun a9 =>
 endB false false n (.tup [a9, a5]) H8 (E8 ++ (E3 ++ (E2 ++ (E1 ++ [])))))
 ((loadA true 8 a1 H3).bind fun a10 =>
 newK (.agg [(.int .u32 0), (.int .u32 0), (.int .u32 0), (.int .u32 0), (.int .u32 0), (.int .u32 0), (.int .u32 0), (.int .u32 0)]) H3 fun a11 H11 E11 =>
 stoK 8 a11 a10 H11 fun H12 E12 =>
 (lenV a4 H12).bind fun a13 =>
 sha_Step_J6 n a1 a2 a11 a4 a13 (.int .i64 0) H12 (E12 ++ (E11 ++ (E3 ++ (E2 ++ (E1 ++ [])))))))) (List.length H) = some r) : EV C n_sha_Step [x0, x1] H = some r :=
 EV_of_fnK' (fn := Tryd.f91) (by kernel_rfl) (by kernel_rfl) (by kernel_rfl) hh
noncomputable def sha_Sum_J8 (n : Nat) (t7 t37 t38 : AV) (H : List AObj) (E : List Nat) : Option R3 :=
 loopK Tryd.prog C.G (EV C) (C.hint 66) Tryd.f66 (cAt (bodyOf Tryd.f66) [1, 1, 1, 1, 1, 1, 0, 1, 0, 0]) (kAt Tryd.prog C.G (EV C) (C.hint 66) Tryd.f66 (bodyOf Tryd.f66) [1, 1, 1, 1, 1, 1, 0, 1, 0] [] (endK Tryd.prog (C.hint 66) Tryd.f66 n))
 ⟨pat 76 [(7, t7), (37, t37), (38, t38)], H, E⟩
noncomputable def sha_Sum_J10 (n : Nat) (Ha : List AObj) (Ea : List Nat) (t7 t9 t37 t38 : AV) (H : List AObj) (E : List Nat) : Option R3 :=
 loopK Tryd.prog C.G (EV C) (C.hint 66) Tryd.f66 (cAt (bodyOf Tryd.f66) [1, 1, 1, 1, 1, 1, 0, 1, 0, 0, 1, 1, 0, 0, 1, 0, 0]) (kAt Tryd.prog C.G (EV C) (C.hint 66) Tryd.f66 (bodyOf Tryd.f66) [1, 1, 1, 1, 1, 1, 0, 1, 0, 0, 1, 1, 0, 0, 1, 0] [(Ha, Ea)] (endK Tryd.prog (C.hint 66) Tryd.f66 n))
 ⟨pat 76 [(7, t7), (9, t9), (37, t37), (38, t38)], H, E⟩
noncomputable def sha_Sum_J18 (n : Nat) (t10 t56 t57 : AV) (H : List AObj) (E : List Nat) : Option R3 :=
 loopK Tryd.prog C.G (EV C) (C.hint 66) Tryd.f66 (cAt (bodyOf Tryd.f66) [1, 1, 1, 1, 1, 1, 1, 1, 0, 1, 0, 0]) (kAt Tryd.prog C.G (EV C) (C.hint 66) Tryd.f66 (bodyOf Tryd.f66) [1, 1, 1, 1, 1, 1, 1, 1, 0, 1, 0] [] (endK Tryd.prog (C.hint 66) Tryd.f66 n))
 ⟨pat 76 [(10, t10), (56, t56), (57, t57)], H, E⟩
theorem sha_Sum_J8_of {r : R3} {n : Nat} {t7 t37 t38 : AV} {H : List AObj} {E : List Nat} (hh : (
 (binA .lss (Go.TypeDesc.int Go.IntKind.i64) (cmpT Tryd.prog) true t38 (.int .i64 2)).bind fun a1 =>
 condK a1
 ((ixV 2 false 1 t37 t38).bind fun a2 =>
 sha_Sum_J10 n H E t7 a2 t37 t38 H [])
 ((loadA true 8 t7 (H ++ [.vrow])).bind fun a3 =>
 sha_Sum_J18 n (.slc (List.length H) 0 0 0) a3 (.int .i64 0) (H ++ [.vrow]) E)) = some r) : sha_Sum_J8 n t7 t37 t38 H E = some r :=
 loop_step' (by kernel_rfl) hh
theorem sha_Sum_J10_of {r : R3} {n : Nat} {Ha : List AObj} {Ea : List Nat} {t7 t9 t37 t38 : AV} {H : List AObj} {E : List Nat} (hh : (
 (lenV t9 H).bind fun a1 =>
 (binA .gtr (Go.TypeDesc.int Go.IntKind.i64) (cmpT Tryd.prog) true a1 (.int .i64 0)).bind fun a2 =>
 condK a2
 ((loadA true 8 t7 H).bind fun a3 =>
 (cutA 1 t9 none (some (.int .i64 64)) none H).bind fun a4 =>
 (callD (EV C) n_sha_Step [a3, a4] H).bind fun a5 =>
 (extA a5 0).bind fun a6 =>
 (extA a5 1).bind fun a7 =>
 stoK 8 t7 a6 H fun H8 E8 =>
 (binA .neq (Go.TypeDesc.interface #[("Error", 138)]) (cmpT Tryd.prog) true a7 .nili).bind fun a9 =>
 condK a9
 (endB false false n .nils H8 (((E8 ++ []) ++ E) ++ Ea))
 ((cutA 1 t9 (some (.int .i64 64)) none none H8).bind fun a10 =>
 sha_Sum_J10 n Ha Ea t7 a10 t37 t38 H8 ((E8 ++ []) ++ E)))
 ((binA .add (Go.TypeDesc.int Go.IntKind.i64) (cmpT Tryd.prog) true t38 (.int .i64 1)).bind fun a11 =>
 sha_Sum_J8 n t7 t37 a11 H (E ++ Ea))) = some r) : sha_Sum_J10 n Ha Ea t7 t9 t37 t38 H E = some r :=
 loop_step' (by kernel_rfl) hh
theorem sha_Sum_J18_of {r : R3} {n : Nat} {t10 t56 t57 : AV} {H : List AObj} {E : List Nat} (hh : (
 (binA .lss (Go.TypeDesc.int Go.IntKind.i64) (cmpT Tryd.prog) true t57 (.int .i64 8)).bind fun a1 =>
 condK a1
 ((ixV 8 false 1 t56 t57).bind fun a2 =>
 (binA .shr (Go.TypeDesc.int Go.IntKind.u32) (cmpT Tryd.prog) true a2 (.int .u64 24)).bind fun a3 =>
 (cvI .u8 a3).bind fun a4 =>
 (binA .shr (Go.TypeDesc.int Go.IntKind.u32) (cmpT Tryd.prog) true a2 (.int .u64 16)).bind fun a5 =>
 (cvI .u8 a5).bind fun a6 =>
 (binA .shr (Go.TypeDesc.int Go.IntKind.u32) (cmpT Tryd.prog) true a2 (.int .u64 8)).bind fun a7 =>
 (cvI .u8 a7).bind fun a8 =>
 (cvI .u8 a2).bind fun a9 =>
 litK 1 4 (.int .u8 0) [(0, a4), (1, a6), (2, a8), (3, a9)] H fun a10 H10 E10 =>
 appK 1 1 t10 a10 H10 fun a11 H11 E11 =>
 (binA .add (Go.TypeDesc.int Go.IntKind.i64) (cmpT Tryd.prog) true t57 (.int .i64 1)).bind fun a12 =>
 sha_Sum_J18 n a11 t56 a12 H11 ((E11 ++ (E10 ++ [])) ++ E))
 (endB false false n t10 H E)) = some r) : sha_Sum_J18 n t10 t56 t57 H E = some r :=
 loop_step' (by kernel_rfl) hh
theorem sha_Sum_of {r : R3} {x0 : AV} {H : List AObj} (hh : (fun n => (
 (lenV x0 H).bind fun a1 =>
 callK (EV C) false n_sha_Tail [a1] H fun a2 H2 E2 =>
 (extA a2 0).bind fun a3 =>
 (extA a2 1).bind fun a4 =>
 (binA .neq (Go.TypeDesc.interface #[("Error", 138)]) (cmpT Tryd.prog) true a4 .nili).bind fun a5 =>
 condK a5
 (endB false false n .nils H2 (E2 ++ []))
 ((lenV x0 H2).bind fun a6 =>
 (binA .quo (Go.TypeDesc.int Go.IntKind.i64) (cmpT Tryd.prog) true a6 (.int .i64 64)).bind fun a7 =>
 (binA .mul (Go.TypeDesc.int Go.IntKind.i64) (cmpT Tryd.prog) true a7 (.int .i64 64)).bind fun a8 =>
 rawK 1 0 (.int .u8 0) [] H2 fun a9 H9 E9 =>
 (cutA 1 x0 (some a8) none none H9).bind fun a10 =>
 appK 1 1 a9 a10 H9 fun a11 H11 E11 =>
 appK 1 1 a11 a3 H11 fun a12 H12 E12 =>
 (loadA true 8 (.ip gl_first) H12).bind fun a13 =>
 newK (.agg [(.int .u32 0), (.int .u32 0), (.int .u32 0), (.int .u32 0), (.int .u32 0), (.int .u32 0), (.int .u32 0), (.int .u32 0)]) H12 fun a14 H14 E14 =>
 stoK 8 a14 a13 H14 fun H15 E15 =>
 (cutA 1 x0 none (some a8) none H15).bind fun a16 =>
 (fillB (AV.cells (.agg [.nils, .nils])) [(0, 1, a16), (1, 1, a12)]).bind fun c17 =>
 sha_Sum_J8 n a14 (.agg c17) (.int .i64 0) H15 (E15 ++ (E14 ++ (E12 ++ (E11 ++ (E9 ++ (E2 ++ []))))))))) (List.length H) = some r) : EV C n_sha_Sum [x0] H = some r :=
 EV_of_fnK' (fn := Tryd.f66) (by kernel_rfl) (by kernel_rfl) (by kernel_rfl) hh
theorem math_bits_RotateLeft32_of {r : R3} {x0 x1 : AV} {H : List AObj} (hh : (fun n => (
 (cvI .u64 x1).bind fun a1 =>
 (binA .and (Go.TypeDesc.int Go.IntKind.u64) (cmpT Tryd.prog) true a1 (.int .u64 31)).bind fun a2 =>
 (binA .shl (Go.TypeDesc.int Go.IntKind.u32) (cmpT Tryd.prog) false x0 a2).bind fun a3 =>
 (binA .sub (Go.TypeDesc.int Go.IntKind.u64) (cmpT Tryd.prog) true (.int .u64 32) a2).bind fun a4 =>
 (binA .shr (Go.TypeDesc.int Go.IntKind.u32) (cmpT Tryd.prog) false x0 a4).bind fun a5 =>
 (binA .or (Go.TypeDesc.int Go.IntKind.u32) (cmpT Tryd.prog) false a3 a5).bind fun a6 =>
 endB false false n a6 H [])) (List.length H) = some r) : EV C n_math_bits_RotateLeft32 [x0, x1] H = some r :=
 EV_of_fnK' (fn := Tryd.f117) (by kernel_rfl) (by kernel_rfl) (by kernel_rfl) hh
end Go.Pm
