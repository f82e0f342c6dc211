/- A part of the proof: what the functions of the program answer, as plain lists and numbers. -/
import Derived.Test.YtclfnechcblmoaaDoorP9
namespace Go.Pm
open Go.Proofs
set_option linter.unusedVariables false
set_option maxRecDepth 100000
theorem digest_width_of {r : R3} {x0 : AV} {H : List AObj} (hh : (fun n => (
 (binA .geq (Go.TypeDesc.int Go.IntKind.i64) (cmpT Tryd.prog) true x0 (.int .i64 1)).bind fun a1 =>
 splitK a1
 ((binA .leq (Go.TypeDesc.int Go.IntKind.i64) (cmpT Tryd.prog) true x0 (.int .i64 32)).bind fun a2 =>
 endB false false n a2 H [])
 (endB false false n (.bool false) H []))) (List.length H) = some r) : EV C n_digest_width [x0] H = some r :=
 EV_of_fnK' (fn := Tryd.f65) (by kernel_rfl) (by kernel_rfl) (by kernel_rfl) hh
theorem digest_None_of {r : R3} {H : List AObj} (hh : (fun n => (
 litK 1 1 (.int .u8 0) [(0, (.int .u8 3))] H fun a1 H1 E1 =>
 endB false false n a1 H1 (E1 ++ []))) (List.length H) = some r) : EV C n_digest_None [] H = some r :=
 EV_of_fnK' (fn := Tryd.f82) (by kernel_rfl) (by kernel_rfl) (by kernel_rfl) hh
theorem digest_Value_of {r : R3} {x0 : AV} {H : List AObj} (hh : (fun n => (
 rawK 1 1 (.int .u8 0) [(0, (.int .u8 0))] H fun a1 H1 E1 =>
 appK 1 1 a1 x0 H1 fun a2 H2 E2 =>
 endB false false n a2 H2 (E2 ++ (E1 ++ [])))) (List.length H) = some r) : EV C n_digest_Value [x0] H = some r :=
 EV_of_fnK' (fn := Tryd.f83) (by kernel_rfl) (by kernel_rfl) (by kernel_rfl) hh
theorem digest_Pair_of {r : R3} {x0 x1 x2 : AV} {H : List AObj} (hh : (fun n => (
 callK (EV C) false n_digest_width [x0] H fun a1 H1 E1 =>
 (unA .not a1).bind fun a2 =>
 splitK a2
 (endB false false n (.tup [.nils, (.ifc t_api_Code (.int .i64 1))]) H1 (E1 ++ []))
 ((lenV x2 H1).bind fun a3 =>
 (binA .neq (Go.TypeDesc.int Go.IntKind.i64) (cmpT Tryd.prog) false a3 x0).bind fun a4 =>
 condK a4
 (endB false false n (.tup [.nils, (.ifc t_api_Code (.int .i64 1))]) H1 (E1 ++ []))
 (litK 1 1 (.int .u8 0) [(0, (.int .u8 1))] H1 fun a5 H5 E5 =>
 callK (EV C) false n_coder_Bytes [x1] H5 fun a6 H6 E6 =>
 litK 1 3 .nils [(0, a5), (1, a6), (2, x2)] H6 fun a7 H7 E7 =>
 callK (EV C) false n_Concat_byte [a7] H7 fun a8 H8 E8 =>
 endB false false n (.tup [a8, .nili]) H8 (E8 ++ (E7 ++ (E6 ++ (E5 ++ (E1 ++ []))))))))) (List.length H) = some r) : EV C n_digest_Pair [x0, x1, x2] H = some r :=
 EV_of_fnK' (fn := Tryd.f84) (by kernel_rfl) (by kernel_rfl) (by kernel_rfl) hh
theorem digest_Node_of {r : R3} {x0 x1 x2 x3 : AV} {H : List AObj} (hh : (fun n => (
 callK (EV C) false n_digest_width [x0] H fun a1 H1 E1 =>
 (unA .not a1).bind fun a2 =>
 splitK a2
 (endB false false n (.tup [.nils, (.ifc t_api_Code (.int .i64 1))]) H1 (E1 ++ []))
 ((lenV x1 H1).bind fun a3 =>
 (binA .neq (Go.TypeDesc.int Go.IntKind.i64) (cmpT Tryd.prog) false a3 x0).bind fun a4 =>
 splitK a4
 (endB false false n (.tup [.nils, (.ifc t_api_Code (.int .i64 1))]) H1 (E1 ++ []))
 ((lenV x2 H1).bind fun a5 =>
 (binA .neq (Go.TypeDesc.int Go.IntKind.i64) (cmpT Tryd.prog) false a5 x0).bind fun a6 =>
 splitK a6
 (endB false false n (.tup [.nils, (.ifc t_api_Code (.int .i64 1))]) H1 (E1 ++ []))
 ((lenV x3 H1).bind fun a7 =>
 (binA .neq (Go.TypeDesc.int Go.IntKind.i64) (cmpT Tryd.prog) false a7 x0).bind fun a8 =>
 condK a8
 (endB false false n (.tup [.nils, (.ifc t_api_Code (.int .i64 1))]) H1 (E1 ++ []))
 (litK 1 1 (.int .u8 0) [(0, (.int .u8 2))] H1 fun a9 H9 E9 =>
 litK 1 4 .nils [(0, a9), (1, x1), (2, x2), (3, x3)] H9 fun a10 H10 E10 =>
 callK (EV C) false n_Concat_byte [a10] H10 fun a11 H11 E11 =>
 endB false false n (.tup [a11, .nili]) H11 (E11 ++ (E10 ++ (E9 ++ (E1 ++ [])))))))))) (List.length H) = some r) : EV C n_digest_Node [x0, x1, x2, x3] H = some r :=
 EV_of_fnK' (fn := Tryd.f86) (by kernel_rfl) (by kernel_rfl) (by kernel_rfl) hh
theorem digest_Of_of {r : R3} {x0 x1 : AV} {H : List AObj} (hh : (fun n => (
 callK (EV C) false n_digest_width [x0] H fun a1 H1 E1 =>
 (unA .not a1).bind fun a2 =>
 condK a2
 (endB false false n (.tup [.nils, (.ifc t_api_Code (.int .i64 1))]) H1 (E1 ++ []))
 (callK (EV C) false n_sha_Sum [x1] H1 fun a3 H3 E3 =>
 (cutA 1 a3 none (some x0) none H3).bind fun a4 =>
 callK (EV C) false n_Clone_byte [a4] H3 fun a5 H5 E5 =>
 endB false false n (.tup [a5, .nili]) H5 (E5 ++ (E3 ++ (E1 ++ [])))))) (List.length H) = some r) : EV C n_digest_Of [x0, x1] H = some r :=
 EV_of_fnK' (fn := Tryd.f32) (by kernel_rfl) (by kernel_rfl) (by kernel_rfl) hh
theorem coder_Bytes_of {r : R3} {x0 : AV} {H : List AObj} (hh : (fun n => (
 (lenV x0 H).bind fun a1 =>
 (cvI .u64 a1).bind fun a2 =>
 callK (EV C) true n_coder_Number [a2] H fun a3 H3 E3 =>
 appK 1 1 a3 x0 H3 fun a4 H4 E4 =>
 endB false false n a4 H4 (E4 ++ (E3 ++ [])))) (List.length H) = some r) : EV C n_coder_Bytes [x0] H = some r :=
 EV_of_fnK' (fn := Tryd.f102) (by kernel_rfl) (by kernel_rfl) (by kernel_rfl) hh
noncomputable def coder_Number_J4 (n : Nat) (t0 t3 : AV) (H : List AObj) (E : List Nat) : Option R3 :=
 loopK Tryd.prog C.G (EV C) (C.hint 114) Tryd.f114 (cAt (bodyOf Tryd.f114) [1, 1, 1, 0, 0, 0]) (kAt Tryd.prog C.G (EV C) (C.hint 114) Tryd.f114 (bodyOf Tryd.f114) [1, 1, 1, 0, 0] [] (endK Tryd.prog (C.hint 114) Tryd.f114 n))
 ⟨pat 43 [(0, t0), (3, t3)], H, E⟩
theorem coder_Number_of {r : R3} {x0 : AV} {H : List AObj} (hh : (fun n => (
 (binA .leq (Go.TypeDesc.int Go.IntKind.u64) (cmpT Tryd.prog) true x0 (.int .u64 247)).bind fun a1 =>
 condK a1
 ((cvI .u8 x0).bind fun a2 =>
 rawK 1 1 (.int .u8 0) [(0, a2)] H fun a3 H3 E3 =>
 endB true true n a3 H3 (E3 ++ []))
 (coder_Number_J4 n x0 (.int .i64 1) H []))) (List.length H) = some r) : EV C n_coder_Number [x0] H = some r :=
 EV_of_fnK' (fn := Tryd.f114) (by kernel_rfl) (by kernel_rfl) (by kernel_rfl) hh
theorem Clone_byte_of {r : R3} {x0 : AV} {H : List AObj} (hh : (fun n => (
 (binA .eql (Go.TypeDesc.slice 5) (cmpT Tryd.prog) true x0 .nils).bind fun a1 =>
 condK a1
 (endB false false n .nils H [])
 (rawK 1 0 (.int .u8 0) [] H fun a2 H2 E2 =>
 appK 1 1 a2 x0 H2 fun a3 H3 E3 =>
 endB false false n a3 H3 (E3 ++ (E2 ++ []))))) (List.length H) = some r) : EV C0 n_Clone_byte [x0] H = some r :=
 EV_of_fnK' (fn := Tryd.f51) (by kernel_rfl) (by kernel_rfl) (by kernel_rfl) hh
noncomputable def Concat_byte_J3 (n : Nat) (t0 t3 t9 t10 t11 : AV) (H : List AObj) (E : List Nat) : Option R3 :=
 loopK Tryd.prog C.G (EV C) (C.hint 101) Tryd.f101 (cAt (bodyOf Tryd.f101) [1, 1, 0, 1, 0, 0]) (kAt Tryd.prog C.G (EV C) (C.hint 101) Tryd.f101 (bodyOf Tryd.f101) [1, 1, 0, 1, 0] [] (endK Tryd.prog (C.hint 101) Tryd.f101 n))
 ⟨pat 36 [(0, t0), (3, t3), (9, t9), (10, t10), (11, t11)], H, E⟩
noncomputable def Concat_byte_J11 (n : Nat) (t6 t25 t26 t27 : AV) (H : List AObj) (E : List Nat) : Option R3 :=
 loopK Tryd.prog C.G (EV C) (C.hint 101) Tryd.f101 (cAt (bodyOf Tryd.f101) [1, 1, 1, 1, 0, 1, 0, 0]) (kAt Tryd.prog C.G (EV C) (C.hint 101) Tryd.f101 (bodyOf Tryd.f101) [1, 1, 1, 1, 0, 1, 0] [] (endK Tryd.prog (C.hint 101) Tryd.f101 n))
 ⟨pat 36 [(6, t6), (25, t25), (26, t26), (27, t27)], H, E⟩
theorem Concat_byte_J3_of {r : R3} {n : Nat} {t0 t3 t9 t10 t11 : AV} {H : List AObj} {E : List Nat} (hh : (
 (binA .lss (Go.TypeDesc.int Go.IntKind.i64) (cmpT Tryd.prog) false t11 t10).bind fun a1 =>
 condK a1
 ((ixA 1 t9 t11 H).bind fun a2 =>
 (loadA false 1 a2 H).bind fun a3 =>
 (lenV a3 H).bind fun a4 =>
 (binA .add (Go.TypeDesc.int Go.IntKind.i64) (cmpT Tryd.prog) false t3 a4).bind fun a5 =>
 (binA .lss (Go.TypeDesc.int Go.IntKind.i64) (cmpT Tryd.prog) true a5 (.int .i64 0)).bind fun a6 =>
 condK a6
 (none)
 ((binA .add (Go.TypeDesc.int Go.IntKind.i64) (cmpT Tryd.prog) true t11 (.int .i64 1)).bind fun a7 =>
 Concat_byte_J3 n t0 a5 t9 t10 a7 H E))
 (callK (EV C) true n_Grow_byte [.nils, t3] H fun a8 H8 E8 =>
 (lenV t0 H8).bind fun a9 =>
 Concat_byte_J11 n a8 t0 a9 (.int .i64 0) H8 (E8 ++ E))) = some r) : Concat_byte_J3 n t0 t3 t9 t10 t11 H E = some r :=
 loop_step' (by kernel_rfl) hh
theorem Concat_byte_J11_of {r : R3} {n : Nat} {t6 t25 t26 t27 : AV} {H : List AObj} {E : List Nat} (hh : (
 (binA .lss (Go.TypeDesc.int Go.IntKind.i64) (cmpT Tryd.prog) false t27 t26).bind fun a1 =>
 condK a1
 ((ixA 1 t25 t27 H).bind fun a2 =>
 (loadA false 1 a2 H).bind fun a3 =>
 appK 1 1 t6 a3 H fun a4 H4 E4 =>
 (binA .add (Go.TypeDesc.int Go.IntKind.i64) (cmpT Tryd.prog) true t27 (.int .i64 1)).bind fun a5 =>
 Concat_byte_J11 n a4 t25 t26 a5 H4 ((E4 ++ []) ++ E))
 (endB false false n t6 H E)) = some r) : Concat_byte_J11 n t6 t25 t26 t27 H E = some r :=
 loop_step' (by kernel_rfl) hh
theorem Concat_byte_of {r : R3} {x0 : AV} {H : List AObj} (hh : (fun n => (
 (lenV x0 H).bind fun a1 =>
 Concat_byte_J3 n x0 (.int .i64 0) x0 a1 (.int .i64 0) H [])) (List.length H) = some r) : EV C n_Concat_byte [x0] H = some r :=
 EV_of_fnK' (fn := Tryd.f101) (by kernel_rfl) (by kernel_rfl) (by kernel_rfl) hh
theorem Grow_byte_of {r : R3} {x0 x1 : AV} {H : List AObj} (hh : (fun n => (
 (binA .lss (Go.TypeDesc.int Go.IntKind.i64) (cmpT Tryd.prog) true x1 (.int .i64 0)).bind fun a1 =>
 condK a1
 (none)
 ((capA x0).bind fun a2 =>
 (lenV x0 H).bind fun a3 =>
 (binA .sub (Go.TypeDesc.int Go.IntKind.i64) (cmpT Tryd.prog) false a2 a3).bind fun a4 =>
 (binA .sub (Go.TypeDesc.int Go.IntKind.i64) (cmpT Tryd.prog) false x1 a4).bind fun a5 =>
 (binA .gtr (Go.TypeDesc.int Go.IntKind.i64) (cmpT Tryd.prog) true a5 (.int .i64 0)).bind fun a6 =>
 condK a6
 ((capA x0).bind fun a7 =>
 (cutA 1 x0 none (some a7) none H).bind fun a8 =>
 zapK 1 1 (.int .u8 0) a8 a5 H fun a9 H9 E9 =>
 (lenV x0 H9).bind fun a10 =>
 (cutA 1 a9 none (some a10) none H9).bind fun a11 =>
 trmK a11 H9 [] fun a12 H12 E12 =>
 endB true true n a12 H12 (E12 ++ (E9 ++ [])))
 (endB true true n x0 H [])))) (List.length H) = some r) : EV C n_Grow_byte [x0, x1] H = some r :=
 EV_of_fnK' (fn := Tryd.f113) (by kernel_rfl) (by kernel_rfl) (by kernel_rfl) hh
theorem bytes_Equal_of {r : R3} {x0 x1 : AV} {H : List AObj} (hh : (fun n => (
 (cvL x0 H).bind fun a1 =>
 (cvL x1 H).bind fun a2 =>
 (binA .eql Go.TypeDesc.string (cmpT Tryd.prog) false a1 a2).bind fun a3 =>
 endB false false n a3 H [])) (List.length H) = some r) : EV C n_bytes_Equal [x0, x1] H = some r :=
 EV_of_fnK' (fn := Tryd.f48) (by kernel_rfl) (by kernel_rfl) (by kernel_rfl) hh
end Go.Pm
