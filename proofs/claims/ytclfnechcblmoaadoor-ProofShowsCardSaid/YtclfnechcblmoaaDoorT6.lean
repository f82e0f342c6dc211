/- A part of the proof: what the functions of the program answer, as plain lists and numbers. -/
import Derived.Test.YtclfnechcblmoaaDoorT0
namespace Go.Pm
open Go.Proofs
set_option linter.unusedVariables false
set_option maxRecDepth 100000
/-! ### 105 heartwood/heartwoodref02.Number -/
noncomputable def ref02_Number_J4 (n : Nat) (t0 t3 : AV) (H : List AObj) (E : List Nat) : Option R3 :=
 loopK Tryd.prog C.G (EV C) (C.hint 105) Tryd.f105 (cAt (bodyOf Tryd.f105) [1, 1, 1, 0, 0, 0]) (kAt Tryd.prog C.G (EV C) (C.hint 105) Tryd.f105 (bodyOf Tryd.f105) [1, 1, 1, 0, 0] [] (endK Tryd.prog (C.hint 105) Tryd.f105 n))
 ⟨pat 26 [(0, t0), (3, t3)], H, E⟩
theorem ref02_Number_J4_of {r : R3} {n : Nat} {t0 t3 : AV} {H : List AObj} {E : List Nat} (hh : (
 (binA .gtr (Go.TypeDesc.int Go.IntKind.u64) (cmpT Tryd.prog) true t0 (.int .u64 0)).bind fun a1 =>
 condK a1
 ((binA .rem (Go.TypeDesc.int Go.IntKind.u64) (cmpT Tryd.prog) true t0 (.int .u64 256)).bind fun a2 =>
 (cvI .u8 a2).bind fun a3 =>
 rawK 1 1 (.int .u8 0) [(0, a3)] H fun a4 H4 E4 =>
 appK 1 1 a4 t3 H4 fun a5 H5 E5 =>
 (binA .quo (Go.TypeDesc.int Go.IntKind.u64) (cmpT Tryd.prog) true t0 (.int .u64 256)).bind fun a6 =>
 condB (List.all (E5 ++ (E4 ++ [])) (fun e => decide (List.length H ≤ e)) && (AV.bel (List.length H) a6 && (AV.bel (List.length H) a5 && true)))
 (ref02_Number_J4 n a6 a5 (List.take (List.length H) H5) E))
 ((lenV t3 H).bind fun a7 =>
 (binA .add (Go.TypeDesc.int Go.IntKind.i64) (cmpT Tryd.prog) true (.int .i64 247) a7).bind fun a8 =>
 (cvI .u8 a8).bind fun a9 =>
 rawK 1 1 (.int .u8 0) [(0, a9)] H fun a10 H10 E10 =>
 appK 1 1 a10 t3 H10 fun a11 H11 E11 =>
 endB true true n a11 H11 (E11 ++ (E10 ++ E)))) = some r) : ref02_Number_J4 n t0 t3 H E = some r :=
 loop_step' (by kernel_rfl) hh
theorem ref02_Number_of {r : R3} {x0 : AV} {H : List AObj} (hh : (fun n => (
 (binA .lss (Go.TypeDesc.int Go.IntKind.u64) (cmpT Tryd.prog) true x0 (.int .u64 248)).bind fun a1 =>
 condK a1
 ((cvI .u8 x0).bind fun a2 =>
 rawK 1 1 (.int .u8 0) [(0, a2)] H fun a3 H3 E3 =>
 endB true true n a3 H3 (E3 ++ []))
 (ref02_Number_J4 n x0 .nils H []))) (List.length H) = some r) : EV C n_ref02_Number [x0] H = some r :=
 EV_of_fnK' (fn := Tryd.f105) (by kernel_rfl) (by kernel_rfl) (by kernel_rfl) hh
/-! ### 89 heartwood/heartwoodref02.Bytes -/
theorem ref02_Bytes_of {r : R3} {x0 : AV} {H : List AObj} (hh : (fun n => (
 (lenV x0 H).bind fun a1 =>
 (cvI .u64 a1).bind fun a2 =>
 callK (EV C) true n_ref02_Number [a2] H fun a3 H3 E3 =>
 appK 1 1 a3 x0 H3 fun a4 H4 E4 =>
 endB false false n a4 H4 (E4 ++ (E3 ++ [])))) (List.length H) = some r) : EV C n_ref02_Bytes [x0] H = some r :=
 EV_of_fnK' (fn := Tryd.f89) (by kernel_rfl) (by kernel_rfl) (by kernel_rfl) hh
/-! ### 59 heartwood/heartwoodref03.Of -/
theorem ref03_Of_of {r : R3} {x0 x1 x2 : AV} {H : List AObj} (hh : (fun n => (
 newK x0 H fun a1 H1 E1 =>
 (loadA true 9 a1 H1).bind fun a2 =>
 callK (EV C) false n_ref01_Tables_Sum [a2, x2] H1 fun a3 H3 E3 =>
 (cutA 1 a3 none (some x1) none H3).bind fun a4 =>
 endB false false n a4 H3 (E3 ++ (E1 ++ [])))) (List.length H) = some r) : EV C n_ref03_Of [x0, x1, x2] H = some r :=
 EV_of_fnK' (fn := Tryd.f59) (by kernel_rfl) (by kernel_rfl) (by kernel_rfl) hh
/-! ### 60 heartwood/heartwoodref03.Value -/
theorem ref03_Value_of {r : R3} {x0 : AV} {H : List AObj} (hh : (fun n => (
 rawK 1 1 (.int .u8 0) [(0, (.int .u8 0))] H fun a1 H1 E1 =>
 appK 1 1 a1 x0 H1 fun a2 H2 E2 =>
 endB false false n a2 H2 (E2 ++ (E1 ++ [])))) (List.length H) = some r) : EV C n_ref03_Value [x0] H = some r :=
 EV_of_fnK' (fn := Tryd.f60) (by kernel_rfl) (by kernel_rfl) (by kernel_rfl) hh
/-! ### 61 heartwood/heartwoodref03.Pair -/
theorem ref03_Pair_of {r : R3} {x0 x1 : AV} {H : List AObj} (hh : (fun n => (
 rawK 1 1 (.int .u8 0) [(0, (.int .u8 1))] H fun a1 H1 E1 =>
 callK (EV C) false n_ref02_Bytes [x0] H1 fun a2 H2 E2 =>
 appK 1 1 a1 a2 H2 fun a3 H3 E3 =>
 appK 1 1 a3 x1 H3 fun a4 H4 E4 =>
 endB false false n a4 H4 (E4 ++ (E3 ++ (E2 ++ (E1 ++ [])))))) (List.length H) = some r) : EV C n_ref03_Pair [x0, x1] H = some r :=
 EV_of_fnK' (fn := Tryd.f61) (by kernel_rfl) (by kernel_rfl) (by kernel_rfl) hh
/-! ### 62 heartwood/heartwoodref03.Node -/
theorem ref03_Node_of {r : R3} {x0 x1 x2 : AV} {H : List AObj} (hh : (fun n => (
 rawK 1 1 (.int .u8 0) [(0, (.int .u8 2))] H fun a1 H1 E1 =>
 appK 1 1 a1 x0 H1 fun a2 H2 E2 =>
 appK 1 1 a2 x1 H2 fun a3 H3 E3 =>
 appK 1 1 a3 x2 H3 fun a4 H4 E4 =>
 endB false false n a4 H4 (E4 ++ (E3 ++ (E2 ++ (E1 ++ [])))))) (List.length H) = some r) : EV C n_ref03_Node [x0, x1, x2] H = some r :=
 EV_of_fnK' (fn := Tryd.f62) (by kernel_rfl) (by kernel_rfl) (by kernel_rfl) hh
/-! ### 67 heartwood/heartwoodref04.Deep -/
noncomputable def ref04_Deep_J5 (n : Nat) (t1 t2 t6 : AV) (H : List AObj) (E : List Nat) : Option R3 :=
 loopK Tryd.prog C.G (EV C) (C.hint 67) Tryd.f67 (cAt (bodyOf Tryd.f67) [1, 1, 1, 0, 1, 0, 0]) (kAt Tryd.prog C.G (EV C) (C.hint 67) Tryd.f67 (bodyOf Tryd.f67) [1, 1, 1, 0, 1, 0] [] (endK Tryd.prog (C.hint 67) Tryd.f67 n))
 ⟨pat 43 [(1, t1), (2, t2), (6, t6)], H, E⟩
theorem ref04_Deep_J5_of {r : R3} {n : Nat} {t1 t2 t6 : AV} {H : List AObj} {E : List Nat} (hh : (
 (offA t2 4).bind fun a1 =>
 (loadA false 1 a1 H).bind fun a2 =>
 (lenV a2 H).bind fun a3 =>
 (binA .lss (Go.TypeDesc.int Go.IntKind.i64) (cmpT Tryd.prog) false t6 a3).bind fun a4 =>
 condK a4
 ((offA t2 4).bind fun a5 =>
 (loadA false 1 a5 H).bind fun a6 =>
 (ixA 5 a6 t6 H).bind fun a7 =>
 (loadA true 5 a7 H).bind fun a8 =>
 (binA .sub (Go.TypeDesc.int Go.IntKind.i64) (cmpT Tryd.prog) true t1 (.int .i64 1)).bind fun a9 =>
 callK (EV C) false n_ref04_Deep [a8, a9] H fun a10 H10 E10 =>
 condK a10
 (endB false false n (.bool true) H10 ((E10 ++ []) ++ E))
 ((binA .add (Go.TypeDesc.int Go.IntKind.i64) (cmpT Tryd.prog) true t6 (.int .i64 1)).bind fun a11 =>
 ref04_Deep_J5 n t1 t2 a11 H10 ((E10 ++ []) ++ E)))
 (endB false false n (.bool false) H E)) = some r) : ref04_Deep_J5 n t1 t2 t6 H E = some r :=
 loop_step' (by kernel_rfl) hh
theorem ref04_Deep_of {r : R3} {x0 x1 : AV} {H : List AObj} (hh : (fun n => (
 newK x0 H fun a1 H1 E1 =>
 (offA a1 0).bind fun a2 =>
 (loadA false 1 a2 H1).bind fun a3 =>
 (binA .eql (Go.TypeDesc.int Go.IntKind.i64) (cmpT Tryd.prog) true a3 (.int .i64 1)).bind fun a4 =>
 splitK a4
 ((binA .eql (Go.TypeDesc.int Go.IntKind.i64) (cmpT Tryd.prog) true x1 (.int .i64 0)).bind fun a5 =>
 condK a5
 (endB false false n (.bool true) H1 (E1 ++ []))
 (ref04_Deep_J5 n x1 a1 (.int .i64 0) H1 (E1 ++ [])))
 ((offA a1 0).bind fun a6 =>
 (loadA false 1 a6 H1).bind fun a7 =>
 (binA .eql (Go.TypeDesc.int Go.IntKind.i64) (cmpT Tryd.prog) true a7 (.int .i64 2)).bind fun a8 =>
 splitK a8
 ((binA .eql (Go.TypeDesc.int Go.IntKind.i64) (cmpT Tryd.prog) true x1 (.int .i64 0)).bind fun a9 =>
 condK a9
 (endB false false n (.bool true) H1 (E1 ++ []))
 (ref04_Deep_J5 n x1 a1 (.int .i64 0) H1 (E1 ++ [])))
 ((offA a1 4).bind fun a10 =>
 (loadA false 1 a10 H1).bind fun a11 =>
 (lenV a11 H1).bind fun a12 =>
 (binA .gtr (Go.TypeDesc.int Go.IntKind.i64) (cmpT Tryd.prog) true a12 (.int .i64 0)).bind fun a13 =>
 splitK a13
 ((binA .eql (Go.TypeDesc.int Go.IntKind.i64) (cmpT Tryd.prog) true x1 (.int .i64 0)).bind fun a14 =>
 condK a14
 (endB false false n (.bool true) H1 (E1 ++ []))
 (ref04_Deep_J5 n x1 a1 (.int .i64 0) H1 (E1 ++ [])))
 (ref04_Deep_J5 n x1 a1 (.int .i64 0) H1 (E1 ++ [])))))) (List.length H) = some r) : EV C n_ref04_Deep [x0, x1] H = some r :=
 EV_of_fnK' (fn := Tryd.f67) (by kernel_rfl) (by kernel_rfl) (by kernel_rfl) hh
/-! ### 68 heartwood/heartwoodref04.Formed -/
noncomputable def ref04_Formed_J16 (n : Nat) (t1 t6 t7 t8 : AV) (H : List AObj) (E : List Nat) : Option R3 :=
 loopK Tryd.prog C.G (EV C) (C.hint 68) Tryd.f68 (cAt (bodyOf Tryd.f68) [1, 1, 1, 1, 1, 1, 1, 0, 1, 0, 0]) (kAt Tryd.prog C.G (EV C) (C.hint 68) Tryd.f68 (bodyOf Tryd.f68) [1, 1, 1, 1, 1, 1, 1, 0, 1, 0] [] (endK Tryd.prog (C.hint 68) Tryd.f68 n))
 ⟨pat 94 [(1, t1), (6, t6), (7, t7), (8, t8)], H, E⟩
theorem ref04_Formed_J16_of {r : R3} {n : Nat} {t1 t6 t7 t8 : AV} {H : List AObj} {E : List Nat} (hh : (
 (binA .lss (Go.TypeDesc.int Go.IntKind.i64) (cmpT Tryd.prog) false t8 t6).bind fun a1 =>
 splitK a1
 (condK t7
 ((offA t1 4).bind fun a2 =>
 (loadA false 1 a2 H).bind fun a3 =>
 (ixA 5 a3 t8 H).bind fun a4 =>
 (loadA true 5 a4 H).bind fun a5 =>
 callK (EV C) false n_ref04_Formed [a5] H fun a6 H6 E6 =>
 (binA .add (Go.TypeDesc.int Go.IntKind.i64) (cmpT Tryd.prog) true t8 (.int .i64 1)).bind fun a7 =>
 ref04_Formed_J16 n t1 t6 a6 a7 H6 ((E6 ++ []) ++ E))
 (endB false false n t7 H E))
 (endB false false n t7 H E)) = some r) : ref04_Formed_J16 n t1 t6 t7 t8 H E = some r :=
 loop_step' (by kernel_rfl) hh
theorem ref04_Formed_of {r : R3} {x0 : AV} {H : List AObj} (hh : (fun n => (
 newK x0 H fun a1 H1 E1 =>
 (offA a1 1).bind fun a2 =>
 (loadA false 1 a2 H1).bind fun a3 =>
 (lenV a3 H1).bind fun a4 =>
 (offA a1 2).bind fun a5 =>
 (loadA false 1 a5 H1).bind fun a6 =>
 (lenV a6 H1).bind fun a7 =>
 (offA a1 3).bind fun a8 =>
 (loadA false 1 a8 H1).bind fun a9 =>
 (lenV a9 H1).bind fun a10 =>
 (offA a1 4).bind fun a11 =>
 (loadA false 1 a11 H1).bind fun a12 =>
 (lenV a12 H1).bind fun a13 =>
 (offA a1 0).bind fun a14 =>
 (loadA false 1 a14 H1).bind fun a15 =>
 (binA .eql (Go.TypeDesc.int Go.IntKind.i64) (cmpT Tryd.prog) true a15 (.int .i64 0)).bind fun a16 =>
 condK a16
 ((binA .eql (Go.TypeDesc.int Go.IntKind.i64) (cmpT Tryd.prog) true a4 (.int .i64 0)).bind fun a17 =>
 splitK a17
 ((binA .eql (Go.TypeDesc.int Go.IntKind.i64) (cmpT Tryd.prog) true a7 (.int .i64 0)).bind fun a18 =>
 splitK a18
 ((binA .eql (Go.TypeDesc.int Go.IntKind.i64) (cmpT Tryd.prog) true a10 (.int .i64 0)).bind fun a19 =>
 splitK a19
 ((binA .eql (Go.TypeDesc.int Go.IntKind.i64) (cmpT Tryd.prog) true a13 (.int .i64 0)).bind fun a20 =>
 ref04_Formed_J16 n a1 a13 a20 (.int .i64 0) H1 (E1 ++ []))
 (ref04_Formed_J16 n a1 a13 (.bool false) (.int .i64 0) H1 (E1 ++ [])))
 (ref04_Formed_J16 n a1 a13 (.bool false) (.int .i64 0) H1 (E1 ++ [])))
 (ref04_Formed_J16 n a1 a13 (.bool false) (.int .i64 0) H1 (E1 ++ [])))
 ((binA .eql (Go.TypeDesc.int Go.IntKind.i64) (cmpT Tryd.prog) true a15 (.int .i64 1)).bind fun a21 =>
 condK a21
 ((binA .leq (Go.TypeDesc.int Go.IntKind.i64) (cmpT Tryd.prog) true a4 (.int .i64 80)).bind fun a22 =>
 splitK a22
 ((binA .leq (Go.TypeDesc.int Go.IntKind.i64) (cmpT Tryd.prog) true a7 (.int .i64 1024)).bind fun a23 =>
 splitK a23
 ((binA .eql (Go.TypeDesc.int Go.IntKind.i64) (cmpT Tryd.prog) true a10 (.int .i64 0)).bind fun a24 =>
 splitK a24
 ((binA .eql (Go.TypeDesc.int Go.IntKind.i64) (cmpT Tryd.prog) true a13 (.int .i64 2)).bind fun a25 =>
 ref04_Formed_J16 n a1 a13 a25 (.int .i64 0) H1 (E1 ++ []))
 (ref04_Formed_J16 n a1 a13 (.bool false) (.int .i64 0) H1 (E1 ++ [])))
 (ref04_Formed_J16 n a1 a13 (.bool false) (.int .i64 0) H1 (E1 ++ [])))
 (ref04_Formed_J16 n a1 a13 (.bool false) (.int .i64 0) H1 (E1 ++ [])))
 ((binA .eql (Go.TypeDesc.int Go.IntKind.i64) (cmpT Tryd.prog) true a15 (.int .i64 2)).bind fun a26 =>
 condK a26
 ((binA .leq (Go.TypeDesc.int Go.IntKind.i64) (cmpT Tryd.prog) true a4 (.int .i64 80)).bind fun a27 =>
 splitK a27
 ((binA .eql (Go.TypeDesc.int Go.IntKind.i64) (cmpT Tryd.prog) true a7 (.int .i64 0)).bind fun a28 =>
 splitK a28
 ((binA .eql (Go.TypeDesc.int Go.IntKind.i64) (cmpT Tryd.prog) true a13 (.int .i64 2)).bind fun a29 =>
 ref04_Formed_J16 n a1 a13 a29 (.int .i64 0) H1 (E1 ++ []))
 (ref04_Formed_J16 n a1 a13 (.bool false) (.int .i64 0) H1 (E1 ++ [])))
 (ref04_Formed_J16 n a1 a13 (.bool false) (.int .i64 0) H1 (E1 ++ [])))
 ((binA .eql (Go.TypeDesc.int Go.IntKind.i64) (cmpT Tryd.prog) true a15 (.int .i64 3)).bind fun a30 =>
 condK a30
 ((binA .eql (Go.TypeDesc.int Go.IntKind.i64) (cmpT Tryd.prog) true a4 (.int .i64 0)).bind fun a31 =>
 splitK a31
 ((binA .eql (Go.TypeDesc.int Go.IntKind.i64) (cmpT Tryd.prog) true a7 (.int .i64 0)).bind fun a32 =>
 splitK a32
 ((binA .eql (Go.TypeDesc.int Go.IntKind.i64) (cmpT Tryd.prog) true a13 (.int .i64 0)).bind fun a33 =>
 ref04_Formed_J16 n a1 a13 a33 (.int .i64 0) H1 (E1 ++ []))
 (ref04_Formed_J16 n a1 a13 (.bool false) (.int .i64 0) H1 (E1 ++ [])))
 (ref04_Formed_J16 n a1 a13 (.bool false) (.int .i64 0) H1 (E1 ++ [])))
 (ref04_Formed_J16 n a1 a13 (.bool false) (.int .i64 0) H1 (E1 ++ []))))))) (List.length H) = some r) : EV C n_ref04_Formed [x0] H = some r :=
 EV_of_fnK' (fn := Tryd.f68) (by kernel_rfl) (by kernel_rfl) (by kernel_rfl) hh
/-! ### 35 heartwood/heartwoodref04.Check -/
theorem ref04_Check_of {r : R3} {x0 : AV} {H : List AObj} (hh : (fun n => (
 newK x0 H fun a1 H1 E1 =>
 (loadA true 5 a1 H1).bind fun a2 =>
 callK (EV C) false n_ref04_Deep [a2, (.int .i64 64)] H1 fun a3 H3 E3 =>
 condK a3
 (endB false false n (.int .i64 5) H3 (E3 ++ (E1 ++ [])))
 ((loadA true 5 a1 H3).bind fun a4 =>
 callK (EV C) false n_ref04_Formed [a4] H3 fun a5 H5 E5 =>
 (unA .not a5).bind fun a6 =>
 condK a6
 (endB false false n (.int .i64 3) H5 (E5 ++ (E3 ++ (E1 ++ []))))
 (endB false false n (.int .i64 0) H5 (E5 ++ (E3 ++ (E1 ++ []))))))) (List.length H) = some r) : EV C n_ref04_Check [x0] H = some r :=
 EV_of_fnK' (fn := Tryd.f35) (by kernel_rfl) (by kernel_rfl) (by kernel_rfl) hh
/-! ### 30 heartwood/heartwoodref04.Digest -/
theorem ref04_Digest_of {r : R3} {x0 x1 x2 : AV} {H : List AObj} (hh : (fun n => (
 newK x0 H fun a1 H1 E1 =>
 newK x2 H1 fun a2 H2 E2 =>
 (offA a2 0).bind fun a3 =>
 (loadA false 1 a3 H2).bind fun a4 =>
 (binA .eql (Go.TypeDesc.int Go.IntKind.i64) (cmpT Tryd.prog) true a4 (.int .i64 0)).bind fun a5 =>
 condK a5
 ((loadA true 9 a1 H2).bind fun a6 =>
 litK 1 1 (.int .u8 0) [(0, (.int .u8 3))] H2 fun a7 H7 E7 =>
 callK (EV C) false n_ref03_Of [a6, x1, a7] H7 fun a8 H8 E8 =>
 endB false false n (.tup [a8, (.bool true)]) H8 (E8 ++ (E7 ++ (E2 ++ (E1 ++ [])))))
 ((binA .eql (Go.TypeDesc.int Go.IntKind.i64) (cmpT Tryd.prog) true a4 (.int .i64 3)).bind fun a9 =>
 condK a9
 ((offA a2 3).bind fun a10 =>
 (loadA false 1 a10 H2).bind fun a11 =>
 (offA a2 3).bind fun a12 =>
 (loadA false 1 a12 H2).bind fun a13 =>
 (lenV a13 H2).bind fun a14 =>
 (binA .eql (Go.TypeDesc.int Go.IntKind.i64) (cmpT Tryd.prog) false a14 x1).bind fun a15 =>
 endB false false n (.tup [a11, a15]) H2 (E2 ++ (E1 ++ [])))
 ((offA a2 3).bind fun a16 =>
 (loadA false 1 a16 H2).bind fun a17 =>
 (offA a2 0).bind fun a18 =>
 (loadA false 1 a18 H2).bind fun a19 =>
 (binA .eql (Go.TypeDesc.int Go.IntKind.i64) (cmpT Tryd.prog) true a19 (.int .i64 1)).bind fun a20 =>
 condK a20
 ((loadA true 9 a1 H2).bind fun a21 =>
 (offA a2 2).bind fun a22 =>
 (loadA false 1 a22 H2).bind fun a23 =>
 (callD (EV C) n_ref03_Value [a23] H2).bind fun a24 =>
 (callD (EV C) n_ref03_Of [a21, x1, a24] H2).bind fun a25 =>
 (lenV a25 H2).bind fun a26 =>
 (binA .neq (Go.TypeDesc.int Go.IntKind.i64) (cmpT Tryd.prog) false a26 x1).bind fun a27 =>
 condK a27
 (endB false false n (.tup [.nils, (.bool false)]) H2 (E2 ++ (E1 ++ [])))
 ((loadA true 9 a1 H2).bind fun a28 =>
 (offA a2 4).bind fun a29 =>
 (loadA false 1 a29 H2).bind fun a30 =>
 (ixA 5 a30 (.int .i64 0) H2).bind fun a31 =>
 (loadA true 5 a31 H2).bind fun a32 =>
 (callD (EV C) n_ref04_Digest [a28, x1, a32] H2).bind fun a33 =>
 (extA a33 0).bind fun a34 =>
 (extA a33 1).bind fun a35 =>
 (loadA true 9 a1 H2).bind fun a36 =>
 (offA a2 4).bind fun a37 =>
 (loadA false 1 a37 H2).bind fun a38 =>
 (ixA 5 a38 (.int .i64 1) H2).bind fun a39 =>
 (loadA true 5 a39 H2).bind fun a40 =>
 (callD (EV C) n_ref04_Digest [a36, x1, a40] H2).bind fun a41 =>
 (extA a41 0).bind fun a42 =>
 (extA a41 1).bind fun a43 =>
 (unA .not a35).bind fun a44 =>
 splitK a44
 (endB false false n (.tup [.nils, (.bool false)]) H2 (E2 ++ (E1 ++ [])))
 ((unA .not a43).bind fun a45 =>
 condK a45
 (endB false false n (.tup [.nils, (.bool false)]) H2 (E2 ++ (E1 ++ [])))
 ((loadA true 9 a1 H2).bind fun a46 =>
 (offA a2 1).bind fun a47 =>
 (loadA false 1 a47 H2).bind fun a48 =>
 (callD (EV C) n_ref03_Pair [a48, a25] H2).bind fun a49 =>
 (callD (EV C) n_ref03_Of [a46, x1, a49] H2).bind fun a50 =>
 (loadA true 9 a1 H2).bind fun a51 =>
 (callD (EV C) n_ref03_Node [a34, a50, a42] H2).bind fun a52 =>
 (callD (EV C) n_ref03_Of [a51, x1, a52] H2).bind fun a53 =>
 endB false false n (.tup [a53, (.bool true)]) H2 (E2 ++ (E1 ++ []))))))
 ((lenV a17 H2).bind fun a54 =>
 (binA .neq (Go.TypeDesc.int Go.IntKind.i64) (cmpT Tryd.prog) false a54 x1).bind fun a55 =>
 condK a55
 (endB false false n (.tup [.nils, (.bool false)]) H2 (E2 ++ (E1 ++ [])))
 ((loadA true 9 a1 H2).bind fun a56 =>
 (offA a2 4).bind fun a57 =>
 (loadA false 1 a57 H2).bind fun a58 =>
 (ixA 5 a58 (.int .i64 0) H2).bind fun a59 =>
 (loadA true 5 a59 H2).bind fun a60 =>
 (callD (EV C) n_ref04_Digest [a56, x1, a60] H2).bind fun a61 =>
 (extA a61 0).bind fun a62 =>
 (extA a61 1).bind fun a63 =>
 (loadA true 9 a1 H2).bind fun a64 =>
 (offA a2 4).bind fun a65 =>
 (loadA false 1 a65 H2).bind fun a66 =>
 (ixA 5 a66 (.int .i64 1) H2).bind fun a67 =>
 (loadA true 5 a67 H2).bind fun a68 =>
 (callD (EV C) n_ref04_Digest [a64, x1, a68] H2).bind fun a69 =>
 (extA a69 0).bind fun a70 =>
 (extA a69 1).bind fun a71 =>
 (unA .not a63).bind fun a72 =>
 splitK a72
 (endB false false n (.tup [.nils, (.bool false)]) H2 (E2 ++ (E1 ++ [])))
 ((unA .not a71).bind fun a73 =>
 condK a73
 (endB false false n (.tup [.nils, (.bool false)]) H2 (E2 ++ (E1 ++ [])))
 ((loadA true 9 a1 H2).bind fun a74 =>
 (offA a2 1).bind fun a75 =>
 (loadA false 1 a75 H2).bind fun a76 =>
 (callD (EV C) n_ref03_Pair [a76, a17] H2).bind fun a77 =>
 (callD (EV C) n_ref03_Of [a74, x1, a77] H2).bind fun a78 =>
 (loadA true 9 a1 H2).bind fun a79 =>
 (callD (EV C) n_ref03_Node [a62, a78, a70] H2).bind fun a80 =>
 (callD (EV C) n_ref03_Of [a79, x1, a80] H2).bind fun a81 =>
 endB false false n (.tup [a81, (.bool true)]) H2 (E2 ++ (E1 ++ [])))))))))) (List.length H) = some r) : EV C n_ref04_Digest [x0, x1, x2] H = some r :=
 EV_of_fnK' (fn := Tryd.f30) (by kernel_rfl) (by kernel_rfl) (by kernel_rfl) hh
/-! ### 64 heartwood/heartwoodref09.pair -/
theorem ref09_pair_of {r : R3} {x0 x1 x2 : AV} {H : List AObj} (hh : (fun n => (
 newK x0 H fun a1 H1 E1 =>
 newK x2 H1 fun a2 H2 E2 =>
 (offA a2 3).bind fun a3 =>
 (loadA false 1 a3 H2).bind fun a4 =>
 (offA a2 0).bind fun a5 =>
 (loadA false 1 a5 H2).bind fun a6 =>
 (binA .eql (Go.TypeDesc.int Go.IntKind.i64) (cmpT Tryd.prog) true a6 (.int .i64 1)).bind fun a7 =>
 condK a7
 ((loadA true 9 a1 H2).bind fun a8 =>
 (offA a2 2).bind fun a9 =>
 (loadA false 1 a9 H2).bind fun a10 =>
 (callD (EV C) n_ref03_Value [a10] H2).bind fun a11 =>
 (callD (EV C) n_ref03_Of [a8, x1, a11] H2).bind fun a12 =>
 (offA a2 1).bind fun a13 =>
 (loadA false 1 a13 H2).bind fun a14 =>
 callK (EV C) false n_ref03_Pair [a14, a12] H2 fun a15 H15 E15 =>
 endB false false n a15 H15 (E15 ++ (E2 ++ (E1 ++ []))))
 ((offA a2 1).bind fun a16 =>
 (loadA false 1 a16 H2).bind fun a17 =>
 callK (EV C) false n_ref03_Pair [a17, a4] H2 fun a18 H18 E18 =>
 endB false false n a18 H18 (E18 ++ (E2 ++ (E1 ++ [])))))) (List.length H) = some r) : EV C n_ref09_pair [x0, x1, x2] H = some r :=
 EV_of_fnK' (fn := Tryd.f64) (by kernel_rfl) (by kernel_rfl) (by kernel_rfl) hh
/-! ### 63 heartwood/heartwoodref09.own -/
theorem ref09_own_of {r : R3} {x0 x1 x2 : AV} {H : List AObj} (hh : (fun n => (
 newK x0 H fun a1 H1 E1 =>
 newK x2 H1 fun a2 H2 E2 =>
 (offA a2 0).bind fun a3 =>
 (loadA false 1 a3 H2).bind fun a4 =>
 (binA .eql (Go.TypeDesc.int Go.IntKind.i64) (cmpT Tryd.prog) true a4 (.int .i64 0)).bind fun a5 =>
 condK a5
 (litK 1 1 (.int .u8 0) [(0, (.int .u8 3))] H2 fun a6 H6 E6 =>
 endB false false n a6 H6 (E6 ++ (E2 ++ (E1 ++ []))))
 ((loadA true 9 a1 H2).bind fun a7 =>
 (offA a2 4).bind fun a8 =>
 (loadA false 1 a8 H2).bind fun a9 =>
 (ixA 5 a9 (.int .i64 0) H2).bind fun a10 =>
 (loadA true 5 a10 H2).bind fun a11 =>
 (callD (EV C) n_ref04_Digest [a7, x1, a11] H2).bind fun a12 =>
 (extA a12 0).bind fun a13 =>
 (extA a12 1).bind fun a14 =>
 (loadA true 9 a1 H2).bind fun a15 =>
 (offA a2 4).bind fun a16 =>
 (loadA false 1 a16 H2).bind fun a17 =>
 (ixA 5 a17 (.int .i64 1) H2).bind fun a18 =>
 (loadA true 5 a18 H2).bind fun a19 =>
 (callD (EV C) n_ref04_Digest [a15, x1, a19] H2).bind fun a20 =>
 (extA a20 0).bind fun a21 =>
 (extA a20 1).bind fun a22 =>
 (loadA true 9 a1 H2).bind fun a23 =>
 (loadA true 9 a1 H2).bind fun a24 =>
 (loadA true 5 a2 H2).bind fun a25 =>
 (callD (EV C) n_ref09_pair [a24, x1, a25] H2).bind fun a26 =>
 (callD (EV C) n_ref03_Of [a23, x1, a26] H2).bind fun a27 =>
 (callD (EV C) n_ref03_Node [a13, a27, a21] H2).bind fun a28 =>
 endB false false n a28 H2 (E2 ++ (E1 ++ []))))) (List.length H) = some r) : EV C n_ref09_own [x0, x1, x2] H = some r :=
 EV_of_fnK' (fn := Tryd.f63) (by kernel_rfl) (by kernel_rfl) (by kernel_rfl) hh
/-! ### 31 heartwood/heartwoodref09.Search -/
theorem ref09_Search_of {r : R3} {x0 x1 x2 x3 : AV} {H : List AObj} (hh : (fun n => (
 newK x0 H fun a1 H1 E1 =>
 newK x2 H1 fun a2 H2 E2 =>
 newK x3 H2 fun a3 H3 E3 =>
 (offA a2 0).bind fun a4 =>
 (loadA false 1 a4 H3).bind fun a5 =>
 (binA .eql (Go.TypeDesc.int Go.IntKind.i64) (cmpT Tryd.prog) true a5 (.int .i64 3)).bind fun a6 =>
 splitK a6
 (endB false false n (.tup [.nils, .nils, (.bool false)]) H3 (E3 ++ (E2 ++ (E1 ++ []))))
 ((offA a3 0).bind fun a7 =>
 (loadA false 1 a7 H3).bind fun a8 =>
 (binA .eql (Go.TypeDesc.int Go.IntKind.i64) (cmpT Tryd.prog) true a8 (.int .i64 3)).bind fun a9 =>
 condK a9
 (endB false false n (.tup [.nils, .nils, (.bool false)]) H3 (E3 ++ (E2 ++ (E1 ++ []))))
 ((loadA true 9 a1 H3).bind fun a10 =>
 (loadA true 5 a2 H3).bind fun a11 =>
 callK (EV C) false n_ref09_own [a10, x1, a11] H3 fun a12 H12 E12 =>
 (loadA true 9 a1 H12).bind fun a13 =>
 (loadA true 5 a3 H12).bind fun a14 =>
 callK (EV C) false n_ref09_own [a13, x1, a14] H12 fun a15 H15 E15 =>
 (cvL a12 H15).bind fun a16 =>
 (cvL a15 H15).bind fun a17 =>
 (binA .neq Go.TypeDesc.string (cmpT Tryd.prog) false a16 a17).bind fun a18 =>
 condK a18
 (endB false false n (.tup [a12, a15, (.bool true)]) H15 (E15 ++ (E12 ++ (E3 ++ (E2 ++ (E1 ++ []))))))
 ((offA a2 0).bind fun a19 =>
 (loadA false 1 a19 H15).bind fun a20 =>
 (binA .eql (Go.TypeDesc.int Go.IntKind.i64) (cmpT Tryd.prog) true a20 (.int .i64 0)).bind fun a21 =>
 condK a21
 (endB false false n (.tup [.nils, .nils, (.bool false)]) H15 (E15 ++ (E12 ++ (E3 ++ (E2 ++ (E1 ++ []))))))
 ((loadA true 9 a1 H15).bind fun a22 =>
 (loadA true 5 a2 H15).bind fun a23 =>
 callK (EV C) false n_ref09_pair [a22, x1, a23] H15 fun a24 H24 E24 =>
 (loadA true 9 a1 H24).bind fun a25 =>
 (loadA true 5 a3 H24).bind fun a26 =>
 callK (EV C) false n_ref09_pair [a25, x1, a26] H24 fun a27 H27 E27 =>
 (cvL a24 H27).bind fun a28 =>
 (cvL a27 H27).bind fun a29 =>
 (binA .neq Go.TypeDesc.string (cmpT Tryd.prog) false a28 a29).bind fun a30 =>
 condK a30
 (endB false false n (.tup [a24, a27, (.bool true)]) H27 (E27 ++ (E24 ++ (E15 ++ (E12 ++ (E3 ++ (E2 ++ (E1 ++ []))))))))
 ((offA a2 0).bind fun a31 =>
 (loadA false 1 a31 H27).bind fun a32 =>
 (binA .eql (Go.TypeDesc.int Go.IntKind.i64) (cmpT Tryd.prog) true a32 (.int .i64 1)).bind fun a33 =>
 splitK a33
 ((offA a3 0).bind fun a34 =>
 (loadA false 1 a34 H27).bind fun a35 =>
 (binA .eql (Go.TypeDesc.int Go.IntKind.i64) (cmpT Tryd.prog) true a35 (.int .i64 1)).bind fun a36 =>
 splitK a36
 ((offA a2 2).bind fun a37 =>
 (loadA false 1 a37 H27).bind fun a38 =>
 (cvL a38 H27).bind fun a39 =>
 (offA a3 2).bind fun a40 =>
 (loadA false 1 a40 H27).bind fun a41 =>
 (cvL a41 H27).bind fun a42 =>
 (binA .neq Go.TypeDesc.string (cmpT Tryd.prog) false a39 a42).bind fun a43 =>
 condK a43
 ((offA a2 2).bind fun a44 =>
 (loadA false 1 a44 H27).bind fun a45 =>
 (callD (EV C) n_ref03_Value [a45] H27).bind fun a46 =>
 (offA a3 2).bind fun a47 =>
 (loadA false 1 a47 H27).bind fun a48 =>
 (callD (EV C) n_ref03_Value [a48] H27).bind fun a49 =>
 endB false false n (.tup [a46, a49, (.bool true)]) H27 (E27 ++ (E24 ++ (E15 ++ (E12 ++ (E3 ++ (E2 ++ (E1 ++ []))))))))
 ((loadA true 9 a1 H27).bind fun a50 =>
 (offA a2 4).bind fun a51 =>
 (loadA false 1 a51 H27).bind fun a52 =>
 (ixA 5 a52 (.int .i64 0) H27).bind fun a53 =>
 (loadA true 5 a53 H27).bind fun a54 =>
 (offA a3 4).bind fun a55 =>
 (loadA false 1 a55 H27).bind fun a56 =>
 (ixA 5 a56 (.int .i64 0) H27).bind fun a57 =>
 (loadA true 5 a57 H27).bind fun a58 =>
 (callD (EV C) n_ref09_Search [a50, x1, a54, a58] H27).bind fun a59 =>
 (extA a59 0).bind fun a60 =>
 (extA a59 1).bind fun a61 =>
 (extA a59 2).bind fun a62 =>
 condK a62
 (endB false false n (.tup [a60, a61, (.bool true)]) H27 (E27 ++ (E24 ++ (E15 ++ (E12 ++ (E3 ++ (E2 ++ (E1 ++ []))))))))
 ((loadA true 9 a1 H27).bind fun a63 =>
 (offA a2 4).bind fun a64 =>
 (loadA false 1 a64 H27).bind fun a65 =>
 (ixA 5 a65 (.int .i64 1) H27).bind fun a66 =>
 (loadA true 5 a66 H27).bind fun a67 =>
 (offA a3 4).bind fun a68 =>
 (loadA false 1 a68 H27).bind fun a69 =>
 (ixA 5 a69 (.int .i64 1) H27).bind fun a70 =>
 (loadA true 5 a70 H27).bind fun a71 =>
 (callD (EV C) n_ref09_Search [a63, x1, a67, a71] H27).bind fun a72 =>
 (extA a72 0).bind fun a73 =>
 (extA a72 1).bind fun a74 =>
 (extA a72 2).bind fun a75 =>
 endB false false n (.tup [a73, a74, a75]) H27 (E27 ++ (E24 ++ (E15 ++ (E12 ++ (E3 ++ (E2 ++ (E1 ++ []))))))))))
 ((loadA true 9 a1 H27).bind fun a76 =>
 (offA a2 4).bind fun a77 =>
 (loadA false 1 a77 H27).bind fun a78 =>
 (ixA 5 a78 (.int .i64 0) H27).bind fun a79 =>
 (loadA true 5 a79 H27).bind fun a80 =>
 (offA a3 4).bind fun a81 =>
 (loadA false 1 a81 H27).bind fun a82 =>
 (ixA 5 a82 (.int .i64 0) H27).bind fun a83 =>
 (loadA true 5 a83 H27).bind fun a84 =>
 (callD (EV C) n_ref09_Search [a76, x1, a80, a84] H27).bind fun a85 =>
 (extA a85 0).bind fun a86 =>
 (extA a85 1).bind fun a87 =>
 (extA a85 2).bind fun a88 =>
 condK a88
 (endB false false n (.tup [a86, a87, (.bool true)]) H27 (E27 ++ (E24 ++ (E15 ++ (E12 ++ (E3 ++ (E2 ++ (E1 ++ []))))))))
 ((loadA true 9 a1 H27).bind fun a89 =>
 (offA a2 4).bind fun a90 =>
 (loadA false 1 a90 H27).bind fun a91 =>
 (ixA 5 a91 (.int .i64 1) H27).bind fun a92 =>
 (loadA true 5 a92 H27).bind fun a93 =>
 (offA a3 4).bind fun a94 =>
 (loadA false 1 a94 H27).bind fun a95 =>
 (ixA 5 a95 (.int .i64 1) H27).bind fun a96 =>
 (loadA true 5 a96 H27).bind fun a97 =>
 (callD (EV C) n_ref09_Search [a89, x1, a93, a97] H27).bind fun a98 =>
 (extA a98 0).bind fun a99 =>
 (extA a98 1).bind fun a100 =>
 (extA a98 2).bind fun a101 =>
 endB false false n (.tup [a99, a100, a101]) H27 (E27 ++ (E24 ++ (E15 ++ (E12 ++ (E3 ++ (E2 ++ (E1 ++ []))))))))))
 ((loadA true 9 a1 H27).bind fun a102 =>
 (offA a2 4).bind fun a103 =>
 (loadA false 1 a103 H27).bind fun a104 =>
 (ixA 5 a104 (.int .i64 0) H27).bind fun a105 =>
 (loadA true 5 a105 H27).bind fun a106 =>
 (offA a3 4).bind fun a107 =>
 (loadA false 1 a107 H27).bind fun a108 =>
 (ixA 5 a108 (.int .i64 0) H27).bind fun a109 =>
 (loadA true 5 a109 H27).bind fun a110 =>
 (callD (EV C) n_ref09_Search [a102, x1, a106, a110] H27).bind fun a111 =>
 (extA a111 0).bind fun a112 =>
 (extA a111 1).bind fun a113 =>
 (extA a111 2).bind fun a114 =>
 condK a114
 (endB false false n (.tup [a112, a113, (.bool true)]) H27 (E27 ++ (E24 ++ (E15 ++ (E12 ++ (E3 ++ (E2 ++ (E1 ++ []))))))))
 ((loadA true 9 a1 H27).bind fun a115 =>
 (offA a2 4).bind fun a116 =>
 (loadA false 1 a116 H27).bind fun a117 =>
 (ixA 5 a117 (.int .i64 1) H27).bind fun a118 =>
 (loadA true 5 a118 H27).bind fun a119 =>
 (offA a3 4).bind fun a120 =>
 (loadA false 1 a120 H27).bind fun a121 =>
 (ixA 5 a121 (.int .i64 1) H27).bind fun a122 =>
 (loadA true 5 a122 H27).bind fun a123 =>
 (callD (EV C) n_ref09_Search [a115, x1, a119, a123] H27).bind fun a124 =>
 (extA a124 0).bind fun a125 =>
 (extA a124 1).bind fun a126 =>
 (extA a124 2).bind fun a127 =>
 endB false false n (.tup [a125, a126, a127]) H27 (E27 ++ (E24 ++ (E15 ++ (E12 ++ (E3 ++ (E2 ++ (E1 ++ [])))))))))))))))) (List.length H) = some r) : EV C n_ref09_Search [x0, x1, x2, x3] H = some r :=
 EV_of_fnK' (fn := Tryd.f31) (by kernel_rfl) (by kernel_rfl) (by kernel_rfl) hh
/-! ### 29 heartwood/heartwoodlaw09.told -/
theorem law09_told_of {r : R3} {x0 x1 x2 : AV} {H : List AObj} (hh : (fun n => (
 newK x0 H fun a1 H1 E1 =>
 newK x2 H1 fun a2 H2 E2 =>
 (binA .lss (Go.TypeDesc.int Go.IntKind.i64) (cmpT Tryd.prog) true x1 (.int .i64 1)).bind fun a3 =>
 splitK a3
 (endB false false n (.int .i64 1) H2 (E2 ++ (E1 ++ [])))
 ((binA .gtr (Go.TypeDesc.int Go.IntKind.i64) (cmpT Tryd.prog) true x1 (.int .i64 32)).bind fun a4 =>
 condK a4
 (endB false false n (.int .i64 1) H2 (E2 ++ (E1 ++ [])))
 ((loadA true 5 a2 H2).bind fun a5 =>
 callK (EV C) false n_ref04_Check [a5] H2 fun a6 H6 E6 =>
 (binA .neq (Go.TypeDesc.int Go.IntKind.i64) (cmpT Tryd.prog) true a6 (.int .i64 0)).bind fun a7 =>
 condK a7
 (endB false false n a6 H6 (E6 ++ (E2 ++ (E1 ++ []))))
 ((loadA true 9 a1 H6).bind fun a8 =>
 (loadA true 5 a2 H6).bind fun a9 =>
 callK (EV C) false n_ref04_Digest [a8, x1, a9] H6 fun a10 H10 E10 =>
 (extA a10 0).bind fun a11 =>
 (extA a10 1).bind fun a12 =>
 (unA .not a12).bind fun a13 =>
 condK a13
 (endB false false n (.int .i64 3) H10 (E10 ++ (E6 ++ (E2 ++ (E1 ++ [])))))
 (endB false false n (.int .i64 0) H10 (E10 ++ (E6 ++ (E2 ++ (E1 ++ [])))))))))) (List.length H) = some r) : EV C n_law09_told [x0, x1, x2] H = some r :=
 EV_of_fnK' (fn := Tryd.f29) (by kernel_rfl) (by kernel_rfl) (by kernel_rfl) hh
/-! ### 6 heartwood/heartwoodlaw09.ClashFinds -/
theorem law09_ClashFinds_of {r : R3} {x0 x1 x2 : AV} {H : List AObj} (hh : (fun n => (
 newK x1 H fun a1 H1 E1 =>
 newK x2 H1 fun a2 H2 E2 =>
 callK (EV C) false n_law09_up [] H2 fun a3 H3 E3 =>
 (loadA true 5 a1 H3).bind fun a4 =>
 callK (EV C) false n_law09_small [a4] H3 fun a5 H5 E5 =>
 (unA .not a5).bind fun a6 =>
 splitK a6
 (endB false false n a3 H5 (E5 ++ (E3 ++ (E2 ++ (E1 ++ [])))))
 ((loadA true 5 a2 H5).bind fun a7 =>
 callK (EV C) false n_law09_small [a7] H5 fun a8 H8 E8 =>
 (unA .not a8).bind fun a9 =>
 condK a9
 (endB false false n a3 H8 (E8 ++ (E5 ++ (E3 ++ (E2 ++ (E1 ++ []))))))
 ((loadA true 5 a1 H8).bind fun a10 =>
 (loadA true 5 a2 H8).bind fun a11 =>
 callK (EV C) false n_clash_Find [x0, a10, a11] H8 fun a12 H12 E12 =>
 (extA a12 0).bind fun a13 =>
 (extA a12 1).bind fun a14 =>
 (extA a12 2).bind fun a15 =>
 callK (EV C) false n_ref01_Made [] H12 fun a16 H16 E16 =>
 newK (.agg [.nils, (.int .u32 0), (.int .u32 0), (.int .u32 0), (.int .u32 0), (.int .u32 0), (.int .u32 0), (.int .u32 0), (.int .u32 0)]) H16 fun a17 H17 E17 =>
 stoK 9 a17 a16 H17 fun H18 E18 =>
 (loadA true 9 a17 H18).bind fun a19 =>
 (loadA true 5 a1 H18).bind fun a20 =>
 callK (EV C) false n_law09_told [a19, x0, a20] H18 fun a21 H21 E21 =>
 (binA .eql (Go.TypeDesc.int Go.IntKind.i64) (cmpT Tryd.prog) true a21 (.int .i64 0)).bind fun a22 =>
 condK a22
 ((loadA true 9 a17 H21).bind fun a23 =>
 (loadA true 5 a2 H21).bind fun a24 =>
 callK (EV C) false n_law09_told [a23, x0, a24] H21 fun a25 H25 E25 =>
 (binA .neq (Go.TypeDesc.int Go.IntKind.i64) (cmpT Tryd.prog) true a25 (.int .i64 0)).bind fun a26 =>
 condK a26
 (splitK a3
 (callK (EV C) false n_law00_Code [a15] H25 fun a27 H27 E27 =>
 (binA .eql (Go.TypeDesc.int Go.IntKind.i64) (cmpT Tryd.prog) false a27 a25).bind fun a28 =>
 splitK a28
 ((lenV a13 H27).bind fun a29 =>
 (binA .eql (Go.TypeDesc.int Go.IntKind.i64) (cmpT Tryd.prog) true a29 (.int .i64 0)).bind fun a30 =>
 splitK a30
 ((lenV a14 H27).bind fun a31 =>
 (binA .eql (Go.TypeDesc.int Go.IntKind.i64) (cmpT Tryd.prog) true a31 (.int .i64 0)).bind fun a32 =>
 endB false false n a32 H27 (E27 ++ (E25 ++ (E21 ++ (E18 ++ (E17 ++ (E16 ++ (E12 ++ (E8 ++ (E5 ++ (E3 ++ (E2 ++ (E1 ++ [])))))))))))))
 (endB false false n (.bool false) H27 (E27 ++ (E25 ++ (E21 ++ (E18 ++ (E17 ++ (E16 ++ (E12 ++ (E8 ++ (E5 ++ (E3 ++ (E2 ++ (E1 ++ []))))))))))))))
 (endB false false n (.bool false) H27 (E27 ++ (E25 ++ (E21 ++ (E18 ++ (E17 ++ (E16 ++ (E12 ++ (E8 ++ (E5 ++ (E3 ++ (E2 ++ (E1 ++ []))))))))))))))
 (endB false false n (.bool false) H25 (E25 ++ (E21 ++ (E18 ++ (E17 ++ (E16 ++ (E12 ++ (E8 ++ (E5 ++ (E3 ++ (E2 ++ (E1 ++ [])))))))))))))
 ((loadA true 9 a17 H25).bind fun a33 =>
 (loadA true 5 a1 H25).bind fun a34 =>
 callK (EV C) false n_ref04_Digest [a33, x0, a34] H25 fun a35 H35 E35 =>
 (extA a35 0).bind fun a36 =>
 (extA a35 1).bind fun a37 =>
 (loadA true 9 a17 H35).bind fun a38 =>
 (loadA true 5 a2 H35).bind fun a39 =>
 callK (EV C) false n_ref04_Digest [a38, x0, a39] H35 fun a40 H40 E40 =>
 (extA a40 0).bind fun a41 =>
 (extA a40 1).bind fun a42 =>
 (cvL a36 H40).bind fun a43 =>
 (cvL a41 H40).bind fun a44 =>
 (binA .neq Go.TypeDesc.string (cmpT Tryd.prog) false a43 a44).bind fun a45 =>
 condK a45
 (splitK a3
 ((binA .eql (Go.TypeDesc.interface #[("Error", 138)]) (cmpT Tryd.prog) false a15 (.ifc t_api_Code (.int .i64 6))).bind fun a46 =>
 splitK a46
 ((lenV a13 H40).bind fun a47 =>
 (binA .eql (Go.TypeDesc.int Go.IntKind.i64) (cmpT Tryd.prog) true a47 (.int .i64 0)).bind fun a48 =>
 splitK a48
 ((lenV a14 H40).bind fun a49 =>
 (binA .eql (Go.TypeDesc.int Go.IntKind.i64) (cmpT Tryd.prog) true a49 (.int .i64 0)).bind fun a50 =>
 endB false false n a50 H40 (E40 ++ (E35 ++ (E25 ++ (E21 ++ (E18 ++ (E17 ++ (E16 ++ (E12 ++ (E8 ++ (E5 ++ (E3 ++ (E2 ++ (E1 ++ []))))))))))))))
 (endB false false n (.bool false) H40 (E40 ++ (E35 ++ (E25 ++ (E21 ++ (E18 ++ (E17 ++ (E16 ++ (E12 ++ (E8 ++ (E5 ++ (E3 ++ (E2 ++ (E1 ++ [])))))))))))))))
 (endB false false n (.bool false) H40 (E40 ++ (E35 ++ (E25 ++ (E21 ++ (E18 ++ (E17 ++ (E16 ++ (E12 ++ (E8 ++ (E5 ++ (E3 ++ (E2 ++ (E1 ++ [])))))))))))))))
 (endB false false n (.bool false) H40 (E40 ++ (E35 ++ (E25 ++ (E21 ++ (E18 ++ (E17 ++ (E16 ++ (E12 ++ (E8 ++ (E5 ++ (E3 ++ (E2 ++ (E1 ++ [])))))))))))))))
 ((loadA true 9 a17 H40).bind fun a51 =>
 (loadA true 5 a1 H40).bind fun a52 =>
 (loadA true 5 a2 H40).bind fun a53 =>
 callK (EV C) false n_ref09_Search [a51, x0, a52, a53] H40 fun a54 H54 E54 =>
 (extA a54 0).bind fun a55 =>
 (extA a54 1).bind fun a56 =>
 (extA a54 2).bind fun a57 =>
 (unA .not a57).bind fun a58 =>
 condK a58
 (splitK a3
 ((binA .eql (Go.TypeDesc.interface #[("Error", 138)]) (cmpT Tryd.prog) false a15 (.ifc t_api_Code (.int .i64 9))).bind fun a59 =>
 splitK a59
 ((lenV a13 H54).bind fun a60 =>
 (binA .eql (Go.TypeDesc.int Go.IntKind.i64) (cmpT Tryd.prog) true a60 (.int .i64 0)).bind fun a61 =>
 splitK a61
 ((lenV a14 H54).bind fun a62 =>
 (binA .eql (Go.TypeDesc.int Go.IntKind.i64) (cmpT Tryd.prog) true a62 (.int .i64 0)).bind fun a63 =>
 endB false false n a63 H54 (E54 ++ (E40 ++ (E35 ++ (E25 ++ (E21 ++ (E18 ++ (E17 ++ (E16 ++ (E12 ++ (E8 ++ (E5 ++ (E3 ++ (E2 ++ (E1 ++ [])))))))))))))))
 (endB false false n (.bool false) H54 (E54 ++ (E40 ++ (E35 ++ (E25 ++ (E21 ++ (E18 ++ (E17 ++ (E16 ++ (E12 ++ (E8 ++ (E5 ++ (E3 ++ (E2 ++ (E1 ++ []))))))))))))))))
 (endB false false n (.bool false) H54 (E54 ++ (E40 ++ (E35 ++ (E25 ++ (E21 ++ (E18 ++ (E17 ++ (E16 ++ (E12 ++ (E8 ++ (E5 ++ (E3 ++ (E2 ++ (E1 ++ []))))))))))))))))
 (endB false false n (.bool false) H54 (E54 ++ (E40 ++ (E35 ++ (E25 ++ (E21 ++ (E18 ++ (E17 ++ (E16 ++ (E12 ++ (E8 ++ (E5 ++ (E3 ++ (E2 ++ (E1 ++ []))))))))))))))))
 (splitK a3
 ((binA .eql (Go.TypeDesc.interface #[("Error", 138)]) (cmpT Tryd.prog) true a15 .nili).bind fun a64 =>
 splitK a64
 ((cvL a13 H54).bind fun a65 =>
 (cvL a55 H54).bind fun a66 =>
 (binA .eql Go.TypeDesc.string (cmpT Tryd.prog) false a65 a66).bind fun a67 =>
 splitK a67
 ((cvL a14 H54).bind fun a68 =>
 (cvL a56 H54).bind fun a69 =>
 (binA .eql Go.TypeDesc.string (cmpT Tryd.prog) false a68 a69).bind fun a70 =>
 endB false false n a70 H54 (E54 ++ (E40 ++ (E35 ++ (E25 ++ (E21 ++ (E18 ++ (E17 ++ (E16 ++ (E12 ++ (E8 ++ (E5 ++ (E3 ++ (E2 ++ (E1 ++ [])))))))))))))))
 (endB false false n (.bool false) H54 (E54 ++ (E40 ++ (E35 ++ (E25 ++ (E21 ++ (E18 ++ (E17 ++ (E16 ++ (E12 ++ (E8 ++ (E5 ++ (E3 ++ (E2 ++ (E1 ++ []))))))))))))))))
 (endB false false n (.bool false) H54 (E54 ++ (E40 ++ (E35 ++ (E25 ++ (E21 ++ (E18 ++ (E17 ++ (E16 ++ (E12 ++ (E8 ++ (E5 ++ (E3 ++ (E2 ++ (E1 ++ []))))))))))))))))
 (endB false false n (.bool false) H54 (E54 ++ (E40 ++ (E35 ++ (E25 ++ (E21 ++ (E18 ++ (E17 ++ (E16 ++ (E12 ++ (E8 ++ (E5 ++ (E3 ++ (E2 ++ (E1 ++ [])))))))))))))))))))
 ((binA .neq (Go.TypeDesc.int Go.IntKind.i64) (cmpT Tryd.prog) true a21 (.int .i64 0)).bind fun a71 =>
 condK a71
 (splitK a3
 (callK (EV C) false n_law00_Code [a15] H21 fun a72 H72 E72 =>
 (binA .eql (Go.TypeDesc.int Go.IntKind.i64) (cmpT Tryd.prog) false a72 a21).bind fun a73 =>
 splitK a73
 ((lenV a13 H72).bind fun a74 =>
 (binA .eql (Go.TypeDesc.int Go.IntKind.i64) (cmpT Tryd.prog) true a74 (.int .i64 0)).bind fun a75 =>
 splitK a75
 ((lenV a14 H72).bind fun a76 =>
 (binA .eql (Go.TypeDesc.int Go.IntKind.i64) (cmpT Tryd.prog) true a76 (.int .i64 0)).bind fun a77 =>
 endB false false n a77 H72 (E72 ++ (E21 ++ (E18 ++ (E17 ++ (E16 ++ (E12 ++ (E8 ++ (E5 ++ (E3 ++ (E2 ++ (E1 ++ []))))))))))))
 (endB false false n (.bool false) H72 (E72 ++ (E21 ++ (E18 ++ (E17 ++ (E16 ++ (E12 ++ (E8 ++ (E5 ++ (E3 ++ (E2 ++ (E1 ++ [])))))))))))))
 (endB false false n (.bool false) H72 (E72 ++ (E21 ++ (E18 ++ (E17 ++ (E16 ++ (E12 ++ (E8 ++ (E5 ++ (E3 ++ (E2 ++ (E1 ++ [])))))))))))))
 (endB false false n (.bool false) H21 (E21 ++ (E18 ++ (E17 ++ (E16 ++ (E12 ++ (E8 ++ (E5 ++ (E3 ++ (E2 ++ (E1 ++ []))))))))))))
 ((loadA true 9 a17 H21).bind fun a78 =>
 (loadA true 5 a1 H21).bind fun a79 =>
 callK (EV C) false n_ref04_Digest [a78, x0, a79] H21 fun a80 H80 E80 =>
 (extA a80 0).bind fun a81 =>
 (extA a80 1).bind fun a82 =>
 (loadA true 9 a17 H80).bind fun a83 =>
 (loadA true 5 a2 H80).bind fun a84 =>
 callK (EV C) false n_ref04_Digest [a83, x0, a84] H80 fun a85 H85 E85 =>
 (extA a85 0).bind fun a86 =>
 (extA a85 1).bind fun a87 =>
 (cvL a81 H85).bind fun a88 =>
 (cvL a86 H85).bind fun a89 =>
 (binA .neq Go.TypeDesc.string (cmpT Tryd.prog) false a88 a89).bind fun a90 =>
 condK a90
 (splitK a3
 ((binA .eql (Go.TypeDesc.interface #[("Error", 138)]) (cmpT Tryd.prog) false a15 (.ifc t_api_Code (.int .i64 6))).bind fun a91 =>
 splitK a91
 ((lenV a13 H85).bind fun a92 =>
 (binA .eql (Go.TypeDesc.int Go.IntKind.i64) (cmpT Tryd.prog) true a92 (.int .i64 0)).bind fun a93 =>
 splitK a93
 ((lenV a14 H85).bind fun a94 =>
 (binA .eql (Go.TypeDesc.int Go.IntKind.i64) (cmpT Tryd.prog) true a94 (.int .i64 0)).bind fun a95 =>
 endB false false n a95 H85 (E85 ++ (E80 ++ (E21 ++ (E18 ++ (E17 ++ (E16 ++ (E12 ++ (E8 ++ (E5 ++ (E3 ++ (E2 ++ (E1 ++ [])))))))))))))
 (endB false false n (.bool false) H85 (E85 ++ (E80 ++ (E21 ++ (E18 ++ (E17 ++ (E16 ++ (E12 ++ (E8 ++ (E5 ++ (E3 ++ (E2 ++ (E1 ++ []))))))))))))))
 (endB false false n (.bool false) H85 (E85 ++ (E80 ++ (E21 ++ (E18 ++ (E17 ++ (E16 ++ (E12 ++ (E8 ++ (E5 ++ (E3 ++ (E2 ++ (E1 ++ []))))))))))))))
 (endB false false n (.bool false) H85 (E85 ++ (E80 ++ (E21 ++ (E18 ++ (E17 ++ (E16 ++ (E12 ++ (E8 ++ (E5 ++ (E3 ++ (E2 ++ (E1 ++ []))))))))))))))
 ((loadA true 9 a17 H85).bind fun a96 =>
 (loadA true 5 a1 H85).bind fun a97 =>
 (loadA true 5 a2 H85).bind fun a98 =>
 callK (EV C) false n_ref09_Search [a96, x0, a97, a98] H85 fun a99 H99 E99 =>
 (extA a99 0).bind fun a100 =>
 (extA a99 1).bind fun a101 =>
 (extA a99 2).bind fun a102 =>
 (unA .not a102).bind fun a103 =>
 condK a103
 (splitK a3
 ((binA .eql (Go.TypeDesc.interface #[("Error", 138)]) (cmpT Tryd.prog) false a15 (.ifc t_api_Code (.int .i64 9))).bind fun a104 =>
 splitK a104
 ((lenV a13 H99).bind fun a105 =>
 (binA .eql (Go.TypeDesc.int Go.IntKind.i64) (cmpT Tryd.prog) true a105 (.int .i64 0)).bind fun a106 =>
 splitK a106
 ((lenV a14 H99).bind fun a107 =>
 (binA .eql (Go.TypeDesc.int Go.IntKind.i64) (cmpT Tryd.prog) true a107 (.int .i64 0)).bind fun a108 =>
 endB false false n a108 H99 (E99 ++ (E85 ++ (E80 ++ (E21 ++ (E18 ++ (E17 ++ (E16 ++ (E12 ++ (E8 ++ (E5 ++ (E3 ++ (E2 ++ (E1 ++ []))))))))))))))
 (endB false false n (.bool false) H99 (E99 ++ (E85 ++ (E80 ++ (E21 ++ (E18 ++ (E17 ++ (E16 ++ (E12 ++ (E8 ++ (E5 ++ (E3 ++ (E2 ++ (E1 ++ [])))))))))))))))
 (endB false false n (.bool false) H99 (E99 ++ (E85 ++ (E80 ++ (E21 ++ (E18 ++ (E17 ++ (E16 ++ (E12 ++ (E8 ++ (E5 ++ (E3 ++ (E2 ++ (E1 ++ [])))))))))))))))
 (endB false false n (.bool false) H99 (E99 ++ (E85 ++ (E80 ++ (E21 ++ (E18 ++ (E17 ++ (E16 ++ (E12 ++ (E8 ++ (E5 ++ (E3 ++ (E2 ++ (E1 ++ [])))))))))))))))
 (splitK a3
 ((binA .eql (Go.TypeDesc.interface #[("Error", 138)]) (cmpT Tryd.prog) true a15 .nili).bind fun a109 =>
 splitK a109
 ((cvL a13 H99).bind fun a110 =>
 (cvL a100 H99).bind fun a111 =>
 (binA .eql Go.TypeDesc.string (cmpT Tryd.prog) false a110 a111).bind fun a112 =>
 splitK a112
 ((cvL a14 H99).bind fun a113 =>
 (cvL a101 H99).bind fun a114 =>
 (binA .eql Go.TypeDesc.string (cmpT Tryd.prog) false a113 a114).bind fun a115 =>
 endB false false n a115 H99 (E99 ++ (E85 ++ (E80 ++ (E21 ++ (E18 ++ (E17 ++ (E16 ++ (E12 ++ (E8 ++ (E5 ++ (E3 ++ (E2 ++ (E1 ++ []))))))))))))))
 (endB false false n (.bool false) H99 (E99 ++ (E85 ++ (E80 ++ (E21 ++ (E18 ++ (E17 ++ (E16 ++ (E12 ++ (E8 ++ (E5 ++ (E3 ++ (E2 ++ (E1 ++ [])))))))))))))))
 (endB false false n (.bool false) H99 (E99 ++ (E85 ++ (E80 ++ (E21 ++ (E18 ++ (E17 ++ (E16 ++ (E12 ++ (E8 ++ (E5 ++ (E3 ++ (E2 ++ (E1 ++ [])))))))))))))))
 (endB false false n (.bool false) H99 (E99 ++ (E85 ++ (E80 ++ (E21 ++ (E18 ++ (E17 ++ (E16 ++ (E12 ++ (E8 ++ (E5 ++ (E3 ++ (E2 ++ (E1 ++ [])))))))))))))))))))))) (List.length H) = some r) : EV C n_law09_ClashFinds [x0, x1, x2] H = some r :=
 EV_of_fnK' (fn := Tryd.f6) (by kernel_rfl) (by kernel_rfl) (by kernel_rfl) hh
/-! ### 22 heartwood/heartwoodlaw00.Code -/
noncomputable def law00_Code_J4 (n : Nat) (t0 t3 : AV) (H : List AObj) (E : List Nat) : Option R3 :=
 loopK Tryd.prog C.G (EV C) (C.hint 22) Tryd.f22 (cAt (bodyOf Tryd.f22) [1, 1, 0, 1, 0, 0]) (kAt Tryd.prog C.G (EV C) (C.hint 22) Tryd.f22 (bodyOf Tryd.f22) [1, 1, 0, 1, 0] [] (endK Tryd.prog (C.hint 22) Tryd.f22 n))
 ⟨pat 15 [(0, t0), (3, t3)], H, E⟩
theorem law00_Code_J4_of {r : R3} {n : Nat} {t0 t3 : AV} {H : List AObj} {E : List Nat} (hh : (
 (binA .leq (Go.TypeDesc.int Go.IntKind.i64) (cmpT Tryd.prog) true t3 (.int .i64 13)).bind fun a1 =>
 condK a1
 ((binA .eql (Go.TypeDesc.interface #[("Error", 138)]) (cmpT Tryd.prog) false t0 (.ifc t_api_Code t3)).bind fun a2 =>
 condK a2
 (endB false false n t3 H E)
 ((binA .add (Go.TypeDesc.int Go.IntKind.i64) (cmpT Tryd.prog) true t3 (.int .i64 1)).bind fun a3 =>
 law00_Code_J4 n t0 a3 H E))
 (endB false false n (.int .i64 (-1)) H E)) = some r) : law00_Code_J4 n t0 t3 H E = some r :=
 loop_step' (by kernel_rfl) hh
theorem law00_Code_of {r : R3} {x0 : AV} {H : List AObj} (hh : (fun n => (
 (binA .eql (Go.TypeDesc.interface #[("Error", 138)]) (cmpT Tryd.prog) true x0 .nili).bind fun a1 =>
 condK a1
 (endB false false n (.int .i64 0) H [])
 (law00_Code_J4 n x0 (.int .i64 1) H []))) (List.length H) = some r) : EV C n_law00_Code [x0] H = some r :=
 EV_of_fnK' (fn := Tryd.f22) (by kernel_rfl) (by kernel_rfl) (by kernel_rfl) hh
end Go.Pm
