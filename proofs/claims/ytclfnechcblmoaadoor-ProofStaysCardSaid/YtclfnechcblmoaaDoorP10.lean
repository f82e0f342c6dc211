/- A part of the proof: what the functions of the program answer, as plain lists and numbers. -/
import Derived.Test.YtclfnechcblmoaaDoorP9
namespace Go.Pm
open Go.Proofs
set_option linter.unusedVariables false
set_option maxRecDepth 100000
theorem tree_List_of {r : R3} {x0 : AV} {H : List AObj} (hh : (fun n => (
 newK x0 H fun a1 H1 E1 =>
 (loadA true 5 a1 H1).bind fun a2 =>
 callK (EV C) false n_tree_Check [a2] H1 fun a3 H3 E3 =>
 (binA .neq (Go.TypeDesc.interface #[("Error", 138)]) (cmpT Tryd.prog) true a3 .nili).bind fun a4 =>
 condK a4
 (endB false false n .nils H3 (E3 ++ (E1 ++ [])))
 (newK .nils H3 fun a5 H5 E5 =>
 newK .nilf H5 fun a6 H6 E6 =>
 stoK 1 a6 (.clo n_tree_List_1 [] [a6, a5]) H6 fun H7 E7 =>
 (loadA false 1 a6 H7).bind fun a8 =>
 (loadA true 5 a1 H7).bind fun a9 =>
 valK Tryd.prog (EV C) false a8 [a9] H7 fun a10 H10 E10 =>
 (loadA false 1 a5 H10).bind fun a11 =>
 endB false false n a11 H10 (E10 ++ (E7 ++ (E6 ++ (E5 ++ (E3 ++ (E1 ++ []))))))))) (List.length H) = some r) : EV C n_tree_List [x0] H = some r :=
 EV_of_fnK' (fn := Tryd.f45) (by kernel_rfl) (by kernel_rfl) (by kernel_rfl) hh
theorem tree_List_1_of {r : R3} {x0 x1 x2 : AV} {H : List AObj} (hh : (fun n => (
 newK x0 H fun a1 H1 E1 =>
 (offA a1 4).bind fun a2 =>
 (loadA false 1 a2 H1).bind fun a3 =>
 (lenV a3 H1).bind fun a4 =>
 (binA .eql (Go.TypeDesc.int Go.IntKind.i64) (cmpT Tryd.prog) true a4 (.int .i64 0)).bind fun a5 =>
 condK a5
 (endB false true n (.tup []) H1 (E1 ++ []))
 ((loadA false 1 x1 H1).bind fun a6 =>
 (offA a1 4).bind fun a7 =>
 (loadA false 1 a7 H1).bind fun a8 =>
 (ixA 5 a8 (.int .i64 0) H1).bind fun a9 =>
 (loadA true 5 a9 H1).bind fun a10 =>
 valK Tryd.prog (EV C) false a6 [a10] H1 fun a11 H11 E11 =>
 drawK (SwapOk Tryd.prog C.G (EV C) (C.hint 76) 3 (opsOf Tryd.f76 3) ⟨[x0, x1, x2, a1, a2, a3, a4, (.bool false), a6, a7, a8, a9, a10, a11, (.tup []), (.tup []), (.tup []), (.tup []), (.tup []), (.tup []), (.tup []), (.tup []), (.tup []), (.tup []), (.tup []), (.tup [])], H11, (E11 ++ (E1 ++ []))⟩)
 ((loadA false 1 x2 H11).bind fun a12 =>
 (loadA true 5 a1 H11).bind fun a13 =>
 (lenV a12 H11).bind fun a14 =>
 litK 5 1 (.agg [(.int .i64 0), .nils, .nils, .nils, .nils]) [(0, (.agg [(.int .i64 0), .nils, .nils, .nils, .nils]))] H11 fun a15 H15 E15 =>
 appK 5 104 a12 a15 H15 fun a16 H16 E16 =>
 (ixA 5 a16 a14 H16).bind fun a17 =>
 stoK 5 a17 a13 H16 fun H18 E18 =>
 stoK 1 x2 a16 H18 fun H19 E19 =>
 (loadA false 1 x1 H19).bind fun a20 =>
 (offA a1 4).bind fun a21 =>
 (loadA false 1 a21 H19).bind fun a22 =>
 (ixA 5 a22 (.int .i64 1) H19).bind fun a23 =>
 (loadA true 5 a23 H19).bind fun a24 =>
 valK Tryd.prog (EV C) false a20 [a24] H19 fun a25 H25 E25 =>
 endB false true n (.tup []) H25 (E25 ++ (E19 ++ (E18 ++ (E16 ++ (E15 ++ (E11 ++ (E1 ++ []))))))))))) (List.length H) = some r) : EV C n_tree_List_1 [x0, x1, x2] H = some r :=
 EV_of_fnK' (fn := Tryd.f76) (by kernel_rfl) (by kernel_rfl) (by kernel_rfl) hh
theorem scan_In_of {r : R3} {x0 x1 : AV} {H : List AObj} (hh : (fun n => (
 newK x0 H fun a1 H1 E1 =>
 (offA a1 0).bind fun a2 =>
 (loadA false 1 a2 H1).bind fun a3 =>
 callK (EV C) false n_bytes_Compare [x1, a3] H1 fun a4 H4 E4 =>
 (binA .geq (Go.TypeDesc.int Go.IntKind.i64) (cmpT Tryd.prog) true a4 (.int .i64 0)).bind fun a5 =>
 splitK a5
 ((offA a1 2).bind fun a6 =>
 (loadA false 1 a6 H4).bind fun a7 =>
 splitK a7
 (endB false false n (.bool true) H4 (E4 ++ (E1 ++ [])))
 ((offA a1 1).bind fun a8 =>
 (loadA false 1 a8 H4).bind fun a9 =>
 callK (EV C) false n_bytes_Compare [x1, a9] H4 fun a10 H10 E10 =>
 (binA .lss (Go.TypeDesc.int Go.IntKind.i64) (cmpT Tryd.prog) true a10 (.int .i64 0)).bind fun a11 =>
 endB false false n a11 H10 (E10 ++ (E4 ++ (E1 ++ [])))))
 (endB false false n (.bool false) H4 (E4 ++ (E1 ++ []))))) (List.length H) = some r) : EV C n_scan_In [x0, x1] H = some r :=
 EV_of_fnK' (fn := Tryd.f25) (by kernel_rfl) (by kernel_rfl) (by kernel_rfl) hh
end Go.Pm
