/- A part of the proof: what the functions of the program answer, as plain lists and numbers. -/
import Derived.Test.YtclfnechcblmoaaDoorP9
namespace Go.Pm
open Go.Proofs
set_option linter.unusedVariables false
set_option maxRecDepth 100000
noncomputable def scan_Range_J5 (n : Nat) (t3 t6 t14 t15 t16 : AV) (H : List AObj) (E : List Nat) : Option R3 :=
 loopK Tryd.prog C.G (EV C) (C.hint 47) Tryd.f47 (cAt (bodyOf Tryd.f47) [1, 1, 1, 0, 1, 0, 0]) (kAt Tryd.prog C.G (EV C) (C.hint 47) Tryd.f47 (bodyOf Tryd.f47) [1, 1, 1, 0, 1, 0] [] (endK Tryd.prog (C.hint 47) Tryd.f47 n))
 ⟨pat 36 [(3, t3), (6, t6), (14, t14), (15, t15), (16, t16)], H, E⟩
theorem scan_Range_J5_of {r : R3} {n : Nat} {t3 t6 t14 t15 t16 : AV} {H : List AObj} {E : List Nat} (hh : (
 (binA .lss (Go.TypeDesc.int Go.IntKind.i64) (cmpT Tryd.prog) false t16 t15).bind fun a1 =>
 condK a1
 ((ixA 5 t14 t16 H).bind fun a2 =>
 (loadA true 5 a2 H).bind fun a3 =>
 newK (.agg [(.int .i64 0), .nils, .nils, .nils, .nils]) H fun a4 H4 E4 =>
 stoK 5 a4 a3 H4 fun H5 E5 =>
 (loadA true 3 t3 H5).bind fun a6 =>
 (offA a4 1).bind fun a7 =>
 (loadA false 1 a7 H5).bind fun a8 =>
 callK (EV C) false n_scan_In [a6, a8] H5 fun a9 H9 E9 =>
 condK a9
 ((offA a4 1).bind fun a10 =>
 (loadA false 1 a10 H9).bind fun a11 =>
 (callD (EV C) n_Clone_byte [a11] H9).bind fun a12 =>
 (offA a4 2).bind fun a13 =>
 (loadA false 1 a13 H9).bind fun a14 =>
 (callD (EV C) n_Clone_byte [a14] H9).bind fun a15 =>
 (fillB (AV.cells (.agg [.nils, .nils])) [(0, 1, a12), (1, 1, a15)]).bind fun c16 =>
 (litD 2 1 (.agg [.nils, .nils]) [(0, (.agg c16))] H9).bind fun a17 =>
 appK 2 48 t6 a17 H9 fun a18 H18 E18 =>
 (binA .add (Go.TypeDesc.int Go.IntKind.i64) (cmpT Tryd.prog) true t16 (.int .i64 1)).bind fun a19 =>
 condB (List.all (E18 ++ (E9 ++ (E5 ++ (E4 ++ [])))) (fun e => decide (List.length H ≤ e)) && (AV.bel (List.length H) t3 && (AV.bel (List.length H) a18 && (AV.bel (List.length H) t14 && (AV.bel (List.length H) t15 && (AV.bel (List.length H) a19 && true))))))
 (scan_Range_J5 n t3 a18 t14 t15 a19 (List.take (List.length H) H18) E))
 ((binA .add (Go.TypeDesc.int Go.IntKind.i64) (cmpT Tryd.prog) true t16 (.int .i64 1)).bind fun a20 =>
 condB (List.all (E9 ++ (E5 ++ (E4 ++ []))) (fun e => decide (List.length H ≤ e)) && (AV.bel (List.length H) t3 && (AV.bel (List.length H) t6 && (AV.bel (List.length H) t14 && (AV.bel (List.length H) t15 && (AV.bel (List.length H) a20 && true))))))
 (scan_Range_J5 n t3 t6 t14 t15 a20 (List.take (List.length H) H9) E)))
 (endB false false n (.tup [t6, .nili]) H E)) = some r) : scan_Range_J5 n t3 t6 t14 t15 t16 H E = some r :=
 loop_step' (by kernel_rfl) hh
theorem scan_Range_of {r : R3} {x0 x1 : AV} {H : List AObj} (hh : (fun n => (
 newK x0 H fun a1 H1 E1 =>
 newK x1 H1 fun a2 H2 E2 =>
 (loadA true 5 a1 H2).bind fun a3 =>
 callK (EV C) false n_avl_Is [a3] H2 fun a4 H4 E4 =>
 (unA .not a4).bind fun a5 =>
 condK a5
 (endB false false n (.tup [.nils, (.ifc t_api_Code (.int .i64 3))]) H4 (E4 ++ (E2 ++ (E1 ++ []))))
 ((loadA true 5 a1 (H4 ++ [.vrow])).bind fun a6 =>
 callK (EV C) false n_tree_List [a6] (H4 ++ [.vrow]) fun a7 H7 E7 =>
 (lenV a7 H7).bind fun a8 =>
 scan_Range_J5 n a2 (.slc (List.length H4) 0 0 0) a7 a8 (.int .i64 0) H7 (E7 ++ (E4 ++ (E2 ++ (E1 ++ []))))))) (List.length H) = some r) : EV C n_scan_Range [x0, x1] H = some r :=
 EV_of_fnK' (fn := Tryd.f47) (by kernel_rfl) (by kernel_rfl) (by kernel_rfl) hh
theorem law08_CheckHonest_of {r : R3} {x0 x1 x2 : AV} {H : List AObj} (hh : (fun n => (
 newK x2 H fun a1 H1 E1 =>
 callK (EV C) false n_law08_up [] H1 fun a2 H2 E2 =>
 callK (EV C) false n_ref05_Grown [x1] H2 fun a3 H3 E3 =>
 newK (.agg [(.int .i64 0), .nils, .nils, .nils, .nils]) H3 fun a4 H4 E4 =>
 stoK 5 a4 a3 H4 fun H5 E5 =>
 (loadA true 5 a4 H5).bind fun a6 =>
 callK (EV C) false n_tree_Digest [x0, a6] H5 fun a7 H7 E7 =>
 (extA a7 0).bind fun a8 =>
 (extA a7 1).bind fun a9 =>
 (binA .neq (Go.TypeDesc.interface #[("Error", 138)]) (cmpT Tryd.prog) true a9 .nili).bind fun a10 =>
 condK a10
 (splitK a2
 ((binA .eql (Go.TypeDesc.interface #[("Error", 138)]) (cmpT Tryd.prog) false a9 (.ifc t_api_Code (.int .i64 1))).bind fun a11 =>
 endB false false n a11 H7 (E7 ++ (E5 ++ (E4 ++ (E3 ++ (E2 ++ (E1 ++ [])))))))
 (endB false false n (.bool false) H7 (E7 ++ (E5 ++ (E4 ++ (E3 ++ (E2 ++ (E1 ++ []))))))))
 ((loadA true 5 a4 H7).bind fun a12 =>
 (loadA true 3 a1 H7).bind fun a13 =>
 callK (EV C) false n_proof_Prove [x0, a12, a13] H7 fun a14 H14 E14 =>
 (extA a14 0).bind fun a15 =>
 (extA a14 1).bind fun a16 =>
 newK (.agg [(.int .i64 0), .nils, .nils, .nils, .nils]) H14 fun a17 H17 E17 =>
 stoK 5 a17 a15 H17 fun H18 E18 =>
 (loadA true 3 a1 H18).bind fun a19 =>
 (loadA true 5 a17 H18).bind fun a20 =>
 callK (EV C) false n_check_Check [x0, a8, a19, a20] H18 fun a21 H21 E21 =>
 (extA a21 0).bind fun a22 =>
 (extA a21 1).bind fun a23 =>
 (loadA true 5 a4 H21).bind fun a24 =>
 (loadA true 3 a1 H21).bind fun a25 =>
 callK (EV C) false n_scan_Range [a24, a25] H21 fun a26 H26 E26 =>
 (extA a26 0).bind fun a27 =>
 (extA a26 1).bind fun a28 =>
 splitK a2
 ((binA .eql (Go.TypeDesc.interface #[("Error", 138)]) (cmpT Tryd.prog) true a16 .nili).bind fun a29 =>
 splitK a29
 ((binA .eql (Go.TypeDesc.interface #[("Error", 138)]) (cmpT Tryd.prog) true a23 .nili).bind fun a30 =>
 splitK a30
 ((binA .eql (Go.TypeDesc.interface #[("Error", 138)]) (cmpT Tryd.prog) true a28 .nili).bind fun a31 =>
 splitK a31
 (callK (EV C) false n_ref06_Same [a22, a27] H26 fun a32 H32 E32 =>
 endB false false n a32 H32 (E32 ++ (E26 ++ (E21 ++ (E18 ++ (E17 ++ (E14 ++ (E7 ++ (E5 ++ (E4 ++ (E3 ++ (E2 ++ (E1 ++ [])))))))))))))
 (endB false false n (.bool false) H26 (E26 ++ (E21 ++ (E18 ++ (E17 ++ (E14 ++ (E7 ++ (E5 ++ (E4 ++ (E3 ++ (E2 ++ (E1 ++ [])))))))))))))
 (endB false false n (.bool false) H26 (E26 ++ (E21 ++ (E18 ++ (E17 ++ (E14 ++ (E7 ++ (E5 ++ (E4 ++ (E3 ++ (E2 ++ (E1 ++ [])))))))))))))
 (endB false false n (.bool false) H26 (E26 ++ (E21 ++ (E18 ++ (E17 ++ (E14 ++ (E7 ++ (E5 ++ (E4 ++ (E3 ++ (E2 ++ (E1 ++ [])))))))))))))
 (endB false false n (.bool false) H26 (E26 ++ (E21 ++ (E18 ++ (E17 ++ (E14 ++ (E7 ++ (E5 ++ (E4 ++ (E3 ++ (E2 ++ (E1 ++ []))))))))))))))) (List.length H) = some r) : EV C n_law08_CheckHonest [x0, x1, x2] H = some r :=
 EV_of_fnK' (fn := Tryd.f16) (by kernel_rfl) (by kernel_rfl) (by kernel_rfl) hh
end Go.Pm
