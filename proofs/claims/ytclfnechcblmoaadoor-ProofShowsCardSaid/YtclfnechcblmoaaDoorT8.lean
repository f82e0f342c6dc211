/- A part of the proof: what the functions of the program answer, as plain lists and numbers. -/
import Derived.Test.YtclfnechcblmoaaDoorT0
namespace Go.Pm
open Go.Proofs
set_option linter.unusedVariables false
set_option maxRecDepth 100000
/-! ### 20 heartwood/heartwoodref08.Check -/
noncomputable def ref08_Check_J14 (n : Nat) (t8 t15 t16 t17 : AV) (H : List AObj) (E : List Nat) : Option R3 :=
 loopK Tryd.prog C.G (EV C) (C.hint 20) Tryd.f20 (cAt (bodyOf Tryd.f20) [1, 1, 1, 1, 1, 1, 1, 1, 1, 0, 1, 0, 0]) (kAt Tryd.prog C.G (EV C) (C.hint 20) Tryd.f20 (bodyOf Tryd.f20) [1, 1, 1, 1, 1, 1, 1, 1, 1, 0, 1, 0] [] (endK Tryd.prog (C.hint 20) Tryd.f20 n))
 ⟨pat 180 [(8, t8), (15, t15), (16, t16), (17, t17)], H, E⟩
noncomputable def ref08_Check_J19 (n : Nat) (t8 t15 t16 t18 : AV) (H : List AObj) (E : List Nat) : Option R3 :=
 loopK Tryd.prog C.G (EV C) (C.hint 20) Tryd.f20 (cAt (bodyOf Tryd.f20) [1, 1, 1, 1, 1, 1, 1, 1, 1, 1, 0, 1, 0, 0]) (kAt Tryd.prog C.G (EV C) (C.hint 20) Tryd.f20 (bodyOf Tryd.f20) [1, 1, 1, 1, 1, 1, 1, 1, 1, 1, 0, 1, 0] [] (endK Tryd.prog (C.hint 20) Tryd.f20 n))
 ⟨pat 180 [(8, t8), (15, t15), (16, t16), (18, t18)], H, E⟩
noncomputable def ref08_Check_J27 (n : Nat) (t8 t15 t19 t20 t21 t22 : AV) (H : List AObj) (E : List Nat) : Option R3 :=
 loopK Tryd.prog C.G (EV C) (C.hint 20) Tryd.f20 (cAt (bodyOf Tryd.f20) [1, 1, 1, 1, 1, 1, 1, 1, 1, 1, 1, 1, 1, 1, 0, 1, 0, 0]) (kAt Tryd.prog C.G (EV C) (C.hint 20) Tryd.f20 (bodyOf Tryd.f20) [1, 1, 1, 1, 1, 1, 1, 1, 1, 1, 1, 1, 1, 1, 0, 1, 0] [] (endK Tryd.prog (C.hint 20) Tryd.f20 n))
 ⟨pat 180 [(8, t8), (15, t15), (19, t19), (20, t20), (21, t21), (22, t22)], H, E⟩
noncomputable def ref08_Check_J33 (n : Nat) (Ha : List AObj) (Ea : List Nat) (t8 t15 t19 t20 t21 t22 t23 t24 t25 : AV) (H : List AObj) (E : List Nat) : Option R3 :=
 loopK Tryd.prog C.G (EV C) (C.hint 20) Tryd.f20 (cAt (bodyOf Tryd.f20) [1, 1, 1, 1, 1, 1, 1, 1, 1, 1, 1, 1, 1, 1, 0, 1, 0, 0, 1, 0, 0, 0, 1, 0, 1, 1, 0, 1, 0, 0]) (kAt Tryd.prog C.G (EV C) (C.hint 20) Tryd.f20 (bodyOf Tryd.f20) [1, 1, 1, 1, 1, 1, 1, 1, 1, 1, 1, 1, 1, 1, 0, 1, 0, 0, 1, 0, 0, 0, 1, 0, 1, 1, 0, 1, 0] [(Ha, Ea)] (endK Tryd.prog (C.hint 20) Tryd.f20 n))
 ⟨pat 180 [(8, t8), (15, t15), (19, t19), (20, t20), (21, t21), (22, t22), (23, t23), (24, t24), (25, t25)], H, E⟩
theorem ref08_Check_J14_of {r : R3} {n : Nat} {t8 t15 t16 t17 : AV} {H : List AObj} {E : List Nat} (hh : (
 (lenV t15 H).bind fun a1 =>
 (binA .lss (Go.TypeDesc.int Go.IntKind.i64) (cmpT Tryd.prog) false t17 a1).bind fun a2 =>
 condK a2
 ((ixA 4 t15 t17 H).bind fun a3 =>
 (offA a3 0).bind fun a4 =>
 (loadA false 1 a4 H).bind fun a5 =>
 (unA .not a5).bind fun a6 =>
 condK a6
 ((ixA 4 t15 t17 H).bind fun a7 =>
 (loadA true 4 a7 H).bind fun a8 =>
 litK 4 1 (.agg [(.bool false), (.bool false), .nils, .nils]) [(0, a8)] H fun a9 H9 E9 =>
 appK 4 56 t16 a9 H9 fun a10 H10 E10 =>
 (binA .add (Go.TypeDesc.int Go.IntKind.i64) (cmpT Tryd.prog) true t17 (.int .i64 1)).bind fun a11 =>
 ref08_Check_J14 n t8 t15 a10 a11 H10 ((E10 ++ (E9 ++ [])) ++ E))
 ((binA .add (Go.TypeDesc.int Go.IntKind.i64) (cmpT Tryd.prog) true t17 (.int .i64 1)).bind fun a12 =>
 ref08_Check_J14 n t8 t15 t16 a12 H E))
 (ref08_Check_J19 n t8 t15 t16 (.int .i64 1) H E)) = some r) : ref08_Check_J14 n t8 t15 t16 t17 H E = some r :=
 loop_step' (by kernel_rfl) hh
theorem ref08_Check_J19_of {r : R3} {n : Nat} {t8 t15 t16 t18 : AV} {H : List AObj} {E : List Nat} (hh : (
 (lenV t16 H).bind fun a1 =>
 (binA .lss (Go.TypeDesc.int Go.IntKind.i64) (cmpT Tryd.prog) false t18 a1).bind fun a2 =>
 condK a2
 ((binA .sub (Go.TypeDesc.int Go.IntKind.i64) (cmpT Tryd.prog) true t18 (.int .i64 1)).bind fun a3 =>
 (ixA 4 t16 a3 H).bind fun a4 =>
 (offA a4 2).bind fun a5 =>
 (loadA false 1 a5 H).bind fun a6 =>
 (cvL a6 H).bind fun a7 =>
 (ixA 4 t16 t18 H).bind fun a8 =>
 (offA a8 2).bind fun a9 =>
 (loadA false 1 a9 H).bind fun a10 =>
 (cvL a10 H).bind fun a11 =>
 (binA .geq Go.TypeDesc.string (cmpT Tryd.prog) false a7 a11).bind fun a12 =>
 condK a12
 (endB false false n (.tup [.nils, (.int .i64 7)]) H E)
 ((binA .add (Go.TypeDesc.int Go.IntKind.i64) (cmpT Tryd.prog) true t18 (.int .i64 1)).bind fun a13 =>
 ref08_Check_J19 n t8 t15 t16 a13 H E))
 ((fillB (AV.cells (.agg [(.bool false), (.bool false), .nils, .nils])) []).bind fun c14 =>
 newK (.agg [(.bool false), (.bool false), .nils, .nils]) (H ++ [.vrow]) fun a15 H15 E15 =>
 stoK 4 a15 (.agg c14) H15 fun H16 E16 =>
 ref08_Check_J27 n t8 t15 (.slc (List.length H) 0 0 0) a15 (.bool false) (.int .i64 0) H16 (E16 ++ (E15 ++ E)))) = some r) : ref08_Check_J19 n t8 t15 t16 t18 H E = some r :=
 loop_step' (by kernel_rfl) hh
theorem ref08_Check_J27_of {r : R3} {n : Nat} {t8 t15 t19 t20 t21 t22 : AV} {H : List AObj} {E : List Nat} (hh : (
 (lenV t15 H).bind fun a1 =>
 (binA .lss (Go.TypeDesc.int Go.IntKind.i64) (cmpT Tryd.prog) false t22 a1).bind fun a2 =>
 condK a2
 ((ixA 4 t15 t22 H).bind fun a3 =>
 (offA a3 0).bind fun a4 =>
 (loadA false 1 a4 H).bind fun a5 =>
 condK a5
 ((fillB (AV.cells (.agg [(.bool false), (.bool false), .nils, .nils])) []).bind fun c6 =>
 newK (.agg [(.bool false), (.bool false), .nils, .nils]) H fun a7 H7 E7 =>
 stoK 4 a7 (.agg c6) H7 fun H8 E8 =>
 (binA .add (Go.TypeDesc.int Go.IntKind.i64) (cmpT Tryd.prog) true t22 (.int .i64 1)).bind fun a9 =>
 ref08_Check_J33 n H E t8 t15 t19 t20 t21 t22 a7 (.bool false) a9 H8 (E8 ++ (E7 ++ [])))
 ((ixA 4 t15 t22 H).bind fun a10 =>
 (loadA true 4 a10 H).bind fun a11 =>
 stoK 4 t20 a11 H fun H12 E12 =>
 (loadA true 3 t8 H12).bind fun a13 =>
 (ixA 4 t15 t22 H12).bind fun a14 =>
 (offA a14 2).bind fun a15 =>
 (loadA false 1 a15 H12).bind fun a16 =>
 (callD (EV C) n_ref06_In [a13, a16] H12).bind fun a17 =>
 splitK a17
 ((ixA 4 t15 t22 H12).bind fun a18 =>
 (offA a18 1).bind fun a19 =>
 (loadA false 1 a19 H12).bind fun a20 =>
 condK a20
 (endB false false n (.tup [.nils, (.int .i64 8)]) H12 ((E12 ++ []) ++ E))
 (condK a17
 ((ixA 4 t15 t22 H12).bind fun a21 =>
 (offA a21 2).bind fun a22 =>
 (loadA false 1 a22 H12).bind fun a23 =>
 (ixA 4 t15 t22 H12).bind fun a24 =>
 (offA a24 3).bind fun a25 =>
 (loadA false 1 a25 H12).bind fun a26 =>
 (fillB (AV.cells (.agg [.nils, .nils])) [(0, 1, a23), (1, 1, a26)]).bind fun c27 =>
 (litD 2 1 (.agg [.nils, .nils]) [(0, (.agg c27))] H12).bind fun a28 =>
 appK 2 48 t19 a28 H12 fun a29 H29 E29 =>
 (binA .add (Go.TypeDesc.int Go.IntKind.i64) (cmpT Tryd.prog) true t22 (.int .i64 1)).bind fun a30 =>
 condB (List.all (E29 ++ (E12 ++ [])) (fun e => decide (List.length H ≤ e)) && (AV.bel (List.length H) t8 && (AV.bel (List.length H) t15 && (AV.bel (List.length H) a29 && (AV.bel (List.length H) t20 && (AV.bel (List.length H) (.bool true) && (AV.bel (List.length H) a30 && true)))))))
 (ref08_Check_J27 n t8 t15 a29 t20 (.bool true) a30 (List.take (List.length H) H29) E))
 ((binA .add (Go.TypeDesc.int Go.IntKind.i64) (cmpT Tryd.prog) true t22 (.int .i64 1)).bind fun a31 =>
 condB (List.all (E12 ++ []) (fun e => decide (List.length H ≤ e)) && (AV.bel (List.length H) t8 && (AV.bel (List.length H) t15 && (AV.bel (List.length H) t19 && (AV.bel (List.length H) t20 && (AV.bel (List.length H) (.bool true) && (AV.bel (List.length H) a31 && true)))))))
 (ref08_Check_J27 n t8 t15 t19 t20 (.bool true) a31 (List.take (List.length H) H12) E))))
 (condK a17
 ((ixA 4 t15 t22 H12).bind fun a32 =>
 (offA a32 2).bind fun a33 =>
 (loadA false 1 a33 H12).bind fun a34 =>
 (ixA 4 t15 t22 H12).bind fun a35 =>
 (offA a35 3).bind fun a36 =>
 (loadA false 1 a36 H12).bind fun a37 =>
 (fillB (AV.cells (.agg [.nils, .nils])) [(0, 1, a34), (1, 1, a37)]).bind fun c38 =>
 (litD 2 1 (.agg [.nils, .nils]) [(0, (.agg c38))] H12).bind fun a39 =>
 appK 2 48 t19 a39 H12 fun a40 H40 E40 =>
 (binA .add (Go.TypeDesc.int Go.IntKind.i64) (cmpT Tryd.prog) true t22 (.int .i64 1)).bind fun a41 =>
 condB (List.all (E40 ++ (E12 ++ [])) (fun e => decide (List.length H ≤ e)) && (AV.bel (List.length H) t8 && (AV.bel (List.length H) t15 && (AV.bel (List.length H) a40 && (AV.bel (List.length H) t20 && (AV.bel (List.length H) (.bool true) && (AV.bel (List.length H) a41 && true)))))))
 (ref08_Check_J27 n t8 t15 a40 t20 (.bool true) a41 (List.take (List.length H) H40) E))
 ((binA .add (Go.TypeDesc.int Go.IntKind.i64) (cmpT Tryd.prog) true t22 (.int .i64 1)).bind fun a42 =>
 condB (List.all (E12 ++ []) (fun e => decide (List.length H ≤ e)) && (AV.bel (List.length H) t8 && (AV.bel (List.length H) t15 && (AV.bel (List.length H) t19 && (AV.bel (List.length H) t20 && (AV.bel (List.length H) (.bool true) && (AV.bel (List.length H) a42 && true)))))))
 (ref08_Check_J27 n t8 t15 t19 t20 (.bool true) a42 (List.take (List.length H) H12) E)))))
 (endB false false n (.tup [t19, (.int .i64 0)]) H E)) = some r) : ref08_Check_J27 n t8 t15 t19 t20 t21 t22 H E = some r :=
 loop_step' (by kernel_rfl) hh
theorem ref08_Check_J33_of {r : R3} {n : Nat} {Ha : List AObj} {Ea : List Nat} {t8 t15 t19 t20 t21 t22 t23 t24 t25 : AV} {H : List AObj} {E : List Nat} (hh : (
 (lenV t15 H).bind fun a1 =>
 (binA .lss (Go.TypeDesc.int Go.IntKind.i64) (cmpT Tryd.prog) false t25 a1).bind fun a2 =>
 splitK a2
 ((unA .not t24).bind fun a3 =>
 condK a3
 ((ixA 4 t15 t25 H).bind fun a4 =>
 (offA a4 0).bind fun a5 =>
 (loadA false 1 a5 H).bind fun a6 =>
 (unA .not a6).bind fun a7 =>
 condK a7
 ((ixA 4 t15 t25 H).bind fun a8 =>
 (loadA true 4 a8 H).bind fun a9 =>
 stoK 4 t23 a9 H fun H10 E10 =>
 (binA .add (Go.TypeDesc.int Go.IntKind.i64) (cmpT Tryd.prog) true t25 (.int .i64 1)).bind fun a11 =>
 ref08_Check_J33 n Ha Ea t8 t15 t19 t20 t21 t22 t23 (.bool true) a11 H10 ((E10 ++ []) ++ E))
 ((binA .add (Go.TypeDesc.int Go.IntKind.i64) (cmpT Tryd.prog) true t25 (.int .i64 1)).bind fun a12 =>
 ref08_Check_J33 n Ha Ea t8 t15 t19 t20 t21 t22 t23 t24 a12 H E))
 ((loadA true 3 t8 H).bind fun a13 =>
 (offA t20 2).bind fun a14 =>
 (loadA false 1 a14 H).bind fun a15 =>
 (offA t23 2).bind fun a16 =>
 (loadA false 1 a16 H).bind fun a17 =>
 callK (EV C) false n_ref06_Empty [a13, a15, a17, t21, t24] H fun a18 H18 E18 =>
 (unA .not a18).bind fun a19 =>
 condK a19
 (endB false false n (.tup [.nils, (.int .i64 8)]) H18 ((E18 ++ E) ++ Ea))
 ((binA .add (Go.TypeDesc.int Go.IntKind.i64) (cmpT Tryd.prog) true t22 (.int .i64 1)).bind fun a20 =>
 condB (List.all (E18 ++ E) (fun e => decide (List.length Ha ≤ e)) && (AV.bel (List.length Ha) t8 && (AV.bel (List.length Ha) t15 && (AV.bel (List.length Ha) t19 && (AV.bel (List.length Ha) t20 && (AV.bel (List.length Ha) t21 && (AV.bel (List.length Ha) a20 && true)))))))
 (ref08_Check_J27 n t8 t15 t19 t20 t21 a20 (List.take (List.length Ha) H18) Ea))))
 ((loadA true 3 t8 H).bind fun a21 =>
 (offA t20 2).bind fun a22 =>
 (loadA false 1 a22 H).bind fun a23 =>
 (offA t23 2).bind fun a24 =>
 (loadA false 1 a24 H).bind fun a25 =>
 callK (EV C) false n_ref06_Empty [a21, a23, a25, t21, t24] H fun a26 H26 E26 =>
 (unA .not a26).bind fun a27 =>
 condK a27
 (endB false false n (.tup [.nils, (.int .i64 8)]) H26 ((E26 ++ E) ++ Ea))
 ((binA .add (Go.TypeDesc.int Go.IntKind.i64) (cmpT Tryd.prog) true t22 (.int .i64 1)).bind fun a28 =>
 condB (List.all (E26 ++ E) (fun e => decide (List.length Ha ≤ e)) && (AV.bel (List.length Ha) t8 && (AV.bel (List.length Ha) t15 && (AV.bel (List.length Ha) t19 && (AV.bel (List.length Ha) t20 && (AV.bel (List.length Ha) t21 && (AV.bel (List.length Ha) a28 && true)))))))
 (ref08_Check_J27 n t8 t15 t19 t20 t21 a28 (List.take (List.length Ha) H26) Ea)))) = some r) : ref08_Check_J33 n Ha Ea t8 t15 t19 t20 t21 t22 t23 t24 t25 H E = some r :=
 loop_step' (by kernel_rfl) hh
theorem ref08_Check_of {r : R3} {x0 x1 x2 x3 x4 : AV} {H : List AObj} (hh : (fun n => (
 newK x0 H fun a1 H1 E1 =>
 newK x3 H1 fun a2 H2 E2 =>
 newK x4 H2 fun a3 H3 E3 =>
 (binA .lss (Go.TypeDesc.int Go.IntKind.i64) (cmpT Tryd.prog) true x1 (.int .i64 1)).bind fun a4 =>
 splitK a4
 (endB false false n (.tup [.nils, (.int .i64 1)]) H3 (E3 ++ (E2 ++ (E1 ++ []))))
 ((binA .gtr (Go.TypeDesc.int Go.IntKind.i64) (cmpT Tryd.prog) true x1 (.int .i64 32)).bind fun a5 =>
 splitK a5
 (endB false false n (.tup [.nils, (.int .i64 1)]) H3 (E3 ++ (E2 ++ (E1 ++ []))))
 ((lenV x2 H3).bind fun a6 =>
 (binA .neq (Go.TypeDesc.int Go.IntKind.i64) (cmpT Tryd.prog) false a6 x1).bind fun a7 =>
 condK a7
 (endB false false n (.tup [.nils, (.int .i64 1)]) H3 (E3 ++ (E2 ++ (E1 ++ []))))
 ((loadA true 5 a3 H3).bind fun a8 =>
 callK (EV C) false n_ref04_Check [a8] H3 fun a9 H9 E9 =>
 (binA .neq (Go.TypeDesc.int Go.IntKind.i64) (cmpT Tryd.prog) true a9 (.int .i64 0)).bind fun a10 =>
 condK a10
 (endB false false n (.tup [.nils, a9]) H9 (E9 ++ (E3 ++ (E2 ++ (E1 ++ [])))))
 ((loadA true 9 a1 H9).bind fun a11 =>
 (loadA true 5 a3 H9).bind fun a12 =>
 callK (EV C) false n_ref04_Digest [a11, x1, a12] H9 fun a13 H13 E13 =>
 (extA a13 0).bind fun a14 =>
 (extA a13 1).bind fun a15 =>
 (unA .not a15).bind fun a16 =>
 condK a16
 (endB false false n (.tup [.nils, (.int .i64 3)]) H13 (E13 ++ (E9 ++ (E3 ++ (E2 ++ (E1 ++ []))))))
 ((cvL a14 H13).bind fun a17 =>
 (cvL x2 H13).bind fun a18 =>
 (binA .neq Go.TypeDesc.string (cmpT Tryd.prog) false a17 a18).bind fun a19 =>
 condK a19
 (endB false false n (.tup [.nils, (.int .i64 6)]) H13 (E13 ++ (E9 ++ (E3 ++ (E2 ++ (E1 ++ []))))))
 ((loadA true 5 a3 H13).bind fun a20 =>
 callK (EV C) false n_ref08_Items [a20] H13 fun a21 H21 E21 =>
 ref08_Check_J14 n a2 a21 (.slc (List.length H21) 0 0 0) (.int .i64 0) (H21 ++ [.vrow]) (E21 ++ (E13 ++ (E9 ++ (E3 ++ (E2 ++ (E1 ++ [])))))))))))))) (List.length H) = some r) : EV C n_ref08_Check [x0, x1, x2, x3, x4] H = some r :=
 EV_of_fnK' (fn := Tryd.f20) (by kernel_rfl) (by kernel_rfl) (by kernel_rfl) hh
/-! ### 52 heartwood/heartwoodref08.Items -/
theorem ref08_Items_of {r : R3} {x0 : AV} {H : List AObj} (hh : (fun n => (
 newK x0 H fun a1 H1 E1 =>
 (offA a1 0).bind fun a2 =>
 (loadA false 1 a2 H1).bind fun a3 =>
 (binA .eql (Go.TypeDesc.int Go.IntKind.i64) (cmpT Tryd.prog) true a3 (.int .i64 0)).bind fun a4 =>
 condK a4
 (endB false false n .nils H1 (E1 ++ []))
 ((binA .eql (Go.TypeDesc.int Go.IntKind.i64) (cmpT Tryd.prog) true a3 (.int .i64 3)).bind fun a5 =>
 condK a5
 ((fillB (AV.cells (.agg [(.bool false), (.bool false), .nils, .nils])) [(0, 1, (.bool true))]).bind fun c6 =>
 litK 4 1 (.agg [(.bool false), (.bool false), .nils, .nils]) [(0, (.agg c6))] H1 fun a7 H7 E7 =>
 endB false false n a7 H7 (E7 ++ (E1 ++ [])))
 (rawK 4 0 (.agg [(.bool false), (.bool false), .nils, .nils]) [] H1 fun a8 H8 E8 =>
 (offA a1 4).bind fun a9 =>
 (loadA false 1 a9 H8).bind fun a10 =>
 (ixA 5 a10 (.int .i64 0) H8).bind fun a11 =>
 (loadA true 5 a11 H8).bind fun a12 =>
 callK (EV C) false n_ref08_Items [a12] H8 fun a13 H13 E13 =>
 appK 4 56 a8 a13 H13 fun a14 H14 E14 =>
 (offA a1 0).bind fun a15 =>
 (loadA false 1 a15 H14).bind fun a16 =>
 (binA .eql (Go.TypeDesc.int Go.IntKind.i64) (cmpT Tryd.prog) true a16 (.int .i64 2)).bind fun a17 =>
 (offA a1 1).bind fun a18 =>
 (loadA false 1 a18 H14).bind fun a19 =>
 (offA a1 2).bind fun a20 =>
 (loadA false 1 a20 H14).bind fun a21 =>
 (fillB (AV.cells (.agg [(.bool false), (.bool false), .nils, .nils])) [(1, 1, a17), (2, 1, a19), (3, 1, a21)]).bind fun c22 =>
 litK 4 1 (.agg [(.bool false), (.bool false), .nils, .nils]) [(0, (.agg c22))] H14 fun a23 H23 E23 =>
 appK 4 56 a14 a23 H23 fun a24 H24 E24 =>
 (offA a1 4).bind fun a25 =>
 (loadA false 1 a25 H24).bind fun a26 =>
 (ixA 5 a26 (.int .i64 1) H24).bind fun a27 =>
 (loadA true 5 a27 H24).bind fun a28 =>
 callK (EV C) false n_ref08_Items [a28] H24 fun a29 H29 E29 =>
 appK 4 56 a24 a29 H29 fun a30 H30 E30 =>
 endB false false n a30 H30 (E30 ++ (E29 ++ (E24 ++ (E23 ++ (E14 ++ (E13 ++ (E8 ++ (E1 ++ [])))))))))))) (List.length H) = some r) : EV C n_ref08_Items [x0] H = some r :=
 EV_of_fnK' (fn := Tryd.f52) (by kernel_rfl) (by kernel_rfl) (by kernel_rfl) hh
/-! ### 23 heartwood/heartwoodref06.Same -/
noncomputable def ref06_Same_J4 (n : Nat) (t0 t1 t5 : AV) (H : List AObj) (E : List Nat) : Option R3 :=
 loopK Tryd.prog C.G (EV C) (C.hint 23) Tryd.f23 (cAt (bodyOf Tryd.f23) [1, 1, 0, 1, 0, 0]) (kAt Tryd.prog C.G (EV C) (C.hint 23) Tryd.f23 (bodyOf Tryd.f23) [1, 1, 0, 1, 0] [] (endK Tryd.prog (C.hint 23) Tryd.f23 n))
 ⟨pat 45 [(0, t0), (1, t1), (5, t5)], H, E⟩
theorem ref06_Same_J4_of {r : R3} {n : Nat} {t0 t1 t5 : AV} {H : List AObj} {E : List Nat} (hh : (
 (lenV t0 H).bind fun a1 =>
 (binA .lss (Go.TypeDesc.int Go.IntKind.i64) (cmpT Tryd.prog) false t5 a1).bind fun a2 =>
 condK a2
 ((ixA 2 t0 t5 H).bind fun a3 =>
 (offA a3 0).bind fun a4 =>
 (loadA false 1 a4 H).bind fun a5 =>
 (cvL a5 H).bind fun a6 =>
 (ixA 2 t1 t5 H).bind fun a7 =>
 (offA a7 0).bind fun a8 =>
 (loadA false 1 a8 H).bind fun a9 =>
 (cvL a9 H).bind fun a10 =>
 (binA .neq Go.TypeDesc.string (cmpT Tryd.prog) false a6 a10).bind fun a11 =>
 splitK a11
 (endB false false n (.bool false) H E)
 ((ixA 2 t0 t5 H).bind fun a12 =>
 (offA a12 1).bind fun a13 =>
 (loadA false 1 a13 H).bind fun a14 =>
 (cvL a14 H).bind fun a15 =>
 (ixA 2 t1 t5 H).bind fun a16 =>
 (offA a16 1).bind fun a17 =>
 (loadA false 1 a17 H).bind fun a18 =>
 (cvL a18 H).bind fun a19 =>
 (binA .neq Go.TypeDesc.string (cmpT Tryd.prog) false a15 a19).bind fun a20 =>
 condK a20
 (endB false false n (.bool false) H E)
 ((binA .add (Go.TypeDesc.int Go.IntKind.i64) (cmpT Tryd.prog) true t5 (.int .i64 1)).bind fun a21 =>
 ref06_Same_J4 n t0 t1 a21 H E)))
 (endB false false n (.bool true) H E)) = some r) : ref06_Same_J4 n t0 t1 t5 H E = some r :=
 loop_step' (by kernel_rfl) hh
theorem ref06_Same_of {r : R3} {x0 x1 : AV} {H : List AObj} (hh : (fun n => (
 (lenV x0 H).bind fun a1 =>
 (lenV x1 H).bind fun a2 =>
 (binA .neq (Go.TypeDesc.int Go.IntKind.i64) (cmpT Tryd.prog) false a1 a2).bind fun a3 =>
 condK a3
 (endB false false n (.bool false) H [])
 (ref06_Same_J4 n x0 x1 (.int .i64 0) H []))) (List.length H) = some r) : EV C n_ref06_Same [x0, x1] H = some r :=
 EV_of_fnK' (fn := Tryd.f23) (by kernel_rfl) (by kernel_rfl) (by kernel_rfl) hh
/-! ### 53 heartwood/heartwoodref06.Empty -/
theorem ref06_Empty_of {r : R3} {x0 x1 x2 x3 x4 : AV} {H : List AObj} (hh : (fun n => (
 newK x0 H fun a1 H1 E1 =>
 (offA a1 0).bind fun a2 =>
 (loadA false 1 a2 H1).bind fun a3 =>
 (cvL a3 H1).bind fun a4 =>
 splitK x3
 ((cvL x1 H1).bind fun a5 =>
 (binA .geq Go.TypeDesc.string (cmpT Tryd.prog) false a5 a4).bind fun a6 =>
 condK a6
 ((cvL x1 H1).bind fun a7 =>
 (binA .add Go.TypeDesc.string (cmpT Tryd.prog) true a7 (.str { data := #[0] })).bind fun a8 =>
 splitK x4
 ((cvL x2 H1).bind fun a9 =>
 (binA .geq Go.TypeDesc.string (cmpT Tryd.prog) false a8 a9).bind fun a10 =>
 condK a10
 (endB false false n (.bool true) H1 (E1 ++ []))
 ((offA a1 2).bind fun a11 =>
 (loadA false 1 a11 H1).bind fun a12 =>
 (unA .not a12).bind fun a13 =>
 splitK a13
 ((offA a1 1).bind fun a14 =>
 (loadA false 1 a14 H1).bind fun a15 =>
 (cvL a15 H1).bind fun a16 =>
 (binA .geq Go.TypeDesc.string (cmpT Tryd.prog) false a8 a16).bind fun a17 =>
 endB false false n a17 H1 (E1 ++ []))
 (endB false false n (.bool false) H1 (E1 ++ []))))
 ((offA a1 2).bind fun a18 =>
 (loadA false 1 a18 H1).bind fun a19 =>
 (unA .not a19).bind fun a20 =>
 splitK a20
 ((offA a1 1).bind fun a21 =>
 (loadA false 1 a21 H1).bind fun a22 =>
 (cvL a22 H1).bind fun a23 =>
 (binA .geq Go.TypeDesc.string (cmpT Tryd.prog) false a8 a23).bind fun a24 =>
 endB false false n a24 H1 (E1 ++ []))
 (endB false false n (.bool false) H1 (E1 ++ []))))
 (splitK x4
 ((cvL x2 H1).bind fun a25 =>
 (binA .geq Go.TypeDesc.string (cmpT Tryd.prog) false a4 a25).bind fun a26 =>
 condK a26
 (endB false false n (.bool true) H1 (E1 ++ []))
 ((offA a1 2).bind fun a27 =>
 (loadA false 1 a27 H1).bind fun a28 =>
 (unA .not a28).bind fun a29 =>
 splitK a29
 ((offA a1 1).bind fun a30 =>
 (loadA false 1 a30 H1).bind fun a31 =>
 (cvL a31 H1).bind fun a32 =>
 (binA .geq Go.TypeDesc.string (cmpT Tryd.prog) false a4 a32).bind fun a33 =>
 endB false false n a33 H1 (E1 ++ []))
 (endB false false n (.bool false) H1 (E1 ++ []))))
 ((offA a1 2).bind fun a34 =>
 (loadA false 1 a34 H1).bind fun a35 =>
 (unA .not a35).bind fun a36 =>
 splitK a36
 ((offA a1 1).bind fun a37 =>
 (loadA false 1 a37 H1).bind fun a38 =>
 (cvL a38 H1).bind fun a39 =>
 (binA .geq Go.TypeDesc.string (cmpT Tryd.prog) false a4 a39).bind fun a40 =>
 endB false false n a40 H1 (E1 ++ []))
 (endB false false n (.bool false) H1 (E1 ++ [])))))
 (splitK x4
 ((cvL x2 H1).bind fun a41 =>
 (binA .geq Go.TypeDesc.string (cmpT Tryd.prog) false a4 a41).bind fun a42 =>
 condK a42
 (endB false false n (.bool true) H1 (E1 ++ []))
 ((offA a1 2).bind fun a43 =>
 (loadA false 1 a43 H1).bind fun a44 =>
 (unA .not a44).bind fun a45 =>
 splitK a45
 ((offA a1 1).bind fun a46 =>
 (loadA false 1 a46 H1).bind fun a47 =>
 (cvL a47 H1).bind fun a48 =>
 (binA .geq Go.TypeDesc.string (cmpT Tryd.prog) false a4 a48).bind fun a49 =>
 endB false false n a49 H1 (E1 ++ []))
 (endB false false n (.bool false) H1 (E1 ++ []))))
 ((offA a1 2).bind fun a50 =>
 (loadA false 1 a50 H1).bind fun a51 =>
 (unA .not a51).bind fun a52 =>
 splitK a52
 ((offA a1 1).bind fun a53 =>
 (loadA false 1 a53 H1).bind fun a54 =>
 (cvL a54 H1).bind fun a55 =>
 (binA .geq Go.TypeDesc.string (cmpT Tryd.prog) false a4 a55).bind fun a56 =>
 endB false false n a56 H1 (E1 ++ []))
 (endB false false n (.bool false) H1 (E1 ++ [])))))) (List.length H) = some r) : EV C n_ref06_Empty [x0, x1, x2, x3, x4] H = some r :=
 EV_of_fnK' (fn := Tryd.f53) (by kernel_rfl) (by kernel_rfl) (by kernel_rfl) hh
/-! ### 54 heartwood/heartwoodref06.In -/
theorem ref06_In_of {r : R3} {x0 x1 : AV} {H : List AObj} (hh : (fun n => (
 newK x0 H fun a1 H1 E1 =>
 (offA a1 0).bind fun a2 =>
 (loadA false 1 a2 H1).bind fun a3 =>
 (cvL a3 H1).bind fun a4 =>
 (cvL x1 H1).bind fun a5 =>
 (binA .leq Go.TypeDesc.string (cmpT Tryd.prog) false a4 a5).bind fun a6 =>
 splitK a6
 ((offA a1 2).bind fun a7 =>
 (loadA false 1 a7 H1).bind fun a8 =>
 splitK a8
 (endB false false n (.bool true) H1 (E1 ++ []))
 ((cvL x1 H1).bind fun a9 =>
 (offA a1 1).bind fun a10 =>
 (loadA false 1 a10 H1).bind fun a11 =>
 (cvL a11 H1).bind fun a12 =>
 (binA .lss Go.TypeDesc.string (cmpT Tryd.prog) false a9 a12).bind fun a13 =>
 endB false false n a13 H1 (E1 ++ [])))
 (endB false false n (.bool false) H1 (E1 ++ [])))) (List.length H) = some r) : EV C n_ref06_In [x0, x1] H = some r :=
 EV_of_fnK' (fn := Tryd.f54) (by kernel_rfl) (by kernel_rfl) (by kernel_rfl) hh
/-! ### 17 heartwood/heartwoodlaw08.up -/
theorem law08_up_of {r : R3} {H : List AObj} (hh : (fun n => (
 litK 1 1 (.int .u8 0) [(0, (.int .u8 8))] H fun a1 H1 E1 =>
 (fillB (AV.cells (.agg [.nils, .nils, (.bool false)])) [(2, 1, (.bool true))]).bind fun c2 =>
 (fillB (AV.cells (.agg [(.int .i64 0), .nils, .nils, .nils, .nils])) []).bind fun c3 =>
 callK (EV C) false n_check_Check [(.int .i64 1), a1, (.agg c2), (.agg c3)] H1 fun a4 H4 E4 =>
 (extA a4 0).bind fun a5 =>
 (extA a4 1).bind fun a6 =>
 litK 1 1 (.int .u8 0) [(0, (.int .u8 255))] H4 fun a7 H7 E7 =>
 (fillB (AV.cells (.agg [.nils, .nils, (.bool false)])) [(2, 1, (.bool true))]).bind fun c8 =>
 litK 1 1 (.int .u8 0) [(0, (.int .u8 255))] H7 fun a9 H9 E9 =>
 (fillB (AV.cells (.agg [(.int .i64 0), .nils, .nils, .nils, .nils])) [(0, 1, (.int .i64 3)), (3, 1, a9)]).bind fun c10 =>
 callK (EV C) false n_check_Check [(.int .i64 1), a7, (.agg c8), (.agg c10)] H9 fun a11 H11 E11 =>
 (extA a11 0).bind fun a12 =>
 (extA a11 1).bind fun a13 =>
 (lenV a5 H11).bind fun a14 =>
 (binA .eql (Go.TypeDesc.int Go.IntKind.i64) (cmpT Tryd.prog) true a14 (.int .i64 0)).bind fun a15 =>
 splitK a15
 ((binA .eql (Go.TypeDesc.interface #[("Error", 138)]) (cmpT Tryd.prog) true a6 .nili).bind fun a16 =>
 splitK a16
 ((binA .eql (Go.TypeDesc.interface #[("Error", 138)]) (cmpT Tryd.prog) false a13 (.ifc t_api_Code (.int .i64 8))).bind fun a17 =>
 endB false false n a17 H11 (E11 ++ (E9 ++ (E7 ++ (E4 ++ (E1 ++ []))))))
 (endB false false n (.bool false) H11 (E11 ++ (E9 ++ (E7 ++ (E4 ++ (E1 ++ [])))))))
 (endB false false n (.bool false) H11 (E11 ++ (E9 ++ (E7 ++ (E4 ++ (E1 ++ [])))))))) (List.length H) = some r) : EV C n_law08_up [] H = some r :=
 EV_of_fnK' (fn := Tryd.f17) (by kernel_rfl) (by kernel_rfl) (by kernel_rfl) hh
/-! ### 18 heartwood/heartwoodlaw08.small -/
theorem law08_small_of {r : R3} {x0 : AV} {H : List AObj} (hh : (fun n => (
 newK x0 H fun a1 H1 E1 =>
 (loadA true 5 a1 H1).bind fun a2 =>
 callK (EV C) false n_ref04_Light [a2, (.int .i64 300), (.int .i64 100)] H1 fun a3 H3 E3 =>
 (binA .geq (Go.TypeDesc.int Go.IntKind.i64) (cmpT Tryd.prog) true a3 (.int .i64 0)).bind fun a4 =>
 endB false false n a4 H3 (E3 ++ (E1 ++ [])))) (List.length H) = some r) : EV C n_law08_small [x0] H = some r :=
 EV_of_fnK' (fn := Tryd.f18) (by kernel_rfl) (by kernel_rfl) (by kernel_rfl) hh
end Go.Pm
