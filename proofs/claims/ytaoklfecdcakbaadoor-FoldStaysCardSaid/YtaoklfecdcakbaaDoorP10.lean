/- A part of the proof: what the functions of the program answer, as plain lists and numbers. -/
import Derived.Test.YtaoklfecdcakbaaDoorP9
namespace Go.Pm
open Go.Proofs
set_option linter.unusedVariables false
set_option maxRecDepth 100000
noncomputable def law00_Code_J4 (n : Nat) (t0 t3 : AV) (H : List AObj) (E : List Nat) : Option R3 :=
  loopK Tryd.prog C.G (EV C) (C.hint 13) Tryd.f13 (cAt (bodyOf Tryd.f13) [1, 1, 0, 1, 0, 0]) (kAt Tryd.prog C.G (EV C) (C.hint 13) Tryd.f13 (bodyOf Tryd.f13) [1, 1, 0, 1, 0] [] (endK Tryd.prog (C.hint 13) Tryd.f13 n))
    ⟨pat 15 [(0, t0), (3, t3)], H, E⟩
theorem law00_Code_J4_of {r : R3} {n : Nat} {t0 t3 : AV} {H : List AObj} {E : List Nat} (hh : (
  (binA .leq (Go.TypeDesc.int Go.IntKind.i64) (cmpT Tryd.prog) true t3 (.int .i64 13)).bind fun a1 =>
  condK a1
    ((binA .eql (Go.TypeDesc.interface #[("Error", 202)]) (cmpT Tryd.prog) false t0 (.ifc t_api_Code t3)).bind fun a2 =>
    condK a2
      (endB false false n t3 H E)
      ((binA .add (Go.TypeDesc.int Go.IntKind.i64) (cmpT Tryd.prog) true t3 (.int .i64 1)).bind fun a3 =>
      law00_Code_J4 n t0 a3 H E))
    (endB false false n (.int .i64 (-1)) H E)) = some r) : law00_Code_J4 n t0 t3 H E = some r :=
  loop_step' (by kernel_rfl) hh
theorem law00_Code_of {r : R3} {x0 : AV} {H : List AObj} (hh : (fun n => (
  (binA .eql (Go.TypeDesc.interface #[("Error", 202)]) (cmpT Tryd.prog) true x0 .nili).bind fun a1 =>
  condK a1
    (endB false false n (.int .i64 0) H [])
    (law00_Code_J4 n x0 (.int .i64 1) H []))) (List.length H) = some r) : EV C n_law00_Code [x0] H = some r :=
  EV_of_fnK' (fn := Tryd.f13) (by kernel_rfl) (by kernel_rfl) (by kernel_rfl) hh
theorem law13_up_of {r : R3} {H : List AObj} (hh : (fun n => (
  (fillB (AV.cells (.agg [(.int .i64 0), .nils, .nils, .nils, .nils])) []).bind fun c1 =>
  callK (EV C) true n_fold_New [(.int .i64 3), (.agg c1)] H fun a2 H2 E2 =>
  (extA a2 0).bind fun a3 =>
  (extA a2 1).bind fun a4 =>
  (fillB (AV.cells (.agg [(.int .i64 0), .nils, .nils, .nils, .nils])) []).bind fun c5 =>
  callK (EV C) true n_fold_New [(.int .i64 (-1)), (.agg c5)] H2 fun a6 H6 E6 =>
  (extA a6 0).bind fun a7 =>
  (extA a6 1).bind fun a8 =>
  (binA .eql (Go.TypeDesc.pointer 124) (cmpT Tryd.prog) true a3 .nilp).bind fun a9 =>
  splitK a9
    (endB false false n (.bool false) H6 (E6 ++ (E2 ++ [])))
    ((binA .neq (Go.TypeDesc.interface #[("Error", 202)]) (cmpT Tryd.prog) true a4 .nili).bind fun a10 =>
    splitK a10
      (endB false false n (.bool false) H6 (E6 ++ (E2 ++ [])))
      ((binA .neq (Go.TypeDesc.interface #[("Error", 202)]) (cmpT Tryd.prog) false a8 (.ifc t_api_Code (.int .i64 1))).bind fun a11 =>
      condK a11
        (endB false false n (.bool false) H6 (E6 ++ (E2 ++ [])))
        ((fillB (AV.cells (.agg [(.int .i64 0), (.int .i64 0), .nils])) []).bind fun c12 =>
        callK (EV C) false n_fold_Fold_Apply [a3, (.agg c12)] H6 fun a13 H13 E13 =>
        callK (EV C) false n_fold_Fold_First [a3] H13 fun a14 H14 E14 =>
        (binA .eql (Go.TypeDesc.int Go.IntKind.i64) (cmpT Tryd.prog) true a14 (.int .i64 3)).bind fun a15 =>
        splitK a15
          (callK (EV C) false n_fold_Fold_Last [a3] H14 fun a16 H16 E16 =>
          (binA .eql (Go.TypeDesc.int Go.IntKind.i64) (cmpT Tryd.prog) true a16 (.int .i64 4)).bind fun a17 =>
          endB false false n a17 H16 (E16 ++ (E14 ++ (E13 ++ (E6 ++ (E2 ++ []))))))
          (endB false false n (.bool false) H14 (E14 ++ (E13 ++ (E6 ++ (E2 ++ [])))))))))) (List.length H) = some r) : EV C n_law13_up [] H = some r :=
  EV_of_fnK' (fn := Tryd.f20) (by kernel_rfl) (by kernel_rfl) (by kernel_rfl) hh
theorem fold_New_of {r : R3} {x0 x1 : AV} {H : List AObj} (hh : (fun n => (
  newK x1 H fun a1 H1 E1 =>
  (binA .lss (Go.TypeDesc.int Go.IntKind.i64) (cmpT Tryd.prog) true x0 (.int .i64 0)).bind fun a2 =>
  splitK a2
    (endB true true n (.tup [.nilp, (.ifc t_api_Code (.int .i64 1))]) H1 (E1 ++ []))
    ((binA .gtr (Go.TypeDesc.int Go.IntKind.i64) (cmpT Tryd.prog) true x0 (.int .i64 1152921504606846976)).bind fun a3 =>
    condK a3
      (endB true true n (.tup [.nilp, (.ifc t_api_Code (.int .i64 1))]) H1 (E1 ++ []))
      ((loadA true 5 a1 H1).bind fun a4 =>
      callK (EV C) false n_avl_Is [a4] H1 fun a5 H5 E5 =>
      (unA .not a5).bind fun a6 =>
      condK a6
        (endB true true n (.tup [.nilp, (.ifc t_api_Code (.int .i64 3))]) H5 (E5 ++ (E1 ++ [])))
        ((loadA true 5 a1 H5).bind fun a7 =>
        (fillB (AV.cells (.agg [(.int .i64 0), .nils, .nils, .nils, .nils, .nils])) [(0, 5, a7)]).bind fun c8 =>
        rawK 6 1 (.agg [(.int .i64 0), .nils, .nils, .nils, .nils, .nils]) [(0, (.agg c8))] H5 fun a9 H9 E9 =>
        (fillB (AV.cells (.agg [(.int .i64 0), .nils])) [(0, 1, x0), (1, 1, a9)]).bind fun c10 =>
        newK (.agg c10) H9 fun a11 H11 E11 =>
        endB true true n (.tup [a11, .nili]) H11 (E11 ++ (E9 ++ (E5 ++ (E1 ++ []))))))))) (List.length H) = some r) : EV C n_fold_New [x0, x1] H = some r :=
  EV_of_fnK' (fn := Tryd.f21) (by kernel_rfl) (by kernel_rfl) (by kernel_rfl) hh
noncomputable def ref05_Grown_J3 (n : Nat) (t0 t2 t3 t4 : AV) (H : List AObj) (E : List Nat) : Option R3 :=
  loopK Tryd.prog C.G (EV C) (C.hint 22) Tryd.f22 (cAt (bodyOf Tryd.f22) [1, 1, 0, 1, 0, 0]) (kAt Tryd.prog C.G (EV C) (C.hint 22) Tryd.f22 (bodyOf Tryd.f22) [1, 1, 0, 1, 0] [] (endK Tryd.prog (C.hint 22) Tryd.f22 n))
    ⟨pat 45 [(0, t0), (2, t2), (3, t3), (4, t4)], H, E⟩
theorem ref05_Grown_J3_of {r : R3} {n : Nat} {t0 t2 t3 t4 : AV} {H : List AObj} {E : List Nat} (hh : (
  (lenV t0 H).bind fun a1 =>
  (binA .lss (Go.TypeDesc.int Go.IntKind.i64) (cmpT Tryd.prog) false t4 a1).bind fun a2 =>
  splitK a2
    ((binA .lss (Go.TypeDesc.int Go.IntKind.i64) (cmpT Tryd.prog) true t4 (.int .i64 60)).bind fun a3 =>
    condK a3
      ((ixA 2 t0 t4 H).bind fun a4 =>
      (offA a4 0).bind fun a5 =>
      (loadA false 1 a5 H).bind fun a6 =>
      (lenV a6 H).bind fun a7 =>
      (binA .leq (Go.TypeDesc.int Go.IntKind.i64) (cmpT Tryd.prog) true a7 (.int .i64 80)).bind fun a8 =>
      splitK a8
        ((ixA 2 t0 t4 H).bind fun a9 =>
        (offA a9 1).bind fun a10 =>
        (loadA false 1 a10 H).bind fun a11 =>
        (lenV a11 H).bind fun a12 =>
        (binA .leq (Go.TypeDesc.int Go.IntKind.i64) (cmpT Tryd.prog) true a12 (.int .i64 1024)).bind fun a13 =>
        condK a13
          ((loadA true 5 t3 H).bind fun a14 =>
          (ixA 2 t0 t4 H).bind fun a15 =>
          (offA a15 0).bind fun a16 =>
          (loadA false 1 a16 H).bind fun a17 =>
          (ixA 2 t0 t4 H).bind fun a18 =>
          (offA a18 1).bind fun a19 =>
          (loadA false 1 a19 H).bind fun a20 =>
          (callD (EV C) n_ref05_Put [a14, a17, a20] H).bind fun a21 =>
          stoK 5 t3 a21 H fun H22 E22 =>
          (binA .add (Go.TypeDesc.int Go.IntKind.i64) (cmpT Tryd.prog) true t4 (.int .i64 1)).bind fun a23 =>
          ref05_Grown_J3 n t0 t2 t3 a23 H22 ((E22 ++ []) ++ E))
          ((binA .add (Go.TypeDesc.int Go.IntKind.i64) (cmpT Tryd.prog) true t4 (.int .i64 1)).bind fun a24 =>
          ref05_Grown_J3 n t0 t2 t3 a24 H E))
        ((binA .add (Go.TypeDesc.int Go.IntKind.i64) (cmpT Tryd.prog) true t4 (.int .i64 1)).bind fun a25 =>
        ref05_Grown_J3 n t0 t2 t3 a25 H E))
      ((loadA true 5 t3 H).bind fun a26 =>
      stoK 5 t2 a26 H fun H27 E27 =>
      (loadA true 5 t2 H27).bind fun a28 =>
      endB false false n a28 H27 (E27 ++ E)))
    ((loadA true 5 t3 H).bind fun a29 =>
    stoK 5 t2 a29 H fun H30 E30 =>
    (loadA true 5 t2 H30).bind fun a31 =>
    endB false false n a31 H30 (E30 ++ E))) = some r) : ref05_Grown_J3 n t0 t2 t3 t4 H E = some r :=
  loop_step' (by kernel_rfl) hh
theorem ref05_Grown_of {r : R3} {x0 : AV} {H : List AObj} (hh : (fun n => (
  newK (.agg [(.int .i64 0), .nils, .nils, .nils, .nils]) H fun a1 H1 E1 =>
  (fillB (AV.cells (.agg [(.int .i64 0), .nils, .nils, .nils, .nils])) []).bind fun c2 =>
  newK (.agg [(.int .i64 0), .nils, .nils, .nils, .nils]) H1 fun a3 H3 E3 =>
  stoK 5 a3 (.agg c2) H3 fun H4 E4 =>
  ref05_Grown_J3 n x0 a1 a3 (.int .i64 0) H4 (E4 ++ (E3 ++ (E1 ++ []))))) (List.length H) = some r) : EV C n_ref05_Grown [x0] H = some r :=
  EV_of_fnK' (fn := Tryd.f22) (by kernel_rfl) (by kernel_rfl) (by kernel_rfl) hh
theorem fold_Fold_Apply_of {r : R3} {x0 x1 : AV} {H : List AObj} (hh : (fun n => (
  newK x1 H fun a1 H1 E1 =>
  (nilA x0).bind fun a2 =>
  (offA a2 1).bind fun a3 =>
  (loadA false 1 a3 H1).bind fun a4 =>
  (nilA x0).bind fun a5 =>
  (offA a5 1).bind fun a6 =>
  (loadA false 1 a6 H1).bind fun a7 =>
  (lenV a7 H1).bind fun a8 =>
  (binA .sub (Go.TypeDesc.int Go.IntKind.i64) (cmpT Tryd.prog) true a8 (.int .i64 1)).bind fun a9 =>
  (ixA 6 a4 a9 H1).bind fun a10 =>
  (loadA true 6 a10 H1).bind fun a11 =>
  newK (.agg [(.int .i64 0), .nils, .nils, .nils, .nils, .nils]) H1 fun a12 H12 E12 =>
  drawK (((loadA false 1 a3 H12).bind fun a13 =>
  some a13) = some a4)
  (drawK (((loadA false 1 a6 H12).bind fun a14 =>
  some a14) = some a7)
  (drawK (((lenV a7 H12).bind fun a15 =>
  some a15) = some a8)
  (drawK (((ixA 6 a4 a9 H12).bind fun a16 =>
  some a16) = some a10)
  (drawK (((loadA true 6 a10 H12).bind fun a17 =>
  some a17) = some a11)
  (stoK 6 a12 a11 H12 fun H18 E18 =>
  (offA a1 1).bind fun a19 =>
  (loadA false 1 a19 H18).bind fun a20 =>
  (binA .eql (Go.TypeDesc.int Go.IntKind.i64) (cmpT Tryd.prog) true a20 (.int .i64 1)).bind fun a21 =>
  condK a21
    ((offA a12 0).bind fun a22 =>
    (loadA true 5 a22 H18).bind fun a23 =>
    (offA a1 2).bind fun a24 =>
    (loadA false 1 a24 H18).bind fun a25 =>
    calXK (EV C) 14 n_command_Apply [a23, a25] H18 fun a26 H26 E26 =>
    (extA a26 0).bind fun a27 =>
    (extA a26 1).bind fun a28 =>
    (extA a26 2).bind fun a29 =>
    newK (.agg [(.int .i64 0), .nils, .nils, .nils, .nils]) H26 fun a30 H30 E30 =>
    stoK 5 a30 a27 H30 fun H31 E31 =>
    (binA .eql (Go.TypeDesc.interface #[("Error", 202)]) (cmpT Tryd.prog) true a29 .nili).bind fun a32 =>
    condK a32
      ((loadA true 5 a30 H31).bind fun a33 =>
      (fillB (AV.cells (.agg [(.int .i64 0), .nils, .nils, .nils, .nils, .nils])) [(0, 5, a33)]).bind fun c34 =>
      stoK 6 a12 (.agg c34) H31 fun H35 E35 =>
      (nilA x0).bind fun a36 =>
      (offA a36 1).bind fun a37 =>
      (loadA false 1 a37 H35).bind fun a38 =>
      (loadA true 6 a12 H35).bind fun a39 =>
      rawK 6 1 (.agg [(.int .i64 0), .nils, .nils, .nils, .nils, .nils]) [(0, a39)] H35 fun a40 H40 E40 =>
      drawK (((loadA false 1 a37 H40).bind fun a41 =>
      some a41) = some a38)
      (appK 6 128 a38 a40 H40 fun a42 H42 E42 =>
      (nilA x0).bind fun a43 =>
      (offA a43 1).bind fun a44 =>
      stoK 1 a44 a42 H42 fun H45 E45 =>
      endB false false n a28 H45 (E45 ++ (E42 ++ (E40 ++ (E35 ++ (E31 ++ (E30 ++ (E26 ++ (E18 ++ (E12 ++ (E1 ++ []))))))))))))
      ((nilA x0).bind fun a46 =>
      (offA a46 1).bind fun a47 =>
      (loadA false 1 a47 H31).bind fun a48 =>
      (loadA true 6 a12 H31).bind fun a49 =>
      rawK 6 1 (.agg [(.int .i64 0), .nils, .nils, .nils, .nils, .nils]) [(0, a49)] H31 fun a50 H50 E50 =>
      drawK (((loadA false 1 a47 H50).bind fun a51 =>
      some a51) = some a48)
      (appK 6 128 a48 a50 H50 fun a52 H52 E52 =>
      (nilA x0).bind fun a53 =>
      (offA a53 1).bind fun a54 =>
      stoK 1 a54 a52 H52 fun H55 E55 =>
      endB false false n (.int .i64 0) H55 (E55 ++ (E52 ++ (E50 ++ (E31 ++ (E30 ++ (E26 ++ (E18 ++ (E12 ++ (E1 ++ []))))))))))))
    ((nilA x0).bind fun a56 =>
    (offA a56 1).bind fun a57 =>
    (loadA false 1 a57 H18).bind fun a58 =>
    (loadA true 6 a12 H18).bind fun a59 =>
    rawK 6 1 (.agg [(.int .i64 0), .nils, .nils, .nils, .nils, .nils]) [(0, a59)] H18 fun a60 H60 E60 =>
    drawK (((loadA false 1 a57 H60).bind fun a61 =>
    some a61) = some a58)
    (appK 6 128 a58 a60 H60 fun a62 H62 E62 =>
    (nilA x0).bind fun a63 =>
    (offA a63 1).bind fun a64 =>
    stoK 1 a64 a62 H62 fun H65 E65 =>
    endB false false n (.int .i64 0) H65 (E65 ++ (E62 ++ (E60 ++ (E18 ++ (E12 ++ (E1 ++ []))))))))))))))) (List.length H) = some r) : EV C n_fold_Fold_Apply [x0, x1] H = some r :=
  EV_of_fnK' (fn := Tryd.f23) (by kernel_rfl) (by kernel_rfl) (by kernel_rfl) hh
theorem fold_Fold_Root_of {r : R3} {x0 x1 : AV} {H : List AObj} (hh : (fun n => (
  callK (EV C) false n_fold_Fold_at [x0, x1] H fun a1 H1 E1 =>
  (extA a1 0).bind fun a2 =>
  (extA a1 1).bind fun a3 =>
  (binA .neq (Go.TypeDesc.interface #[("Error", 202)]) (cmpT Tryd.prog) true a3 .nili).bind fun a4 =>
  condK a4
    (endB false false n (.tup [.nils, a3]) H1 (E1 ++ []))
    ((nilA a2).bind fun a5 =>
    (offA a5 5).bind fun a6 =>
    (loadA false 1 a6 H1).bind fun a7 =>
    (binA .eql (Go.TypeDesc.slice 5) (cmpT Tryd.prog) true a7 .nils).bind fun a8 =>
    condK a8
      ((nilA a2).bind fun a9 =>
      (offA a9 0).bind fun a10 =>
      (loadA true 5 a10 H1).bind fun a11 =>
      callK (EV C) false n_tree_Digest [(.int .i64 32), a11] H1 fun a12 H12 E12 =>
      (extA a12 0).bind fun a13 =>
      (extA a12 1).bind fun a14 =>
      (nilA a2).bind fun a15 =>
      (offA a15 5).bind fun a16 =>
      stoK 1 a16 a13 H12 fun H17 E17 =>
      (binA .neq (Go.TypeDesc.interface #[("Error", 202)]) (cmpT Tryd.prog) true a14 .nili).bind fun a18 =>
      condK a18
        (endB false false n (.tup [.nils, a14]) H17 (E17 ++ (E12 ++ (E1 ++ []))))
        ((nilA a2).bind fun a19 =>
        (offA a19 5).bind fun a20 =>
        (loadA false 1 a20 H17).bind fun a21 =>
        callK (EV C) false n_Clone_byte [a21] H17 fun a22 H22 E22 =>
        endB false false n (.tup [a22, .nili]) H22 (E22 ++ (E17 ++ (E12 ++ (E1 ++ []))))))
      ((nilA a2).bind fun a23 =>
      (offA a23 5).bind fun a24 =>
      (loadA false 1 a24 H1).bind fun a25 =>
      callK (EV C) false n_Clone_byte [a25] H1 fun a26 H26 E26 =>
      endB false false n (.tup [a26, .nili]) H26 (E26 ++ (E1 ++ [])))))) (List.length H) = some r) : EV C n_fold_Fold_Root [x0, x1] H = some r :=
  EV_of_fnK' (fn := Tryd.f24) (by kernel_rfl) (by kernel_rfl) (by kernel_rfl) hh
theorem fold_Fold_Last_of {r : R3} {x0 : AV} {H : List AObj} (hh : (fun n => (
  (nilA x0).bind fun a1 =>
  (offA a1 0).bind fun a2 =>
  (loadA false 1 a2 H).bind fun a3 =>
  (nilA x0).bind fun a4 =>
  (offA a4 1).bind fun a5 =>
  (loadA false 1 a5 H).bind fun a6 =>
  (lenV a6 H).bind fun a7 =>
  (binA .add (Go.TypeDesc.int Go.IntKind.i64) (cmpT Tryd.prog) false a3 a7).bind fun a8 =>
  (binA .sub (Go.TypeDesc.int Go.IntKind.i64) (cmpT Tryd.prog) true a8 (.int .i64 1)).bind fun a9 =>
  endB false false n a9 H [])) (List.length H) = some r) : EV C n_fold_Fold_Last [x0] H = some r :=
  EV_of_fnK' (fn := Tryd.f27) (by kernel_rfl) (by kernel_rfl) (by kernel_rfl) hh
theorem tree_Digest_of {r : R3} {x0 x1 : AV} {H : List AObj} (hh : (fun n => (
  newK x1 H fun a1 H1 E1 =>
  (binA .lss (Go.TypeDesc.int Go.IntKind.i64) (cmpT Tryd.prog) true x0 (.int .i64 1)).bind fun a2 =>
  splitK a2
    (endB false false n (.tup [.nils, (.ifc t_api_Code (.int .i64 1))]) H1 (E1 ++ []))
    ((binA .gtr (Go.TypeDesc.int Go.IntKind.i64) (cmpT Tryd.prog) true x0 (.int .i64 32)).bind fun a3 =>
    condK a3
      (endB false false n (.tup [.nils, (.ifc t_api_Code (.int .i64 1))]) H1 (E1 ++ []))
      ((loadA true 5 a1 H1).bind fun a4 =>
      callK (EV C) false n_tree_Check [a4] H1 fun a5 H5 E5 =>
      (binA .neq (Go.TypeDesc.interface #[("Error", 202)]) (cmpT Tryd.prog) true a5 .nili).bind fun a6 =>
      condK a6
        (endB false false n (.tup [.nils, a5]) H5 (E5 ++ (E1 ++ [])))
        ((loadA true 5 a1 H5).bind fun a7 =>
        callK (EV C) false n_tree_told [x0, a7] H5 fun a8 H8 E8 =>
        (extA a8 0).bind fun a9 =>
        (extA a8 1).bind fun a10 =>
        endB false false n (.tup [a9, a10]) H8 (E8 ++ (E5 ++ (E1 ++ [])))))))) (List.length H) = some r) : EV C n_tree_Digest [x0, x1] H = some r :=
  EV_of_fnK' (fn := Tryd.f28) (by kernel_rfl) (by kernel_rfl) (by kernel_rfl) hh
theorem Clone_byte_of {r : R3} {x0 : AV} {H : List AObj} (hh : (fun n => (
  (binA .eql (Go.TypeDesc.slice 5) (cmpT Tryd.prog) true x0 .nils).bind fun a1 =>
  condK a1
    (endB false false n .nils H [])
    (rawK 1 0 (.int .u8 0) [] H fun a2 H2 E2 =>
    appK 1 1 a2 x0 H2 fun a3 H3 E3 =>
    endB false false n a3 H3 (E3 ++ (E2 ++ []))))) (List.length H) = some r) : EV C0 n_Clone_byte [x0] H = some r :=
  EV_of_fnK' (fn := Tryd.f36) (by kernel_rfl) (by kernel_rfl) (by kernel_rfl) hh
theorem fold_Fold_First_of {r : R3} {x0 : AV} {H : List AObj} (hh : (fun n => (
  (nilA x0).bind fun a1 =>
  (offA a1 0).bind fun a2 =>
  (loadA false 1 a2 H).bind fun a3 =>
  endB false false n a3 H [])) (List.length H) = some r) : EV C n_fold_Fold_First [x0] H = some r :=
  EV_of_fnK' (fn := Tryd.f51) (by kernel_rfl) (by kernel_rfl) (by kernel_rfl) hh
noncomputable def avl_Is_J5 (n : Nat) (t1 t3 t4 : AV) (H : List AObj) (E : List Nat) : Option R3 :=
  loopK Tryd.prog C.G (EV C) (C.hint 52) Tryd.f52 (cAt (bodyOf Tryd.f52) [1, 1, 1, 0, 1, 0, 0]) (kAt Tryd.prog C.G (EV C) (C.hint 52) Tryd.f52 (bodyOf Tryd.f52) [1, 1, 1, 0, 1, 0] [] (endK Tryd.prog (C.hint 52) Tryd.f52 n))
    ⟨pat 37 [(1, t1), (3, t3), (4, t4)], H, E⟩
theorem avl_Is_J5_of {r : R3} {n : Nat} {t1 t3 t4 : AV} {H : List AObj} {E : List Nat} (hh : (
  (lenV t3 H).bind fun a1 =>
  (binA .lss (Go.TypeDesc.int Go.IntKind.i64) (cmpT Tryd.prog) false t4 a1).bind fun a2 =>
  condK a2
    ((binA .sub (Go.TypeDesc.int Go.IntKind.i64) (cmpT Tryd.prog) true t4 (.int .i64 1)).bind fun a3 =>
    (ixA 5 t3 a3 H).bind fun a4 =>
    (offA a4 1).bind fun a5 =>
    (loadA false 1 a5 H).bind fun a6 =>
    (ixA 5 t3 t4 H).bind fun a7 =>
    (offA a7 1).bind fun a8 =>
    (loadA false 1 a8 H).bind fun a9 =>
    (callD (EV C) n_bytes_Compare [a6, a9] H).bind fun a10 =>
    (binA .geq (Go.TypeDesc.int Go.IntKind.i64) (cmpT Tryd.prog) true a10 (.int .i64 0)).bind fun a11 =>
    condK a11
      (endB false false n (.bool false) H E)
      ((binA .add (Go.TypeDesc.int Go.IntKind.i64) (cmpT Tryd.prog) true t4 (.int .i64 1)).bind fun a12 =>
      avl_Is_J5 n t1 t3 a12 H E))
    ((loadA true 5 t1 H).bind fun a13 =>
    callK (EV C) false n_avl_even [a13] H fun a14 H14 E14 =>
    (extA a14 0).bind fun a15 =>
    (extA a14 1).bind fun a16 =>
    endB false false n a16 H14 (E14 ++ E))) = some r) : avl_Is_J5 n t1 t3 t4 H E = some r :=
  loop_step' (by kernel_rfl) hh
theorem avl_Is_of {r : R3} {x0 : AV} {H : List AObj} (hh : (fun n => (
  newK x0 H fun a1 H1 E1 =>
  (loadA true 5 a1 H1).bind fun a2 =>
  callK (EV C) false n_tree_Full [a2] H1 fun a3 H3 E3 =>
  (unA .not a3).bind fun a4 =>
  condK a4
    (endB false false n (.bool false) H3 (E3 ++ (E1 ++ [])))
    ((loadA true 5 a1 H3).bind fun a5 =>
    callK (EV C) false n_tree_List [a5] H3 fun a6 H6 E6 =>
    avl_Is_J5 n a1 a6 (.int .i64 1) H6 (E6 ++ (E3 ++ (E1 ++ [])))))) (List.length H) = some r) : EV C n_avl_Is [x0] H = some r :=
  EV_of_fnK' (fn := Tryd.f52) (by kernel_rfl) (by kernel_rfl) (by kernel_rfl) hh
theorem ref05_Put_of {r : R3} {x0 x1 x2 : AV} {H : List AObj} (hh : (fun n => (
  newK x0 H fun a1 H1 E1 =>
  newK (.agg [(.int .i64 0), .nils, .nils, .nils, .nils]) H1 fun a2 H2 E2 =>
  (offA a1 4).bind fun a3 =>
  (loadA false 1 a3 H2).bind fun a4 =>
  (lenV a4 H2).bind fun a5 =>
  (binA .eql (Go.TypeDesc.int Go.IntKind.i64) (cmpT Tryd.prog) true a5 (.int .i64 0)).bind fun a6 =>
  condK a6
    ((fillB (AV.cells (.agg [(.int .i64 0), .nils, .nils, .nils, .nils])) []).bind fun c7 =>
    (fillB (AV.cells (.agg [(.int .i64 0), .nils, .nils, .nils, .nils])) []).bind fun c8 =>
    callK (EV C) false n_ref05_Node [(.agg c7), x1, x2, (.agg c8)] H2 fun a9 H9 E9 =>
    stoK 5 a2 a9 H9 fun H10 E10 =>
    (loadA true 5 a2 H10).bind fun a11 =>
    endB false false n a11 H10 (E10 ++ (E9 ++ (E2 ++ (E1 ++ [])))))
    ((cvL x1 H2).bind fun a12 =>
    (offA a1 1).bind fun a13 =>
    (loadA false 1 a13 H2).bind fun a14 =>
    (cvL a14 H2).bind fun a15 =>
    (binA .eql Go.TypeDesc.string (cmpT Tryd.prog) false a12 a15).bind fun a16 =>
    condK a16
      ((offA a1 4).bind fun a17 =>
      (loadA false 1 a17 H2).bind fun a18 =>
      (ixA 5 a18 (.int .i64 0) H2).bind fun a19 =>
      (loadA true 5 a19 H2).bind fun a20 =>
      (offA a1 4).bind fun a21 =>
      (loadA false 1 a21 H2).bind fun a22 =>
      (ixA 5 a22 (.int .i64 1) H2).bind fun a23 =>
      (loadA true 5 a23 H2).bind fun a24 =>
      (callD (EV C) n_ref05_Node [a20, x1, x2, a24] H2).bind fun a25 =>
      stoK 5 a2 a25 H2 fun H26 E26 =>
      (loadA true 5 a2 H26).bind fun a27 =>
      endB false false n a27 H26 (E26 ++ (E2 ++ (E1 ++ []))))
      ((cvL x1 H2).bind fun a28 =>
      (offA a1 1).bind fun a29 =>
      (loadA false 1 a29 H2).bind fun a30 =>
      (cvL a30 H2).bind fun a31 =>
      (binA .lss Go.TypeDesc.string (cmpT Tryd.prog) false a28 a31).bind fun a32 =>
      condK a32
        ((offA a1 4).bind fun a33 =>
        (loadA false 1 a33 H2).bind fun a34 =>
        (ixA 5 a34 (.int .i64 0) H2).bind fun a35 =>
        (loadA true 5 a35 H2).bind fun a36 =>
        (callD (EV C) n_ref05_Put [a36, x1, x2] H2).bind fun a37 =>
        (offA a1 1).bind fun a38 =>
        (loadA false 1 a38 H2).bind fun a39 =>
        (offA a1 2).bind fun a40 =>
        (loadA false 1 a40 H2).bind fun a41 =>
        (offA a1 4).bind fun a42 =>
        (loadA false 1 a42 H2).bind fun a43 =>
        (ixA 5 a43 (.int .i64 1) H2).bind fun a44 =>
        (loadA true 5 a44 H2).bind fun a45 =>
        (callD (EV C) n_ref05_Node [a37, a39, a41, a45] H2).bind fun a46 =>
        (callD (EV C) n_ref05_level [a46] H2).bind fun a47 =>
        stoK 5 a2 a47 H2 fun H48 E48 =>
        (loadA true 5 a2 H48).bind fun a49 =>
        endB false false n a49 H48 (E48 ++ (E2 ++ (E1 ++ []))))
        ((offA a1 4).bind fun a50 =>
        (loadA false 1 a50 H2).bind fun a51 =>
        (ixA 5 a51 (.int .i64 0) H2).bind fun a52 =>
        (loadA true 5 a52 H2).bind fun a53 =>
        (offA a1 1).bind fun a54 =>
        (loadA false 1 a54 H2).bind fun a55 =>
        (offA a1 2).bind fun a56 =>
        (loadA false 1 a56 H2).bind fun a57 =>
        (offA a1 4).bind fun a58 =>
        (loadA false 1 a58 H2).bind fun a59 =>
        (ixA 5 a59 (.int .i64 1) H2).bind fun a60 =>
        (loadA true 5 a60 H2).bind fun a61 =>
        (callD (EV C) n_ref05_Put [a61, x1, x2] H2).bind fun a62 =>
        (callD (EV C) n_ref05_Node [a53, a55, a57, a62] H2).bind fun a63 =>
        (callD (EV C) n_ref05_level [a63] H2).bind fun a64 =>
        stoK 5 a2 a64 H2 fun H65 E65 =>
        (loadA true 5 a2 H65).bind fun a66 =>
        endB false false n a66 H65 (E65 ++ (E2 ++ (E1 ++ [])))))))) (List.length H) = some r) : EV C n_ref05_Put [x0, x1, x2] H = some r :=
  EV_of_fnK' (fn := Tryd.f53) (by kernel_rfl) (by kernel_rfl) (by kernel_rfl) hh
noncomputable def command_Apply_S11 (n : Nat) (t2 t4 t7 : AV) (H : List AObj) (E : List Nat) : Option R3 :=
  runK Tryd.prog C.G (EV C) (C.hint 54) Tryd.f54 (cAt (bodyOf Tryd.f54) [1, 1, 1, 1, 1, 1]) ⟨pat 85 [(2, t2), (4, t4), (7, t7)], H, E⟩
    (kAt Tryd.prog C.G (EV C) (C.hint 54) Tryd.f54 (bodyOf Tryd.f54) [1, 1, 1, 1, 1, 1] [] (endK Tryd.prog (C.hint 54) Tryd.f54 n))
theorem command_Apply_S11_of {r : R3} {n : Nat} {t2 t4 t7 : AV} {H : List AObj} {E : List Nat} (hh : (
  (loadA true 5 t2 H).bind fun a1 =>
  (loadA true 5 t7 H).bind fun a2 =>
  callK (EV C) false n_command_change [a1, a2] H fun a3 H3 E3 =>
  (extA a3 0).bind fun a4 =>
  (extA a3 1).bind fun a5 =>
  (extA a3 2).bind fun a6 =>
  newK (.agg [(.int .i64 0), .nils, .nils, .nils, .nils]) H3 fun a7 H7 E7 =>
  stoK 5 a7 a4 H7 fun H8 E8 =>
  (binA .neq (Go.TypeDesc.interface #[("Error", 202)]) (cmpT Tryd.prog) true a6 .nili).bind fun a9 =>
  condK a9
    ((fillB (AV.cells (.agg [(.int .i64 0), .nils, .nils, .nils, .nils])) []).bind fun c10 =>
    stoK 5 t4 (.agg c10) H8 fun H11 E11 =>
    (loadA true 5 t4 H11).bind fun a12 =>
    endB false false n (.tup [a12, (.int .i64 0), a6]) H11 (E11 ++ (E8 ++ (E7 ++ (E3 ++ E)))))
    ((loadA true 5 a7 H8).bind fun a13 =>
    (offA t7 0).bind fun a14 =>
    (loadA false 1 a14 H8).bind fun a15 =>
    (callD (EV C) n_command_own [a15] H8).bind fun a16 =>
    (offA t7 1).bind fun a17 =>
    (loadA false 1 a17 H8).bind fun a18 =>
    callK (EV C) true n_coder_Number_r [a18] H8 fun a19 H19 E19 =>
    drawK (((loadA true 5 a7 H19).bind fun a20 =>
    some a20) = some a13)
    ((cvI .u8 a5).bind fun a21 =>
    drawK (((cvI .u8 a5).bind fun a22 =>
    some a22) = some a21)
    ((litD 1 1 (.int .u8 0) [(0, a21)] H19).bind fun a23 =>
    drawK (((litD 1 1 (.int .u8 0) [(0, a21)] H8).bind fun a24 =>
    some a24) = some a23)
    (appK 1 1 a19 a23 H19 fun a25 H25 E25 =>
    frzK a25 H25 fun a26 H26 =>
    drawK (((loadA true 5 a7 H26).bind fun a27 =>
    some a27) = some a13)
    ((callD (EV C) n_avl_Put [a13, a16, a26] H26).bind fun a28 =>
    (extA a28 0).bind fun a29 =>
    (extA a28 1).bind fun a30 =>
    stoK 5 a7 a29 H26 fun H31 E31 =>
    (binA .neq (Go.TypeDesc.interface #[("Error", 202)]) (cmpT Tryd.prog) true a30 .nili).bind fun a32 =>
    condK a32
      ((fillB (AV.cells (.agg [(.int .i64 0), .nils, .nils, .nils, .nils])) []).bind fun c33 =>
      stoK 5 t4 (.agg c33) H31 fun H34 E34 =>
      (loadA true 5 t4 H34).bind fun a35 =>
      endB false false n (.tup [a35, (.int .i64 0), a30]) H34 (E34 ++ (E31 ++ (E25 ++ (E19 ++ (E8 ++ (E7 ++ (E3 ++ E))))))))
      ((loadA true 5 a7 H31).bind fun a36 =>
      stoK 5 t4 a36 H31 fun H37 E37 =>
      (loadA true 5 t4 H37).bind fun a38 =>
      endB false false n (.tup [a38, a5, .nili]) H37 (E37 ++ (E31 ++ (E25 ++ (E19 ++ (E8 ++ (E7 ++ (E3 ++ E)))))))))))))) = some r) : command_Apply_S11 n t2 t4 t7 H E = some r :=
  Eq.trans (by kernel_rfl) hh
theorem command_Apply_of {r : R3} {x0 x1 : AV} {H : List AObj} (hh : (fun n => (
  newK x0 H fun a1 H1 E1 =>
  newK (.agg [(.int .i64 0), .nils, .nils, .nils, .nils]) H1 fun a2 H2 E2 =>
  (loadA true 5 a1 H2).bind fun a3 =>
  callK (EV C) false n_avl_Is [a3] H2 fun a4 H4 E4 =>
  (unA .not a4).bind fun a5 =>
  condK a5
    ((fillB (AV.cells (.agg [(.int .i64 0), .nils, .nils, .nils, .nils])) []).bind fun c6 =>
    stoK 5 a2 (.agg c6) H4 fun H7 E7 =>
    (loadA true 5 a2 H7).bind fun a8 =>
    endB false false n (.tup [a8, (.int .i64 0), (.ifc t_api_Code (.int .i64 3))]) H7 (E7 ++ (E4 ++ (E2 ++ (E1 ++ [])))))
    (callK (EV C) false n_command_Read [x1] H4 fun a9 H9 E9 =>
    (extA a9 0).bind fun a10 =>
    (extA a9 1).bind fun a11 =>
    newK (.agg [(.int .u64 0), (.int .u64 0), (.int .i64 0), .nils, .nils]) H9 fun a12 H12 E12 =>
    stoK 5 a12 a10 H12 fun H13 E13 =>
    (binA .neq (Go.TypeDesc.interface #[("Error", 202)]) (cmpT Tryd.prog) true a11 .nili).bind fun a14 =>
    condK a14
      ((loadA true 5 a1 H13).bind fun a15 =>
      stoK 5 a2 a15 H13 fun H16 E16 =>
      (loadA true 5 a2 H16).bind fun a17 =>
      endB false false n (.tup [a17, (.int .i64 0), .nili]) H16 (E16 ++ (E13 ++ (E12 ++ (E9 ++ (E4 ++ (E2 ++ (E1 ++ []))))))))
      ((loadA true 5 a1 H13).bind fun a18 =>
      (offA a12 0).bind fun a19 =>
      (loadA false 1 a19 H13).bind fun a20 =>
      callK (EV C) false n_command_last [a18, a20] H13 fun a21 H21 E21 =>
      (extA a21 0).bind fun a22 =>
      (extA a21 1).bind fun a23 =>
      (extA a21 2).bind fun a24 =>
      splitK a24
        ((offA a12 1).bind fun a25 =>
        (loadA false 1 a25 H21).bind fun a26 =>
        (binA .gtr (Go.TypeDesc.int Go.IntKind.u64) (cmpT Tryd.prog) false a22 a26).bind fun a27 =>
        condK a27
          ((loadA true 5 a1 H21).bind fun a28 =>
          stoK 5 a2 a28 H21 fun H29 E29 =>
          (loadA true 5 a2 H29).bind fun a30 =>
          endB false false n (.tup [a30, (.int .i64 5), .nili]) H29 (E29 ++ (E21 ++ (E13 ++ (E12 ++ (E9 ++ (E4 ++ (E2 ++ (E1 ++ [])))))))))
          (splitK a24
            ((offA a12 1).bind fun a31 =>
            (loadA false 1 a31 H21).bind fun a32 =>
            (binA .eql (Go.TypeDesc.int Go.IntKind.u64) (cmpT Tryd.prog) false a22 a32).bind fun a33 =>
            condK a33
              ((loadA true 5 a1 H21).bind fun a34 =>
              stoK 5 a2 a34 H21 fun H35 E35 =>
              (loadA true 5 a2 H35).bind fun a36 =>
              endB false false n (.tup [a36, a23, .nili]) H35 (E35 ++ (E21 ++ (E13 ++ (E12 ++ (E9 ++ (E4 ++ (E2 ++ (E1 ++ [])))))))))
              (command_Apply_S11 n a1 a2 a12 H21 (E21 ++ (E13 ++ (E12 ++ (E9 ++ (E4 ++ (E2 ++ (E1 ++ [])))))))))
            (command_Apply_S11 n a1 a2 a12 H21 (E21 ++ (E13 ++ (E12 ++ (E9 ++ (E4 ++ (E2 ++ (E1 ++ []))))))))))
        (splitK a24
          ((offA a12 1).bind fun a37 =>
          (loadA false 1 a37 H21).bind fun a38 =>
          (binA .eql (Go.TypeDesc.int Go.IntKind.u64) (cmpT Tryd.prog) false a22 a38).bind fun a39 =>
          condK a39
            ((loadA true 5 a1 H21).bind fun a40 =>
            stoK 5 a2 a40 H21 fun H41 E41 =>
            (loadA true 5 a2 H41).bind fun a42 =>
            endB false false n (.tup [a42, a23, .nili]) H41 (E41 ++ (E21 ++ (E13 ++ (E12 ++ (E9 ++ (E4 ++ (E2 ++ (E1 ++ [])))))))))
            (command_Apply_S11 n a1 a2 a12 H21 (E21 ++ (E13 ++ (E12 ++ (E9 ++ (E4 ++ (E2 ++ (E1 ++ [])))))))))
          (command_Apply_S11 n a1 a2 a12 H21 (E21 ++ (E13 ++ (E12 ++ (E9 ++ (E4 ++ (E2 ++ (E1 ++ []))))))))))))) (List.length H) = some r) : EV C n_command_Apply [x0, x1] H = some r :=
  EV_of_fnK' (fn := Tryd.f54) (by kernel_rfl) (by kernel_rfl) (by kernel_rfl) hh
theorem fold_Fold_at_of {r : R3} {x0 x1 : AV} {H : List AObj} (hh : (fun n => (
  (nilA x0).bind fun a1 =>
  (offA a1 0).bind fun a2 =>
  (loadA false 1 a2 H).bind fun a3 =>
  (binA .lss (Go.TypeDesc.int Go.IntKind.i64) (cmpT Tryd.prog) false x1 a3).bind fun a4 =>
  splitK a4
    (endB false false n (.tup [.nilp, (.ifc t_api_Code (.int .i64 9))]) H [])
    (callK (EV C) false n_fold_Fold_Last [x0] H fun a5 H5 E5 =>
    (binA .gtr (Go.TypeDesc.int Go.IntKind.i64) (cmpT Tryd.prog) false x1 a5).bind fun a6 =>
    condK a6
      (endB false false n (.tup [.nilp, (.ifc t_api_Code (.int .i64 9))]) H5 (E5 ++ []))
      ((nilA x0).bind fun a7 =>
      (offA a7 1).bind fun a8 =>
      (loadA false 1 a8 H5).bind fun a9 =>
      (nilA x0).bind fun a10 =>
      (offA a10 0).bind fun a11 =>
      (loadA false 1 a11 H5).bind fun a12 =>
      (binA .sub (Go.TypeDesc.int Go.IntKind.i64) (cmpT Tryd.prog) false x1 a12).bind fun a13 =>
      (ixA 6 a9 a13 H5).bind fun a14 =>
      endB false false n (.tup [a14, .nili]) H5 (E5 ++ []))))) (List.length H) = some r) : EV C n_fold_Fold_at [x0, x1] H = some r :=
  EV_of_fnK' (fn := Tryd.f55) (by kernel_rfl) (by kernel_rfl) (by kernel_rfl) hh
theorem tree_Check_of {r : R3} {x0 : AV} {H : List AObj} (hh : (fun n => (
  newK x0 H fun a1 H1 E1 =>
  (loadA true 5 a1 H1).bind fun a2 =>
  callK (EV C) false n_tree_deep [a2, (.int .i64 64)] H1 fun a3 H3 E3 =>
  condK a3
    (endB false false n (.ifc t_api_Code (.int .i64 5)) H3 (E3 ++ (E1 ++ [])))
    ((loadA true 5 a1 H3).bind fun a4 =>
    callK (EV C) false n_tree_formed [a4] H3 fun a5 H5 E5 =>
    (unA .not a5).bind fun a6 =>
    condK a6
      (endB false false n (.ifc t_api_Code (.int .i64 3)) H5 (E5 ++ (E3 ++ (E1 ++ []))))
      (endB false false n .nili H5 (E5 ++ (E3 ++ (E1 ++ []))))))) (List.length H) = some r) : EV C n_tree_Check [x0] H = some r :=
  EV_of_fnK' (fn := Tryd.f56) (by kernel_rfl) (by kernel_rfl) (by kernel_rfl) hh
theorem tree_told_of {r : R3} {x0 x1 : AV} {H : List AObj} (hh : (fun n => (
  newK x1 H fun a1 H1 E1 =>
  (offA a1 0).bind fun a2 =>
  (loadA false 1 a2 H1).bind fun a3 =>
  (binA .eql (Go.TypeDesc.int Go.IntKind.i64) (cmpT Tryd.prog) true a3 (.int .i64 0)).bind fun a4 =>
  condK a4
    (callK (EV C) false n_digest_None [] H1 fun a5 H5 E5 =>
    callK (EV C) false n_digest_Of [x0, a5] H5 fun a6 H6 E6 =>
    (extA a6 0).bind fun a7 =>
    (extA a6 1).bind fun a8 =>
    endB false false n (.tup [a7, a8]) H6 (E6 ++ (E5 ++ (E1 ++ []))))
    ((binA .eql (Go.TypeDesc.int Go.IntKind.i64) (cmpT Tryd.prog) true a3 (.int .i64 3)).bind fun a9 =>
    condK a9
      ((offA a1 3).bind fun a10 =>
      (loadA false 1 a10 H1).bind fun a11 =>
      (lenV a11 H1).bind fun a12 =>
      (binA .neq (Go.TypeDesc.int Go.IntKind.i64) (cmpT Tryd.prog) false a12 x0).bind fun a13 =>
      condK a13
        (endB false false n (.tup [.nils, (.ifc t_api_Code (.int .i64 3))]) H1 (E1 ++ []))
        ((offA a1 3).bind fun a14 =>
        (loadA false 1 a14 H1).bind fun a15 =>
        callK (EV C) false n_Clone_byte [a15] H1 fun a16 H16 E16 =>
        endB false false n (.tup [a16, .nili]) H16 (E16 ++ (E1 ++ []))))
      ((offA a1 3).bind fun a17 =>
      (loadA false 1 a17 H1).bind fun a18 =>
      (offA a1 0).bind fun a19 =>
      (loadA false 1 a19 H1).bind fun a20 =>
      (binA .eql (Go.TypeDesc.int Go.IntKind.i64) (cmpT Tryd.prog) true a20 (.int .i64 1)).bind fun a21 =>
      condK a21
        ((offA a1 2).bind fun a22 =>
        (loadA false 1 a22 H1).bind fun a23 =>
        callK (EV C) false n_digest_Value [a23] H1 fun a24 H24 E24 =>
        callK (EV C) false n_digest_Of [x0, a24] H24 fun a25 H25 E25 =>
        (extA a25 0).bind fun a26 =>
        (extA a25 1).bind fun a27 =>
        (binA .neq (Go.TypeDesc.interface #[("Error", 202)]) (cmpT Tryd.prog) true a27 .nili).bind fun a28 =>
        condK a28
          (endB false false n (.tup [.nils, a27]) H25 (E25 ++ (E24 ++ (E1 ++ []))))
          ((offA a1 1).bind fun a29 =>
          (loadA false 1 a29 H25).bind fun a30 =>
          callK (EV C) false n_digest_Pair [x0, a30, a26] H25 fun a31 H31 E31 =>
          (extA a31 0).bind fun a32 =>
          (extA a31 1).bind fun a33 =>
          callK (EV C) false n_tree_of [x0, a32, a33] H31 fun a34 H34 E34 =>
          (extA a34 0).bind fun a35 =>
          (extA a34 1).bind fun a36 =>
          (binA .neq (Go.TypeDesc.interface #[("Error", 202)]) (cmpT Tryd.prog) true a36 .nili).bind fun a37 =>
          condK a37
            (endB false false n (.tup [.nils, a36]) H34 (E34 ++ (E31 ++ (E25 ++ (E24 ++ (E1 ++ []))))))
            ((offA a1 4).bind fun a38 =>
            (loadA false 1 a38 H34).bind fun a39 =>
            (ixA 5 a39 (.int .i64 0) H34).bind fun a40 =>
            (loadA true 5 a40 H34).bind fun a41 =>
            callK (EV C) false n_tree_told [x0, a41] H34 fun a42 H42 E42 =>
            (extA a42 0).bind fun a43 =>
            (extA a42 1).bind fun a44 =>
            (binA .neq (Go.TypeDesc.interface #[("Error", 202)]) (cmpT Tryd.prog) true a44 .nili).bind fun a45 =>
            condK a45
              (endB false false n (.tup [.nils, a44]) H42 (E42 ++ (E34 ++ (E31 ++ (E25 ++ (E24 ++ (E1 ++ [])))))))
              ((offA a1 4).bind fun a46 =>
              (loadA false 1 a46 H42).bind fun a47 =>
              (ixA 5 a47 (.int .i64 1) H42).bind fun a48 =>
              (loadA true 5 a48 H42).bind fun a49 =>
              callK (EV C) false n_tree_told [x0, a49] H42 fun a50 H50 E50 =>
              (extA a50 0).bind fun a51 =>
              (extA a50 1).bind fun a52 =>
              (binA .neq (Go.TypeDesc.interface #[("Error", 202)]) (cmpT Tryd.prog) true a52 .nili).bind fun a53 =>
              condK a53
                (endB false false n (.tup [.nils, a52]) H50 (E50 ++ (E42 ++ (E34 ++ (E31 ++ (E25 ++ (E24 ++ (E1 ++ []))))))))
                (callK (EV C) false n_digest_Node [x0, a43, a35, a51] H50 fun a54 H54 E54 =>
                (extA a54 0).bind fun a55 =>
                (extA a54 1).bind fun a56 =>
                callK (EV C) false n_tree_of [x0, a55, a56] H54 fun a57 H57 E57 =>
                (extA a57 0).bind fun a58 =>
                (extA a57 1).bind fun a59 =>
                endB false false n (.tup [a58, a59]) H57 (E57 ++ (E54 ++ (E50 ++ (E42 ++ (E34 ++ (E31 ++ (E25 ++ (E24 ++ (E1 ++ []))))))))))))))
        ((offA a1 1).bind fun a60 =>
        (loadA false 1 a60 H1).bind fun a61 =>
        callK (EV C) false n_digest_Pair [x0, a61, a18] H1 fun a62 H62 E62 =>
        (extA a62 0).bind fun a63 =>
        (extA a62 1).bind fun a64 =>
        callK (EV C) false n_tree_of [x0, a63, a64] H62 fun a65 H65 E65 =>
        (extA a65 0).bind fun a66 =>
        (extA a65 1).bind fun a67 =>
        (binA .neq (Go.TypeDesc.interface #[("Error", 202)]) (cmpT Tryd.prog) true a67 .nili).bind fun a68 =>
        condK a68
          (endB false false n (.tup [.nils, a67]) H65 (E65 ++ (E62 ++ (E1 ++ []))))
          ((offA a1 4).bind fun a69 =>
          (loadA false 1 a69 H65).bind fun a70 =>
          (ixA 5 a70 (.int .i64 0) H65).bind fun a71 =>
          (loadA true 5 a71 H65).bind fun a72 =>
          callK (EV C) false n_tree_told [x0, a72] H65 fun a73 H73 E73 =>
          (extA a73 0).bind fun a74 =>
          (extA a73 1).bind fun a75 =>
          (binA .neq (Go.TypeDesc.interface #[("Error", 202)]) (cmpT Tryd.prog) true a75 .nili).bind fun a76 =>
          condK a76
            (endB false false n (.tup [.nils, a75]) H73 (E73 ++ (E65 ++ (E62 ++ (E1 ++ [])))))
            ((offA a1 4).bind fun a77 =>
            (loadA false 1 a77 H73).bind fun a78 =>
            (ixA 5 a78 (.int .i64 1) H73).bind fun a79 =>
            (loadA true 5 a79 H73).bind fun a80 =>
            callK (EV C) false n_tree_told [x0, a80] H73 fun a81 H81 E81 =>
            (extA a81 0).bind fun a82 =>
            (extA a81 1).bind fun a83 =>
            (binA .neq (Go.TypeDesc.interface #[("Error", 202)]) (cmpT Tryd.prog) true a83 .nili).bind fun a84 =>
            condK a84
              (endB false false n (.tup [.nils, a83]) H81 (E81 ++ (E73 ++ (E65 ++ (E62 ++ (E1 ++ []))))))
              (callK (EV C) false n_digest_Node [x0, a74, a66, a82] H81 fun a85 H85 E85 =>
              (extA a85 0).bind fun a86 =>
              (extA a85 1).bind fun a87 =>
              callK (EV C) false n_tree_of [x0, a86, a87] H85 fun a88 H88 E88 =>
              (extA a88 0).bind fun a89 =>
              (extA a88 1).bind fun a90 =>
              endB false false n (.tup [a89, a90]) H88 (E88 ++ (E85 ++ (E81 ++ (E73 ++ (E65 ++ (E62 ++ (E1 ++ []))))))))))))))) (List.length H) = some r) : EV C n_tree_told [x0, x1] H = some r :=
  EV_of_fnK' (fn := Tryd.f57) (by kernel_rfl) (by kernel_rfl) (by kernel_rfl) hh
theorem coder_NewReader_of {r : R3} {x0 : AV} {H : List AObj} (hh : (fun n => (
  callK (EV C) false n_Clone_byte [x0] H fun a1 H1 E1 =>
  (fillB (AV.cells (.agg [.nils, (.bool false)])) [(0, 1, a1)]).bind fun c2 =>
  newK (.agg c2) H1 fun a3 H3 E3 =>
  endB true true n a3 H3 (E3 ++ (E1 ++ [])))) (List.length H) = some r) : EV C n_coder_NewReader [x0] H = some r :=
  EV_of_fnK' (fn := Tryd.f67) (by kernel_rfl) (by kernel_rfl) (by kernel_rfl) hh
theorem coder_Reader_Byte_of {r : R3} {x0 : AV} {H : List AObj} (hh : (fun n => (
  callK (EV C) false n_coder_Reader_take [x0, (.int .i64 1)] H fun a1 H1 E1 =>
  (lenV a1 H1).bind fun a2 =>
  (binA .eql (Go.TypeDesc.int Go.IntKind.i64) (cmpT Tryd.prog) true a2 (.int .i64 0)).bind fun a3 =>
  condK a3
    (endB false false n (.int .u8 0) H1 (E1 ++ []))
    ((ixA 1 a1 (.int .i64 0) H1).bind fun a4 =>
    (loadA false 1 a4 H1).bind fun a5 =>
    endB false false n a5 H1 (E1 ++ [])))) (List.length H) = some r) : EV C n_coder_Reader_Byte [x0] H = some r :=
  EV_of_fnK' (fn := Tryd.f69) (by kernel_rfl) (by kernel_rfl) (by kernel_rfl) hh
theorem coder_Reader_Bytes_of {r : R3} {x0 x1 : AV} {H : List AObj} (hh : (fun n => (
  callK (EV C) false n_coder_Reader_Number [x0] H fun a1 H1 E1 =>
  (nilA x0).bind fun a2 =>
  (offA a2 1).bind fun a3 =>
  (loadA false 1 a3 H1).bind fun a4 =>
  splitK a4
    ((nilA x0).bind fun a5 =>
    (offA a5 1).bind fun a6 =>
    stoK 1 a6 (.bool true) H1 fun H7 E7 =>
    endB false false n .nils H7 (E7 ++ (E1 ++ [])))
    ((binA .lss (Go.TypeDesc.int Go.IntKind.i64) (cmpT Tryd.prog) true x1 (.int .i64 0)).bind fun a8 =>
    splitK a8
      ((nilA x0).bind fun a9 =>
      (offA a9 1).bind fun a10 =>
      stoK 1 a10 (.bool true) H1 fun H11 E11 =>
      endB false false n .nils H11 (E11 ++ (E1 ++ [])))
      ((cvI .u64 x1).bind fun a12 =>
      (binA .gtr (Go.TypeDesc.int Go.IntKind.u64) (cmpT Tryd.prog) false a1 a12).bind fun a13 =>
      splitK a13
        ((nilA x0).bind fun a14 =>
        (offA a14 1).bind fun a15 =>
        stoK 1 a15 (.bool true) H1 fun H16 E16 =>
        endB false false n .nils H16 (E16 ++ (E1 ++ [])))
        ((nilA x0).bind fun a17 =>
        (offA a17 0).bind fun a18 =>
        (loadA false 1 a18 H1).bind fun a19 =>
        (lenV a19 H1).bind fun a20 =>
        (cvI .u64 a20).bind fun a21 =>
        (binA .gtr (Go.TypeDesc.int Go.IntKind.u64) (cmpT Tryd.prog) false a1 a21).bind fun a22 =>
        condK a22
          ((nilA x0).bind fun a23 =>
          (offA a23 1).bind fun a24 =>
          stoK 1 a24 (.bool true) H1 fun H25 E25 =>
          endB false false n .nils H25 (E25 ++ (E1 ++ [])))
          ((cvI .i64 a1).bind fun a26 =>
          callK (EV C) false n_coder_Reader_take [x0, a26] H1 fun a27 H27 E27 =>
          endB false false n a27 H27 (E27 ++ (E1 ++ [])))))))) (List.length H) = some r) : EV C n_coder_Reader_Bytes [x0, x1] H = some r :=
  EV_of_fnK' (fn := Tryd.f70) (by kernel_rfl) (by kernel_rfl) (by kernel_rfl) hh
theorem coder_Reader_End_of {r : R3} {x0 : AV} {H : List AObj} (hh : (fun n => (
  (nilA x0).bind fun a1 =>
  (offA a1 1).bind fun a2 =>
  (loadA false 1 a2 H).bind fun a3 =>
  condK a3
    (endB false false n (.ifc t_api_Code (.int .i64 3)) H [])
    ((nilA x0).bind fun a4 =>
    (offA a4 0).bind fun a5 =>
    (loadA false 1 a5 H).bind fun a6 =>
    (lenV a6 H).bind fun a7 =>
    (binA .gtr (Go.TypeDesc.int Go.IntKind.i64) (cmpT Tryd.prog) true a7 (.int .i64 0)).bind fun a8 =>
    condK a8
      (endB false false n (.ifc t_api_Code (.int .i64 4)) H [])
      (endB false false n .nili H [])))) (List.length H) = some r) : EV C n_coder_Reader_End [x0] H = some r :=
  EV_of_fnK' (fn := Tryd.f71) (by kernel_rfl) (by kernel_rfl) (by kernel_rfl) hh
theorem tree_List_of {r : R3} {x0 : AV} {H : List AObj} (hh : (fun n => (
  newK x0 H fun a1 H1 E1 =>
  (loadA true 5 a1 H1).bind fun a2 =>
  callK (EV C) false n_tree_Check [a2] H1 fun a3 H3 E3 =>
  (binA .neq (Go.TypeDesc.interface #[("Error", 202)]) (cmpT Tryd.prog) true a3 .nili).bind fun a4 =>
  condK a4
    (endB false false n .nils H3 (E3 ++ (E1 ++ [])))
    (newK .nils H3 fun a5 H5 E5 =>
    newK .nilf H5 fun a6 H6 E6 =>
    stoK 1 a6 (.clo n_tree_List_1 [] [a6, a5]) H6 fun H7 E7 =>
    (loadA false 1 a6 H7).bind fun a8 =>
    (loadA true 5 a1 H7).bind fun a9 =>
    valK Tryd.prog (EV C) false a8 [a9] H7 fun a10 H10 E10 =>
    (loadA false 1 a5 H10).bind fun a11 =>
    endB false false n a11 H10 (E10 ++ (E7 ++ (E6 ++ (E5 ++ (E3 ++ (E1 ++ []))))))))) (List.length H) = some r) : EV C n_tree_List [x0] H = some r :=
  EV_of_fnK' (fn := Tryd.f72) (by kernel_rfl) (by kernel_rfl) (by kernel_rfl) hh
theorem tree_Full_of {r : R3} {x0 : AV} {H : List AObj} (hh : (fun n => (
  newK x0 H fun a1 H1 E1 =>
  (loadA true 5 a1 H1).bind fun a2 =>
  callK (EV C) false n_tree_Check [a2] H1 fun a3 H3 E3 =>
  (binA .eql (Go.TypeDesc.interface #[("Error", 202)]) (cmpT Tryd.prog) true a3 .nili).bind fun a4 =>
  splitK a4
    ((loadA true 5 a1 H3).bind fun a5 =>
    callK (EV C) false n_tree_full [a5] H3 fun a6 H6 E6 =>
    endB false false n a6 H6 (E6 ++ (E3 ++ (E1 ++ []))))
    (endB false false n (.bool false) H3 (E3 ++ (E1 ++ []))))) (List.length H) = some r) : EV C n_tree_Full [x0] H = some r :=
  EV_of_fnK' (fn := Tryd.f87) (by kernel_rfl) (by kernel_rfl) (by kernel_rfl) hh
theorem avl_even_of {r : R3} {x0 : AV} {H : List AObj} (hh : (fun n => (
  newK x0 H fun a1 H1 E1 =>
  (offA a1 4).bind fun a2 =>
  (loadA false 1 a2 H1).bind fun a3 =>
  (lenV a3 H1).bind fun a4 =>
  (binA .eql (Go.TypeDesc.int Go.IntKind.i64) (cmpT Tryd.prog) true a4 (.int .i64 0)).bind fun a5 =>
  condK a5
    (endB false false n (.tup [(.int .i64 0), (.bool true)]) H1 (E1 ++ []))
    ((offA a1 4).bind fun a6 =>
    (loadA false 1 a6 H1).bind fun a7 =>
    (ixA 5 a7 (.int .i64 0) H1).bind fun a8 =>
    (loadA true 5 a8 H1).bind fun a9 =>
    callK (EV C) false n_avl_even [a9] H1 fun a10 H10 E10 =>
    (extA a10 0).bind fun a11 =>
    (extA a10 1).bind fun a12 =>
    (offA a1 4).bind fun a13 =>
    (loadA false 1 a13 H10).bind fun a14 =>
    (ixA 5 a14 (.int .i64 1) H10).bind fun a15 =>
    (loadA true 5 a15 H10).bind fun a16 =>
    callK (EV C) false n_avl_even [a16] H10 fun a17 H17 E17 =>
    (extA a17 0).bind fun a18 =>
    (extA a17 1).bind fun a19 =>
    (maxA [a11, a18]).bind fun a20 =>
    (binA .add (Go.TypeDesc.int Go.IntKind.i64) (cmpT Tryd.prog) true a20 (.int .i64 1)).bind fun a21 =>
    splitK a12
      (splitK a19
        ((binA .sub (Go.TypeDesc.int Go.IntKind.i64) (cmpT Tryd.prog) false a11 a18).bind fun a22 =>
        (binA .leq (Go.TypeDesc.int Go.IntKind.i64) (cmpT Tryd.prog) true a22 (.int .i64 1)).bind fun a23 =>
        splitK a23
          ((binA .sub (Go.TypeDesc.int Go.IntKind.i64) (cmpT Tryd.prog) false a18 a11).bind fun a24 =>
          (binA .leq (Go.TypeDesc.int Go.IntKind.i64) (cmpT Tryd.prog) true a24 (.int .i64 1)).bind fun a25 =>
          endB false false n (.tup [a21, a25]) H17 (E17 ++ (E10 ++ (E1 ++ []))))
          (endB false false n (.tup [a21, (.bool false)]) H17 (E17 ++ (E10 ++ (E1 ++ [])))))
        (endB false false n (.tup [a21, (.bool false)]) H17 (E17 ++ (E10 ++ (E1 ++ [])))))
      (endB false false n (.tup [a21, (.bool false)]) H17 (E17 ++ (E10 ++ (E1 ++ []))))))) (List.length H) = some r) : EV C n_avl_even [x0] H = some r :=
  EV_of_fnK' (fn := Tryd.f88) (by kernel_rfl) (by kernel_rfl) (by kernel_rfl) hh
theorem ref05_Node_of {r : R3} {x0 x1 x2 x3 : AV} {H : List AObj} (hh : (fun n => (
  newK x0 H fun a1 H1 E1 =>
  newK x3 H1 fun a2 H2 E2 =>
  newK (.agg [(.int .i64 0), .nils, .nils, .nils, .nils]) H2 fun a3 H3 E3 =>
  (loadA true 5 a1 H3).bind fun a4 =>
  (loadA true 5 a2 H3).bind fun a5 =>
  litK 5 2 (.agg [(.int .i64 0), .nils, .nils, .nils, .nils]) [(0, a4), (1, a5)] H3 fun a6 H6 E6 =>
  (fillB (AV.cells (.agg [(.int .i64 0), .nils, .nils, .nils, .nils])) [(0, 1, (.int .i64 1)), (1, 1, x1), (2, 1, x2), (4, 1, a6)]).bind fun c7 =>
  stoK 5 a3 (.agg c7) H6 fun H8 E8 =>
  (loadA true 5 a3 H8).bind fun a9 =>
  endB false false n a9 H8 (E8 ++ (E6 ++ (E3 ++ (E2 ++ (E1 ++ []))))))) (List.length H) = some r) : EV C n_ref05_Node [x0, x1, x2, x3] H = some r :=
  EV_of_fnK' (fn := Tryd.f89) (by kernel_rfl) (by kernel_rfl) (by kernel_rfl) hh
theorem ref05_level_of {r : R3} {x0 : AV} {H : List AObj} (hh : (fun n => (
  newK x0 H fun a1 H1 E1 =>
  newK (.agg [(.int .i64 0), .nils, .nils, .nils, .nils]) H1 fun a2 H2 E2 =>
  (loadA true 5 a1 H2).bind fun a3 =>
  callK (EV C) false n_ref05_tilt [a3] H2 fun a4 H4 E4 =>
  (binA .eql (Go.TypeDesc.int Go.IntKind.i64) (cmpT Tryd.prog) true a4 (.int .i64 2)).bind fun a5 =>
  condK a5
    ((offA a1 4).bind fun a6 =>
    (loadA false 1 a6 H4).bind fun a7 =>
    (ixA 5 a7 (.int .i64 0) H4).bind fun a8 =>
    (loadA true 5 a8 H4).bind fun a9 =>
    callK (EV C) false n_ref05_tilt [a9] H4 fun a10 H10 E10 =>
    (binA .lss (Go.TypeDesc.int Go.IntKind.i64) (cmpT Tryd.prog) true a10 (.int .i64 0)).bind fun a11 =>
    condK a11
      ((offA a1 4).bind fun a12 =>
      (loadA false 1 a12 H10).bind fun a13 =>
      (ixA 5 a13 (.int .i64 0) H10).bind fun a14 =>
      (loadA true 5 a14 H10).bind fun a15 =>
      (callD (EV C) n_ref05_left [a15] H10).bind fun a16 =>
      (offA a1 1).bind fun a17 =>
      (loadA false 1 a17 H10).bind fun a18 =>
      (offA a1 2).bind fun a19 =>
      (loadA false 1 a19 H10).bind fun a20 =>
      (offA a1 4).bind fun a21 =>
      (loadA false 1 a21 H10).bind fun a22 =>
      (ixA 5 a22 (.int .i64 1) H10).bind fun a23 =>
      (loadA true 5 a23 H10).bind fun a24 =>
      (callD (EV C) n_ref05_Node [a16, a18, a20, a24] H10).bind fun a25 =>
      stoK 5 a1 a25 H10 fun H26 E26 =>
      (loadA true 5 a1 H26).bind fun a27 =>
      callK (EV C) false n_ref05_right [a27] H26 fun a28 H28 E28 =>
      stoK 5 a2 a28 H28 fun H29 E29 =>
      (loadA true 5 a2 H29).bind fun a30 =>
      endB false false n a30 H29 (E29 ++ (E28 ++ (E26 ++ (E10 ++ (E4 ++ (E2 ++ (E1 ++ []))))))))
      ((loadA true 5 a1 H10).bind fun a31 =>
      callK (EV C) false n_ref05_right [a31] H10 fun a32 H32 E32 =>
      stoK 5 a2 a32 H32 fun H33 E33 =>
      (loadA true 5 a2 H33).bind fun a34 =>
      endB false false n a34 H33 (E33 ++ (E32 ++ (E10 ++ (E4 ++ (E2 ++ (E1 ++ []))))))))
    ((binA .eql (Go.TypeDesc.int Go.IntKind.i64) (cmpT Tryd.prog) true a4 (.int .i64 (-2))).bind fun a35 =>
    condK a35
      ((offA a1 4).bind fun a36 =>
      (loadA false 1 a36 H4).bind fun a37 =>
      (ixA 5 a37 (.int .i64 1) H4).bind fun a38 =>
      (loadA true 5 a38 H4).bind fun a39 =>
      callK (EV C) false n_ref05_tilt [a39] H4 fun a40 H40 E40 =>
      (binA .gtr (Go.TypeDesc.int Go.IntKind.i64) (cmpT Tryd.prog) true a40 (.int .i64 0)).bind fun a41 =>
      condK a41
        ((offA a1 4).bind fun a42 =>
        (loadA false 1 a42 H40).bind fun a43 =>
        (ixA 5 a43 (.int .i64 0) H40).bind fun a44 =>
        (loadA true 5 a44 H40).bind fun a45 =>
        (offA a1 1).bind fun a46 =>
        (loadA false 1 a46 H40).bind fun a47 =>
        (offA a1 2).bind fun a48 =>
        (loadA false 1 a48 H40).bind fun a49 =>
        (offA a1 4).bind fun a50 =>
        (loadA false 1 a50 H40).bind fun a51 =>
        (ixA 5 a51 (.int .i64 1) H40).bind fun a52 =>
        (loadA true 5 a52 H40).bind fun a53 =>
        (callD (EV C) n_ref05_right [a53] H40).bind fun a54 =>
        (callD (EV C) n_ref05_Node [a45, a47, a49, a54] H40).bind fun a55 =>
        stoK 5 a1 a55 H40 fun H56 E56 =>
        (loadA true 5 a1 H56).bind fun a57 =>
        callK (EV C) false n_ref05_left [a57] H56 fun a58 H58 E58 =>
        stoK 5 a2 a58 H58 fun H59 E59 =>
        (loadA true 5 a2 H59).bind fun a60 =>
        endB false false n a60 H59 (E59 ++ (E58 ++ (E56 ++ (E40 ++ (E4 ++ (E2 ++ (E1 ++ []))))))))
        ((loadA true 5 a1 H40).bind fun a61 =>
        callK (EV C) false n_ref05_left [a61] H40 fun a62 H62 E62 =>
        stoK 5 a2 a62 H62 fun H63 E63 =>
        (loadA true 5 a2 H63).bind fun a64 =>
        endB false false n a64 H63 (E63 ++ (E62 ++ (E40 ++ (E4 ++ (E2 ++ (E1 ++ []))))))))
      ((loadA true 5 a1 H4).bind fun a65 =>
      stoK 5 a2 a65 H4 fun H66 E66 =>
      (loadA true 5 a2 H66).bind fun a67 =>
      endB false false n a67 H66 (E66 ++ (E4 ++ (E2 ++ (E1 ++ [])))))))) (List.length H) = some r) : EV C n_ref05_level [x0] H = some r :=
  EV_of_fnK' (fn := Tryd.f90) (by kernel_rfl) (by kernel_rfl) (by kernel_rfl) hh
theorem command_Read_of {r : R3} {x0 : AV} {H : List AObj} (hh : (fun n => (
  newK (.agg [(.int .u64 0), (.int .u64 0), (.int .i64 0), .nils, .nils]) H fun a1 H1 E1 =>
  callK (EV C) true n_coder_NewReader [x0] H1 fun a2 H2 E2 =>
  callK (EV C) false n_coder_Reader_Number [a2] H2 fun a3 H3 E3 =>
  callK (EV C) false n_coder_Reader_Number [a2] H3 fun a4 H4 E4 =>
  callK (EV C) false n_coder_Reader_Byte [a2] H4 fun a5 H5 E5 =>
  (cvI .i64 a5).bind fun a6 =>
  callK (EV C) false n_coder_Reader_Bytes [a2, (.int .i64 64)] H5 fun a7 H7 E7 =>
  callK (EV C) false n_coder_Reader_Bytes [a2, (.int .i64 1024)] H7 fun a8 H8 E8 =>
  (fillB (AV.cells (.agg [(.int .u64 0), (.int .u64 0), (.int .i64 0), .nils, .nils])) [(0, 1, a3), (1, 1, a4), (2, 1, a6), (3, 1, a7), (4, 1, a8)]).bind fun c9 =>
  newK (.agg [(.int .u64 0), (.int .u64 0), (.int .i64 0), .nils, .nils]) H8 fun a10 H10 E10 =>
  stoK 5 a10 (.agg c9) H10 fun H11 E11 =>
  callK (EV C) false n_coder_Reader_End [a2] H11 fun a12 H12 E12 =>
  (loadA true 5 a10 H12).bind fun a13 =>
  callK (EV C) false n_command_Write [a13] H12 fun a14 H14 E14 =>
  (extA a14 0).bind fun a15 =>
  (extA a14 1).bind fun a16 =>
  (binA .neq (Go.TypeDesc.interface #[("Error", 202)]) (cmpT Tryd.prog) true a16 .nili).bind fun a17 =>
  splitK a17
    ((binA .neq (Go.TypeDesc.interface #[("Error", 202)]) (cmpT Tryd.prog) false a12 (.ifc t_api_Code (.int .i64 3))).bind fun a18 =>
    condK a18
      ((binA .neq (Go.TypeDesc.interface #[("Error", 202)]) (cmpT Tryd.prog) true (.ifc t_api_Code (.int .i64 3)) .nili).bind fun a19 =>
      condK a19
        ((fillB (AV.cells (.agg [(.int .u64 0), (.int .u64 0), (.int .i64 0), .nils, .nils])) []).bind fun c20 =>
        stoK 5 a1 (.agg c20) H14 fun H21 E21 =>
        (loadA true 5 a1 H21).bind fun a22 =>
        endB false false n (.tup [a22, (.ifc t_api_Code (.int .i64 3))]) H21 (E21 ++ (E14 ++ (E12 ++ (E11 ++ (E10 ++ (E8 ++ (E7 ++ (E5 ++ (E4 ++ (E3 ++ (E2 ++ (E1 ++ [])))))))))))))
        ((loadA true 5 a10 H14).bind fun a23 =>
        stoK 5 a1 a23 H14 fun H24 E24 =>
        (loadA true 5 a1 H24).bind fun a25 =>
        endB false false n (.tup [a25, .nili]) H24 (E24 ++ (E14 ++ (E12 ++ (E11 ++ (E10 ++ (E8 ++ (E7 ++ (E5 ++ (E4 ++ (E3 ++ (E2 ++ (E1 ++ []))))))))))))))
      ((binA .neq (Go.TypeDesc.interface #[("Error", 202)]) (cmpT Tryd.prog) true a12 .nili).bind fun a26 =>
      condK a26
        ((fillB (AV.cells (.agg [(.int .u64 0), (.int .u64 0), (.int .i64 0), .nils, .nils])) []).bind fun c27 =>
        stoK 5 a1 (.agg c27) H14 fun H28 E28 =>
        (loadA true 5 a1 H28).bind fun a29 =>
        endB false false n (.tup [a29, a12]) H28 (E28 ++ (E14 ++ (E12 ++ (E11 ++ (E10 ++ (E8 ++ (E7 ++ (E5 ++ (E4 ++ (E3 ++ (E2 ++ (E1 ++ [])))))))))))))
        ((loadA true 5 a10 H14).bind fun a30 =>
        stoK 5 a1 a30 H14 fun H31 E31 =>
        (loadA true 5 a1 H31).bind fun a32 =>
        endB false false n (.tup [a32, .nili]) H31 (E31 ++ (E14 ++ (E12 ++ (E11 ++ (E10 ++ (E8 ++ (E7 ++ (E5 ++ (E4 ++ (E3 ++ (E2 ++ (E1 ++ [])))))))))))))))
    ((binA .neq (Go.TypeDesc.interface #[("Error", 202)]) (cmpT Tryd.prog) true a12 .nili).bind fun a33 =>
    condK a33
      ((fillB (AV.cells (.agg [(.int .u64 0), (.int .u64 0), (.int .i64 0), .nils, .nils])) []).bind fun c34 =>
      stoK 5 a1 (.agg c34) H14 fun H35 E35 =>
      (loadA true 5 a1 H35).bind fun a36 =>
      endB false false n (.tup [a36, a12]) H35 (E35 ++ (E14 ++ (E12 ++ (E11 ++ (E10 ++ (E8 ++ (E7 ++ (E5 ++ (E4 ++ (E3 ++ (E2 ++ (E1 ++ [])))))))))))))
      ((loadA true 5 a10 H14).bind fun a37 =>
      stoK 5 a1 a37 H14 fun H38 E38 =>
      (loadA true 5 a1 H38).bind fun a39 =>
      endB false false n (.tup [a39, .nili]) H38 (E38 ++ (E14 ++ (E12 ++ (E11 ++ (E10 ++ (E8 ++ (E7 ++ (E5 ++ (E4 ++ (E3 ++ (E2 ++ (E1 ++ [])))))))))))))))) (List.length H) = some r) : EV C n_command_Read [x0] H = some r :=
  EV_of_fnK' (fn := Tryd.f91) (by kernel_rfl) (by kernel_rfl) (by kernel_rfl) hh
theorem command_last_of {r : R3} {x0 x1 : AV} {H : List AObj} (hh : (fun n => (
  newK x0 H fun a1 H1 E1 =>
  (loadA true 5 a1 H1).bind fun a2 =>
  (callD (EV C) n_command_own [x1] H1).bind fun a3 =>
  (callD (EV C) n_avl_Get [a2, a3] H1).bind fun a4 =>
  (extA a4 0).bind fun a5 =>
  (extA a4 1).bind fun a6 =>
  (extA a4 2).bind fun a7 =>
  (binA .neq (Go.TypeDesc.interface #[("Error", 202)]) (cmpT Tryd.prog) true a7 .nili).bind fun a8 =>
  splitK a8
    (endB false false n (.tup [(.int .u64 0), (.int .i64 0), (.bool false)]) H1 (E1 ++ []))
    ((unA .not a6).bind fun a9 =>
    condK a9
      (endB false false n (.tup [(.int .u64 0), (.int .i64 0), (.bool false)]) H1 (E1 ++ []))
      (callK (EV C) true n_coder_NewReader [a5] H1 fun a10 H10 E10 =>
      callK (EV C) false n_coder_Reader_Number [a10] H10 fun a11 H11 E11 =>
      callK (EV C) false n_coder_Reader_Byte [a10] H11 fun a12 H12 E12 =>
      (cvI .i64 a12).bind fun a13 =>
      callK (EV C) false n_coder_Reader_End [a10] H12 fun a14 H14 E14 =>
      (binA .eql (Go.TypeDesc.interface #[("Error", 202)]) (cmpT Tryd.prog) true a14 .nili).bind fun a15 =>
      splitK a15
        ((binA .geq (Go.TypeDesc.int Go.IntKind.i64) (cmpT Tryd.prog) true a13 (.int .i64 1)).bind fun a16 =>
        splitK a16
          ((binA .leq (Go.TypeDesc.int Go.IntKind.i64) (cmpT Tryd.prog) true a13 (.int .i64 4)).bind fun a17 =>
          endB false false n (.tup [a11, a13, a17]) H14 (E14 ++ (E12 ++ (E11 ++ (E10 ++ (E1 ++ []))))))
          (endB false false n (.tup [a11, a13, (.bool false)]) H14 (E14 ++ (E12 ++ (E11 ++ (E10 ++ (E1 ++ [])))))))
        (endB false false n (.tup [a11, a13, (.bool false)]) H14 (E14 ++ (E12 ++ (E11 ++ (E10 ++ (E1 ++ [])))))))))) (List.length H) = some r) : EV C n_command_last [x0, x1] H = some r :=
  EV_of_fnK' (fn := Tryd.f92) (by kernel_rfl) (by kernel_rfl) (by kernel_rfl) hh
theorem command_change_of {r : R3} {x0 x1 : AV} {H : List AObj} (hh : (fun n => (
  newK x0 H fun a1 H1 E1 =>
  newK x1 H1 fun a2 H2 E2 =>
  newK (.agg [(.int .i64 0), .nils, .nils, .nils, .nils]) H2 fun a3 H3 E3 =>
  (offA a2 3).bind fun a4 =>
  (loadA false 1 a4 H3).bind fun a5 =>
  callK (EV C) false n_command_Key [a5] H3 fun a6 H6 E6 =>
  (offA a2 2).bind fun a7 =>
  (loadA false 1 a7 H6).bind fun a8 =>
  (binA .eql (Go.TypeDesc.int Go.IntKind.i64) (cmpT Tryd.prog) true a8 (.int .i64 2)).bind fun a9 =>
  condK a9
    ((loadA true 5 a1 H6).bind fun a10 =>
    callK (EV C) false n_avl_Delete [a10, a6] H6 fun a11 H11 E11 =>
    (extA a11 0).bind fun a12 =>
    (extA a11 1).bind fun a13 =>
    (extA a11 2).bind fun a14 =>
    newK (.agg [(.int .i64 0), .nils, .nils, .nils, .nils]) H11 fun a15 H15 E15 =>
    stoK 5 a15 a12 H15 fun H16 E16 =>
    condK a13
      ((loadA true 5 a15 H16).bind fun a17 =>
      stoK 5 a3 a17 H16 fun H18 E18 =>
      (loadA true 5 a3 H18).bind fun a19 =>
      endB false false n (.tup [a19, (.int .i64 3), a14]) H18 (E18 ++ (E16 ++ (E15 ++ (E11 ++ (E6 ++ (E3 ++ (E2 ++ (E1 ++ [])))))))))
      ((loadA true 5 a15 H16).bind fun a20 =>
      stoK 5 a3 a20 H16 fun H21 E21 =>
      (loadA true 5 a3 H21).bind fun a22 =>
      endB false false n (.tup [a22, (.int .i64 4), a14]) H21 (E21 ++ (E16 ++ (E15 ++ (E11 ++ (E6 ++ (E3 ++ (E2 ++ (E1 ++ []))))))))))
    ((loadA true 5 a1 H6).bind fun a23 =>
    callK (EV C) false n_avl_Get [a23, a6] H6 fun a24 H24 E24 =>
    (extA a24 0).bind fun a25 =>
    (extA a24 1).bind fun a26 =>
    (extA a24 2).bind fun a27 =>
    (binA .neq (Go.TypeDesc.interface #[("Error", 202)]) (cmpT Tryd.prog) true a27 .nili).bind fun a28 =>
    condK a28
      ((fillB (AV.cells (.agg [(.int .i64 0), .nils, .nils, .nils, .nils])) []).bind fun c29 =>
      stoK 5 a3 (.agg c29) H24 fun H30 E30 =>
      (loadA true 5 a3 H30).bind fun a31 =>
      endB false false n (.tup [a31, (.int .i64 0), a27]) H30 (E30 ++ (E24 ++ (E6 ++ (E3 ++ (E2 ++ (E1 ++ [])))))))
      ((loadA true 5 a1 H24).bind fun a32 =>
      (offA a2 4).bind fun a33 =>
      (loadA false 1 a33 H24).bind fun a34 =>
      callK (EV C) false n_avl_Put [a32, a6, a34] H24 fun a35 H35 E35 =>
      (extA a35 0).bind fun a36 =>
      (extA a35 1).bind fun a37 =>
      newK (.agg [(.int .i64 0), .nils, .nils, .nils, .nils]) H35 fun a38 H38 E38 =>
      stoK 5 a38 a36 H38 fun H39 E39 =>
      condK a26
        ((loadA true 5 a38 H39).bind fun a40 =>
        stoK 5 a3 a40 H39 fun H41 E41 =>
        (loadA true 5 a3 H41).bind fun a42 =>
        endB false false n (.tup [a42, (.int .i64 2), a37]) H41 (E41 ++ (E39 ++ (E38 ++ (E35 ++ (E24 ++ (E6 ++ (E3 ++ (E2 ++ (E1 ++ []))))))))))
        ((loadA true 5 a38 H39).bind fun a43 =>
        stoK 5 a3 a43 H39 fun H44 E44 =>
        (loadA true 5 a3 H44).bind fun a45 =>
        endB false false n (.tup [a45, (.int .i64 1), a37]) H44 (E44 ++ (E39 ++ (E38 ++ (E35 ++ (E24 ++ (E6 ++ (E3 ++ (E2 ++ (E1 ++ [])))))))))))))) (List.length H) = some r) : EV C n_command_change [x0, x1] H = some r :=
  EV_of_fnK' (fn := Tryd.f93) (by kernel_rfl) (by kernel_rfl) (by kernel_rfl) hh
theorem avl_Put_of {r : R3} {x0 x1 x2 : AV} {H : List AObj} (hh : (fun n => (
  newK x0 H fun a1 H1 E1 =>
  newK (.agg [(.int .i64 0), .nils, .nils, .nils, .nils]) H1 fun a2 H2 E2 =>
  (loadA true 5 a1 H2).bind fun a3 =>
  callK (EV C) false n_avl_asked [a3, x1, x2] H2 fun a4 H4 E4 =>
  (binA .neq (Go.TypeDesc.interface #[("Error", 202)]) (cmpT Tryd.prog) true a4 .nili).bind fun a5 =>
  condK a5
    ((fillB (AV.cells (.agg [(.int .i64 0), .nils, .nils, .nils, .nils])) []).bind fun c6 =>
    stoK 5 a2 (.agg c6) H4 fun H7 E7 =>
    (loadA true 5 a2 H7).bind fun a8 =>
    endB false false n (.tup [a8, a4]) H7 (E7 ++ (E4 ++ (E2 ++ (E1 ++ [])))))
    ((loadA true 5 a1 H4).bind fun a9 =>
    (callD (EV C) n_Clone_byte [x1] H4).bind fun a10 =>
    (callD (EV C) n_Clone_byte [x2] H4).bind fun a11 =>
    (callD (EV C) n_avl_put [a9, a10, a11] H4).bind fun a12 =>
    stoK 5 a2 a12 H4 fun H13 E13 =>
    (loadA true 5 a2 H13).bind fun a14 =>
    endB false false n (.tup [a14, .nili]) H13 (E13 ++ (E4 ++ (E2 ++ (E1 ++ []))))))) (List.length H) = some r) : EV C n_avl_Put [x0, x1, x2] H = some r :=
  EV_of_fnK' (fn := Tryd.f94) (by kernel_rfl) (by kernel_rfl) (by kernel_rfl) hh
noncomputable def command_own_J3 (n : Nat) (t0 t3 t4 : AV) (H : List AObj) (E : List Nat) : Option R3 :=
  loopK Tryd.prog C.G (EV C) (C.hint 95) Tryd.f95 (cAt (bodyOf Tryd.f95) [1, 1, 0, 1, 0, 0]) (kAt Tryd.prog C.G (EV C) (C.hint 95) Tryd.f95 (bodyOf Tryd.f95) [1, 1, 0, 1, 0] [] (endK Tryd.prog (C.hint 95) Tryd.f95 n))
    ⟨pat 18 [(0, t0), (3, t3), (4, t4)], H, E⟩
theorem command_own_J3_of {r : R3} {n : Nat} {t0 t3 t4 : AV} {H : List AObj} {E : List Nat} (hh : (
  (binA .geq (Go.TypeDesc.int Go.IntKind.i64) (cmpT Tryd.prog) true t4 (.int .i64 0)).bind fun a1 =>
  condK a1
    ((binA .shr (Go.TypeDesc.int Go.IntKind.u64) (cmpT Tryd.prog) false t0 t4).bind fun a2 =>
    (cvI .u8 a2).bind fun a3 =>
    litK 1 1 (.int .u8 0) [(0, a3)] H fun a4 H4 E4 =>
    appK 1 1 t3 a4 H4 fun a5 H5 E5 =>
    (binA .sub (Go.TypeDesc.int Go.IntKind.i64) (cmpT Tryd.prog) true t4 (.int .i64 8)).bind fun a6 =>
    command_own_J3 n t0 a5 a6 H5 ((E5 ++ (E4 ++ [])) ++ E))
    (endB false false n t3 H E)) = some r) : command_own_J3 n t0 t3 t4 H E = some r :=
  loop_step' (by kernel_rfl) hh
theorem command_own_of {r : R3} {x0 : AV} {H : List AObj} (hh : (fun n => (
  rawK 1 1 (.int .u8 0) [(0, (.int .u8 115))] H fun a1 H1 E1 =>
  command_own_J3 n x0 a1 (.int .i64 56) H1 (E1 ++ []))) (List.length H) = some r) : EV C n_command_own [x0] H = some r :=
  EV_of_fnK' (fn := Tryd.f95) (by kernel_rfl) (by kernel_rfl) (by kernel_rfl) hh
noncomputable def coder_Number_J4 (n : Nat) (t0 t3 : AV) (H : List AObj) (E : List Nat) : Option R3 :=
  loopK Tryd.prog C.G (EV C) (C.hint 96) Tryd.f96 (cAt (bodyOf Tryd.f96) [1, 1, 1, 0, 0, 0]) (kAt Tryd.prog C.G (EV C) (C.hint 96) Tryd.f96 (bodyOf Tryd.f96) [1, 1, 1, 0, 0] [] (endK Tryd.prog (C.hint 96) Tryd.f96 n))
    ⟨pat 43 [(0, t0), (3, t3)], H, E⟩
noncomputable def coder_Number_J8 (n : Nat) (t0 t3 t4 t26 t27 : AV) (H : List AObj) (E : List Nat) : Option R3 :=
  loopK Tryd.prog C.G (EV C) (C.hint 96) Tryd.f96 (cAt (bodyOf Tryd.f96) [1, 1, 1, 1, 1, 0, 1, 0, 0]) (kAt Tryd.prog C.G (EV C) (C.hint 96) Tryd.f96 (bodyOf Tryd.f96) [1, 1, 1, 1, 1, 0, 1, 0] [] (endK Tryd.prog (C.hint 96) Tryd.f96 n))
    ⟨pat 43 [(0, t0), (3, t3), (4, t4), (26, t26), (27, t27)], H, E⟩
theorem coder_Number_J4_of {r : R3} {n : Nat} {t0 t3 : AV} {H : List AObj} {E : List Nat} (hh : (
  (binA .lss (Go.TypeDesc.int Go.IntKind.i64) (cmpT Tryd.prog) true t3 (.int .i64 8)).bind fun a1 =>
  splitK a1
    ((binA .mul (Go.TypeDesc.int Go.IntKind.i64) (cmpT Tryd.prog) true (.int .i64 8) t3).bind fun a2 =>
    (binA .shr (Go.TypeDesc.int Go.IntKind.u64) (cmpT Tryd.prog) false t0 a2).bind fun a3 =>
    (binA .gtr (Go.TypeDesc.int Go.IntKind.u64) (cmpT Tryd.prog) true a3 (.int .u64 0)).bind fun a4 =>
    condK a4
      ((binA .add (Go.TypeDesc.int Go.IntKind.i64) (cmpT Tryd.prog) true t3 (.int .i64 1)).bind fun a5 =>
      coder_Number_J4 n t0 a5 H E)
      ((binA .add (Go.TypeDesc.int Go.IntKind.i64) (cmpT Tryd.prog) true (.int .i64 247) t3).bind fun a6 =>
      (cvI .u8 a6).bind fun a7 =>
      rawK 1 1 (.int .u8 0) [(0, a7)] H fun a8 H8 E8 =>
      coder_Number_J8 n t0 t3 a8 t3 (.int .i64 0) H8 (E8 ++ E)))
    ((binA .add (Go.TypeDesc.int Go.IntKind.i64) (cmpT Tryd.prog) true (.int .i64 247) t3).bind fun a9 =>
    (cvI .u8 a9).bind fun a10 =>
    rawK 1 1 (.int .u8 0) [(0, a10)] H fun a11 H11 E11 =>
    coder_Number_J8 n t0 t3 a11 t3 (.int .i64 0) H11 (E11 ++ E))) = some r) : coder_Number_J4 n t0 t3 H E = some r :=
  loop_step' (by kernel_rfl) hh
theorem coder_Number_J8_of {r : R3} {n : Nat} {t0 t3 t4 t26 t27 : AV} {H : List AObj} {E : List Nat} (hh : (
  (binA .lss (Go.TypeDesc.int Go.IntKind.i64) (cmpT Tryd.prog) false t27 t26).bind fun a1 =>
  condK a1
    ((binA .sub (Go.TypeDesc.int Go.IntKind.i64) (cmpT Tryd.prog) true t3 (.int .i64 1)).bind fun a2 =>
    (binA .sub (Go.TypeDesc.int Go.IntKind.i64) (cmpT Tryd.prog) false a2 t27).bind fun a3 =>
    (binA .mul (Go.TypeDesc.int Go.IntKind.i64) (cmpT Tryd.prog) true (.int .i64 8) a3).bind fun a4 =>
    (binA .shr (Go.TypeDesc.int Go.IntKind.u64) (cmpT Tryd.prog) false t0 a4).bind fun a5 =>
    (cvI .u8 a5).bind fun a6 =>
    litK 1 1 (.int .u8 0) [(0, a6)] H fun a7 H7 E7 =>
    appK 1 1 t4 a7 H7 fun a8 H8 E8 =>
    (binA .add (Go.TypeDesc.int Go.IntKind.i64) (cmpT Tryd.prog) true t27 (.int .i64 1)).bind fun a9 =>
    coder_Number_J8 n t0 t3 a8 t26 a9 H8 ((E8 ++ (E7 ++ [])) ++ E))
    (endB false false n t4 H E)) = some r) : coder_Number_J8 n t0 t3 t4 t26 t27 H E = some r :=
  loop_step' (by kernel_rfl) hh
theorem coder_Number_of {r : R3} {x0 : AV} {H : List AObj} (hh : (fun n => (
  (binA .leq (Go.TypeDesc.int Go.IntKind.u64) (cmpT Tryd.prog) true x0 (.int .u64 247)).bind fun a1 =>
  condK a1
    ((cvI .u8 x0).bind fun a2 =>
    rawK 1 1 (.int .u8 0) [(0, a2)] H fun a3 H3 E3 =>
    endB false false n a3 H3 (E3 ++ []))
    (coder_Number_J4 n x0 (.int .i64 1) H []))) (List.length H) = some r) : EV C n_coder_Number [x0] H = some r :=
  EV_of_fnK' (fn := Tryd.f96) (by kernel_rfl) (by kernel_rfl) (by kernel_rfl) hh
theorem tree_deep_of {r : R3} {x0 x1 : AV} {H : List AObj} (hh : (fun n => (
  newK x0 H fun a1 H1 E1 =>
  newK x1 H1 fun a2 H2 E2 =>
  (offA a1 0).bind fun a3 =>
  (loadA false 1 a3 H2).bind fun a4 =>
  (binA .eql (Go.TypeDesc.int Go.IntKind.i64) (cmpT Tryd.prog) true a4 (.int .i64 1)).bind fun a5 =>
  splitK a5
    ((loadA false 1 a2 H2).bind fun a6 =>
    (binA .lss (Go.TypeDesc.int Go.IntKind.i64) (cmpT Tryd.prog) true a6 (.int .i64 1)).bind fun a7 =>
    condK a7
      (endB false false n (.bool true) H2 (E2 ++ (E1 ++ [])))
      ((offA a1 4).bind fun a8 =>
      (loadA false 1 a8 H2).bind fun a9 =>
      callK (EV C) false n_ContainsFunc_api_Tree [a9, (.clo n_tree_deep_1 [] [a2])] H2 fun a10 H10 E10 =>
      endB false false n a10 H10 (E10 ++ (E2 ++ (E1 ++ [])))))
    ((offA a1 0).bind fun a11 =>
    (loadA false 1 a11 H2).bind fun a12 =>
    (binA .eql (Go.TypeDesc.int Go.IntKind.i64) (cmpT Tryd.prog) true a12 (.int .i64 2)).bind fun a13 =>
    splitK a13
      ((loadA false 1 a2 H2).bind fun a14 =>
      (binA .lss (Go.TypeDesc.int Go.IntKind.i64) (cmpT Tryd.prog) true a14 (.int .i64 1)).bind fun a15 =>
      condK a15
        (endB false false n (.bool true) H2 (E2 ++ (E1 ++ [])))
        ((offA a1 4).bind fun a16 =>
        (loadA false 1 a16 H2).bind fun a17 =>
        callK (EV C) false n_ContainsFunc_api_Tree [a17, (.clo n_tree_deep_1 [] [a2])] H2 fun a18 H18 E18 =>
        endB false false n a18 H18 (E18 ++ (E2 ++ (E1 ++ [])))))
      ((offA a1 4).bind fun a19 =>
      (loadA false 1 a19 H2).bind fun a20 =>
      (lenV a20 H2).bind fun a21 =>
      (binA .gtr (Go.TypeDesc.int Go.IntKind.i64) (cmpT Tryd.prog) true a21 (.int .i64 0)).bind fun a22 =>
      splitK a22
        ((loadA false 1 a2 H2).bind fun a23 =>
        (binA .lss (Go.TypeDesc.int Go.IntKind.i64) (cmpT Tryd.prog) true a23 (.int .i64 1)).bind fun a24 =>
        condK a24
          (endB false false n (.bool true) H2 (E2 ++ (E1 ++ [])))
          ((offA a1 4).bind fun a25 =>
          (loadA false 1 a25 H2).bind fun a26 =>
          callK (EV C) false n_ContainsFunc_api_Tree [a26, (.clo n_tree_deep_1 [] [a2])] H2 fun a27 H27 E27 =>
          endB false false n a27 H27 (E27 ++ (E2 ++ (E1 ++ [])))))
        ((offA a1 4).bind fun a28 =>
        (loadA false 1 a28 H2).bind fun a29 =>
        callK (EV C) false n_ContainsFunc_api_Tree [a29, (.clo n_tree_deep_1 [] [a2])] H2 fun a30 H30 E30 =>
        endB false false n a30 H30 (E30 ++ (E2 ++ (E1 ++ [])))))))) (List.length H) = some r) : EV C n_tree_deep [x0, x1] H = some r :=
  EV_of_fnK' (fn := Tryd.f97) (by kernel_rfl) (by kernel_rfl) (by kernel_rfl) hh
theorem tree_formed_of {r : R3} {x0 : AV} {H : List AObj} (hh : (fun n => (
  newK x0 H fun a1 H1 E1 =>
  (offA a1 0).bind fun a2 =>
  (loadA false 1 a2 H1).bind fun a3 =>
  (binA .eql (Go.TypeDesc.int Go.IntKind.i64) (cmpT Tryd.prog) true a3 (.int .i64 0)).bind fun a4 =>
  condK a4
    ((offA a1 1).bind fun a5 =>
    (loadA false 1 a5 H1).bind fun a6 =>
    (lenV a6 H1).bind fun a7 =>
    (offA a1 2).bind fun a8 =>
    (loadA false 1 a8 H1).bind fun a9 =>
    (lenV a9 H1).bind fun a10 =>
    (binA .add (Go.TypeDesc.int Go.IntKind.i64) (cmpT Tryd.prog) false a7 a10).bind fun a11 =>
    (offA a1 3).bind fun a12 =>
    (loadA false 1 a12 H1).bind fun a13 =>
    (lenV a13 H1).bind fun a14 =>
    (binA .add (Go.TypeDesc.int Go.IntKind.i64) (cmpT Tryd.prog) false a11 a14).bind fun a15 =>
    (offA a1 4).bind fun a16 =>
    (loadA false 1 a16 H1).bind fun a17 =>
    (lenV a17 H1).bind fun a18 =>
    (binA .add (Go.TypeDesc.int Go.IntKind.i64) (cmpT Tryd.prog) false a15 a18).bind fun a19 =>
    (binA .eql (Go.TypeDesc.int Go.IntKind.i64) (cmpT Tryd.prog) true a19 (.int .i64 0)).bind fun a20 =>
    splitK a20
      ((offA a1 4).bind fun a21 =>
      (loadA false 1 a21 H1).bind fun a22 =>
      callK (EV C) false n_ContainsFunc_api_Tree [a22, (.clo n_tree_formed_1 [] [])] H1 fun a23 H23 E23 =>
      (unA .not a23).bind fun a24 =>
      endB false false n a24 H23 (E23 ++ (E1 ++ [])))
      (endB false false n (.bool false) H1 (E1 ++ [])))
    ((binA .eql (Go.TypeDesc.int Go.IntKind.i64) (cmpT Tryd.prog) true a3 (.int .i64 1)).bind fun a25 =>
    condK a25
      ((offA a1 1).bind fun a26 =>
      (loadA false 1 a26 H1).bind fun a27 =>
      (lenV a27 H1).bind fun a28 =>
      (binA .leq (Go.TypeDesc.int Go.IntKind.i64) (cmpT Tryd.prog) true a28 (.int .i64 80)).bind fun a29 =>
      splitK a29
        ((offA a1 2).bind fun a30 =>
        (loadA false 1 a30 H1).bind fun a31 =>
        (lenV a31 H1).bind fun a32 =>
        (binA .leq (Go.TypeDesc.int Go.IntKind.i64) (cmpT Tryd.prog) true a32 (.int .i64 1024)).bind fun a33 =>
        splitK a33
          ((offA a1 3).bind fun a34 =>
          (loadA false 1 a34 H1).bind fun a35 =>
          (lenV a35 H1).bind fun a36 =>
          (binA .eql (Go.TypeDesc.int Go.IntKind.i64) (cmpT Tryd.prog) true a36 (.int .i64 0)).bind fun a37 =>
          splitK a37
            ((offA a1 4).bind fun a38 =>
            (loadA false 1 a38 H1).bind fun a39 =>
            (lenV a39 H1).bind fun a40 =>
            (binA .eql (Go.TypeDesc.int Go.IntKind.i64) (cmpT Tryd.prog) true a40 (.int .i64 2)).bind fun a41 =>
            splitK a41
              ((offA a1 4).bind fun a42 =>
              (loadA false 1 a42 H1).bind fun a43 =>
              callK (EV C) false n_ContainsFunc_api_Tree [a43, (.clo n_tree_formed_1 [] [])] H1 fun a44 H44 E44 =>
              (unA .not a44).bind fun a45 =>
              endB false false n a45 H44 (E44 ++ (E1 ++ [])))
              (endB false false n (.bool false) H1 (E1 ++ [])))
            (endB false false n (.bool false) H1 (E1 ++ [])))
          (endB false false n (.bool false) H1 (E1 ++ [])))
        (endB false false n (.bool false) H1 (E1 ++ [])))
      ((binA .eql (Go.TypeDesc.int Go.IntKind.i64) (cmpT Tryd.prog) true a3 (.int .i64 2)).bind fun a46 =>
      condK a46
        ((offA a1 1).bind fun a47 =>
        (loadA false 1 a47 H1).bind fun a48 =>
        (lenV a48 H1).bind fun a49 =>
        (binA .leq (Go.TypeDesc.int Go.IntKind.i64) (cmpT Tryd.prog) true a49 (.int .i64 80)).bind fun a50 =>
        splitK a50
          ((offA a1 2).bind fun a51 =>
          (loadA false 1 a51 H1).bind fun a52 =>
          (lenV a52 H1).bind fun a53 =>
          (binA .eql (Go.TypeDesc.int Go.IntKind.i64) (cmpT Tryd.prog) true a53 (.int .i64 0)).bind fun a54 =>
          splitK a54
            ((offA a1 4).bind fun a55 =>
            (loadA false 1 a55 H1).bind fun a56 =>
            (lenV a56 H1).bind fun a57 =>
            (binA .eql (Go.TypeDesc.int Go.IntKind.i64) (cmpT Tryd.prog) true a57 (.int .i64 2)).bind fun a58 =>
            splitK a58
              ((offA a1 4).bind fun a59 =>
              (loadA false 1 a59 H1).bind fun a60 =>
              callK (EV C) false n_ContainsFunc_api_Tree [a60, (.clo n_tree_formed_1 [] [])] H1 fun a61 H61 E61 =>
              (unA .not a61).bind fun a62 =>
              endB false false n a62 H61 (E61 ++ (E1 ++ [])))
              (endB false false n (.bool false) H1 (E1 ++ [])))
            (endB false false n (.bool false) H1 (E1 ++ [])))
          (endB false false n (.bool false) H1 (E1 ++ [])))
        ((binA .eql (Go.TypeDesc.int Go.IntKind.i64) (cmpT Tryd.prog) true a3 (.int .i64 3)).bind fun a63 =>
        condK a63
          ((offA a1 1).bind fun a64 =>
          (loadA false 1 a64 H1).bind fun a65 =>
          (lenV a65 H1).bind fun a66 =>
          (offA a1 2).bind fun a67 =>
          (loadA false 1 a67 H1).bind fun a68 =>
          (lenV a68 H1).bind fun a69 =>
          (binA .add (Go.TypeDesc.int Go.IntKind.i64) (cmpT Tryd.prog) false a66 a69).bind fun a70 =>
          (offA a1 4).bind fun a71 =>
          (loadA false 1 a71 H1).bind fun a72 =>
          (lenV a72 H1).bind fun a73 =>
          (binA .add (Go.TypeDesc.int Go.IntKind.i64) (cmpT Tryd.prog) false a70 a73).bind fun a74 =>
          (binA .eql (Go.TypeDesc.int Go.IntKind.i64) (cmpT Tryd.prog) true a74 (.int .i64 0)).bind fun a75 =>
          splitK a75
            ((offA a1 4).bind fun a76 =>
            (loadA false 1 a76 H1).bind fun a77 =>
            callK (EV C) false n_ContainsFunc_api_Tree [a77, (.clo n_tree_formed_1 [] [])] H1 fun a78 H78 E78 =>
            (unA .not a78).bind fun a79 =>
            endB false false n a79 H78 (E78 ++ (E1 ++ [])))
            (endB false false n (.bool false) H1 (E1 ++ [])))
          (endB false false n (.bool false) H1 (E1 ++ []))))))) (List.length H) = some r) : EV C n_tree_formed [x0] H = some r :=
  EV_of_fnK' (fn := Tryd.f98) (by kernel_rfl) (by kernel_rfl) (by kernel_rfl) hh
theorem digest_Of_of {r : R3} {x0 x1 : AV} {H : List AObj} (hh : (fun n => (
  callK (EV C) false n_digest_width [x0] H fun a1 H1 E1 =>
  (unA .not a1).bind fun a2 =>
  condK a2
    (endB false false n (.tup [.nils, (.ifc t_api_Code (.int .i64 1))]) H1 (E1 ++ []))
    (callK (EV C) false n_sha_Sum [x1] H1 fun a3 H3 E3 =>
    (cutA 1 a3 none (some x0) none H3).bind fun a4 =>
    callK (EV C) false n_Clone_byte [a4] H3 fun a5 H5 E5 =>
    endB false false n (.tup [a5, .nili]) H5 (E5 ++ (E3 ++ (E1 ++ [])))))) (List.length H) = some r) : EV C n_digest_Of [x0, x1] H = some r :=
  EV_of_fnK' (fn := Tryd.f99) (by kernel_rfl) (by kernel_rfl) (by kernel_rfl) hh
theorem digest_None_of {r : R3} {H : List AObj} (hh : (fun n => (
  litK 1 1 (.int .u8 0) [(0, (.int .u8 3))] H fun a1 H1 E1 =>
  endB false false n a1 H1 (E1 ++ []))) (List.length H) = some r) : EV C n_digest_None [] H = some r :=
  EV_of_fnK' (fn := Tryd.f100) (by kernel_rfl) (by kernel_rfl) (by kernel_rfl) hh
theorem digest_Value_of {r : R3} {x0 : AV} {H : List AObj} (hh : (fun n => (
  rawK 1 1 (.int .u8 0) [(0, (.int .u8 0))] H fun a1 H1 E1 =>
  appK 1 1 a1 x0 H1 fun a2 H2 E2 =>
  endB false false n a2 H2 (E2 ++ (E1 ++ [])))) (List.length H) = some r) : EV C n_digest_Value [x0] H = some r :=
  EV_of_fnK' (fn := Tryd.f101) (by kernel_rfl) (by kernel_rfl) (by kernel_rfl) hh
theorem digest_Pair_of {r : R3} {x0 x1 x2 : AV} {H : List AObj} (hh : (fun n => (
  callK (EV C) false n_digest_width [x0] H fun a1 H1 E1 =>
  (unA .not a1).bind fun a2 =>
  splitK a2
    (endB false false n (.tup [.nils, (.ifc t_api_Code (.int .i64 1))]) H1 (E1 ++ []))
    ((lenV x2 H1).bind fun a3 =>
    (binA .neq (Go.TypeDesc.int Go.IntKind.i64) (cmpT Tryd.prog) false a3 x0).bind fun a4 =>
    condK a4
      (endB false false n (.tup [.nils, (.ifc t_api_Code (.int .i64 1))]) H1 (E1 ++ []))
      (litK 1 1 (.int .u8 0) [(0, (.int .u8 1))] H1 fun a5 H5 E5 =>
      callK (EV C) false n_coder_Bytes [x1] H5 fun a6 H6 E6 =>
      litK 1 3 .nils [(0, a5), (1, a6), (2, x2)] H6 fun a7 H7 E7 =>
      callK (EV C) false n_Concat_byte [a7] H7 fun a8 H8 E8 =>
      endB false false n (.tup [a8, .nili]) H8 (E8 ++ (E7 ++ (E6 ++ (E5 ++ (E1 ++ []))))))))) (List.length H) = some r) : EV C n_digest_Pair [x0, x1, x2] H = some r :=
  EV_of_fnK' (fn := Tryd.f102) (by kernel_rfl) (by kernel_rfl) (by kernel_rfl) hh
theorem tree_of_of {r : R3} {x0 x1 x2 : AV} {H : List AObj} (hh : (fun n => (
  (binA .neq (Go.TypeDesc.interface #[("Error", 202)]) (cmpT Tryd.prog) true x2 .nili).bind fun a1 =>
  condK a1
    (endB false false n (.tup [.nils, (.ifc t_api_Code (.int .i64 3))]) H [])
    (callK (EV C) false n_digest_Of [x0, x1] H fun a2 H2 E2 =>
    (extA a2 0).bind fun a3 =>
    (extA a2 1).bind fun a4 =>
    endB false false n (.tup [a3, a4]) H2 (E2 ++ [])))) (List.length H) = some r) : EV C n_tree_of [x0, x1, x2] H = some r :=
  EV_of_fnK' (fn := Tryd.f103) (by kernel_rfl) (by kernel_rfl) (by kernel_rfl) hh
theorem digest_Node_of {r : R3} {x0 x1 x2 x3 : AV} {H : List AObj} (hh : (fun n => (
  callK (EV C) false n_digest_width [x0] H fun a1 H1 E1 =>
  (unA .not a1).bind fun a2 =>
  splitK a2
    (endB false false n (.tup [.nils, (.ifc t_api_Code (.int .i64 1))]) H1 (E1 ++ []))
    ((lenV x1 H1).bind fun a3 =>
    (binA .neq (Go.TypeDesc.int Go.IntKind.i64) (cmpT Tryd.prog) false a3 x0).bind fun a4 =>
    splitK a4
      (endB false false n (.tup [.nils, (.ifc t_api_Code (.int .i64 1))]) H1 (E1 ++ []))
      ((lenV x2 H1).bind fun a5 =>
      (binA .neq (Go.TypeDesc.int Go.IntKind.i64) (cmpT Tryd.prog) false a5 x0).bind fun a6 =>
      splitK a6
        (endB false false n (.tup [.nils, (.ifc t_api_Code (.int .i64 1))]) H1 (E1 ++ []))
        ((lenV x3 H1).bind fun a7 =>
        (binA .neq (Go.TypeDesc.int Go.IntKind.i64) (cmpT Tryd.prog) false a7 x0).bind fun a8 =>
        condK a8
          (endB false false n (.tup [.nils, (.ifc t_api_Code (.int .i64 1))]) H1 (E1 ++ []))
          (litK 1 1 (.int .u8 0) [(0, (.int .u8 2))] H1 fun a9 H9 E9 =>
          litK 1 4 .nils [(0, a9), (1, x1), (2, x2), (3, x3)] H9 fun a10 H10 E10 =>
          callK (EV C) false n_Concat_byte [a10] H10 fun a11 H11 E11 =>
          endB false false n (.tup [a11, .nili]) H11 (E11 ++ (E10 ++ (E9 ++ (E1 ++ [])))))))))) (List.length H) = some r) : EV C n_digest_Node [x0, x1, x2, x3] H = some r :=
  EV_of_fnK' (fn := Tryd.f104) (by kernel_rfl) (by kernel_rfl) (by kernel_rfl) hh
theorem coder_Bytes_of {r : R3} {x0 : AV} {H : List AObj} (hh : (fun n => (
  (lenV x0 H).bind fun a1 =>
  (cvI .u64 a1).bind fun a2 =>
  callK (EV C) true n_coder_Number_r [a2] H fun a3 H3 E3 =>
  appK 1 1 a3 x0 H3 fun a4 H4 E4 =>
  endB false false n a4 H4 (E4 ++ (E3 ++ [])))) (List.length H) = some r) : EV C n_coder_Bytes [x0] H = some r :=
  EV_of_fnK' (fn := Tryd.f106) (by kernel_rfl) (by kernel_rfl) (by kernel_rfl) hh
theorem coder_Reader_take_of {r : R3} {x0 x1 : AV} {H : List AObj} (hh : (fun n => (
  (nilA x0).bind fun a1 =>
  (offA a1 1).bind fun a2 =>
  (loadA false 1 a2 H).bind fun a3 =>
  splitK a3
    ((nilA x0).bind fun a4 =>
    (offA a4 1).bind fun a5 =>
    stoK 1 a5 (.bool true) H fun H6 E6 =>
    endB false false n .nils H6 (E6 ++ []))
    ((nilA x0).bind fun a7 =>
    (offA a7 0).bind fun a8 =>
    (loadA false 1 a8 H).bind fun a9 =>
    (lenV a9 H).bind fun a10 =>
    (binA .gtr (Go.TypeDesc.int Go.IntKind.i64) (cmpT Tryd.prog) false x1 a10).bind fun a11 =>
    condK a11
      ((nilA x0).bind fun a12 =>
      (offA a12 1).bind fun a13 =>
      stoK 1 a13 (.bool true) H fun H14 E14 =>
      endB false false n .nils H14 (E14 ++ []))
      ((nilA x0).bind fun a15 =>
      (offA a15 0).bind fun a16 =>
      (loadA false 1 a16 H).bind fun a17 =>
      (cutA 1 a17 none (some x1) (some x1) H).bind fun a18 =>
      (nilA x0).bind fun a19 =>
      (offA a19 0).bind fun a20 =>
      (loadA false 1 a20 H).bind fun a21 =>
      (cutA 1 a21 (some x1) none none H).bind fun a22 =>
      (nilA x0).bind fun a23 =>
      (offA a23 0).bind fun a24 =>
      stoK 1 a24 a22 H fun H25 E25 =>
      endB false false n a18 H25 (E25 ++ []))))) (List.length H) = some r) : EV C n_coder_Reader_take [x0, x1] H = some r :=
  EV_of_fnK' (fn := Tryd.f110) (by kernel_rfl) (by kernel_rfl) (by kernel_rfl) hh
noncomputable def coder_Reader_Number_J7 (n : Nat) (t0 t4 t5 t19 t20 t21 : AV) (H : List AObj) (E : List Nat) : Option R3 :=
  loopK Tryd.prog C.G (EV C) (C.hint 111) Tryd.f111 (cAt (bodyOf Tryd.f111) [1, 1, 1, 1, 1, 0, 1, 0, 0]) (kAt Tryd.prog C.G (EV C) (C.hint 111) Tryd.f111 (bodyOf Tryd.f111) [1, 1, 1, 1, 1, 0, 1, 0] [] (endK Tryd.prog (C.hint 111) Tryd.f111 n))
    ⟨pat 48 [(0, t0), (4, t4), (5, t5), (19, t19), (20, t20), (21, t21)], H, E⟩
theorem coder_Reader_Number_J7_of {r : R3} {n : Nat} {t0 t4 t5 t19 t20 t21 : AV} {H : List AObj} {E : List Nat} (hh : (
  (binA .lss (Go.TypeDesc.int Go.IntKind.i64) (cmpT Tryd.prog) false t21 t20).bind fun a1 =>
  condK a1
    ((ixA 1 t19 t21 H).bind fun a2 =>
    (loadA false 1 a2 H).bind fun a3 =>
    (binA .shl (Go.TypeDesc.int Go.IntKind.u64) (cmpT Tryd.prog) true t5 (.int .u64 8)).bind fun a4 =>
    (cvI .u64 a3).bind fun a5 =>
    (binA .or (Go.TypeDesc.int Go.IntKind.u64) (cmpT Tryd.prog) false a4 a5).bind fun a6 =>
    (binA .add (Go.TypeDesc.int Go.IntKind.i64) (cmpT Tryd.prog) true t21 (.int .i64 1)).bind fun a7 =>
    coder_Reader_Number_J7 n t0 t4 a6 t19 t20 a7 H E)
    ((lenV t4 H).bind fun a8 =>
    (binA .eql (Go.TypeDesc.int Go.IntKind.i64) (cmpT Tryd.prog) true a8 (.int .i64 0)).bind fun a9 =>
    splitK a9
      ((nilA t0).bind fun a10 =>
      (offA a10 1).bind fun a11 =>
      stoK 1 a11 (.bool true) H fun H12 E12 =>
      endB false false n (.int .u64 0) H12 (E12 ++ E))
      ((ixA 1 t4 (.int .i64 0) H).bind fun a13 =>
      (loadA false 1 a13 H).bind fun a14 =>
      (binA .eql (Go.TypeDesc.int Go.IntKind.u8) (cmpT Tryd.prog) true a14 (.int .u8 0)).bind fun a15 =>
      splitK a15
        ((nilA t0).bind fun a16 =>
        (offA a16 1).bind fun a17 =>
        stoK 1 a17 (.bool true) H fun H18 E18 =>
        endB false false n (.int .u64 0) H18 (E18 ++ E))
        ((binA .leq (Go.TypeDesc.int Go.IntKind.u64) (cmpT Tryd.prog) true t5 (.int .u64 247)).bind fun a19 =>
        condK a19
          ((nilA t0).bind fun a20 =>
          (offA a20 1).bind fun a21 =>
          stoK 1 a21 (.bool true) H fun H22 E22 =>
          endB false false n (.int .u64 0) H22 (E22 ++ E))
          (endB false false n t5 H E))))) = some r) : coder_Reader_Number_J7 n t0 t4 t5 t19 t20 t21 H E = some r :=
  loop_step' (by kernel_rfl) hh
theorem coder_Reader_Number_of {r : R3} {x0 : AV} {H : List AObj} (hh : (fun n => (
  callK (EV C) false n_coder_Reader_Byte [x0] H fun a1 H1 E1 =>
  (binA .leq (Go.TypeDesc.int Go.IntKind.u8) (cmpT Tryd.prog) true a1 (.int .u8 247)).bind fun a2 =>
  condK a2
    ((cvI .u64 a1).bind fun a3 =>
    endB false false n a3 H1 (E1 ++ []))
    ((cvI .i64 a1).bind fun a4 =>
    (binA .sub (Go.TypeDesc.int Go.IntKind.i64) (cmpT Tryd.prog) true a4 (.int .i64 247)).bind fun a5 =>
    callK (EV C) false n_coder_Reader_take [x0, a5] H1 fun a6 H6 E6 =>
    (lenV a6 H6).bind fun a7 =>
    coder_Reader_Number_J7 n x0 a6 (.int .u64 0) a6 a7 (.int .i64 0) H6 (E6 ++ (E1 ++ []))))) (List.length H) = some r) : EV C n_coder_Reader_Number [x0] H = some r :=
  EV_of_fnK' (fn := Tryd.f111) (by kernel_rfl) (by kernel_rfl) (by kernel_rfl) hh
theorem tree_List_1_of {r : R3} {x0 x1 x2 : AV} {H : List AObj} (hh : (fun n => (
  newK x0 H fun a1 H1 E1 =>
  (offA a1 4).bind fun a2 =>
  (loadA false 1 a2 H1).bind fun a3 =>
  (lenV a3 H1).bind fun a4 =>
  (binA .eql (Go.TypeDesc.int Go.IntKind.i64) (cmpT Tryd.prog) true a4 (.int .i64 0)).bind fun a5 =>
  condK a5
    (endB false true n (.tup []) H1 (E1 ++ []))
    ((loadA false 1 x1 H1).bind fun a6 =>
    (offA a1 4).bind fun a7 =>
    (loadA false 1 a7 H1).bind fun a8 =>
    (ixA 5 a8 (.int .i64 0) H1).bind fun a9 =>
    (loadA true 5 a9 H1).bind fun a10 =>
    valK Tryd.prog (EV C) false a6 [a10] H1 fun a11 H11 E11 =>
    drawK (SwapOk Tryd.prog C.G (EV C) (C.hint 112) 3 (opsOf Tryd.f112 3) ⟨[x0, x1, x2, a1, a2, a3, a4, (.bool false), a6, a7, a8, a9, a10, a11, (.tup []), (.tup []), (.tup []), (.tup []), (.tup []), (.tup []), (.tup []), (.tup []), (.tup []), (.tup []), (.tup []), (.tup [])], H11, (E11 ++ (E1 ++ []))⟩)
    ((loadA false 1 x2 H11).bind fun a12 =>
      (loadA true 5 a1 H11).bind fun a13 =>
      (lenV a12 H11).bind fun a14 =>
      litK 5 1 (.agg [(.int .i64 0), .nils, .nils, .nils, .nils]) [(0, (.agg [(.int .i64 0), .nils, .nils, .nils, .nils]))] H11 fun a15 H15 E15 =>
      appK 5 104 a12 a15 H15 fun a16 H16 E16 =>
      (ixA 5 a16 a14 H16).bind fun a17 =>
      stoK 5 a17 a13 H16 fun H18 E18 =>
      stoK 1 x2 a16 H18 fun H19 E19 =>
      (loadA false 1 x1 H19).bind fun a20 =>
      (offA a1 4).bind fun a21 =>
      (loadA false 1 a21 H19).bind fun a22 =>
      (ixA 5 a22 (.int .i64 1) H19).bind fun a23 =>
      (loadA true 5 a23 H19).bind fun a24 =>
      valK Tryd.prog (EV C) false a20 [a24] H19 fun a25 H25 E25 =>
      endB false true n (.tup []) H25 (E25 ++ (E19 ++ (E18 ++ (E16 ++ (E15 ++ (E11 ++ (E1 ++ []))))))))))) (List.length H) = some r) : EV C n_tree_List_1 [x0, x1, x2] H = some r :=
  EV_of_fnK' (fn := Tryd.f112) (by kernel_rfl) (by kernel_rfl) (by kernel_rfl) hh
theorem tree_full_of {r : R3} {x0 : AV} {H : List AObj} (hh : (fun n => (
  newK x0 H fun a1 H1 E1 =>
  (offA a1 0).bind fun a2 =>
  (loadA false 1 a2 H1).bind fun a3 =>
  (binA .eql (Go.TypeDesc.int Go.IntKind.i64) (cmpT Tryd.prog) true a3 (.int .i64 2)).bind fun a4 =>
  splitK a4
    (endB false false n (.bool false) H1 (E1 ++ []))
    ((offA a1 0).bind fun a5 =>
    (loadA false 1 a5 H1).bind fun a6 =>
    (binA .eql (Go.TypeDesc.int Go.IntKind.i64) (cmpT Tryd.prog) true a6 (.int .i64 3)).bind fun a7 =>
    condK a7
      (endB false false n (.bool false) H1 (E1 ++ []))
      ((offA a1 4).bind fun a8 =>
      (loadA false 1 a8 H1).bind fun a9 =>
      callK (EV C) false n_ContainsFunc_api_Tree [a9, (.clo n_tree_full_1 [] [])] H1 fun a10 H10 E10 =>
      (unA .not a10).bind fun a11 =>
      endB false false n a11 H10 (E10 ++ (E1 ++ [])))))) (List.length H) = some r) : EV C n_tree_full [x0] H = some r :=
  EV_of_fnK' (fn := Tryd.f118) (by kernel_rfl) (by kernel_rfl) (by kernel_rfl) hh
theorem ref05_tilt_of {r : R3} {x0 : AV} {H : List AObj} (hh : (fun n => (
  newK x0 H fun a1 H1 E1 =>
  (offA a1 4).bind fun a2 =>
  (loadA false 1 a2 H1).bind fun a3 =>
  (ixA 5 a3 (.int .i64 0) H1).bind fun a4 =>
  (loadA true 5 a4 H1).bind fun a5 =>
  (callD (EV C) n_ref04_Depth [a5] H1).bind fun a6 =>
  (offA a1 4).bind fun a7 =>
  (loadA false 1 a7 H1).bind fun a8 =>
  (ixA 5 a8 (.int .i64 1) H1).bind fun a9 =>
  (loadA true 5 a9 H1).bind fun a10 =>
  (callD (EV C) n_ref04_Depth [a10] H1).bind fun a11 =>
  (binA .sub (Go.TypeDesc.int Go.IntKind.i64) (cmpT Tryd.prog) false a6 a11).bind fun a12 =>
  endB false false n a12 H1 (E1 ++ []))) (List.length H) = some r) : EV C n_ref05_tilt [x0] H = some r :=
  EV_of_fnK' (fn := Tryd.f119) (by kernel_rfl) (by kernel_rfl) (by kernel_rfl) hh
theorem ref05_left_of {r : R3} {x0 : AV} {H : List AObj} (hh : (fun n => (
  newK x0 H fun a1 H1 E1 =>
  newK (.agg [(.int .i64 0), .nils, .nils, .nils, .nils]) H1 fun a2 H2 E2 =>
  (offA a1 4).bind fun a3 =>
  (loadA false 1 a3 H2).bind fun a4 =>
  (ixA 5 a4 (.int .i64 1) H2).bind fun a5 =>
  (loadA true 5 a5 H2).bind fun a6 =>
  newK (.agg [(.int .i64 0), .nils, .nils, .nils, .nils]) H2 fun a7 H7 E7 =>
  stoK 5 a7 a6 H7 fun H8 E8 =>
  (offA a1 4).bind fun a9 =>
  (loadA false 1 a9 H8).bind fun a10 =>
  (ixA 5 a10 (.int .i64 0) H8).bind fun a11 =>
  (loadA true 5 a11 H8).bind fun a12 =>
  (offA a1 1).bind fun a13 =>
  (loadA false 1 a13 H8).bind fun a14 =>
  (offA a1 2).bind fun a15 =>
  (loadA false 1 a15 H8).bind fun a16 =>
  (offA a7 4).bind fun a17 =>
  (loadA false 1 a17 H8).bind fun a18 =>
  (ixA 5 a18 (.int .i64 0) H8).bind fun a19 =>
  (loadA true 5 a19 H8).bind fun a20 =>
  (callD (EV C) n_ref05_Node [a12, a14, a16, a20] H8).bind fun a21 =>
  (offA a7 1).bind fun a22 =>
  (loadA false 1 a22 H8).bind fun a23 =>
  (offA a7 2).bind fun a24 =>
  (loadA false 1 a24 H8).bind fun a25 =>
  (offA a7 4).bind fun a26 =>
  (loadA false 1 a26 H8).bind fun a27 =>
  (ixA 5 a27 (.int .i64 1) H8).bind fun a28 =>
  (loadA true 5 a28 H8).bind fun a29 =>
  (callD (EV C) n_ref05_Node [a21, a23, a25, a29] H8).bind fun a30 =>
  stoK 5 a2 a30 H8 fun H31 E31 =>
  (loadA true 5 a2 H31).bind fun a32 =>
  endB false false n a32 H31 (E31 ++ (E8 ++ (E7 ++ (E2 ++ (E1 ++ []))))))) (List.length H) = some r) : EV C n_ref05_left [x0] H = some r :=
  EV_of_fnK' (fn := Tryd.f120) (by kernel_rfl) (by kernel_rfl) (by kernel_rfl) hh
theorem ref05_right_of {r : R3} {x0 : AV} {H : List AObj} (hh : (fun n => (
  newK x0 H fun a1 H1 E1 =>
  newK (.agg [(.int .i64 0), .nils, .nils, .nils, .nils]) H1 fun a2 H2 E2 =>
  (offA a1 4).bind fun a3 =>
  (loadA false 1 a3 H2).bind fun a4 =>
  (ixA 5 a4 (.int .i64 0) H2).bind fun a5 =>
  (loadA true 5 a5 H2).bind fun a6 =>
  newK (.agg [(.int .i64 0), .nils, .nils, .nils, .nils]) H2 fun a7 H7 E7 =>
  stoK 5 a7 a6 H7 fun H8 E8 =>
  (offA a7 4).bind fun a9 =>
  (loadA false 1 a9 H8).bind fun a10 =>
  (ixA 5 a10 (.int .i64 0) H8).bind fun a11 =>
  (loadA true 5 a11 H8).bind fun a12 =>
  (offA a7 1).bind fun a13 =>
  (loadA false 1 a13 H8).bind fun a14 =>
  (offA a7 2).bind fun a15 =>
  (loadA false 1 a15 H8).bind fun a16 =>
  (offA a7 4).bind fun a17 =>
  (loadA false 1 a17 H8).bind fun a18 =>
  (ixA 5 a18 (.int .i64 1) H8).bind fun a19 =>
  (loadA true 5 a19 H8).bind fun a20 =>
  (offA a1 1).bind fun a21 =>
  (loadA false 1 a21 H8).bind fun a22 =>
  (offA a1 2).bind fun a23 =>
  (loadA false 1 a23 H8).bind fun a24 =>
  (offA a1 4).bind fun a25 =>
  (loadA false 1 a25 H8).bind fun a26 =>
  (ixA 5 a26 (.int .i64 1) H8).bind fun a27 =>
  (loadA true 5 a27 H8).bind fun a28 =>
  (callD (EV C) n_ref05_Node [a20, a22, a24, a28] H8).bind fun a29 =>
  (callD (EV C) n_ref05_Node [a12, a14, a16, a29] H8).bind fun a30 =>
  stoK 5 a2 a30 H8 fun H31 E31 =>
  (loadA true 5 a2 H31).bind fun a32 =>
  endB false false n a32 H31 (E31 ++ (E8 ++ (E7 ++ (E2 ++ (E1 ++ []))))))) (List.length H) = some r) : EV C n_ref05_right [x0] H = some r :=
  EV_of_fnK' (fn := Tryd.f121) (by kernel_rfl) (by kernel_rfl) (by kernel_rfl) hh
theorem command_Write_of {r : R3} {x0 : AV} {H : List AObj} (hh : (fun n => (
  newK x0 H fun a1 H1 E1 =>
  (offA a1 2).bind fun a2 =>
  (loadA false 1 a2 H1).bind fun a3 =>
  (binA .eql (Go.TypeDesc.int Go.IntKind.i64) (cmpT Tryd.prog) true a3 (.int .i64 1)).bind fun a4 =>
  (unA .not a4).bind fun a5 =>
  splitK a5
    ((offA a1 2).bind fun a6 =>
    (loadA false 1 a6 H1).bind fun a7 =>
    (binA .neq (Go.TypeDesc.int Go.IntKind.i64) (cmpT Tryd.prog) true a7 (.int .i64 2)).bind fun a8 =>
    splitK a8
      (endB false false n (.tup [.nils, (.ifc t_api_Code (.int .i64 1))]) H1 (E1 ++ []))
      ((offA a1 4).bind fun a9 =>
      (loadA false 1 a9 H1).bind fun a10 =>
      (lenV a10 H1).bind fun a11 =>
      (binA .gtr (Go.TypeDesc.int Go.IntKind.i64) (cmpT Tryd.prog) true a11 (.int .i64 0)).bind fun a12 =>
      splitK a12
        (endB false false n (.tup [.nils, (.ifc t_api_Code (.int .i64 1))]) H1 (E1 ++ []))
        ((offA a1 3).bind fun a13 =>
        (loadA false 1 a13 H1).bind fun a14 =>
        (lenV a14 H1).bind fun a15 =>
        (binA .gtr (Go.TypeDesc.int Go.IntKind.i64) (cmpT Tryd.prog) true a15 (.int .i64 64)).bind fun a16 =>
        splitK a16
          (endB false false n (.tup [.nils, (.ifc t_api_Code (.int .i64 1))]) H1 (E1 ++ []))
          ((offA a1 4).bind fun a17 =>
          (loadA false 1 a17 H1).bind fun a18 =>
          (lenV a18 H1).bind fun a19 =>
          (binA .gtr (Go.TypeDesc.int Go.IntKind.i64) (cmpT Tryd.prog) true a19 (.int .i64 1024)).bind fun a20 =>
          condK a20
            (endB false false n (.tup [.nils, (.ifc t_api_Code (.int .i64 1))]) H1 (E1 ++ []))
            ((offA a1 0).bind fun a21 =>
            (loadA false 1 a21 H1).bind fun a22 =>
            (callD (EV C) n_coder_Number [a22] H1).bind fun a23 =>
            (offA a1 1).bind fun a24 =>
            (loadA false 1 a24 H1).bind fun a25 =>
            (callD (EV C) n_coder_Number [a25] H1).bind fun a26 =>
            (offA a1 2).bind fun a27 =>
            (loadA false 1 a27 H1).bind fun a28 =>
            (cvI .u8 a28).bind fun a29 =>
            (litD 1 1 (.int .u8 0) [(0, a29)] H1).bind fun a30 =>
            (offA a1 3).bind fun a31 =>
            (loadA false 1 a31 H1).bind fun a32 =>
            (callD (EV C) n_coder_Bytes [a32] H1).bind fun a33 =>
            (offA a1 4).bind fun a34 =>
            (loadA false 1 a34 H1).bind fun a35 =>
            (callD (EV C) n_coder_Bytes [a35] H1).bind fun a36 =>
            (litD 1 5 .nils [(0, a23), (1, a26), (2, a30), (3, a33), (4, a36)] H1).bind fun a37 =>
            (callD (EV C) n_Concat_byte [a37] H1).bind fun a38 =>
            endB false false n (.tup [a38, .nili]) H1 (E1 ++ []))))))
    ((offA a1 3).bind fun a39 =>
    (loadA false 1 a39 H1).bind fun a40 =>
    (lenV a40 H1).bind fun a41 =>
    (binA .gtr (Go.TypeDesc.int Go.IntKind.i64) (cmpT Tryd.prog) true a41 (.int .i64 64)).bind fun a42 =>
    splitK a42
      (endB false false n (.tup [.nils, (.ifc t_api_Code (.int .i64 1))]) H1 (E1 ++ []))
      ((offA a1 4).bind fun a43 =>
      (loadA false 1 a43 H1).bind fun a44 =>
      (lenV a44 H1).bind fun a45 =>
      (binA .gtr (Go.TypeDesc.int Go.IntKind.i64) (cmpT Tryd.prog) true a45 (.int .i64 1024)).bind fun a46 =>
      condK a46
        (endB false false n (.tup [.nils, (.ifc t_api_Code (.int .i64 1))]) H1 (E1 ++ []))
        ((offA a1 0).bind fun a47 =>
        (loadA false 1 a47 H1).bind fun a48 =>
        (callD (EV C) n_coder_Number [a48] H1).bind fun a49 =>
        (offA a1 1).bind fun a50 =>
        (loadA false 1 a50 H1).bind fun a51 =>
        (callD (EV C) n_coder_Number [a51] H1).bind fun a52 =>
        (offA a1 2).bind fun a53 =>
        (loadA false 1 a53 H1).bind fun a54 =>
        (cvI .u8 a54).bind fun a55 =>
        (litD 1 1 (.int .u8 0) [(0, a55)] H1).bind fun a56 =>
        (offA a1 3).bind fun a57 =>
        (loadA false 1 a57 H1).bind fun a58 =>
        (callD (EV C) n_coder_Bytes [a58] H1).bind fun a59 =>
        (offA a1 4).bind fun a60 =>
        (loadA false 1 a60 H1).bind fun a61 =>
        (callD (EV C) n_coder_Bytes [a61] H1).bind fun a62 =>
        (litD 1 5 .nils [(0, a49), (1, a52), (2, a56), (3, a59), (4, a62)] H1).bind fun a63 =>
        (callD (EV C) n_Concat_byte [a63] H1).bind fun a64 =>
        endB false false n (.tup [a64, .nili]) H1 (E1 ++ [])))))) (List.length H) = some r) : EV C n_command_Write [x0] H = some r :=
  EV_of_fnK' (fn := Tryd.f122) (by kernel_rfl) (by kernel_rfl) (by kernel_rfl) hh
noncomputable def avl_Get_J4 (n : Nat) (t1 t2 : AV) (H : List AObj) (E : List Nat) : Option R3 :=
  loopK Tryd.prog C.G (EV C) (C.hint 123) Tryd.f123 (cAt (bodyOf Tryd.f123) [1, 1, 0, 0, 0]) (kAt Tryd.prog C.G (EV C) (C.hint 123) Tryd.f123 (bodyOf Tryd.f123) [1, 1, 0, 0] [] (endK Tryd.prog (C.hint 123) Tryd.f123 n))
    ⟨pat 40 [(1, t1), (2, t2)], H, E⟩
theorem avl_Get_J4_of {r : R3} {n : Nat} {t1 t2 : AV} {H : List AObj} {E : List Nat} (hh : (
  (offA t2 4).bind fun a1 =>
  (loadA false 1 a1 H).bind fun a2 =>
  (lenV a2 H).bind fun a3 =>
  (binA .gtr (Go.TypeDesc.int Go.IntKind.i64) (cmpT Tryd.prog) true a3 (.int .i64 0)).bind fun a4 =>
  condK a4
    ((offA t2 1).bind fun a5 =>
    (loadA false 1 a5 H).bind fun a6 =>
    callK (EV C) false n_bytes_Compare [t1, a6] H fun a7 H7 E7 =>
    (binA .eql (Go.TypeDesc.int Go.IntKind.i64) (cmpT Tryd.prog) true a7 (.int .i64 0)).bind fun a8 =>
    condK a8
      ((offA t2 2).bind fun a9 =>
      (loadA false 1 a9 H7).bind fun a10 =>
      callK (EV C) false n_Clone_byte [a10] H7 fun a11 H11 E11 =>
      endB false false n (.tup [a11, (.bool true), .nili]) H11 ((E11 ++ (E7 ++ [])) ++ E))
      ((binA .lss (Go.TypeDesc.int Go.IntKind.i64) (cmpT Tryd.prog) true a7 (.int .i64 0)).bind fun a12 =>
      condK a12
        ((offA t2 4).bind fun a13 =>
        (loadA false 1 a13 H7).bind fun a14 =>
        (ixA 5 a14 (.int .i64 0) H7).bind fun a15 =>
        (loadA true 5 a15 H7).bind fun a16 =>
        stoK 5 t2 a16 H7 fun H17 E17 =>
        avl_Get_J4 n t1 t2 H17 ((E17 ++ (E7 ++ [])) ++ E))
        ((offA t2 4).bind fun a18 =>
        (loadA false 1 a18 H7).bind fun a19 =>
        (ixA 5 a19 (.int .i64 1) H7).bind fun a20 =>
        (loadA true 5 a20 H7).bind fun a21 =>
        stoK 5 t2 a21 H7 fun H22 E22 =>
        avl_Get_J4 n t1 t2 H22 ((E22 ++ (E7 ++ [])) ++ E))))
    (endB false false n (.tup [.nils, (.bool false), .nili]) H E)) = some r) : avl_Get_J4 n t1 t2 H E = some r :=
  loop_step' (by kernel_rfl) hh
theorem avl_Get_of {r : R3} {x0 x1 : AV} {H : List AObj} (hh : (fun n => (
  newK x0 H fun a1 H1 E1 =>
  (loadA true 5 a1 H1).bind fun a2 =>
  callK (EV C) false n_avl_asked [a2, x1, .nils] H1 fun a3 H3 E3 =>
  (binA .neq (Go.TypeDesc.interface #[("Error", 202)]) (cmpT Tryd.prog) true a3 .nili).bind fun a4 =>
  condK a4
    (endB false false n (.tup [.nils, (.bool false), a3]) H3 (E3 ++ (E1 ++ [])))
    (avl_Get_J4 n x1 a1 H3 (E3 ++ (E1 ++ []))))) (List.length H) = some r) : EV C n_avl_Get [x0, x1] H = some r :=
  EV_of_fnK' (fn := Tryd.f123) (by kernel_rfl) (by kernel_rfl) (by kernel_rfl) hh
theorem command_Key_of {r : R3} {x0 : AV} {H : List AObj} (hh : (fun n => (
  rawK 1 1 (.int .u8 0) [(0, (.int .u8 117))] H fun a1 H1 E1 =>
  appK 1 1 a1 x0 H1 fun a2 H2 E2 =>
  endB false false n a2 H2 (E2 ++ (E1 ++ [])))) (List.length H) = some r) : EV C n_command_Key [x0] H = some r :=
  EV_of_fnK' (fn := Tryd.f124) (by kernel_rfl) (by kernel_rfl) (by kernel_rfl) hh
theorem avl_Delete_of {r : R3} {x0 x1 : AV} {H : List AObj} (hh : (fun n => (
  newK x0 H fun a1 H1 E1 =>
  newK (.agg [(.int .i64 0), .nils, .nils, .nils, .nils]) H1 fun a2 H2 E2 =>
  (loadA true 5 a1 H2).bind fun a3 =>
  callK (EV C) false n_avl_Get [a3, x1] H2 fun a4 H4 E4 =>
  (extA a4 0).bind fun a5 =>
  (extA a4 1).bind fun a6 =>
  (extA a4 2).bind fun a7 =>
  (binA .neq (Go.TypeDesc.interface #[("Error", 202)]) (cmpT Tryd.prog) true a7 .nili).bind fun a8 =>
  condK a8
    ((fillB (AV.cells (.agg [(.int .i64 0), .nils, .nils, .nils, .nils])) []).bind fun c9 =>
    stoK 5 a2 (.agg c9) H4 fun H10 E10 =>
    (loadA true 5 a2 H10).bind fun a11 =>
    endB false false n (.tup [a11, (.bool false), a7]) H10 (E10 ++ (E4 ++ (E2 ++ (E1 ++ [])))))
    ((unA .not a6).bind fun a12 =>
    condK a12
      ((loadA true 5 a1 H4).bind fun a13 =>
      stoK 5 a2 a13 H4 fun H14 E14 =>
      (loadA true 5 a2 H14).bind fun a15 =>
      endB false false n (.tup [a15, (.bool false), .nili]) H14 (E14 ++ (E4 ++ (E2 ++ (E1 ++ [])))))
      ((loadA true 5 a1 H4).bind fun a16 =>
      callK (EV C) false n_avl_take [a16, x1] H4 fun a17 H17 E17 =>
      stoK 5 a2 a17 H17 fun H18 E18 =>
      (loadA true 5 a2 H18).bind fun a19 =>
      endB false false n (.tup [a19, (.bool true), .nili]) H18 (E18 ++ (E17 ++ (E4 ++ (E2 ++ (E1 ++ []))))))))) (List.length H) = some r) : EV C n_avl_Delete [x0, x1] H = some r :=
  EV_of_fnK' (fn := Tryd.f125) (by kernel_rfl) (by kernel_rfl) (by kernel_rfl) hh
theorem avl_asked_of {r : R3} {x0 x1 x2 : AV} {H : List AObj} (hh : (fun n => (
  newK x0 H fun a1 H1 E1 =>
  (loadA true 5 a1 H1).bind fun a2 =>
  callK (EV C) false n_avl_Is [a2] H1 fun a3 H3 E3 =>
  (unA .not a3).bind fun a4 =>
  condK a4
    (endB false false n (.ifc t_api_Code (.int .i64 3)) H3 (E3 ++ (E1 ++ [])))
    ((lenV x1 H3).bind fun a5 =>
    (binA .gtr (Go.TypeDesc.int Go.IntKind.i64) (cmpT Tryd.prog) true a5 (.int .i64 80)).bind fun a6 =>
    splitK a6
      (endB false false n (.ifc t_api_Code (.int .i64 1)) H3 (E3 ++ (E1 ++ [])))
      ((lenV x2 H3).bind fun a7 =>
      (binA .gtr (Go.TypeDesc.int Go.IntKind.i64) (cmpT Tryd.prog) true a7 (.int .i64 1024)).bind fun a8 =>
      condK a8
        (endB false false n (.ifc t_api_Code (.int .i64 1)) H3 (E3 ++ (E1 ++ [])))
        (endB false false n .nili H3 (E3 ++ (E1 ++ []))))))) (List.length H) = some r) : EV C n_avl_asked [x0, x1, x2] H = some r :=
  EV_of_fnK' (fn := Tryd.f126) (by kernel_rfl) (by kernel_rfl) (by kernel_rfl) hh
theorem avl_put_of {r : R3} {x0 x1 x2 : AV} {H : List AObj} (hh : (fun n => (
  newK x0 H fun a1 H1 E1 =>
  newK (.agg [(.int .i64 0), .nils, .nils, .nils, .nils]) H1 fun a2 H2 E2 =>
  (offA a1 4).bind fun a3 =>
  (loadA false 1 a3 H2).bind fun a4 =>
  (lenV a4 H2).bind fun a5 =>
  (binA .eql (Go.TypeDesc.int Go.IntKind.i64) (cmpT Tryd.prog) true a5 (.int .i64 0)).bind fun a6 =>
  condK a6
    ((fillB (AV.cells (.agg [(.int .i64 0), .nils, .nils, .nils, .nils])) []).bind fun c7 =>
    (fillB (AV.cells (.agg [(.int .i64 0), .nils, .nils, .nils, .nils])) []).bind fun c8 =>
    callK (EV C) false n_avl_node [(.agg c7), x1, x2, (.agg c8)] H2 fun a9 H9 E9 =>
    stoK 5 a2 a9 H9 fun H10 E10 =>
    (loadA true 5 a2 H10).bind fun a11 =>
    endB false false n a11 H10 (E10 ++ (E9 ++ (E2 ++ (E1 ++ [])))))
    ((offA a1 4).bind fun a12 =>
    (loadA false 1 a12 H2).bind fun a13 =>
    (ixA 5 a13 (.int .i64 0) H2).bind fun a14 =>
    (loadA true 5 a14 H2).bind fun a15 =>
    (offA a1 4).bind fun a16 =>
    (loadA false 1 a16 H2).bind fun a17 =>
    (ixA 5 a17 (.int .i64 1) H2).bind fun a18 =>
    (loadA true 5 a18 H2).bind fun a19 =>
    sizK 5 a15
    (newK a15 H2 fun a20 H20 E20 =>
    drawK (((loadA false 1 a16 H20).bind fun a21 =>
    some a21) = some a17)
    (drawK (((ixA 5 a17 (.int .i64 1) H20).bind fun a22 =>
    some a22) = some a18)
    (drawK (((loadA true 5 a18 H20).bind fun a23 =>
    some a23) = some a19)
    (sizK 5 a19
    (newK a19 H20 fun a24 H24 E24 =>
    (offA a1 1).bind fun a25 =>
    (loadA false 1 a25 H24).bind fun a26 =>
    callK (EV C) false n_bytes_Compare [x1, a26] H24 fun a27 H27 E27 =>
    (binA .eql (Go.TypeDesc.int Go.IntKind.i64) (cmpT Tryd.prog) true a27 (.int .i64 0)).bind fun a28 =>
    condK a28
      ((loadA true 5 a20 H27).bind fun a29 =>
      (offA a1 1).bind fun a30 =>
      (loadA false 1 a30 H27).bind fun a31 =>
      (loadA true 5 a24 H27).bind fun a32 =>
      callK (EV C) false n_avl_node [a29, a31, x2, a32] H27 fun a33 H33 E33 =>
      stoK 5 a2 a33 H33 fun H34 E34 =>
      (loadA true 5 a2 H34).bind fun a35 =>
      endB false false n a35 H34 (E34 ++ (E33 ++ (E27 ++ (E24 ++ (E20 ++ (E2 ++ (E1 ++ []))))))))
      ((binA .lss (Go.TypeDesc.int Go.IntKind.i64) (cmpT Tryd.prog) true a27 (.int .i64 0)).bind fun a36 =>
      condK a36
        ((loadA true 5 a20 H27).bind fun a37 =>
        (callD (EV C) n_avl_put [a37, x1, x2] H27).bind fun a38 =>
        (offA a1 1).bind fun a39 =>
        (loadA false 1 a39 H27).bind fun a40 =>
        (offA a1 2).bind fun a41 =>
        (loadA false 1 a41 H27).bind fun a42 =>
        (loadA true 5 a24 H27).bind fun a43 =>
        (callD (EV C) n_avl_node [a38, a40, a42, a43] H27).bind fun a44 =>
        (callD (EV C) n_avl_leveled [a44] H27).bind fun a45 =>
        stoK 5 a2 a45 H27 fun H46 E46 =>
        (loadA true 5 a2 H46).bind fun a47 =>
        endB false false n a47 H46 (E46 ++ (E27 ++ (E24 ++ (E20 ++ (E2 ++ (E1 ++ [])))))))
        ((loadA true 5 a20 H27).bind fun a48 =>
        (offA a1 1).bind fun a49 =>
        (loadA false 1 a49 H27).bind fun a50 =>
        (offA a1 2).bind fun a51 =>
        (loadA false 1 a51 H27).bind fun a52 =>
        (loadA true 5 a24 H27).bind fun a53 =>
        (callD (EV C) n_avl_put [a53, x1, x2] H27).bind fun a54 =>
        (callD (EV C) n_avl_node [a48, a50, a52, a54] H27).bind fun a55 =>
        (callD (EV C) n_avl_leveled [a55] H27).bind fun a56 =>
        stoK 5 a2 a56 H27 fun H57 E57 =>
        (loadA true 5 a2 H57).bind fun a58 =>
        endB false false n a58 H57 (E57 ++ (E27 ++ (E24 ++ (E20 ++ (E2 ++ (E1 ++ [])))))))))))))))) (List.length H) = some r) : EV C n_avl_put [x0, x1, x2] H = some r :=
  EV_of_fnK' (fn := Tryd.f127) (by kernel_rfl) (by kernel_rfl) (by kernel_rfl) hh
theorem ContainsFunc_api_Tree_of {r : R3} {x0 x1 : AV} {H : List AObj} (hh : (fun n => (
  callK (EV C) false n_IndexFunc_api_Tree [x0, x1] H fun a1 H1 E1 =>
  (binA .geq (Go.TypeDesc.int Go.IntKind.i64) (cmpT Tryd.prog) true a1 (.int .i64 0)).bind fun a2 =>
  endB false false n a2 H1 (E1 ++ []))) (List.length H) = some r) : EV C n_ContainsFunc_api_Tree [x0, x1] H = some r :=
  EV_of_fnK' (fn := Tryd.f128) (by kernel_rfl) (by kernel_rfl) (by kernel_rfl) hh
theorem tree_deep_1_of {r : R3} {x0 x1 : AV} {H : List AObj} (hh : (fun n => (
  newK x0 H fun a1 H1 E1 =>
  (loadA true 5 a1 H1).bind fun a2 =>
  (loadA false 1 x1 H1).bind fun a3 =>
  (binA .sub (Go.TypeDesc.int Go.IntKind.i64) (cmpT Tryd.prog) true a3 (.int .i64 1)).bind fun a4 =>
  callK (EV C) false n_tree_deep [a2, a4] H1 fun a5 H5 E5 =>
  endB false false n a5 H5 (E5 ++ (E1 ++ [])))) (List.length H) = some r) : EV C n_tree_deep_1 [x0, x1] H = some r :=
  EV_of_fnK' (fn := Tryd.f129) (by kernel_rfl) (by kernel_rfl) (by kernel_rfl) hh
theorem tree_formed_1_of {r : R3} {x0 : AV} {H : List AObj} (hh : (fun n => (
  newK x0 H fun a1 H1 E1 =>
  (loadA true 5 a1 H1).bind fun a2 =>
  callK (EV C) false n_tree_formed [a2] H1 fun a3 H3 E3 =>
  (unA .not a3).bind fun a4 =>
  endB false false n a4 H3 (E3 ++ (E1 ++ [])))) (List.length H) = some r) : EV C n_tree_formed_1 [x0] H = some r :=
  EV_of_fnK' (fn := Tryd.f130) (by kernel_rfl) (by kernel_rfl) (by kernel_rfl) hh
theorem digest_width_of {r : R3} {x0 : AV} {H : List AObj} (hh : (fun n => (
  (binA .geq (Go.TypeDesc.int Go.IntKind.i64) (cmpT Tryd.prog) true x0 (.int .i64 1)).bind fun a1 =>
  splitK a1
    ((binA .leq (Go.TypeDesc.int Go.IntKind.i64) (cmpT Tryd.prog) true x0 (.int .i64 32)).bind fun a2 =>
    endB false false n a2 H [])
    (endB false false n (.bool false) H []))) (List.length H) = some r) : EV C n_digest_width [x0] H = some r :=
  EV_of_fnK' (fn := Tryd.f131) (by kernel_rfl) (by kernel_rfl) (by kernel_rfl) hh
noncomputable def sha_Sum_J8 (n : Nat) (t7 t37 t38 : AV) (H : List AObj) (E : List Nat) : Option R3 :=
  loopK Tryd.prog C.G (EV C) (C.hint 132) Tryd.f132 (cAt (bodyOf Tryd.f132) [1, 1, 1, 1, 1, 1, 0, 1, 0, 0]) (kAt Tryd.prog C.G (EV C) (C.hint 132) Tryd.f132 (bodyOf Tryd.f132) [1, 1, 1, 1, 1, 1, 0, 1, 0] [] (endK Tryd.prog (C.hint 132) Tryd.f132 n))
    ⟨pat 76 [(7, t7), (37, t37), (38, t38)], H, E⟩
noncomputable def sha_Sum_J10 (n : Nat) (Ha : List AObj) (Ea : List Nat) (t7 t9 t37 t38 : AV) (H : List AObj) (E : List Nat) : Option R3 :=
  loopK Tryd.prog C.G (EV C) (C.hint 132) Tryd.f132 (cAt (bodyOf Tryd.f132) [1, 1, 1, 1, 1, 1, 0, 1, 0, 0, 1, 1, 0, 0, 1, 0, 0]) (kAt Tryd.prog C.G (EV C) (C.hint 132) Tryd.f132 (bodyOf Tryd.f132) [1, 1, 1, 1, 1, 1, 0, 1, 0, 0, 1, 1, 0, 0, 1, 0] [(Ha, Ea)] (endK Tryd.prog (C.hint 132) Tryd.f132 n))
    ⟨pat 76 [(7, t7), (9, t9), (37, t37), (38, t38)], H, E⟩
noncomputable def sha_Sum_J18 (n : Nat) (t10 t56 t57 : AV) (H : List AObj) (E : List Nat) : Option R3 :=
  loopK Tryd.prog C.G (EV C) (C.hint 132) Tryd.f132 (cAt (bodyOf Tryd.f132) [1, 1, 1, 1, 1, 1, 1, 1, 0, 1, 0, 0]) (kAt Tryd.prog C.G (EV C) (C.hint 132) Tryd.f132 (bodyOf Tryd.f132) [1, 1, 1, 1, 1, 1, 1, 1, 0, 1, 0] [] (endK Tryd.prog (C.hint 132) Tryd.f132 n))
    ⟨pat 76 [(10, t10), (56, t56), (57, t57)], H, E⟩
theorem sha_Sum_J8_of {r : R3} {n : Nat} {t7 t37 t38 : AV} {H : List AObj} {E : List Nat} (hh : (
  (binA .lss (Go.TypeDesc.int Go.IntKind.i64) (cmpT Tryd.prog) true t38 (.int .i64 2)).bind fun a1 =>
  condK a1
    ((ixV 2 false 1 t37 t38).bind fun a2 =>
    sha_Sum_J10 n H E t7 a2 t37 t38 H [])
    ((loadA true 8 t7 (H ++ [.vrow])).bind fun a3 =>
    sha_Sum_J18 n (.slc (List.length H) 0 0 0) a3 (.int .i64 0) (H ++ [.vrow]) E)) = some r) : sha_Sum_J8 n t7 t37 t38 H E = some r :=
  loop_step' (by kernel_rfl) hh
theorem sha_Sum_J10_of {r : R3} {n : Nat} {Ha : List AObj} {Ea : List Nat} {t7 t9 t37 t38 : AV} {H : List AObj} {E : List Nat} (hh : (
  (lenV t9 H).bind fun a1 =>
  (binA .gtr (Go.TypeDesc.int Go.IntKind.i64) (cmpT Tryd.prog) true a1 (.int .i64 0)).bind fun a2 =>
  condK a2
    ((loadA true 8 t7 H).bind fun a3 =>
    (cutA 1 t9 none (some (.int .i64 64)) none H).bind fun a4 =>
    (callD (EV C) n_sha_Step [a3, a4] H).bind fun a5 =>
    (extA a5 0).bind fun a6 =>
    (extA a5 1).bind fun a7 =>
    stoK 8 t7 a6 H fun H8 E8 =>
    (binA .neq (Go.TypeDesc.interface #[("Error", 202)]) (cmpT Tryd.prog) true a7 .nili).bind fun a9 =>
    condK a9
      (endB false false n .nils H8 (((E8 ++ []) ++ E) ++ Ea))
      ((cutA 1 t9 (some (.int .i64 64)) none none H8).bind fun a10 =>
      sha_Sum_J10 n Ha Ea t7 a10 t37 t38 H8 ((E8 ++ []) ++ E)))
    ((binA .add (Go.TypeDesc.int Go.IntKind.i64) (cmpT Tryd.prog) true t38 (.int .i64 1)).bind fun a11 =>
    sha_Sum_J8 n t7 t37 a11 H (E ++ Ea))) = some r) : sha_Sum_J10 n Ha Ea t7 t9 t37 t38 H E = some r :=
  loop_step' (by kernel_rfl) hh
theorem sha_Sum_J18_of {r : R3} {n : Nat} {t10 t56 t57 : AV} {H : List AObj} {E : List Nat} (hh : (
  (binA .lss (Go.TypeDesc.int Go.IntKind.i64) (cmpT Tryd.prog) true t57 (.int .i64 8)).bind fun a1 =>
  condK a1
    ((ixV 8 false 1 t56 t57).bind fun a2 =>
    (binA .shr (Go.TypeDesc.int Go.IntKind.u32) (cmpT Tryd.prog) true a2 (.int .u64 24)).bind fun a3 =>
    (cvI .u8 a3).bind fun a4 =>
    (binA .shr (Go.TypeDesc.int Go.IntKind.u32) (cmpT Tryd.prog) true a2 (.int .u64 16)).bind fun a5 =>
    (cvI .u8 a5).bind fun a6 =>
    (binA .shr (Go.TypeDesc.int Go.IntKind.u32) (cmpT Tryd.prog) true a2 (.int .u64 8)).bind fun a7 =>
    (cvI .u8 a7).bind fun a8 =>
    (cvI .u8 a2).bind fun a9 =>
    litK 1 4 (.int .u8 0) [(0, a4), (1, a6), (2, a8), (3, a9)] H fun a10 H10 E10 =>
    appK 1 1 t10 a10 H10 fun a11 H11 E11 =>
    (binA .add (Go.TypeDesc.int Go.IntKind.i64) (cmpT Tryd.prog) true t57 (.int .i64 1)).bind fun a12 =>
    sha_Sum_J18 n a11 t56 a12 H11 ((E11 ++ (E10 ++ [])) ++ E))
    (endB false false n t10 H E)) = some r) : sha_Sum_J18 n t10 t56 t57 H E = some r :=
  loop_step' (by kernel_rfl) hh
theorem sha_Sum_of {r : R3} {x0 : AV} {H : List AObj} (hh : (fun n => (
  (lenV x0 H).bind fun a1 =>
  callK (EV C) false n_sha_Tail [a1] H fun a2 H2 E2 =>
  (extA a2 0).bind fun a3 =>
  (extA a2 1).bind fun a4 =>
  (binA .neq (Go.TypeDesc.interface #[("Error", 202)]) (cmpT Tryd.prog) true a4 .nili).bind fun a5 =>
  condK a5
    (endB false false n .nils H2 (E2 ++ []))
    ((lenV x0 H2).bind fun a6 =>
    (binA .quo (Go.TypeDesc.int Go.IntKind.i64) (cmpT Tryd.prog) true a6 (.int .i64 64)).bind fun a7 =>
    (binA .mul (Go.TypeDesc.int Go.IntKind.i64) (cmpT Tryd.prog) true a7 (.int .i64 64)).bind fun a8 =>
    rawK 1 0 (.int .u8 0) [] H2 fun a9 H9 E9 =>
    (cutA 1 x0 (some a8) none none H9).bind fun a10 =>
    appK 1 1 a9 a10 H9 fun a11 H11 E11 =>
    appK 1 1 a11 a3 H11 fun a12 H12 E12 =>
    (loadA true 8 (.ip gl_first) H12).bind fun a13 =>
    newK (.agg [(.int .u32 0), (.int .u32 0), (.int .u32 0), (.int .u32 0), (.int .u32 0), (.int .u32 0), (.int .u32 0), (.int .u32 0)]) H12 fun a14 H14 E14 =>
    stoK 8 a14 a13 H14 fun H15 E15 =>
    (cutA 1 x0 none (some a8) none H15).bind fun a16 =>
    (fillB (AV.cells (.agg [.nils, .nils])) [(0, 1, a16), (1, 1, a12)]).bind fun c17 =>
    sha_Sum_J8 n a14 (.agg c17) (.int .i64 0) H15 (E15 ++ (E14 ++ (E12 ++ (E11 ++ (E9 ++ (E2 ++ []))))))))) (List.length H) = some r) : EV C n_sha_Sum [x0] H = some r :=
  EV_of_fnK' (fn := Tryd.f132) (by kernel_rfl) (by kernel_rfl) (by kernel_rfl) hh
noncomputable def Concat_byte_J3 (n : Nat) (t0 t3 t9 t10 t11 : AV) (H : List AObj) (E : List Nat) : Option R3 :=
  loopK Tryd.prog C.G (EV C) (C.hint 133) Tryd.f133 (cAt (bodyOf Tryd.f133) [1, 1, 0, 1, 0, 0]) (kAt Tryd.prog C.G (EV C) (C.hint 133) Tryd.f133 (bodyOf Tryd.f133) [1, 1, 0, 1, 0] [] (endK Tryd.prog (C.hint 133) Tryd.f133 n))
    ⟨pat 36 [(0, t0), (3, t3), (9, t9), (10, t10), (11, t11)], H, E⟩
noncomputable def Concat_byte_J11 (n : Nat) (t6 t25 t26 t27 : AV) (H : List AObj) (E : List Nat) : Option R3 :=
  loopK Tryd.prog C.G (EV C) (C.hint 133) Tryd.f133 (cAt (bodyOf Tryd.f133) [1, 1, 1, 1, 0, 1, 0, 0]) (kAt Tryd.prog C.G (EV C) (C.hint 133) Tryd.f133 (bodyOf Tryd.f133) [1, 1, 1, 1, 0, 1, 0] [] (endK Tryd.prog (C.hint 133) Tryd.f133 n))
    ⟨pat 36 [(6, t6), (25, t25), (26, t26), (27, t27)], H, E⟩
theorem Concat_byte_J3_of {r : R3} {n : Nat} {t0 t3 t9 t10 t11 : AV} {H : List AObj} {E : List Nat} (hh : (
  (binA .lss (Go.TypeDesc.int Go.IntKind.i64) (cmpT Tryd.prog) false t11 t10).bind fun a1 =>
  condK a1
    ((ixA 1 t9 t11 H).bind fun a2 =>
    (loadA false 1 a2 H).bind fun a3 =>
    (lenV a3 H).bind fun a4 =>
    (binA .add (Go.TypeDesc.int Go.IntKind.i64) (cmpT Tryd.prog) false t3 a4).bind fun a5 =>
    (binA .lss (Go.TypeDesc.int Go.IntKind.i64) (cmpT Tryd.prog) true a5 (.int .i64 0)).bind fun a6 =>
    condK a6
      (none)
      ((binA .add (Go.TypeDesc.int Go.IntKind.i64) (cmpT Tryd.prog) true t11 (.int .i64 1)).bind fun a7 =>
      Concat_byte_J3 n t0 a5 t9 t10 a7 H E))
    (callK (EV C) true n_Grow_byte [.nils, t3] H fun a8 H8 E8 =>
    (lenV t0 H8).bind fun a9 =>
    Concat_byte_J11 n a8 t0 a9 (.int .i64 0) H8 (E8 ++ E))) = some r) : Concat_byte_J3 n t0 t3 t9 t10 t11 H E = some r :=
  loop_step' (by kernel_rfl) hh
theorem Concat_byte_J11_of {r : R3} {n : Nat} {t6 t25 t26 t27 : AV} {H : List AObj} {E : List Nat} (hh : (
  (binA .lss (Go.TypeDesc.int Go.IntKind.i64) (cmpT Tryd.prog) false t27 t26).bind fun a1 =>
  condK a1
    ((ixA 1 t25 t27 H).bind fun a2 =>
    (loadA false 1 a2 H).bind fun a3 =>
    appK 1 1 t6 a3 H fun a4 H4 E4 =>
    (binA .add (Go.TypeDesc.int Go.IntKind.i64) (cmpT Tryd.prog) true t27 (.int .i64 1)).bind fun a5 =>
    Concat_byte_J11 n a4 t25 t26 a5 H4 ((E4 ++ []) ++ E))
    (endB false false n t6 H E)) = some r) : Concat_byte_J11 n t6 t25 t26 t27 H E = some r :=
  loop_step' (by kernel_rfl) hh
theorem Concat_byte_of {r : R3} {x0 : AV} {H : List AObj} (hh : (fun n => (
  (lenV x0 H).bind fun a1 =>
  Concat_byte_J3 n x0 (.int .i64 0) x0 a1 (.int .i64 0) H [])) (List.length H) = some r) : EV C n_Concat_byte [x0] H = some r :=
  EV_of_fnK' (fn := Tryd.f133) (by kernel_rfl) (by kernel_rfl) (by kernel_rfl) hh
theorem tree_full_1_of {r : R3} {x0 : AV} {H : List AObj} (hh : (fun n => (
  newK x0 H fun a1 H1 E1 =>
  (loadA true 5 a1 H1).bind fun a2 =>
  callK (EV C) false n_tree_full [a2] H1 fun a3 H3 E3 =>
  (unA .not a3).bind fun a4 =>
  endB false false n a4 H3 (E3 ++ (E1 ++ [])))) (List.length H) = some r) : EV C n_tree_full_1 [x0] H = some r :=
  EV_of_fnK' (fn := Tryd.f137) (by kernel_rfl) (by kernel_rfl) (by kernel_rfl) hh
theorem ref04_Depth_of {r : R3} {x0 : AV} {H : List AObj} (hh : (fun n => (
  newK x0 H fun a1 H1 E1 =>
  (offA a1 4).bind fun a2 =>
  (loadA false 1 a2 H1).bind fun a3 =>
  (lenV a3 H1).bind fun a4 =>
  (binA .eql (Go.TypeDesc.int Go.IntKind.i64) (cmpT Tryd.prog) true a4 (.int .i64 0)).bind fun a5 =>
  condK a5
    (endB false false n (.int .i64 0) H1 (E1 ++ []))
    ((offA a1 4).bind fun a6 =>
    (loadA false 1 a6 H1).bind fun a7 =>
    (ixA 5 a7 (.int .i64 0) H1).bind fun a8 =>
    (loadA true 5 a8 H1).bind fun a9 =>
    callK (EV C) false n_ref04_Depth [a9] H1 fun a10 H10 E10 =>
    (offA a1 4).bind fun a11 =>
    (loadA false 1 a11 H10).bind fun a12 =>
    (ixA 5 a12 (.int .i64 1) H10).bind fun a13 =>
    (loadA true 5 a13 H10).bind fun a14 =>
    callK (EV C) false n_ref04_Depth [a14] H10 fun a15 H15 E15 =>
    (binA .gtr (Go.TypeDesc.int Go.IntKind.i64) (cmpT Tryd.prog) false a10 a15).bind fun a16 =>
    condK a16
      ((binA .add (Go.TypeDesc.int Go.IntKind.i64) (cmpT Tryd.prog) true a10 (.int .i64 1)).bind fun a17 =>
      endB false false n a17 H15 (E15 ++ (E10 ++ (E1 ++ []))))
      ((binA .add (Go.TypeDesc.int Go.IntKind.i64) (cmpT Tryd.prog) true a15 (.int .i64 1)).bind fun a18 =>
      endB false false n a18 H15 (E15 ++ (E10 ++ (E1 ++ []))))))) (List.length H) = some r) : EV C n_ref04_Depth [x0] H = some r :=
  EV_of_fnK' (fn := Tryd.f138) (by kernel_rfl) (by kernel_rfl) (by kernel_rfl) hh
noncomputable def avl_take_J14 (n : Nat) (t4 t5 t6 t8 : AV) (H : List AObj) (E : List Nat) : Option R3 :=
  loopK Tryd.prog C.G (EV C) (C.hint 139) Tryd.f139 (cAt (bodyOf Tryd.f139) [1, 1, 1, 1, 1, 0, 0, 0]) (kAt Tryd.prog C.G (EV C) (C.hint 139) Tryd.f139 (bodyOf Tryd.f139) [1, 1, 1, 1, 1, 0, 0] [] (endK Tryd.prog (C.hint 139) Tryd.f139 n))
    ⟨pat 87 [(4, t4), (5, t5), (6, t6), (8, t8)], H, E⟩
theorem avl_take_J14_of {r : R3} {n : Nat} {t4 t5 t6 t8 : AV} {H : List AObj} {E : List Nat} (hh : (
  (offA t8 4).bind fun a1 =>
  (loadA false 1 a1 H).bind fun a2 =>
  (ixA 5 a2 (.int .i64 0) H).bind fun a3 =>
  (offA a3 4).bind fun a4 =>
  (loadA false 1 a4 H).bind fun a5 =>
  (lenV a5 H).bind fun a6 =>
  (binA .gtr (Go.TypeDesc.int Go.IntKind.i64) (cmpT Tryd.prog) true a6 (.int .i64 0)).bind fun a7 =>
  condK a7
    ((offA t8 4).bind fun a8 =>
    (loadA false 1 a8 H).bind fun a9 =>
    (ixA 5 a9 (.int .i64 0) H).bind fun a10 =>
    (loadA true 5 a10 H).bind fun a11 =>
    stoK 5 t8 a11 H fun H12 E12 =>
    avl_take_J14 n t4 t5 t6 t8 H12 ((E12 ++ []) ++ E))
    ((loadA true 5 t5 H).bind fun a13 =>
    (offA t8 1).bind fun a14 =>
    (loadA false 1 a14 H).bind fun a15 =>
    (offA t8 2).bind fun a16 =>
    (loadA false 1 a16 H).bind fun a17 =>
    (loadA true 5 t6 H).bind fun a18 =>
    (offA t8 1).bind fun a19 =>
    (loadA false 1 a19 H).bind fun a20 =>
    (callD (EV C) n_avl_take [a18, a20] H).bind fun a21 =>
    (callD (EV C) n_avl_node [a13, a15, a17, a21] H).bind fun a22 =>
    (callD (EV C) n_avl_leveled [a22] H).bind fun a23 =>
    stoK 5 t4 a23 H fun H24 E24 =>
    (loadA true 5 t4 H24).bind fun a25 =>
    endB false false n a25 H24 (E24 ++ E))) = some r) : avl_take_J14 n t4 t5 t6 t8 H E = some r :=
  loop_step' (by kernel_rfl) hh
theorem avl_take_of {r : R3} {x0 x1 : AV} {H : List AObj} (hh : (fun n => (
  newK x0 H fun a1 H1 E1 =>
  newK (.agg [(.int .i64 0), .nils, .nils, .nils, .nils]) H1 fun a2 H2 E2 =>
  (offA a1 4).bind fun a3 =>
  (loadA false 1 a3 H2).bind fun a4 =>
  (lenV a4 H2).bind fun a5 =>
  (binA .eql (Go.TypeDesc.int Go.IntKind.i64) (cmpT Tryd.prog) true a5 (.int .i64 0)).bind fun a6 =>
  condK a6
    ((loadA true 5 a1 H2).bind fun a7 =>
    stoK 5 a2 a7 H2 fun H8 E8 =>
    (loadA true 5 a2 H8).bind fun a9 =>
    endB false false n a9 H8 (E8 ++ (E2 ++ (E1 ++ []))))
    ((offA a1 4).bind fun a10 =>
    (loadA false 1 a10 H2).bind fun a11 =>
    (ixA 5 a11 (.int .i64 0) H2).bind fun a12 =>
    (loadA true 5 a12 H2).bind fun a13 =>
    (offA a1 4).bind fun a14 =>
    (loadA false 1 a14 H2).bind fun a15 =>
    (ixA 5 a15 (.int .i64 1) H2).bind fun a16 =>
    (loadA true 5 a16 H2).bind fun a17 =>
    sizK 5 a13
    (newK a13 H2 fun a18 H18 E18 =>
    drawK (((loadA false 1 a14 H18).bind fun a19 =>
    some a19) = some a15)
    (drawK (((ixA 5 a15 (.int .i64 1) H18).bind fun a20 =>
    some a20) = some a16)
    (drawK (((loadA true 5 a16 H18).bind fun a21 =>
    some a21) = some a17)
    (sizK 5 a17
    (newK a17 H18 fun a22 H22 E22 =>
    (offA a1 1).bind fun a23 =>
    (loadA false 1 a23 H22).bind fun a24 =>
    callK (EV C) false n_bytes_Compare [x1, a24] H22 fun a25 H25 E25 =>
    (binA .lss (Go.TypeDesc.int Go.IntKind.i64) (cmpT Tryd.prog) true a25 (.int .i64 0)).bind fun a26 =>
    condK a26
      ((loadA true 5 a18 H25).bind fun a27 =>
      (callD (EV C) n_avl_take [a27, x1] H25).bind fun a28 =>
      (offA a1 1).bind fun a29 =>
      (loadA false 1 a29 H25).bind fun a30 =>
      (offA a1 2).bind fun a31 =>
      (loadA false 1 a31 H25).bind fun a32 =>
      (loadA true 5 a22 H25).bind fun a33 =>
      (callD (EV C) n_avl_node [a28, a30, a32, a33] H25).bind fun a34 =>
      (callD (EV C) n_avl_leveled [a34] H25).bind fun a35 =>
      stoK 5 a2 a35 H25 fun H36 E36 =>
      (loadA true 5 a2 H36).bind fun a37 =>
      endB false false n a37 H36 (E36 ++ (E25 ++ (E22 ++ (E18 ++ (E2 ++ (E1 ++ [])))))))
      ((binA .gtr (Go.TypeDesc.int Go.IntKind.i64) (cmpT Tryd.prog) true a25 (.int .i64 0)).bind fun a38 =>
      condK a38
        ((loadA true 5 a18 H25).bind fun a39 =>
        (offA a1 1).bind fun a40 =>
        (loadA false 1 a40 H25).bind fun a41 =>
        (offA a1 2).bind fun a42 =>
        (loadA false 1 a42 H25).bind fun a43 =>
        (loadA true 5 a22 H25).bind fun a44 =>
        (callD (EV C) n_avl_take [a44, x1] H25).bind fun a45 =>
        (callD (EV C) n_avl_node [a39, a41, a43, a45] H25).bind fun a46 =>
        (callD (EV C) n_avl_leveled [a46] H25).bind fun a47 =>
        stoK 5 a2 a47 H25 fun H48 E48 =>
        (loadA true 5 a2 H48).bind fun a49 =>
        endB false false n a49 H48 (E48 ++ (E25 ++ (E22 ++ (E18 ++ (E2 ++ (E1 ++ [])))))))
        ((offA a18 4).bind fun a50 =>
        (loadA false 1 a50 H25).bind fun a51 =>
        (lenV a51 H25).bind fun a52 =>
        (binA .eql (Go.TypeDesc.int Go.IntKind.i64) (cmpT Tryd.prog) true a52 (.int .i64 0)).bind fun a53 =>
        condK a53
          ((loadA true 5 a22 H25).bind fun a54 =>
          stoK 5 a2 a54 H25 fun H55 E55 =>
          (loadA true 5 a2 H55).bind fun a56 =>
          endB false false n a56 H55 (E55 ++ (E25 ++ (E22 ++ (E18 ++ (E2 ++ (E1 ++ [])))))))
          ((offA a22 4).bind fun a57 =>
          (loadA false 1 a57 H25).bind fun a58 =>
          (lenV a58 H25).bind fun a59 =>
          (binA .eql (Go.TypeDesc.int Go.IntKind.i64) (cmpT Tryd.prog) true a59 (.int .i64 0)).bind fun a60 =>
          condK a60
            ((loadA true 5 a18 H25).bind fun a61 =>
            stoK 5 a2 a61 H25 fun H62 E62 =>
            (loadA true 5 a2 H62).bind fun a63 =>
            endB false false n a63 H62 (E62 ++ (E25 ++ (E22 ++ (E18 ++ (E2 ++ (E1 ++ [])))))))
            ((loadA true 5 a22 H25).bind fun a64 =>
            newK (.agg [(.int .i64 0), .nils, .nils, .nils, .nils]) H25 fun a65 H65 E65 =>
            stoK 5 a65 a64 H65 fun H66 E66 =>
            avl_take_J14 n a2 a18 a22 a65 H66 (E66 ++ (E65 ++ (E25 ++ (E22 ++ (E18 ++ (E2 ++ (E1 ++ []))))))))))))))))))) (List.length H) = some r) : EV C n_avl_take [x0, x1] H = some r :=
  EV_of_fnK' (fn := Tryd.f139) (by kernel_rfl) (by kernel_rfl) (by kernel_rfl) hh
theorem avl_node_of {r : R3} {x0 x1 x2 x3 : AV} {H : List AObj} (hh : (fun n => (
  newK x0 H fun a1 H1 E1 =>
  newK x3 H1 fun a2 H2 E2 =>
  newK (.agg [(.int .i64 0), .nils, .nils, .nils, .nils]) H2 fun a3 H3 E3 =>
  (loadA true 5 a1 H3).bind fun a4 =>
  (loadA true 5 a2 H3).bind fun a5 =>
  litK 5 2 (.agg [(.int .i64 0), .nils, .nils, .nils, .nils]) [(0, a4), (1, a5)] H3 fun a6 H6 E6 =>
  (fillB (AV.cells (.agg [(.int .i64 0), .nils, .nils, .nils, .nils])) [(0, 1, (.int .i64 1)), (1, 1, x1), (2, 1, x2), (4, 1, a6)]).bind fun c7 =>
  stoK 5 a3 (.agg c7) H6 fun H8 E8 =>
  (loadA true 5 a3 H8).bind fun a9 =>
  endB false false n a9 H8 (E8 ++ (E6 ++ (E3 ++ (E2 ++ (E1 ++ []))))))) (List.length H) = some r) : EV C n_avl_node [x0, x1, x2, x3] H = some r :=
  EV_of_fnK' (fn := Tryd.f140) (by kernel_rfl) (by kernel_rfl) (by kernel_rfl) hh
theorem avl_leveled_of {r : R3} {x0 : AV} {H : List AObj} (hh : (fun n => (
  newK x0 H fun a1 H1 E1 =>
  newK (.agg [(.int .i64 0), .nils, .nils, .nils, .nils]) H1 fun a2 H2 E2 =>
  (offA a1 4).bind fun a3 =>
  (loadA false 1 a3 H2).bind fun a4 =>
  (ixA 5 a4 (.int .i64 0) H2).bind fun a5 =>
  (loadA true 5 a5 H2).bind fun a6 =>
  (offA a1 4).bind fun a7 =>
  (loadA false 1 a7 H2).bind fun a8 =>
  (ixA 5 a8 (.int .i64 1) H2).bind fun a9 =>
  (loadA true 5 a9 H2).bind fun a10 =>
  sizK 5 a6
  (newK a6 H2 fun a11 H11 E11 =>
  drawK (((loadA false 1 a7 H11).bind fun a12 =>
  some a12) = some a8)
  (drawK (((ixA 5 a8 (.int .i64 1) H11).bind fun a13 =>
  some a13) = some a9)
  (drawK (((loadA true 5 a9 H11).bind fun a14 =>
  some a14) = some a10)
  (sizK 5 a10
  (newK a10 H11 fun a15 H15 E15 =>
  (loadA true 5 a11 H15).bind fun a16 =>
  (callD (EV C) n_avl_depth [a16] H15).bind fun a17 =>
  (loadA true 5 a15 H15).bind fun a18 =>
  (callD (EV C) n_avl_depth [a18] H15).bind fun a19 =>
  (binA .sub (Go.TypeDesc.int Go.IntKind.i64) (cmpT Tryd.prog) false a17 a19).bind fun a20 =>
  (binA .gtr (Go.TypeDesc.int Go.IntKind.i64) (cmpT Tryd.prog) true a20 (.int .i64 1)).bind fun a21 =>
  condK a21
    ((offA a11 4).bind fun a22 =>
    (loadA false 1 a22 H15).bind fun a23 =>
    (ixA 5 a23 (.int .i64 0) H15).bind fun a24 =>
    (loadA true 5 a24 H15).bind fun a25 =>
    (callD (EV C) n_avl_depth [a25] H15).bind fun a26 =>
    (offA a11 4).bind fun a27 =>
    (loadA false 1 a27 H15).bind fun a28 =>
    (ixA 5 a28 (.int .i64 1) H15).bind fun a29 =>
    (loadA true 5 a29 H15).bind fun a30 =>
    (callD (EV C) n_avl_depth [a30] H15).bind fun a31 =>
    (binA .lss (Go.TypeDesc.int Go.IntKind.i64) (cmpT Tryd.prog) false a26 a31).bind fun a32 =>
    condK a32
      ((loadA true 5 a11 H15).bind fun a33 =>
      (callD (EV C) n_avl_left [a33] H15).bind fun a34 =>
      (offA a1 1).bind fun a35 =>
      (loadA false 1 a35 H15).bind fun a36 =>
      (offA a1 2).bind fun a37 =>
      (loadA false 1 a37 H15).bind fun a38 =>
      (loadA true 5 a15 H15).bind fun a39 =>
      (callD (EV C) n_avl_node [a34, a36, a38, a39] H15).bind fun a40 =>
      stoK 5 a1 a40 H15 fun H41 E41 =>
      (loadA true 5 a1 H41).bind fun a42 =>
      callK (EV C) false n_avl_right [a42] H41 fun a43 H43 E43 =>
      stoK 5 a2 a43 H43 fun H44 E44 =>
      (loadA true 5 a2 H44).bind fun a45 =>
      endB false false n a45 H44 (E44 ++ (E43 ++ (E41 ++ (E15 ++ (E11 ++ (E2 ++ (E1 ++ []))))))))
      ((loadA true 5 a1 H15).bind fun a46 =>
      callK (EV C) false n_avl_right [a46] H15 fun a47 H47 E47 =>
      stoK 5 a2 a47 H47 fun H48 E48 =>
      (loadA true 5 a2 H48).bind fun a49 =>
      endB false false n a49 H48 (E48 ++ (E47 ++ (E15 ++ (E11 ++ (E2 ++ (E1 ++ []))))))))
    ((binA .lss (Go.TypeDesc.int Go.IntKind.i64) (cmpT Tryd.prog) true a20 (.int .i64 (-1))).bind fun a50 =>
    condK a50
      ((offA a15 4).bind fun a51 =>
      (loadA false 1 a51 H15).bind fun a52 =>
      (ixA 5 a52 (.int .i64 1) H15).bind fun a53 =>
      (loadA true 5 a53 H15).bind fun a54 =>
      (callD (EV C) n_avl_depth [a54] H15).bind fun a55 =>
      (offA a15 4).bind fun a56 =>
      (loadA false 1 a56 H15).bind fun a57 =>
      (ixA 5 a57 (.int .i64 0) H15).bind fun a58 =>
      (loadA true 5 a58 H15).bind fun a59 =>
      (callD (EV C) n_avl_depth [a59] H15).bind fun a60 =>
      (binA .lss (Go.TypeDesc.int Go.IntKind.i64) (cmpT Tryd.prog) false a55 a60).bind fun a61 =>
      condK a61
        ((loadA true 5 a11 H15).bind fun a62 =>
        (offA a1 1).bind fun a63 =>
        (loadA false 1 a63 H15).bind fun a64 =>
        (offA a1 2).bind fun a65 =>
        (loadA false 1 a65 H15).bind fun a66 =>
        (loadA true 5 a15 H15).bind fun a67 =>
        (callD (EV C) n_avl_right [a67] H15).bind fun a68 =>
        (callD (EV C) n_avl_node [a62, a64, a66, a68] H15).bind fun a69 =>
        stoK 5 a1 a69 H15 fun H70 E70 =>
        (loadA true 5 a1 H70).bind fun a71 =>
        callK (EV C) false n_avl_left [a71] H70 fun a72 H72 E72 =>
        stoK 5 a2 a72 H72 fun H73 E73 =>
        (loadA true 5 a2 H73).bind fun a74 =>
        endB false false n a74 H73 (E73 ++ (E72 ++ (E70 ++ (E15 ++ (E11 ++ (E2 ++ (E1 ++ []))))))))
        ((loadA true 5 a1 H15).bind fun a75 =>
        callK (EV C) false n_avl_left [a75] H15 fun a76 H76 E76 =>
        stoK 5 a2 a76 H76 fun H77 E77 =>
        (loadA true 5 a2 H77).bind fun a78 =>
        endB false false n a78 H77 (E77 ++ (E76 ++ (E15 ++ (E11 ++ (E2 ++ (E1 ++ []))))))))
      ((loadA true 5 a1 H15).bind fun a79 =>
      stoK 5 a2 a79 H15 fun H80 E80 =>
      (loadA true 5 a2 H80).bind fun a81 =>
      endB false false n a81 H80 (E80 ++ (E15 ++ (E11 ++ (E2 ++ (E1 ++ [])))))))))))))) (List.length H) = some r) : EV C n_avl_leveled [x0] H = some r :=
  EV_of_fnK' (fn := Tryd.f141) (by kernel_rfl) (by kernel_rfl) (by kernel_rfl) hh
noncomputable def IndexFunc_api_Tree_J2 (n : Nat) (t0 t1 t7 t8 : AV) (H : List AObj) (E : List Nat) : Option R3 :=
  loopK Tryd.prog C.G (EV C) (C.hint 142) Tryd.f142 (cAt (bodyOf Tryd.f142) [1, 0, 1, 0, 0]) (kAt Tryd.prog C.G (EV C) (C.hint 142) Tryd.f142 (bodyOf Tryd.f142) [1, 0, 1, 0] [] (endK Tryd.prog (C.hint 142) Tryd.f142 n))
    ⟨pat 19 [(0, t0), (1, t1), (7, t7), (8, t8)], H, E⟩
theorem IndexFunc_api_Tree_J2_of {r : R3} {n : Nat} {t0 t1 t7 t8 : AV} {H : List AObj} {E : List Nat} (hh : (
  (binA .lss (Go.TypeDesc.int Go.IntKind.i64) (cmpT Tryd.prog) false t8 t7).bind fun a1 =>
  condK a1
    ((ixA 5 t0 t8 H).bind fun a2 =>
    (loadA true 5 a2 H).bind fun a3 =>
    valK Tryd.prog (EV C) false t1 [a3] H fun a4 H4 E4 =>
    condK a4
      (endB false false n t8 H4 ((E4 ++ []) ++ E))
      ((binA .add (Go.TypeDesc.int Go.IntKind.i64) (cmpT Tryd.prog) true t8 (.int .i64 1)).bind fun a5 =>
      IndexFunc_api_Tree_J2 n t0 t1 t7 a5 H4 ((E4 ++ []) ++ E)))
    (endB false false n (.int .i64 (-1)) H E)) = some r) : IndexFunc_api_Tree_J2 n t0 t1 t7 t8 H E = some r :=
  loop_step' (by kernel_rfl) hh
theorem IndexFunc_api_Tree_of {r : R3} {x0 x1 : AV} {H : List AObj} (hh : (fun n => (
  (lenV x0 H).bind fun a1 =>
  IndexFunc_api_Tree_J2 n x0 x1 a1 (.int .i64 0) H [])) (List.length H) = some r) : EV C n_IndexFunc_api_Tree [x0, x1] H = some r :=
  EV_of_fnK' (fn := Tryd.f142) (by kernel_rfl) (by kernel_rfl) (by kernel_rfl) hh
noncomputable def sha_Tail_J4 (n : Nat) (t0 t4 : AV) (H : List AObj) (E : List Nat) : Option R3 :=
  loopK Tryd.prog C.G (EV C) (C.hint 143) Tryd.f143 (cAt (bodyOf Tryd.f143) [1, 1, 1, 0, 0, 0]) (kAt Tryd.prog C.G (EV C) (C.hint 143) Tryd.f143 (bodyOf Tryd.f143) [1, 1, 1, 0, 0] [] (endK Tryd.prog (C.hint 143) Tryd.f143 n))
    ⟨pat 37 [(0, t0), (4, t4)], H, E⟩
noncomputable def sha_Tail_J7 (n : Nat) (t0 t4 t5 : AV) (H : List AObj) (E : List Nat) : Option R3 :=
  loopK Tryd.prog C.G (EV C) (C.hint 143) Tryd.f143 (cAt (bodyOf Tryd.f143) [1, 1, 1, 1, 0, 1, 0, 0]) (kAt Tryd.prog C.G (EV C) (C.hint 143) Tryd.f143 (bodyOf Tryd.f143) [1, 1, 1, 1, 0, 1, 0] [] (endK Tryd.prog (C.hint 143) Tryd.f143 n))
    ⟨pat 37 [(0, t0), (4, t4), (5, t5)], H, E⟩
theorem sha_Tail_J4_of {r : R3} {n : Nat} {t0 t4 : AV} {H : List AObj} {E : List Nat} (hh : (
  (lenV t4 H).bind fun a1 =>
  (binA .add (Go.TypeDesc.int Go.IntKind.i64) (cmpT Tryd.prog) false t0 a1).bind fun a2 =>
  (binA .rem (Go.TypeDesc.int Go.IntKind.i64) (cmpT Tryd.prog) true a2 (.int .i64 64)).bind fun a3 =>
  (binA .neq (Go.TypeDesc.int Go.IntKind.i64) (cmpT Tryd.prog) true a3 (.int .i64 56)).bind fun a4 =>
  condK a4
    (litK 1 1 (.int .u8 0) [(0, (.int .u8 0))] H fun a5 H5 E5 =>
    appK 1 1 t4 a5 H5 fun a6 H6 E6 =>
    sha_Tail_J4 n t0 a6 H6 ((E6 ++ (E5 ++ [])) ++ E))
    (sha_Tail_J7 n t0 t4 (.int .i64 56) H E)) = some r) : sha_Tail_J4 n t0 t4 H E = some r :=
  loop_step' (by kernel_rfl) hh
theorem sha_Tail_J7_of {r : R3} {n : Nat} {t0 t4 t5 : AV} {H : List AObj} {E : List Nat} (hh : (
  (binA .geq (Go.TypeDesc.int Go.IntKind.i64) (cmpT Tryd.prog) true t5 (.int .i64 0)).bind fun a1 =>
  condK a1
    ((cvI .u64 t0).bind fun a2 =>
    (binA .mul (Go.TypeDesc.int Go.IntKind.u64) (cmpT Tryd.prog) true (.int .u64 8) a2).bind fun a3 =>
    (binA .shr (Go.TypeDesc.int Go.IntKind.u64) (cmpT Tryd.prog) false a3 t5).bind fun a4 =>
    (cvI .u8 a4).bind fun a5 =>
    litK 1 1 (.int .u8 0) [(0, a5)] H fun a6 H6 E6 =>
    appK 1 1 t4 a6 H6 fun a7 H7 E7 =>
    (binA .sub (Go.TypeDesc.int Go.IntKind.i64) (cmpT Tryd.prog) true t5 (.int .i64 8)).bind fun a8 =>
    sha_Tail_J7 n t0 a7 a8 H7 ((E7 ++ (E6 ++ [])) ++ E))
    (endB false false n (.tup [t4, .nili]) H E)) = some r) : sha_Tail_J7 n t0 t4 t5 H E = some r :=
  loop_step' (by kernel_rfl) hh
theorem sha_Tail_of {r : R3} {x0 : AV} {H : List AObj} (hh : (fun n => (
  (binA .lss (Go.TypeDesc.int Go.IntKind.i64) (cmpT Tryd.prog) true x0 (.int .i64 0)).bind fun a1 =>
  splitK a1
    (endB false false n (.tup [.nils, (.ifc t_api_Code (.int .i64 1))]) H [])
    ((binA .gtr (Go.TypeDesc.int Go.IntKind.i64) (cmpT Tryd.prog) true x0 (.int .i64 1125899906842624)).bind fun a2 =>
    condK a2
      (endB false false n (.tup [.nils, (.ifc t_api_Code (.int .i64 1))]) H [])
      (rawK 1 1 (.int .u8 0) [(0, (.int .u8 128))] H fun a3 H3 E3 =>
      sha_Tail_J4 n x0 a3 H3 (E3 ++ []))))) (List.length H) = some r) : EV C n_sha_Tail [x0] H = some r :=
  EV_of_fnK' (fn := Tryd.f143) (by kernel_rfl) (by kernel_rfl) (by kernel_rfl) hh
noncomputable def sha_Step_J6 (n : Nat) (t2 t4 t8 t22 t23 t24 : AV) (H : List AObj) (E : List Nat) : Option R3 :=
  loopK Tryd.prog C.G (EV C) (C.hint 144) Tryd.f144 (cAt (bodyOf Tryd.f144) [1, 1, 1, 1, 0, 1, 0, 0]) (kAt Tryd.prog C.G (EV C) (C.hint 144) Tryd.f144 (bodyOf Tryd.f144) [1, 1, 1, 1, 0, 1, 0] [] (endK Tryd.prog (C.hint 144) Tryd.f144 n))
    ⟨pat 49 [(2, t2), (4, t4), (8, t8), (22, t22), (23, t23), (24, t24)], H, E⟩
noncomputable def sha_Step_J11 (n : Nat) (t2 t4 t8 t36 : AV) (H : List AObj) (E : List Nat) : Option R3 :=
  loopK Tryd.prog C.G (EV C) (C.hint 144) Tryd.f144 (cAt (bodyOf Tryd.f144) [1, 1, 1, 1, 1, 0, 1, 0, 0]) (kAt Tryd.prog C.G (EV C) (C.hint 144) Tryd.f144 (bodyOf Tryd.f144) [1, 1, 1, 1, 1, 0, 1, 0] [] (endK Tryd.prog (C.hint 144) Tryd.f144 n))
    ⟨pat 49 [(2, t2), (4, t4), (8, t8), (36, t36)], H, E⟩
theorem sha_Step_J6_of {r : R3} {n : Nat} {t2 t4 t8 t22 t23 t24 : AV} {H : List AObj} {E : List Nat} (hh : (
  (binA .lss (Go.TypeDesc.int Go.IntKind.i64) (cmpT Tryd.prog) false t24 t23).bind fun a1 =>
  condK a1
    ((ixA 1 t22 t24 H).bind fun a2 =>
    (loadA false 1 a2 H).bind fun a3 =>
    (loadA true 8 t8 H).bind fun a4 =>
    (arA 64 1 (.ip gl_constants) t24).bind fun a5 =>
    (loadA false 1 a5 H).bind fun a6 =>
    (callD (EV C) n_sha_Round [a4, a6, a3] H).bind fun a7 =>
    stoK 8 t8 a7 H fun H8 E8 =>
    (binA .add (Go.TypeDesc.int Go.IntKind.i64) (cmpT Tryd.prog) true t24 (.int .i64 1)).bind fun a9 =>
    sha_Step_J6 n t2 t4 t8 t22 t23 a9 H8 ((E8 ++ []) ++ E))
    (sha_Step_J11 n t2 t4 t8 (.int .i64 0) H E)) = some r) : sha_Step_J6 n t2 t4 t8 t22 t23 t24 H E = some r :=
  loop_step' (by kernel_rfl) hh
theorem sha_Step_J11_of {r : R3} {n : Nat} {t2 t4 t8 t36 : AV} {H : List AObj} {E : List Nat} (hh : (
  (binA .lss (Go.TypeDesc.int Go.IntKind.i64) (cmpT Tryd.prog) true t36 (.int .i64 8)).bind fun a1 =>
  condK a1
    ((arA 8 1 t2 t36).bind fun a2 =>
    (loadA false 1 a2 H).bind fun a3 =>
    (arA 8 1 t8 t36).bind fun a4 =>
    (loadA false 1 a4 H).bind fun a5 =>
    (binA .add (Go.TypeDesc.int Go.IntKind.u32) (cmpT Tryd.prog) false a3 a5).bind fun a6 =>
    (arA 8 1 t2 t36).bind fun a7 =>
    stoK 1 a7 a6 H fun H8 E8 =>
    (binA .add (Go.TypeDesc.int Go.IntKind.i64) (cmpT Tryd.prog) true t36 (.int .i64 1)).bind fun a9 =>
    sha_Step_J11 n t2 t4 t8 a9 H8 ((E8 ++ []) ++ E))
    ((loadA true 8 t2 H).bind fun a10 =>
    stoK 8 t4 a10 H fun H11 E11 =>
    (loadA true 8 t4 H11).bind fun a12 =>
    endB false false n (.tup [a12, .nili]) H11 (E11 ++ E))) = some r) : sha_Step_J11 n t2 t4 t8 t36 H E = some r :=
  loop_step' (by kernel_rfl) hh
theorem sha_Step_of {r : R3} {x0 x1 : AV} {H : List AObj} (hh : (fun n => (
  newK x0 H fun a1 H1 E1 =>
  newK (.agg [(.int .u32 0), (.int .u32 0), (.int .u32 0), (.int .u32 0), (.int .u32 0), (.int .u32 0), (.int .u32 0), (.int .u32 0)]) H1 fun a2 H2 E2 =>
  callK (EV C) false n_sha_Words [x1] H2 fun a3 H3 E3 =>
  (extA a3 0).bind fun a4 =>
  (extA a3 1).bind fun a5 =>
  (binA .neq (Go.TypeDesc.interface #[("Error", 202)]) (cmpT Tryd.prog) true a5 .nili).bind fun a6 =>
  condK a6
    ((fillB (AV.cells (.agg [(.int .u32 0), (.int .u32 0), (.int .u32 0), (.int .u32 0), (.int .u32 0), (.int .u32 0), (.int .u32 0), (.int .u32 0)])) []).bind fun c7 =>
    stoK 8 a2 (.agg c7) H3 fun H8 E8 =>
    (loadA true 8 a2 H8).bind fun a9 =>
    endB false false n (.tup [a9, a5]) H8 (E8 ++ (E3 ++ (E2 ++ (E1 ++ [])))))
    ((loadA true 8 a1 H3).bind fun a10 =>
    newK (.agg [(.int .u32 0), (.int .u32 0), (.int .u32 0), (.int .u32 0), (.int .u32 0), (.int .u32 0), (.int .u32 0), (.int .u32 0)]) H3 fun a11 H11 E11 =>
    stoK 8 a11 a10 H11 fun H12 E12 =>
    (lenV a4 H12).bind fun a13 =>
    sha_Step_J6 n a1 a2 a11 a4 a13 (.int .i64 0) H12 (E12 ++ (E11 ++ (E3 ++ (E2 ++ (E1 ++ [])))))))) (List.length H) = some r) : EV C n_sha_Step [x0, x1] H = some r :=
  EV_of_fnK' (fn := Tryd.f144) (by kernel_rfl) (by kernel_rfl) (by kernel_rfl) hh
theorem Grow_byte_of {r : R3} {x0 x1 : AV} {H : List AObj} (hh : (fun n => (
  (binA .lss (Go.TypeDesc.int Go.IntKind.i64) (cmpT Tryd.prog) true x1 (.int .i64 0)).bind fun a1 =>
  condK a1
    (none)
    ((capA x0).bind fun a2 =>
    (lenV x0 H).bind fun a3 =>
    (binA .sub (Go.TypeDesc.int Go.IntKind.i64) (cmpT Tryd.prog) false a2 a3).bind fun a4 =>
    (binA .sub (Go.TypeDesc.int Go.IntKind.i64) (cmpT Tryd.prog) false x1 a4).bind fun a5 =>
    (binA .gtr (Go.TypeDesc.int Go.IntKind.i64) (cmpT Tryd.prog) true a5 (.int .i64 0)).bind fun a6 =>
    condK a6
      ((capA x0).bind fun a7 =>
      (cutA 1 x0 none (some a7) none H).bind fun a8 =>
      zapK 1 1 (.int .u8 0) a8 a5 H fun a9 H9 E9 =>
      (lenV x0 H9).bind fun a10 =>
      (cutA 1 a9 none (some a10) none H9).bind fun a11 =>
      trmK a11 H9 [] fun a12 H12 E12 =>
      endB true true n a12 H12 (E12 ++ (E9 ++ [])))
      (endB true true n x0 H [])))) (List.length H) = some r) : EV C n_Grow_byte [x0, x1] H = some r :=
  EV_of_fnK' (fn := Tryd.f145) (by kernel_rfl) (by kernel_rfl) (by kernel_rfl) hh
theorem avl_depth_of {r : R3} {x0 : AV} {H : List AObj} (hh : (fun n => (
  newK x0 H fun a1 H1 E1 =>
  (loadA true 5 a1 H1).bind fun a2 =>
  callK (EV C) false n_avl_even [a2] H1 fun a3 H3 E3 =>
  (extA a3 0).bind fun a4 =>
  (extA a3 1).bind fun a5 =>
  endB false false n a4 H3 (E3 ++ (E1 ++ [])))) (List.length H) = some r) : EV C n_avl_depth [x0] H = some r :=
  EV_of_fnK' (fn := Tryd.f146) (by kernel_rfl) (by kernel_rfl) (by kernel_rfl) hh
theorem avl_left_of {r : R3} {x0 : AV} {H : List AObj} (hh : (fun n => (
  newK x0 H fun a1 H1 E1 =>
  newK (.agg [(.int .i64 0), .nils, .nils, .nils, .nils]) H1 fun a2 H2 E2 =>
  (offA a1 4).bind fun a3 =>
  (loadA false 1 a3 H2).bind fun a4 =>
  (ixA 5 a4 (.int .i64 1) H2).bind fun a5 =>
  (loadA true 5 a5 H2).bind fun a6 =>
  newK (.agg [(.int .i64 0), .nils, .nils, .nils, .nils]) H2 fun a7 H7 E7 =>
  stoK 5 a7 a6 H7 fun H8 E8 =>
  (offA a1 4).bind fun a9 =>
  (loadA false 1 a9 H8).bind fun a10 =>
  (ixA 5 a10 (.int .i64 0) H8).bind fun a11 =>
  (loadA true 5 a11 H8).bind fun a12 =>
  (offA a1 1).bind fun a13 =>
  (loadA false 1 a13 H8).bind fun a14 =>
  (offA a1 2).bind fun a15 =>
  (loadA false 1 a15 H8).bind fun a16 =>
  (offA a7 4).bind fun a17 =>
  (loadA false 1 a17 H8).bind fun a18 =>
  (ixA 5 a18 (.int .i64 0) H8).bind fun a19 =>
  (loadA true 5 a19 H8).bind fun a20 =>
  (callD (EV C) n_avl_node [a12, a14, a16, a20] H8).bind fun a21 =>
  (offA a7 1).bind fun a22 =>
  (loadA false 1 a22 H8).bind fun a23 =>
  (offA a7 2).bind fun a24 =>
  (loadA false 1 a24 H8).bind fun a25 =>
  (offA a7 4).bind fun a26 =>
  (loadA false 1 a26 H8).bind fun a27 =>
  (ixA 5 a27 (.int .i64 1) H8).bind fun a28 =>
  (loadA true 5 a28 H8).bind fun a29 =>
  (callD (EV C) n_avl_node [a21, a23, a25, a29] H8).bind fun a30 =>
  stoK 5 a2 a30 H8 fun H31 E31 =>
  (loadA true 5 a2 H31).bind fun a32 =>
  endB false false n a32 H31 (E31 ++ (E8 ++ (E7 ++ (E2 ++ (E1 ++ []))))))) (List.length H) = some r) : EV C n_avl_left [x0] H = some r :=
  EV_of_fnK' (fn := Tryd.f147) (by kernel_rfl) (by kernel_rfl) (by kernel_rfl) hh
theorem avl_right_of {r : R3} {x0 : AV} {H : List AObj} (hh : (fun n => (
  newK x0 H fun a1 H1 E1 =>
  newK (.agg [(.int .i64 0), .nils, .nils, .nils, .nils]) H1 fun a2 H2 E2 =>
  (offA a1 4).bind fun a3 =>
  (loadA false 1 a3 H2).bind fun a4 =>
  (ixA 5 a4 (.int .i64 0) H2).bind fun a5 =>
  (loadA true 5 a5 H2).bind fun a6 =>
  newK (.agg [(.int .i64 0), .nils, .nils, .nils, .nils]) H2 fun a7 H7 E7 =>
  stoK 5 a7 a6 H7 fun H8 E8 =>
  (offA a7 4).bind fun a9 =>
  (loadA false 1 a9 H8).bind fun a10 =>
  (ixA 5 a10 (.int .i64 0) H8).bind fun a11 =>
  (loadA true 5 a11 H8).bind fun a12 =>
  (offA a7 1).bind fun a13 =>
  (loadA false 1 a13 H8).bind fun a14 =>
  (offA a7 2).bind fun a15 =>
  (loadA false 1 a15 H8).bind fun a16 =>
  (offA a7 4).bind fun a17 =>
  (loadA false 1 a17 H8).bind fun a18 =>
  (ixA 5 a18 (.int .i64 1) H8).bind fun a19 =>
  (loadA true 5 a19 H8).bind fun a20 =>
  (offA a1 1).bind fun a21 =>
  (loadA false 1 a21 H8).bind fun a22 =>
  (offA a1 2).bind fun a23 =>
  (loadA false 1 a23 H8).bind fun a24 =>
  (offA a1 4).bind fun a25 =>
  (loadA false 1 a25 H8).bind fun a26 =>
  (ixA 5 a26 (.int .i64 1) H8).bind fun a27 =>
  (loadA true 5 a27 H8).bind fun a28 =>
  (callD (EV C) n_avl_node [a20, a22, a24, a28] H8).bind fun a29 =>
  (callD (EV C) n_avl_node [a12, a14, a16, a29] H8).bind fun a30 =>
  stoK 5 a2 a30 H8 fun H31 E31 =>
  (loadA true 5 a2 H31).bind fun a32 =>
  endB false false n a32 H31 (E31 ++ (E8 ++ (E7 ++ (E2 ++ (E1 ++ []))))))) (List.length H) = some r) : EV C n_avl_right [x0] H = some r :=
  EV_of_fnK' (fn := Tryd.f148) (by kernel_rfl) (by kernel_rfl) (by kernel_rfl) hh
noncomputable def sha_Words_J5 (n : Nat) (t4 t17 t18 t19 : AV) (H : List AObj) (E : List Nat) : Option R3 :=
  loopK Tryd.prog C.G (EV C) (C.hint 149) Tryd.f149 (cAt (bodyOf Tryd.f149) [1, 1, 1, 0, 1, 0, 0]) (kAt Tryd.prog C.G (EV C) (C.hint 149) Tryd.f149 (bodyOf Tryd.f149) [1, 1, 1, 0, 1, 0] [] (endK Tryd.prog (C.hint 149) Tryd.f149 n))
    ⟨pat 87 [(4, t4), (17, t17), (18, t18), (19, t19)], H, E⟩
noncomputable def sha_Words_J10 (n : Nat) (t4 t7 : AV) (H : List AObj) (E : List Nat) : Option R3 :=
  loopK Tryd.prog C.G (EV C) (C.hint 149) Tryd.f149 (cAt (bodyOf Tryd.f149) [1, 1, 1, 1, 0, 1, 0, 0]) (kAt Tryd.prog C.G (EV C) (C.hint 149) Tryd.f149 (bodyOf Tryd.f149) [1, 1, 1, 1, 0, 1, 0] [] (endK Tryd.prog (C.hint 149) Tryd.f149 n))
    ⟨pat 87 [(4, t4), (7, t7)], H, E⟩
theorem sha_Words_J5_of {r : R3} {n : Nat} {t4 t17 t18 t19 : AV} {H : List AObj} {E : List Nat} (hh : (
  (binA .lss (Go.TypeDesc.int Go.IntKind.i64) (cmpT Tryd.prog) false t19 t18).bind fun a1 =>
  condK a1
    ((ixA 1 t17 t19 H).bind fun a2 =>
    (loadA false 1 a2 H).bind fun a3 =>
    (binA .quo (Go.TypeDesc.int Go.IntKind.i64) (cmpT Tryd.prog) true t19 (.int .i64 4)).bind fun a4 =>
    (binA .quo (Go.TypeDesc.int Go.IntKind.i64) (cmpT Tryd.prog) true t19 (.int .i64 4)).bind fun a5 =>
    (ixA 1 t4 a5 H).bind fun a6 =>
    (loadA false 1 a6 H).bind fun a7 =>
    (binA .shl (Go.TypeDesc.int Go.IntKind.u32) (cmpT Tryd.prog) true a7 (.int .u64 8)).bind fun a8 =>
    (cvI .u32 a3).bind fun a9 =>
    (binA .or (Go.TypeDesc.int Go.IntKind.u32) (cmpT Tryd.prog) false a8 a9).bind fun a10 =>
    (ixA 1 t4 a4 H).bind fun a11 =>
    stoK 1 a11 a10 H fun H12 E12 =>
    (binA .add (Go.TypeDesc.int Go.IntKind.i64) (cmpT Tryd.prog) true t19 (.int .i64 1)).bind fun a13 =>
    sha_Words_J5 n t4 t17 t18 a13 H12 ((E12 ++ []) ++ E))
    (sha_Words_J10 n t4 (.int .i64 16) H E)) = some r) : sha_Words_J5 n t4 t17 t18 t19 H E = some r :=
  loop_step' (by kernel_rfl) hh
theorem sha_Words_J10_of {r : R3} {n : Nat} {t4 t7 : AV} {H : List AObj} {E : List Nat} (hh : (
  (binA .lss (Go.TypeDesc.int Go.IntKind.i64) (cmpT Tryd.prog) true t7 (.int .i64 64)).bind fun a1 =>
  condK a1
    ((binA .sub (Go.TypeDesc.int Go.IntKind.i64) (cmpT Tryd.prog) true t7 (.int .i64 15)).bind fun a2 =>
    (ixA 1 t4 a2 H).bind fun a3 =>
    (loadA false 1 a3 H).bind fun a4 =>
    (binA .sub (Go.TypeDesc.int Go.IntKind.i64) (cmpT Tryd.prog) true t7 (.int .i64 2)).bind fun a5 =>
    (ixA 1 t4 a5 H).bind fun a6 =>
    (loadA false 1 a6 H).bind fun a7 =>
    callK (EV C) false n_math_bits_RotateLeft32 [a4, (.int .i64 (-7))] H fun a8 H8 E8 =>
    callK (EV C) false n_math_bits_RotateLeft32 [a4, (.int .i64 (-18))] H8 fun a9 H9 E9 =>
    (binA .xor (Go.TypeDesc.int Go.IntKind.u32) (cmpT Tryd.prog) false a8 a9).bind fun a10 =>
    (binA .shr (Go.TypeDesc.int Go.IntKind.u32) (cmpT Tryd.prog) true a4 (.int .u64 3)).bind fun a11 =>
    (binA .xor (Go.TypeDesc.int Go.IntKind.u32) (cmpT Tryd.prog) false a10 a11).bind fun a12 =>
    callK (EV C) false n_math_bits_RotateLeft32 [a7, (.int .i64 (-17))] H9 fun a13 H13 E13 =>
    callK (EV C) false n_math_bits_RotateLeft32 [a7, (.int .i64 (-19))] H13 fun a14 H14 E14 =>
    (binA .xor (Go.TypeDesc.int Go.IntKind.u32) (cmpT Tryd.prog) false a13 a14).bind fun a15 =>
    (binA .shr (Go.TypeDesc.int Go.IntKind.u32) (cmpT Tryd.prog) true a7 (.int .u64 10)).bind fun a16 =>
    (binA .xor (Go.TypeDesc.int Go.IntKind.u32) (cmpT Tryd.prog) false a15 a16).bind fun a17 =>
    (binA .sub (Go.TypeDesc.int Go.IntKind.i64) (cmpT Tryd.prog) true t7 (.int .i64 16)).bind fun a18 =>
    (ixA 1 t4 a18 H14).bind fun a19 =>
    (loadA false 1 a19 H14).bind fun a20 =>
    (binA .add (Go.TypeDesc.int Go.IntKind.u32) (cmpT Tryd.prog) false a20 a12).bind fun a21 =>
    (binA .sub (Go.TypeDesc.int Go.IntKind.i64) (cmpT Tryd.prog) true t7 (.int .i64 7)).bind fun a22 =>
    (ixA 1 t4 a22 H14).bind fun a23 =>
    (loadA false 1 a23 H14).bind fun a24 =>
    (binA .add (Go.TypeDesc.int Go.IntKind.u32) (cmpT Tryd.prog) false a21 a24).bind fun a25 =>
    (binA .add (Go.TypeDesc.int Go.IntKind.u32) (cmpT Tryd.prog) false a25 a17).bind fun a26 =>
    (ixA 1 t4 t7 H14).bind fun a27 =>
    stoK 1 a27 a26 H14 fun H28 E28 =>
    (binA .add (Go.TypeDesc.int Go.IntKind.i64) (cmpT Tryd.prog) true t7 (.int .i64 1)).bind fun a29 =>
    sha_Words_J10 n t4 a29 H28 ((E28 ++ (E14 ++ (E13 ++ (E9 ++ (E8 ++ []))))) ++ E))
    (endB false false n (.tup [t4, .nili]) H E)) = some r) : sha_Words_J10 n t4 t7 H E = some r :=
  loop_step' (by kernel_rfl) hh
theorem sha_Words_of {r : R3} {x0 : AV} {H : List AObj} (hh : (fun n => (
  (lenV x0 H).bind fun a1 =>
  (binA .neq (Go.TypeDesc.int Go.IntKind.i64) (cmpT Tryd.prog) true a1 (.int .i64 64)).bind fun a2 =>
  condK a2
    (endB false false n (.tup [.nils, (.ifc t_api_Code (.int .i64 1))]) H [])
    (mkK 1 4 (.int .u32 0) (.int .i64 64) (.int .i64 64) H fun a3 H3 E3 =>
    (lenV x0 H3).bind fun a4 =>
    sha_Words_J5 n a3 x0 a4 (.int .i64 0) H3 (E3 ++ [])))) (List.length H) = some r) : EV C n_sha_Words [x0] H = some r :=
  EV_of_fnK' (fn := Tryd.f149) (by kernel_rfl) (by kernel_rfl) (by kernel_rfl) hh
theorem sha_Round_of {r : R3} {x0 x1 x2 : AV} {H : List AObj} (hh : (fun n => (
  newK x0 H fun a1 H1 E1 =>
  newK (.agg [(.int .u32 0), (.int .u32 0), (.int .u32 0), (.int .u32 0), (.int .u32 0), (.int .u32 0), (.int .u32 0), (.int .u32 0)]) H1 fun a2 H2 E2 =>
  (arA 8 1 a1 (.int .i64 0)).bind fun a3 =>
  (loadA false 1 a3 H2).bind fun a4 =>
  (arA 8 1 a1 (.int .i64 1)).bind fun a5 =>
  (loadA false 1 a5 H2).bind fun a6 =>
  (arA 8 1 a1 (.int .i64 2)).bind fun a7 =>
  (loadA false 1 a7 H2).bind fun a8 =>
  (arA 8 1 a1 (.int .i64 4)).bind fun a9 =>
  (loadA false 1 a9 H2).bind fun a10 =>
  (arA 8 1 a1 (.int .i64 5)).bind fun a11 =>
  (loadA false 1 a11 H2).bind fun a12 =>
  (arA 8 1 a1 (.int .i64 6)).bind fun a13 =>
  (loadA false 1 a13 H2).bind fun a14 =>
  (arA 8 1 a1 (.int .i64 7)).bind fun a15 =>
  (loadA false 1 a15 H2).bind fun a16 =>
  (callD (EV C) n_math_bits_RotateLeft32 [a10, (.int .i64 (-6))] H2).bind fun a17 =>
  (callD (EV C) n_math_bits_RotateLeft32 [a10, (.int .i64 (-11))] H2).bind fun a18 =>
  (binA .xor (Go.TypeDesc.int Go.IntKind.u32) (cmpT Tryd.prog) false a17 a18).bind fun a19 =>
  (callD (EV C) n_math_bits_RotateLeft32 [a10, (.int .i64 (-25))] H2).bind fun a20 =>
  (binA .xor (Go.TypeDesc.int Go.IntKind.u32) (cmpT Tryd.prog) false a19 a20).bind fun a21 =>
  (binA .add (Go.TypeDesc.int Go.IntKind.u32) (cmpT Tryd.prog) false a16 a21).bind fun a22 =>
  (binA .and (Go.TypeDesc.int Go.IntKind.u32) (cmpT Tryd.prog) false a10 a12).bind fun a23 =>
  (unA .xor a10).bind fun a24 =>
  (binA .and (Go.TypeDesc.int Go.IntKind.u32) (cmpT Tryd.prog) false a24 a14).bind fun a25 =>
  (binA .xor (Go.TypeDesc.int Go.IntKind.u32) (cmpT Tryd.prog) false a23 a25).bind fun a26 =>
  (binA .add (Go.TypeDesc.int Go.IntKind.u32) (cmpT Tryd.prog) false a22 a26).bind fun a27 =>
  (binA .add (Go.TypeDesc.int Go.IntKind.u32) (cmpT Tryd.prog) false a27 x1).bind fun a28 =>
  (binA .add (Go.TypeDesc.int Go.IntKind.u32) (cmpT Tryd.prog) false a28 x2).bind fun a29 =>
  callK (EV C) false n_math_bits_RotateLeft32 [a4, (.int .i64 (-2))] H2 fun a30 H30 E30 =>
  callK (EV C) false n_math_bits_RotateLeft32 [a4, (.int .i64 (-13))] H30 fun a31 H31 E31 =>
  (binA .xor (Go.TypeDesc.int Go.IntKind.u32) (cmpT Tryd.prog) false a30 a31).bind fun a32 =>
  callK (EV C) false n_math_bits_RotateLeft32 [a4, (.int .i64 (-22))] H31 fun a33 H33 E33 =>
  (binA .xor (Go.TypeDesc.int Go.IntKind.u32) (cmpT Tryd.prog) false a32 a33).bind fun a34 =>
  (binA .and (Go.TypeDesc.int Go.IntKind.u32) (cmpT Tryd.prog) false a4 a6).bind fun a35 =>
  (binA .and (Go.TypeDesc.int Go.IntKind.u32) (cmpT Tryd.prog) false a4 a8).bind fun a36 =>
  (binA .xor (Go.TypeDesc.int Go.IntKind.u32) (cmpT Tryd.prog) false a35 a36).bind fun a37 =>
  (binA .and (Go.TypeDesc.int Go.IntKind.u32) (cmpT Tryd.prog) false a6 a8).bind fun a38 =>
  (binA .xor (Go.TypeDesc.int Go.IntKind.u32) (cmpT Tryd.prog) false a37 a38).bind fun a39 =>
  (binA .add (Go.TypeDesc.int Go.IntKind.u32) (cmpT Tryd.prog) false a34 a39).bind fun a40 =>
  (binA .add (Go.TypeDesc.int Go.IntKind.u32) (cmpT Tryd.prog) false a29 a40).bind fun a41 =>
  (arA 8 1 a1 (.int .i64 3)).bind fun a42 =>
  (loadA false 1 a42 H33).bind fun a43 =>
  (binA .add (Go.TypeDesc.int Go.IntKind.u32) (cmpT Tryd.prog) false a43 a29).bind fun a44 =>
  (fillB (AV.cells (.agg [(.int .u32 0), (.int .u32 0), (.int .u32 0), (.int .u32 0), (.int .u32 0), (.int .u32 0), (.int .u32 0), (.int .u32 0)])) [(0, 1, a41), (1, 1, a4), (2, 1, a6), (3, 1, a8), (4, 1, a44), (5, 1, a10), (6, 1, a12), (7, 1, a14)]).bind fun c45 =>
  stoK 8 a2 (.agg c45) H33 fun H46 E46 =>
  (loadA true 8 a2 H46).bind fun a47 =>
  endB false false n a47 H46 (E46 ++ (E33 ++ (E31 ++ (E30 ++ (E2 ++ (E1 ++ [])))))))) (List.length H) = some r) : EV C n_sha_Round [x0, x1, x2] H = some r :=
  EV_of_fnK' (fn := Tryd.f150) (by kernel_rfl) (by kernel_rfl) (by kernel_rfl) hh
theorem math_bits_RotateLeft32_of {r : R3} {x0 x1 : AV} {H : List AObj} (hh : (fun n => (
  (cvI .u64 x1).bind fun a1 =>
  (binA .and (Go.TypeDesc.int Go.IntKind.u64) (cmpT Tryd.prog) true a1 (.int .u64 31)).bind fun a2 =>
  (binA .shl (Go.TypeDesc.int Go.IntKind.u32) (cmpT Tryd.prog) false x0 a2).bind fun a3 =>
  (binA .sub (Go.TypeDesc.int Go.IntKind.u64) (cmpT Tryd.prog) true (.int .u64 32) a2).bind fun a4 =>
  (binA .shr (Go.TypeDesc.int Go.IntKind.u32) (cmpT Tryd.prog) false x0 a4).bind fun a5 =>
  (binA .or (Go.TypeDesc.int Go.IntKind.u32) (cmpT Tryd.prog) false a3 a5).bind fun a6 =>
  endB false false n a6 H [])) (List.length H) = some r) : EV C n_math_bits_RotateLeft32 [x0, x1] H = some r :=
  EV_of_fnK' (fn := Tryd.f151) (by kernel_rfl) (by kernel_rfl) (by kernel_rfl) hh
theorem Clone_byte_r_of {r : R3} {x0 : AV} {H : List AObj} (hh : (fun n => (
  (binA .eql (Go.TypeDesc.slice 5) (cmpT Tryd.prog) true x0 .nils).bind fun a1 =>
  condK a1
    (endB true true n .nils H [])
    (rawK 1 0 (.int .u8 0) [] H fun a2 H2 E2 =>
    appK 1 1 a2 x0 H2 fun a3 H3 E3 =>
    endB true true n a3 H3 (E3 ++ (E2 ++ []))))) (List.length H) = some r) : EV C n_Clone_byte_r [x0] H = some r :=
  EV_of_fnK' (fn := Tryd.f36) (by kernel_rfl) (by kernel_rfl) (by kernel_rfl) hh
noncomputable def coder_Number_r_J4 (n : Nat) (t0 t3 : AV) (H : List AObj) (E : List Nat) : Option R3 :=
  loopK Tryd.prog C.G (EV C) (C.hint 1000096) Tryd.f96 (cAt (bodyOf Tryd.f96) [1, 1, 1, 0, 0, 0]) (kAt Tryd.prog C.G (EV C) (C.hint 1000096) Tryd.f96 (bodyOf Tryd.f96) [1, 1, 1, 0, 0] [] (endK Tryd.prog (C.hint 1000096) Tryd.f96 n))
    ⟨pat 43 [(0, t0), (3, t3)], H, E⟩
noncomputable def coder_Number_r_J8 (n : Nat) (t0 t3 t4 t26 t27 : AV) (H : List AObj) (E : List Nat) : Option R3 :=
  loopK Tryd.prog C.G (EV C) (C.hint 1000096) Tryd.f96 (cAt (bodyOf Tryd.f96) [1, 1, 1, 1, 1, 0, 1, 0, 0]) (kAt Tryd.prog C.G (EV C) (C.hint 1000096) Tryd.f96 (bodyOf Tryd.f96) [1, 1, 1, 1, 1, 0, 1, 0] [] (endK Tryd.prog (C.hint 1000096) Tryd.f96 n))
    ⟨pat 43 [(0, t0), (3, t3), (4, t4), (26, t26), (27, t27)], H, E⟩
theorem coder_Number_r_J4_of {r : R3} {n : Nat} {t0 t3 : AV} {H : List AObj} {E : List Nat} (hh : (
  (binA .lss (Go.TypeDesc.int Go.IntKind.i64) (cmpT Tryd.prog) true t3 (.int .i64 8)).bind fun a1 =>
  splitK a1
    ((binA .mul (Go.TypeDesc.int Go.IntKind.i64) (cmpT Tryd.prog) true (.int .i64 8) t3).bind fun a2 =>
    (binA .shr (Go.TypeDesc.int Go.IntKind.u64) (cmpT Tryd.prog) false t0 a2).bind fun a3 =>
    (binA .gtr (Go.TypeDesc.int Go.IntKind.u64) (cmpT Tryd.prog) true a3 (.int .u64 0)).bind fun a4 =>
    condK a4
      ((binA .add (Go.TypeDesc.int Go.IntKind.i64) (cmpT Tryd.prog) true t3 (.int .i64 1)).bind fun a5 =>
      coder_Number_r_J4 n t0 a5 H E)
      ((binA .add (Go.TypeDesc.int Go.IntKind.i64) (cmpT Tryd.prog) true (.int .i64 247) t3).bind fun a6 =>
      (cvI .u8 a6).bind fun a7 =>
      rawK 1 1 (.int .u8 0) [(0, a7)] H fun a8 H8 E8 =>
      coder_Number_r_J8 n t0 t3 a8 t3 (.int .i64 0) H8 (E8 ++ E)))
    ((binA .add (Go.TypeDesc.int Go.IntKind.i64) (cmpT Tryd.prog) true (.int .i64 247) t3).bind fun a9 =>
    (cvI .u8 a9).bind fun a10 =>
    rawK 1 1 (.int .u8 0) [(0, a10)] H fun a11 H11 E11 =>
    coder_Number_r_J8 n t0 t3 a11 t3 (.int .i64 0) H11 (E11 ++ E))) = some r) : coder_Number_r_J4 n t0 t3 H E = some r :=
  loop_step' (by kernel_rfl) hh
theorem coder_Number_r_J8_of {r : R3} {n : Nat} {t0 t3 t4 t26 t27 : AV} {H : List AObj} {E : List Nat} (hh : (
  (binA .lss (Go.TypeDesc.int Go.IntKind.i64) (cmpT Tryd.prog) false t27 t26).bind fun a1 =>
  condK a1
    ((binA .sub (Go.TypeDesc.int Go.IntKind.i64) (cmpT Tryd.prog) true t3 (.int .i64 1)).bind fun a2 =>
    (binA .sub (Go.TypeDesc.int Go.IntKind.i64) (cmpT Tryd.prog) false a2 t27).bind fun a3 =>
    (binA .mul (Go.TypeDesc.int Go.IntKind.i64) (cmpT Tryd.prog) true (.int .i64 8) a3).bind fun a4 =>
    (binA .shr (Go.TypeDesc.int Go.IntKind.u64) (cmpT Tryd.prog) false t0 a4).bind fun a5 =>
    (cvI .u8 a5).bind fun a6 =>
    litK 1 1 (.int .u8 0) [(0, a6)] H fun a7 H7 E7 =>
    appK 1 1 t4 a7 H7 fun a8 H8 E8 =>
    (binA .add (Go.TypeDesc.int Go.IntKind.i64) (cmpT Tryd.prog) true t27 (.int .i64 1)).bind fun a9 =>
    coder_Number_r_J8 n t0 t3 a8 t26 a9 H8 ((E8 ++ (E7 ++ [])) ++ E))
    (endB true true n t4 H E)) = some r) : coder_Number_r_J8 n t0 t3 t4 t26 t27 H E = some r :=
  loop_step' (by kernel_rfl) hh
theorem coder_Number_r_of {r : R3} {x0 : AV} {H : List AObj} (hh : (fun n => (
  (binA .leq (Go.TypeDesc.int Go.IntKind.u64) (cmpT Tryd.prog) true x0 (.int .u64 247)).bind fun a1 =>
  condK a1
    ((cvI .u8 x0).bind fun a2 =>
    rawK 1 1 (.int .u8 0) [(0, a2)] H fun a3 H3 E3 =>
    endB true true n a3 H3 (E3 ++ []))
    (coder_Number_r_J4 n x0 (.int .i64 1) H []))) (List.length H) = some r) : EV C n_coder_Number_r [x0] H = some r :=
  EV_of_fnK' (fn := Tryd.f96) (by kernel_rfl) (by kernel_rfl) (by kernel_rfl) hh
theorem fold_Fold_Root_r_of {r : R3} {x0 x1 : AV} {H : List AObj} (hh : (fun n => (
  callK (EV C) false n_fold_Fold_at [x0, x1] H fun a1 H1 E1 =>
  (extA a1 0).bind fun a2 =>
  (extA a1 1).bind fun a3 =>
  (binA .neq (Go.TypeDesc.interface #[("Error", 202)]) (cmpT Tryd.prog) true a3 .nili).bind fun a4 =>
  condK a4
    (endB true true n (.tup [.nils, a3]) H1 (E1 ++ []))
    ((nilA a2).bind fun a5 =>
    (offA a5 5).bind fun a6 =>
    (loadA false 1 a6 H1).bind fun a7 =>
    (binA .eql (Go.TypeDesc.slice 5) (cmpT Tryd.prog) true a7 .nils).bind fun a8 =>
    condK a8
      ((nilA a2).bind fun a9 =>
      (offA a9 0).bind fun a10 =>
      (loadA true 5 a10 H1).bind fun a11 =>
      callK (EV C) false n_tree_Digest [(.int .i64 32), a11] H1 fun a12 H12 E12 =>
      (extA a12 0).bind fun a13 =>
      (extA a12 1).bind fun a14 =>
      (nilA a2).bind fun a15 =>
      (offA a15 5).bind fun a16 =>
      stoK 1 a16 a13 H12 fun H17 E17 =>
      (binA .neq (Go.TypeDesc.interface #[("Error", 202)]) (cmpT Tryd.prog) true a14 .nili).bind fun a18 =>
      condK a18
        (endB true true n (.tup [.nils, a14]) H17 (E17 ++ (E12 ++ (E1 ++ []))))
        ((nilA a2).bind fun a19 =>
        (offA a19 5).bind fun a20 =>
        (loadA false 1 a20 H17).bind fun a21 =>
        callK (EV C) true n_Clone_byte_r [a21] H17 fun a22 H22 E22 =>
        endB true true n (.tup [a22, .nili]) H22 (E22 ++ (E17 ++ (E12 ++ (E1 ++ []))))))
      ((nilA a2).bind fun a23 =>
      (offA a23 5).bind fun a24 =>
      (loadA false 1 a24 H1).bind fun a25 =>
      callK (EV C) true n_Clone_byte_r [a25] H1 fun a26 H26 E26 =>
      endB true true n (.tup [a26, .nili]) H26 (E26 ++ (E1 ++ [])))))) (List.length H) = some r) : EV C n_fold_Fold_Root_r [x0, x1] H = some r :=
  EV_of_fnK' (fn := Tryd.f24) (by kernel_rfl) (by kernel_rfl) (by kernel_rfl) hh
end Go.Pm
