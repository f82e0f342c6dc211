/- A part of the proof: what the functions of the program answer, as plain lists and numbers. -/
import Derived.Test.YtaoklfecdcakbaaP9
namespace Go.Pm
open Go.Proofs
set_option linter.unusedVariables false
set_option maxRecDepth 100000
theorem fold_New_of {r : R3} {x0 x1 : AV} {H : List AObj} (hh : (fun n => (
  newK x1 H fun a1 H1 E1 =>
  (binA .lss (Go.TypeDesc.int Go.IntKind.i64) (cmpT Try.prog) true x0 (.int .i64 0)).bind fun a2 =>
  splitK a2
    (endB true true n (.tup [.nilp, (.ifc t_api_Code (.int .i64 1))]) H1 (E1 ++ []))
    ((binA .gtr (Go.TypeDesc.int Go.IntKind.i64) (cmpT Try.prog) true x0 (.int .i64 1152921504606846976)).bind fun a3 =>
    condK a3
      (endB true true n (.tup [.nilp, (.ifc t_api_Code (.int .i64 1))]) H1 (E1 ++ []))
      ((loadA true 5 a1 H1).bind fun a4 =>
      callK (EV C) false n_avl_Is [a4] H1 fun a5 H5 E5 =>
      (unA .not a5).bind fun a6 =>
      condK a6
        (endB true true n (.tup [.nilp, (.ifc t_api_Code (.int .i64 3))]) H5 (E5 ++ (E1 ++ [])))
        ((loadA true 5 a1 H5).bind fun a7 =>
        (fillB (AV.cells (.agg [(.int .i64 0), .nils, .nils, .nils, .nils, .nils])) [(0, 5, a7)]).bind fun c8 =>
        rawK 6 1 (.agg [(.int .i64 0), .nils, .nils, .nils, .nils, .nils]) [(0, (.agg c8))] H5 fun a9 H9 E9 =>
        (fillB (AV.cells (.agg [(.int .i64 0), .nils])) [(0, 1, x0), (1, 1, a9)]).bind fun c10 =>
        newK (.agg c10) H9 fun a11 H11 E11 =>
        endB true true n (.tup [a11, .nili]) H11 (E11 ++ (E9 ++ (E5 ++ (E1 ++ []))))))))) (List.length H) = some r) : EV C n_fold_New [x0, x1] H = some r :=
  EV_of_fnK' (fn := Try.f32) (by kernel_rfl) (by kernel_rfl) (by kernel_rfl) hh
theorem fold_Fold_First_of {r : R3} {x0 : AV} {H : List AObj} (hh : (fun n => (
  (nilA x0).bind fun a1 =>
  (offA a1 0).bind fun a2 =>
  (loadA false 1 a2 H).bind fun a3 =>
  endB false false n a3 H [])) (List.length H) = some r) : EV C n_fold_Fold_First [x0] H = some r :=
  EV_of_fnK' (fn := Try.f33) (by kernel_rfl) (by kernel_rfl) (by kernel_rfl) hh
theorem fold_Fold_Last_of {r : R3} {x0 : AV} {H : List AObj} (hh : (fun n => (
  (nilA x0).bind fun a1 =>
  (offA a1 0).bind fun a2 =>
  (loadA false 1 a2 H).bind fun a3 =>
  (nilA x0).bind fun a4 =>
  (offA a4 1).bind fun a5 =>
  (loadA false 1 a5 H).bind fun a6 =>
  (lenV a6 H).bind fun a7 =>
  (binA .add (Go.TypeDesc.int Go.IntKind.i64) (cmpT Try.prog) false a3 a7).bind fun a8 =>
  (binA .sub (Go.TypeDesc.int Go.IntKind.i64) (cmpT Try.prog) true a8 (.int .i64 1)).bind fun a9 =>
  endB false false n a9 H [])) (List.length H) = some r) : EV C n_fold_Fold_Last [x0] H = some r :=
  EV_of_fnK' (fn := Try.f34) (by kernel_rfl) (by kernel_rfl) (by kernel_rfl) hh
theorem fold_Fold_Apply_of {r : R3} {x0 x1 : AV} {H : List AObj} (hh : (fun n => (
  newK x1 H fun a1 H1 E1 =>
  (nilA x0).bind fun a2 =>
  (offA a2 1).bind fun a3 =>
  (loadA false 1 a3 H1).bind fun a4 =>
  (nilA x0).bind fun a5 =>
  (offA a5 1).bind fun a6 =>
  (loadA false 1 a6 H1).bind fun a7 =>
  (lenV a7 H1).bind fun a8 =>
  (binA .sub (Go.TypeDesc.int Go.IntKind.i64) (cmpT Try.prog) true a8 (.int .i64 1)).bind fun a9 =>
  (ixA 6 a4 a9 H1).bind fun a10 =>
  (loadA true 6 a10 H1).bind fun a11 =>
  newK (.agg [(.int .i64 0), .nils, .nils, .nils, .nils, .nils]) H1 fun a12 H12 E12 =>
  drawK (((loadA false 1 a3 H12).bind fun a13 =>
  some a13) = some a4)
  (drawK (((loadA false 1 a6 H12).bind fun a14 =>
  some a14) = some a7)
  (drawK (((lenV a7 H12).bind fun a15 =>
  some a15) = some a8)
  (drawK (((ixA 6 a4 a9 H12).bind fun a16 =>
  some a16) = some a10)
  (drawK (((loadA true 6 a10 H12).bind fun a17 =>
  some a17) = some a11)
  (stoK 6 a12 a11 H12 fun H18 E18 =>
  (offA a1 1).bind fun a19 =>
  (loadA false 1 a19 H18).bind fun a20 =>
  (binA .eql (Go.TypeDesc.int Go.IntKind.i64) (cmpT Try.prog) true a20 (.int .i64 1)).bind fun a21 =>
  condK a21
    ((offA a12 0).bind fun a22 =>
    (loadA true 5 a22 H18).bind fun a23 =>
    (offA a1 2).bind fun a24 =>
    (loadA false 1 a24 H18).bind fun a25 =>
    callK (EV C) false n_command_Apply [a23, a25] H18 fun a26 H26 E26 =>
    (extA a26 0).bind fun a27 =>
    (extA a26 1).bind fun a28 =>
    (extA a26 2).bind fun a29 =>
    newK (.agg [(.int .i64 0), .nils, .nils, .nils, .nils]) H26 fun a30 H30 E30 =>
    stoK 5 a30 a27 H30 fun H31 E31 =>
    (binA .eql (Go.TypeDesc.interface #[("Error", 118)]) (cmpT Try.prog) true a29 .nili).bind fun a32 =>
    condK a32
      ((loadA true 5 a30 H31).bind fun a33 =>
      (fillB (AV.cells (.agg [(.int .i64 0), .nils, .nils, .nils, .nils, .nils])) [(0, 5, a33)]).bind fun c34 =>
      stoK 6 a12 (.agg c34) H31 fun H35 E35 =>
      (nilA x0).bind fun a36 =>
      (offA a36 1).bind fun a37 =>
      (loadA false 1 a37 H35).bind fun a38 =>
      (loadA true 6 a12 H35).bind fun a39 =>
      (litD 6 1 (.agg [(.int .i64 0), .nils, .nils, .nils, .nils, .nils]) [(0, a39)] H35).bind fun a40 =>
      appK 6 128 a38 a40 H35 fun a41 H41 E41 =>
      (nilA x0).bind fun a42 =>
      (offA a42 1).bind fun a43 =>
      stoK 1 a43 a41 H41 fun H44 E44 =>
      endB false false n a28 H44 (E44 ++ (E41 ++ (E35 ++ (E31 ++ (E30 ++ (E26 ++ (E18 ++ (E12 ++ (E1 ++ []))))))))))
      ((nilA x0).bind fun a45 =>
      (offA a45 1).bind fun a46 =>
      (loadA false 1 a46 H31).bind fun a47 =>
      (loadA true 6 a12 H31).bind fun a48 =>
      (litD 6 1 (.agg [(.int .i64 0), .nils, .nils, .nils, .nils, .nils]) [(0, a48)] H31).bind fun a49 =>
      appK 6 128 a47 a49 H31 fun a50 H50 E50 =>
      (nilA x0).bind fun a51 =>
      (offA a51 1).bind fun a52 =>
      stoK 1 a52 a50 H50 fun H53 E53 =>
      endB false false n (.int .i64 0) H53 (E53 ++ (E50 ++ (E31 ++ (E30 ++ (E26 ++ (E18 ++ (E12 ++ (E1 ++ []))))))))))
    ((nilA x0).bind fun a54 =>
    (offA a54 1).bind fun a55 =>
    (loadA false 1 a55 H18).bind fun a56 =>
    (loadA true 6 a12 H18).bind fun a57 =>
    (litD 6 1 (.agg [(.int .i64 0), .nils, .nils, .nils, .nils, .nils]) [(0, a57)] H18).bind fun a58 =>
    appK 6 128 a56 a58 H18 fun a59 H59 E59 =>
    (nilA x0).bind fun a60 =>
    (offA a60 1).bind fun a61 =>
    stoK 1 a61 a59 H59 fun H62 E62 =>
    endB false false n (.int .i64 0) H62 (E62 ++ (E59 ++ (E18 ++ (E12 ++ (E1 ++ []))))))))))))) (List.length H) = some r) : EV C n_fold_Fold_Apply [x0, x1] H = some r :=
  EV_of_fnK' (fn := Try.f65) (by kernel_rfl) (by kernel_rfl) (by kernel_rfl) hh
theorem law13_up_of {r : R3} {H : List AObj} (hh : (fun n => (
  (fillB (AV.cells (.agg [(.int .i64 0), .nils, .nils, .nils, .nils])) []).bind fun c1 =>
  callK (EV C) true n_fold_New [(.int .i64 3), (.agg c1)] H fun a2 H2 E2 =>
  (extA a2 0).bind fun a3 =>
  (extA a2 1).bind fun a4 =>
  (fillB (AV.cells (.agg [(.int .i64 0), .nils, .nils, .nils, .nils])) []).bind fun c5 =>
  callK (EV C) true n_fold_New [(.int .i64 (-1)), (.agg c5)] H2 fun a6 H6 E6 =>
  (extA a6 0).bind fun a7 =>
  (extA a6 1).bind fun a8 =>
  (binA .eql (Go.TypeDesc.pointer 102) (cmpT Try.prog) true a3 .nilp).bind fun a9 =>
  splitK a9
    (endB false false n (.bool false) H6 (E6 ++ (E2 ++ [])))
    ((binA .neq (Go.TypeDesc.interface #[("Error", 118)]) (cmpT Try.prog) true a4 .nili).bind fun a10 =>
    splitK a10
      (endB false false n (.bool false) H6 (E6 ++ (E2 ++ [])))
      ((binA .neq (Go.TypeDesc.interface #[("Error", 118)]) (cmpT Try.prog) false a8 (.ifc t_api_Code (.int .i64 1))).bind fun a11 =>
      condK a11
        (endB false false n (.bool false) H6 (E6 ++ (E2 ++ [])))
        ((fillB (AV.cells (.agg [(.int .i64 0), (.int .i64 0), .nils])) []).bind fun c12 =>
        callK (EV C) false n_fold_Fold_Apply [a3, (.agg c12)] H6 fun a13 H13 E13 =>
        callK (EV C) false n_fold_Fold_First [a3] H13 fun a14 H14 E14 =>
        (binA .eql (Go.TypeDesc.int Go.IntKind.i64) (cmpT Try.prog) true a14 (.int .i64 3)).bind fun a15 =>
        splitK a15
          (callK (EV C) false n_fold_Fold_Last [a3] H14 fun a16 H16 E16 =>
          (binA .eql (Go.TypeDesc.int Go.IntKind.i64) (cmpT Try.prog) true a16 (.int .i64 4)).bind fun a17 =>
          endB false false n a17 H16 (E16 ++ (E14 ++ (E13 ++ (E6 ++ (E2 ++ []))))))
          (endB false false n (.bool false) H14 (E14 ++ (E13 ++ (E6 ++ (E2 ++ [])))))))))) (List.length H) = some r) : EV C n_law13_up [] H = some r :=
  EV_of_fnK' (fn := Try.f30) (by kernel_rfl) (by kernel_rfl) (by kernel_rfl) hh
theorem law13_FoldNew_of {r : R3} {x0 x1 : AV} {H : List AObj} (hh : (fun n => (
  newK x1 H fun a1 H1 E1 =>
  callK (EV C) false n_law13_up [] H1 fun a2 H2 E2 =>
  (loadA true 5 a1 H2).bind fun a3 =>
  callK (EV C) false n_ref04_Light [a3, (.int .i64 300), (.int .i64 100)] H2 fun a4 H4 E4 =>
  (binA .lss (Go.TypeDesc.int Go.IntKind.i64) (cmpT Try.prog) true a4 (.int .i64 0)).bind fun a5 =>
  condK a5
    (endB false false n a2 H4 (E4 ++ (E2 ++ (E1 ++ []))))
    ((loadA true 5 a1 H4).bind fun a6 =>
    callK (EV C) true n_fold_New [x0, a6] H4 fun a7 H7 E7 =>
    (extA a7 0).bind fun a8 =>
    (extA a7 1).bind fun a9 =>
    (binA .lss (Go.TypeDesc.int Go.IntKind.i64) (cmpT Try.prog) true x0 (.int .i64 0)).bind fun a10 =>
    splitK a10
      (splitK a2
        ((binA .eql (Go.TypeDesc.pointer 102) (cmpT Try.prog) true a8 .nilp).bind fun a11 =>
        splitK a11
          ((binA .eql (Go.TypeDesc.interface #[("Error", 118)]) (cmpT Try.prog) false a9 (.ifc t_api_Code (.int .i64 1))).bind fun a12 =>
          endB false false n a12 H7 (E7 ++ (E4 ++ (E2 ++ (E1 ++ [])))))
          (endB false false n (.bool false) H7 (E7 ++ (E4 ++ (E2 ++ (E1 ++ []))))))
        (endB false false n (.bool false) H7 (E7 ++ (E4 ++ (E2 ++ (E1 ++ []))))))
      ((binA .gtr (Go.TypeDesc.int Go.IntKind.i64) (cmpT Try.prog) true x0 (.int .i64 1152921504606846976)).bind fun a13 =>
      condK a13
        (splitK a2
          ((binA .eql (Go.TypeDesc.pointer 102) (cmpT Try.prog) true a8 .nilp).bind fun a14 =>
          splitK a14
            ((binA .eql (Go.TypeDesc.interface #[("Error", 118)]) (cmpT Try.prog) false a9 (.ifc t_api_Code (.int .i64 1))).bind fun a15 =>
            endB false false n a15 H7 (E7 ++ (E4 ++ (E2 ++ (E1 ++ [])))))
            (endB false false n (.bool false) H7 (E7 ++ (E4 ++ (E2 ++ (E1 ++ []))))))
          (endB false false n (.bool false) H7 (E7 ++ (E4 ++ (E2 ++ (E1 ++ []))))))
        ((loadA true 5 a1 H7).bind fun a16 =>
        callK (EV C) false n_ref05_Is [a16] H7 fun a17 H17 E17 =>
        (unA .not a17).bind fun a18 =>
        condK a18
          (splitK a2
            ((binA .eql (Go.TypeDesc.pointer 102) (cmpT Try.prog) true a8 .nilp).bind fun a19 =>
            splitK a19
              ((binA .eql (Go.TypeDesc.interface #[("Error", 118)]) (cmpT Try.prog) false a9 (.ifc t_api_Code (.int .i64 3))).bind fun a20 =>
              endB false false n a20 H17 (E17 ++ (E7 ++ (E4 ++ (E2 ++ (E1 ++ []))))))
              (endB false false n (.bool false) H17 (E17 ++ (E7 ++ (E4 ++ (E2 ++ (E1 ++ [])))))))
            (endB false false n (.bool false) H17 (E17 ++ (E7 ++ (E4 ++ (E2 ++ (E1 ++ [])))))))
          (splitK a2
            ((binA .neq (Go.TypeDesc.pointer 102) (cmpT Try.prog) true a8 .nilp).bind fun a21 =>
            splitK a21
              ((binA .eql (Go.TypeDesc.interface #[("Error", 118)]) (cmpT Try.prog) true a9 .nili).bind fun a22 =>
              splitK a22
                (callK (EV C) false n_fold_Fold_First [a8] H17 fun a23 H23 E23 =>
                (binA .eql (Go.TypeDesc.int Go.IntKind.i64) (cmpT Try.prog) false a23 x0).bind fun a24 =>
                splitK a24
                  (callK (EV C) false n_fold_Fold_Last [a8] H23 fun a25 H25 E25 =>
                  (binA .eql (Go.TypeDesc.int Go.IntKind.i64) (cmpT Try.prog) false a25 x0).bind fun a26 =>
                  endB false false n a26 H25 (E25 ++ (E23 ++ (E17 ++ (E7 ++ (E4 ++ (E2 ++ (E1 ++ []))))))))
                  (endB false false n (.bool false) H23 (E23 ++ (E17 ++ (E7 ++ (E4 ++ (E2 ++ (E1 ++ []))))))))
                (endB false false n (.bool false) H17 (E17 ++ (E7 ++ (E4 ++ (E2 ++ (E1 ++ [])))))))
              (endB false false n (.bool false) H17 (E17 ++ (E7 ++ (E4 ++ (E2 ++ (E1 ++ [])))))))
            (endB false false n (.bool false) H17 (E17 ++ (E7 ++ (E4 ++ (E2 ++ (E1 ++ [])))))))))))) (List.length H) = some r) : EV C n_law13_FoldNew [x0, x1] H = some r :=
  EV_of_fnK' (fn := Try.f9) (by kernel_rfl) (by kernel_rfl) (by kernel_rfl) hh
end Go.Pm
