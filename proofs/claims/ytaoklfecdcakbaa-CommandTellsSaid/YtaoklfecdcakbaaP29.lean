/- A part of the proof: what the functions of the program answer, as plain lists and numbers. -/
import Derived.Test.YtaoklfecdcakbaaP9
namespace Go.Pm
open Go.Proofs
set_option linter.unusedVariables false
set_option maxRecDepth 100000
theorem command_Write_of {r : R3} {x0 : AV} {H : List AObj} (hh : (fun n => (
  newK x0 H fun a1 H1 E1 =>
  (offA a1 2).bind fun a2 =>
  (loadA false 1 a2 H1).bind fun a3 =>
  (binA .eql (Go.TypeDesc.int Go.IntKind.i64) (cmpT Try.prog) true a3 (.int .i64 1)).bind fun a4 =>
  (unA .not a4).bind fun a5 =>
  splitK a5
    ((offA a1 2).bind fun a6 =>
    (loadA false 1 a6 H1).bind fun a7 =>
    (binA .neq (Go.TypeDesc.int Go.IntKind.i64) (cmpT Try.prog) true a7 (.int .i64 2)).bind fun a8 =>
    splitK a8
      (endB false false n (.tup [.nils, (.ifc t_api_Code (.int .i64 1))]) H1 (E1 ++ []))
      ((offA a1 4).bind fun a9 =>
      (loadA false 1 a9 H1).bind fun a10 =>
      (lenV a10 H1).bind fun a11 =>
      (binA .gtr (Go.TypeDesc.int Go.IntKind.i64) (cmpT Try.prog) true a11 (.int .i64 0)).bind fun a12 =>
      splitK a12
        (endB false false n (.tup [.nils, (.ifc t_api_Code (.int .i64 1))]) H1 (E1 ++ []))
        ((offA a1 3).bind fun a13 =>
        (loadA false 1 a13 H1).bind fun a14 =>
        (lenV a14 H1).bind fun a15 =>
        (binA .gtr (Go.TypeDesc.int Go.IntKind.i64) (cmpT Try.prog) true a15 (.int .i64 64)).bind fun a16 =>
        splitK a16
          (endB false false n (.tup [.nils, (.ifc t_api_Code (.int .i64 1))]) H1 (E1 ++ []))
          ((offA a1 4).bind fun a17 =>
          (loadA false 1 a17 H1).bind fun a18 =>
          (lenV a18 H1).bind fun a19 =>
          (binA .gtr (Go.TypeDesc.int Go.IntKind.i64) (cmpT Try.prog) true a19 (.int .i64 1024)).bind fun a20 =>
          condK a20
            (endB false false n (.tup [.nils, (.ifc t_api_Code (.int .i64 1))]) H1 (E1 ++ []))
            ((offA a1 0).bind fun a21 =>
            (loadA false 1 a21 H1).bind fun a22 =>
            (callD (EV C) n_coder_Number [a22] H1).bind fun a23 =>
            (offA a1 1).bind fun a24 =>
            (loadA false 1 a24 H1).bind fun a25 =>
            (callD (EV C) n_coder_Number [a25] H1).bind fun a26 =>
            (offA a1 2).bind fun a27 =>
            (loadA false 1 a27 H1).bind fun a28 =>
            (cvI .u8 a28).bind fun a29 =>
            (litD 1 1 (.int .u8 0) [(0, a29)] H1).bind fun a30 =>
            (offA a1 3).bind fun a31 =>
            (loadA false 1 a31 H1).bind fun a32 =>
            (callD (EV C) n_coder_Bytes [a32] H1).bind fun a33 =>
            (offA a1 4).bind fun a34 =>
            (loadA false 1 a34 H1).bind fun a35 =>
            (callD (EV C) n_coder_Bytes [a35] H1).bind fun a36 =>
            (litD 1 5 .nils [(0, a23), (1, a26), (2, a30), (3, a33), (4, a36)] H1).bind fun a37 =>
            (callD (EV C) n_Concat_byte [a37] H1).bind fun a38 =>
            endB false false n (.tup [a38, .nili]) H1 (E1 ++ []))))))
    ((offA a1 3).bind fun a39 =>
    (loadA false 1 a39 H1).bind fun a40 =>
    (lenV a40 H1).bind fun a41 =>
    (binA .gtr (Go.TypeDesc.int Go.IntKind.i64) (cmpT Try.prog) true a41 (.int .i64 64)).bind fun a42 =>
    splitK a42
      (endB false false n (.tup [.nils, (.ifc t_api_Code (.int .i64 1))]) H1 (E1 ++ []))
      ((offA a1 4).bind fun a43 =>
      (loadA false 1 a43 H1).bind fun a44 =>
      (lenV a44 H1).bind fun a45 =>
      (binA .gtr (Go.TypeDesc.int Go.IntKind.i64) (cmpT Try.prog) true a45 (.int .i64 1024)).bind fun a46 =>
      condK a46
        (endB false false n (.tup [.nils, (.ifc t_api_Code (.int .i64 1))]) H1 (E1 ++ []))
        ((offA a1 0).bind fun a47 =>
        (loadA false 1 a47 H1).bind fun a48 =>
        (callD (EV C) n_coder_Number [a48] H1).bind fun a49 =>
        (offA a1 1).bind fun a50 =>
        (loadA false 1 a50 H1).bind fun a51 =>
        (callD (EV C) n_coder_Number [a51] H1).bind fun a52 =>
        (offA a1 2).bind fun a53 =>
        (loadA false 1 a53 H1).bind fun a54 =>
        (cvI .u8 a54).bind fun a55 =>
        (litD 1 1 (.int .u8 0) [(0, a55)] H1).bind fun a56 =>
        (offA a1 3).bind fun a57 =>
        (loadA false 1 a57 H1).bind fun a58 =>
        (callD (EV C) n_coder_Bytes [a58] H1).bind fun a59 =>
        (offA a1 4).bind fun a60 =>
        (loadA false 1 a60 H1).bind fun a61 =>
        (callD (EV C) n_coder_Bytes [a61] H1).bind fun a62 =>
        (litD 1 5 .nils [(0, a49), (1, a52), (2, a56), (3, a59), (4, a62)] H1).bind fun a63 =>
        (callD (EV C) n_Concat_byte [a63] H1).bind fun a64 =>
        endB false false n (.tup [a64, .nili]) H1 (E1 ++ [])))))) (List.length H) = some r) : EV C n_command_Write [x0] H = some r :=
  EV_of_fnK' (fn := Try.f11) (by kernel_rfl) (by kernel_rfl) (by kernel_rfl) hh
theorem ref12_May_of {r : R3} {x0 : AV} {H : List AObj} (hh : (fun n => (
  newK x0 H fun a1 H1 E1 =>
  (offA a1 3).bind fun a2 =>
  (loadA false 1 a2 H1).bind fun a3 =>
  (lenV a3 H1).bind fun a4 =>
  (binA .gtr (Go.TypeDesc.int Go.IntKind.i64) (cmpT Try.prog) true a4 (.int .i64 64)).bind fun a5 =>
  splitK a5
    (endB false false n (.bool false) H1 (E1 ++ []))
    ((offA a1 4).bind fun a6 =>
    (loadA false 1 a6 H1).bind fun a7 =>
    (lenV a7 H1).bind fun a8 =>
    (binA .gtr (Go.TypeDesc.int Go.IntKind.i64) (cmpT Try.prog) true a8 (.int .i64 1024)).bind fun a9 =>
    condK a9
      (endB false false n (.bool false) H1 (E1 ++ []))
      ((offA a1 2).bind fun a10 =>
      (loadA false 1 a10 H1).bind fun a11 =>
      (binA .eql (Go.TypeDesc.int Go.IntKind.i64) (cmpT Try.prog) true a11 (.int .i64 1)).bind fun a12 =>
      splitK a12
        (endB false false n (.bool true) H1 (E1 ++ []))
        ((offA a1 2).bind fun a13 =>
        (loadA false 1 a13 H1).bind fun a14 =>
        (binA .eql (Go.TypeDesc.int Go.IntKind.i64) (cmpT Try.prog) true a14 (.int .i64 2)).bind fun a15 =>
        splitK a15
          ((offA a1 4).bind fun a16 =>
          (loadA false 1 a16 H1).bind fun a17 =>
          (lenV a17 H1).bind fun a18 =>
          (binA .eql (Go.TypeDesc.int Go.IntKind.i64) (cmpT Try.prog) true a18 (.int .i64 0)).bind fun a19 =>
          endB false false n a19 H1 (E1 ++ []))
          (endB false false n (.bool false) H1 (E1 ++ []))))))) (List.length H) = some r) : EV C n_ref12_May [x0] H = some r :=
  EV_of_fnK' (fn := Try.f12) (by kernel_rfl) (by kernel_rfl) (by kernel_rfl) hh
theorem command_Read_of {r : R3} {x0 : AV} {H : List AObj} (hh : (fun n => (
  newK (.agg [(.int .u64 0), (.int .u64 0), (.int .i64 0), .nils, .nils]) H fun a1 H1 E1 =>
  callK (EV C) true n_coder_NewReader [x0] H1 fun a2 H2 E2 =>
  callK (EV C) false n_coder_Reader_Number [a2] H2 fun a3 H3 E3 =>
  callK (EV C) false n_coder_Reader_Number [a2] H3 fun a4 H4 E4 =>
  callK (EV C) false n_coder_Reader_Byte [a2] H4 fun a5 H5 E5 =>
  (cvI .i64 a5).bind fun a6 =>
  callK (EV C) false n_coder_Reader_Bytes [a2, (.int .i64 64)] H5 fun a7 H7 E7 =>
  callK (EV C) false n_coder_Reader_Bytes [a2, (.int .i64 1024)] H7 fun a8 H8 E8 =>
  (fillB (AV.cells (.agg [(.int .u64 0), (.int .u64 0), (.int .i64 0), .nils, .nils])) [(0, 1, a3), (1, 1, a4), (2, 1, a6), (3, 1, a7), (4, 1, a8)]).bind fun c9 =>
  newK (.agg [(.int .u64 0), (.int .u64 0), (.int .i64 0), .nils, .nils]) H8 fun a10 H10 E10 =>
  stoK 5 a10 (.agg c9) H10 fun H11 E11 =>
  callK (EV C) false n_coder_Reader_End [a2] H11 fun a12 H12 E12 =>
  (loadA true 5 a10 H12).bind fun a13 =>
  callK (EV C) false n_command_Write [a13] H12 fun a14 H14 E14 =>
  (extA a14 0).bind fun a15 =>
  (extA a14 1).bind fun a16 =>
  (binA .neq (Go.TypeDesc.interface #[("Error", 118)]) (cmpT Try.prog) true a16 .nili).bind fun a17 =>
  splitK a17
    ((binA .neq (Go.TypeDesc.interface #[("Error", 118)]) (cmpT Try.prog) false a12 (.ifc t_api_Code (.int .i64 3))).bind fun a18 =>
    condK a18
      ((binA .neq (Go.TypeDesc.interface #[("Error", 118)]) (cmpT Try.prog) true (.ifc t_api_Code (.int .i64 3)) .nili).bind fun a19 =>
      condK a19
        ((fillB (AV.cells (.agg [(.int .u64 0), (.int .u64 0), (.int .i64 0), .nils, .nils])) []).bind fun c20 =>
        stoK 5 a1 (.agg c20) H14 fun H21 E21 =>
        (loadA true 5 a1 H21).bind fun a22 =>
        endB false false n (.tup [a22, (.ifc t_api_Code (.int .i64 3))]) H21 (E21 ++ (E14 ++ (E12 ++ (E11 ++ (E10 ++ (E8 ++ (E7 ++ (E5 ++ (E4 ++ (E3 ++ (E2 ++ (E1 ++ [])))))))))))))
        ((loadA true 5 a10 H14).bind fun a23 =>
        stoK 5 a1 a23 H14 fun H24 E24 =>
        (loadA true 5 a1 H24).bind fun a25 =>
        endB false false n (.tup [a25, .nili]) H24 (E24 ++ (E14 ++ (E12 ++ (E11 ++ (E10 ++ (E8 ++ (E7 ++ (E5 ++ (E4 ++ (E3 ++ (E2 ++ (E1 ++ []))))))))))))))
      ((binA .neq (Go.TypeDesc.interface #[("Error", 118)]) (cmpT Try.prog) true a12 .nili).bind fun a26 =>
      condK a26
        ((fillB (AV.cells (.agg [(.int .u64 0), (.int .u64 0), (.int .i64 0), .nils, .nils])) []).bind fun c27 =>
        stoK 5 a1 (.agg c27) H14 fun H28 E28 =>
        (loadA true 5 a1 H28).bind fun a29 =>
        endB false false n (.tup [a29, a12]) H28 (E28 ++ (E14 ++ (E12 ++ (E11 ++ (E10 ++ (E8 ++ (E7 ++ (E5 ++ (E4 ++ (E3 ++ (E2 ++ (E1 ++ [])))))))))))))
        ((loadA true 5 a10 H14).bind fun a30 =>
        stoK 5 a1 a30 H14 fun H31 E31 =>
        (loadA true 5 a1 H31).bind fun a32 =>
        endB false false n (.tup [a32, .nili]) H31 (E31 ++ (E14 ++ (E12 ++ (E11 ++ (E10 ++ (E8 ++ (E7 ++ (E5 ++ (E4 ++ (E3 ++ (E2 ++ (E1 ++ [])))))))))))))))
    ((binA .neq (Go.TypeDesc.interface #[("Error", 118)]) (cmpT Try.prog) true a12 .nili).bind fun a33 =>
    condK a33
      ((fillB (AV.cells (.agg [(.int .u64 0), (.int .u64 0), (.int .i64 0), .nils, .nils])) []).bind fun c34 =>
      stoK 5 a1 (.agg c34) H14 fun H35 E35 =>
      (loadA true 5 a1 H35).bind fun a36 =>
      endB false false n (.tup [a36, a12]) H35 (E35 ++ (E14 ++ (E12 ++ (E11 ++ (E10 ++ (E8 ++ (E7 ++ (E5 ++ (E4 ++ (E3 ++ (E2 ++ (E1 ++ [])))))))))))))
      ((loadA true 5 a10 H14).bind fun a37 =>
      stoK 5 a1 a37 H14 fun H38 E38 =>
      (loadA true 5 a1 H38).bind fun a39 =>
      endB false false n (.tup [a39, .nili]) H38 (E38 ++ (E14 ++ (E12 ++ (E11 ++ (E10 ++ (E8 ++ (E7 ++ (E5 ++ (E4 ++ (E3 ++ (E2 ++ (E1 ++ [])))))))))))))))) (List.length H) = some r) : EV C n_command_Read [x0] H = some r :=
  EV_of_fnK' (fn := Try.f13) (by kernel_rfl) (by kernel_rfl) (by kernel_rfl) hh
theorem ref12_Read_of {r : R3} {x0 : AV} {H : List AObj} (hh : (fun n => (
  newK (.agg [(.int .u64 0), (.int .u64 0), (.int .i64 0), .nils, .nils]) H fun a1 H1 E1 =>
  (fillB (AV.cells (.agg [.nils, (.int .i64 0), (.bool false)])) [(0, 1, x0)]).bind fun c2 =>
  newK (.agg c2) H1 fun a3 H3 E3 =>
  (fillB (AV.cells (.agg [(.int .u64 0), (.int .u64 0), (.int .i64 0), .nils, .nils])) []).bind fun c4 =>
  newK (.agg [(.int .u64 0), (.int .u64 0), (.int .i64 0), .nils, .nils]) H3 fun a5 H5 E5 =>
  stoK 5 a5 (.agg c4) H5 fun H6 E6 =>
  callK (EV C) false n_ref02_Reader_Number [a3] H6 fun a7 H7 E7 =>
  (offA a5 0).bind fun a8 =>
  stoK 1 a8 a7 H7 fun H9 E9 =>
  callK (EV C) false n_ref02_Reader_Number [a3] H9 fun a10 H10 E10 =>
  (offA a5 1).bind fun a11 =>
  stoK 1 a11 a10 H10 fun H12 E12 =>
  callK (EV C) false n_ref02_Reader_Byte [a3] H12 fun a13 H13 E13 =>
  (cvI .i64 a13).bind fun a14 =>
  (offA a5 2).bind fun a15 =>
  stoK 1 a15 a14 H13 fun H16 E16 =>
  callK (EV C) false n_ref02_Reader_Bytes [a3, (.int .i64 64)] H16 fun a17 H17 E17 =>
  (offA a5 3).bind fun a18 =>
  stoK 1 a18 a17 H17 fun H19 E19 =>
  callK (EV C) false n_ref02_Reader_Bytes [a3, (.int .i64 1024)] H19 fun a20 H20 E20 =>
  (offA a5 4).bind fun a21 =>
  stoK 1 a21 a20 H20 fun H22 E22 =>
  (loadA true 5 a5 H22).bind fun a23 =>
  callK (EV C) false n_ref12_May [a23] H22 fun a24 H24 E24 =>
  (nilA a3).bind fun a25 =>
  (offA a25 2).bind fun a26 =>
  (loadA false 1 a26 H24).bind fun a27 =>
  splitK a27
    ((fillB (AV.cells (.agg [(.int .u64 0), (.int .u64 0), (.int .i64 0), .nils, .nils])) []).bind fun c28 =>
    stoK 5 a1 (.agg c28) H24 fun H29 E29 =>
    (loadA true 5 a1 H29).bind fun a30 =>
    endB false false n (.tup [a30, (.int .i64 3)]) H29 (E29 ++ (E24 ++ (E22 ++ (E20 ++ (E19 ++ (E17 ++ (E16 ++ (E13 ++ (E12 ++ (E10 ++ (E9 ++ (E7 ++ (E6 ++ (E5 ++ (E3 ++ (E1 ++ [])))))))))))))))))
    ((unA .not a24).bind fun a31 =>
    condK a31
      ((fillB (AV.cells (.agg [(.int .u64 0), (.int .u64 0), (.int .i64 0), .nils, .nils])) []).bind fun c32 =>
      stoK 5 a1 (.agg c32) H24 fun H33 E33 =>
      (loadA true 5 a1 H33).bind fun a34 =>
      endB false false n (.tup [a34, (.int .i64 3)]) H33 (E33 ++ (E24 ++ (E22 ++ (E20 ++ (E19 ++ (E17 ++ (E16 ++ (E13 ++ (E12 ++ (E10 ++ (E9 ++ (E7 ++ (E6 ++ (E5 ++ (E3 ++ (E1 ++ [])))))))))))))))))
      ((nilA a3).bind fun a35 =>
      (offA a35 1).bind fun a36 =>
      (loadA false 1 a36 H24).bind fun a37 =>
      (lenV x0 H24).bind fun a38 =>
      (binA .lss (Go.TypeDesc.int Go.IntKind.i64) (cmpT Try.prog) false a37 a38).bind fun a39 =>
      condK a39
        ((fillB (AV.cells (.agg [(.int .u64 0), (.int .u64 0), (.int .i64 0), .nils, .nils])) []).bind fun c40 =>
        stoK 5 a1 (.agg c40) H24 fun H41 E41 =>
        (loadA true 5 a1 H41).bind fun a42 =>
        endB false false n (.tup [a42, (.int .i64 4)]) H41 (E41 ++ (E24 ++ (E22 ++ (E20 ++ (E19 ++ (E17 ++ (E16 ++ (E13 ++ (E12 ++ (E10 ++ (E9 ++ (E7 ++ (E6 ++ (E5 ++ (E3 ++ (E1 ++ [])))))))))))))))))
        ((loadA true 5 a5 H24).bind fun a43 =>
        stoK 5 a1 a43 H24 fun H44 E44 =>
        (loadA true 5 a1 H44).bind fun a45 =>
        endB false false n (.tup [a45, (.int .i64 0)]) H44 (E44 ++ (E24 ++ (E22 ++ (E20 ++ (E19 ++ (E17 ++ (E16 ++ (E13 ++ (E12 ++ (E10 ++ (E9 ++ (E7 ++ (E6 ++ (E5 ++ (E3 ++ (E1 ++ []))))))))))))))))))))) (List.length H) = some r) : EV C n_ref12_Read [x0] H = some r :=
  EV_of_fnK' (fn := Try.f16) (by kernel_rfl) (by kernel_rfl) (by kernel_rfl) hh
end Go.Pm
