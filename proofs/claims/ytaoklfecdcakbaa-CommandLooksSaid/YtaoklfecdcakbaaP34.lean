/- A part of the proof: what the functions of the program answer, as plain lists and numbers. -/
import Derived.Test.YtaoklfecdcakbaaP9
namespace Go.Pm
open Go.Proofs
set_option linter.unusedVariables false
set_option maxRecDepth 100000
theorem law12_up_of {r : R3} {H : List AObj} (hh : (fun n => (
  rawK 1 1 (.int .u8 0) [(0, (.int .u8 97))] H fun a1 H1 E1 =>
  (cvR a1 H1).bind fun a2 =>
  rawK 1 1 (.int .u8 0) [(0, (.int .u8 49))] H1 fun a3 H3 E3 =>
  (cvR a3 H3).bind fun a4 =>
  (fillB (AV.cells (.agg [(.int .u64 0), (.int .u64 0), (.int .i64 0), .nils, .nils])) [(0, 1, (.int .u64 5)), (1, 1, (.int .u64 1)), (2, 1, (.int .i64 1)), (3, 1, a2), (4, 1, a4)]).bind fun c5 =>
  callK (EV C) false n_command_Write [(.agg c5)] H3 fun a6 H6 E6 =>
  (extA a6 0).bind fun a7 =>
  (extA a6 1).bind fun a8 =>
  (fillB (AV.cells (.agg [(.int .i64 0), .nils, .nils, .nils, .nils])) []).bind fun c9 =>
  callK (EV C) false n_command_Apply [(.agg c9), a7] H6 fun a10 H10 E10 =>
  (extA a10 0).bind fun a11 =>
  (extA a10 1).bind fun a12 =>
  (extA a10 2).bind fun a13 =>
  newK (.agg [(.int .i64 0), .nils, .nils, .nils, .nils]) H10 fun a14 H14 E14 =>
  stoK 5 a14 a11 H14 fun H15 E15 =>
  (loadA true 5 a14 H15).bind fun a16 =>
  callK (EV C) false n_command_Apply [a16, a7] H15 fun a17 H17 E17 =>
  (extA a17 0).bind fun a18 =>
  (extA a17 1).bind fun a19 =>
  (extA a17 2).bind fun a20 =>
  newK (.agg [(.int .i64 0), .nils, .nils, .nils, .nils]) H17 fun a21 H21 E21 =>
  stoK 5 a21 a18 H21 fun H22 E22 =>
  (loadA true 5 a14 H22).bind fun a23 =>
  rawK 1 1 (.int .u8 0) [(0, (.int .u8 97))] H22 fun a24 H24 E24 =>
  (cvR a24 H24).bind fun a25 =>
  callK (EV C) false n_command_Look [a23, a25] H24 fun a26 H26 E26 =>
  (extA a26 0).bind fun a27 =>
  (extA a26 1).bind fun a28 =>
  (extA a26 2).bind fun a29 =>
  (binA .eql (Go.TypeDesc.interface #[("Error", 118)]) (cmpT Try.prog) true a8 .nili).bind fun a30 =>
  splitK a30
    ((binA .eql (Go.TypeDesc.interface #[("Error", 118)]) (cmpT Try.prog) true a13 .nili).bind fun a31 =>
    splitK a31
      ((binA .eql (Go.TypeDesc.interface #[("Error", 118)]) (cmpT Try.prog) true a20 .nili).bind fun a32 =>
      splitK a32
        ((binA .eql (Go.TypeDesc.interface #[("Error", 118)]) (cmpT Try.prog) true a29 .nili).bind fun a33 =>
        splitK a33
          ((binA .eql (Go.TypeDesc.int Go.IntKind.i64) (cmpT Try.prog) true a12 (.int .i64 1)).bind fun a34 =>
          splitK a34
            ((binA .eql (Go.TypeDesc.int Go.IntKind.i64) (cmpT Try.prog) true a19 (.int .i64 1)).bind fun a35 =>
            splitK a35
              (splitK a28
                ((cvL a27 H26).bind fun a36 =>
                (binA .eql Go.TypeDesc.string (cmpT Try.prog) true a36 (.str { data := #[49] })).bind fun a37 =>
                endB false false n a37 H26 (E26 ++ (E24 ++ (E22 ++ (E21 ++ (E17 ++ (E15 ++ (E14 ++ (E10 ++ (E6 ++ (E3 ++ (E1 ++ []))))))))))))
                (endB false false n (.bool false) H26 (E26 ++ (E24 ++ (E22 ++ (E21 ++ (E17 ++ (E15 ++ (E14 ++ (E10 ++ (E6 ++ (E3 ++ (E1 ++ [])))))))))))))
              (endB false false n (.bool false) H26 (E26 ++ (E24 ++ (E22 ++ (E21 ++ (E17 ++ (E15 ++ (E14 ++ (E10 ++ (E6 ++ (E3 ++ (E1 ++ [])))))))))))))
            (endB false false n (.bool false) H26 (E26 ++ (E24 ++ (E22 ++ (E21 ++ (E17 ++ (E15 ++ (E14 ++ (E10 ++ (E6 ++ (E3 ++ (E1 ++ [])))))))))))))
          (endB false false n (.bool false) H26 (E26 ++ (E24 ++ (E22 ++ (E21 ++ (E17 ++ (E15 ++ (E14 ++ (E10 ++ (E6 ++ (E3 ++ (E1 ++ [])))))))))))))
        (endB false false n (.bool false) H26 (E26 ++ (E24 ++ (E22 ++ (E21 ++ (E17 ++ (E15 ++ (E14 ++ (E10 ++ (E6 ++ (E3 ++ (E1 ++ [])))))))))))))
      (endB false false n (.bool false) H26 (E26 ++ (E24 ++ (E22 ++ (E21 ++ (E17 ++ (E15 ++ (E14 ++ (E10 ++ (E6 ++ (E3 ++ (E1 ++ [])))))))))))))
    (endB false false n (.bool false) H26 (E26 ++ (E24 ++ (E22 ++ (E21 ++ (E17 ++ (E15 ++ (E14 ++ (E10 ++ (E6 ++ (E3 ++ (E1 ++ [])))))))))))))) (List.length H) = some r) : EV C n_law12_up [] H = some r :=
  EV_of_fnK' (fn := Try.f10) (by kernel_rfl) (by kernel_rfl) (by kernel_rfl) hh
theorem law12_small_of {r : R3} {x0 : AV} {H : List AObj} (hh : (fun n => (
  newK x0 H fun a1 H1 E1 =>
  (loadA true 5 a1 H1).bind fun a2 =>
  callK (EV C) false n_ref04_Light [a2, (.int .i64 300), (.int .i64 100)] H1 fun a3 H3 E3 =>
  (binA .geq (Go.TypeDesc.int Go.IntKind.i64) (cmpT Try.prog) true a3 (.int .i64 0)).bind fun a4 =>
  endB false false n a4 H3 (E3 ++ (E1 ++ [])))) (List.length H) = some r) : EV C n_law12_small [x0] H = some r :=
  EV_of_fnK' (fn := Try.f18) (by kernel_rfl) (by kernel_rfl) (by kernel_rfl) hh
theorem law12_CommandLooks_of {r : R3} {x0 x1 : AV} {H : List AObj} (hh : (fun n => (
  newK x0 H fun a1 H1 E1 =>
  callK (EV C) false n_law12_up [] H1 fun a2 H2 E2 =>
  (loadA true 5 a1 H2).bind fun a3 =>
  callK (EV C) false n_law12_small [a3] H2 fun a4 H4 E4 =>
  (unA .not a4).bind fun a5 =>
  splitK a5
    (endB false false n a2 H4 (E4 ++ (E2 ++ (E1 ++ []))))
    ((lenV x1 H4).bind fun a6 =>
    (binA .gtr (Go.TypeDesc.int Go.IntKind.i64) (cmpT Try.prog) true a6 (.int .i64 5000)).bind fun a7 =>
    condK a7
      (endB false false n a2 H4 (E4 ++ (E2 ++ (E1 ++ []))))
      ((loadA true 5 a1 H4).bind fun a8 =>
      callK (EV C) false n_command_Look [a8, x1] H4 fun a9 H9 E9 =>
      (extA a9 0).bind fun a10 =>
      (extA a9 1).bind fun a11 =>
      (extA a9 2).bind fun a12 =>
      callK (EV C) false n_command_Key [x1] H9 fun a13 H13 E13 =>
      (loadA true 5 a1 H13).bind fun a14 =>
      callK (EV C) false n_ref05_Is [a14] H13 fun a15 H15 E15 =>
      (cvL a13 H15).bind fun a16 =>
      (callD (EV C) n_ref12_Key [x1] H15).bind fun a17 =>
      (cvL a17 H15).bind fun a18 =>
      (binA .neq Go.TypeDesc.string (cmpT Try.prog) false a16 a18).bind fun a19 =>
      condK a19
        (endB false false n (.bool false) H15 (E15 ++ (E13 ++ (E9 ++ (E4 ++ (E2 ++ (E1 ++ [])))))))
        ((unA .not a15).bind fun a20 =>
        condK a20
          (splitK a2
            ((binA .eql (Go.TypeDesc.interface #[("Error", 118)]) (cmpT Try.prog) false a12 (.ifc t_api_Code (.int .i64 3))).bind fun a21 =>
            splitK a21
              ((unA .not a11).bind fun a22 =>
              splitK a22
                ((lenV a10 H15).bind fun a23 =>
                (binA .eql (Go.TypeDesc.int Go.IntKind.i64) (cmpT Try.prog) true a23 (.int .i64 0)).bind fun a24 =>
                endB false false n a24 H15 (E15 ++ (E13 ++ (E9 ++ (E4 ++ (E2 ++ (E1 ++ [])))))))
                (endB false false n (.bool false) H15 (E15 ++ (E13 ++ (E9 ++ (E4 ++ (E2 ++ (E1 ++ []))))))))
              (endB false false n (.bool false) H15 (E15 ++ (E13 ++ (E9 ++ (E4 ++ (E2 ++ (E1 ++ []))))))))
            (endB false false n (.bool false) H15 (E15 ++ (E13 ++ (E9 ++ (E4 ++ (E2 ++ (E1 ++ []))))))))
          ((loadA true 5 a1 H15).bind fun a25 =>
          callK (EV C) false n_ref05_Get [a25, a13] H15 fun a26 H26 E26 =>
          (extA a26 0).bind fun a27 =>
          (extA a26 1).bind fun a28 =>
          (lenV x1 H26).bind fun a29 =>
          (binA .gtr (Go.TypeDesc.int Go.IntKind.i64) (cmpT Try.prog) true a29 (.int .i64 64)).bind fun a30 =>
          condK a30
            (splitK a2
              ((binA .eql (Go.TypeDesc.interface #[("Error", 118)]) (cmpT Try.prog) true a12 .nili).bind fun a31 =>
              splitK a31
                ((binA .eql Go.TypeDesc.bool (cmpT Try.prog) false a11 (.bool false)).bind fun a32 =>
                splitK a32
                  ((cvL a10 H26).bind fun a33 =>
                  (cvL .nils H26).bind fun a34 =>
                  (binA .eql Go.TypeDesc.string (cmpT Try.prog) false a33 a34).bind fun a35 =>
                  endB false false n a35 H26 (E26 ++ (E15 ++ (E13 ++ (E9 ++ (E4 ++ (E2 ++ (E1 ++ []))))))))
                  (endB false false n (.bool false) H26 (E26 ++ (E15 ++ (E13 ++ (E9 ++ (E4 ++ (E2 ++ (E1 ++ [])))))))))
                (endB false false n (.bool false) H26 (E26 ++ (E15 ++ (E13 ++ (E9 ++ (E4 ++ (E2 ++ (E1 ++ [])))))))))
              (endB false false n (.bool false) H26 (E26 ++ (E15 ++ (E13 ++ (E9 ++ (E4 ++ (E2 ++ (E1 ++ [])))))))))
            (splitK a2
              ((binA .eql (Go.TypeDesc.interface #[("Error", 118)]) (cmpT Try.prog) true a12 .nili).bind fun a36 =>
              splitK a36
                ((binA .eql Go.TypeDesc.bool (cmpT Try.prog) false a11 a28).bind fun a37 =>
                splitK a37
                  ((cvL a10 H26).bind fun a38 =>
                  (cvL a27 H26).bind fun a39 =>
                  (binA .eql Go.TypeDesc.string (cmpT Try.prog) false a38 a39).bind fun a40 =>
                  endB false false n a40 H26 (E26 ++ (E15 ++ (E13 ++ (E9 ++ (E4 ++ (E2 ++ (E1 ++ []))))))))
                  (endB false false n (.bool false) H26 (E26 ++ (E15 ++ (E13 ++ (E9 ++ (E4 ++ (E2 ++ (E1 ++ [])))))))))
                (endB false false n (.bool false) H26 (E26 ++ (E15 ++ (E13 ++ (E9 ++ (E4 ++ (E2 ++ (E1 ++ [])))))))))
              (endB false false n (.bool false) H26 (E26 ++ (E15 ++ (E13 ++ (E9 ++ (E4 ++ (E2 ++ (E1 ++ []))))))))))))))) (List.length H) = some r) : EV C n_law12_CommandLooks [x0, x1] H = some r :=
  EV_of_fnK' (fn := Try.f6) (by kernel_rfl) (by kernel_rfl) (by kernel_rfl) hh
end Go.Pm
