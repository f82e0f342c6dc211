/- A part of the proof: what the functions of the program answer, as plain lists and numbers. -/
import Derived.Test.YtaoklfecdcakbaaP9
namespace Go.Pm
open Go.Proofs
set_option linter.unusedVariables false
set_option maxRecDepth 100000
theorem law12_up_of {r : R3} {H : List AObj} (hh : (fun n => (
  rawK 1 1 (.int .u8 0) [(0, (.int .u8 97))] H fun a1 H1 E1 =>
  (cvR a1 H1).bind fun a2 =>
  rawK 1 1 (.int .u8 0) [(0, (.int .u8 49))] H1 fun a3 H3 E3 =>
  (cvR a3 H3).bind fun a4 =>
  (fillB (AV.cells (.agg [(.int .u64 0), (.int .u64 0), (.int .i64 0), .nils, .nils])) [(0, 1, (.int .u64 5)), (1, 1, (.int .u64 1)), (2, 1, (.int .i64 1)), (3, 1, a2), (4, 1, a4)]).bind fun c5 =>
  callK (EV C) false n_command_Write [(.agg c5)] H3 fun a6 H6 E6 =>
  (extA a6 0).bind fun a7 =>
  (extA a6 1).bind fun a8 =>
  (fillB (AV.cells (.agg [(.int .i64 0), .nils, .nils, .nils, .nils])) []).bind fun c9 =>
  callK (EV C) false n_command_Apply [(.agg c9), a7] H6 fun a10 H10 E10 =>
  (extA a10 0).bind fun a11 =>
  (extA a10 1).bind fun a12 =>
  (extA a10 2).bind fun a13 =>
  newK (.agg [(.int .i64 0), .nils, .nils, .nils, .nils]) H10 fun a14 H14 E14 =>
  stoK 5 a14 a11 H14 fun H15 E15 =>
  (loadA true 5 a14 H15).bind fun a16 =>
  callK (EV C) false n_command_Apply [a16, a7] H15 fun a17 H17 E17 =>
  (extA a17 0).bind fun a18 =>
  (extA a17 1).bind fun a19 =>
  (extA a17 2).bind fun a20 =>
  newK (.agg [(.int .i64 0), .nils, .nils, .nils, .nils]) H17 fun a21 H21 E21 =>
  stoK 5 a21 a18 H21 fun H22 E22 =>
  (loadA true 5 a14 H22).bind fun a23 =>
  rawK 1 1 (.int .u8 0) [(0, (.int .u8 97))] H22 fun a24 H24 E24 =>
  (cvR a24 H24).bind fun a25 =>
  callK (EV C) false n_command_Look [a23, a25] H24 fun a26 H26 E26 =>
  (extA a26 0).bind fun a27 =>
  (extA a26 1).bind fun a28 =>
  (extA a26 2).bind fun a29 =>
  (binA .eql (Go.TypeDesc.interface #[("Error", 118)]) (cmpT Try.prog) true a8 .nili).bind fun a30 =>
  splitK a30
    ((binA .eql (Go.TypeDesc.interface #[("Error", 118)]) (cmpT Try.prog) true a13 .nili).bind fun a31 =>
    splitK a31
      ((binA .eql (Go.TypeDesc.interface #[("Error", 118)]) (cmpT Try.prog) true a20 .nili).bind fun a32 =>
      splitK a32
        ((binA .eql (Go.TypeDesc.interface #[("Error", 118)]) (cmpT Try.prog) true a29 .nili).bind fun a33 =>
        splitK a33
          ((binA .eql (Go.TypeDesc.int Go.IntKind.i64) (cmpT Try.prog) true a12 (.int .i64 1)).bind fun a34 =>
          splitK a34
            ((binA .eql (Go.TypeDesc.int Go.IntKind.i64) (cmpT Try.prog) true a19 (.int .i64 1)).bind fun a35 =>
            splitK a35
              (splitK a28
                ((cvL a27 H26).bind fun a36 =>
                (binA .eql Go.TypeDesc.string (cmpT Try.prog) true a36 (.str { data := #[49] })).bind fun a37 =>
                endB false false n a37 H26 (E26 ++ (E24 ++ (E22 ++ (E21 ++ (E17 ++ (E15 ++ (E14 ++ (E10 ++ (E6 ++ (E3 ++ (E1 ++ []))))))))))))
                (endB false false n (.bool false) H26 (E26 ++ (E24 ++ (E22 ++ (E21 ++ (E17 ++ (E15 ++ (E14 ++ (E10 ++ (E6 ++ (E3 ++ (E1 ++ [])))))))))))))
              (endB false false n (.bool false) H26 (E26 ++ (E24 ++ (E22 ++ (E21 ++ (E17 ++ (E15 ++ (E14 ++ (E10 ++ (E6 ++ (E3 ++ (E1 ++ [])))))))))))))
            (endB false false n (.bool false) H26 (E26 ++ (E24 ++ (E22 ++ (E21 ++ (E17 ++ (E15 ++ (E14 ++ (E10 ++ (E6 ++ (E3 ++ (E1 ++ [])))))))))))))
          (endB false false n (.bool false) H26 (E26 ++ (E24 ++ (E22 ++ (E21 ++ (E17 ++ (E15 ++ (E14 ++ (E10 ++ (E6 ++ (E3 ++ (E1 ++ [])))))))))))))
        (endB false false n (.bool false) H26 (E26 ++ (E24 ++ (E22 ++ (E21 ++ (E17 ++ (E15 ++ (E14 ++ (E10 ++ (E6 ++ (E3 ++ (E1 ++ [])))))))))))))
      (endB false false n (.bool false) H26 (E26 ++ (E24 ++ (E22 ++ (E21 ++ (E17 ++ (E15 ++ (E14 ++ (E10 ++ (E6 ++ (E3 ++ (E1 ++ [])))))))))))))
    (endB false false n (.bool false) H26 (E26 ++ (E24 ++ (E22 ++ (E21 ++ (E17 ++ (E15 ++ (E14 ++ (E10 ++ (E6 ++ (E3 ++ (E1 ++ [])))))))))))))) (List.length H) = some r) : EV C n_law12_up [] H = some r :=
  EV_of_fnK' (fn := Try.f10) (by kernel_rfl) (by kernel_rfl) (by kernel_rfl) hh
theorem law12_CommandTells_of {r : R3} {x0 x1 x2 : AV} {H : List AObj} (hh : (fun n => (
  newK x1 H fun a1 H1 E1 =>
  callK (EV C) false n_law12_up [] H1 fun a2 H2 E2 =>
  callK (EV C) false n_ref05_Grown [x0] H2 fun a3 H3 E3 =>
  newK (.agg [(.int .i64 0), .nils, .nils, .nils, .nils]) H3 fun a4 H4 E4 =>
  stoK 5 a4 a3 H4 fun H5 E5 =>
  (loadA true 5 a1 H5).bind fun a6 =>
  callK (EV C) false n_command_Write [a6] H5 fun a7 H7 E7 =>
  (extA a7 0).bind fun a8 =>
  (extA a7 1).bind fun a9 =>
  (binA .neq (Go.TypeDesc.interface #[("Error", 118)]) (cmpT Try.prog) true a9 .nili).bind fun a10 =>
  condK a10
    (splitK a2
      ((binA .eql (Go.TypeDesc.interface #[("Error", 118)]) (cmpT Try.prog) false a9 (.ifc t_api_Code (.int .i64 1))).bind fun a11 =>
      endB false false n a11 H7 (E7 ++ (E5 ++ (E4 ++ (E3 ++ (E2 ++ (E1 ++ [])))))))
      (endB false false n (.bool false) H7 (E7 ++ (E5 ++ (E4 ++ (E3 ++ (E2 ++ (E1 ++ []))))))))
    ((loadA true 5 a4 H7).bind fun a12 =>
    callK (EV C) false n_command_Apply [a12, a8] H7 fun a13 H13 E13 =>
    (extA a13 0).bind fun a14 =>
    (extA a13 1).bind fun a15 =>
    (extA a13 2).bind fun a16 =>
    newK (.agg [(.int .i64 0), .nils, .nils, .nils, .nils]) H13 fun a17 H17 E17 =>
    stoK 5 a17 a14 H17 fun H18 E18 =>
    (loadA true 5 a17 H18).bind fun a19 =>
    (offA a1 3).bind fun a20 =>
    (loadA false 1 a20 H18).bind fun a21 =>
    callK (EV C) false n_command_Look [a19, a21] H18 fun a22 H22 E22 =>
    (extA a22 0).bind fun a23 =>
    (extA a22 1).bind fun a24 =>
    (extA a22 2).bind fun a25 =>
    (loadA true 5 a4 H22).bind fun a26 =>
    callK (EV C) false n_command_Look [a26, x2] H22 fun a27 H27 E27 =>
    (extA a27 0).bind fun a28 =>
    (extA a27 1).bind fun a29 =>
    (extA a27 2).bind fun a30 =>
    (loadA true 5 a17 H27).bind fun a31 =>
    callK (EV C) false n_command_Look [a31, x2] H27 fun a32 H32 E32 =>
    (extA a32 0).bind fun a33 =>
    (extA a32 1).bind fun a34 =>
    (extA a32 2).bind fun a35 =>
    (binA .neq (Go.TypeDesc.interface #[("Error", 118)]) (cmpT Try.prog) true a16 .nili).bind fun a36 =>
    splitK a36
      (endB false false n (.bool false) H32 (E32 ++ (E27 ++ (E22 ++ (E18 ++ (E17 ++ (E13 ++ (E7 ++ (E5 ++ (E4 ++ (E3 ++ (E2 ++ (E1 ++ [])))))))))))))
      ((binA .neq (Go.TypeDesc.interface #[("Error", 118)]) (cmpT Try.prog) true a25 .nili).bind fun a37 =>
      splitK a37
        (endB false false n (.bool false) H32 (E32 ++ (E27 ++ (E22 ++ (E18 ++ (E17 ++ (E13 ++ (E7 ++ (E5 ++ (E4 ++ (E3 ++ (E2 ++ (E1 ++ [])))))))))))))
        ((binA .neq (Go.TypeDesc.interface #[("Error", 118)]) (cmpT Try.prog) true a30 .nili).bind fun a38 =>
        splitK a38
          (endB false false n (.bool false) H32 (E32 ++ (E27 ++ (E22 ++ (E18 ++ (E17 ++ (E13 ++ (E7 ++ (E5 ++ (E4 ++ (E3 ++ (E2 ++ (E1 ++ [])))))))))))))
          ((binA .neq (Go.TypeDesc.interface #[("Error", 118)]) (cmpT Try.prog) true a35 .nili).bind fun a39 =>
          splitK a39
            (endB false false n (.bool false) H32 (E32 ++ (E27 ++ (E22 ++ (E18 ++ (E17 ++ (E13 ++ (E7 ++ (E5 ++ (E4 ++ (E3 ++ (E2 ++ (E1 ++ [])))))))))))))
            ((loadA true 5 a17 H32).bind fun a40 =>
            callK (EV C) false n_avl_Is [a40] H32 fun a41 H41 E41 =>
            (unA .not a41).bind fun a42 =>
            condK a42
              (endB false false n (.bool false) H41 (E41 ++ (E32 ++ (E27 ++ (E22 ++ (E18 ++ (E17 ++ (E13 ++ (E7 ++ (E5 ++ (E4 ++ (E3 ++ (E2 ++ (E1 ++ []))))))))))))))
              ((cvL x2 H41).bind fun a43 =>
              (offA a1 3).bind fun a44 =>
              (loadA false 1 a44 H41).bind fun a45 =>
              (cvL a45 H41).bind fun a46 =>
              (binA .eql Go.TypeDesc.string (cmpT Try.prog) false a43 a46).bind fun a47 =>
              splitK a47
                ((loadA true 5 a4 H41).bind fun a48 =>
                callK (EV C) false n_ref12_Apply [a48, a8] H41 fun a49 H49 E49 =>
                (extA a49 0).bind fun a50 =>
                (extA a49 1).bind fun a51 =>
                newK (.agg [(.int .i64 0), .nils, .nils, .nils, .nils]) H49 fun a52 H52 E52 =>
                stoK 5 a52 a50 H52 fun H53 E53 =>
                (binA .neq (Go.TypeDesc.int Go.IntKind.i64) (cmpT Try.prog) false a15 a51).bind fun a54 =>
                splitK a54
                  (endB false false n (.bool false) H53 (E53 ++ (E52 ++ (E49 ++ (E41 ++ (E32 ++ (E27 ++ (E22 ++ (E18 ++ (E17 ++ (E13 ++ (E7 ++ (E5 ++ (E4 ++ (E3 ++ (E2 ++ (E1 ++ [])))))))))))))))))
                  ((unA .not (.bool true)).bind fun a55 =>
                  condK a55
                    (endB false false n (.bool false) H53 (E53 ++ (E52 ++ (E49 ++ (E41 ++ (E32 ++ (E27 ++ (E22 ++ (E18 ++ (E17 ++ (E13 ++ (E7 ++ (E5 ++ (E4 ++ (E3 ++ (E2 ++ (E1 ++ [])))))))))))))))))
                    ((loadA true 5 a4 H53).bind fun a56 =>
                    (offA a1 0).bind fun a57 =>
                    (loadA false 1 a57 H53).bind fun a58 =>
                    callK (EV C) false n_ref12_Session [a56, a58] H53 fun a59 H59 E59 =>
                    (extA a59 0).bind fun a60 =>
                    (extA a59 1).bind fun a61 =>
                    (extA a59 2).bind fun a62 =>
                    condK a62
                      (endB false false n a2 H59 (E59 ++ (E53 ++ (E52 ++ (E49 ++ (E41 ++ (E32 ++ (E27 ++ (E22 ++ (E18 ++ (E17 ++ (E13 ++ (E7 ++ (E5 ++ (E4 ++ (E3 ++ (E2 ++ (E1 ++ []))))))))))))))))))
                      ((offA a1 2).bind fun a63 =>
                      (loadA false 1 a63 H59).bind fun a64 =>
                      (binA .eql (Go.TypeDesc.int Go.IntKind.i64) (cmpT Try.prog) true a64 (.int .i64 2)).bind fun a65 =>
                      condK a65
                        (splitK a2
                          ((unA .not a24).bind fun a66 =>
                          endB false false n a66 H59 (E59 ++ (E53 ++ (E52 ++ (E49 ++ (E41 ++ (E32 ++ (E27 ++ (E22 ++ (E18 ++ (E17 ++ (E13 ++ (E7 ++ (E5 ++ (E4 ++ (E3 ++ (E2 ++ (E1 ++ []))))))))))))))))))
                          (endB false false n (.bool false) H59 (E59 ++ (E53 ++ (E52 ++ (E49 ++ (E41 ++ (E32 ++ (E27 ++ (E22 ++ (E18 ++ (E17 ++ (E13 ++ (E7 ++ (E5 ++ (E4 ++ (E3 ++ (E2 ++ (E1 ++ [])))))))))))))))))))
                        (splitK a2
                          (splitK a24
                            ((cvL a23 H59).bind fun a67 =>
                            (offA a1 4).bind fun a68 =>
                            (loadA false 1 a68 H59).bind fun a69 =>
                            (cvL a69 H59).bind fun a70 =>
                            (binA .eql Go.TypeDesc.string (cmpT Try.prog) false a67 a70).bind fun a71 =>
                            endB false false n a71 H59 (E59 ++ (E53 ++ (E52 ++ (E49 ++ (E41 ++ (E32 ++ (E27 ++ (E22 ++ (E18 ++ (E17 ++ (E13 ++ (E7 ++ (E5 ++ (E4 ++ (E3 ++ (E2 ++ (E1 ++ []))))))))))))))))))
                            (endB false false n (.bool false) H59 (E59 ++ (E53 ++ (E52 ++ (E49 ++ (E41 ++ (E32 ++ (E27 ++ (E22 ++ (E18 ++ (E17 ++ (E13 ++ (E7 ++ (E5 ++ (E4 ++ (E3 ++ (E2 ++ (E1 ++ [])))))))))))))))))))
                          (endB false false n (.bool false) H59 (E59 ++ (E53 ++ (E52 ++ (E49 ++ (E41 ++ (E32 ++ (E27 ++ (E22 ++ (E18 ++ (E17 ++ (E13 ++ (E7 ++ (E5 ++ (E4 ++ (E3 ++ (E2 ++ (E1 ++ [])))))))))))))))))))))))
                ((binA .eql Go.TypeDesc.bool (cmpT Try.prog) false a29 a34).bind fun a72 =>
                splitK a72
                  ((cvL a28 H41).bind fun a73 =>
                  (cvL a33 H41).bind fun a74 =>
                  (binA .eql Go.TypeDesc.string (cmpT Try.prog) false a73 a74).bind fun a75 =>
                  (loadA true 5 a4 H41).bind fun a76 =>
                  callK (EV C) false n_ref12_Apply [a76, a8] H41 fun a77 H77 E77 =>
                  (extA a77 0).bind fun a78 =>
                  (extA a77 1).bind fun a79 =>
                  newK (.agg [(.int .i64 0), .nils, .nils, .nils, .nils]) H77 fun a80 H80 E80 =>
                  stoK 5 a80 a78 H80 fun H81 E81 =>
                  (binA .neq (Go.TypeDesc.int Go.IntKind.i64) (cmpT Try.prog) false a15 a79).bind fun a82 =>
                  splitK a82
                    (endB false false n (.bool false) H81 (E81 ++ (E80 ++ (E77 ++ (E41 ++ (E32 ++ (E27 ++ (E22 ++ (E18 ++ (E17 ++ (E13 ++ (E7 ++ (E5 ++ (E4 ++ (E3 ++ (E2 ++ (E1 ++ [])))))))))))))))))
                    ((unA .not a75).bind fun a83 =>
                    condK a83
                      (endB false false n (.bool false) H81 (E81 ++ (E80 ++ (E77 ++ (E41 ++ (E32 ++ (E27 ++ (E22 ++ (E18 ++ (E17 ++ (E13 ++ (E7 ++ (E5 ++ (E4 ++ (E3 ++ (E2 ++ (E1 ++ [])))))))))))))))))
                      ((loadA true 5 a4 H81).bind fun a84 =>
                      (offA a1 0).bind fun a85 =>
                      (loadA false 1 a85 H81).bind fun a86 =>
                      callK (EV C) false n_ref12_Session [a84, a86] H81 fun a87 H87 E87 =>
                      (extA a87 0).bind fun a88 =>
                      (extA a87 1).bind fun a89 =>
                      (extA a87 2).bind fun a90 =>
                      condK a90
                        (endB false false n a2 H87 (E87 ++ (E81 ++ (E80 ++ (E77 ++ (E41 ++ (E32 ++ (E27 ++ (E22 ++ (E18 ++ (E17 ++ (E13 ++ (E7 ++ (E5 ++ (E4 ++ (E3 ++ (E2 ++ (E1 ++ []))))))))))))))))))
                        ((offA a1 2).bind fun a91 =>
                        (loadA false 1 a91 H87).bind fun a92 =>
                        (binA .eql (Go.TypeDesc.int Go.IntKind.i64) (cmpT Try.prog) true a92 (.int .i64 2)).bind fun a93 =>
                        condK a93
                          (splitK a2
                            ((unA .not a24).bind fun a94 =>
                            endB false false n a94 H87 (E87 ++ (E81 ++ (E80 ++ (E77 ++ (E41 ++ (E32 ++ (E27 ++ (E22 ++ (E18 ++ (E17 ++ (E13 ++ (E7 ++ (E5 ++ (E4 ++ (E3 ++ (E2 ++ (E1 ++ []))))))))))))))))))
                            (endB false false n (.bool false) H87 (E87 ++ (E81 ++ (E80 ++ (E77 ++ (E41 ++ (E32 ++ (E27 ++ (E22 ++ (E18 ++ (E17 ++ (E13 ++ (E7 ++ (E5 ++ (E4 ++ (E3 ++ (E2 ++ (E1 ++ [])))))))))))))))))))
                          (splitK a2
                            (splitK a24
                              ((cvL a23 H87).bind fun a95 =>
                              (offA a1 4).bind fun a96 =>
                              (loadA false 1 a96 H87).bind fun a97 =>
                              (cvL a97 H87).bind fun a98 =>
                              (binA .eql Go.TypeDesc.string (cmpT Try.prog) false a95 a98).bind fun a99 =>
                              endB false false n a99 H87 (E87 ++ (E81 ++ (E80 ++ (E77 ++ (E41 ++ (E32 ++ (E27 ++ (E22 ++ (E18 ++ (E17 ++ (E13 ++ (E7 ++ (E5 ++ (E4 ++ (E3 ++ (E2 ++ (E1 ++ []))))))))))))))))))
                              (endB false false n (.bool false) H87 (E87 ++ (E81 ++ (E80 ++ (E77 ++ (E41 ++ (E32 ++ (E27 ++ (E22 ++ (E18 ++ (E17 ++ (E13 ++ (E7 ++ (E5 ++ (E4 ++ (E3 ++ (E2 ++ (E1 ++ [])))))))))))))))))))
                            (endB false false n (.bool false) H87 (E87 ++ (E81 ++ (E80 ++ (E77 ++ (E41 ++ (E32 ++ (E27 ++ (E22 ++ (E18 ++ (E17 ++ (E13 ++ (E7 ++ (E5 ++ (E4 ++ (E3 ++ (E2 ++ (E1 ++ [])))))))))))))))))))))))
                  ((loadA true 5 a4 H41).bind fun a100 =>
                  callK (EV C) false n_ref12_Apply [a100, a8] H41 fun a101 H101 E101 =>
                  (extA a101 0).bind fun a102 =>
                  (extA a101 1).bind fun a103 =>
                  newK (.agg [(.int .i64 0), .nils, .nils, .nils, .nils]) H101 fun a104 H104 E104 =>
                  stoK 5 a104 a102 H104 fun H105 E105 =>
                  (binA .neq (Go.TypeDesc.int Go.IntKind.i64) (cmpT Try.prog) false a15 a103).bind fun a106 =>
                  splitK a106
                    (endB false false n (.bool false) H105 (E105 ++ (E104 ++ (E101 ++ (E41 ++ (E32 ++ (E27 ++ (E22 ++ (E18 ++ (E17 ++ (E13 ++ (E7 ++ (E5 ++ (E4 ++ (E3 ++ (E2 ++ (E1 ++ [])))))))))))))))))
                    ((unA .not (.bool false)).bind fun a107 =>
                    condK a107
                      (endB false false n (.bool false) H105 (E105 ++ (E104 ++ (E101 ++ (E41 ++ (E32 ++ (E27 ++ (E22 ++ (E18 ++ (E17 ++ (E13 ++ (E7 ++ (E5 ++ (E4 ++ (E3 ++ (E2 ++ (E1 ++ [])))))))))))))))))
                      ((loadA true 5 a4 H105).bind fun a108 =>
                      (offA a1 0).bind fun a109 =>
                      (loadA false 1 a109 H105).bind fun a110 =>
                      callK (EV C) false n_ref12_Session [a108, a110] H105 fun a111 H111 E111 =>
                      (extA a111 0).bind fun a112 =>
                      (extA a111 1).bind fun a113 =>
                      (extA a111 2).bind fun a114 =>
                      condK a114
                        (endB false false n a2 H111 (E111 ++ (E105 ++ (E104 ++ (E101 ++ (E41 ++ (E32 ++ (E27 ++ (E22 ++ (E18 ++ (E17 ++ (E13 ++ (E7 ++ (E5 ++ (E4 ++ (E3 ++ (E2 ++ (E1 ++ []))))))))))))))))))
                        ((offA a1 2).bind fun a115 =>
                        (loadA false 1 a115 H111).bind fun a116 =>
                        (binA .eql (Go.TypeDesc.int Go.IntKind.i64) (cmpT Try.prog) true a116 (.int .i64 2)).bind fun a117 =>
                        condK a117
                          (splitK a2
                            ((unA .not a24).bind fun a118 =>
                            endB false false n a118 H111 (E111 ++ (E105 ++ (E104 ++ (E101 ++ (E41 ++ (E32 ++ (E27 ++ (E22 ++ (E18 ++ (E17 ++ (E13 ++ (E7 ++ (E5 ++ (E4 ++ (E3 ++ (E2 ++ (E1 ++ []))))))))))))))))))
                            (endB false false n (.bool false) H111 (E111 ++ (E105 ++ (E104 ++ (E101 ++ (E41 ++ (E32 ++ (E27 ++ (E22 ++ (E18 ++ (E17 ++ (E13 ++ (E7 ++ (E5 ++ (E4 ++ (E3 ++ (E2 ++ (E1 ++ [])))))))))))))))))))
                          (splitK a2
                            (splitK a24
                              ((cvL a23 H111).bind fun a119 =>
                              (offA a1 4).bind fun a120 =>
                              (loadA false 1 a120 H111).bind fun a121 =>
                              (cvL a121 H111).bind fun a122 =>
                              (binA .eql Go.TypeDesc.string (cmpT Try.prog) false a119 a122).bind fun a123 =>
                              endB false false n a123 H111 (E111 ++ (E105 ++ (E104 ++ (E101 ++ (E41 ++ (E32 ++ (E27 ++ (E22 ++ (E18 ++ (E17 ++ (E13 ++ (E7 ++ (E5 ++ (E4 ++ (E3 ++ (E2 ++ (E1 ++ []))))))))))))))))))
                              (endB false false n (.bool false) H111 (E111 ++ (E105 ++ (E104 ++ (E101 ++ (E41 ++ (E32 ++ (E27 ++ (E22 ++ (E18 ++ (E17 ++ (E13 ++ (E7 ++ (E5 ++ (E4 ++ (E3 ++ (E2 ++ (E1 ++ [])))))))))))))))))))
                            (endB false false n (.bool false) H111 (E111 ++ (E105 ++ (E104 ++ (E101 ++ (E41 ++ (E32 ++ (E27 ++ (E22 ++ (E18 ++ (E17 ++ (E13 ++ (E7 ++ (E5 ++ (E4 ++ (E3 ++ (E2 ++ (E1 ++ [])))))))))))))))))))))))))))))))) (List.length H) = some r) : EV C n_law12_CommandTells [x0, x1, x2] H = some r :=
  EV_of_fnK' (fn := Try.f8) (by kernel_rfl) (by kernel_rfl) (by kernel_rfl) hh
end Go.Pm
