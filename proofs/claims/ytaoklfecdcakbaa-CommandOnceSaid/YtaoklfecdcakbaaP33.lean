/- A part of the proof: what the functions of the program answer, as plain lists and numbers. -/
import Derived.Test.YtaoklfecdcakbaaP9
namespace Go.Pm
open Go.Proofs
set_option linter.unusedVariables false
set_option maxRecDepth 100000
theorem law12_up_of {r : R3} {H : List AObj} (hh : (fun n => (
  rawK 1 1 (.int .u8 0) [(0, (.int .u8 97))] H fun a1 H1 E1 =>
  (cvR a1 H1).bind fun a2 =>
  rawK 1 1 (.int .u8 0) [(0, (.int .u8 49))] H1 fun a3 H3 E3 =>
  (cvR a3 H3).bind fun a4 =>
  (fillB (AV.cells (.agg [(.int .u64 0), (.int .u64 0), (.int .i64 0), .nils, .nils])) [(0, 1, (.int .u64 5)), (1, 1, (.int .u64 1)), (2, 1, (.int .i64 1)), (3, 1, a2), (4, 1, a4)]).bind fun c5 =>
  callK (EV C) false n_command_Write [(.agg c5)] H3 fun a6 H6 E6 =>
  (extA a6 0).bind fun a7 =>
  (extA a6 1).bind fun a8 =>
  (fillB (AV.cells (.agg [(.int .i64 0), .nils, .nils, .nils, .nils])) []).bind fun c9 =>
  callK (EV C) false n_command_Apply [(.agg c9), a7] H6 fun a10 H10 E10 =>
  (extA a10 0).bind fun a11 =>
  (extA a10 1).bind fun a12 =>
  (extA a10 2).bind fun a13 =>
  newK (.agg [(.int .i64 0), .nils, .nils, .nils, .nils]) H10 fun a14 H14 E14 =>
  stoK 5 a14 a11 H14 fun H15 E15 =>
  (loadA true 5 a14 H15).bind fun a16 =>
  callK (EV C) false n_command_Apply [a16, a7] H15 fun a17 H17 E17 =>
  (extA a17 0).bind fun a18 =>
  (extA a17 1).bind fun a19 =>
  (extA a17 2).bind fun a20 =>
  newK (.agg [(.int .i64 0), .nils, .nils, .nils, .nils]) H17 fun a21 H21 E21 =>
  stoK 5 a21 a18 H21 fun H22 E22 =>
  (loadA true 5 a14 H22).bind fun a23 =>
  rawK 1 1 (.int .u8 0) [(0, (.int .u8 97))] H22 fun a24 H24 E24 =>
  (cvR a24 H24).bind fun a25 =>
  callK (EV C) false n_command_Look [a23, a25] H24 fun a26 H26 E26 =>
  (extA a26 0).bind fun a27 =>
  (extA a26 1).bind fun a28 =>
  (extA a26 2).bind fun a29 =>
  (binA .eql (Go.TypeDesc.interface #[("Error", 118)]) (cmpT Try.prog) true a8 .nili).bind fun a30 =>
  splitK a30
    ((binA .eql (Go.TypeDesc.interface #[("Error", 118)]) (cmpT Try.prog) true a13 .nili).bind fun a31 =>
    splitK a31
      ((binA .eql (Go.TypeDesc.interface #[("Error", 118)]) (cmpT Try.prog) true a20 .nili).bind fun a32 =>
      splitK a32
        ((binA .eql (Go.TypeDesc.interface #[("Error", 118)]) (cmpT Try.prog) true a29 .nili).bind fun a33 =>
        splitK a33
          ((binA .eql (Go.TypeDesc.int Go.IntKind.i64) (cmpT Try.prog) true a12 (.int .i64 1)).bind fun a34 =>
          splitK a34
            ((binA .eql (Go.TypeDesc.int Go.IntKind.i64) (cmpT Try.prog) true a19 (.int .i64 1)).bind fun a35 =>
            splitK a35
              (splitK a28
                ((cvL a27 H26).bind fun a36 =>
                (binA .eql Go.TypeDesc.string (cmpT Try.prog) true a36 (.str { data := #[49] })).bind fun a37 =>
                endB false false n a37 H26 (E26 ++ (E24 ++ (E22 ++ (E21 ++ (E17 ++ (E15 ++ (E14 ++ (E10 ++ (E6 ++ (E3 ++ (E1 ++ []))))))))))))
                (endB false false n (.bool false) H26 (E26 ++ (E24 ++ (E22 ++ (E21 ++ (E17 ++ (E15 ++ (E14 ++ (E10 ++ (E6 ++ (E3 ++ (E1 ++ [])))))))))))))
              (endB false false n (.bool false) H26 (E26 ++ (E24 ++ (E22 ++ (E21 ++ (E17 ++ (E15 ++ (E14 ++ (E10 ++ (E6 ++ (E3 ++ (E1 ++ [])))))))))))))
            (endB false false n (.bool false) H26 (E26 ++ (E24 ++ (E22 ++ (E21 ++ (E17 ++ (E15 ++ (E14 ++ (E10 ++ (E6 ++ (E3 ++ (E1 ++ [])))))))))))))
          (endB false false n (.bool false) H26 (E26 ++ (E24 ++ (E22 ++ (E21 ++ (E17 ++ (E15 ++ (E14 ++ (E10 ++ (E6 ++ (E3 ++ (E1 ++ [])))))))))))))
        (endB false false n (.bool false) H26 (E26 ++ (E24 ++ (E22 ++ (E21 ++ (E17 ++ (E15 ++ (E14 ++ (E10 ++ (E6 ++ (E3 ++ (E1 ++ [])))))))))))))
      (endB false false n (.bool false) H26 (E26 ++ (E24 ++ (E22 ++ (E21 ++ (E17 ++ (E15 ++ (E14 ++ (E10 ++ (E6 ++ (E3 ++ (E1 ++ [])))))))))))))
    (endB false false n (.bool false) H26 (E26 ++ (E24 ++ (E22 ++ (E21 ++ (E17 ++ (E15 ++ (E14 ++ (E10 ++ (E6 ++ (E3 ++ (E1 ++ [])))))))))))))) (List.length H) = some r) : EV C n_law12_up [] H = some r :=
  EV_of_fnK' (fn := Try.f10) (by kernel_rfl) (by kernel_rfl) (by kernel_rfl) hh
noncomputable def law12_CommandOnce_J10 (n : Nat) (t2 t3 t5 t9 t11 t13 t14 t16 : AV) (H : List AObj) (E : List Nat) : Option R3 :=
  loopK Try.prog C.G (EV C) (C.hint 7) Try.f7 (cAt (bodyOf Try.f7) [1, 1, 1, 1, 1, 1, 1, 0, 1, 0, 0]) (kAt Try.prog C.G (EV C) (C.hint 7) Try.f7 (bodyOf Try.f7) [1, 1, 1, 1, 1, 1, 1, 0, 1, 0] [] (endK Try.prog (C.hint 7) Try.f7 n))
    ⟨pat 173 [(2, t2), (3, t3), (5, t5), (9, t9), (11, t11), (13, t13), (14, t14), (16, t16)], H, E⟩
theorem law12_CommandOnce_J10_of {r : R3} {n : Nat} {t2 t3 t5 t9 t11 t13 t14 t16 : AV} {H : List AObj} {E : List Nat} (hh : (
  (lenV t2 H).bind fun a1 =>
  (binA .lss (Go.TypeDesc.int Go.IntKind.i64) (cmpT Try.prog) false t16 a1).bind fun a2 =>
  splitK a2
    ((binA .lss (Go.TypeDesc.int Go.IntKind.i64) (cmpT Try.prog) true t16 (.int .i64 10)).bind fun a3 =>
    condK a3
      ((ixA 5 t2 t16 H).bind fun a4 =>
      (loadA true 5 a4 H).bind fun a5 =>
      newK (.agg [(.int .u64 0), (.int .u64 0), (.int .i64 0), .nils, .nils]) H fun a6 H6 E6 =>
      stoK 5 a6 a5 H6 fun H7 E7 =>
      (offA a6 0).bind fun a8 =>
      (loadA false 1 a8 H7).bind fun a9 =>
      (offA t5 0).bind fun a10 =>
      (loadA false 1 a10 H7).bind fun a11 =>
      (binA .eql (Go.TypeDesc.int Go.IntKind.u64) (cmpT Try.prog) false a9 a11).bind fun a12 =>
      condK a12
        ((binA .add (Go.TypeDesc.int Go.IntKind.i64) (cmpT Try.prog) true t16 (.int .i64 1)).bind fun a13 =>
        condB (List.all (E7 ++ (E6 ++ [])) (fun e => decide (List.length H ≤ e)) && (AV.bel (List.length H) t2 && (AV.bel (List.length H) t3 && (AV.bel (List.length H) t5 && (AV.bel (List.length H) t9 && (AV.bel (List.length H) t11 && (AV.bel (List.length H) t13 && (AV.bel (List.length H) t14 && (AV.bel (List.length H) a13 && true)))))))))
        (law12_CommandOnce_J10 n t2 t3 t5 t9 t11 t13 t14 a13 (List.take (List.length H) H7) E))
        ((loadA true 5 a6 H7).bind fun a14 =>
        callK (EV C) false n_command_Write [a14] H7 fun a15 H15 E15 =>
        (extA a15 0).bind fun a16 =>
        (extA a15 1).bind fun a17 =>
        (binA .neq (Go.TypeDesc.interface #[("Error", 118)]) (cmpT Try.prog) true a17 .nili).bind fun a18 =>
        condK a18
          ((binA .add (Go.TypeDesc.int Go.IntKind.i64) (cmpT Try.prog) true t16 (.int .i64 1)).bind fun a19 =>
          condB (List.all (E15 ++ (E7 ++ (E6 ++ []))) (fun e => decide (List.length H ≤ e)) && (AV.bel (List.length H) t2 && (AV.bel (List.length H) t3 && (AV.bel (List.length H) t5 && (AV.bel (List.length H) t9 && (AV.bel (List.length H) t11 && (AV.bel (List.length H) t13 && (AV.bel (List.length H) t14 && (AV.bel (List.length H) a19 && true)))))))))
          (law12_CommandOnce_J10 n t2 t3 t5 t9 t11 t13 t14 a19 (List.take (List.length H) H15) E))
          ((loadA true 5 t13 H15).bind fun a20 =>
          callK (EV C) false n_command_Apply [a20, a16] H15 fun a21 H21 E21 =>
          (extA a21 0).bind fun a22 =>
          (extA a21 1).bind fun a23 =>
          (extA a21 2).bind fun a24 =>
          newK (.agg [(.int .i64 0), .nils, .nils, .nils, .nils]) H21 fun a25 H25 E25 =>
          stoK 5 a25 a22 H25 fun H26 E26 =>
          (binA .neq (Go.TypeDesc.interface #[("Error", 118)]) (cmpT Try.prog) true a24 .nili).bind fun a27 =>
          condK a27
            (endB false false n (.bool false) H26 ((E26 ++ (E25 ++ (E21 ++ (E15 ++ (E7 ++ (E6 ++ [])))))) ++ E))
            ((loadA true 5 a25 H26).bind fun a28 =>
            stoK 5 t13 a28 H26 fun H29 E29 =>
            (binA .add (Go.TypeDesc.int Go.IntKind.i64) (cmpT Try.prog) true t16 (.int .i64 1)).bind fun a30 =>
            condB (List.all (E29 ++ (E26 ++ (E25 ++ (E21 ++ (E15 ++ (E7 ++ (E6 ++ []))))))) (fun e => decide (List.length H ≤ e)) && (AV.bel (List.length H) t2 && (AV.bel (List.length H) t3 && (AV.bel (List.length H) t5 && (AV.bel (List.length H) t9 && (AV.bel (List.length H) t11 && (AV.bel (List.length H) t13 && (AV.bel (List.length H) t14 && (AV.bel (List.length H) a30 && true)))))))))
            (law12_CommandOnce_J10 n t2 t3 t5 t9 t11 t13 t14 a30 (List.take (List.length H) H29) E)))))
      ((loadA true 5 t13 H).bind fun a31 =>
      callK (EV C) false n_command_Apply [a31, t11] H fun a32 H32 E32 =>
      (extA a32 0).bind fun a33 =>
      (extA a32 1).bind fun a34 =>
      (extA a32 2).bind fun a35 =>
      newK (.agg [(.int .i64 0), .nils, .nils, .nils, .nils]) H32 fun a36 H36 E36 =>
      stoK 5 a36 a33 H36 fun H37 E37 =>
      (binA .neq (Go.TypeDesc.interface #[("Error", 118)]) (cmpT Try.prog) true a35 .nili).bind fun a38 =>
      splitK a38
        (endB false false n (.bool false) H37 (E37 ++ (E36 ++ (E32 ++ E))))
        ((binA .neq (Go.TypeDesc.int Go.IntKind.i64) (cmpT Try.prog) false a34 t14).bind fun a39 =>
        splitK a39
          (endB false false n (.bool false) H37 (E37 ++ (E36 ++ (E32 ++ E))))
          ((loadA true 5 a36 H37).bind fun a40 =>
          (loadA true 5 t13 H37).bind fun a41 =>
          callK (EV C) false n_ref04_Same [a40, a41] H37 fun a42 H42 E42 =>
          (unA .not a42).bind fun a43 =>
          condK a43
            (endB false false n (.bool false) H42 (E42 ++ (E37 ++ (E36 ++ (E32 ++ E)))))
            ((binA .eql (Go.TypeDesc.int Go.IntKind.u64) (cmpT Try.prog) true t3 (.int .u64 0)).bind fun a44 =>
            splitK a44
              (endB false false n t9 H42 (E42 ++ (E37 ++ (E36 ++ (E32 ++ E)))))
              ((offA t5 1).bind fun a45 =>
              (loadA false 1 a45 H42).bind fun a46 =>
              (binA .gtr (Go.TypeDesc.int Go.IntKind.u64) (cmpT Try.prog) false t3 a46).bind fun a47 =>
              condK a47
                (endB false false n t9 H42 (E42 ++ (E37 ++ (E36 ++ (E32 ++ E)))))
                ((offA t5 1).bind fun a48 =>
                (loadA false 1 a48 H42).bind fun a49 =>
                (binA .sub (Go.TypeDesc.int Go.IntKind.u64) (cmpT Try.prog) false a49 t3).bind fun a50 =>
                (offA t5 1).bind fun a51 =>
                stoK 1 a51 a50 H42 fun H52 E52 =>
                (loadA true 5 t5 H52).bind fun a53 =>
                callK (EV C) false n_command_Write [a53] H52 fun a54 H54 E54 =>
                (extA a54 0).bind fun a55 =>
                (extA a54 1).bind fun a56 =>
                (loadA true 5 t13 H54).bind fun a57 =>
                callK (EV C) false n_command_Apply [a57, a55] H54 fun a58 H58 E58 =>
                (extA a58 0).bind fun a59 =>
                (extA a58 1).bind fun a60 =>
                (extA a58 2).bind fun a61 =>
                newK (.agg [(.int .i64 0), .nils, .nils, .nils, .nils]) H58 fun a62 H62 E62 =>
                stoK 5 a62 a59 H62 fun H63 E63 =>
                splitK t9
                  ((binA .eql (Go.TypeDesc.interface #[("Error", 118)]) (cmpT Try.prog) true a56 .nili).bind fun a64 =>
                  splitK a64
                    ((binA .eql (Go.TypeDesc.interface #[("Error", 118)]) (cmpT Try.prog) true a61 .nili).bind fun a65 =>
                    splitK a65
                      ((binA .eql (Go.TypeDesc.int Go.IntKind.i64) (cmpT Try.prog) true a60 (.int .i64 5)).bind fun a66 =>
                      splitK a66
                        ((loadA true 5 a62 H63).bind fun a67 =>
                        (loadA true 5 t13 H63).bind fun a68 =>
                        callK (EV C) false n_ref04_Same [a67, a68] H63 fun a69 H69 E69 =>
                        endB false false n a69 H69 (E69 ++ (E63 ++ (E62 ++ (E58 ++ (E54 ++ (E52 ++ (E42 ++ (E37 ++ (E36 ++ (E32 ++ E)))))))))))
                        (endB false false n (.bool false) H63 (E63 ++ (E62 ++ (E58 ++ (E54 ++ (E52 ++ (E42 ++ (E37 ++ (E36 ++ (E32 ++ E)))))))))))
                      (endB false false n (.bool false) H63 (E63 ++ (E62 ++ (E58 ++ (E54 ++ (E52 ++ (E42 ++ (E37 ++ (E36 ++ (E32 ++ E)))))))))))
                    (endB false false n (.bool false) H63 (E63 ++ (E62 ++ (E58 ++ (E54 ++ (E52 ++ (E42 ++ (E37 ++ (E36 ++ (E32 ++ E)))))))))))
                  (endB false false n (.bool false) H63 (E63 ++ (E62 ++ (E58 ++ (E54 ++ (E52 ++ (E42 ++ (E37 ++ (E36 ++ (E32 ++ E)))))))))))))))))
    ((loadA true 5 t13 H).bind fun a70 =>
    callK (EV C) false n_command_Apply [a70, t11] H fun a71 H71 E71 =>
    (extA a71 0).bind fun a72 =>
    (extA a71 1).bind fun a73 =>
    (extA a71 2).bind fun a74 =>
    newK (.agg [(.int .i64 0), .nils, .nils, .nils, .nils]) H71 fun a75 H75 E75 =>
    stoK 5 a75 a72 H75 fun H76 E76 =>
    (binA .neq (Go.TypeDesc.interface #[("Error", 118)]) (cmpT Try.prog) true a74 .nili).bind fun a77 =>
    splitK a77
      (endB false false n (.bool false) H76 (E76 ++ (E75 ++ (E71 ++ E))))
      ((binA .neq (Go.TypeDesc.int Go.IntKind.i64) (cmpT Try.prog) false a73 t14).bind fun a78 =>
      splitK a78
        (endB false false n (.bool false) H76 (E76 ++ (E75 ++ (E71 ++ E))))
        ((loadA true 5 a75 H76).bind fun a79 =>
        (loadA true 5 t13 H76).bind fun a80 =>
        callK (EV C) false n_ref04_Same [a79, a80] H76 fun a81 H81 E81 =>
        (unA .not a81).bind fun a82 =>
        condK a82
          (endB false false n (.bool false) H81 (E81 ++ (E76 ++ (E75 ++ (E71 ++ E)))))
          ((binA .eql (Go.TypeDesc.int Go.IntKind.u64) (cmpT Try.prog) true t3 (.int .u64 0)).bind fun a83 =>
          splitK a83
            (endB false false n t9 H81 (E81 ++ (E76 ++ (E75 ++ (E71 ++ E)))))
            ((offA t5 1).bind fun a84 =>
            (loadA false 1 a84 H81).bind fun a85 =>
            (binA .gtr (Go.TypeDesc.int Go.IntKind.u64) (cmpT Try.prog) false t3 a85).bind fun a86 =>
            condK a86
              (endB false false n t9 H81 (E81 ++ (E76 ++ (E75 ++ (E71 ++ E)))))
              ((offA t5 1).bind fun a87 =>
              (loadA false 1 a87 H81).bind fun a88 =>
              (binA .sub (Go.TypeDesc.int Go.IntKind.u64) (cmpT Try.prog) false a88 t3).bind fun a89 =>
              (offA t5 1).bind fun a90 =>
              stoK 1 a90 a89 H81 fun H91 E91 =>
              (loadA true 5 t5 H91).bind fun a92 =>
              callK (EV C) false n_command_Write [a92] H91 fun a93 H93 E93 =>
              (extA a93 0).bind fun a94 =>
              (extA a93 1).bind fun a95 =>
              (loadA true 5 t13 H93).bind fun a96 =>
              callK (EV C) false n_command_Apply [a96, a94] H93 fun a97 H97 E97 =>
              (extA a97 0).bind fun a98 =>
              (extA a97 1).bind fun a99 =>
              (extA a97 2).bind fun a100 =>
              newK (.agg [(.int .i64 0), .nils, .nils, .nils, .nils]) H97 fun a101 H101 E101 =>
              stoK 5 a101 a98 H101 fun H102 E102 =>
              splitK t9
                ((binA .eql (Go.TypeDesc.interface #[("Error", 118)]) (cmpT Try.prog) true a95 .nili).bind fun a103 =>
                splitK a103
                  ((binA .eql (Go.TypeDesc.interface #[("Error", 118)]) (cmpT Try.prog) true a100 .nili).bind fun a104 =>
                  splitK a104
                    ((binA .eql (Go.TypeDesc.int Go.IntKind.i64) (cmpT Try.prog) true a99 (.int .i64 5)).bind fun a105 =>
                    splitK a105
                      ((loadA true 5 a101 H102).bind fun a106 =>
                      (loadA true 5 t13 H102).bind fun a107 =>
                      callK (EV C) false n_ref04_Same [a106, a107] H102 fun a108 H108 E108 =>
                      endB false false n a108 H108 (E108 ++ (E102 ++ (E101 ++ (E97 ++ (E93 ++ (E91 ++ (E81 ++ (E76 ++ (E75 ++ (E71 ++ E)))))))))))
                      (endB false false n (.bool false) H102 (E102 ++ (E101 ++ (E97 ++ (E93 ++ (E91 ++ (E81 ++ (E76 ++ (E75 ++ (E71 ++ E)))))))))))
                    (endB false false n (.bool false) H102 (E102 ++ (E101 ++ (E97 ++ (E93 ++ (E91 ++ (E81 ++ (E76 ++ (E75 ++ (E71 ++ E)))))))))))
                  (endB false false n (.bool false) H102 (E102 ++ (E101 ++ (E97 ++ (E93 ++ (E91 ++ (E81 ++ (E76 ++ (E75 ++ (E71 ++ E)))))))))))
                (endB false false n (.bool false) H102 (E102 ++ (E101 ++ (E97 ++ (E93 ++ (E91 ++ (E81 ++ (E76 ++ (E75 ++ (E71 ++ E))))))))))))))))) = some r) : law12_CommandOnce_J10 n t2 t3 t5 t9 t11 t13 t14 t16 H E = some r :=
  loop_step' (by kernel_rfl) hh
theorem law12_CommandOnce_of {r : R3} {x0 x1 x2 x3 : AV} {H : List AObj} (hh : (fun n => (
  newK x1 H fun a1 H1 E1 =>
  callK (EV C) false n_law12_up [] H1 fun a2 H2 E2 =>
  callK (EV C) false n_ref05_Grown [x0] H2 fun a3 H3 E3 =>
  newK (.agg [(.int .i64 0), .nils, .nils, .nils, .nils]) H3 fun a4 H4 E4 =>
  stoK 5 a4 a3 H4 fun H5 E5 =>
  (loadA true 5 a1 H5).bind fun a6 =>
  callK (EV C) false n_command_Write [a6] H5 fun a7 H7 E7 =>
  (extA a7 0).bind fun a8 =>
  (extA a7 1).bind fun a9 =>
  (binA .neq (Go.TypeDesc.interface #[("Error", 118)]) (cmpT Try.prog) true a9 .nili).bind fun a10 =>
  condK a10
    (splitK a2
      ((binA .eql (Go.TypeDesc.interface #[("Error", 118)]) (cmpT Try.prog) false a9 (.ifc t_api_Code (.int .i64 1))).bind fun a11 =>
      endB false false n a11 H7 (E7 ++ (E5 ++ (E4 ++ (E3 ++ (E2 ++ (E1 ++ [])))))))
      (endB false false n (.bool false) H7 (E7 ++ (E5 ++ (E4 ++ (E3 ++ (E2 ++ (E1 ++ []))))))))
    ((loadA true 5 a4 H7).bind fun a12 =>
    callK (EV C) false n_command_Apply [a12, a8] H7 fun a13 H13 E13 =>
    (extA a13 0).bind fun a14 =>
    (extA a13 1).bind fun a15 =>
    (extA a13 2).bind fun a16 =>
    newK (.agg [(.int .i64 0), .nils, .nils, .nils, .nils]) H13 fun a17 H17 E17 =>
    stoK 5 a17 a14 H17 fun H18 E18 =>
    (binA .neq (Go.TypeDesc.interface #[("Error", 118)]) (cmpT Try.prog) true a16 .nili).bind fun a19 =>
    splitK a19
      (splitK a2
        ((binA .eql (Go.TypeDesc.interface #[("Error", 118)]) (cmpT Try.prog) true a16 .nili).bind fun a20 =>
        splitK a20
          ((binA .eql (Go.TypeDesc.int Go.IntKind.i64) (cmpT Try.prog) true a15 (.int .i64 5)).bind fun a21 =>
          endB false false n a21 H18 (E18 ++ (E17 ++ (E13 ++ (E7 ++ (E5 ++ (E4 ++ (E3 ++ (E2 ++ (E1 ++ []))))))))))
          (endB false false n (.bool false) H18 (E18 ++ (E17 ++ (E13 ++ (E7 ++ (E5 ++ (E4 ++ (E3 ++ (E2 ++ (E1 ++ [])))))))))))
        (endB false false n (.bool false) H18 (E18 ++ (E17 ++ (E13 ++ (E7 ++ (E5 ++ (E4 ++ (E3 ++ (E2 ++ (E1 ++ [])))))))))))
      ((binA .eql (Go.TypeDesc.int Go.IntKind.i64) (cmpT Try.prog) true a15 (.int .i64 5)).bind fun a22 =>
      splitK a22
        (splitK a2
          ((binA .eql (Go.TypeDesc.interface #[("Error", 118)]) (cmpT Try.prog) true a16 .nili).bind fun a23 =>
          splitK a23
            ((binA .eql (Go.TypeDesc.int Go.IntKind.i64) (cmpT Try.prog) true a15 (.int .i64 5)).bind fun a24 =>
            endB false false n a24 H18 (E18 ++ (E17 ++ (E13 ++ (E7 ++ (E5 ++ (E4 ++ (E3 ++ (E2 ++ (E1 ++ []))))))))))
            (endB false false n (.bool false) H18 (E18 ++ (E17 ++ (E13 ++ (E7 ++ (E5 ++ (E4 ++ (E3 ++ (E2 ++ (E1 ++ [])))))))))))
          (endB false false n (.bool false) H18 (E18 ++ (E17 ++ (E13 ++ (E7 ++ (E5 ++ (E4 ++ (E3 ++ (E2 ++ (E1 ++ [])))))))))))
        ((binA .eql (Go.TypeDesc.int Go.IntKind.i64) (cmpT Try.prog) true a15 (.int .i64 0)).bind fun a25 =>
        condK a25
          (splitK a2
            ((binA .eql (Go.TypeDesc.interface #[("Error", 118)]) (cmpT Try.prog) true a16 .nili).bind fun a26 =>
            splitK a26
              ((binA .eql (Go.TypeDesc.int Go.IntKind.i64) (cmpT Try.prog) true a15 (.int .i64 5)).bind fun a27 =>
              endB false false n a27 H18 (E18 ++ (E17 ++ (E13 ++ (E7 ++ (E5 ++ (E4 ++ (E3 ++ (E2 ++ (E1 ++ []))))))))))
              (endB false false n (.bool false) H18 (E18 ++ (E17 ++ (E13 ++ (E7 ++ (E5 ++ (E4 ++ (E3 ++ (E2 ++ (E1 ++ [])))))))))))
            (endB false false n (.bool false) H18 (E18 ++ (E17 ++ (E13 ++ (E7 ++ (E5 ++ (E4 ++ (E3 ++ (E2 ++ (E1 ++ [])))))))))))
          (law12_CommandOnce_J10 n x2 x3 a1 a2 a8 a17 a15 (.int .i64 0) H18 (E18 ++ (E17 ++ (E13 ++ (E7 ++ (E5 ++ (E4 ++ (E3 ++ (E2 ++ (E1 ++ []))))))))))))))) (List.length H) = some r) : EV C n_law12_CommandOnce [x0, x1, x2, x3] H = some r :=
  EV_of_fnK' (fn := Try.f7) (by kernel_rfl) (by kernel_rfl) (by kernel_rfl) hh
end Go.Pm
