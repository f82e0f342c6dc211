/- A part of the proof: what the functions of the program answer, as plain lists and numbers. -/
import Derived.Test.YtdihhoglamkfkaaL0
namespace Go.Pm
open Go.Proofs
set_option linter.unusedVariables false
set_option maxRecDepth 100000
/-! ### 4 heartwood/heartwoodlaw18.LogMerges -/
theorem law18_LogMerges_of {r : R3} {x0 x1 x2 : AV} {H : List AObj} (hh : (fun n => (
  newK x0 H fun a1 H1 E1 =>
  callK (EV C) false n_law18_up [] H1 fun a2 H2 E2 =>
  (loadA true 4 a1 H2).bind fun a3 =>
  callK (EV C) false n_ref18_Light [a3] H2 fun a4 H4 E4 =>
  (unA .not a4).bind fun a5 =>
  splitK a5
    (endB false false n a2 H4 (E4 ++ (E2 ++ (E1 ++ []))))
    ((fillB (AV.cells (.agg [(.int .i64 0), (.int .i64 0), .nils, .nils])) [(3, 1, x2)]).bind fun c6 =>
    callK (EV C) false n_ref18_Light [(.agg c6)] H4 fun a7 H7 E7 =>
    (unA .not a7).bind fun a8 =>
    condK a8
      (endB false false n a2 H7 (E7 ++ (E4 ++ (E2 ++ (E1 ++ [])))))
      ((loadA true 4 a1 H7).bind fun a9 =>
      callK (EV C) false n_log_Merge [a9, x1, x2] H7 fun a10 H10 E10 =>
      (extA a10 0).bind fun a11 =>
      (extA a10 1).bind fun a12 =>
      (extA a10 2).bind fun a13 =>
      newK (.agg [(.int .i64 0), (.int .i64 0), .nils, .nils]) H10 fun a14 H14 E14 =>
      stoK 4 a14 a11 H14 fun H15 E15 =>
      (loadA true 4 a1 H15).bind fun a16 =>
      callK (EV C) false n_ref18_Check [a16] H15 fun a17 H17 E17 =>
      (unA .not a17).bind fun a18 =>
      condK a18
        (splitK a2
          ((binA .eql (Go.TypeDesc.interface #[("Error", 88)]) (cmpT Try.prog) false a13 (.ifc t_api_Code (.int .i64 3))).bind fun a19 =>
          splitK a19
            ((binA .eql (Go.TypeDesc.int Go.IntKind.i64) (cmpT Try.prog) true a12 (.int .i64 0)).bind fun a20 =>
            splitK a20
              ((loadA true 4 a14 H17).bind fun a21 =>
              (fillB (AV.cells (.agg [(.int .i64 0), (.int .i64 0), .nils, .nils])) []).bind fun c22 =>
              callK (EV C) false n_ref18_Same [a21, (.agg c22)] H17 fun a23 H23 E23 =>
              endB false false n a23 H23 (E23 ++ (E17 ++ (E15 ++ (E14 ++ (E10 ++ (E7 ++ (E4 ++ (E2 ++ (E1 ++ []))))))))))
              (endB false false n (.bool false) H17 (E17 ++ (E15 ++ (E14 ++ (E10 ++ (E7 ++ (E4 ++ (E2 ++ (E1 ++ []))))))))))
            (endB false false n (.bool false) H17 (E17 ++ (E15 ++ (E14 ++ (E10 ++ (E7 ++ (E4 ++ (E2 ++ (E1 ++ []))))))))))
          (endB false false n (.bool false) H17 (E17 ++ (E15 ++ (E14 ++ (E10 ++ (E7 ++ (E4 ++ (E2 ++ (E1 ++ []))))))))))
        ((loadA true 4 a1 H17).bind fun a24 =>
        callK (EV C) false n_ref18_Merge [a24, x1, x2] H17 fun a25 H25 E25 =>
        (extA a25 0).bind fun a26 =>
        (extA a25 1).bind fun a27 =>
        (extA a25 2).bind fun a28 =>
        newK (.agg [(.int .i64 0), (.int .i64 0), .nils, .nils]) H25 fun a29 H29 E29 =>
        stoK 4 a29 a26 H29 fun H30 E30 =>
        splitK a2
          (callK (EV C) false n_law00_Code [a13] H30 fun a31 H31 E31 =>
          (binA .eql (Go.TypeDesc.int Go.IntKind.i64) (cmpT Try.prog) false a31 a28).bind fun a32 =>
          splitK a32
            ((binA .eql (Go.TypeDesc.int Go.IntKind.i64) (cmpT Try.prog) false a12 a27).bind fun a33 =>
            splitK a33
              ((loadA true 4 a14 H31).bind fun a34 =>
              (loadA true 4 a29 H31).bind fun a35 =>
              callK (EV C) false n_ref18_Same [a34, a35] H31 fun a36 H36 E36 =>
              endB false false n a36 H36 (E36 ++ (E31 ++ (E30 ++ (E29 ++ (E25 ++ (E17 ++ (E15 ++ (E14 ++ (E10 ++ (E7 ++ (E4 ++ (E2 ++ (E1 ++ []))))))))))))))
              (endB false false n (.bool false) H31 (E31 ++ (E30 ++ (E29 ++ (E25 ++ (E17 ++ (E15 ++ (E14 ++ (E10 ++ (E7 ++ (E4 ++ (E2 ++ (E1 ++ []))))))))))))))
            (endB false false n (.bool false) H31 (E31 ++ (E30 ++ (E29 ++ (E25 ++ (E17 ++ (E15 ++ (E14 ++ (E10 ++ (E7 ++ (E4 ++ (E2 ++ (E1 ++ []))))))))))))))
          (endB false false n (.bool false) H30 (E30 ++ (E29 ++ (E25 ++ (E17 ++ (E15 ++ (E14 ++ (E10 ++ (E7 ++ (E4 ++ (E2 ++ (E1 ++ []))))))))))))))))) (List.length H) = some r) : EV C n_law18_LogMerges [x0, x1, x2] H = some r :=
  EV_of_fnK' (fn := Try.f4) (by kernel_rfl) (by kernel_rfl) (by kernel_rfl) hh
/-! ### 5 heartwood/heartwoodlaw18.LogAgain -/
noncomputable def law18_LogAgain_J13 (n : Nat) (t1 t2 t3 t7 t8 t9 t15 t17 : AV) (H : List AObj) (E : List Nat) : Option R3 :=
  loopK Try.prog C.G (EV C) (C.hint 5) Try.f5 (cAt (bodyOf Try.f5) [1, 1, 1, 1, 1, 1, 1, 1, 1, 0, 1, 0, 0]) (kAt Try.prog C.G (EV C) (C.hint 5) Try.f5 (bodyOf Try.f5) [1, 1, 1, 1, 1, 1, 1, 1, 1, 0, 1, 0] [] (endK Try.prog (C.hint 5) Try.f5 n))
    ⟨pat 143 [(1, t1), (2, t2), (3, t3), (7, t7), (8, t8), (9, t9), (15, t15), (17, t17)], H, E⟩
noncomputable def law18_LogAgain_J19 (n : Nat) (t3 t7 t8 t9 t15 t20 : AV) (H : List AObj) (E : List Nat) : Option R3 :=
  loopK Try.prog C.G (EV C) (C.hint 5) Try.f5 (cAt (bodyOf Try.f5) [1, 1, 1, 1, 1, 1, 1, 1, 1, 1, 0, 1, 0, 0]) (kAt Try.prog C.G (EV C) (C.hint 5) Try.f5 (bodyOf Try.f5) [1, 1, 1, 1, 1, 1, 1, 1, 1, 1, 0, 1, 0] [] (endK Try.prog (C.hint 5) Try.f5 n))
    ⟨pat 143 [(3, t3), (7, t7), (8, t8), (9, t9), (15, t15), (20, t20)], H, E⟩
theorem law18_LogAgain_J13_of {r : R3} {n : Nat} {t1 t2 t3 t7 t8 t9 t15 t17 : AV} {H : List AObj} {E : List Nat} (hh : (
  (lenV t2 H).bind fun a1 =>
  (binA .lss (Go.TypeDesc.int Go.IntKind.i64) (cmpT Try.prog) false t17 a1).bind fun a2 =>
  condK a2
    ((loadA true 4 t8 H).bind fun a3 =>
    (binA .add (Go.TypeDesc.int Go.IntKind.i64) (cmpT Try.prog) true t1 (.int .i64 1)).bind fun a4 =>
    (binA .add (Go.TypeDesc.int Go.IntKind.i64) (cmpT Try.prog) false a4 t17).bind fun a5 =>
    callK (EV C) false n_log_Term [a3, a5] H fun a6 H6 E6 =>
    (extA a6 0).bind fun a7 =>
    (extA a6 1).bind fun a8 =>
    (binA .neq (Go.TypeDesc.interface #[("Error", 88)]) (cmpT Try.prog) true a8 .nili).bind fun a9 =>
    splitK a9
      (endB false false n (.bool false) H6 ((E6 ++ []) ++ E))
      ((ixA 3 t2 t17 H6).bind fun a10 =>
      (offA a10 0).bind fun a11 =>
      (loadA false 1 a11 H6).bind fun a12 =>
      (binA .neq (Go.TypeDesc.int Go.IntKind.i64) (cmpT Try.prog) false a7 a12).bind fun a13 =>
      condK a13
        (endB false false n (.bool false) H6 ((E6 ++ []) ++ E))
        ((binA .add (Go.TypeDesc.int Go.IntKind.i64) (cmpT Try.prog) true t17 (.int .i64 1)).bind fun a14 =>
        law18_LogAgain_J13 n t1 t2 t3 t7 t8 t9 t15 a14 H6 ((E6 ++ []) ++ E))))
    ((offA t3 0).bind fun a15 =>
    (offA a15 0).bind fun a16 =>
    (loadA false 1 a16 H).bind fun a17 =>
    law18_LogAgain_J19 n t3 t7 t8 t9 t15 a17 H E)) = some r) : law18_LogAgain_J13 n t1 t2 t3 t7 t8 t9 t15 t17 H E = some r :=
  loop_step' (by kernel_rfl) hh
theorem law18_LogAgain_J19_of {r : R3} {n : Nat} {t3 t7 t8 t9 t15 t20 : AV} {H : List AObj} {E : List Nat} (hh : (
  (binA .lss (Go.TypeDesc.int Go.IntKind.i64) (cmpT Try.prog) false t20 t9).bind fun a1 =>
  splitK a1
    ((binA .leq (Go.TypeDesc.int Go.IntKind.i64) (cmpT Try.prog) false t20 t15).bind fun a2 =>
    condK a2
      ((loadA true 4 t3 H).bind fun a3 =>
      callK (EV C) false n_log_Term [a3, t20] H fun a4 H4 E4 =>
      (extA a4 0).bind fun a5 =>
      (extA a4 1).bind fun a6 =>
      (loadA true 4 t8 H4).bind fun a7 =>
      callK (EV C) false n_log_Term [a7, t20] H4 fun a8 H8 E8 =>
      (extA a8 0).bind fun a9 =>
      (extA a8 1).bind fun a10 =>
      (binA .neq (Go.TypeDesc.interface #[("Error", 88)]) (cmpT Try.prog) true a6 .nili).bind fun a11 =>
      splitK a11
        (endB false false n (.bool false) H8 ((E8 ++ (E4 ++ [])) ++ E))
        ((binA .neq (Go.TypeDesc.interface #[("Error", 88)]) (cmpT Try.prog) true a10 .nili).bind fun a12 =>
        splitK a12
          (endB false false n (.bool false) H8 ((E8 ++ (E4 ++ [])) ++ E))
          ((binA .neq (Go.TypeDesc.int Go.IntKind.i64) (cmpT Try.prog) false a5 a9).bind fun a13 =>
          condK a13
            (endB false false n (.bool false) H8 ((E8 ++ (E4 ++ [])) ++ E))
            ((binA .add (Go.TypeDesc.int Go.IntKind.i64) (cmpT Try.prog) true t20 (.int .i64 1)).bind fun a14 =>
            law18_LogAgain_J19 n t3 t7 t8 t9 t15 a14 H8 ((E8 ++ (E4 ++ [])) ++ E)))))
      (endB false false n t7 H E))
    (endB false false n t7 H E)) = some r) : law18_LogAgain_J19 n t3 t7 t8 t9 t15 t20 H E = some r :=
  loop_step' (by kernel_rfl) hh
theorem law18_LogAgain_of {r : R3} {x0 x1 x2 : AV} {H : List AObj} (hh : (fun n => (
  newK x0 H fun a1 H1 E1 =>
  callK (EV C) false n_law18_up [] H1 fun a2 H2 E2 =>
  (loadA true 4 a1 H2).bind fun a3 =>
  callK (EV C) false n_ref18_Light [a3] H2 fun a4 H4 E4 =>
  (unA .not a4).bind fun a5 =>
  splitK a5
    (endB false false n a2 H4 (E4 ++ (E2 ++ (E1 ++ []))))
    ((fillB (AV.cells (.agg [(.int .i64 0), (.int .i64 0), .nils, .nils])) [(3, 1, x2)]).bind fun c6 =>
    callK (EV C) false n_ref18_Light [(.agg c6)] H4 fun a7 H7 E7 =>
    (unA .not a7).bind fun a8 =>
    condK a8
      (endB false false n a2 H7 (E7 ++ (E4 ++ (E2 ++ (E1 ++ [])))))
      ((loadA true 4 a1 H7).bind fun a9 =>
      callK (EV C) false n_log_Merge [a9, x1, x2] H7 fun a10 H10 E10 =>
      (extA a10 0).bind fun a11 =>
      (extA a10 1).bind fun a12 =>
      (extA a10 2).bind fun a13 =>
      newK (.agg [(.int .i64 0), (.int .i64 0), .nils, .nils]) H10 fun a14 H14 E14 =>
      stoK 4 a14 a11 H14 fun H15 E15 =>
      (binA .neq (Go.TypeDesc.interface #[("Error", 88)]) (cmpT Try.prog) true a13 .nili).bind fun a16 =>
      condK a16
        (endB false false n a2 H15 (E15 ++ (E14 ++ (E10 ++ (E7 ++ (E4 ++ (E2 ++ (E1 ++ []))))))))
        ((loadA true 4 a14 H15).bind fun a17 =>
        callK (EV C) false n_log_Check [a17] H15 fun a18 H18 E18 =>
        (loadA true 4 a14 H18).bind fun a19 =>
        callK (EV C) false n_log_Merge [a19, x1, x2] H18 fun a20 H20 E20 =>
        (extA a20 0).bind fun a21 =>
        (extA a20 1).bind fun a22 =>
        (extA a20 2).bind fun a23 =>
        newK (.agg [(.int .i64 0), (.int .i64 0), .nils, .nils]) H20 fun a24 H24 E24 =>
        stoK 4 a24 a21 H24 fun H25 E25 =>
        (loadA true 4 a14 H25).bind fun a26 =>
        callK (EV C) false n_log_Last [a26] H25 fun a27 H27 E27 =>
        (extA a27 0).bind fun a28 =>
        (extA a27 1).bind fun a29 =>
        (binA .neq (Go.TypeDesc.interface #[("Error", 88)]) (cmpT Try.prog) true a18 .nili).bind fun a30 =>
        splitK a30
          (endB false false n (.bool false) H27 (E27 ++ (E25 ++ (E24 ++ (E20 ++ (E18 ++ (E15 ++ (E14 ++ (E10 ++ (E7 ++ (E4 ++ (E2 ++ (E1 ++ [])))))))))))))
          ((binA .neq (Go.TypeDesc.interface #[("Error", 88)]) (cmpT Try.prog) true a23 .nili).bind fun a31 =>
          splitK a31
            (endB false false n (.bool false) H27 (E27 ++ (E25 ++ (E24 ++ (E20 ++ (E18 ++ (E15 ++ (E14 ++ (E10 ++ (E7 ++ (E4 ++ (E2 ++ (E1 ++ [])))))))))))))
            ((binA .add (Go.TypeDesc.int Go.IntKind.i64) (cmpT Try.prog) true a28 (.int .i64 1)).bind fun a32 =>
            (binA .neq (Go.TypeDesc.int Go.IntKind.i64) (cmpT Try.prog) false a22 a32).bind fun a33 =>
            splitK a33
              (endB false false n (.bool false) H27 (E27 ++ (E25 ++ (E24 ++ (E20 ++ (E18 ++ (E15 ++ (E14 ++ (E10 ++ (E7 ++ (E4 ++ (E2 ++ (E1 ++ [])))))))))))))
              ((loadA true 4 a24 H27).bind fun a34 =>
              (loadA true 4 a14 H27).bind fun a35 =>
              callK (EV C) false n_ref18_Same [a34, a35] H27 fun a36 H36 E36 =>
              (unA .not a36).bind fun a37 =>
              condK a37
                (endB false false n (.bool false) H36 (E36 ++ (E27 ++ (E25 ++ (E24 ++ (E20 ++ (E18 ++ (E15 ++ (E14 ++ (E10 ++ (E7 ++ (E4 ++ (E2 ++ (E1 ++ []))))))))))))))
                (law18_LogAgain_J13 n x1 x2 a1 a2 a14 a12 a28 (.int .i64 0) H36 (E36 ++ (E27 ++ (E25 ++ (E24 ++ (E20 ++ (E18 ++ (E15 ++ (E14 ++ (E10 ++ (E7 ++ (E4 ++ (E2 ++ (E1 ++ [])))))))))))))))))))))) (List.length H) = some r) : EV C n_law18_LogAgain [x0, x1, x2] H = some r :=
  EV_of_fnK' (fn := Try.f5) (by kernel_rfl) (by kernel_rfl) (by kernel_rfl) hh
/-! ### 6 heartwood/heartwoodlaw18.LogCompacts -/
theorem law18_LogCompacts_of {r : R3} {x0 x1 : AV} {H : List AObj} (hh : (fun n => (
  newK x0 H fun a1 H1 E1 =>
  callK (EV C) false n_law18_up [] H1 fun a2 H2 E2 =>
  (loadA true 4 a1 H2).bind fun a3 =>
  callK (EV C) false n_ref18_Light [a3] H2 fun a4 H4 E4 =>
  (unA .not a4).bind fun a5 =>
  condK a5
    (endB false false n a2 H4 (E4 ++ (E2 ++ (E1 ++ []))))
    ((loadA true 4 a1 H4).bind fun a6 =>
    callK (EV C) false n_log_Compact [a6, x1] H4 fun a7 H7 E7 =>
    (extA a7 0).bind fun a8 =>
    (extA a7 1).bind fun a9 =>
    newK (.agg [(.int .i64 0), (.int .i64 0), .nils, .nils]) H7 fun a10 H10 E10 =>
    stoK 4 a10 a8 H10 fun H11 E11 =>
    (loadA true 4 a1 H11).bind fun a12 =>
    callK (EV C) false n_ref18_Check [a12] H11 fun a13 H13 E13 =>
    (unA .not a13).bind fun a14 =>
    condK a14
      (splitK a2
        ((binA .eql (Go.TypeDesc.interface #[("Error", 88)]) (cmpT Try.prog) false a9 (.ifc t_api_Code (.int .i64 3))).bind fun a15 =>
        splitK a15
          ((loadA true 4 a10 H13).bind fun a16 =>
          (fillB (AV.cells (.agg [(.int .i64 0), (.int .i64 0), .nils, .nils])) []).bind fun c17 =>
          callK (EV C) false n_ref18_Same [a16, (.agg c17)] H13 fun a18 H18 E18 =>
          endB false false n a18 H18 (E18 ++ (E13 ++ (E11 ++ (E10 ++ (E7 ++ (E4 ++ (E2 ++ (E1 ++ [])))))))))
          (endB false false n (.bool false) H13 (E13 ++ (E11 ++ (E10 ++ (E7 ++ (E4 ++ (E2 ++ (E1 ++ [])))))))))
        (endB false false n (.bool false) H13 (E13 ++ (E11 ++ (E10 ++ (E7 ++ (E4 ++ (E2 ++ (E1 ++ [])))))))))
      ((loadA true 4 a1 H13).bind fun a19 =>
      callK (EV C) false n_ref18_Has [a19, x1] H13 fun a20 H20 E20 =>
      (unA .not a20).bind fun a21 =>
      condK a21
        (splitK a2
          ((binA .eql (Go.TypeDesc.interface #[("Error", 88)]) (cmpT Try.prog) false a9 (.ifc t_api_Code (.int .i64 9))).bind fun a22 =>
          splitK a22
            ((loadA true 4 a10 H20).bind fun a23 =>
            (fillB (AV.cells (.agg [(.int .i64 0), (.int .i64 0), .nils, .nils])) []).bind fun c24 =>
            callK (EV C) false n_ref18_Same [a23, (.agg c24)] H20 fun a25 H25 E25 =>
            endB false false n a25 H25 (E25 ++ (E20 ++ (E13 ++ (E11 ++ (E10 ++ (E7 ++ (E4 ++ (E2 ++ (E1 ++ []))))))))))
            (endB false false n (.bool false) H20 (E20 ++ (E13 ++ (E11 ++ (E10 ++ (E7 ++ (E4 ++ (E2 ++ (E1 ++ []))))))))))
          (endB false false n (.bool false) H20 (E20 ++ (E13 ++ (E11 ++ (E10 ++ (E7 ++ (E4 ++ (E2 ++ (E1 ++ []))))))))))
        (splitK a2
          ((binA .eql (Go.TypeDesc.interface #[("Error", 88)]) (cmpT Try.prog) true a9 .nili).bind fun a26 =>
          splitK a26
            ((loadA true 4 a10 H20).bind fun a27 =>
            (loadA true 4 a1 H20).bind fun a28 =>
            (callD (EV C) n_ref18_Compact [a28, x1] H20).bind fun a29 =>
            (callD (EV C) n_ref18_Same [a27, a29] H20).bind fun a30 =>
            endB false false n a30 H20 (E20 ++ (E13 ++ (E11 ++ (E10 ++ (E7 ++ (E4 ++ (E2 ++ (E1 ++ [])))))))))
            (endB false false n (.bool false) H20 (E20 ++ (E13 ++ (E11 ++ (E10 ++ (E7 ++ (E4 ++ (E2 ++ (E1 ++ []))))))))))
          (endB false false n (.bool false) H20 (E20 ++ (E13 ++ (E11 ++ (E10 ++ (E7 ++ (E4 ++ (E2 ++ (E1 ++ [])))))))))))))) (List.length H) = some r) : EV C n_law18_LogCompacts [x0, x1] H = some r :=
  EV_of_fnK' (fn := Try.f6) (by kernel_rfl) (by kernel_rfl) (by kernel_rfl) hh
/-! ### 7 heartwood/heartwoodlaw18.LogTells -/
theorem law18_LogTells_of {r : R3} {x0 x1 x2 : AV} {H : List AObj} (hh : (fun n => (
  newK x0 H fun a1 H1 E1 =>
  callK (EV C) false n_law18_up [] H1 fun a2 H2 E2 =>
  (loadA true 4 a1 H2).bind fun a3 =>
  callK (EV C) false n_ref18_Light [a3] H2 fun a4 H4 E4 =>
  (unA .not a4).bind fun a5 =>
  condK a5
    (endB false false n a2 H4 (E4 ++ (E2 ++ (E1 ++ []))))
    ((loadA true 4 a1 H4).bind fun a6 =>
    callK (EV C) false n_log_Check [a6] H4 fun a7 H7 E7 =>
    (loadA true 4 a1 H7).bind fun a8 =>
    callK (EV C) false n_log_Last [a8] H7 fun a9 H9 E9 =>
    (extA a9 0).bind fun a10 =>
    (extA a9 1).bind fun a11 =>
    (loadA true 4 a1 H9).bind fun a12 =>
    callK (EV C) false n_log_Term [a12, x1] H9 fun a13 H13 E13 =>
    (extA a13 0).bind fun a14 =>
    (extA a13 1).bind fun a15 =>
    (loadA true 4 a1 H13).bind fun a16 =>
    callK (EV C) false n_log_Members [a16, x1] H13 fun a17 H17 E17 =>
    (loadA true 4 a1 H17).bind fun a18 =>
    callK (EV C) false n_log_Slice [a18, x1, x2] H17 fun a19 H19 E19 =>
    (loadA true 4 a1 H19).bind fun a20 =>
    callK (EV C) false n_ref18_Check [a20] H19 fun a21 H21 E21 =>
    (unA .not a21).bind fun a22 =>
    condK a22
      (splitK a2
        ((binA .eql (Go.TypeDesc.interface #[("Error", 88)]) (cmpT Try.prog) false a7 (.ifc t_api_Code (.int .i64 3))).bind fun a23 =>
        splitK a23
          ((binA .eql (Go.TypeDesc.int Go.IntKind.i64) (cmpT Try.prog) true a10 (.int .i64 0)).bind fun a24 =>
          splitK a24
            ((binA .eql (Go.TypeDesc.int Go.IntKind.i64) (cmpT Try.prog) true a11 (.int .i64 0)).bind fun a25 =>
            splitK a25
              ((binA .eql (Go.TypeDesc.int Go.IntKind.i64) (cmpT Try.prog) true a14 (.int .i64 0)).bind fun a26 =>
              splitK a26
                ((binA .eql (Go.TypeDesc.interface #[("Error", 88)]) (cmpT Try.prog) false a15 (.ifc t_api_Code (.int .i64 3))).bind fun a27 =>
                splitK a27
                  ((lenV a17 H21).bind fun a28 =>
                  (binA .eql (Go.TypeDesc.int Go.IntKind.i64) (cmpT Try.prog) true a28 (.int .i64 0)).bind fun a29 =>
                  splitK a29
                    ((lenV a19 H21).bind fun a30 =>
                    (binA .eql (Go.TypeDesc.int Go.IntKind.i64) (cmpT Try.prog) true a30 (.int .i64 0)).bind fun a31 =>
                    endB false false n a31 H21 (E21 ++ (E19 ++ (E17 ++ (E13 ++ (E9 ++ (E7 ++ (E4 ++ (E2 ++ (E1 ++ []))))))))))
                    (endB false false n (.bool false) H21 (E21 ++ (E19 ++ (E17 ++ (E13 ++ (E9 ++ (E7 ++ (E4 ++ (E2 ++ (E1 ++ [])))))))))))
                  (endB false false n (.bool false) H21 (E21 ++ (E19 ++ (E17 ++ (E13 ++ (E9 ++ (E7 ++ (E4 ++ (E2 ++ (E1 ++ [])))))))))))
                (endB false false n (.bool false) H21 (E21 ++ (E19 ++ (E17 ++ (E13 ++ (E9 ++ (E7 ++ (E4 ++ (E2 ++ (E1 ++ [])))))))))))
              (endB false false n (.bool false) H21 (E21 ++ (E19 ++ (E17 ++ (E13 ++ (E9 ++ (E7 ++ (E4 ++ (E2 ++ (E1 ++ [])))))))))))
            (endB false false n (.bool false) H21 (E21 ++ (E19 ++ (E17 ++ (E13 ++ (E9 ++ (E7 ++ (E4 ++ (E2 ++ (E1 ++ [])))))))))))
          (endB false false n (.bool false) H21 (E21 ++ (E19 ++ (E17 ++ (E13 ++ (E9 ++ (E7 ++ (E4 ++ (E2 ++ (E1 ++ [])))))))))))
        (endB false false n (.bool false) H21 (E21 ++ (E19 ++ (E17 ++ (E13 ++ (E9 ++ (E7 ++ (E4 ++ (E2 ++ (E1 ++ [])))))))))))
      ((loadA true 4 a1 H21).bind fun a32 =>
      callK (EV C) false n_ref18_Last [a32] H21 fun a33 H33 E33 =>
      (loadA true 4 a1 H33).bind fun a34 =>
      callK (EV C) false n_ref18_Has [a34, x1] H33 fun a35 H35 E35 =>
      (binA .neq (Go.TypeDesc.interface #[("Error", 88)]) (cmpT Try.prog) true a7 .nili).bind fun a36 =>
      splitK a36
        (endB false false n (.bool false) H35 (E35 ++ (E33 ++ (E21 ++ (E19 ++ (E17 ++ (E13 ++ (E9 ++ (E7 ++ (E4 ++ (E2 ++ (E1 ++ []))))))))))))
        ((binA .neq (Go.TypeDesc.int Go.IntKind.i64) (cmpT Try.prog) false a10 a33).bind fun a37 =>
        splitK a37
          (endB false false n (.bool false) H35 (E35 ++ (E33 ++ (E21 ++ (E19 ++ (E17 ++ (E13 ++ (E9 ++ (E7 ++ (E4 ++ (E2 ++ (E1 ++ []))))))))))))
          ((loadA true 4 a1 H35).bind fun a38 =>
          callK (EV C) false n_ref18_Term [a38, a33] H35 fun a39 H39 E39 =>
          (binA .neq (Go.TypeDesc.int Go.IntKind.i64) (cmpT Try.prog) false a11 a39).bind fun a40 =>
          splitK a40
            (endB false false n (.bool false) H39 (E39 ++ (E35 ++ (E33 ++ (E21 ++ (E19 ++ (E17 ++ (E13 ++ (E9 ++ (E7 ++ (E4 ++ (E2 ++ (E1 ++ [])))))))))))))
            ((loadA true 4 a1 H39).bind fun a41 =>
            callK (EV C) false n_ref18_Members [a41, x1] H39 fun a42 H42 E42 =>
            callK (EV C) false n_ref17_Same [a17, a42] H42 fun a43 H43 E43 =>
            (unA .not a43).bind fun a44 =>
            splitK a44
              (endB false false n (.bool false) H43 (E43 ++ (E42 ++ (E39 ++ (E35 ++ (E33 ++ (E21 ++ (E19 ++ (E17 ++ (E13 ++ (E9 ++ (E7 ++ (E4 ++ (E2 ++ (E1 ++ [])))))))))))))))
              ((loadA true 4 a1 H43).bind fun a45 =>
              callK (EV C) false n_ref18_Slice [a45, x1, x2] H43 fun a46 H46 E46 =>
              callK (EV C) false n_ref18_SameEntries [a19, a46] H46 fun a47 H47 E47 =>
              (unA .not a47).bind fun a48 =>
              condK a48
                (endB false false n (.bool false) H47 (E47 ++ (E46 ++ (E43 ++ (E42 ++ (E39 ++ (E35 ++ (E33 ++ (E21 ++ (E19 ++ (E17 ++ (E13 ++ (E9 ++ (E7 ++ (E4 ++ (E2 ++ (E1 ++ [])))))))))))))))))
                ((unA .not a35).bind fun a49 =>
                condK a49
                  (splitK a2
                    ((binA .eql (Go.TypeDesc.interface #[("Error", 88)]) (cmpT Try.prog) false a15 (.ifc t_api_Code (.int .i64 9))).bind fun a50 =>
                    splitK a50
                      ((binA .eql (Go.TypeDesc.int Go.IntKind.i64) (cmpT Try.prog) true a14 (.int .i64 0)).bind fun a51 =>
                      endB false false n a51 H47 (E47 ++ (E46 ++ (E43 ++ (E42 ++ (E39 ++ (E35 ++ (E33 ++ (E21 ++ (E19 ++ (E17 ++ (E13 ++ (E9 ++ (E7 ++ (E4 ++ (E2 ++ (E1 ++ [])))))))))))))))))
                      (endB false false n (.bool false) H47 (E47 ++ (E46 ++ (E43 ++ (E42 ++ (E39 ++ (E35 ++ (E33 ++ (E21 ++ (E19 ++ (E17 ++ (E13 ++ (E9 ++ (E7 ++ (E4 ++ (E2 ++ (E1 ++ []))))))))))))))))))
                    (endB false false n (.bool false) H47 (E47 ++ (E46 ++ (E43 ++ (E42 ++ (E39 ++ (E35 ++ (E33 ++ (E21 ++ (E19 ++ (E17 ++ (E13 ++ (E9 ++ (E7 ++ (E4 ++ (E2 ++ (E1 ++ []))))))))))))))))))
                  (splitK a2
                    ((binA .eql (Go.TypeDesc.interface #[("Error", 88)]) (cmpT Try.prog) true a15 .nili).bind fun a52 =>
                    splitK a52
                      ((loadA true 4 a1 H47).bind fun a53 =>
                      callK (EV C) false n_ref18_Term [a53, x1] H47 fun a54 H54 E54 =>
                      (binA .eql (Go.TypeDesc.int Go.IntKind.i64) (cmpT Try.prog) false a14 a54).bind fun a55 =>
                      endB false false n a55 H54 (E54 ++ (E47 ++ (E46 ++ (E43 ++ (E42 ++ (E39 ++ (E35 ++ (E33 ++ (E21 ++ (E19 ++ (E17 ++ (E13 ++ (E9 ++ (E7 ++ (E4 ++ (E2 ++ (E1 ++ []))))))))))))))))))
                      (endB false false n (.bool false) H47 (E47 ++ (E46 ++ (E43 ++ (E42 ++ (E39 ++ (E35 ++ (E33 ++ (E21 ++ (E19 ++ (E17 ++ (E13 ++ (E9 ++ (E7 ++ (E4 ++ (E2 ++ (E1 ++ []))))))))))))))))))
                    (endB false false n (.bool false) H47 (E47 ++ (E46 ++ (E43 ++ (E42 ++ (E39 ++ (E35 ++ (E33 ++ (E21 ++ (E19 ++ (E17 ++ (E13 ++ (E9 ++ (E7 ++ (E4 ++ (E2 ++ (E1 ++ []))))))))))))))))))))))))))) (List.length H) = some r) : EV C n_law18_LogTells [x0, x1, x2] H = some r :=
  EV_of_fnK' (fn := Try.f7) (by kernel_rfl) (by kernel_rfl) (by kernel_rfl) hh
/-! ### 8 heartwood/heartwoodlaw18.LogKeeps -/
noncomputable def law18_LogKeeps_J12 (n : Nat) (t2 t5 t7 t10 t14 : AV) (H : List AObj) (E : List Nat) : Option R3 :=
  loopK Try.prog C.G (EV C) (C.hint 8) Try.f8 (cAt (bodyOf Try.f8) [1, 1, 1, 1, 1, 1, 1, 1, 1, 0, 1, 0, 0]) (kAt Try.prog C.G (EV C) (C.hint 8) Try.f8 (bodyOf Try.f8) [1, 1, 1, 1, 1, 1, 1, 1, 1, 0, 1, 0] [] (endK Try.prog (C.hint 8) Try.f8 n))
    ⟨pat 116 [(2, t2), (5, t5), (7, t7), (10, t10), (14, t14)], H, E⟩
theorem law18_LogKeeps_J12_of {r : R3} {n : Nat} {t2 t5 t7 t10 t14 : AV} {H : List AObj} {E : List Nat} (hh : (
  (binA .leq (Go.TypeDesc.int Go.IntKind.i64) (cmpT Try.prog) false t14 t10).bind fun a1 =>
  condK a1
    ((loadA true 4 t2 H).bind fun a2 =>
    callK (EV C) false n_log_Term [a2, t14] H fun a3 H3 E3 =>
    (extA a3 0).bind fun a4 =>
    (extA a3 1).bind fun a5 =>
    (loadA true 4 t7 H3).bind fun a6 =>
    callK (EV C) false n_log_Term [a6, t14] H3 fun a7 H7 E7 =>
    (extA a7 0).bind fun a8 =>
    (extA a7 1).bind fun a9 =>
    (loadA true 4 t2 H7).bind fun a10 =>
    (binA .add (Go.TypeDesc.int Go.IntKind.i64) (cmpT Try.prog) true t14 (.int .i64 1)).bind fun a11 =>
    callK (EV C) false n_log_Slice [a10, a11, (.int .i64 1)] H7 fun a12 H12 E12 =>
    (loadA true 4 t7 H12).bind fun a13 =>
    (binA .add (Go.TypeDesc.int Go.IntKind.i64) (cmpT Try.prog) true t14 (.int .i64 1)).bind fun a14 =>
    callK (EV C) false n_log_Slice [a13, a14, (.int .i64 1)] H12 fun a15 H15 E15 =>
    (loadA true 4 t2 H15).bind fun a16 =>
    (callD (EV C) n_log_Members [a16, t14] H15).bind fun a17 =>
    (loadA true 4 t7 H15).bind fun a18 =>
    (callD (EV C) n_log_Members [a18, t14] H15).bind fun a19 =>
    (callD (EV C) n_ref17_Same [a17, a19] H15).bind fun a20 =>
    splitK a20
      ((callD (EV C) n_ref18_SameEntries [a12, a15] H15).bind fun a21 =>
      (binA .neq (Go.TypeDesc.interface #[("Error", 88)]) (cmpT Try.prog) true a5 .nili).bind fun a22 =>
      splitK a22
        (endB false false n (.bool false) H15 ((E15 ++ (E12 ++ (E7 ++ (E3 ++ [])))) ++ E))
        ((binA .neq (Go.TypeDesc.interface #[("Error", 88)]) (cmpT Try.prog) true a9 .nili).bind fun a23 =>
        splitK a23
          (endB false false n (.bool false) H15 ((E15 ++ (E12 ++ (E7 ++ (E3 ++ [])))) ++ E))
          ((binA .neq (Go.TypeDesc.int Go.IntKind.i64) (cmpT Try.prog) false a4 a8).bind fun a24 =>
          splitK a24
            (endB false false n (.bool false) H15 ((E15 ++ (E12 ++ (E7 ++ (E3 ++ [])))) ++ E))
            ((unA .not a21).bind fun a25 =>
            condK a25
              (endB false false n (.bool false) H15 ((E15 ++ (E12 ++ (E7 ++ (E3 ++ [])))) ++ E))
              ((binA .add (Go.TypeDesc.int Go.IntKind.i64) (cmpT Try.prog) true t14 (.int .i64 1)).bind fun a26 =>
              law18_LogKeeps_J12 n t2 t5 t7 t10 a26 H15 ((E15 ++ (E12 ++ (E7 ++ (E3 ++ [])))) ++ E))))))
      ((binA .neq (Go.TypeDesc.interface #[("Error", 88)]) (cmpT Try.prog) true a5 .nili).bind fun a27 =>
      splitK a27
        (endB false false n (.bool false) H15 ((E15 ++ (E12 ++ (E7 ++ (E3 ++ [])))) ++ E))
        ((binA .neq (Go.TypeDesc.interface #[("Error", 88)]) (cmpT Try.prog) true a9 .nili).bind fun a28 =>
        splitK a28
          (endB false false n (.bool false) H15 ((E15 ++ (E12 ++ (E7 ++ (E3 ++ [])))) ++ E))
          ((binA .neq (Go.TypeDesc.int Go.IntKind.i64) (cmpT Try.prog) false a4 a8).bind fun a29 =>
          splitK a29
            (endB false false n (.bool false) H15 ((E15 ++ (E12 ++ (E7 ++ (E3 ++ [])))) ++ E))
            ((unA .not (.bool false)).bind fun a30 =>
            condK a30
              (endB false false n (.bool false) H15 ((E15 ++ (E12 ++ (E7 ++ (E3 ++ [])))) ++ E))
              ((binA .add (Go.TypeDesc.int Go.IntKind.i64) (cmpT Try.prog) true t14 (.int .i64 1)).bind fun a31 =>
              law18_LogKeeps_J12 n t2 t5 t7 t10 a31 H15 ((E15 ++ (E12 ++ (E7 ++ (E3 ++ [])))) ++ E)))))))
    (endB false false n t5 H E)) = some r) : law18_LogKeeps_J12 n t2 t5 t7 t10 t14 H E = some r :=
  loop_step' (by kernel_rfl) hh
theorem law18_LogKeeps_of {r : R3} {x0 x1 : AV} {H : List AObj} (hh : (fun n => (
  newK x0 H fun a1 H1 E1 =>
  callK (EV C) false n_law18_up [] H1 fun a2 H2 E2 =>
  (loadA true 4 a1 H2).bind fun a3 =>
  callK (EV C) false n_ref18_Light [a3] H2 fun a4 H4 E4 =>
  (loadA true 4 a1 H4).bind fun a5 =>
  callK (EV C) false n_log_Compact [a5, x1] H4 fun a6 H6 E6 =>
  (extA a6 0).bind fun a7 =>
  (extA a6 1).bind fun a8 =>
  newK (.agg [(.int .i64 0), (.int .i64 0), .nils, .nils]) H6 fun a9 H9 E9 =>
  stoK 4 a9 a7 H9 fun H10 E10 =>
  (unA .not a4).bind fun a11 =>
  splitK a11
    (endB false false n a2 H10 (E10 ++ (E9 ++ (E6 ++ (E4 ++ (E2 ++ (E1 ++ [])))))))
    ((binA .neq (Go.TypeDesc.interface #[("Error", 88)]) (cmpT Try.prog) true a8 .nili).bind fun a12 =>
    condK a12
      (endB false false n a2 H10 (E10 ++ (E9 ++ (E6 ++ (E4 ++ (E2 ++ (E1 ++ [])))))))
      ((loadA true 4 a9 H10).bind fun a13 =>
      callK (EV C) false n_log_Check [a13] H10 fun a14 H14 E14 =>
      (loadA true 4 a1 H14).bind fun a15 =>
      callK (EV C) false n_log_Last [a15] H14 fun a16 H16 E16 =>
      (extA a16 0).bind fun a17 =>
      (extA a16 1).bind fun a18 =>
      (loadA true 4 a9 H16).bind fun a19 =>
      callK (EV C) false n_log_Last [a19] H16 fun a20 H20 E20 =>
      (extA a20 0).bind fun a21 =>
      (extA a20 1).bind fun a22 =>
      (binA .neq (Go.TypeDesc.interface #[("Error", 88)]) (cmpT Try.prog) true a14 .nili).bind fun a23 =>
      splitK a23
        (endB false false n (.bool false) H20 (E20 ++ (E16 ++ (E14 ++ (E10 ++ (E9 ++ (E6 ++ (E4 ++ (E2 ++ (E1 ++ []))))))))))
        ((binA .neq (Go.TypeDesc.int Go.IntKind.i64) (cmpT Try.prog) false a17 a21).bind fun a24 =>
        splitK a24
          (endB false false n (.bool false) H20 (E20 ++ (E16 ++ (E14 ++ (E10 ++ (E9 ++ (E6 ++ (E4 ++ (E2 ++ (E1 ++ []))))))))))
          ((binA .neq (Go.TypeDesc.int Go.IntKind.i64) (cmpT Try.prog) false a18 a22).bind fun a25 =>
          condK a25
            (endB false false n (.bool false) H20 (E20 ++ (E16 ++ (E14 ++ (E10 ++ (E9 ++ (E6 ++ (E4 ++ (E2 ++ (E1 ++ []))))))))))
            (law18_LogKeeps_J12 n a1 a2 a9 a17 x1 H20 (E20 ++ (E16 ++ (E14 ++ (E10 ++ (E9 ++ (E6 ++ (E4 ++ (E2 ++ (E1 ++ [])))))))))))))))) (List.length H) = some r) : EV C n_law18_LogKeeps [x0, x1] H = some r :=
  EV_of_fnK' (fn := Try.f8) (by kernel_rfl) (by kernel_rfl) (by kernel_rfl) hh
/-! ### 17 heartwood/heartwoodlaw18.up -/
theorem law18_up_of {r : R3} {H : List AObj} (hh : (fun n => (
  litK 1 1 (.int .i64 0) [(0, (.int .i64 1))] H fun a1 H1 E1 =>
  (fillB (AV.cells (.agg [(.int .i64 0), (.int .i64 0), .nils])) [(0, 1, (.int .i64 3)), (1, 1, (.int .i64 2)), (2, 1, a1)]).bind fun c2 =>
  (fillB (AV.cells (.agg [(.int .i64 0), (.int .i64 0), .nils])) [(0, 1, (.int .i64 4))]).bind fun c3 =>
  litK 3 1 (.agg [(.int .i64 0), (.int .i64 0), .nils]) [(0, (.agg c3))] H1 fun a4 H4 E4 =>
  (fillB (AV.cells (.agg [(.int .i64 0), (.int .i64 0), .nils, .nils])) [(0, 3, (.agg c2)), (3, 1, a4)]).bind fun c5 =>
  newK (.agg [(.int .i64 0), (.int .i64 0), .nils, .nils]) H4 fun a6 H6 E6 =>
  stoK 4 a6 (.agg c5) H6 fun H7 E7 =>
  (loadA true 4 a6 H7).bind fun a8 =>
  callK (EV C) false n_log_Last [a8] H7 fun a9 H9 E9 =>
  (extA a9 0).bind fun a10 =>
  (extA a9 1).bind fun a11 =>
  (loadA true 4 a6 H9).bind fun a12 =>
  (fillB (AV.cells (.agg [(.int .i64 0), (.int .i64 0), .nils])) [(0, 1, (.int .i64 5))]).bind fun c13 =>
  litK 3 1 (.agg [(.int .i64 0), (.int .i64 0), .nils]) [(0, (.agg c13))] H9 fun a14 H14 E14 =>
  callK (EV C) false n_log_Merge [a12, (.int .i64 3), a14] H14 fun a15 H15 E15 =>
  (extA a15 0).bind fun a16 =>
  (extA a15 1).bind fun a17 =>
  (extA a15 2).bind fun a18 =>
  newK (.agg [(.int .i64 0), (.int .i64 0), .nils, .nils]) H15 fun a19 H19 E19 =>
  stoK 4 a19 a16 H19 fun H20 E20 =>
  (binA .eql (Go.TypeDesc.int Go.IntKind.i64) (cmpT Try.prog) true a10 (.int .i64 4)).bind fun a21 =>
  splitK a21
    ((binA .eql (Go.TypeDesc.int Go.IntKind.i64) (cmpT Try.prog) true a11 (.int .i64 4)).bind fun a22 =>
    splitK a22
      ((binA .eql (Go.TypeDesc.int Go.IntKind.i64) (cmpT Try.prog) true a17 (.int .i64 4)).bind fun a23 =>
      splitK a23
        ((binA .eql (Go.TypeDesc.interface #[("Error", 88)]) (cmpT Try.prog) true a18 .nili).bind fun a24 =>
        endB false false n a24 H20 (E20 ++ (E19 ++ (E15 ++ (E14 ++ (E9 ++ (E7 ++ (E6 ++ (E4 ++ (E1 ++ []))))))))))
        (endB false false n (.bool false) H20 (E20 ++ (E19 ++ (E15 ++ (E14 ++ (E9 ++ (E7 ++ (E6 ++ (E4 ++ (E1 ++ [])))))))))))
      (endB false false n (.bool false) H20 (E20 ++ (E19 ++ (E15 ++ (E14 ++ (E9 ++ (E7 ++ (E6 ++ (E4 ++ (E1 ++ [])))))))))))
    (endB false false n (.bool false) H20 (E20 ++ (E19 ++ (E15 ++ (E14 ++ (E9 ++ (E7 ++ (E6 ++ (E4 ++ (E1 ++ [])))))))))))) (List.length H) = some r) : EV C n_law18_up [] H = some r :=
  EV_of_fnK' (fn := Try.f17) (by kernel_rfl) (by kernel_rfl) (by kernel_rfl) hh
/-! ### 18 heartwood/heartwoodref18.Light -/
noncomputable def ref18_Light_J4 (n : Nat) (t1 t3 : AV) (H : List AObj) (E : List Nat) : Option R3 :=
  loopK Try.prog C.G (EV C) (C.hint 18) Try.f18 (cAt (bodyOf Try.f18) [1, 1, 0, 1, 0, 0]) (kAt Try.prog C.G (EV C) (C.hint 18) Try.f18 (bodyOf Try.f18) [1, 1, 0, 1, 0] [] (endK Try.prog (C.hint 18) Try.f18 n))
    ⟨pat 30 [(1, t1), (3, t3)], H, E⟩
theorem ref18_Light_J4_of {r : R3} {n : Nat} {t1 t3 : AV} {H : List AObj} {E : List Nat} (hh : (
  (offA t1 3).bind fun a1 =>
  (loadA false 1 a1 H).bind fun a2 =>
  (lenV a2 H).bind fun a3 =>
  (binA .lss (Go.TypeDesc.int Go.IntKind.i64) (cmpT Try.prog) false t3 a3).bind fun a4 =>
  condK a4
    ((offA t1 3).bind fun a5 =>
    (loadA false 1 a5 H).bind fun a6 =>
    (ixA 3 a6 t3 H).bind fun a7 =>
    (offA a7 2).bind fun a8 =>
    (loadA false 1 a8 H).bind fun a9 =>
    (lenV a9 H).bind fun a10 =>
    (binA .gtr (Go.TypeDesc.int Go.IntKind.i64) (cmpT Try.prog) true a10 (.int .i64 5000)).bind fun a11 =>
    condK a11
      (endB false false n (.bool false) H E)
      ((binA .add (Go.TypeDesc.int Go.IntKind.i64) (cmpT Try.prog) true t3 (.int .i64 1)).bind fun a12 =>
      ref18_Light_J4 n t1 a12 H E))
    (endB false false n (.bool true) H E)) = some r) : ref18_Light_J4 n t1 t3 H E = some r :=
  loop_step' (by kernel_rfl) hh
theorem ref18_Light_of {r : R3} {x0 : AV} {H : List AObj} (hh : (fun n => (
  newK x0 H fun a1 H1 E1 =>
  (offA a1 3).bind fun a2 =>
  (loadA false 1 a2 H1).bind fun a3 =>
  (lenV a3 H1).bind fun a4 =>
  (binA .gtr (Go.TypeDesc.int Go.IntKind.i64) (cmpT Try.prog) true a4 (.int .i64 200)).bind fun a5 =>
  splitK a5
    (endB false false n (.bool false) H1 (E1 ++ []))
    ((offA a1 0).bind fun a6 =>
    (offA a6 2).bind fun a7 =>
    (loadA false 1 a7 H1).bind fun a8 =>
    (lenV a8 H1).bind fun a9 =>
    (binA .gtr (Go.TypeDesc.int Go.IntKind.i64) (cmpT Try.prog) true a9 (.int .i64 100)).bind fun a10 =>
    condK a10
      (endB false false n (.bool false) H1 (E1 ++ []))
      (ref18_Light_J4 n a1 (.int .i64 0) H1 (E1 ++ []))))) (List.length H) = some r) : EV C n_ref18_Light [x0] H = some r :=
  EV_of_fnK' (fn := Try.f18) (by kernel_rfl) (by kernel_rfl) (by kernel_rfl) hh
/-! ### 19 heartwood/log.Merge -/
noncomputable def log_Merge_J5 (n : Nat) (t1 t2 t3 t6 t22 t23 t24 : AV) (H : List AObj) (E : List Nat) : Option R3 :=
  loopK Try.prog C.G (EV C) (C.hint 19) Try.f19 (cAt (bodyOf Try.f19) [1, 1, 0, 1, 0, 0]) (kAt Try.prog C.G (EV C) (C.hint 19) Try.f19 (bodyOf Try.f19) [1, 1, 0, 1, 0] [] (endK Try.prog (C.hint 19) Try.f19 n))
    ⟨pat 75 [(1, t1), (2, t2), (3, t3), (6, t6), (22, t22), (23, t23), (24, t24)], H, E⟩
theorem log_Merge_J5_of {r : R3} {n : Nat} {t1 t2 t3 t6 t22 t23 t24 : AV} {H : List AObj} {E : List Nat} (hh : (
  (binA .lss (Go.TypeDesc.int Go.IntKind.i64) (cmpT Try.prog) false t24 t23).bind fun a1 =>
  condK a1
    ((ixA 3 t22 t24 H).bind fun a2 =>
    (loadA true 3 a2 H).bind fun a3 =>
    newK (.agg [(.int .i64 0), (.int .i64 0), .nils]) H fun a4 H4 E4 =>
    stoK 3 a4 a3 H4 fun H5 E5 =>
    (binA .add (Go.TypeDesc.int Go.IntKind.i64) (cmpT Try.prog) true t1 (.int .i64 1)).bind fun a6 =>
    (binA .add (Go.TypeDesc.int Go.IntKind.i64) (cmpT Try.prog) false a6 t24).bind fun a7 =>
    (loadA true 4 t3 H5).bind fun a8 =>
    (callD (EV C) n_log_last [a8] H5).bind fun a9 =>
    (binA .leq (Go.TypeDesc.int Go.IntKind.i64) (cmpT Try.prog) false a7 a9).bind fun a10 =>
    splitK a10
      ((loadA true 4 t3 H5).bind fun a11 =>
      (callD (EV C) n_log_term [a11, a7] H5).bind fun a12 =>
      (offA a4 0).bind fun a13 =>
      (loadA false 1 a13 H5).bind fun a14 =>
      (binA .eql (Go.TypeDesc.int Go.IntKind.i64) (cmpT Try.prog) false a12 a14).bind fun a15 =>
      condK a15
        ((binA .add (Go.TypeDesc.int Go.IntKind.i64) (cmpT Try.prog) true t24 (.int .i64 1)).bind fun a16 =>
        condB (List.all (E5 ++ (E4 ++ [])) (fun e => decide (List.length H ≤ e)) && (AV.bel (List.length H) t1 && (AV.bel (List.length H) t2 && (AV.bel (List.length H) t3 && (AV.bel (List.length H) t6 && (AV.bel (List.length H) t22 && (AV.bel (List.length H) t23 && (AV.bel (List.length H) a16 && true))))))))
        (log_Merge_J5 n t1 t2 t3 t6 t22 t23 a16 (List.take (List.length H) H5) E))
        ((offA t3 0).bind fun a17 =>
        (loadA true 3 a17 H5).bind fun a18 =>
        (offA t3 3).bind fun a19 =>
        (loadA false 1 a19 H5).bind fun a20 =>
        (offA t3 0).bind fun a21 =>
        (offA a21 0).bind fun a22 =>
        (loadA false 1 a22 H5).bind fun a23 =>
        (binA .sub (Go.TypeDesc.int Go.IntKind.i64) (cmpT Try.prog) false a7 a23).bind fun a24 =>
        (binA .sub (Go.TypeDesc.int Go.IntKind.i64) (cmpT Try.prog) true a24 (.int .i64 1)).bind fun a25 =>
        (cutA 3 a20 none (some a25) none H5).bind fun a26 =>
        (cutA 3 t2 (some t24) none none H5).bind fun a27 =>
        (litD 1 2 .nils [(0, a26), (1, a27)] H5).bind fun a28 =>
        (callD (EV C) n_Concat_api_Entry [a28] H5).bind fun a29 =>
        (fillB (AV.cells (.agg [(.int .i64 0), (.int .i64 0), .nils, .nils])) [(0, 3, a18), (3, 1, a29)]).bind fun c30 =>
        newK (.agg [(.int .i64 0), (.int .i64 0), .nils, .nils]) H5 fun a31 H31 E31 =>
        drawK (((loadA true 3 a17 H31).bind fun a32 =>
        some a32) = some a18)
        (drawK (((loadA false 1 a19 H31).bind fun a33 =>
        some a33) = some a20)
        (drawK (((loadA false 1 a22 H31).bind fun a34 =>
        some a34) = some a23)
        (drawK (((cutA 3 a20 none (some a25) none H31).bind fun a35 =>
        some a35) = some a26)
        (drawK (((cutA 3 t2 (some t24) none none H31).bind fun a36 =>
        some a36) = some a27)
        (drawK (((litD 1 2 .nils [(0, a26), (1, a27)] H31).bind fun a37 =>
        some a37) = some a28)
        (drawK (((callD (EV C) n_Concat_api_Entry [a28] H31).bind fun a38 =>
        some a38) = some a29)
        (stoK 4 a31 (.agg c30) H31 fun H39 E39 =>
        (loadA true 4 a31 H39).bind fun a40 =>
        callK (EV C) false n_log_Check [a40] H39 fun a41 H41 E41 =>
        (binA .neq (Go.TypeDesc.interface #[("Error", 88)]) (cmpT Try.prog) true a41 .nili).bind fun a42 =>
        condK a42
          ((fillB (AV.cells (.agg [(.int .i64 0), (.int .i64 0), .nils, .nils])) []).bind fun c43 =>
          stoK 4 t6 (.agg c43) H41 fun H44 E44 =>
          (loadA true 4 t6 H44).bind fun a45 =>
          endB false false n (.tup [a45, (.int .i64 0), a41]) H44 ((E44 ++ (E41 ++ (E39 ++ (E31 ++ (E5 ++ (E4 ++ [])))))) ++ E))
          ((loadA true 4 a31 H41).bind fun a46 =>
          stoK 4 t6 a46 H41 fun H47 E47 =>
          (loadA true 4 t6 H47).bind fun a48 =>
          endB false false n (.tup [a48, a7, .nili]) H47 ((E47 ++ (E41 ++ (E39 ++ (E31 ++ (E5 ++ (E4 ++ [])))))) ++ E)))))))))))
      ((offA t3 0).bind fun a49 =>
      (loadA true 3 a49 H5).bind fun a50 =>
      (offA t3 3).bind fun a51 =>
      (loadA false 1 a51 H5).bind fun a52 =>
      (offA t3 0).bind fun a53 =>
      (offA a53 0).bind fun a54 =>
      (loadA false 1 a54 H5).bind fun a55 =>
      (binA .sub (Go.TypeDesc.int Go.IntKind.i64) (cmpT Try.prog) false a7 a55).bind fun a56 =>
      (binA .sub (Go.TypeDesc.int Go.IntKind.i64) (cmpT Try.prog) true a56 (.int .i64 1)).bind fun a57 =>
      (cutA 3 a52 none (some a57) none H5).bind fun a58 =>
      (cutA 3 t2 (some t24) none none H5).bind fun a59 =>
      (litD 1 2 .nils [(0, a58), (1, a59)] H5).bind fun a60 =>
      (callD (EV C) n_Concat_api_Entry [a60] H5).bind fun a61 =>
      (fillB (AV.cells (.agg [(.int .i64 0), (.int .i64 0), .nils, .nils])) [(0, 3, a50), (3, 1, a61)]).bind fun c62 =>
      newK (.agg [(.int .i64 0), (.int .i64 0), .nils, .nils]) H5 fun a63 H63 E63 =>
      drawK (((loadA true 3 a49 H63).bind fun a64 =>
      some a64) = some a50)
      (drawK (((loadA false 1 a51 H63).bind fun a65 =>
      some a65) = some a52)
      (drawK (((loadA false 1 a54 H63).bind fun a66 =>
      some a66) = some a55)
      (drawK (((cutA 3 a52 none (some a57) none H63).bind fun a67 =>
      some a67) = some a58)
      (drawK (((cutA 3 t2 (some t24) none none H63).bind fun a68 =>
      some a68) = some a59)
      (drawK (((litD 1 2 .nils [(0, a58), (1, a59)] H63).bind fun a69 =>
      some a69) = some a60)
      (drawK (((callD (EV C) n_Concat_api_Entry [a60] H63).bind fun a70 =>
      some a70) = some a61)
      (stoK 4 a63 (.agg c62) H63 fun H71 E71 =>
      (loadA true 4 a63 H71).bind fun a72 =>
      callK (EV C) false n_log_Check [a72] H71 fun a73 H73 E73 =>
      (binA .neq (Go.TypeDesc.interface #[("Error", 88)]) (cmpT Try.prog) true a73 .nili).bind fun a74 =>
      condK a74
        ((fillB (AV.cells (.agg [(.int .i64 0), (.int .i64 0), .nils, .nils])) []).bind fun c75 =>
        stoK 4 t6 (.agg c75) H73 fun H76 E76 =>
        (loadA true 4 t6 H76).bind fun a77 =>
        endB false false n (.tup [a77, (.int .i64 0), a73]) H76 ((E76 ++ (E73 ++ (E71 ++ (E63 ++ (E5 ++ (E4 ++ [])))))) ++ E))
        ((loadA true 4 a63 H73).bind fun a78 =>
        stoK 4 t6 a78 H73 fun H79 E79 =>
        (loadA true 4 t6 H79).bind fun a80 =>
        endB false false n (.tup [a80, a7, .nili]) H79 ((E79 ++ (E73 ++ (E71 ++ (E63 ++ (E5 ++ (E4 ++ [])))))) ++ E)))))))))))
    ((loadA true 4 t3 H).bind fun a81 =>
    (loadA true 4 t3 H).bind fun a82 =>
    (callD (EV C) n_log_last [a82] H).bind fun a83 =>
    (binA .add (Go.TypeDesc.int Go.IntKind.i64) (cmpT Try.prog) true a83 (.int .i64 1)).bind fun a84 =>
    stoK 4 t6 a81 H fun H85 E85 =>
    (loadA true 4 t6 H85).bind fun a86 =>
    endB false false n (.tup [a86, a84, .nili]) H85 (E85 ++ E))) = some r) : log_Merge_J5 n t1 t2 t3 t6 t22 t23 t24 H E = some r :=
  loop_step' (by kernel_rfl) hh
theorem log_Merge_of {r : R3} {x0 x1 x2 : AV} {H : List AObj} (hh : (fun n => (
  newK x0 H fun a1 H1 E1 =>
  newK (.agg [(.int .i64 0), (.int .i64 0), .nils, .nils]) H1 fun a2 H2 E2 =>
  (loadA true 4 a1 H2).bind fun a3 =>
  callK (EV C) false n_log_asked [a3, x1] H2 fun a4 H4 E4 =>
  (binA .neq (Go.TypeDesc.interface #[("Error", 88)]) (cmpT Try.prog) true a4 .nili).bind fun a5 =>
  condK a5
    ((fillB (AV.cells (.agg [(.int .i64 0), (.int .i64 0), .nils, .nils])) []).bind fun c6 =>
    stoK 4 a2 (.agg c6) H4 fun H7 E7 =>
    (loadA true 4 a2 H7).bind fun a8 =>
    endB false false n (.tup [a8, (.int .i64 0), a4]) H7 (E7 ++ (E4 ++ (E2 ++ (E1 ++ [])))))
    ((lenV x2 H4).bind fun a9 =>
    log_Merge_J5 n x1 x2 a1 a2 x2 a9 (.int .i64 0) H4 (E4 ++ (E2 ++ (E1 ++ [])))))) (List.length H) = some r) : EV C n_log_Merge [x0, x1, x2] H = some r :=
  EV_of_fnK' (fn := Try.f19) (by kernel_rfl) (by kernel_rfl) (by kernel_rfl) hh
/-! ### 20 heartwood/heartwoodref18.Check -/
noncomputable def ref18_Check_J6 (n : Nat) (t1 t3 t5 : AV) (H : List AObj) (E : List Nat) : Option R3 :=
  loopK Try.prog C.G (EV C) (C.hint 20) Try.f20 (cAt (bodyOf Try.f20) [1, 1, 1, 1, 0, 1, 0, 0]) (kAt Try.prog C.G (EV C) (C.hint 20) Try.f20 (bodyOf Try.f20) [1, 1, 1, 1, 0, 1, 0] [] (endK Try.prog (C.hint 20) Try.f20 n))
    ⟨pat 109 [(1, t1), (3, t3), (5, t5)], H, E⟩
theorem ref18_Check_J6_of {r : R3} {n : Nat} {t1 t3 t5 : AV} {H : List AObj} {E : List Nat} (hh : (
  (offA t1 3).bind fun a1 =>
  (loadA false 1 a1 H).bind fun a2 =>
  (lenV a2 H).bind fun a3 =>
  (binA .lss (Go.TypeDesc.int Go.IntKind.i64) (cmpT Try.prog) false t5 a3).bind fun a4 =>
  condK a4
    ((offA t1 3).bind fun a5 =>
    (loadA false 1 a5 H).bind fun a6 =>
    (ixA 3 a6 t5 H).bind fun a7 =>
    (loadA true 3 a7 H).bind fun a8 =>
    newK (.agg [(.int .i64 0), (.int .i64 0), .nils]) H fun a9 H9 E9 =>
    stoK 3 a9 a8 H9 fun H10 E10 =>
    (offA a9 0).bind fun a11 =>
    (loadA false 1 a11 H10).bind fun a12 =>
    (binA .lss (Go.TypeDesc.int Go.IntKind.i64) (cmpT Try.prog) true a12 (.int .i64 1)).bind fun a13 =>
    splitK a13
      (endB false false n (.bool false) H10 ((E10 ++ (E9 ++ [])) ++ E))
      ((offA a9 0).bind fun a14 =>
      (loadA false 1 a14 H10).bind fun a15 =>
      (binA .gtr (Go.TypeDesc.int Go.IntKind.i64) (cmpT Try.prog) true a15 (.int .i64 1152921504606846976)).bind fun a16 =>
      splitK a16
        (endB false false n (.bool false) H10 ((E10 ++ (E9 ++ [])) ++ E))
        ((offA a9 0).bind fun a17 =>
        (loadA false 1 a17 H10).bind fun a18 =>
        (offA t3 1).bind fun a19 =>
        (loadA false 1 a19 H10).bind fun a20 =>
        (binA .lss (Go.TypeDesc.int Go.IntKind.i64) (cmpT Try.prog) false a18 a20).bind fun a21 =>
        splitK a21
          (endB false false n (.bool false) H10 ((E10 ++ (E9 ++ [])) ++ E))
          ((binA .gtr (Go.TypeDesc.int Go.IntKind.i64) (cmpT Try.prog) true t5 (.int .i64 0)).bind fun a22 =>
          splitK a22
            ((offA a9 0).bind fun a23 =>
            (loadA false 1 a23 H10).bind fun a24 =>
            (offA t1 3).bind fun a25 =>
            (loadA false 1 a25 H10).bind fun a26 =>
            (binA .sub (Go.TypeDesc.int Go.IntKind.i64) (cmpT Try.prog) true t5 (.int .i64 1)).bind fun a27 =>
            (ixA 3 a26 a27 H10).bind fun a28 =>
            (offA a28 0).bind fun a29 =>
            (loadA false 1 a29 H10).bind fun a30 =>
            (binA .lss (Go.TypeDesc.int Go.IntKind.i64) (cmpT Try.prog) false a24 a30).bind fun a31 =>
            splitK a31
              (endB false false n (.bool false) H10 ((E10 ++ (E9 ++ [])) ++ E))
              ((offA a9 1).bind fun a32 =>
              (loadA false 1 a32 H10).bind fun a33 =>
              (binA .lss (Go.TypeDesc.int Go.IntKind.i64) (cmpT Try.prog) true a33 (.int .i64 0)).bind fun a34 =>
              splitK a34
                (endB false false n (.bool false) H10 ((E10 ++ (E9 ++ [])) ++ E))
                ((offA a9 1).bind fun a35 =>
                (loadA false 1 a35 H10).bind fun a36 =>
                (binA .gtr (Go.TypeDesc.int Go.IntKind.i64) (cmpT Try.prog) true a36 (.int .i64 2)).bind fun a37 =>
                condK a37
                  (endB false false n (.bool false) H10 ((E10 ++ (E9 ++ [])) ++ E))
                  ((offA a9 1).bind fun a38 =>
                  (loadA false 1 a38 H10).bind fun a39 =>
                  (binA .eql (Go.TypeDesc.int Go.IntKind.i64) (cmpT Try.prog) true a39 (.int .i64 2)).bind fun a40 =>
                  condK a40
                    ((offA a9 2).bind fun a41 =>
                    (loadA false 1 a41 H10).bind fun a42 =>
                    callK (EV C) false n_ref17_Of [a42] H10 fun a43 H43 E43 =>
                    (extA a43 0).bind fun a44 =>
                    (extA a43 1).bind fun a45 =>
                    (unA .not a45).bind fun a46 =>
                    condK a46
                      (endB false false n (.bool false) H43 ((E43 ++ (E10 ++ (E9 ++ []))) ++ E))
                      ((binA .add (Go.TypeDesc.int Go.IntKind.i64) (cmpT Try.prog) true t5 (.int .i64 1)).bind fun a47 =>
                      condB (List.all (E43 ++ (E10 ++ (E9 ++ []))) (fun e => decide (List.length H ≤ e)) && (AV.bel (List.length H) t1 && (AV.bel (List.length H) t3 && (AV.bel (List.length H) a47 && true))))
                      (ref18_Check_J6 n t1 t3 a47 (List.take (List.length H) H43) E)))
                    ((binA .add (Go.TypeDesc.int Go.IntKind.i64) (cmpT Try.prog) true t5 (.int .i64 1)).bind fun a48 =>
                    condB (List.all (E10 ++ (E9 ++ [])) (fun e => decide (List.length H ≤ e)) && (AV.bel (List.length H) t1 && (AV.bel (List.length H) t3 && (AV.bel (List.length H) a48 && true))))
                    (ref18_Check_J6 n t1 t3 a48 (List.take (List.length H) H10) E))))))
            ((offA a9 1).bind fun a49 =>
            (loadA false 1 a49 H10).bind fun a50 =>
            (binA .lss (Go.TypeDesc.int Go.IntKind.i64) (cmpT Try.prog) true a50 (.int .i64 0)).bind fun a51 =>
            splitK a51
              (endB false false n (.bool false) H10 ((E10 ++ (E9 ++ [])) ++ E))
              ((offA a9 1).bind fun a52 =>
              (loadA false 1 a52 H10).bind fun a53 =>
              (binA .gtr (Go.TypeDesc.int Go.IntKind.i64) (cmpT Try.prog) true a53 (.int .i64 2)).bind fun a54 =>
              condK a54
                (endB false false n (.bool false) H10 ((E10 ++ (E9 ++ [])) ++ E))
                ((offA a9 1).bind fun a55 =>
                (loadA false 1 a55 H10).bind fun a56 =>
                (binA .eql (Go.TypeDesc.int Go.IntKind.i64) (cmpT Try.prog) true a56 (.int .i64 2)).bind fun a57 =>
                condK a57
                  ((offA a9 2).bind fun a58 =>
                  (loadA false 1 a58 H10).bind fun a59 =>
                  callK (EV C) false n_ref17_Of [a59] H10 fun a60 H60 E60 =>
                  (extA a60 0).bind fun a61 =>
                  (extA a60 1).bind fun a62 =>
                  (unA .not a62).bind fun a63 =>
                  condK a63
                    (endB false false n (.bool false) H60 ((E60 ++ (E10 ++ (E9 ++ []))) ++ E))
                    ((binA .add (Go.TypeDesc.int Go.IntKind.i64) (cmpT Try.prog) true t5 (.int .i64 1)).bind fun a64 =>
                    condB (List.all (E60 ++ (E10 ++ (E9 ++ []))) (fun e => decide (List.length H ≤ e)) && (AV.bel (List.length H) t1 && (AV.bel (List.length H) t3 && (AV.bel (List.length H) a64 && true))))
                    (ref18_Check_J6 n t1 t3 a64 (List.take (List.length H) H60) E)))
                  ((binA .add (Go.TypeDesc.int Go.IntKind.i64) (cmpT Try.prog) true t5 (.int .i64 1)).bind fun a65 =>
                  condB (List.all (E10 ++ (E9 ++ [])) (fun e => decide (List.length H ≤ e)) && (AV.bel (List.length H) t1 && (AV.bel (List.length H) t3 && (AV.bel (List.length H) a65 && true))))
                  (ref18_Check_J6 n t1 t3 a65 (List.take (List.length H) H10) E)))))))))
    (endB false false n (.bool true) H E)) = some r) : ref18_Check_J6 n t1 t3 t5 H E = some r :=
  loop_step' (by kernel_rfl) hh
theorem ref18_Check_of {r : R3} {x0 : AV} {H : List AObj} (hh : (fun n => (
  newK x0 H fun a1 H1 E1 =>
  (offA a1 0).bind fun a2 =>
  (loadA true 3 a2 H1).bind fun a3 =>
  newK (.agg [(.int .i64 0), (.int .i64 0), .nils]) H1 fun a4 H4 E4 =>
  stoK 3 a4 a3 H4 fun H5 E5 =>
  (offA a4 2).bind fun a6 =>
  (loadA false 1 a6 H5).bind fun a7 =>
  callK (EV C) false n_ref17_May [a7] H5 fun a8 H8 E8 =>
  (unA .not a8).bind fun a9 =>
  splitK a9
    (endB false false n (.bool false) H8 (E8 ++ (E5 ++ (E4 ++ (E1 ++ [])))))
    ((offA a4 0).bind fun a10 =>
    (loadA false 1 a10 H8).bind fun a11 =>
    (binA .lss (Go.TypeDesc.int Go.IntKind.i64) (cmpT Try.prog) true a11 (.int .i64 0)).bind fun a12 =>
    splitK a12
      (endB false false n (.bool false) H8 (E8 ++ (E5 ++ (E4 ++ (E1 ++ [])))))
      ((offA a4 0).bind fun a13 =>
      (loadA false 1 a13 H8).bind fun a14 =>
      (binA .gtr (Go.TypeDesc.int Go.IntKind.i64) (cmpT Try.prog) true a14 (.int .i64 1152921504606846976)).bind fun a15 =>
      splitK a15
        (endB false false n (.bool false) H8 (E8 ++ (E5 ++ (E4 ++ (E1 ++ [])))))
        ((offA a4 1).bind fun a16 =>
        (loadA false 1 a16 H8).bind fun a17 =>
        (binA .lss (Go.TypeDesc.int Go.IntKind.i64) (cmpT Try.prog) true a17 (.int .i64 0)).bind fun a18 =>
        splitK a18
          (endB false false n (.bool false) H8 (E8 ++ (E5 ++ (E4 ++ (E1 ++ [])))))
          ((offA a4 1).bind fun a19 =>
          (loadA false 1 a19 H8).bind fun a20 =>
          (binA .gtr (Go.TypeDesc.int Go.IntKind.i64) (cmpT Try.prog) true a20 (.int .i64 1152921504606846976)).bind fun a21 =>
          splitK a21
            (endB false false n (.bool false) H8 (E8 ++ (E5 ++ (E4 ++ (E1 ++ [])))))
            ((offA a1 3).bind fun a22 =>
            (loadA false 1 a22 H8).bind fun a23 =>
            (lenV a23 H8).bind fun a24 =>
            (offA a4 0).bind fun a25 =>
            (loadA false 1 a25 H8).bind fun a26 =>
            (binA .sub (Go.TypeDesc.int Go.IntKind.i64) (cmpT Try.prog) true (.int .i64 1152921504606846976) a26).bind fun a27 =>
            (binA .gtr (Go.TypeDesc.int Go.IntKind.i64) (cmpT Try.prog) false a24 a27).bind fun a28 =>
            condK a28
              (endB false false n (.bool false) H8 (E8 ++ (E5 ++ (E4 ++ (E1 ++ [])))))
              (ref18_Check_J6 n a1 a4 (.int .i64 0) H8 (E8 ++ (E5 ++ (E4 ++ (E1 ++ [])))))))))))) (List.length H) = some r) : EV C n_ref18_Check [x0] H = some r :=
  EV_of_fnK' (fn := Try.f20) (by kernel_rfl) (by kernel_rfl) (by kernel_rfl) hh
/-! ### 21 heartwood/heartwoodref18.Same -/
theorem ref18_Same_of {r : R3} {x0 x1 : AV} {H : List AObj} (hh : (fun n => (
  newK x0 H fun a1 H1 E1 =>
  newK x1 H1 fun a2 H2 E2 =>
  (offA a1 0).bind fun a3 =>
  (offA a3 0).bind fun a4 =>
  (loadA false 1 a4 H2).bind fun a5 =>
  (offA a2 0).bind fun a6 =>
  (offA a6 0).bind fun a7 =>
  (loadA false 1 a7 H2).bind fun a8 =>
  (binA .eql (Go.TypeDesc.int Go.IntKind.i64) (cmpT Try.prog) false a5 a8).bind fun a9 =>
  splitK a9
    ((offA a1 0).bind fun a10 =>
    (offA a10 1).bind fun a11 =>
    (loadA false 1 a11 H2).bind fun a12 =>
    (offA a2 0).bind fun a13 =>
    (offA a13 1).bind fun a14 =>
    (loadA false 1 a14 H2).bind fun a15 =>
    (binA .eql (Go.TypeDesc.int Go.IntKind.i64) (cmpT Try.prog) false a12 a15).bind fun a16 =>
    splitK a16
      ((offA a1 0).bind fun a17 =>
      (offA a17 2).bind fun a18 =>
      (loadA false 1 a18 H2).bind fun a19 =>
      (offA a2 0).bind fun a20 =>
      (offA a20 2).bind fun a21 =>
      (loadA false 1 a21 H2).bind fun a22 =>
      callK (EV C) false n_ref17_Same [a19, a22] H2 fun a23 H23 E23 =>
      splitK a23
        ((offA a1 3).bind fun a24 =>
        (loadA false 1 a24 H23).bind fun a25 =>
        (offA a2 3).bind fun a26 =>
        (loadA false 1 a26 H23).bind fun a27 =>
        callK (EV C) false n_ref18_SameEntries [a25, a27] H23 fun a28 H28 E28 =>
        endB false false n a28 H28 (E28 ++ (E23 ++ (E2 ++ (E1 ++ [])))))
        (endB false false n (.bool false) H23 (E23 ++ (E2 ++ (E1 ++ [])))))
      (endB false false n (.bool false) H2 (E2 ++ (E1 ++ []))))
    (endB false false n (.bool false) H2 (E2 ++ (E1 ++ []))))) (List.length H) = some r) : EV C n_ref18_Same [x0, x1] H = some r :=
  EV_of_fnK' (fn := Try.f21) (by kernel_rfl) (by kernel_rfl) (by kernel_rfl) hh
/-! ### 22 heartwood/heartwoodref18.Merge -/
noncomputable def ref18_Merge_J6 (n : Nat) (t2 t3 t6 t10 t11 : AV) (H : List AObj) (E : List Nat) : Option R3 :=
  loopK Try.prog C.G (EV C) (C.hint 22) Try.f22 (cAt (bodyOf Try.f22) [1, 1, 1, 1, 1, 0, 0, 0]) (kAt Try.prog C.G (EV C) (C.hint 22) Try.f22 (bodyOf Try.f22) [1, 1, 1, 1, 1, 0, 0] [] (endK Try.prog (C.hint 22) Try.f22 n))
    ⟨pat 92 [(2, t2), (3, t3), (6, t6), (10, t10), (11, t11)], H, E⟩
noncomputable def ref18_Merge_S9 (n : Nat) (t2 t3 t6 t10 t11 : AV) (H : List AObj) (E : List Nat) : Option R3 :=
  runK Try.prog C.G (EV C) (C.hint 22) Try.f22 (cAt (bodyOf Try.f22) [1, 1, 1, 1, 1, 1]) ⟨pat 92 [(2, t2), (3, t3), (6, t6), (10, t10), (11, t11)], H, E⟩
    (kAt Try.prog C.G (EV C) (C.hint 22) Try.f22 (bodyOf Try.f22) [1, 1, 1, 1, 1, 1] [] (endK Try.prog (C.hint 22) Try.f22 n))
theorem ref18_Merge_J6_of {r : R3} {n : Nat} {t2 t3 t6 t10 t11 : AV} {H : List AObj} {E : List Nat} (hh : (
  (lenV t2 H).bind fun a1 =>
  (binA .lss (Go.TypeDesc.int Go.IntKind.i64) (cmpT Try.prog) false t11 a1).bind fun a2 =>
  splitK a2
    ((offA t3 3).bind fun a3 =>
    (loadA false 1 a3 H).bind fun a4 =>
    (lenV a4 H).bind fun a5 =>
    (binA .lss (Go.TypeDesc.int Go.IntKind.i64) (cmpT Try.prog) false t10 a5).bind fun a6 =>
    splitK a6
      ((offA t3 3).bind fun a7 =>
      (loadA false 1 a7 H).bind fun a8 =>
      (ixA 3 a8 t10 H).bind fun a9 =>
      (offA a9 0).bind fun a10 =>
      (loadA false 1 a10 H).bind fun a11 =>
      (ixA 3 t2 t11 H).bind fun a12 =>
      (offA a12 0).bind fun a13 =>
      (loadA false 1 a13 H).bind fun a14 =>
      (binA .eql (Go.TypeDesc.int Go.IntKind.i64) (cmpT Try.prog) false a11 a14).bind fun a15 =>
      condK a15
        ((binA .add (Go.TypeDesc.int Go.IntKind.i64) (cmpT Try.prog) true t11 (.int .i64 1)).bind fun a16 =>
        (binA .add (Go.TypeDesc.int Go.IntKind.i64) (cmpT Try.prog) true t10 (.int .i64 1)).bind fun a17 =>
        ref18_Merge_J6 n t2 t3 t6 a17 a16 H E)
        (ref18_Merge_S9 n t2 t3 t6 t10 t11 H E))
      (ref18_Merge_S9 n t2 t3 t6 t10 t11 H E))
    (ref18_Merge_S9 n t2 t3 t6 t10 t11 H E)) = some r) : ref18_Merge_J6 n t2 t3 t6 t10 t11 H E = some r :=
  loop_step' (by kernel_rfl) hh
theorem ref18_Merge_S9_of {r : R3} {n : Nat} {t2 t3 t6 t10 t11 : AV} {H : List AObj} {E : List Nat} (hh : (
  (lenV t2 H).bind fun a1 =>
  (binA .eql (Go.TypeDesc.int Go.IntKind.i64) (cmpT Try.prog) false t11 a1).bind fun a2 =>
  condK a2
    ((loadA true 4 t3 H).bind fun a3 =>
    (loadA true 4 t3 H).bind fun a4 =>
    (callD (EV C) n_ref18_Last [a4] H).bind fun a5 =>
    (binA .add (Go.TypeDesc.int Go.IntKind.i64) (cmpT Try.prog) true a5 (.int .i64 1)).bind fun a6 =>
    stoK 4 t6 a3 H fun H7 E7 =>
    (loadA true 4 t6 H7).bind fun a8 =>
    endB false false n (.tup [a8, a6, (.int .i64 0)]) H7 (E7 ++ E))
    ((offA t3 0).bind fun a9 =>
    (loadA true 3 a9 H).bind fun a10 =>
    (fillB (AV.cells (.agg [(.int .i64 0), (.int .i64 0), .nils, .nils])) [(0, 3, a10)]).bind fun c11 =>
    newK (.agg [(.int .i64 0), (.int .i64 0), .nils, .nils]) H fun a12 H12 E12 =>
    stoK 4 a12 (.agg c11) H12 fun H13 E13 =>
    (offA a12 3).bind fun a14 =>
    (loadA false 1 a14 H13).bind fun a15 =>
    (offA t3 3).bind fun a16 =>
    (loadA false 1 a16 H13).bind fun a17 =>
    (cutA 3 a17 none (some t10) none H13).bind fun a18 =>
    appK 3 40 a15 a18 H13 fun a19 H19 E19 =>
    (offA a12 3).bind fun a20 =>
    stoK 1 a20 a19 H19 fun H21 E21 =>
    (offA a12 3).bind fun a22 =>
    (loadA false 1 a22 H21).bind fun a23 =>
    (cutA 3 t2 (some t11) none none H21).bind fun a24 =>
    appK 3 40 a23 a24 H21 fun a25 H25 E25 =>
    (offA a12 3).bind fun a26 =>
    stoK 1 a26 a25 H25 fun H27 E27 =>
    (loadA true 4 a12 H27).bind fun a28 =>
    callK (EV C) false n_ref18_Check [a28] H27 fun a29 H29 E29 =>
    (unA .not a29).bind fun a30 =>
    condK a30
      ((fillB (AV.cells (.agg [(.int .i64 0), (.int .i64 0), .nils, .nils])) []).bind fun c31 =>
      stoK 4 t6 (.agg c31) H29 fun H32 E32 =>
      (loadA true 4 t6 H32).bind fun a33 =>
      endB false false n (.tup [a33, (.int .i64 0), (.int .i64 3)]) H32 (E32 ++ (E29 ++ (E27 ++ (E25 ++ (E21 ++ (E19 ++ (E13 ++ (E12 ++ E)))))))))
      ((loadA true 4 a12 H29).bind fun a34 =>
      (offA t3 0).bind fun a35 =>
      (offA a35 0).bind fun a36 =>
      (loadA false 1 a36 H29).bind fun a37 =>
      (binA .add (Go.TypeDesc.int Go.IntKind.i64) (cmpT Try.prog) false a37 t10).bind fun a38 =>
      (binA .add (Go.TypeDesc.int Go.IntKind.i64) (cmpT Try.prog) true a38 (.int .i64 1)).bind fun a39 =>
      stoK 4 t6 a34 H29 fun H40 E40 =>
      drawK (((loadA false 1 a36 H40).bind fun a41 =>
      some a41) = some a37)
      ((loadA true 4 t6 H40).bind fun a42 =>
      endB false false n (.tup [a42, a39, (.int .i64 0)]) H40 (E40 ++ (E29 ++ (E27 ++ (E25 ++ (E21 ++ (E19 ++ (E13 ++ (E12 ++ E)))))))))))) = some r) : ref18_Merge_S9 n t2 t3 t6 t10 t11 H E = some r :=
  Eq.trans (by kernel_rfl) hh
theorem ref18_Merge_of {r : R3} {x0 x1 x2 : AV} {H : List AObj} (hh : (fun n => (
  newK x0 H fun a1 H1 E1 =>
  newK (.agg [(.int .i64 0), (.int .i64 0), .nils, .nils]) H1 fun a2 H2 E2 =>
  (loadA true 4 a1 H2).bind fun a3 =>
  callK (EV C) false n_ref18_Has [a3, x1] H2 fun a4 H4 E4 =>
  (unA .not a4).bind fun a5 =>
  condK a5
    ((fillB (AV.cells (.agg [(.int .i64 0), (.int .i64 0), .nils, .nils])) []).bind fun c6 =>
    stoK 4 a2 (.agg c6) H4 fun H7 E7 =>
    (loadA true 4 a2 H7).bind fun a8 =>
    endB false false n (.tup [a8, (.int .i64 0), (.int .i64 9)]) H7 (E7 ++ (E4 ++ (E2 ++ (E1 ++ [])))))
    ((offA a1 0).bind fun a9 =>
    (offA a9 0).bind fun a10 =>
    (loadA false 1 a10 H4).bind fun a11 =>
    (binA .sub (Go.TypeDesc.int Go.IntKind.i64) (cmpT Try.prog) false x1 a11).bind fun a12 =>
    ref18_Merge_J6 n x2 a1 a2 a12 (.int .i64 0) H4 (E4 ++ (E2 ++ (E1 ++ [])))))) (List.length H) = some r) : EV C n_ref18_Merge [x0, x1, x2] H = some r :=
  EV_of_fnK' (fn := Try.f22) (by kernel_rfl) (by kernel_rfl) (by kernel_rfl) hh
/-! ### 23 heartwood/heartwoodlaw00.Code -/
noncomputable def law00_Code_J4 (n : Nat) (t0 t3 : AV) (H : List AObj) (E : List Nat) : Option R3 :=
  loopK Try.prog C.G (EV C) (C.hint 23) Try.f23 (cAt (bodyOf Try.f23) [1, 1, 0, 1, 0, 0]) (kAt Try.prog C.G (EV C) (C.hint 23) Try.f23 (bodyOf Try.f23) [1, 1, 0, 1, 0] [] (endK Try.prog (C.hint 23) Try.f23 n))
    ⟨pat 15 [(0, t0), (3, t3)], H, E⟩
theorem law00_Code_J4_of {r : R3} {n : Nat} {t0 t3 : AV} {H : List AObj} {E : List Nat} (hh : (
  (binA .leq (Go.TypeDesc.int Go.IntKind.i64) (cmpT Try.prog) true t3 (.int .i64 13)).bind fun a1 =>
  condK a1
    ((binA .eql (Go.TypeDesc.interface #[("Error", 88)]) (cmpT Try.prog) false t0 (.ifc t_api_Code t3)).bind fun a2 =>
    condK a2
      (endB false false n t3 H E)
      ((binA .add (Go.TypeDesc.int Go.IntKind.i64) (cmpT Try.prog) true t3 (.int .i64 1)).bind fun a3 =>
      law00_Code_J4 n t0 a3 H E))
    (endB false false n (.int .i64 (-1)) H E)) = some r) : law00_Code_J4 n t0 t3 H E = some r :=
  loop_step' (by kernel_rfl) hh
theorem law00_Code_of {r : R3} {x0 : AV} {H : List AObj} (hh : (fun n => (
  (binA .eql (Go.TypeDesc.interface #[("Error", 88)]) (cmpT Try.prog) true x0 .nili).bind fun a1 =>
  condK a1
    (endB false false n (.int .i64 0) H [])
    (law00_Code_J4 n x0 (.int .i64 1) H []))) (List.length H) = some r) : EV C n_law00_Code [x0] H = some r :=
  EV_of_fnK' (fn := Try.f23) (by kernel_rfl) (by kernel_rfl) (by kernel_rfl) hh
/-! ### 24 heartwood/log.Check -/
noncomputable def log_Check_J5 (n : Nat) (t3 t40 t41 t42 : AV) (H : List AObj) (E : List Nat) : Option R3 :=
  loopK Try.prog C.G (EV C) (C.hint 24) Try.f24 (cAt (bodyOf Try.f24) [1, 1, 1, 0, 1, 0, 0]) (kAt Try.prog C.G (EV C) (C.hint 24) Try.f24 (bodyOf Try.f24) [1, 1, 1, 0, 1, 0] [] (endK Try.prog (C.hint 24) Try.f24 n))
    ⟨pat 54 [(3, t3), (40, t40), (41, t41), (42, t42)], H, E⟩
theorem log_Check_J5_of {r : R3} {n : Nat} {t3 t40 t41 t42 : AV} {H : List AObj} {E : List Nat} (hh : (
  (binA .lss (Go.TypeDesc.int Go.IntKind.i64) (cmpT Try.prog) false t42 t41).bind fun a1 =>
  condK a1
    ((ixA 3 t40 t42 H).bind fun a2 =>
    (loadA true 3 a2 H).bind fun a3 =>
    newK (.agg [(.int .i64 0), (.int .i64 0), .nils]) H fun a4 H4 E4 =>
    stoK 3 a4 a3 H4 fun H5 E5 =>
    (loadA true 3 a4 H5).bind fun a6 =>
    callK (EV C) false n_log_entry [a6, t3] H5 fun a7 H7 E7 =>
    (unA .not a7).bind fun a8 =>
    condK a8
      (endB false false n (.ifc t_api_Code (.int .i64 3)) H7 ((E7 ++ (E5 ++ (E4 ++ []))) ++ E))
      ((offA a4 0).bind fun a9 =>
      (loadA false 1 a9 H7).bind fun a10 =>
      (binA .add (Go.TypeDesc.int Go.IntKind.i64) (cmpT Try.prog) true t42 (.int .i64 1)).bind fun a11 =>
      condB (List.all (E7 ++ (E5 ++ (E4 ++ []))) (fun e => decide (List.length H ≤ e)) && (AV.bel (List.length H) a10 && (AV.bel (List.length H) t40 && (AV.bel (List.length H) t41 && (AV.bel (List.length H) a11 && true)))))
      (log_Check_J5 n a10 t40 t41 a11 (List.take (List.length H) H7) E)))
    (endB false false n .nili H E)) = some r) : log_Check_J5 n t3 t40 t41 t42 H E = some r :=
  loop_step' (by kernel_rfl) hh
theorem log_Check_of {r : R3} {x0 : AV} {H : List AObj} (hh : (fun n => (
  newK x0 H fun a1 H1 E1 =>
  (offA a1 0).bind fun a2 =>
  (offA a2 0).bind fun a3 =>
  (loadA false 1 a3 H1).bind fun a4 =>
  callK (EV C) false n_log_count [a4] H1 fun a5 H5 E5 =>
  (unA .not a5).bind fun a6 =>
  splitK a6
    (endB false false n (.ifc t_api_Code (.int .i64 3)) H5 (E5 ++ (E1 ++ [])))
    ((offA a1 0).bind fun a7 =>
    (offA a7 1).bind fun a8 =>
    (loadA false 1 a8 H5).bind fun a9 =>
    callK (EV C) false n_log_count [a9] H5 fun a10 H10 E10 =>
    (unA .not a10).bind fun a11 =>
    splitK a11
      (endB false false n (.ifc t_api_Code (.int .i64 3)) H10 (E10 ++ (E5 ++ (E1 ++ []))))
      ((offA a1 0).bind fun a12 =>
      (offA a12 2).bind fun a13 =>
      (loadA false 1 a13 H10).bind fun a14 =>
      callK (EV C) false n_conf_May [a14] H10 fun a15 H15 E15 =>
      (unA .not a15).bind fun a16 =>
      splitK a16
        (endB false false n (.ifc t_api_Code (.int .i64 3)) H15 (E15 ++ (E10 ++ (E5 ++ (E1 ++ [])))))
        ((offA a1 3).bind fun a17 =>
        (loadA false 1 a17 H15).bind fun a18 =>
        (lenV a18 H15).bind fun a19 =>
        (offA a1 0).bind fun a20 =>
        (offA a20 0).bind fun a21 =>
        (loadA false 1 a21 H15).bind fun a22 =>
        (binA .sub (Go.TypeDesc.int Go.IntKind.i64) (cmpT Try.prog) true (.int .i64 1152921504606846976) a22).bind fun a23 =>
        (binA .gtr (Go.TypeDesc.int Go.IntKind.i64) (cmpT Try.prog) false a19 a23).bind fun a24 =>
        condK a24
          (endB false false n (.ifc t_api_Code (.int .i64 3)) H15 (E15 ++ (E10 ++ (E5 ++ (E1 ++ [])))))
          ((offA a1 0).bind fun a25 =>
          (offA a25 1).bind fun a26 =>
          (loadA false 1 a26 H15).bind fun a27 =>
          (offA a1 3).bind fun a28 =>
          (loadA false 1 a28 H15).bind fun a29 =>
          (lenV a29 H15).bind fun a30 =>
          log_Check_J5 n a27 a29 a30 (.int .i64 0) H15 (E15 ++ (E10 ++ (E5 ++ (E1 ++ [])))))))))) (List.length H) = some r) : EV C n_log_Check [x0] H = some r :=
  EV_of_fnK' (fn := Try.f24) (by kernel_rfl) (by kernel_rfl) (by kernel_rfl) hh
/-! ### 25 heartwood/log.Last -/
theorem log_Last_of {r : R3} {x0 : AV} {H : List AObj} (hh : (fun n => (
  newK x0 H fun a1 H1 E1 =>
  (loadA true 4 a1 H1).bind fun a2 =>
  callK (EV C) false n_log_Check [a2] H1 fun a3 H3 E3 =>
  (binA .neq (Go.TypeDesc.interface #[("Error", 88)]) (cmpT Try.prog) true a3 .nili).bind fun a4 =>
  condK a4
    (endB false false n (.tup [(.int .i64 0), (.int .i64 0)]) H3 (E3 ++ (E1 ++ [])))
    ((loadA true 4 a1 H3).bind fun a5 =>
    (callD (EV C) n_log_last [a5] H3).bind fun a6 =>
    (loadA true 4 a1 H3).bind fun a7 =>
    (loadA true 4 a1 H3).bind fun a8 =>
    (callD (EV C) n_log_last [a8] H3).bind fun a9 =>
    (callD (EV C) n_log_term [a7, a9] H3).bind fun a10 =>
    endB false false n (.tup [a6, a10]) H3 (E3 ++ (E1 ++ []))))) (List.length H) = some r) : EV C n_log_Last [x0] H = some r :=
  EV_of_fnK' (fn := Try.f25) (by kernel_rfl) (by kernel_rfl) (by kernel_rfl) hh
/-! ### 26 heartwood/log.Term -/
theorem log_Term_of {r : R3} {x0 x1 : AV} {H : List AObj} (hh : (fun n => (
  newK x0 H fun a1 H1 E1 =>
  (loadA true 4 a1 H1).bind fun a2 =>
  callK (EV C) false n_log_asked [a2, x1] H1 fun a3 H3 E3 =>
  (binA .neq (Go.TypeDesc.interface #[("Error", 88)]) (cmpT Try.prog) true a3 .nili).bind fun a4 =>
  condK a4
    (endB false false n (.tup [(.int .i64 0), a3]) H3 (E3 ++ (E1 ++ [])))
    ((loadA true 4 a1 H3).bind fun a5 =>
    callK (EV C) false n_log_term [a5, x1] H3 fun a6 H6 E6 =>
    endB false false n (.tup [a6, .nili]) H6 (E6 ++ (E3 ++ (E1 ++ [])))))) (List.length H) = some r) : EV C n_log_Term [x0, x1] H = some r :=
  EV_of_fnK' (fn := Try.f26) (by kernel_rfl) (by kernel_rfl) (by kernel_rfl) hh
/-! ### 27 heartwood/log.Compact -/
theorem log_Compact_of {r : R3} {x0 x1 : AV} {H : List AObj} (hh : (fun n => (
  newK x0 H fun a1 H1 E1 =>
  newK (.agg [(.int .i64 0), (.int .i64 0), .nils, .nils]) H1 fun a2 H2 E2 =>
  (loadA true 4 a1 H2).bind fun a3 =>
  callK (EV C) false n_log_asked [a3, x1] H2 fun a4 H4 E4 =>
  (binA .neq (Go.TypeDesc.interface #[("Error", 88)]) (cmpT Try.prog) true a4 .nili).bind fun a5 =>
  condK a5
    ((fillB (AV.cells (.agg [(.int .i64 0), (.int .i64 0), .nils, .nils])) []).bind fun c6 =>
    stoK 4 a2 (.agg c6) H4 fun H7 E7 =>
    (loadA true 4 a2 H7).bind fun a8 =>
    endB false false n (.tup [a8, a4]) H7 (E7 ++ (E4 ++ (E2 ++ (E1 ++ [])))))
    ((loadA true 4 a1 H4).bind fun a9 =>
    (callD (EV C) n_log_term [a9, x1] H4).bind fun a10 =>
    (loadA true 4 a1 H4).bind fun a11 =>
    (callD (EV C) n_log_Members [a11, x1] H4).bind fun a12 =>
    (fillB (AV.cells (.agg [(.int .i64 0), (.int .i64 0), .nils])) [(0, 1, x1), (1, 1, a10), (2, 1, a12)]).bind fun c13 =>
    (offA a1 3).bind fun a14 =>
    (loadA false 1 a14 H4).bind fun a15 =>
    (offA a1 0).bind fun a16 =>
    (offA a16 0).bind fun a17 =>
    (loadA false 1 a17 H4).bind fun a18 =>
    (binA .sub (Go.TypeDesc.int Go.IntKind.i64) (cmpT Try.prog) false x1 a18).bind fun a19 =>
    (cutA 3 a15 (some a19) none none H4).bind fun a20 =>
    (callD (EV C) n_Clone_api_Entry [a20] H4).bind fun a21 =>
    (fillB (AV.cells (.agg [(.int .i64 0), (.int .i64 0), .nils, .nils])) [(0, 3, (.agg c13)), (3, 1, a21)]).bind fun c22 =>
    stoK 4 a2 (.agg c22) H4 fun H23 E23 =>
    (loadA true 4 a2 H23).bind fun a24 =>
    endB false false n (.tup [a24, .nili]) H23 (E23 ++ (E4 ++ (E2 ++ (E1 ++ []))))))) (List.length H) = some r) : EV C n_log_Compact [x0, x1] H = some r :=
  EV_of_fnK' (fn := Try.f27) (by kernel_rfl) (by kernel_rfl) (by kernel_rfl) hh
/-! ### 28 heartwood/heartwoodref18.Has -/
theorem ref18_Has_of {r : R3} {x0 x1 : AV} {H : List AObj} (hh : (fun n => (
  newK x0 H fun a1 H1 E1 =>
  (offA a1 0).bind fun a2 =>
  (offA a2 0).bind fun a3 =>
  (loadA false 1 a3 H1).bind fun a4 =>
  (binA .leq (Go.TypeDesc.int Go.IntKind.i64) (cmpT Try.prog) false a4 x1).bind fun a5 =>
  splitK a5
    ((loadA true 4 a1 H1).bind fun a6 =>
    callK (EV C) false n_ref18_Last [a6] H1 fun a7 H7 E7 =>
    (binA .leq (Go.TypeDesc.int Go.IntKind.i64) (cmpT Try.prog) false x1 a7).bind fun a8 =>
    endB false false n a8 H7 (E7 ++ (E1 ++ [])))
    (endB false false n (.bool false) H1 (E1 ++ [])))) (List.length H) = some r) : EV C n_ref18_Has [x0, x1] H = some r :=
  EV_of_fnK' (fn := Try.f28) (by kernel_rfl) (by kernel_rfl) (by kernel_rfl) hh
/-! ### 29 heartwood/heartwoodref18.Compact -/
theorem ref18_Compact_of {r : R3} {x0 x1 : AV} {H : List AObj} (hh : (fun n => (
  newK x0 H fun a1 H1 E1 =>
  newK (.agg [(.int .i64 0), (.int .i64 0), .nils, .nils]) H1 fun a2 H2 E2 =>
  (loadA true 4 a1 H2).bind fun a3 =>
  (callD (EV C) n_ref18_Term [a3, x1] H2).bind fun a4 =>
  (loadA true 4 a1 H2).bind fun a5 =>
  (callD (EV C) n_ref18_Members [a5, x1] H2).bind fun a6 =>
  (fillB (AV.cells (.agg [(.int .i64 0), (.int .i64 0), .nils])) [(0, 1, x1), (1, 1, a4), (2, 1, a6)]).bind fun c7 =>
  (fillB (AV.cells (.agg [(.int .i64 0), (.int .i64 0), .nils, .nils])) [(0, 3, (.agg c7))]).bind fun c8 =>
  newK (.agg [(.int .i64 0), (.int .i64 0), .nils, .nils]) H2 fun a9 H9 E9 =>
  drawK (((loadA true 4 a1 H9).bind fun a10 =>
  some a10) = some a3)
  (drawK (((callD (EV C) n_ref18_Term [a3, x1] H9).bind fun a11 =>
  some a11) = some a4)
  (drawK (((loadA true 4 a1 H9).bind fun a12 =>
  some a12) = some a5)
  (drawK (((callD (EV C) n_ref18_Members [a5, x1] H9).bind fun a13 =>
  some a13) = some a6)
  (stoK 4 a9 (.agg c8) H9 fun H14 E14 =>
  (offA a9 3).bind fun a15 =>
  (loadA false 1 a15 H14).bind fun a16 =>
  (offA a1 3).bind fun a17 =>
  (loadA false 1 a17 H14).bind fun a18 =>
  (offA a1 0).bind fun a19 =>
  (offA a19 0).bind fun a20 =>
  (loadA false 1 a20 H14).bind fun a21 =>
  (binA .sub (Go.TypeDesc.int Go.IntKind.i64) (cmpT Try.prog) false x1 a21).bind fun a22 =>
  (cutA 3 a18 (some a22) none none H14).bind fun a23 =>
  appK 3 40 a16 a23 H14 fun a24 H24 E24 =>
  (offA a9 3).bind fun a25 =>
  stoK 1 a25 a24 H24 fun H26 E26 =>
  (loadA true 4 a9 H26).bind fun a27 =>
  stoK 4 a2 a27 H26 fun H28 E28 =>
  (loadA true 4 a2 H28).bind fun a29 =>
  endB false false n a29 H28 (E28 ++ (E26 ++ (E24 ++ (E14 ++ (E9 ++ (E2 ++ (E1 ++ []))))))))))))) (List.length H) = some r) : EV C n_ref18_Compact [x0, x1] H = some r :=
  EV_of_fnK' (fn := Try.f29) (by kernel_rfl) (by kernel_rfl) (by kernel_rfl) hh
/-! ### 30 heartwood/log.Members -/
noncomputable def log_Members_J4 (n : Nat) (t2 t5 : AV) (H : List AObj) (E : List Nat) : Option R3 :=
  loopK Try.prog C.G (EV C) (C.hint 30) Try.f30 (cAt (bodyOf Try.f30) [1, 1, 0, 1, 0, 0]) (kAt Try.prog C.G (EV C) (C.hint 30) Try.f30 (bodyOf Try.f30) [1, 1, 0, 1, 0] [] (endK Try.prog (C.hint 30) Try.f30 n))
    ⟨pat 49 [(2, t2), (5, t5)], H, E⟩
theorem log_Members_J4_of {r : R3} {n : Nat} {t2 t5 : AV} {H : List AObj} {E : List Nat} (hh : (
  (offA t2 0).bind fun a1 =>
  (offA a1 0).bind fun a2 =>
  (loadA false 1 a2 H).bind fun a3 =>
  (binA .gtr (Go.TypeDesc.int Go.IntKind.i64) (cmpT Try.prog) false t5 a3).bind fun a4 =>
  condK a4
    ((offA t2 3).bind fun a5 =>
    (loadA false 1 a5 H).bind fun a6 =>
    (offA t2 0).bind fun a7 =>
    (offA a7 0).bind fun a8 =>
    (loadA false 1 a8 H).bind fun a9 =>
    (binA .sub (Go.TypeDesc.int Go.IntKind.i64) (cmpT Try.prog) false t5 a9).bind fun a10 =>
    (binA .sub (Go.TypeDesc.int Go.IntKind.i64) (cmpT Try.prog) true a10 (.int .i64 1)).bind fun a11 =>
    (ixA 3 a6 a11 H).bind fun a12 =>
    (loadA true 3 a12 H).bind fun a13 =>
    newK (.agg [(.int .i64 0), (.int .i64 0), .nils]) H fun a14 H14 E14 =>
    stoK 3 a14 a13 H14 fun H15 E15 =>
    (offA a14 1).bind fun a16 =>
    (loadA false 1 a16 H15).bind fun a17 =>
    (binA .eql (Go.TypeDesc.int Go.IntKind.i64) (cmpT Try.prog) true a17 (.int .i64 2)).bind fun a18 =>
    condK a18
      ((offA a14 2).bind fun a19 =>
      (loadA false 1 a19 H15).bind fun a20 =>
      callK (EV C) false n_conf_Of [a20] H15 fun a21 H21 E21 =>
      (extA a21 0).bind fun a22 =>
      (extA a21 1).bind fun a23 =>
      (binA .eql (Go.TypeDesc.interface #[("Error", 88)]) (cmpT Try.prog) true a23 .nili).bind fun a24 =>
      condK a24
        (endB false false n a22 H21 ((E21 ++ (E15 ++ (E14 ++ []))) ++ E))
        ((binA .sub (Go.TypeDesc.int Go.IntKind.i64) (cmpT Try.prog) true t5 (.int .i64 1)).bind fun a25 =>
        condB (List.all (E21 ++ (E15 ++ (E14 ++ []))) (fun e => decide (List.length H ≤ e)) && (AV.bel (List.length H) t2 && (AV.bel (List.length H) a25 && true)))
        (log_Members_J4 n t2 a25 (List.take (List.length H) H21) E)))
      ((binA .sub (Go.TypeDesc.int Go.IntKind.i64) (cmpT Try.prog) true t5 (.int .i64 1)).bind fun a26 =>
      condB (List.all (E15 ++ (E14 ++ [])) (fun e => decide (List.length H ≤ e)) && (AV.bel (List.length H) t2 && (AV.bel (List.length H) a26 && true)))
      (log_Members_J4 n t2 a26 (List.take (List.length H) H15) E)))
    ((offA t2 0).bind fun a27 =>
    (offA a27 2).bind fun a28 =>
    (loadA false 1 a28 H).bind fun a29 =>
    callK (EV C) false n_Clone_int [a29] H fun a30 H30 E30 =>
    endB false false n a30 H30 (E30 ++ E))) = some r) : log_Members_J4 n t2 t5 H E = some r :=
  loop_step' (by kernel_rfl) hh
theorem log_Members_of {r : R3} {x0 x1 : AV} {H : List AObj} (hh : (fun n => (
  newK x0 H fun a1 H1 E1 =>
  (loadA true 4 a1 H1).bind fun a2 =>
  callK (EV C) false n_log_Check [a2] H1 fun a3 H3 E3 =>
  (binA .neq (Go.TypeDesc.interface #[("Error", 88)]) (cmpT Try.prog) true a3 .nili).bind fun a4 =>
  condK a4
    (endB false false n .nils H3 (E3 ++ (E1 ++ [])))
    ((loadA true 4 a1 H3).bind fun a5 =>
    callK (EV C) false n_log_last [a5] H3 fun a6 H6 E6 =>
    (minA [x1, a6]).bind fun a7 =>
    log_Members_J4 n a1 a7 H6 (E6 ++ (E3 ++ (E1 ++ [])))))) (List.length H) = some r) : EV C n_log_Members [x0, x1] H = some r :=
  EV_of_fnK' (fn := Try.f30) (by kernel_rfl) (by kernel_rfl) (by kernel_rfl) hh
/-! ### 31 heartwood/log.Slice -/
theorem log_Slice_of {r : R3} {x0 x1 x2 : AV} {H : List AObj} (hh : (fun n => (
  newK x0 H fun a1 H1 E1 =>
  (loadA true 4 a1 H1).bind fun a2 =>
  callK (EV C) false n_log_asked [a2, x1] H1 fun a3 H3 E3 =>
  (binA .neq (Go.TypeDesc.interface #[("Error", 88)]) (cmpT Try.prog) true a3 .nili).bind fun a4 =>
  splitK a4
    (endB false false n .nils H3 (E3 ++ (E1 ++ [])))
    ((offA a1 0).bind fun a5 =>
    (offA a5 0).bind fun a6 =>
    (loadA false 1 a6 H3).bind fun a7 =>
    (binA .eql (Go.TypeDesc.int Go.IntKind.i64) (cmpT Try.prog) false x1 a7).bind fun a8 =>
    splitK a8
      (endB false false n .nils H3 (E3 ++ (E1 ++ [])))
      ((binA .lss (Go.TypeDesc.int Go.IntKind.i64) (cmpT Try.prog) true x2 (.int .i64 1)).bind fun a9 =>
      condK a9
        (endB false false n .nils H3 (E3 ++ (E1 ++ [])))
        ((offA a1 3).bind fun a10 =>
        (loadA false 1 a10 H3).bind fun a11 =>
        (offA a1 0).bind fun a12 =>
        (offA a12 0).bind fun a13 =>
        (loadA false 1 a13 H3).bind fun a14 =>
        (binA .sub (Go.TypeDesc.int Go.IntKind.i64) (cmpT Try.prog) false x1 a14).bind fun a15 =>
        (binA .sub (Go.TypeDesc.int Go.IntKind.i64) (cmpT Try.prog) true a15 (.int .i64 1)).bind fun a16 =>
        (cutA 3 a11 (some a16) none none H3).bind fun a17 =>
        (lenV a17 H3).bind fun a18 =>
        (minA [x2, a18]).bind fun a19 =>
        (cutA 3 a17 none (some a19) none H3).bind fun a20 =>
        callK (EV C) false n_Clone_api_Entry [a20] H3 fun a21 H21 E21 =>
        endB false false n a21 H21 (E21 ++ (E3 ++ (E1 ++ [])))))))) (List.length H) = some r) : EV C n_log_Slice [x0, x1, x2] H = some r :=
  EV_of_fnK' (fn := Try.f31) (by kernel_rfl) (by kernel_rfl) (by kernel_rfl) hh
/-! ### 32 heartwood/heartwoodref18.Last -/
theorem ref18_Last_of {r : R3} {x0 : AV} {H : List AObj} (hh : (fun n => (
  newK x0 H fun a1 H1 E1 =>
  (offA a1 0).bind fun a2 =>
  (offA a2 0).bind fun a3 =>
  (loadA false 1 a3 H1).bind fun a4 =>
  (offA a1 3).bind fun a5 =>
  (loadA false 1 a5 H1).bind fun a6 =>
  (lenV a6 H1).bind fun a7 =>
  (binA .add (Go.TypeDesc.int Go.IntKind.i64) (cmpT Try.prog) false a4 a7).bind fun a8 =>
  endB false false n a8 H1 (E1 ++ []))) (List.length H) = some r) : EV C n_ref18_Last [x0] H = some r :=
  EV_of_fnK' (fn := Try.f32) (by kernel_rfl) (by kernel_rfl) (by kernel_rfl) hh
/-! ### 33 heartwood/heartwoodref18.Term -/
theorem ref18_Term_of {r : R3} {x0 x1 : AV} {H : List AObj} (hh : (fun n => (
  newK x0 H fun a1 H1 E1 =>
  (offA a1 0).bind fun a2 =>
  (offA a2 0).bind fun a3 =>
  (loadA false 1 a3 H1).bind fun a4 =>
  (binA .sub (Go.TypeDesc.int Go.IntKind.i64) (cmpT Try.prog) false x1 a4).bind fun a5 =>
  (binA .eql (Go.TypeDesc.int Go.IntKind.i64) (cmpT Try.prog) true a5 (.int .i64 0)).bind fun a6 =>
  condK a6
    ((offA a1 0).bind fun a7 =>
    (offA a7 1).bind fun a8 =>
    (loadA false 1 a8 H1).bind fun a9 =>
    endB false false n a9 H1 (E1 ++ []))
    ((offA a1 3).bind fun a10 =>
    (loadA false 1 a10 H1).bind fun a11 =>
    (binA .sub (Go.TypeDesc.int Go.IntKind.i64) (cmpT Try.prog) true a5 (.int .i64 1)).bind fun a12 =>
    (ixA 3 a11 a12 H1).bind fun a13 =>
    (offA a13 0).bind fun a14 =>
    (loadA false 1 a14 H1).bind fun a15 =>
    endB false false n a15 H1 (E1 ++ [])))) (List.length H) = some r) : EV C n_ref18_Term [x0, x1] H = some r :=
  EV_of_fnK' (fn := Try.f33) (by kernel_rfl) (by kernel_rfl) (by kernel_rfl) hh
/-! ### 34 heartwood/heartwoodref17.Same -/
noncomputable def ref17_Same_J4 (n : Nat) (t0 t1 t5 : AV) (H : List AObj) (E : List Nat) : Option R3 :=
  loopK Try.prog C.G (EV C) (C.hint 34) Try.f34 (cAt (bodyOf Try.f34) [1, 1, 0, 1, 0, 0]) (kAt Try.prog C.G (EV C) (C.hint 34) Try.f34 (bodyOf Try.f34) [1, 1, 0, 1, 0] [] (endK Try.prog (C.hint 34) Try.f34 n))
    ⟨pat 26 [(0, t0), (1, t1), (5, t5)], H, E⟩
theorem ref17_Same_J4_of {r : R3} {n : Nat} {t0 t1 t5 : AV} {H : List AObj} {E : List Nat} (hh : (
  (lenV t0 H).bind fun a1 =>
  (binA .lss (Go.TypeDesc.int Go.IntKind.i64) (cmpT Try.prog) false t5 a1).bind fun a2 =>
  condK a2
    ((ixA 1 t0 t5 H).bind fun a3 =>
    (loadA false 1 a3 H).bind fun a4 =>
    (ixA 1 t1 t5 H).bind fun a5 =>
    (loadA false 1 a5 H).bind fun a6 =>
    (binA .neq (Go.TypeDesc.int Go.IntKind.i64) (cmpT Try.prog) false a4 a6).bind fun a7 =>
    condK a7
      (endB false false n (.bool false) H E)
      ((binA .add (Go.TypeDesc.int Go.IntKind.i64) (cmpT Try.prog) true t5 (.int .i64 1)).bind fun a8 =>
      ref17_Same_J4 n t0 t1 a8 H E))
    (endB false false n (.bool true) H E)) = some r) : ref17_Same_J4 n t0 t1 t5 H E = some r :=
  loop_step' (by kernel_rfl) hh
theorem ref17_Same_of {r : R3} {x0 x1 : AV} {H : List AObj} (hh : (fun n => (
  (lenV x0 H).bind fun a1 =>
  (lenV x1 H).bind fun a2 =>
  (binA .neq (Go.TypeDesc.int Go.IntKind.i64) (cmpT Try.prog) false a1 a2).bind fun a3 =>
  condK a3
    (endB false false n (.bool false) H [])
    (ref17_Same_J4 n x0 x1 (.int .i64 0) H []))) (List.length H) = some r) : EV C n_ref17_Same [x0, x1] H = some r :=
  EV_of_fnK' (fn := Try.f34) (by kernel_rfl) (by kernel_rfl) (by kernel_rfl) hh
/-! ### 35 heartwood/heartwoodref18.Members -/
noncomputable def ref18_Members_J3 (n : Nat) (t1 t2 t5 t6 : AV) (H : List AObj) (E : List Nat) : Option R3 :=
  loopK Try.prog C.G (EV C) (C.hint 35) Try.f35 (cAt (bodyOf Try.f35) [1, 1, 0, 1, 0, 0]) (kAt Try.prog C.G (EV C) (C.hint 35) Try.f35 (bodyOf Try.f35) [1, 1, 0, 1, 0] [] (endK Try.prog (C.hint 35) Try.f35 n))
    ⟨pat 45 [(1, t1), (2, t2), (5, t5), (6, t6)], H, E⟩
theorem ref18_Members_J3_of {r : R3} {n : Nat} {t1 t2 t5 t6 : AV} {H : List AObj} {E : List Nat} (hh : (
  (offA t2 3).bind fun a1 =>
  (loadA false 1 a1 H).bind fun a2 =>
  (lenV a2 H).bind fun a3 =>
  (binA .lss (Go.TypeDesc.int Go.IntKind.i64) (cmpT Try.prog) false t6 a3).bind fun a4 =>
  splitK a4
    ((offA t2 0).bind fun a5 =>
    (offA a5 0).bind fun a6 =>
    (loadA false 1 a6 H).bind fun a7 =>
    (binA .add (Go.TypeDesc.int Go.IntKind.i64) (cmpT Try.prog) true a7 (.int .i64 1)).bind fun a8 =>
    (binA .add (Go.TypeDesc.int Go.IntKind.i64) (cmpT Try.prog) false a8 t6).bind fun a9 =>
    (binA .leq (Go.TypeDesc.int Go.IntKind.i64) (cmpT Try.prog) false a9 t1).bind fun a10 =>
    condK a10
      ((offA t2 3).bind fun a11 =>
      (loadA false 1 a11 H).bind fun a12 =>
      (ixA 3 a12 t6 H).bind fun a13 =>
      (offA a13 1).bind fun a14 =>
      (loadA false 1 a14 H).bind fun a15 =>
      (binA .eql (Go.TypeDesc.int Go.IntKind.i64) (cmpT Try.prog) true a15 (.int .i64 2)).bind fun a16 =>
      condK a16
        ((offA t2 3).bind fun a17 =>
        (loadA false 1 a17 H).bind fun a18 =>
        (ixA 3 a18 t6 H).bind fun a19 =>
        (offA a19 2).bind fun a20 =>
        (loadA false 1 a20 H).bind fun a21 =>
        callK (EV C) false n_ref17_Of [a21] H fun a22 H22 E22 =>
        (extA a22 0).bind fun a23 =>
        (extA a22 1).bind fun a24 =>
        (binA .add (Go.TypeDesc.int Go.IntKind.i64) (cmpT Try.prog) true t6 (.int .i64 1)).bind fun a25 =>
        ref18_Members_J3 n t1 t2 a23 a25 H22 ((E22 ++ []) ++ E))
        ((binA .add (Go.TypeDesc.int Go.IntKind.i64) (cmpT Try.prog) true t6 (.int .i64 1)).bind fun a26 =>
        ref18_Members_J3 n t1 t2 t5 a26 H E))
      (endB false false n t5 H E))
    (endB false false n t5 H E)) = some r) : ref18_Members_J3 n t1 t2 t5 t6 H E = some r :=
  loop_step' (by kernel_rfl) hh
theorem ref18_Members_of {r : R3} {x0 x1 : AV} {H : List AObj} (hh : (fun n => (
  newK x0 H fun a1 H1 E1 =>
  (offA a1 0).bind fun a2 =>
  (offA a2 2).bind fun a3 =>
  (loadA false 1 a3 H1).bind fun a4 =>
  ref18_Members_J3 n x1 a1 a4 (.int .i64 0) H1 (E1 ++ []))) (List.length H) = some r) : EV C n_ref18_Members [x0, x1] H = some r :=
  EV_of_fnK' (fn := Try.f35) (by kernel_rfl) (by kernel_rfl) (by kernel_rfl) hh
/-! ### 36 heartwood/heartwoodref18.SameEntries -/
noncomputable def ref18_SameEntries_J4 (n : Nat) (t0 t1 t5 : AV) (H : List AObj) (E : List Nat) : Option R3 :=
  loopK Try.prog C.G (EV C) (C.hint 36) Try.f36 (cAt (bodyOf Try.f36) [1, 1, 0, 1, 0, 0]) (kAt Try.prog C.G (EV C) (C.hint 36) Try.f36 (bodyOf Try.f36) [1, 1, 0, 1, 0] [] (endK Try.prog (C.hint 36) Try.f36 n))
    ⟨pat 56 [(0, t0), (1, t1), (5, t5)], H, E⟩
theorem ref18_SameEntries_J4_of {r : R3} {n : Nat} {t0 t1 t5 : AV} {H : List AObj} {E : List Nat} (hh : (
  (lenV t0 H).bind fun a1 =>
  (binA .lss (Go.TypeDesc.int Go.IntKind.i64) (cmpT Try.prog) false t5 a1).bind fun a2 =>
  condK a2
    ((ixA 3 t0 t5 H).bind fun a3 =>
    (offA a3 0).bind fun a4 =>
    (loadA false 1 a4 H).bind fun a5 =>
    (ixA 3 t1 t5 H).bind fun a6 =>
    (offA a6 0).bind fun a7 =>
    (loadA false 1 a7 H).bind fun a8 =>
    (binA .neq (Go.TypeDesc.int Go.IntKind.i64) (cmpT Try.prog) false a5 a8).bind fun a9 =>
    splitK a9
      (endB false false n (.bool false) H E)
      ((ixA 3 t0 t5 H).bind fun a10 =>
      (offA a10 1).bind fun a11 =>
      (loadA false 1 a11 H).bind fun a12 =>
      (ixA 3 t1 t5 H).bind fun a13 =>
      (offA a13 1).bind fun a14 =>
      (loadA false 1 a14 H).bind fun a15 =>
      (binA .neq (Go.TypeDesc.int Go.IntKind.i64) (cmpT Try.prog) false a12 a15).bind fun a16 =>
      splitK a16
        (endB false false n (.bool false) H E)
        ((ixA 3 t0 t5 H).bind fun a17 =>
        (offA a17 2).bind fun a18 =>
        (loadA false 1 a18 H).bind fun a19 =>
        (cvL a19 H).bind fun a20 =>
        (ixA 3 t1 t5 H).bind fun a21 =>
        (offA a21 2).bind fun a22 =>
        (loadA false 1 a22 H).bind fun a23 =>
        (cvL a23 H).bind fun a24 =>
        (binA .neq Go.TypeDesc.string (cmpT Try.prog) false a20 a24).bind fun a25 =>
        condK a25
          (endB false false n (.bool false) H E)
          ((binA .add (Go.TypeDesc.int Go.IntKind.i64) (cmpT Try.prog) true t5 (.int .i64 1)).bind fun a26 =>
          ref18_SameEntries_J4 n t0 t1 a26 H E))))
    (endB false false n (.bool true) H E)) = some r) : ref18_SameEntries_J4 n t0 t1 t5 H E = some r :=
  loop_step' (by kernel_rfl) hh
theorem ref18_SameEntries_of {r : R3} {x0 x1 : AV} {H : List AObj} (hh : (fun n => (
  (lenV x0 H).bind fun a1 =>
  (lenV x1 H).bind fun a2 =>
  (binA .neq (Go.TypeDesc.int Go.IntKind.i64) (cmpT Try.prog) false a1 a2).bind fun a3 =>
  condK a3
    (endB false false n (.bool false) H [])
    (ref18_SameEntries_J4 n x0 x1 (.int .i64 0) H []))) (List.length H) = some r) : EV C n_ref18_SameEntries [x0, x1] H = some r :=
  EV_of_fnK' (fn := Try.f36) (by kernel_rfl) (by kernel_rfl) (by kernel_rfl) hh
/-! ### 37 heartwood/heartwoodref18.Slice -/
noncomputable def ref18_Slice_J5 (n : Nat) (t2 t3 t7 t8 : AV) (H : List AObj) (E : List Nat) : Option R3 :=
  loopK Try.prog C.G (EV C) (C.hint 37) Try.f37 (cAt (bodyOf Try.f37) [1, 1, 1, 0, 1, 0, 0]) (kAt Try.prog C.G (EV C) (C.hint 37) Try.f37 (bodyOf Try.f37) [1, 1, 1, 0, 1, 0] [] (endK Try.prog (C.hint 37) Try.f37 n))
    ⟨pat 48 [(2, t2), (3, t3), (7, t7), (8, t8)], H, E⟩
theorem ref18_Slice_J5_of {r : R3} {n : Nat} {t2 t3 t7 t8 : AV} {H : List AObj} {E : List Nat} (hh : (
  (offA t3 3).bind fun a1 =>
  (loadA false 1 a1 H).bind fun a2 =>
  (lenV a2 H).bind fun a3 =>
  (binA .lss (Go.TypeDesc.int Go.IntKind.i64) (cmpT Try.prog) false t8 a3).bind fun a4 =>
  splitK a4
    ((lenV t7 H).bind fun a5 =>
    (binA .lss (Go.TypeDesc.int Go.IntKind.i64) (cmpT Try.prog) false a5 t2).bind fun a6 =>
    condK a6
      ((offA t3 3).bind fun a7 =>
      (loadA false 1 a7 H).bind fun a8 =>
      (ixA 3 a8 t8 H).bind fun a9 =>
      (loadA true 3 a9 H).bind fun a10 =>
      litK 3 1 (.agg [(.int .i64 0), (.int .i64 0), .nils]) [(0, a10)] H fun a11 H11 E11 =>
      appK 3 40 t7 a11 H11 fun a12 H12 E12 =>
      (binA .add (Go.TypeDesc.int Go.IntKind.i64) (cmpT Try.prog) true t8 (.int .i64 1)).bind fun a13 =>
      ref18_Slice_J5 n t2 t3 a12 a13 H12 ((E12 ++ (E11 ++ [])) ++ E))
      (endB false false n t7 H E))
    (endB false false n t7 H E)) = some r) : ref18_Slice_J5 n t2 t3 t7 t8 H E = some r :=
  loop_step' (by kernel_rfl) hh
theorem ref18_Slice_of {r : R3} {x0 x1 x2 : AV} {H : List AObj} (hh : (fun n => (
  newK x0 H fun a1 H1 E1 =>
  (offA a1 0).bind fun a2 =>
  (offA a2 0).bind fun a3 =>
  (loadA false 1 a3 (H1 ++ [.vrow])).bind fun a4 =>
  (binA .leq (Go.TypeDesc.int Go.IntKind.i64) (cmpT Try.prog) false x1 a4).bind fun a5 =>
  splitK a5
    (endB false false n .nils (H1 ++ [.vrow]) (E1 ++ []))
    ((loadA true 4 a1 (H1 ++ [.vrow])).bind fun a6 =>
    callK (EV C) false n_ref18_Last [a6] (H1 ++ [.vrow]) fun a7 H7 E7 =>
    (binA .gtr (Go.TypeDesc.int Go.IntKind.i64) (cmpT Try.prog) false x1 a7).bind fun a8 =>
    condK a8
      (endB false false n .nils H7 (E7 ++ (E1 ++ [])))
      ((offA a1 0).bind fun a9 =>
      (offA a9 0).bind fun a10 =>
      (loadA false 1 a10 H7).bind fun a11 =>
      (binA .sub (Go.TypeDesc.int Go.IntKind.i64) (cmpT Try.prog) false x1 a11).bind fun a12 =>
      (binA .sub (Go.TypeDesc.int Go.IntKind.i64) (cmpT Try.prog) true a12 (.int .i64 1)).bind fun a13 =>
      ref18_Slice_J5 n x2 a1 (.slc (List.length H1) 0 0 0) a13 H7 (E7 ++ (E1 ++ [])))))) (List.length H) = some r) : EV C n_ref18_Slice [x0, x1, x2] H = some r :=
  EV_of_fnK' (fn := Try.f37) (by kernel_rfl) (by kernel_rfl) (by kernel_rfl) hh
/-! ### 45 heartwood/log.asked -/
theorem log_asked_of {r : R3} {x0 x1 : AV} {H : List AObj} (hh : (fun n => (
  newK x0 H fun a1 H1 E1 =>
  (loadA true 4 a1 H1).bind fun a2 =>
  callK (EV C) false n_log_Check [a2] H1 fun a3 H3 E3 =>
  (binA .neq (Go.TypeDesc.interface #[("Error", 88)]) (cmpT Try.prog) true a3 .nili).bind fun a4 =>
  condK a4
    (endB false false n a3 H3 (E3 ++ (E1 ++ [])))
    ((loadA true 4 a1 H3).bind fun a5 =>
    callK (EV C) false n_log_has [a5, x1] H3 fun a6 H6 E6 =>
    (unA .not a6).bind fun a7 =>
    condK a7
      (endB false false n (.ifc t_api_Code (.int .i64 9)) H6 (E6 ++ (E3 ++ (E1 ++ []))))
      (endB false false n .nili H6 (E6 ++ (E3 ++ (E1 ++ []))))))) (List.length H) = some r) : EV C n_log_asked [x0, x1] H = some r :=
  EV_of_fnK' (fn := Try.f45) (by kernel_rfl) (by kernel_rfl) (by kernel_rfl) hh
/-! ### 46 heartwood/log.last -/
theorem log_last_of {r : R3} {x0 : AV} {H : List AObj} (hh : (fun n => (
  newK x0 H fun a1 H1 E1 =>
  (offA a1 0).bind fun a2 =>
  (offA a2 0).bind fun a3 =>
  (loadA false 1 a3 H1).bind fun a4 =>
  (offA a1 3).bind fun a5 =>
  (loadA false 1 a5 H1).bind fun a6 =>
  (lenV a6 H1).bind fun a7 =>
  (binA .add (Go.TypeDesc.int Go.IntKind.i64) (cmpT Try.prog) false a4 a7).bind fun a8 =>
  endB false false n a8 H1 (E1 ++ []))) (List.length H) = some r) : EV C n_log_last [x0] H = some r :=
  EV_of_fnK' (fn := Try.f46) (by kernel_rfl) (by kernel_rfl) (by kernel_rfl) hh
/-! ### 47 heartwood/log.term -/
theorem log_term_of {r : R3} {x0 x1 : AV} {H : List AObj} (hh : (fun n => (
  newK x0 H fun a1 H1 E1 =>
  (offA a1 0).bind fun a2 =>
  (offA a2 0).bind fun a3 =>
  (loadA false 1 a3 H1).bind fun a4 =>
  (binA .eql (Go.TypeDesc.int Go.IntKind.i64) (cmpT Try.prog) false x1 a4).bind fun a5 =>
  condK a5
    ((offA a1 0).bind fun a6 =>
    (offA a6 1).bind fun a7 =>
    (loadA false 1 a7 H1).bind fun a8 =>
    endB false false n a8 H1 (E1 ++ []))
    ((offA a1 3).bind fun a9 =>
    (loadA false 1 a9 H1).bind fun a10 =>
    (offA a1 0).bind fun a11 =>
    (offA a11 0).bind fun a12 =>
    (loadA false 1 a12 H1).bind fun a13 =>
    (binA .sub (Go.TypeDesc.int Go.IntKind.i64) (cmpT Try.prog) false x1 a13).bind fun a14 =>
    (binA .sub (Go.TypeDesc.int Go.IntKind.i64) (cmpT Try.prog) true a14 (.int .i64 1)).bind fun a15 =>
    (ixA 3 a10 a15 H1).bind fun a16 =>
    (offA a16 0).bind fun a17 =>
    (loadA false 1 a17 H1).bind fun a18 =>
    endB false false n a18 H1 (E1 ++ [])))) (List.length H) = some r) : EV C n_log_term [x0, x1] H = some r :=
  EV_of_fnK' (fn := Try.f47) (by kernel_rfl) (by kernel_rfl) (by kernel_rfl) hh
/-! ### 48 slices.Concat[[]heartwood/api.Entry,heartwood/api.Entry] -/
noncomputable def Concat_api_Entry_J3 (n : Nat) (t0 t3 t9 t10 t11 : AV) (H : List AObj) (E : List Nat) : Option R3 :=
  loopK Try.prog C.G (EV C) (C.hint 48) Try.f48 (cAt (bodyOf Try.f48) [1, 1, 0, 1, 0, 0]) (kAt Try.prog C.G (EV C) (C.hint 48) Try.f48 (bodyOf Try.f48) [1, 1, 0, 1, 0] [] (endK Try.prog (C.hint 48) Try.f48 n))
    ⟨pat 36 [(0, t0), (3, t3), (9, t9), (10, t10), (11, t11)], H, E⟩
noncomputable def Concat_api_Entry_J11 (n : Nat) (t6 t25 t26 t27 : AV) (H : List AObj) (E : List Nat) : Option R3 :=
  loopK Try.prog C.G (EV C) (C.hint 48) Try.f48 (cAt (bodyOf Try.f48) [1, 1, 1, 1, 0, 1, 0, 0]) (kAt Try.prog C.G (EV C) (C.hint 48) Try.f48 (bodyOf Try.f48) [1, 1, 1, 1, 0, 1, 0] [] (endK Try.prog (C.hint 48) Try.f48 n))
    ⟨pat 36 [(6, t6), (25, t25), (26, t26), (27, t27)], H, E⟩
theorem Concat_api_Entry_J3_of {r : R3} {n : Nat} {t0 t3 t9 t10 t11 : AV} {H : List AObj} {E : List Nat} (hh : (
  (binA .lss (Go.TypeDesc.int Go.IntKind.i64) (cmpT Try.prog) false t11 t10).bind fun a1 =>
  condK a1
    ((ixA 1 t9 t11 H).bind fun a2 =>
    (loadA false 1 a2 H).bind fun a3 =>
    (lenV a3 H).bind fun a4 =>
    (binA .add (Go.TypeDesc.int Go.IntKind.i64) (cmpT Try.prog) false t3 a4).bind fun a5 =>
    (binA .lss (Go.TypeDesc.int Go.IntKind.i64) (cmpT Try.prog) true a5 (.int .i64 0)).bind fun a6 =>
    condK a6
      (none)
      ((binA .add (Go.TypeDesc.int Go.IntKind.i64) (cmpT Try.prog) true t11 (.int .i64 1)).bind fun a7 =>
      Concat_api_Entry_J3 n t0 a5 t9 t10 a7 H E))
    (callK (EV C) true n_Grow_api_Entry [.nils, t3] H fun a8 H8 E8 =>
    (lenV t0 H8).bind fun a9 =>
    Concat_api_Entry_J11 n a8 t0 a9 (.int .i64 0) H8 (E8 ++ E))) = some r) : Concat_api_Entry_J3 n t0 t3 t9 t10 t11 H E = some r :=
  loop_step' (by kernel_rfl) hh
theorem Concat_api_Entry_J11_of {r : R3} {n : Nat} {t6 t25 t26 t27 : AV} {H : List AObj} {E : List Nat} (hh : (
  (binA .lss (Go.TypeDesc.int Go.IntKind.i64) (cmpT Try.prog) false t27 t26).bind fun a1 =>
  condK a1
    ((ixA 1 t25 t27 H).bind fun a2 =>
    (loadA false 1 a2 H).bind fun a3 =>
    appK 3 40 t6 a3 H fun a4 H4 E4 =>
    (binA .add (Go.TypeDesc.int Go.IntKind.i64) (cmpT Try.prog) true t27 (.int .i64 1)).bind fun a5 =>
    Concat_api_Entry_J11 n a4 t25 t26 a5 H4 ((E4 ++ []) ++ E))
    (endB false false n t6 H E)) = some r) : Concat_api_Entry_J11 n t6 t25 t26 t27 H E = some r :=
  loop_step' (by kernel_rfl) hh
theorem Concat_api_Entry_of {r : R3} {x0 : AV} {H : List AObj} (hh : (fun n => (
  (lenV x0 H).bind fun a1 =>
  Concat_api_Entry_J3 n x0 (.int .i64 0) x0 a1 (.int .i64 0) H [])) (List.length H) = some r) : EV C n_Concat_api_Entry [x0] H = some r :=
  EV_of_fnK' (fn := Try.f48) (by kernel_rfl) (by kernel_rfl) (by kernel_rfl) hh
/-! ### 49 heartwood/heartwoodref17.May -/
noncomputable def ref17_May_J4 (n : Nat) (t0 t3 : AV) (H : List AObj) (E : List Nat) : Option R3 :=
  loopK Try.prog C.G (EV C) (C.hint 49) Try.f49 (cAt (bodyOf Try.f49) [1, 1, 0, 1, 0, 0]) (kAt Try.prog C.G (EV C) (C.hint 49) Try.f49 (bodyOf Try.f49) [1, 1, 0, 1, 0] [] (endK Try.prog (C.hint 49) Try.f49 n))
    ⟨pat 46 [(0, t0), (3, t3)], H, E⟩
theorem ref17_May_J4_of {r : R3} {n : Nat} {t0 t3 : AV} {H : List AObj} {E : List Nat} (hh : (
  (lenV t0 H).bind fun a1 =>
  (binA .lss (Go.TypeDesc.int Go.IntKind.i64) (cmpT Try.prog) false t3 a1).bind fun a2 =>
  condK a2
    ((ixA 1 t0 t3 H).bind fun a3 =>
    (loadA false 1 a3 H).bind fun a4 =>
    (binA .lss (Go.TypeDesc.int Go.IntKind.i64) (cmpT Try.prog) true a4 (.int .i64 1)).bind fun a5 =>
    splitK a5
      (endB false false n (.bool false) H E)
      ((ixA 1 t0 t3 H).bind fun a6 =>
      (loadA false 1 a6 H).bind fun a7 =>
      (binA .gtr (Go.TypeDesc.int Go.IntKind.i64) (cmpT Try.prog) true a7 (.int .i64 7)).bind fun a8 =>
      splitK a8
        (endB false false n (.bool false) H E)
        ((binA .gtr (Go.TypeDesc.int Go.IntKind.i64) (cmpT Try.prog) true t3 (.int .i64 0)).bind fun a9 =>
        splitK a9
          ((binA .sub (Go.TypeDesc.int Go.IntKind.i64) (cmpT Try.prog) true t3 (.int .i64 1)).bind fun a10 =>
          (ixA 1 t0 a10 H).bind fun a11 =>
          (loadA false 1 a11 H).bind fun a12 =>
          (ixA 1 t0 t3 H).bind fun a13 =>
          (loadA false 1 a13 H).bind fun a14 =>
          (binA .geq (Go.TypeDesc.int Go.IntKind.i64) (cmpT Try.prog) false a12 a14).bind fun a15 =>
          condK a15
            (endB false false n (.bool false) H E)
            ((binA .add (Go.TypeDesc.int Go.IntKind.i64) (cmpT Try.prog) true t3 (.int .i64 1)).bind fun a16 =>
            ref17_May_J4 n t0 a16 H E))
          ((binA .add (Go.TypeDesc.int Go.IntKind.i64) (cmpT Try.prog) true t3 (.int .i64 1)).bind fun a17 =>
          ref17_May_J4 n t0 a17 H E))))
    (endB false false n (.bool true) H E)) = some r) : ref17_May_J4 n t0 t3 H E = some r :=
  loop_step' (by kernel_rfl) hh
theorem ref17_May_of {r : R3} {x0 : AV} {H : List AObj} (hh : (fun n => (
  (lenV x0 H).bind fun a1 =>
  (binA .lss (Go.TypeDesc.int Go.IntKind.i64) (cmpT Try.prog) true a1 (.int .i64 1)).bind fun a2 =>
  splitK a2
    (endB false false n (.bool false) H [])
    ((lenV x0 H).bind fun a3 =>
    (binA .gtr (Go.TypeDesc.int Go.IntKind.i64) (cmpT Try.prog) true a3 (.int .i64 7)).bind fun a4 =>
    condK a4
      (endB false false n (.bool false) H [])
      (ref17_May_J4 n x0 (.int .i64 0) H [])))) (List.length H) = some r) : EV C n_ref17_May [x0] H = some r :=
  EV_of_fnK' (fn := Try.f49) (by kernel_rfl) (by kernel_rfl) (by kernel_rfl) hh
/-! ### 50 heartwood/heartwoodref17.Of -/
noncomputable def ref17_Of_J5 (n : Nat) (t0 t4 t5 : AV) (H : List AObj) (E : List Nat) : Option R3 :=
  loopK Try.prog C.G (EV C) (C.hint 50) Try.f50 (cAt (bodyOf Try.f50) [1, 1, 1, 0, 1, 0, 0]) (kAt Try.prog C.G (EV C) (C.hint 50) Try.f50 (bodyOf Try.f50) [1, 1, 1, 0, 1, 0] [] (endK Try.prog (C.hint 50) Try.f50 n))
    ⟨pat 29 [(0, t0), (4, t4), (5, t5)], H, E⟩
theorem ref17_Of_J5_of {r : R3} {n : Nat} {t0 t4 t5 : AV} {H : List AObj} {E : List Nat} (hh : (
  (lenV t0 H).bind fun a1 =>
  (binA .lss (Go.TypeDesc.int Go.IntKind.i64) (cmpT Try.prog) false t5 a1).bind fun a2 =>
  condK a2
    ((ixA 1 t0 t5 H).bind fun a3 =>
    (loadA false 1 a3 H).bind fun a4 =>
    (cvI .i64 a4).bind fun a5 =>
    litK 1 1 (.int .i64 0) [(0, a5)] H fun a6 H6 E6 =>
    appK 1 8 t4 a6 H6 fun a7 H7 E7 =>
    (binA .add (Go.TypeDesc.int Go.IntKind.i64) (cmpT Try.prog) true t5 (.int .i64 1)).bind fun a8 =>
    ref17_Of_J5 n t0 a7 a8 H7 ((E7 ++ (E6 ++ [])) ++ E))
    (callK (EV C) false n_ref17_May [t4] H fun a9 H9 E9 =>
    (unA .not a9).bind fun a10 =>
    condK a10
      (endB false false n (.tup [.nils, (.bool false)]) H9 (E9 ++ E))
      (endB false false n (.tup [t4, (.bool true)]) H9 (E9 ++ E)))) = some r) : ref17_Of_J5 n t0 t4 t5 H E = some r :=
  loop_step' (by kernel_rfl) hh
theorem ref17_Of_of {r : R3} {x0 : AV} {H : List AObj} (hh : (fun n => (
  (lenV x0 H).bind fun a1 =>
  (binA .gtr (Go.TypeDesc.int Go.IntKind.i64) (cmpT Try.prog) true a1 (.int .i64 7)).bind fun a2 =>
  condK a2
    (endB false false n (.tup [.nils, (.bool false)]) H [])
    (ref17_Of_J5 n x0 (.slc (List.length H) 0 0 0) (.int .i64 0) (H ++ [.vrow]) []))) (List.length H) = some r) : EV C n_ref17_Of [x0] H = some r :=
  EV_of_fnK' (fn := Try.f50) (by kernel_rfl) (by kernel_rfl) (by kernel_rfl) hh
/-! ### 51 heartwood/log.count -/
theorem log_count_of {r : R3} {x0 : AV} {H : List AObj} (hh : (fun n => (
  (binA .geq (Go.TypeDesc.int Go.IntKind.i64) (cmpT Try.prog) true x0 (.int .i64 0)).bind fun a1 =>
  splitK a1
    ((binA .leq (Go.TypeDesc.int Go.IntKind.i64) (cmpT Try.prog) true x0 (.int .i64 1152921504606846976)).bind fun a2 =>
    endB false false n a2 H [])
    (endB false false n (.bool false) H []))) (List.length H) = some r) : EV C n_log_count [x0] H = some r :=
  EV_of_fnK' (fn := Try.f51) (by kernel_rfl) (by kernel_rfl) (by kernel_rfl) hh
/-! ### 52 heartwood/conf.May -/
noncomputable def conf_May_J2 (n : Nat) (t0 t5 t6 t7 : AV) (H : List AObj) (E : List Nat) : Option R3 :=
  loopK Try.prog C.G (EV C) (C.hint 52) Try.f52 (cAt (bodyOf Try.f52) [1, 0, 1, 0, 0]) (kAt Try.prog C.G (EV C) (C.hint 52) Try.f52 (bodyOf Try.f52) [1, 0, 1, 0] [] (endK Try.prog (C.hint 52) Try.f52 n))
    ⟨pat 35 [(0, t0), (5, t5), (6, t6), (7, t7)], H, E⟩
theorem conf_May_J2_of {r : R3} {n : Nat} {t0 t5 t6 t7 : AV} {H : List AObj} {E : List Nat} (hh : (
  (binA .lss (Go.TypeDesc.int Go.IntKind.i64) (cmpT Try.prog) false t7 t6).bind fun a1 =>
  condK a1
    ((ixA 1 t5 t7 H).bind fun a2 =>
    (loadA false 1 a2 H).bind fun a3 =>
    (binA .lss (Go.TypeDesc.int Go.IntKind.i64) (cmpT Try.prog) true a3 (.int .i64 1)).bind fun a4 =>
    splitK a4
      (endB false false n (.bool false) H E)
      ((binA .gtr (Go.TypeDesc.int Go.IntKind.i64) (cmpT Try.prog) true a3 (.int .i64 7)).bind fun a5 =>
      splitK a5
        (endB false false n (.bool false) H E)
        ((binA .gtr (Go.TypeDesc.int Go.IntKind.i64) (cmpT Try.prog) true t7 (.int .i64 0)).bind fun a6 =>
        splitK a6
          ((binA .sub (Go.TypeDesc.int Go.IntKind.i64) (cmpT Try.prog) true t7 (.int .i64 1)).bind fun a7 =>
          (ixA 1 t0 a7 H).bind fun a8 =>
          (loadA false 1 a8 H).bind fun a9 =>
          (binA .leq (Go.TypeDesc.int Go.IntKind.i64) (cmpT Try.prog) false a3 a9).bind fun a10 =>
          condK a10
            (endB false false n (.bool false) H E)
            ((binA .add (Go.TypeDesc.int Go.IntKind.i64) (cmpT Try.prog) true t7 (.int .i64 1)).bind fun a11 =>
            conf_May_J2 n t0 t5 t6 a11 H E))
          ((binA .add (Go.TypeDesc.int Go.IntKind.i64) (cmpT Try.prog) true t7 (.int .i64 1)).bind fun a12 =>
          conf_May_J2 n t0 t5 t6 a12 H E))))
    ((lenV t0 H).bind fun a13 =>
    (binA .gtr (Go.TypeDesc.int Go.IntKind.i64) (cmpT Try.prog) true a13 (.int .i64 0)).bind fun a14 =>
    endB false false n a14 H E)) = some r) : conf_May_J2 n t0 t5 t6 t7 H E = some r :=
  loop_step' (by kernel_rfl) hh
theorem conf_May_of {r : R3} {x0 : AV} {H : List AObj} (hh : (fun n => (
  (lenV x0 H).bind fun a1 =>
  conf_May_J2 n x0 x0 a1 (.int .i64 0) H [])) (List.length H) = some r) : EV C n_conf_May [x0] H = some r :=
  EV_of_fnK' (fn := Try.f52) (by kernel_rfl) (by kernel_rfl) (by kernel_rfl) hh
/-! ### 53 heartwood/log.entry -/
theorem log_entry_of {r : R3} {x0 x1 : AV} {H : List AObj} (hh : (fun n => (
  newK x0 H fun a1 H1 E1 =>
  (offA a1 0).bind fun a2 =>
  (loadA false 1 a2 H1).bind fun a3 =>
  (maxA [x1, (.int .i64 1)]).bind fun a4 =>
  (binA .lss (Go.TypeDesc.int Go.IntKind.i64) (cmpT Try.prog) false a3 a4).bind fun a5 =>
  splitK a5
    (endB false false n (.bool false) H1 (E1 ++ []))
    ((offA a1 0).bind fun a6 =>
    (loadA false 1 a6 H1).bind fun a7 =>
    callK (EV C) false n_log_count [a7] H1 fun a8 H8 E8 =>
    (unA .not a8).bind fun a9 =>
    splitK a9
      (endB false false n (.bool false) H8 (E8 ++ (E1 ++ [])))
      ((offA a1 1).bind fun a10 =>
      (loadA false 1 a10 H8).bind fun a11 =>
      (binA .lss (Go.TypeDesc.int Go.IntKind.i64) (cmpT Try.prog) true a11 (.int .i64 0)).bind fun a12 =>
      splitK a12
        (endB false false n (.bool false) H8 (E8 ++ (E1 ++ [])))
        ((offA a1 1).bind fun a13 =>
        (loadA false 1 a13 H8).bind fun a14 =>
        (binA .gtr (Go.TypeDesc.int Go.IntKind.i64) (cmpT Try.prog) true a14 (.int .i64 2)).bind fun a15 =>
        condK a15
          (endB false false n (.bool false) H8 (E8 ++ (E1 ++ [])))
          ((offA a1 1).bind fun a16 =>
          (loadA false 1 a16 H8).bind fun a17 =>
          (binA .neq (Go.TypeDesc.int Go.IntKind.i64) (cmpT Try.prog) true a17 (.int .i64 2)).bind fun a18 =>
          condK a18
            (endB false false n (.bool true) H8 (E8 ++ (E1 ++ [])))
            ((offA a1 2).bind fun a19 =>
            (loadA false 1 a19 H8).bind fun a20 =>
            callK (EV C) false n_conf_Of [a20] H8 fun a21 H21 E21 =>
            (extA a21 0).bind fun a22 =>
            (extA a21 1).bind fun a23 =>
            (binA .eql (Go.TypeDesc.interface #[("Error", 88)]) (cmpT Try.prog) true a23 .nili).bind fun a24 =>
            endB false false n a24 H21 (E21 ++ (E8 ++ (E1 ++ [])))))))))) (List.length H) = some r) : EV C n_log_entry [x0, x1] H = some r :=
  EV_of_fnK' (fn := Try.f53) (by kernel_rfl) (by kernel_rfl) (by kernel_rfl) hh
/-! ### 54 slices.Clone[[]heartwood/api.Entry,heartwood/api.Entry] -/
theorem Clone_api_Entry_of {r : R3} {x0 : AV} {H : List AObj} (hh : (fun n => (
  (binA .eql (Go.TypeDesc.slice 57) (cmpT Try.prog) true x0 .nils).bind fun a1 =>
  condK a1
    (endB false false n .nils H [])
    (rawK 3 0 (.agg [(.int .i64 0), (.int .i64 0), .nils]) [] H fun a2 H2 E2 =>
    appK 3 40 a2 x0 H2 fun a3 H3 E3 =>
    endB false false n a3 H3 (E3 ++ (E2 ++ []))))) (List.length H) = some r) : EV C0 n_Clone_api_Entry [x0] H = some r :=
  EV_of_fnK' (fn := Try.f54) (by kernel_rfl) (by kernel_rfl) (by kernel_rfl) hh
/-! ### 55 heartwood/conf.Of -/
noncomputable def conf_Of_J3 (n : Nat) (t4 t7 t8 t9 : AV) (H : List AObj) (E : List Nat) : Option R3 :=
  loopK Try.prog C.G (EV C) (C.hint 55) Try.f55 (cAt (bodyOf Try.f55) [1, 1, 0, 1, 0, 0]) (kAt Try.prog C.G (EV C) (C.hint 55) Try.f55 (bodyOf Try.f55) [1, 1, 0, 1, 0] [] (endK Try.prog (C.hint 55) Try.f55 n))
    ⟨pat 24 [(4, t4), (7, t7), (8, t8), (9, t9)], H, E⟩
theorem conf_Of_J3_of {r : R3} {n : Nat} {t4 t7 t8 t9 : AV} {H : List AObj} {E : List Nat} (hh : (
  (binA .lss (Go.TypeDesc.int Go.IntKind.i64) (cmpT Try.prog) false t9 t8).bind fun a1 =>
  condK a1
    ((ixA 1 t7 t9 H).bind fun a2 =>
    (loadA false 1 a2 H).bind fun a3 =>
    (cvI .i64 a3).bind fun a4 =>
    litK 1 1 (.int .i64 0) [(0, a4)] H fun a5 H5 E5 =>
    appK 1 8 t4 a5 H5 fun a6 H6 E6 =>
    (binA .add (Go.TypeDesc.int Go.IntKind.i64) (cmpT Try.prog) true t9 (.int .i64 1)).bind fun a7 =>
    conf_Of_J3 n a6 t7 t8 a7 H6 ((E6 ++ (E5 ++ [])) ++ E))
    (callK (EV C) false n_conf_May [t4] H fun a8 H8 E8 =>
    (unA .not a8).bind fun a9 =>
    condK a9
      (endB false false n (.tup [.nils, (.ifc t_api_Code (.int .i64 3))]) H8 (E8 ++ E))
      (endB false false n (.tup [t4, .nili]) H8 (E8 ++ E)))) = some r) : conf_Of_J3 n t4 t7 t8 t9 H E = some r :=
  loop_step' (by kernel_rfl) hh
theorem conf_Of_of {r : R3} {x0 : AV} {H : List AObj} (hh : (fun n => (
  (lenV x0 (H ++ [.vrow])).bind fun a1 =>
  conf_Of_J3 n (.slc (List.length H) 0 0 0) x0 a1 (.int .i64 0) (H ++ [.vrow]) [])) (List.length H) = some r) : EV C n_conf_Of [x0] H = some r :=
  EV_of_fnK' (fn := Try.f55) (by kernel_rfl) (by kernel_rfl) (by kernel_rfl) hh
/-! ### 56 slices.Clone[[]int,int] -/
theorem Clone_int_of {r : R3} {x0 : AV} {H : List AObj} (hh : (fun n => (
  (binA .eql (Go.TypeDesc.slice 3) (cmpT Try.prog) true x0 .nils).bind fun a1 =>
  condK a1
    (endB false false n .nils H [])
    (rawK 1 0 (.int .i64 0) [] H fun a2 H2 E2 =>
    appK 1 8 a2 x0 H2 fun a3 H3 E3 =>
    endB false false n a3 H3 (E3 ++ (E2 ++ []))))) (List.length H) = some r) : EV C0 n_Clone_int [x0] H = some r :=
  EV_of_fnK' (fn := Try.f56) (by kernel_rfl) (by kernel_rfl) (by kernel_rfl) hh
/-! ### 58 heartwood/log.has -/
theorem log_has_of {r : R3} {x0 x1 : AV} {H : List AObj} (hh : (fun n => (
  newK x0 H fun a1 H1 E1 =>
  (offA a1 0).bind fun a2 =>
  (offA a2 0).bind fun a3 =>
  (loadA false 1 a3 H1).bind fun a4 =>
  (binA .geq (Go.TypeDesc.int Go.IntKind.i64) (cmpT Try.prog) false x1 a4).bind fun a5 =>
  splitK a5
    ((loadA true 4 a1 H1).bind fun a6 =>
    callK (EV C) false n_log_last [a6] H1 fun a7 H7 E7 =>
    (binA .leq (Go.TypeDesc.int Go.IntKind.i64) (cmpT Try.prog) false x1 a7).bind fun a8 =>
    endB false false n a8 H7 (E7 ++ (E1 ++ [])))
    (endB false false n (.bool false) H1 (E1 ++ [])))) (List.length H) = some r) : EV C n_log_has [x0, x1] H = some r :=
  EV_of_fnK' (fn := Try.f58) (by kernel_rfl) (by kernel_rfl) (by kernel_rfl) hh
/-! ### 59 slices.Grow[[]heartwood/api.Entry,heartwood/api.Entry] -/
theorem Grow_api_Entry_of {r : R3} {x0 x1 : AV} {H : List AObj} (hh : (fun n => (
  (binA .lss (Go.TypeDesc.int Go.IntKind.i64) (cmpT Try.prog) true x1 (.int .i64 0)).bind fun a1 =>
  condK a1
    (none)
    ((capA x0).bind fun a2 =>
    (lenV x0 H).bind fun a3 =>
    (binA .sub (Go.TypeDesc.int Go.IntKind.i64) (cmpT Try.prog) false a2 a3).bind fun a4 =>
    (binA .sub (Go.TypeDesc.int Go.IntKind.i64) (cmpT Try.prog) false x1 a4).bind fun a5 =>
    (binA .gtr (Go.TypeDesc.int Go.IntKind.i64) (cmpT Try.prog) true a5 (.int .i64 0)).bind fun a6 =>
    condK a6
      ((capA x0).bind fun a7 =>
      (cutA 3 x0 none (some a7) none H).bind fun a8 =>
      zapK 3 40 (.agg [(.int .i64 0), (.int .i64 0), .nils]) a8 a5 H fun a9 H9 E9 =>
      (lenV x0 H9).bind fun a10 =>
      (cutA 3 a9 none (some a10) none H9).bind fun a11 =>
      trmK a11 H9 [] fun a12 H12 E12 =>
      endB true true n a12 H12 (E12 ++ (E9 ++ [])))
      (endB true true n x0 H [])))) (List.length H) = some r) : EV C n_Grow_api_Entry [x0, x1] H = some r :=
  EV_of_fnK' (fn := Try.f59) (by kernel_rfl) (by kernel_rfl) (by kernel_rfl) hh
end Go.Pm
