/- A part of the proof: what the functions of the program answer, as plain lists and numbers. -/
import Derived.Test.YtaoklfecdcakbaaP9
namespace Go.Pm
open Go.Proofs
set_option linter.unusedVariables false
set_option maxRecDepth 100000
noncomputable def command_own_J3 (n : Nat) (t0 t3 t4 : AV) (H : List AObj) (E : List Nat) : Option R3 :=
  loopK Try.prog C.G (EV C) (C.hint 51) Try.f51 (cAt (bodyOf Try.f51) [1, 1, 0, 1, 0, 0]) (kAt Try.prog C.G (EV C) (C.hint 51) Try.f51 (bodyOf Try.f51) [1, 1, 0, 1, 0] [] (endK Try.prog (C.hint 51) Try.f51 n))
    ⟨pat 18 [(0, t0), (3, t3), (4, t4)], H, E⟩
theorem command_own_J3_of {r : R3} {n : Nat} {t0 t3 t4 : AV} {H : List AObj} {E : List Nat} (hh : (
  (binA .geq (Go.TypeDesc.int Go.IntKind.i64) (cmpT Try.prog) true t4 (.int .i64 0)).bind fun a1 =>
  condK a1
    ((binA .shr (Go.TypeDesc.int Go.IntKind.u64) (cmpT Try.prog) false t0 t4).bind fun a2 =>
    (cvI .u8 a2).bind fun a3 =>
    litK 1 1 (.int .u8 0) [(0, a3)] H fun a4 H4 E4 =>
    appK 1 1 t3 a4 H4 fun a5 H5 E5 =>
    (binA .sub (Go.TypeDesc.int Go.IntKind.i64) (cmpT Try.prog) true t4 (.int .i64 8)).bind fun a6 =>
    command_own_J3 n t0 a5 a6 H5 ((E5 ++ (E4 ++ [])) ++ E))
    (endB false false n t3 H E)) = some r) : command_own_J3 n t0 t3 t4 H E = some r :=
  loop_step' (by kernel_rfl) hh
theorem command_own_of {r : R3} {x0 : AV} {H : List AObj} (hh : (fun n => (
  rawK 1 1 (.int .u8 0) [(0, (.int .u8 115))] H fun a1 H1 E1 =>
  command_own_J3 n x0 a1 (.int .i64 56) H1 (E1 ++ []))) (List.length H) = some r) : EV C n_command_own [x0] H = some r :=
  EV_of_fnK' (fn := Try.f51) (by kernel_rfl) (by kernel_rfl) (by kernel_rfl) hh
theorem command_Key_of {r : R3} {x0 : AV} {H : List AObj} (hh : (fun n => (
  rawK 1 1 (.int .u8 0) [(0, (.int .u8 117))] H fun a1 H1 E1 =>
  appK 1 1 a1 x0 H1 fun a2 H2 E2 =>
  endB false false n a2 H2 (E2 ++ (E1 ++ [])))) (List.length H) = some r) : EV C n_command_Key [x0] H = some r :=
  EV_of_fnK' (fn := Try.f24) (by kernel_rfl) (by kernel_rfl) (by kernel_rfl) hh
theorem command_last_of {r : R3} {x0 x1 : AV} {H : List AObj} (hh : (fun n => (
  newK x0 H fun a1 H1 E1 =>
  (loadA true 5 a1 H1).bind fun a2 =>
  (callD (EV C) n_command_own [x1] H1).bind fun a3 =>
  (callD (EV C) n_avl_Get [a2, a3] H1).bind fun a4 =>
  (extA a4 0).bind fun a5 =>
  (extA a4 1).bind fun a6 =>
  (extA a4 2).bind fun a7 =>
  (binA .neq (Go.TypeDesc.interface #[("Error", 118)]) (cmpT Try.prog) true a7 .nili).bind fun a8 =>
  splitK a8
    (endB false false n (.tup [(.int .u64 0), (.int .i64 0), (.bool false)]) H1 (E1 ++ []))
    ((unA .not a6).bind fun a9 =>
    condK a9
      (endB false false n (.tup [(.int .u64 0), (.int .i64 0), (.bool false)]) H1 (E1 ++ []))
      (callK (EV C) true n_coder_NewReader [a5] H1 fun a10 H10 E10 =>
      callK (EV C) false n_coder_Reader_Number [a10] H10 fun a11 H11 E11 =>
      callK (EV C) false n_coder_Reader_Byte [a10] H11 fun a12 H12 E12 =>
      (cvI .i64 a12).bind fun a13 =>
      callK (EV C) false n_coder_Reader_End [a10] H12 fun a14 H14 E14 =>
      (binA .eql (Go.TypeDesc.interface #[("Error", 118)]) (cmpT Try.prog) true a14 .nili).bind fun a15 =>
      splitK a15
        ((binA .geq (Go.TypeDesc.int Go.IntKind.i64) (cmpT Try.prog) true a13 (.int .i64 1)).bind fun a16 =>
        splitK a16
          ((binA .leq (Go.TypeDesc.int Go.IntKind.i64) (cmpT Try.prog) true a13 (.int .i64 4)).bind fun a17 =>
          endB false false n (.tup [a11, a13, a17]) H14 (E14 ++ (E12 ++ (E11 ++ (E10 ++ (E1 ++ []))))))
          (endB false false n (.tup [a11, a13, (.bool false)]) H14 (E14 ++ (E12 ++ (E11 ++ (E10 ++ (E1 ++ [])))))))
        (endB false false n (.tup [a11, a13, (.bool false)]) H14 (E14 ++ (E12 ++ (E11 ++ (E10 ++ (E1 ++ [])))))))))) (List.length H) = some r) : EV C n_command_last [x0, x1] H = some r :=
  EV_of_fnK' (fn := Try.f48) (by kernel_rfl) (by kernel_rfl) (by kernel_rfl) hh
theorem command_change_of {r : R3} {x0 x1 : AV} {H : List AObj} (hh : (fun n => (
  newK x0 H fun a1 H1 E1 =>
  newK x1 H1 fun a2 H2 E2 =>
  newK (.agg [(.int .i64 0), .nils, .nils, .nils, .nils]) H2 fun a3 H3 E3 =>
  (offA a2 3).bind fun a4 =>
  (loadA false 1 a4 H3).bind fun a5 =>
  callK (EV C) false n_command_Key [a5] H3 fun a6 H6 E6 =>
  (offA a2 2).bind fun a7 =>
  (loadA false 1 a7 H6).bind fun a8 =>
  (binA .eql (Go.TypeDesc.int Go.IntKind.i64) (cmpT Try.prog) true a8 (.int .i64 2)).bind fun a9 =>
  condK a9
    ((loadA true 5 a1 H6).bind fun a10 =>
    callK (EV C) false n_avl_Delete [a10, a6] H6 fun a11 H11 E11 =>
    (extA a11 0).bind fun a12 =>
    (extA a11 1).bind fun a13 =>
    (extA a11 2).bind fun a14 =>
    newK (.agg [(.int .i64 0), .nils, .nils, .nils, .nils]) H11 fun a15 H15 E15 =>
    stoK 5 a15 a12 H15 fun H16 E16 =>
    condK a13
      ((loadA true 5 a15 H16).bind fun a17 =>
      stoK 5 a3 a17 H16 fun H18 E18 =>
      (loadA true 5 a3 H18).bind fun a19 =>
      endB false false n (.tup [a19, (.int .i64 3), a14]) H18 (E18 ++ (E16 ++ (E15 ++ (E11 ++ (E6 ++ (E3 ++ (E2 ++ (E1 ++ [])))))))))
      ((loadA true 5 a15 H16).bind fun a20 =>
      stoK 5 a3 a20 H16 fun H21 E21 =>
      (loadA true 5 a3 H21).bind fun a22 =>
      endB false false n (.tup [a22, (.int .i64 4), a14]) H21 (E21 ++ (E16 ++ (E15 ++ (E11 ++ (E6 ++ (E3 ++ (E2 ++ (E1 ++ []))))))))))
    ((loadA true 5 a1 H6).bind fun a23 =>
    callK (EV C) false n_avl_Get [a23, a6] H6 fun a24 H24 E24 =>
    (extA a24 0).bind fun a25 =>
    (extA a24 1).bind fun a26 =>
    (extA a24 2).bind fun a27 =>
    (binA .neq (Go.TypeDesc.interface #[("Error", 118)]) (cmpT Try.prog) true a27 .nili).bind fun a28 =>
    condK a28
      ((fillB (AV.cells (.agg [(.int .i64 0), .nils, .nils, .nils, .nils])) []).bind fun c29 =>
      stoK 5 a3 (.agg c29) H24 fun H30 E30 =>
      (loadA true 5 a3 H30).bind fun a31 =>
      endB false false n (.tup [a31, (.int .i64 0), a27]) H30 (E30 ++ (E24 ++ (E6 ++ (E3 ++ (E2 ++ (E1 ++ [])))))))
      ((loadA true 5 a1 H24).bind fun a32 =>
      (offA a2 4).bind fun a33 =>
      (loadA false 1 a33 H24).bind fun a34 =>
      callK (EV C) false n_avl_Put [a32, a6, a34] H24 fun a35 H35 E35 =>
      (extA a35 0).bind fun a36 =>
      (extA a35 1).bind fun a37 =>
      newK (.agg [(.int .i64 0), .nils, .nils, .nils, .nils]) H35 fun a38 H38 E38 =>
      stoK 5 a38 a36 H38 fun H39 E39 =>
      condK a26
        ((loadA true 5 a38 H39).bind fun a40 =>
        stoK 5 a3 a40 H39 fun H41 E41 =>
        (loadA true 5 a3 H41).bind fun a42 =>
        endB false false n (.tup [a42, (.int .i64 2), a37]) H41 (E41 ++ (E39 ++ (E38 ++ (E35 ++ (E24 ++ (E6 ++ (E3 ++ (E2 ++ (E1 ++ []))))))))))
        ((loadA true 5 a38 H39).bind fun a43 =>
        stoK 5 a3 a43 H39 fun H44 E44 =>
        (loadA true 5 a3 H44).bind fun a45 =>
        endB false false n (.tup [a45, (.int .i64 1), a37]) H44 (E44 ++ (E39 ++ (E38 ++ (E35 ++ (E24 ++ (E6 ++ (E3 ++ (E2 ++ (E1 ++ [])))))))))))))) (List.length H) = some r) : EV C n_command_change [x0, x1] H = some r :=
  EV_of_fnK' (fn := Try.f49) (by kernel_rfl) (by kernel_rfl) (by kernel_rfl) hh
noncomputable def command_Apply_S11 (n : Nat) (t2 t4 t7 : AV) (H : List AObj) (E : List Nat) : Option R3 :=
  runK Try.prog C.G (EV C) (C.hint 19) Try.f19 (cAt (bodyOf Try.f19) [1, 1, 1, 1, 1, 1]) ⟨pat 85 [(2, t2), (4, t4), (7, t7)], H, E⟩
    (kAt Try.prog C.G (EV C) (C.hint 19) Try.f19 (bodyOf Try.f19) [1, 1, 1, 1, 1, 1] [] (endK Try.prog (C.hint 19) Try.f19 n))
theorem command_Apply_S11_of {r : R3} {n : Nat} {t2 t4 t7 : AV} {H : List AObj} {E : List Nat} (hh : (
  (loadA true 5 t2 H).bind fun a1 =>
  (loadA true 5 t7 H).bind fun a2 =>
  callK (EV C) false n_command_change [a1, a2] H fun a3 H3 E3 =>
  (extA a3 0).bind fun a4 =>
  (extA a3 1).bind fun a5 =>
  (extA a3 2).bind fun a6 =>
  newK (.agg [(.int .i64 0), .nils, .nils, .nils, .nils]) H3 fun a7 H7 E7 =>
  stoK 5 a7 a4 H7 fun H8 E8 =>
  (binA .neq (Go.TypeDesc.interface #[("Error", 118)]) (cmpT Try.prog) true a6 .nili).bind fun a9 =>
  condK a9
    ((fillB (AV.cells (.agg [(.int .i64 0), .nils, .nils, .nils, .nils])) []).bind fun c10 =>
    stoK 5 t4 (.agg c10) H8 fun H11 E11 =>
    (loadA true 5 t4 H11).bind fun a12 =>
    endB false false n (.tup [a12, (.int .i64 0), a6]) H11 (E11 ++ (E8 ++ (E7 ++ (E3 ++ E)))))
    ((loadA true 5 a7 H8).bind fun a13 =>
    (offA t7 0).bind fun a14 =>
    (loadA false 1 a14 H8).bind fun a15 =>
    (callD (EV C) n_command_own [a15] H8).bind fun a16 =>
    (offA t7 1).bind fun a17 =>
    (loadA false 1 a17 H8).bind fun a18 =>
    callK (EV C) true n_coder_Number_r [a18] H8 fun a19 H19 E19 =>
    drawK (((loadA true 5 a7 H19).bind fun a20 =>
    some a20) = some a13)
    ((cvI .u8 a5).bind fun a21 =>
    drawK (((cvI .u8 a5).bind fun a22 =>
    some a22) = some a21)
    ((litD 1 1 (.int .u8 0) [(0, a21)] H19).bind fun a23 =>
    drawK (((litD 1 1 (.int .u8 0) [(0, a21)] H8).bind fun a24 =>
    some a24) = some a23)
    (appK 1 1 a19 a23 H19 fun a25 H25 E25 =>
    frzK a25 H25 fun a26 H26 =>
    drawK (((loadA true 5 a7 H26).bind fun a27 =>
    some a27) = some a13)
    ((callD (EV C) n_avl_Put [a13, a16, a26] H26).bind fun a28 =>
    (extA a28 0).bind fun a29 =>
    (extA a28 1).bind fun a30 =>
    stoK 5 a7 a29 H26 fun H31 E31 =>
    (binA .neq (Go.TypeDesc.interface #[("Error", 118)]) (cmpT Try.prog) true a30 .nili).bind fun a32 =>
    condK a32
      ((fillB (AV.cells (.agg [(.int .i64 0), .nils, .nils, .nils, .nils])) []).bind fun c33 =>
      stoK 5 t4 (.agg c33) H31 fun H34 E34 =>
      (loadA true 5 t4 H34).bind fun a35 =>
      endB false false n (.tup [a35, (.int .i64 0), a30]) H34 (E34 ++ (E31 ++ (E25 ++ (E19 ++ (E8 ++ (E7 ++ (E3 ++ E))))))))
      ((loadA true 5 a7 H31).bind fun a36 =>
      stoK 5 t4 a36 H31 fun H37 E37 =>
      (loadA true 5 t4 H37).bind fun a38 =>
      endB false false n (.tup [a38, a5, .nili]) H37 (E37 ++ (E31 ++ (E25 ++ (E19 ++ (E8 ++ (E7 ++ (E3 ++ E)))))))))))))) = some r) : command_Apply_S11 n t2 t4 t7 H E = some r :=
  Eq.trans (by kernel_rfl) hh
theorem command_Apply_of {r : R3} {x0 x1 : AV} {H : List AObj} (hh : (fun n => (
  newK x0 H fun a1 H1 E1 =>
  newK (.agg [(.int .i64 0), .nils, .nils, .nils, .nils]) H1 fun a2 H2 E2 =>
  (loadA true 5 a1 H2).bind fun a3 =>
  callK (EV C) false n_avl_Is [a3] H2 fun a4 H4 E4 =>
  (unA .not a4).bind fun a5 =>
  condK a5
    ((fillB (AV.cells (.agg [(.int .i64 0), .nils, .nils, .nils, .nils])) []).bind fun c6 =>
    stoK 5 a2 (.agg c6) H4 fun H7 E7 =>
    (loadA true 5 a2 H7).bind fun a8 =>
    endB false false n (.tup [a8, (.int .i64 0), (.ifc t_api_Code (.int .i64 3))]) H7 (E7 ++ (E4 ++ (E2 ++ (E1 ++ [])))))
    (callK (EV C) false n_command_Read [x1] H4 fun a9 H9 E9 =>
    (extA a9 0).bind fun a10 =>
    (extA a9 1).bind fun a11 =>
    newK (.agg [(.int .u64 0), (.int .u64 0), (.int .i64 0), .nils, .nils]) H9 fun a12 H12 E12 =>
    stoK 5 a12 a10 H12 fun H13 E13 =>
    (binA .neq (Go.TypeDesc.interface #[("Error", 118)]) (cmpT Try.prog) true a11 .nili).bind fun a14 =>
    condK a14
      ((loadA true 5 a1 H13).bind fun a15 =>
      stoK 5 a2 a15 H13 fun H16 E16 =>
      (loadA true 5 a2 H16).bind fun a17 =>
      endB false false n (.tup [a17, (.int .i64 0), .nili]) H16 (E16 ++ (E13 ++ (E12 ++ (E9 ++ (E4 ++ (E2 ++ (E1 ++ []))))))))
      ((loadA true 5 a1 H13).bind fun a18 =>
      (offA a12 0).bind fun a19 =>
      (loadA false 1 a19 H13).bind fun a20 =>
      callK (EV C) false n_command_last [a18, a20] H13 fun a21 H21 E21 =>
      (extA a21 0).bind fun a22 =>
      (extA a21 1).bind fun a23 =>
      (extA a21 2).bind fun a24 =>
      splitK a24
        ((offA a12 1).bind fun a25 =>
        (loadA false 1 a25 H21).bind fun a26 =>
        (binA .gtr (Go.TypeDesc.int Go.IntKind.u64) (cmpT Try.prog) false a22 a26).bind fun a27 =>
        condK a27
          ((loadA true 5 a1 H21).bind fun a28 =>
          stoK 5 a2 a28 H21 fun H29 E29 =>
          (loadA true 5 a2 H29).bind fun a30 =>
          endB false false n (.tup [a30, (.int .i64 5), .nili]) H29 (E29 ++ (E21 ++ (E13 ++ (E12 ++ (E9 ++ (E4 ++ (E2 ++ (E1 ++ [])))))))))
          (splitK a24
            ((offA a12 1).bind fun a31 =>
            (loadA false 1 a31 H21).bind fun a32 =>
            (binA .eql (Go.TypeDesc.int Go.IntKind.u64) (cmpT Try.prog) false a22 a32).bind fun a33 =>
            condK a33
              ((loadA true 5 a1 H21).bind fun a34 =>
              stoK 5 a2 a34 H21 fun H35 E35 =>
              (loadA true 5 a2 H35).bind fun a36 =>
              endB false false n (.tup [a36, a23, .nili]) H35 (E35 ++ (E21 ++ (E13 ++ (E12 ++ (E9 ++ (E4 ++ (E2 ++ (E1 ++ [])))))))))
              (command_Apply_S11 n a1 a2 a12 H21 (E21 ++ (E13 ++ (E12 ++ (E9 ++ (E4 ++ (E2 ++ (E1 ++ [])))))))))
            (command_Apply_S11 n a1 a2 a12 H21 (E21 ++ (E13 ++ (E12 ++ (E9 ++ (E4 ++ (E2 ++ (E1 ++ []))))))))))
        (splitK a24
          ((offA a12 1).bind fun a37 =>
          (loadA false 1 a37 H21).bind fun a38 =>
          (binA .eql (Go.TypeDesc.int Go.IntKind.u64) (cmpT Try.prog) false a22 a38).bind fun a39 =>
          condK a39
            ((loadA true 5 a1 H21).bind fun a40 =>
            stoK 5 a2 a40 H21 fun H41 E41 =>
            (loadA true 5 a2 H41).bind fun a42 =>
            endB false false n (.tup [a42, a23, .nili]) H41 (E41 ++ (E21 ++ (E13 ++ (E12 ++ (E9 ++ (E4 ++ (E2 ++ (E1 ++ [])))))))))
            (command_Apply_S11 n a1 a2 a12 H21 (E21 ++ (E13 ++ (E12 ++ (E9 ++ (E4 ++ (E2 ++ (E1 ++ [])))))))))
          (command_Apply_S11 n a1 a2 a12 H21 (E21 ++ (E13 ++ (E12 ++ (E9 ++ (E4 ++ (E2 ++ (E1 ++ []))))))))))))) (List.length H) = some r) : EV C n_command_Apply [x0, x1] H = some r :=
  EV_of_fnK' (fn := Try.f19) (by kernel_rfl) (by kernel_rfl) (by kernel_rfl) hh
theorem command_Look_of {r : R3} {x0 x1 : AV} {H : List AObj} (hh : (fun n => (
  newK x0 H fun a1 H1 E1 =>
  (lenV x1 H1).bind fun a2 =>
  (binA .gtr (Go.TypeDesc.int Go.IntKind.i64) (cmpT Try.prog) true a2 (.int .i64 64)).bind fun a3 =>
  condK a3
    ((loadA true 5 a1 H1).bind fun a4 =>
    callK (EV C) false n_avl_Is [a4] H1 fun a5 H5 E5 =>
    (unA .not a5).bind fun a6 =>
    condK a6
      (endB false false n (.tup [.nils, (.bool false), (.ifc t_api_Code (.int .i64 3))]) H5 (E5 ++ (E1 ++ [])))
      (endB false false n (.tup [.nils, (.bool false), .nili]) H5 (E5 ++ (E1 ++ []))))
    ((loadA true 5 a1 H1).bind fun a7 =>
    (callD (EV C) n_command_Key [x1] H1).bind fun a8 =>
    (callD (EV C) n_avl_Get [a7, a8] H1).bind fun a9 =>
    (extA a9 0).bind fun a10 =>
    (extA a9 1).bind fun a11 =>
    (extA a9 2).bind fun a12 =>
    endB false false n (.tup [a10, a11, a12]) H1 (E1 ++ [])))) (List.length H) = some r) : EV C n_command_Look [x0, x1] H = some r :=
  EV_of_fnK' (fn := Try.f23) (by kernel_rfl) (by kernel_rfl) (by kernel_rfl) hh
end Go.Pm
