/- A part of the proof: what the functions of the program answer, as plain lists and numbers. -/
import Derived.Test.YtaoklfecdcakbaaP9
namespace Go.Pm
open Go.Proofs
set_option linter.unusedVariables false
set_option maxRecDepth 100000
noncomputable def command_own_J3 (n : Nat) (t0 t3 t4 : AV) (H : List AObj) (E : List Nat) : Option R3 :=
  loopK Try.prog C.G (EV C) (C.hint 51) Try.f51 (cAt (bodyOf Try.f51) [1, 1, 0, 1, 0, 0]) (kAt Try.prog C.G (EV C) (C.hint 51) Try.f51 (bodyOf Try.f51) [1, 1, 0, 1, 0] [] (endK Try.prog (C.hint 51) Try.f51 n))
    ⟨pat 18 [(0, t0), (3, t3), (4, t4)], H, E⟩
theorem command_own_J3_of {r : R3} {n : Nat} {t0 t3 t4 : AV} {H : List AObj} {E : List Nat} (hh : (
  (binA .geq (Go.TypeDesc.int Go.IntKind.i64) (cmpT Try.prog) true t4 (.int .i64 0)).bind fun a1 =>
  condK a1
    ((binA .shr (Go.TypeDesc.int Go.IntKind.u64) (cmpT Try.prog) false t0 t4).bind fun a2 =>
    (cvI .u8 a2).bind fun a3 =>
    litK 1 1 (.int .u8 0) [(0, a3)] H fun a4 H4 E4 =>
    appK 1 1 t3 a4 H4 fun a5 H5 E5 =>
    (binA .sub (Go.TypeDesc.int Go.IntKind.i64) (cmpT Try.prog) true t4 (.int .i64 8)).bind fun a6 =>
    command_own_J3 n t0 a5 a6 H5 ((E5 ++ (E4 ++ [])) ++ E))
    (endB false false n t3 H E)) = some r) : command_own_J3 n t0 t3 t4 H E = some r :=
  loop_step' (by kernel_rfl) hh
theorem command_own_of {r : R3} {x0 : AV} {H : List AObj} (hh : (fun n => (
  rawK 1 1 (.int .u8 0) [(0, (.int .u8 115))] H fun a1 H1 E1 =>
  command_own_J3 n x0 a1 (.int .i64 56) H1 (E1 ++ []))) (List.length H) = some r) : EV C n_command_own [x0] H = some r :=
  EV_of_fnK' (fn := Try.f51) (by kernel_rfl) (by kernel_rfl) (by kernel_rfl) hh
noncomputable def ref12_Own_J4 (n : Nat) (t0 t3 t4 : AV) (H : List AObj) (E : List Nat) : Option R3 :=
  loopK Try.prog C.G (EV C) (C.hint 58) Try.f58 (cAt (bodyOf Try.f58) [1, 1, 1, 0, 1, 0, 0]) (kAt Try.prog C.G (EV C) (C.hint 58) Try.f58 (bodyOf Try.f58) [1, 1, 1, 0, 1, 0] [] (endK Try.prog (C.hint 58) Try.f58 n))
    ⟨pat 21 [(0, t0), (3, t3), (4, t4)], H, E⟩
theorem ref12_Own_J4_of {r : R3} {n : Nat} {t0 t3 t4 : AV} {H : List AObj} {E : List Nat} (hh : (
  (binA .gtr (Go.TypeDesc.int Go.IntKind.i64) (cmpT Try.prog) true t4 (.int .i64 0)).bind fun a1 =>
  condK a1
    ((binA .rem (Go.TypeDesc.int Go.IntKind.u64) (cmpT Try.prog) true t0 (.int .u64 256)).bind fun a2 =>
    (cvI .u8 a2).bind fun a3 =>
    (ixA 1 t3 t4 H).bind fun a4 =>
    stoK 1 a4 a3 H fun H5 E5 =>
    (binA .quo (Go.TypeDesc.int Go.IntKind.u64) (cmpT Try.prog) true t0 (.int .u64 256)).bind fun a6 =>
    (binA .sub (Go.TypeDesc.int Go.IntKind.i64) (cmpT Try.prog) true t4 (.int .i64 1)).bind fun a7 =>
    ref12_Own_J4 n a6 t3 a7 H5 ((E5 ++ []) ++ E))
    (endB false false n t3 H E)) = some r) : ref12_Own_J4 n t0 t3 t4 H E = some r :=
  loop_step' (by kernel_rfl) hh
theorem ref12_Own_of {r : R3} {x0 : AV} {H : List AObj} (hh : (fun n => (
  mkK 1 1 (.int .u8 0) (.int .i64 9) (.int .i64 9) H fun a1 H1 E1 =>
  (ixA 1 a1 (.int .i64 0) H1).bind fun a2 =>
  stoK 1 a2 (.int .u8 115) H1 fun H3 E3 =>
  ref12_Own_J4 n x0 a1 (.int .i64 8) H3 (E3 ++ (E1 ++ [])))) (List.length H) = some r) : EV C n_ref12_Own [x0] H = some r :=
  EV_of_fnK' (fn := Try.f58) (by kernel_rfl) (by kernel_rfl) (by kernel_rfl) hh
theorem command_Key_of {r : R3} {x0 : AV} {H : List AObj} (hh : (fun n => (
  rawK 1 1 (.int .u8 0) [(0, (.int .u8 117))] H fun a1 H1 E1 =>
  appK 1 1 a1 x0 H1 fun a2 H2 E2 =>
  endB false false n a2 H2 (E2 ++ (E1 ++ [])))) (List.length H) = some r) : EV C n_command_Key [x0] H = some r :=
  EV_of_fnK' (fn := Try.f24) (by kernel_rfl) (by kernel_rfl) (by kernel_rfl) hh
theorem ref12_Key_of {r : R3} {x0 : AV} {H : List AObj} (hh : (fun n => (
  rawK 1 1 (.int .u8 0) [(0, (.int .u8 117))] H fun a1 H1 E1 =>
  appK 1 1 a1 x0 H1 fun a2 H2 E2 =>
  endB false false n a2 H2 (E2 ++ (E1 ++ [])))) (List.length H) = some r) : EV C n_ref12_Key [x0] H = some r :=
  EV_of_fnK' (fn := Try.f25) (by kernel_rfl) (by kernel_rfl) (by kernel_rfl) hh
theorem command_last_of {r : R3} {x0 x1 : AV} {H : List AObj} (hh : (fun n => (
  newK x0 H fun a1 H1 E1 =>
  (loadA true 5 a1 H1).bind fun a2 =>
  (callD (EV C) n_command_own [x1] H1).bind fun a3 =>
  (callD (EV C) n_avl_Get [a2, a3] H1).bind fun a4 =>
  (extA a4 0).bind fun a5 =>
  (extA a4 1).bind fun a6 =>
  (extA a4 2).bind fun a7 =>
  (binA .neq (Go.TypeDesc.interface #[("Error", 118)]) (cmpT Try.prog) true a7 .nili).bind fun a8 =>
  splitK a8
    (endB false false n (.tup [(.int .u64 0), (.int .i64 0), (.bool false)]) H1 (E1 ++ []))
    ((unA .not a6).bind fun a9 =>
    condK a9
      (endB false false n (.tup [(.int .u64 0), (.int .i64 0), (.bool false)]) H1 (E1 ++ []))
      (callK (EV C) true n_coder_NewReader [a5] H1 fun a10 H10 E10 =>
      callK (EV C) false n_coder_Reader_Number [a10] H10 fun a11 H11 E11 =>
      callK (EV C) false n_coder_Reader_Byte [a10] H11 fun a12 H12 E12 =>
      (cvI .i64 a12).bind fun a13 =>
      callK (EV C) false n_coder_Reader_End [a10] H12 fun a14 H14 E14 =>
      (binA .eql (Go.TypeDesc.interface #[("Error", 118)]) (cmpT Try.prog) true a14 .nili).bind fun a15 =>
      splitK a15
        ((binA .geq (Go.TypeDesc.int Go.IntKind.i64) (cmpT Try.prog) true a13 (.int .i64 1)).bind fun a16 =>
        splitK a16
          ((binA .leq (Go.TypeDesc.int Go.IntKind.i64) (cmpT Try.prog) true a13 (.int .i64 4)).bind fun a17 =>
          endB false false n (.tup [a11, a13, a17]) H14 (E14 ++ (E12 ++ (E11 ++ (E10 ++ (E1 ++ []))))))
          (endB false false n (.tup [a11, a13, (.bool false)]) H14 (E14 ++ (E12 ++ (E11 ++ (E10 ++ (E1 ++ [])))))))
        (endB false false n (.tup [a11, a13, (.bool false)]) H14 (E14 ++ (E12 ++ (E11 ++ (E10 ++ (E1 ++ [])))))))))) (List.length H) = some r) : EV C n_command_last [x0, x1] H = some r :=
  EV_of_fnK' (fn := Try.f48) (by kernel_rfl) (by kernel_rfl) (by kernel_rfl) hh
theorem command_change_of {r : R3} {x0 x1 : AV} {H : List AObj} (hh : (fun n => (
  newK x0 H fun a1 H1 E1 =>
  newK x1 H1 fun a2 H2 E2 =>
  newK (.agg [(.int .i64 0), .nils, .nils, .nils, .nils]) H2 fun a3 H3 E3 =>
  (offA a2 3).bind fun a4 =>
  (loadA false 1 a4 H3).bind fun a5 =>
  callK (EV C) false n_command_Key [a5] H3 fun a6 H6 E6 =>
  (offA a2 2).bind fun a7 =>
  (loadA false 1 a7 H6).bind fun a8 =>
  (binA .eql (Go.TypeDesc.int Go.IntKind.i64) (cmpT Try.prog) true a8 (.int .i64 2)).bind fun a9 =>
  condK a9
    ((loadA true 5 a1 H6).bind fun a10 =>
    callK (EV C) false n_avl_Delete [a10, a6] H6 fun a11 H11 E11 =>
    (extA a11 0).bind fun a12 =>
    (extA a11 1).bind fun a13 =>
    (extA a11 2).bind fun a14 =>
    newK (.agg [(.int .i64 0), .nils, .nils, .nils, .nils]) H11 fun a15 H15 E15 =>
    stoK 5 a15 a12 H15 fun H16 E16 =>
    condK a13
      ((loadA true 5 a15 H16).bind fun a17 =>
      stoK 5 a3 a17 H16 fun H18 E18 =>
      (loadA true 5 a3 H18).bind fun a19 =>
      endB false false n (.tup [a19, (.int .i64 3), a14]) H18 (E18 ++ (E16 ++ (E15 ++ (E11 ++ (E6 ++ (E3 ++ (E2 ++ (E1 ++ [])))))))))
      ((loadA true 5 a15 H16).bind fun a20 =>
      stoK 5 a3 a20 H16 fun H21 E21 =>
      (loadA true 5 a3 H21).bind fun a22 =>
      endB false false n (.tup [a22, (.int .i64 4), a14]) H21 (E21 ++ (E16 ++ (E15 ++ (E11 ++ (E6 ++ (E3 ++ (E2 ++ (E1 ++ []))))))))))
    ((loadA true 5 a1 H6).bind fun a23 =>
    callK (EV C) false n_avl_Get [a23, a6] H6 fun a24 H24 E24 =>
    (extA a24 0).bind fun a25 =>
    (extA a24 1).bind fun a26 =>
    (extA a24 2).bind fun a27 =>
    (binA .neq (Go.TypeDesc.interface #[("Error", 118)]) (cmpT Try.prog) true a27 .nili).bind fun a28 =>
    condK a28
      ((fillB (AV.cells (.agg [(.int .i64 0), .nils, .nils, .nils, .nils])) []).bind fun c29 =>
      stoK 5 a3 (.agg c29) H24 fun H30 E30 =>
      (loadA true 5 a3 H30).bind fun a31 =>
      endB false false n (.tup [a31, (.int .i64 0), a27]) H30 (E30 ++ (E24 ++ (E6 ++ (E3 ++ (E2 ++ (E1 ++ [])))))))
      ((loadA true 5 a1 H24).bind fun a32 =>
      (offA a2 4).bind fun a33 =>
      (loadA false 1 a33 H24).bind fun a34 =>
      callK (EV C) false n_avl_Put [a32, a6, a34] H24 fun a35 H35 E35 =>
      (extA a35 0).bind fun a36 =>
      (extA a35 1).bind fun a37 =>
      newK (.agg [(.int .i64 0), .nils, .nils, .nils, .nils]) H35 fun a38 H38 E38 =>
      stoK 5 a38 a36 H38 fun H39 E39 =>
      condK a26
        ((loadA true 5 a38 H39).bind fun a40 =>
        stoK 5 a3 a40 H39 fun H41 E41 =>
        (loadA true 5 a3 H41).bind fun a42 =>
        endB false false n (.tup [a42, (.int .i64 2), a37]) H41 (E41 ++ (E39 ++ (E38 ++ (E35 ++ (E24 ++ (E6 ++ (E3 ++ (E2 ++ (E1 ++ []))))))))))
        ((loadA true 5 a38 H39).bind fun a43 =>
        stoK 5 a3 a43 H39 fun H44 E44 =>
        (loadA true 5 a3 H44).bind fun a45 =>
        endB false false n (.tup [a45, (.int .i64 1), a37]) H44 (E44 ++ (E39 ++ (E38 ++ (E35 ++ (E24 ++ (E6 ++ (E3 ++ (E2 ++ (E1 ++ [])))))))))))))) (List.length H) = some r) : EV C n_command_change [x0, x1] H = some r :=
  EV_of_fnK' (fn := Try.f49) (by kernel_rfl) (by kernel_rfl) (by kernel_rfl) hh
noncomputable def command_Apply_S11 (n : Nat) (t2 t4 t7 : AV) (H : List AObj) (E : List Nat) : Option R3 :=
  runK Try.prog C.G (EV C) (C.hint 19) Try.f19 (cAt (bodyOf Try.f19) [1, 1, 1, 1, 1, 1]) ⟨pat 85 [(2, t2), (4, t4), (7, t7)], H, E⟩
    (kAt Try.prog C.G (EV C) (C.hint 19) Try.f19 (bodyOf Try.f19) [1, 1, 1, 1, 1, 1] [] (endK Try.prog (C.hint 19) Try.f19 n))
theorem command_Apply_S11_of {r : R3} {n : Nat} {t2 t4 t7 : AV} {H : List AObj} {E : List Nat} (hh : (
  (loadA true 5 t2 H).bind fun a1 =>
  (loadA true 5 t7 H).bind fun a2 =>
  callK (EV C) false n_command_change [a1, a2] H fun a3 H3 E3 =>
  (extA a3 0).bind fun a4 =>
  (extA a3 1).bind fun a5 =>
  (extA a3 2).bind fun a6 =>
  newK (.agg [(.int .i64 0), .nils, .nils, .nils, .nils]) H3 fun a7 H7 E7 =>
  stoK 5 a7 a4 H7 fun H8 E8 =>
  (binA .neq (Go.TypeDesc.interface #[("Error", 118)]) (cmpT Try.prog) true a6 .nili).bind fun a9 =>
  condK a9
    ((fillB (AV.cells (.agg [(.int .i64 0), .nils, .nils, .nils, .nils])) []).bind fun c10 =>
    stoK 5 t4 (.agg c10) H8 fun H11 E11 =>
    (loadA true 5 t4 H11).bind fun a12 =>
    endB false false n (.tup [a12, (.int .i64 0), a6]) H11 (E11 ++ (E8 ++ (E7 ++ (E3 ++ E)))))
    ((loadA true 5 a7 H8).bind fun a13 =>
    (offA t7 0).bind fun a14 =>
    (loadA false 1 a14 H8).bind fun a15 =>
    (callD (EV C) n_command_own [a15] H8).bind fun a16 =>
    (offA t7 1).bind fun a17 =>
    (loadA false 1 a17 H8).bind fun a18 =>
    callK (EV C) true n_coder_Number_r [a18] H8 fun a19 H19 E19 =>
    drawK (((loadA true 5 a7 H19).bind fun a20 =>
    some a20) = some a13)
    ((cvI .u8 a5).bind fun a21 =>
    drawK (((cvI .u8 a5).bind fun a22 =>
    some a22) = some a21)
    ((litD 1 1 (.int .u8 0) [(0, a21)] H19).bind fun a23 =>
    drawK (((litD 1 1 (.int .u8 0) [(0, a21)] H8).bind fun a24 =>
    some a24) = some a23)
    (appK 1 1 a19 a23 H19 fun a25 H25 E25 =>
    frzK a25 H25 fun a26 H26 =>
    drawK (((loadA true 5 a7 H26).bind fun a27 =>
    some a27) = some a13)
    ((callD (EV C) n_avl_Put [a13, a16, a26] H26).bind fun a28 =>
    (extA a28 0).bind fun a29 =>
    (extA a28 1).bind fun a30 =>
    stoK 5 a7 a29 H26 fun H31 E31 =>
    (binA .neq (Go.TypeDesc.interface #[("Error", 118)]) (cmpT Try.prog) true a30 .nili).bind fun a32 =>
    condK a32
      ((fillB (AV.cells (.agg [(.int .i64 0), .nils, .nils, .nils, .nils])) []).bind fun c33 =>
      stoK 5 t4 (.agg c33) H31 fun H34 E34 =>
      (loadA true 5 t4 H34).bind fun a35 =>
      endB false false n (.tup [a35, (.int .i64 0), a30]) H34 (E34 ++ (E31 ++ (E25 ++ (E19 ++ (E8 ++ (E7 ++ (E3 ++ E))))))))
      ((loadA true 5 a7 H31).bind fun a36 =>
      stoK 5 t4 a36 H31 fun H37 E37 =>
      (loadA true 5 t4 H37).bind fun a38 =>
      endB false false n (.tup [a38, a5, .nili]) H37 (E37 ++ (E31 ++ (E25 ++ (E19 ++ (E8 ++ (E7 ++ (E3 ++ E)))))))))))))) = some r) : command_Apply_S11 n t2 t4 t7 H E = some r :=
  Eq.trans (by kernel_rfl) hh
theorem command_Apply_of {r : R3} {x0 x1 : AV} {H : List AObj} (hh : (fun n => (
  newK x0 H fun a1 H1 E1 =>
  newK (.agg [(.int .i64 0), .nils, .nils, .nils, .nils]) H1 fun a2 H2 E2 =>
  (loadA true 5 a1 H2).bind fun a3 =>
  callK (EV C) false n_avl_Is [a3] H2 fun a4 H4 E4 =>
  (unA .not a4).bind fun a5 =>
  condK a5
    ((fillB (AV.cells (.agg [(.int .i64 0), .nils, .nils, .nils, .nils])) []).bind fun c6 =>
    stoK 5 a2 (.agg c6) H4 fun H7 E7 =>
    (loadA true 5 a2 H7).bind fun a8 =>
    endB false false n (.tup [a8, (.int .i64 0), (.ifc t_api_Code (.int .i64 3))]) H7 (E7 ++ (E4 ++ (E2 ++ (E1 ++ [])))))
    (callK (EV C) false n_command_Read [x1] H4 fun a9 H9 E9 =>
    (extA a9 0).bind fun a10 =>
    (extA a9 1).bind fun a11 =>
    newK (.agg [(.int .u64 0), (.int .u64 0), (.int .i64 0), .nils, .nils]) H9 fun a12 H12 E12 =>
    stoK 5 a12 a10 H12 fun H13 E13 =>
    (binA .neq (Go.TypeDesc.interface #[("Error", 118)]) (cmpT Try.prog) true a11 .nili).bind fun a14 =>
    condK a14
      ((loadA true 5 a1 H13).bind fun a15 =>
      stoK 5 a2 a15 H13 fun H16 E16 =>
      (loadA true 5 a2 H16).bind fun a17 =>
      endB false false n (.tup [a17, (.int .i64 0), .nili]) H16 (E16 ++ (E13 ++ (E12 ++ (E9 ++ (E4 ++ (E2 ++ (E1 ++ []))))))))
      ((loadA true 5 a1 H13).bind fun a18 =>
      (offA a12 0).bind fun a19 =>
      (loadA false 1 a19 H13).bind fun a20 =>
      callK (EV C) false n_command_last [a18, a20] H13 fun a21 H21 E21 =>
      (extA a21 0).bind fun a22 =>
      (extA a21 1).bind fun a23 =>
      (extA a21 2).bind fun a24 =>
      splitK a24
        ((offA a12 1).bind fun a25 =>
        (loadA false 1 a25 H21).bind fun a26 =>
        (binA .gtr (Go.TypeDesc.int Go.IntKind.u64) (cmpT Try.prog) false a22 a26).bind fun a27 =>
        condK a27
          ((loadA true 5 a1 H21).bind fun a28 =>
          stoK 5 a2 a28 H21 fun H29 E29 =>
          (loadA true 5 a2 H29).bind fun a30 =>
          endB false false n (.tup [a30, (.int .i64 5), .nili]) H29 (E29 ++ (E21 ++ (E13 ++ (E12 ++ (E9 ++ (E4 ++ (E2 ++ (E1 ++ [])))))))))
          (splitK a24
            ((offA a12 1).bind fun a31 =>
            (loadA false 1 a31 H21).bind fun a32 =>
            (binA .eql (Go.TypeDesc.int Go.IntKind.u64) (cmpT Try.prog) false a22 a32).bind fun a33 =>
            condK a33
              ((loadA true 5 a1 H21).bind fun a34 =>
              stoK 5 a2 a34 H21 fun H35 E35 =>
              (loadA true 5 a2 H35).bind fun a36 =>
              endB false false n (.tup [a36, a23, .nili]) H35 (E35 ++ (E21 ++ (E13 ++ (E12 ++ (E9 ++ (E4 ++ (E2 ++ (E1 ++ [])))))))))
              (command_Apply_S11 n a1 a2 a12 H21 (E21 ++ (E13 ++ (E12 ++ (E9 ++ (E4 ++ (E2 ++ (E1 ++ [])))))))))
            (command_Apply_S11 n a1 a2 a12 H21 (E21 ++ (E13 ++ (E12 ++ (E9 ++ (E4 ++ (E2 ++ (E1 ++ []))))))))))
        (splitK a24
          ((offA a12 1).bind fun a37 =>
          (loadA false 1 a37 H21).bind fun a38 =>
          (binA .eql (Go.TypeDesc.int Go.IntKind.u64) (cmpT Try.prog) false a22 a38).bind fun a39 =>
          condK a39
            ((loadA true 5 a1 H21).bind fun a40 =>
            stoK 5 a2 a40 H21 fun H41 E41 =>
            (loadA true 5 a2 H41).bind fun a42 =>
            endB false false n (.tup [a42, a23, .nili]) H41 (E41 ++ (E21 ++ (E13 ++ (E12 ++ (E9 ++ (E4 ++ (E2 ++ (E1 ++ [])))))))))
            (command_Apply_S11 n a1 a2 a12 H21 (E21 ++ (E13 ++ (E12 ++ (E9 ++ (E4 ++ (E2 ++ (E1 ++ [])))))))))
          (command_Apply_S11 n a1 a2 a12 H21 (E21 ++ (E13 ++ (E12 ++ (E9 ++ (E4 ++ (E2 ++ (E1 ++ []))))))))))))) (List.length H) = some r) : EV C n_command_Apply [x0, x1] H = some r :=
  EV_of_fnK' (fn := Try.f19) (by kernel_rfl) (by kernel_rfl) (by kernel_rfl) hh
theorem command_Look_of {r : R3} {x0 x1 : AV} {H : List AObj} (hh : (fun n => (
  newK x0 H fun a1 H1 E1 =>
  (lenV x1 H1).bind fun a2 =>
  (binA .gtr (Go.TypeDesc.int Go.IntKind.i64) (cmpT Try.prog) true a2 (.int .i64 64)).bind fun a3 =>
  condK a3
    ((loadA true 5 a1 H1).bind fun a4 =>
    callK (EV C) false n_avl_Is [a4] H1 fun a5 H5 E5 =>
    (unA .not a5).bind fun a6 =>
    condK a6
      (endB false false n (.tup [.nils, (.bool false), (.ifc t_api_Code (.int .i64 3))]) H5 (E5 ++ (E1 ++ [])))
      (endB false false n (.tup [.nils, (.bool false), .nili]) H5 (E5 ++ (E1 ++ []))))
    ((loadA true 5 a1 H1).bind fun a7 =>
    (callD (EV C) n_command_Key [x1] H1).bind fun a8 =>
    (callD (EV C) n_avl_Get [a7, a8] H1).bind fun a9 =>
    (extA a9 0).bind fun a10 =>
    (extA a9 1).bind fun a11 =>
    (extA a9 2).bind fun a12 =>
    endB false false n (.tup [a10, a11, a12]) H1 (E1 ++ [])))) (List.length H) = some r) : EV C n_command_Look [x0, x1] H = some r :=
  EV_of_fnK' (fn := Try.f23) (by kernel_rfl) (by kernel_rfl) (by kernel_rfl) hh
theorem ref12_Session_of {r : R3} {x0 x1 : AV} {H : List AObj} (hh : (fun n => (
  newK x0 H fun a1 H1 E1 =>
  (loadA true 5 a1 H1).bind fun a2 =>
  (callD (EV C) n_ref12_Own [x1] H1).bind fun a3 =>
  (callD (EV C) n_ref05_Get [a2, a3] H1).bind fun a4 =>
  (extA a4 0).bind fun a5 =>
  (extA a4 1).bind fun a6 =>
  (unA .not a6).bind fun a7 =>
  condK a7
    (endB false false n (.tup [(.int .u64 0), (.int .i64 0), (.bool false)]) H1 (E1 ++ []))
    ((fillB (AV.cells (.agg [.nils, (.int .i64 0), (.bool false)])) [(0, 1, a5)]).bind fun c8 =>
    newK (.agg c8) H1 fun a9 H9 E9 =>
    callK (EV C) false n_ref02_Reader_Number [a9] H9 fun a10 H10 E10 =>
    callK (EV C) false n_ref02_Reader_Byte [a9] H10 fun a11 H11 E11 =>
    (cvI .i64 a11).bind fun a12 =>
    callK (EV C) false n_ref02_Reader_End [a9] H11 fun a13 H13 E13 =>
    (binA .eql (Go.TypeDesc.int Go.IntKind.i64) (cmpT Try.prog) true a13 (.int .i64 0)).bind fun a14 =>
    splitK a14
      ((binA .geq (Go.TypeDesc.int Go.IntKind.i64) (cmpT Try.prog) true a12 (.int .i64 1)).bind fun a15 =>
      splitK a15
        ((binA .leq (Go.TypeDesc.int Go.IntKind.i64) (cmpT Try.prog) true a12 (.int .i64 4)).bind fun a16 =>
        endB false false n (.tup [a10, a12, a16]) H13 (E13 ++ (E11 ++ (E10 ++ (E9 ++ (E1 ++ []))))))
        (endB false false n (.tup [a10, a12, (.bool false)]) H13 (E13 ++ (E11 ++ (E10 ++ (E9 ++ (E1 ++ [])))))))
      (endB false false n (.tup [a10, a12, (.bool false)]) H13 (E13 ++ (E11 ++ (E10 ++ (E9 ++ (E1 ++ []))))))))) (List.length H) = some r) : EV C n_ref12_Session [x0, x1] H = some r :=
  EV_of_fnK' (fn := Try.f29) (by kernel_rfl) (by kernel_rfl) (by kernel_rfl) hh
theorem ref12_Apply_of {r : R3} {x0 x1 : AV} {H : List AObj} (hh : (fun n => (
  newK x0 H fun a1 H1 E1 =>
  newK (.agg [(.int .i64 0), .nils, .nils, .nils, .nils]) H1 fun a2 H2 E2 =>
  callK (EV C) false n_ref12_Read [x1] H2 fun a3 H3 E3 =>
  (extA a3 0).bind fun a4 =>
  (extA a3 1).bind fun a5 =>
  newK (.agg [(.int .u64 0), (.int .u64 0), (.int .i64 0), .nils, .nils]) H3 fun a6 H6 E6 =>
  stoK 5 a6 a4 H6 fun H7 E7 =>
  (binA .neq (Go.TypeDesc.int Go.IntKind.i64) (cmpT Try.prog) true a5 (.int .i64 0)).bind fun a8 =>
  condK a8
    ((loadA true 5 a1 H7).bind fun a9 =>
    stoK 5 a2 a9 H7 fun H10 E10 =>
    (loadA true 5 a2 H10).bind fun a11 =>
    endB false false n (.tup [a11, (.int .i64 0)]) H10 (E10 ++ (E7 ++ (E6 ++ (E3 ++ (E2 ++ (E1 ++ [])))))))
    ((loadA true 5 a1 H7).bind fun a12 =>
    (offA a6 0).bind fun a13 =>
    (loadA false 1 a13 H7).bind fun a14 =>
    callK (EV C) false n_ref12_Session [a12, a14] H7 fun a15 H15 E15 =>
    (extA a15 0).bind fun a16 =>
    (extA a15 1).bind fun a17 =>
    (extA a15 2).bind fun a18 =>
    splitK a18
      ((offA a6 1).bind fun a19 =>
      (loadA false 1 a19 H15).bind fun a20 =>
      (binA .gtr (Go.TypeDesc.int Go.IntKind.u64) (cmpT Try.prog) false a16 a20).bind fun a21 =>
      condK a21
        ((loadA true 5 a1 H15).bind fun a22 =>
        stoK 5 a2 a22 H15 fun H23 E23 =>
        (loadA true 5 a2 H23).bind fun a24 =>
        endB false false n (.tup [a24, (.int .i64 5)]) H23 (E23 ++ (E15 ++ (E7 ++ (E6 ++ (E3 ++ (E2 ++ (E1 ++ []))))))))
        (splitK a18
          ((offA a6 1).bind fun a25 =>
          (loadA false 1 a25 H15).bind fun a26 =>
          (binA .eql (Go.TypeDesc.int Go.IntKind.u64) (cmpT Try.prog) false a16 a26).bind fun a27 =>
          condK a27
            ((loadA true 5 a1 H15).bind fun a28 =>
            stoK 5 a2 a28 H15 fun H29 E29 =>
            (loadA true 5 a2 H29).bind fun a30 =>
            endB false false n (.tup [a30, a17]) H29 (E29 ++ (E15 ++ (E7 ++ (E6 ++ (E3 ++ (E2 ++ (E1 ++ []))))))))
            ((loadA true 5 a1 H15).bind fun a31 =>
            (offA a6 3).bind fun a32 =>
            (loadA false 1 a32 H15).bind fun a33 =>
            (callD (EV C) n_ref12_Key [a33] H15).bind fun a34 =>
            (callD (EV C) n_ref05_Get [a31, a34] H15).bind fun a35 =>
            (extA a35 0).bind fun a36 =>
            (extA a35 1).bind fun a37 =>
            (offA a6 2).bind fun a38 =>
            (loadA false 1 a38 H15).bind fun a39 =>
            (binA .eql (Go.TypeDesc.int Go.IntKind.i64) (cmpT Try.prog) true a39 (.int .i64 1)).bind fun a40 =>
            condK a40
              (condK a37
                ((loadA true 5 a1 H15).bind fun a41 =>
                (offA a6 3).bind fun a42 =>
                (loadA false 1 a42 H15).bind fun a43 =>
                (callD (EV C) n_ref12_Key [a43] H15).bind fun a44 =>
                (offA a6 4).bind fun a45 =>
                (loadA false 1 a45 H15).bind fun a46 =>
                (callD (EV C) n_ref05_Put [a41, a44, a46] H15).bind fun a47 =>
                stoK 5 a1 a47 H15 fun H48 E48 =>
                (loadA true 5 a1 H48).bind fun a49 =>
                (offA a6 0).bind fun a50 =>
                (loadA false 1 a50 H48).bind fun a51 =>
                (callD (EV C) n_ref12_Own [a51] H48).bind fun a52 =>
                (offA a6 1).bind fun a53 =>
                (loadA false 1 a53 H48).bind fun a54 =>
                callK (EV C) true n_ref02_Number_r [a54] H48 fun a55 H55 E55 =>
                drawK (((loadA true 5 a1 H55).bind fun a56 =>
                some a56) = some a49)
                ((cvI .u8 (.int .i64 2)).bind fun a57 =>
                drawK (((cvI .u8 (.int .i64 2)).bind fun a58 =>
                some a58) = some a57)
                ((litD 1 1 (.int .u8 0) [(0, a57)] H55).bind fun a59 =>
                drawK (((litD 1 1 (.int .u8 0) [(0, a57)] H48).bind fun a60 =>
                some a60) = some a59)
                (appK 1 1 a55 a59 H55 fun a61 H61 E61 =>
                frzK a61 H61 fun a62 H62 =>
                drawK (((loadA true 5 a1 H62).bind fun a63 =>
                some a63) = some a49)
                ((callD (EV C) n_ref05_Put [a49, a52, a62] H62).bind fun a64 =>
                stoK 5 a2 a64 H62 fun H65 E65 =>
                (loadA true 5 a2 H65).bind fun a66 =>
                endB false false n (.tup [a66, (.int .i64 2)]) H65 (E65 ++ (E61 ++ (E55 ++ (E48 ++ (E15 ++ (E7 ++ (E6 ++ (E3 ++ (E2 ++ (E1 ++ [])))))))))))))))
                ((loadA true 5 a1 H15).bind fun a67 =>
                (offA a6 3).bind fun a68 =>
                (loadA false 1 a68 H15).bind fun a69 =>
                (callD (EV C) n_ref12_Key [a69] H15).bind fun a70 =>
                (offA a6 4).bind fun a71 =>
                (loadA false 1 a71 H15).bind fun a72 =>
                (callD (EV C) n_ref05_Put [a67, a70, a72] H15).bind fun a73 =>
                stoK 5 a1 a73 H15 fun H74 E74 =>
                (loadA true 5 a1 H74).bind fun a75 =>
                (offA a6 0).bind fun a76 =>
                (loadA false 1 a76 H74).bind fun a77 =>
                (callD (EV C) n_ref12_Own [a77] H74).bind fun a78 =>
                (offA a6 1).bind fun a79 =>
                (loadA false 1 a79 H74).bind fun a80 =>
                callK (EV C) true n_ref02_Number_r [a80] H74 fun a81 H81 E81 =>
                drawK (((loadA true 5 a1 H81).bind fun a82 =>
                some a82) = some a75)
                ((cvI .u8 (.int .i64 1)).bind fun a83 =>
                drawK (((cvI .u8 (.int .i64 1)).bind fun a84 =>
                some a84) = some a83)
                ((litD 1 1 (.int .u8 0) [(0, a83)] H81).bind fun a85 =>
                drawK (((litD 1 1 (.int .u8 0) [(0, a83)] H74).bind fun a86 =>
                some a86) = some a85)
                (appK 1 1 a81 a85 H81 fun a87 H87 E87 =>
                frzK a87 H87 fun a88 H88 =>
                drawK (((loadA true 5 a1 H88).bind fun a89 =>
                some a89) = some a75)
                ((callD (EV C) n_ref05_Put [a75, a78, a88] H88).bind fun a90 =>
                stoK 5 a2 a90 H88 fun H91 E91 =>
                (loadA true 5 a2 H91).bind fun a92 =>
                endB false false n (.tup [a92, (.int .i64 1)]) H91 (E91 ++ (E87 ++ (E81 ++ (E74 ++ (E15 ++ (E7 ++ (E6 ++ (E3 ++ (E2 ++ (E1 ++ []))))))))))))))))
              (condK a37
                ((loadA true 5 a1 H15).bind fun a93 =>
                (offA a6 3).bind fun a94 =>
                (loadA false 1 a94 H15).bind fun a95 =>
                (callD (EV C) n_ref12_Key [a95] H15).bind fun a96 =>
                (callD (EV C) n_ref05_Delete [a93, a96] H15).bind fun a97 =>
                stoK 5 a1 a97 H15 fun H98 E98 =>
                (loadA true 5 a1 H98).bind fun a99 =>
                (offA a6 0).bind fun a100 =>
                (loadA false 1 a100 H98).bind fun a101 =>
                (callD (EV C) n_ref12_Own [a101] H98).bind fun a102 =>
                (offA a6 1).bind fun a103 =>
                (loadA false 1 a103 H98).bind fun a104 =>
                callK (EV C) true n_ref02_Number_r [a104] H98 fun a105 H105 E105 =>
                drawK (((loadA true 5 a1 H105).bind fun a106 =>
                some a106) = some a99)
                ((cvI .u8 (.int .i64 3)).bind fun a107 =>
                drawK (((cvI .u8 (.int .i64 3)).bind fun a108 =>
                some a108) = some a107)
                ((litD 1 1 (.int .u8 0) [(0, a107)] H105).bind fun a109 =>
                drawK (((litD 1 1 (.int .u8 0) [(0, a107)] H98).bind fun a110 =>
                some a110) = some a109)
                (appK 1 1 a105 a109 H105 fun a111 H111 E111 =>
                frzK a111 H111 fun a112 H112 =>
                drawK (((loadA true 5 a1 H112).bind fun a113 =>
                some a113) = some a99)
                ((callD (EV C) n_ref05_Put [a99, a102, a112] H112).bind fun a114 =>
                stoK 5 a2 a114 H112 fun H115 E115 =>
                (loadA true 5 a2 H115).bind fun a116 =>
                endB false false n (.tup [a116, (.int .i64 3)]) H115 (E115 ++ (E111 ++ (E105 ++ (E98 ++ (E15 ++ (E7 ++ (E6 ++ (E3 ++ (E2 ++ (E1 ++ [])))))))))))))))
                ((loadA true 5 a1 H15).bind fun a117 =>
                (offA a6 0).bind fun a118 =>
                (loadA false 1 a118 H15).bind fun a119 =>
                (callD (EV C) n_ref12_Own [a119] H15).bind fun a120 =>
                (offA a6 1).bind fun a121 =>
                (loadA false 1 a121 H15).bind fun a122 =>
                callK (EV C) true n_ref02_Number_r [a122] H15 fun a123 H123 E123 =>
                drawK (((loadA true 5 a1 H123).bind fun a124 =>
                some a124) = some a117)
                ((cvI .u8 (.int .i64 4)).bind fun a125 =>
                drawK (((cvI .u8 (.int .i64 4)).bind fun a126 =>
                some a126) = some a125)
                ((litD 1 1 (.int .u8 0) [(0, a125)] H123).bind fun a127 =>
                drawK (((litD 1 1 (.int .u8 0) [(0, a125)] H15).bind fun a128 =>
                some a128) = some a127)
                (appK 1 1 a123 a127 H123 fun a129 H129 E129 =>
                frzK a129 H129 fun a130 H130 =>
                drawK (((loadA true 5 a1 H130).bind fun a131 =>
                some a131) = some a117)
                ((callD (EV C) n_ref05_Put [a117, a120, a130] H130).bind fun a132 =>
                stoK 5 a2 a132 H130 fun H133 E133 =>
                (loadA true 5 a2 H133).bind fun a134 =>
                endB false false n (.tup [a134, (.int .i64 4)]) H133 (E133 ++ (E129 ++ (E123 ++ (E15 ++ (E7 ++ (E6 ++ (E3 ++ (E2 ++ (E1 ++ [])))))))))))))))))
          ((loadA true 5 a1 H15).bind fun a135 =>
          (offA a6 3).bind fun a136 =>
          (loadA false 1 a136 H15).bind fun a137 =>
          (callD (EV C) n_ref12_Key [a137] H15).bind fun a138 =>
          (callD (EV C) n_ref05_Get [a135, a138] H15).bind fun a139 =>
          (extA a139 0).bind fun a140 =>
          (extA a139 1).bind fun a141 =>
          (offA a6 2).bind fun a142 =>
          (loadA false 1 a142 H15).bind fun a143 =>
          (binA .eql (Go.TypeDesc.int Go.IntKind.i64) (cmpT Try.prog) true a143 (.int .i64 1)).bind fun a144 =>
          condK a144
            (condK a141
              ((loadA true 5 a1 H15).bind fun a145 =>
              (offA a6 3).bind fun a146 =>
              (loadA false 1 a146 H15).bind fun a147 =>
              (callD (EV C) n_ref12_Key [a147] H15).bind fun a148 =>
              (offA a6 4).bind fun a149 =>
              (loadA false 1 a149 H15).bind fun a150 =>
              (callD (EV C) n_ref05_Put [a145, a148, a150] H15).bind fun a151 =>
              stoK 5 a1 a151 H15 fun H152 E152 =>
              (loadA true 5 a1 H152).bind fun a153 =>
              (offA a6 0).bind fun a154 =>
              (loadA false 1 a154 H152).bind fun a155 =>
              (callD (EV C) n_ref12_Own [a155] H152).bind fun a156 =>
              (offA a6 1).bind fun a157 =>
              (loadA false 1 a157 H152).bind fun a158 =>
              callK (EV C) true n_ref02_Number_r [a158] H152 fun a159 H159 E159 =>
              drawK (((loadA true 5 a1 H159).bind fun a160 =>
              some a160) = some a153)
              ((cvI .u8 (.int .i64 2)).bind fun a161 =>
              drawK (((cvI .u8 (.int .i64 2)).bind fun a162 =>
              some a162) = some a161)
              ((litD 1 1 (.int .u8 0) [(0, a161)] H159).bind fun a163 =>
              drawK (((litD 1 1 (.int .u8 0) [(0, a161)] H152).bind fun a164 =>
              some a164) = some a163)
              (appK 1 1 a159 a163 H159 fun a165 H165 E165 =>
              frzK a165 H165 fun a166 H166 =>
              drawK (((loadA true 5 a1 H166).bind fun a167 =>
              some a167) = some a153)
              ((callD (EV C) n_ref05_Put [a153, a156, a166] H166).bind fun a168 =>
              stoK 5 a2 a168 H166 fun H169 E169 =>
              (loadA true 5 a2 H169).bind fun a170 =>
              endB false false n (.tup [a170, (.int .i64 2)]) H169 (E169 ++ (E165 ++ (E159 ++ (E152 ++ (E15 ++ (E7 ++ (E6 ++ (E3 ++ (E2 ++ (E1 ++ [])))))))))))))))
              ((loadA true 5 a1 H15).bind fun a171 =>
              (offA a6 3).bind fun a172 =>
              (loadA false 1 a172 H15).bind fun a173 =>
              (callD (EV C) n_ref12_Key [a173] H15).bind fun a174 =>
              (offA a6 4).bind fun a175 =>
              (loadA false 1 a175 H15).bind fun a176 =>
              (callD (EV C) n_ref05_Put [a171, a174, a176] H15).bind fun a177 =>
              stoK 5 a1 a177 H15 fun H178 E178 =>
              (loadA true 5 a1 H178).bind fun a179 =>
              (offA a6 0).bind fun a180 =>
              (loadA false 1 a180 H178).bind fun a181 =>
              (callD (EV C) n_ref12_Own [a181] H178).bind fun a182 =>
              (offA a6 1).bind fun a183 =>
              (loadA false 1 a183 H178).bind fun a184 =>
              callK (EV C) true n_ref02_Number_r [a184] H178 fun a185 H185 E185 =>
              drawK (((loadA true 5 a1 H185).bind fun a186 =>
              some a186) = some a179)
              ((cvI .u8 (.int .i64 1)).bind fun a187 =>
              drawK (((cvI .u8 (.int .i64 1)).bind fun a188 =>
              some a188) = some a187)
              ((litD 1 1 (.int .u8 0) [(0, a187)] H185).bind fun a189 =>
              drawK (((litD 1 1 (.int .u8 0) [(0, a187)] H178).bind fun a190 =>
              some a190) = some a189)
              (appK 1 1 a185 a189 H185 fun a191 H191 E191 =>
              frzK a191 H191 fun a192 H192 =>
              drawK (((loadA true 5 a1 H192).bind fun a193 =>
              some a193) = some a179)
              ((callD (EV C) n_ref05_Put [a179, a182, a192] H192).bind fun a194 =>
              stoK 5 a2 a194 H192 fun H195 E195 =>
              (loadA true 5 a2 H195).bind fun a196 =>
              endB false false n (.tup [a196, (.int .i64 1)]) H195 (E195 ++ (E191 ++ (E185 ++ (E178 ++ (E15 ++ (E7 ++ (E6 ++ (E3 ++ (E2 ++ (E1 ++ []))))))))))))))))
            (condK a141
              ((loadA true 5 a1 H15).bind fun a197 =>
              (offA a6 3).bind fun a198 =>
              (loadA false 1 a198 H15).bind fun a199 =>
              (callD (EV C) n_ref12_Key [a199] H15).bind fun a200 =>
              (callD (EV C) n_ref05_Delete [a197, a200] H15).bind fun a201 =>
              stoK 5 a1 a201 H15 fun H202 E202 =>
              (loadA true 5 a1 H202).bind fun a203 =>
              (offA a6 0).bind fun a204 =>
              (loadA false 1 a204 H202).bind fun a205 =>
              (callD (EV C) n_ref12_Own [a205] H202).bind fun a206 =>
              (offA a6 1).bind fun a207 =>
              (loadA false 1 a207 H202).bind fun a208 =>
              callK (EV C) true n_ref02_Number_r [a208] H202 fun a209 H209 E209 =>
              drawK (((loadA true 5 a1 H209).bind fun a210 =>
              some a210) = some a203)
              ((cvI .u8 (.int .i64 3)).bind fun a211 =>
              drawK (((cvI .u8 (.int .i64 3)).bind fun a212 =>
              some a212) = some a211)
              ((litD 1 1 (.int .u8 0) [(0, a211)] H209).bind fun a213 =>
              drawK (((litD 1 1 (.int .u8 0) [(0, a211)] H202).bind fun a214 =>
              some a214) = some a213)
              (appK 1 1 a209 a213 H209 fun a215 H215 E215 =>
              frzK a215 H215 fun a216 H216 =>
              drawK (((loadA true 5 a1 H216).bind fun a217 =>
              some a217) = some a203)
              ((callD (EV C) n_ref05_Put [a203, a206, a216] H216).bind fun a218 =>
              stoK 5 a2 a218 H216 fun H219 E219 =>
              (loadA true 5 a2 H219).bind fun a220 =>
              endB false false n (.tup [a220, (.int .i64 3)]) H219 (E219 ++ (E215 ++ (E209 ++ (E202 ++ (E15 ++ (E7 ++ (E6 ++ (E3 ++ (E2 ++ (E1 ++ [])))))))))))))))
              ((loadA true 5 a1 H15).bind fun a221 =>
              (offA a6 0).bind fun a222 =>
              (loadA false 1 a222 H15).bind fun a223 =>
              (callD (EV C) n_ref12_Own [a223] H15).bind fun a224 =>
              (offA a6 1).bind fun a225 =>
              (loadA false 1 a225 H15).bind fun a226 =>
              callK (EV C) true n_ref02_Number_r [a226] H15 fun a227 H227 E227 =>
              drawK (((loadA true 5 a1 H227).bind fun a228 =>
              some a228) = some a221)
              ((cvI .u8 (.int .i64 4)).bind fun a229 =>
              drawK (((cvI .u8 (.int .i64 4)).bind fun a230 =>
              some a230) = some a229)
              ((litD 1 1 (.int .u8 0) [(0, a229)] H227).bind fun a231 =>
              drawK (((litD 1 1 (.int .u8 0) [(0, a229)] H15).bind fun a232 =>
              some a232) = some a231)
              (appK 1 1 a227 a231 H227 fun a233 H233 E233 =>
              frzK a233 H233 fun a234 H234 =>
              drawK (((loadA true 5 a1 H234).bind fun a235 =>
              some a235) = some a221)
              ((callD (EV C) n_ref05_Put [a221, a224, a234] H234).bind fun a236 =>
              stoK 5 a2 a236 H234 fun H237 E237 =>
              (loadA true 5 a2 H237).bind fun a238 =>
              endB false false n (.tup [a238, (.int .i64 4)]) H237 (E237 ++ (E233 ++ (E227 ++ (E15 ++ (E7 ++ (E6 ++ (E3 ++ (E2 ++ (E1 ++ []))))))))))))))))))
      (splitK a18
        ((offA a6 1).bind fun a239 =>
        (loadA false 1 a239 H15).bind fun a240 =>
        (binA .eql (Go.TypeDesc.int Go.IntKind.u64) (cmpT Try.prog) false a16 a240).bind fun a241 =>
        condK a241
          ((loadA true 5 a1 H15).bind fun a242 =>
          stoK 5 a2 a242 H15 fun H243 E243 =>
          (loadA true 5 a2 H243).bind fun a244 =>
          endB false false n (.tup [a244, a17]) H243 (E243 ++ (E15 ++ (E7 ++ (E6 ++ (E3 ++ (E2 ++ (E1 ++ []))))))))
          ((loadA true 5 a1 H15).bind fun a245 =>
          (offA a6 3).bind fun a246 =>
          (loadA false 1 a246 H15).bind fun a247 =>
          (callD (EV C) n_ref12_Key [a247] H15).bind fun a248 =>
          (callD (EV C) n_ref05_Get [a245, a248] H15).bind fun a249 =>
          (extA a249 0).bind fun a250 =>
          (extA a249 1).bind fun a251 =>
          (offA a6 2).bind fun a252 =>
          (loadA false 1 a252 H15).bind fun a253 =>
          (binA .eql (Go.TypeDesc.int Go.IntKind.i64) (cmpT Try.prog) true a253 (.int .i64 1)).bind fun a254 =>
          condK a254
            (condK a251
              ((loadA true 5 a1 H15).bind fun a255 =>
              (offA a6 3).bind fun a256 =>
              (loadA false 1 a256 H15).bind fun a257 =>
              (callD (EV C) n_ref12_Key [a257] H15).bind fun a258 =>
              (offA a6 4).bind fun a259 =>
              (loadA false 1 a259 H15).bind fun a260 =>
              (callD (EV C) n_ref05_Put [a255, a258, a260] H15).bind fun a261 =>
              stoK 5 a1 a261 H15 fun H262 E262 =>
              (loadA true 5 a1 H262).bind fun a263 =>
              (offA a6 0).bind fun a264 =>
              (loadA false 1 a264 H262).bind fun a265 =>
              (callD (EV C) n_ref12_Own [a265] H262).bind fun a266 =>
              (offA a6 1).bind fun a267 =>
              (loadA false 1 a267 H262).bind fun a268 =>
              callK (EV C) true n_ref02_Number_r [a268] H262 fun a269 H269 E269 =>
              drawK (((loadA true 5 a1 H269).bind fun a270 =>
              some a270) = some a263)
              ((cvI .u8 (.int .i64 2)).bind fun a271 =>
              drawK (((cvI .u8 (.int .i64 2)).bind fun a272 =>
              some a272) = some a271)
              ((litD 1 1 (.int .u8 0) [(0, a271)] H269).bind fun a273 =>
              drawK (((litD 1 1 (.int .u8 0) [(0, a271)] H262).bind fun a274 =>
              some a274) = some a273)
              (appK 1 1 a269 a273 H269 fun a275 H275 E275 =>
              frzK a275 H275 fun a276 H276 =>
              drawK (((loadA true 5 a1 H276).bind fun a277 =>
              some a277) = some a263)
              ((callD (EV C) n_ref05_Put [a263, a266, a276] H276).bind fun a278 =>
              stoK 5 a2 a278 H276 fun H279 E279 =>
              (loadA true 5 a2 H279).bind fun a280 =>
              endB false false n (.tup [a280, (.int .i64 2)]) H279 (E279 ++ (E275 ++ (E269 ++ (E262 ++ (E15 ++ (E7 ++ (E6 ++ (E3 ++ (E2 ++ (E1 ++ [])))))))))))))))
              ((loadA true 5 a1 H15).bind fun a281 =>
              (offA a6 3).bind fun a282 =>
              (loadA false 1 a282 H15).bind fun a283 =>
              (callD (EV C) n_ref12_Key [a283] H15).bind fun a284 =>
              (offA a6 4).bind fun a285 =>
              (loadA false 1 a285 H15).bind fun a286 =>
              (callD (EV C) n_ref05_Put [a281, a284, a286] H15).bind fun a287 =>
              stoK 5 a1 a287 H15 fun H288 E288 =>
              (loadA true 5 a1 H288).bind fun a289 =>
              (offA a6 0).bind fun a290 =>
              (loadA false 1 a290 H288).bind fun a291 =>
              (callD (EV C) n_ref12_Own [a291] H288).bind fun a292 =>
              (offA a6 1).bind fun a293 =>
              (loadA false 1 a293 H288).bind fun a294 =>
              callK (EV C) true n_ref02_Number_r [a294] H288 fun a295 H295 E295 =>
              drawK (((loadA true 5 a1 H295).bind fun a296 =>
              some a296) = some a289)
              ((cvI .u8 (.int .i64 1)).bind fun a297 =>
              drawK (((cvI .u8 (.int .i64 1)).bind fun a298 =>
              some a298) = some a297)
              ((litD 1 1 (.int .u8 0) [(0, a297)] H295).bind fun a299 =>
              drawK (((litD 1 1 (.int .u8 0) [(0, a297)] H288).bind fun a300 =>
              some a300) = some a299)
              (appK 1 1 a295 a299 H295 fun a301 H301 E301 =>
              frzK a301 H301 fun a302 H302 =>
              drawK (((loadA true 5 a1 H302).bind fun a303 =>
              some a303) = some a289)
              ((callD (EV C) n_ref05_Put [a289, a292, a302] H302).bind fun a304 =>
              stoK 5 a2 a304 H302 fun H305 E305 =>
              (loadA true 5 a2 H305).bind fun a306 =>
              endB false false n (.tup [a306, (.int .i64 1)]) H305 (E305 ++ (E301 ++ (E295 ++ (E288 ++ (E15 ++ (E7 ++ (E6 ++ (E3 ++ (E2 ++ (E1 ++ []))))))))))))))))
            (condK a251
              ((loadA true 5 a1 H15).bind fun a307 =>
              (offA a6 3).bind fun a308 =>
              (loadA false 1 a308 H15).bind fun a309 =>
              (callD (EV C) n_ref12_Key [a309] H15).bind fun a310 =>
              (callD (EV C) n_ref05_Delete [a307, a310] H15).bind fun a311 =>
              stoK 5 a1 a311 H15 fun H312 E312 =>
              (loadA true 5 a1 H312).bind fun a313 =>
              (offA a6 0).bind fun a314 =>
              (loadA false 1 a314 H312).bind fun a315 =>
              (callD (EV C) n_ref12_Own [a315] H312).bind fun a316 =>
              (offA a6 1).bind fun a317 =>
              (loadA false 1 a317 H312).bind fun a318 =>
              callK (EV C) true n_ref02_Number_r [a318] H312 fun a319 H319 E319 =>
              drawK (((loadA true 5 a1 H319).bind fun a320 =>
              some a320) = some a313)
              ((cvI .u8 (.int .i64 3)).bind fun a321 =>
              drawK (((cvI .u8 (.int .i64 3)).bind fun a322 =>
              some a322) = some a321)
              ((litD 1 1 (.int .u8 0) [(0, a321)] H319).bind fun a323 =>
              drawK (((litD 1 1 (.int .u8 0) [(0, a321)] H312).bind fun a324 =>
              some a324) = some a323)
              (appK 1 1 a319 a323 H319 fun a325 H325 E325 =>
              frzK a325 H325 fun a326 H326 =>
              drawK (((loadA true 5 a1 H326).bind fun a327 =>
              some a327) = some a313)
              ((callD (EV C) n_ref05_Put [a313, a316, a326] H326).bind fun a328 =>
              stoK 5 a2 a328 H326 fun H329 E329 =>
              (loadA true 5 a2 H329).bind fun a330 =>
              endB false false n (.tup [a330, (.int .i64 3)]) H329 (E329 ++ (E325 ++ (E319 ++ (E312 ++ (E15 ++ (E7 ++ (E6 ++ (E3 ++ (E2 ++ (E1 ++ [])))))))))))))))
              ((loadA true 5 a1 H15).bind fun a331 =>
              (offA a6 0).bind fun a332 =>
              (loadA false 1 a332 H15).bind fun a333 =>
              (callD (EV C) n_ref12_Own [a333] H15).bind fun a334 =>
              (offA a6 1).bind fun a335 =>
              (loadA false 1 a335 H15).bind fun a336 =>
              callK (EV C) true n_ref02_Number_r [a336] H15 fun a337 H337 E337 =>
              drawK (((loadA true 5 a1 H337).bind fun a338 =>
              some a338) = some a331)
              ((cvI .u8 (.int .i64 4)).bind fun a339 =>
              drawK (((cvI .u8 (.int .i64 4)).bind fun a340 =>
              some a340) = some a339)
              ((litD 1 1 (.int .u8 0) [(0, a339)] H337).bind fun a341 =>
              drawK (((litD 1 1 (.int .u8 0) [(0, a339)] H15).bind fun a342 =>
              some a342) = some a341)
              (appK 1 1 a337 a341 H337 fun a343 H343 E343 =>
              frzK a343 H343 fun a344 H344 =>
              drawK (((loadA true 5 a1 H344).bind fun a345 =>
              some a345) = some a331)
              ((callD (EV C) n_ref05_Put [a331, a334, a344] H344).bind fun a346 =>
              stoK 5 a2 a346 H344 fun H347 E347 =>
              (loadA true 5 a2 H347).bind fun a348 =>
              endB false false n (.tup [a348, (.int .i64 4)]) H347 (E347 ++ (E343 ++ (E337 ++ (E15 ++ (E7 ++ (E6 ++ (E3 ++ (E2 ++ (E1 ++ [])))))))))))))))))
        ((loadA true 5 a1 H15).bind fun a349 =>
        (offA a6 3).bind fun a350 =>
        (loadA false 1 a350 H15).bind fun a351 =>
        (callD (EV C) n_ref12_Key [a351] H15).bind fun a352 =>
        (callD (EV C) n_ref05_Get [a349, a352] H15).bind fun a353 =>
        (extA a353 0).bind fun a354 =>
        (extA a353 1).bind fun a355 =>
        (offA a6 2).bind fun a356 =>
        (loadA false 1 a356 H15).bind fun a357 =>
        (binA .eql (Go.TypeDesc.int Go.IntKind.i64) (cmpT Try.prog) true a357 (.int .i64 1)).bind fun a358 =>
        condK a358
          (condK a355
            ((loadA true 5 a1 H15).bind fun a359 =>
            (offA a6 3).bind fun a360 =>
            (loadA false 1 a360 H15).bind fun a361 =>
            (callD (EV C) n_ref12_Key [a361] H15).bind fun a362 =>
            (offA a6 4).bind fun a363 =>
            (loadA false 1 a363 H15).bind fun a364 =>
            (callD (EV C) n_ref05_Put [a359, a362, a364] H15).bind fun a365 =>
            stoK 5 a1 a365 H15 fun H366 E366 =>
            (loadA true 5 a1 H366).bind fun a367 =>
            (offA a6 0).bind fun a368 =>
            (loadA false 1 a368 H366).bind fun a369 =>
            (callD (EV C) n_ref12_Own [a369] H366).bind fun a370 =>
            (offA a6 1).bind fun a371 =>
            (loadA false 1 a371 H366).bind fun a372 =>
            callK (EV C) true n_ref02_Number_r [a372] H366 fun a373 H373 E373 =>
            drawK (((loadA true 5 a1 H373).bind fun a374 =>
            some a374) = some a367)
            ((cvI .u8 (.int .i64 2)).bind fun a375 =>
            drawK (((cvI .u8 (.int .i64 2)).bind fun a376 =>
            some a376) = some a375)
            ((litD 1 1 (.int .u8 0) [(0, a375)] H373).bind fun a377 =>
            drawK (((litD 1 1 (.int .u8 0) [(0, a375)] H366).bind fun a378 =>
            some a378) = some a377)
            (appK 1 1 a373 a377 H373 fun a379 H379 E379 =>
            frzK a379 H379 fun a380 H380 =>
            drawK (((loadA true 5 a1 H380).bind fun a381 =>
            some a381) = some a367)
            ((callD (EV C) n_ref05_Put [a367, a370, a380] H380).bind fun a382 =>
            stoK 5 a2 a382 H380 fun H383 E383 =>
            (loadA true 5 a2 H383).bind fun a384 =>
            endB false false n (.tup [a384, (.int .i64 2)]) H383 (E383 ++ (E379 ++ (E373 ++ (E366 ++ (E15 ++ (E7 ++ (E6 ++ (E3 ++ (E2 ++ (E1 ++ [])))))))))))))))
            ((loadA true 5 a1 H15).bind fun a385 =>
            (offA a6 3).bind fun a386 =>
            (loadA false 1 a386 H15).bind fun a387 =>
            (callD (EV C) n_ref12_Key [a387] H15).bind fun a388 =>
            (offA a6 4).bind fun a389 =>
            (loadA false 1 a389 H15).bind fun a390 =>
            (callD (EV C) n_ref05_Put [a385, a388, a390] H15).bind fun a391 =>
            stoK 5 a1 a391 H15 fun H392 E392 =>
            (loadA true 5 a1 H392).bind fun a393 =>
            (offA a6 0).bind fun a394 =>
            (loadA false 1 a394 H392).bind fun a395 =>
            (callD (EV C) n_ref12_Own [a395] H392).bind fun a396 =>
            (offA a6 1).bind fun a397 =>
            (loadA false 1 a397 H392).bind fun a398 =>
            callK (EV C) true n_ref02_Number_r [a398] H392 fun a399 H399 E399 =>
            drawK (((loadA true 5 a1 H399).bind fun a400 =>
            some a400) = some a393)
            ((cvI .u8 (.int .i64 1)).bind fun a401 =>
            drawK (((cvI .u8 (.int .i64 1)).bind fun a402 =>
            some a402) = some a401)
            ((litD 1 1 (.int .u8 0) [(0, a401)] H399).bind fun a403 =>
            drawK (((litD 1 1 (.int .u8 0) [(0, a401)] H392).bind fun a404 =>
            some a404) = some a403)
            (appK 1 1 a399 a403 H399 fun a405 H405 E405 =>
            frzK a405 H405 fun a406 H406 =>
            drawK (((loadA true 5 a1 H406).bind fun a407 =>
            some a407) = some a393)
            ((callD (EV C) n_ref05_Put [a393, a396, a406] H406).bind fun a408 =>
            stoK 5 a2 a408 H406 fun H409 E409 =>
            (loadA true 5 a2 H409).bind fun a410 =>
            endB false false n (.tup [a410, (.int .i64 1)]) H409 (E409 ++ (E405 ++ (E399 ++ (E392 ++ (E15 ++ (E7 ++ (E6 ++ (E3 ++ (E2 ++ (E1 ++ []))))))))))))))))
          (condK a355
            ((loadA true 5 a1 H15).bind fun a411 =>
            (offA a6 3).bind fun a412 =>
            (loadA false 1 a412 H15).bind fun a413 =>
            (callD (EV C) n_ref12_Key [a413] H15).bind fun a414 =>
            (callD (EV C) n_ref05_Delete [a411, a414] H15).bind fun a415 =>
            stoK 5 a1 a415 H15 fun H416 E416 =>
            (loadA true 5 a1 H416).bind fun a417 =>
            (offA a6 0).bind fun a418 =>
            (loadA false 1 a418 H416).bind fun a419 =>
            (callD (EV C) n_ref12_Own [a419] H416).bind fun a420 =>
            (offA a6 1).bind fun a421 =>
            (loadA false 1 a421 H416).bind fun a422 =>
            callK (EV C) true n_ref02_Number_r [a422] H416 fun a423 H423 E423 =>
            drawK (((loadA true 5 a1 H423).bind fun a424 =>
            some a424) = some a417)
            ((cvI .u8 (.int .i64 3)).bind fun a425 =>
            drawK (((cvI .u8 (.int .i64 3)).bind fun a426 =>
            some a426) = some a425)
            ((litD 1 1 (.int .u8 0) [(0, a425)] H423).bind fun a427 =>
            drawK (((litD 1 1 (.int .u8 0) [(0, a425)] H416).bind fun a428 =>
            some a428) = some a427)
            (appK 1 1 a423 a427 H423 fun a429 H429 E429 =>
            frzK a429 H429 fun a430 H430 =>
            drawK (((loadA true 5 a1 H430).bind fun a431 =>
            some a431) = some a417)
            ((callD (EV C) n_ref05_Put [a417, a420, a430] H430).bind fun a432 =>
            stoK 5 a2 a432 H430 fun H433 E433 =>
            (loadA true 5 a2 H433).bind fun a434 =>
            endB false false n (.tup [a434, (.int .i64 3)]) H433 (E433 ++ (E429 ++ (E423 ++ (E416 ++ (E15 ++ (E7 ++ (E6 ++ (E3 ++ (E2 ++ (E1 ++ [])))))))))))))))
            ((loadA true 5 a1 H15).bind fun a435 =>
            (offA a6 0).bind fun a436 =>
            (loadA false 1 a436 H15).bind fun a437 =>
            (callD (EV C) n_ref12_Own [a437] H15).bind fun a438 =>
            (offA a6 1).bind fun a439 =>
            (loadA false 1 a439 H15).bind fun a440 =>
            callK (EV C) true n_ref02_Number_r [a440] H15 fun a441 H441 E441 =>
            drawK (((loadA true 5 a1 H441).bind fun a442 =>
            some a442) = some a435)
            ((cvI .u8 (.int .i64 4)).bind fun a443 =>
            drawK (((cvI .u8 (.int .i64 4)).bind fun a444 =>
            some a444) = some a443)
            ((litD 1 1 (.int .u8 0) [(0, a443)] H441).bind fun a445 =>
            drawK (((litD 1 1 (.int .u8 0) [(0, a443)] H15).bind fun a446 =>
            some a446) = some a445)
            (appK 1 1 a441 a445 H441 fun a447 H447 E447 =>
            frzK a447 H447 fun a448 H448 =>
            drawK (((loadA true 5 a1 H448).bind fun a449 =>
            some a449) = some a435)
            ((callD (EV C) n_ref05_Put [a435, a438, a448] H448).bind fun a450 =>
            stoK 5 a2 a450 H448 fun H451 E451 =>
            (loadA true 5 a2 H451).bind fun a452 =>
            endB false false n (.tup [a452, (.int .i64 4)]) H451 (E451 ++ (E447 ++ (E441 ++ (E15 ++ (E7 ++ (E6 ++ (E3 ++ (E2 ++ (E1 ++ [])))))))))))))))))))) (List.length H) = some r) : EV C n_ref12_Apply [x0, x1] H = some r :=
  EV_of_fnK' (fn := Try.f22) (by kernel_rfl) (by kernel_rfl) (by kernel_rfl) hh
end Go.Pm
