/- A part of the proof: what the functions of the program answer, as plain lists and numbers. -/
import Derived.Test.YtaoklfecdcakbaaP9
namespace Go.Pm
open Go.Proofs
set_option linter.unusedVariables false
set_option maxRecDepth 100000
noncomputable def avl_Get_J4 (n : Nat) (t1 t2 : AV) (H : List AObj) (E : List Nat) : Option R3 :=
  loopK Try.prog C.G (EV C) (C.hint 59) Try.f59 (cAt (bodyOf Try.f59) [1, 1, 0, 0, 0]) (kAt Try.prog C.G (EV C) (C.hint 59) Try.f59 (bodyOf Try.f59) [1, 1, 0, 0] [] (endK Try.prog (C.hint 59) Try.f59 n))
    ⟨pat 40 [(1, t1), (2, t2)], H, E⟩
theorem avl_Get_J4_of {r : R3} {n : Nat} {t1 t2 : AV} {H : List AObj} {E : List Nat} (hh : (
  (offA t2 4).bind fun a1 =>
  (loadA false 1 a1 H).bind fun a2 =>
  (lenV a2 H).bind fun a3 =>
  (binA .gtr (Go.TypeDesc.int Go.IntKind.i64) (cmpT Try.prog) true a3 (.int .i64 0)).bind fun a4 =>
  condK a4
    ((offA t2 1).bind fun a5 =>
    (loadA false 1 a5 H).bind fun a6 =>
    callK (EV C) false n_bytes_Compare [t1, a6] H fun a7 H7 E7 =>
    (binA .eql (Go.TypeDesc.int Go.IntKind.i64) (cmpT Try.prog) true a7 (.int .i64 0)).bind fun a8 =>
    condK a8
      ((offA t2 2).bind fun a9 =>
      (loadA false 1 a9 H7).bind fun a10 =>
      callK (EV C) false n_Clone_byte [a10] H7 fun a11 H11 E11 =>
      endB false false n (.tup [a11, (.bool true), .nili]) H11 ((E11 ++ (E7 ++ [])) ++ E))
      ((binA .lss (Go.TypeDesc.int Go.IntKind.i64) (cmpT Try.prog) true a7 (.int .i64 0)).bind fun a12 =>
      condK a12
        ((offA t2 4).bind fun a13 =>
        (loadA false 1 a13 H7).bind fun a14 =>
        (ixA 5 a14 (.int .i64 0) H7).bind fun a15 =>
        (loadA true 5 a15 H7).bind fun a16 =>
        stoK 5 t2 a16 H7 fun H17 E17 =>
        avl_Get_J4 n t1 t2 H17 ((E17 ++ (E7 ++ [])) ++ E))
        ((offA t2 4).bind fun a18 =>
        (loadA false 1 a18 H7).bind fun a19 =>
        (ixA 5 a19 (.int .i64 1) H7).bind fun a20 =>
        (loadA true 5 a20 H7).bind fun a21 =>
        stoK 5 t2 a21 H7 fun H22 E22 =>
        avl_Get_J4 n t1 t2 H22 ((E22 ++ (E7 ++ [])) ++ E))))
    (endB false false n (.tup [.nils, (.bool false), .nili]) H E)) = some r) : avl_Get_J4 n t1 t2 H E = some r :=
  loop_step' (by kernel_rfl) hh
theorem avl_Get_of {r : R3} {x0 x1 : AV} {H : List AObj} (hh : (fun n => (
  newK x0 H fun a1 H1 E1 =>
  (loadA true 5 a1 H1).bind fun a2 =>
  callK (EV C) false n_avl_asked [a2, x1, .nils] H1 fun a3 H3 E3 =>
  (binA .neq (Go.TypeDesc.interface #[("Error", 118)]) (cmpT Try.prog) true a3 .nili).bind fun a4 =>
  condK a4
    (endB false false n (.tup [.nils, (.bool false), a3]) H3 (E3 ++ (E1 ++ [])))
    (avl_Get_J4 n x1 a1 H3 (E3 ++ (E1 ++ []))))) (List.length H) = some r) : EV C n_avl_Get [x0, x1] H = some r :=
  EV_of_fnK' (fn := Try.f59) (by kernel_rfl) (by kernel_rfl) (by kernel_rfl) hh
theorem avl_Delete_of {r : R3} {x0 x1 : AV} {H : List AObj} (hh : (fun n => (
  newK x0 H fun a1 H1 E1 =>
  newK (.agg [(.int .i64 0), .nils, .nils, .nils, .nils]) H1 fun a2 H2 E2 =>
  (loadA true 5 a1 H2).bind fun a3 =>
  callK (EV C) false n_avl_Get [a3, x1] H2 fun a4 H4 E4 =>
  (extA a4 0).bind fun a5 =>
  (extA a4 1).bind fun a6 =>
  (extA a4 2).bind fun a7 =>
  (binA .neq (Go.TypeDesc.interface #[("Error", 118)]) (cmpT Try.prog) true a7 .nili).bind fun a8 =>
  condK a8
    ((fillB (AV.cells (.agg [(.int .i64 0), .nils, .nils, .nils, .nils])) []).bind fun c9 =>
    stoK 5 a2 (.agg c9) H4 fun H10 E10 =>
    (loadA true 5 a2 H10).bind fun a11 =>
    endB false false n (.tup [a11, (.bool false), a7]) H10 (E10 ++ (E4 ++ (E2 ++ (E1 ++ [])))))
    ((unA .not a6).bind fun a12 =>
    condK a12
      ((loadA true 5 a1 H4).bind fun a13 =>
      stoK 5 a2 a13 H4 fun H14 E14 =>
      (loadA true 5 a2 H14).bind fun a15 =>
      endB false false n (.tup [a15, (.bool false), .nili]) H14 (E14 ++ (E4 ++ (E2 ++ (E1 ++ [])))))
      ((loadA true 5 a1 H4).bind fun a16 =>
      callK (EV C) false n_avl_take [a16, x1] H4 fun a17 H17 E17 =>
      stoK 5 a2 a17 H17 fun H18 E18 =>
      (loadA true 5 a2 H18).bind fun a19 =>
      endB false false n (.tup [a19, (.bool true), .nili]) H18 (E18 ++ (E17 ++ (E4 ++ (E2 ++ (E1 ++ []))))))))) (List.length H) = some r) : EV C n_avl_Delete [x0, x1] H = some r :=
  EV_of_fnK' (fn := Try.f69) (by kernel_rfl) (by kernel_rfl) (by kernel_rfl) hh
theorem avl_asked_of {r : R3} {x0 x1 x2 : AV} {H : List AObj} (hh : (fun n => (
  newK x0 H fun a1 H1 E1 =>
  (loadA true 5 a1 H1).bind fun a2 =>
  callK (EV C) false n_avl_Is [a2] H1 fun a3 H3 E3 =>
  (unA .not a3).bind fun a4 =>
  condK a4
    (endB false false n (.ifc t_api_Code (.int .i64 3)) H3 (E3 ++ (E1 ++ [])))
    ((lenV x1 H3).bind fun a5 =>
    (binA .gtr (Go.TypeDesc.int Go.IntKind.i64) (cmpT Try.prog) true a5 (.int .i64 80)).bind fun a6 =>
    splitK a6
      (endB false false n (.ifc t_api_Code (.int .i64 1)) H3 (E3 ++ (E1 ++ [])))
      ((lenV x2 H3).bind fun a7 =>
      (binA .gtr (Go.TypeDesc.int Go.IntKind.i64) (cmpT Try.prog) true a7 (.int .i64 1024)).bind fun a8 =>
      condK a8
        (endB false false n (.ifc t_api_Code (.int .i64 1)) H3 (E3 ++ (E1 ++ [])))
        (endB false false n .nili H3 (E3 ++ (E1 ++ []))))))) (List.length H) = some r) : EV C n_avl_asked [x0, x1, x2] H = some r :=
  EV_of_fnK' (fn := Try.f70) (by kernel_rfl) (by kernel_rfl) (by kernel_rfl) hh
theorem avl_put_of {r : R3} {x0 x1 x2 : AV} {H : List AObj} (hh : (fun n => (
  newK x0 H fun a1 H1 E1 =>
  newK (.agg [(.int .i64 0), .nils, .nils, .nils, .nils]) H1 fun a2 H2 E2 =>
  (offA a1 4).bind fun a3 =>
  (loadA false 1 a3 H2).bind fun a4 =>
  (lenV a4 H2).bind fun a5 =>
  (binA .eql (Go.TypeDesc.int Go.IntKind.i64) (cmpT Try.prog) true a5 (.int .i64 0)).bind fun a6 =>
  condK a6
    ((fillB (AV.cells (.agg [(.int .i64 0), .nils, .nils, .nils, .nils])) []).bind fun c7 =>
    (fillB (AV.cells (.agg [(.int .i64 0), .nils, .nils, .nils, .nils])) []).bind fun c8 =>
    callK (EV C) false n_avl_node [(.agg c7), x1, x2, (.agg c8)] H2 fun a9 H9 E9 =>
    stoK 5 a2 a9 H9 fun H10 E10 =>
    (loadA true 5 a2 H10).bind fun a11 =>
    endB false false n a11 H10 (E10 ++ (E9 ++ (E2 ++ (E1 ++ [])))))
    ((offA a1 4).bind fun a12 =>
    (loadA false 1 a12 H2).bind fun a13 =>
    (ixA 5 a13 (.int .i64 0) H2).bind fun a14 =>
    (loadA true 5 a14 H2).bind fun a15 =>
    (offA a1 4).bind fun a16 =>
    (loadA false 1 a16 H2).bind fun a17 =>
    (ixA 5 a17 (.int .i64 1) H2).bind fun a18 =>
    (loadA true 5 a18 H2).bind fun a19 =>
    sizK 5 a15
    (newK a15 H2 fun a20 H20 E20 =>
    drawK (((loadA false 1 a16 H20).bind fun a21 =>
    some a21) = some a17)
    (drawK (((ixA 5 a17 (.int .i64 1) H20).bind fun a22 =>
    some a22) = some a18)
    (drawK (((loadA true 5 a18 H20).bind fun a23 =>
    some a23) = some a19)
    (sizK 5 a19
    (newK a19 H20 fun a24 H24 E24 =>
    (offA a1 1).bind fun a25 =>
    (loadA false 1 a25 H24).bind fun a26 =>
    callK (EV C) false n_bytes_Compare [x1, a26] H24 fun a27 H27 E27 =>
    (binA .eql (Go.TypeDesc.int Go.IntKind.i64) (cmpT Try.prog) true a27 (.int .i64 0)).bind fun a28 =>
    condK a28
      ((loadA true 5 a20 H27).bind fun a29 =>
      (offA a1 1).bind fun a30 =>
      (loadA false 1 a30 H27).bind fun a31 =>
      (loadA true 5 a24 H27).bind fun a32 =>
      callK (EV C) false n_avl_node [a29, a31, x2, a32] H27 fun a33 H33 E33 =>
      stoK 5 a2 a33 H33 fun H34 E34 =>
      (loadA true 5 a2 H34).bind fun a35 =>
      endB false false n a35 H34 (E34 ++ (E33 ++ (E27 ++ (E24 ++ (E20 ++ (E2 ++ (E1 ++ []))))))))
      ((binA .lss (Go.TypeDesc.int Go.IntKind.i64) (cmpT Try.prog) true a27 (.int .i64 0)).bind fun a36 =>
      condK a36
        ((loadA true 5 a20 H27).bind fun a37 =>
        (callD (EV C) n_avl_put [a37, x1, x2] H27).bind fun a38 =>
        (offA a1 1).bind fun a39 =>
        (loadA false 1 a39 H27).bind fun a40 =>
        (offA a1 2).bind fun a41 =>
        (loadA false 1 a41 H27).bind fun a42 =>
        (loadA true 5 a24 H27).bind fun a43 =>
        (callD (EV C) n_avl_node [a38, a40, a42, a43] H27).bind fun a44 =>
        (callD (EV C) n_avl_leveled [a44] H27).bind fun a45 =>
        stoK 5 a2 a45 H27 fun H46 E46 =>
        (loadA true 5 a2 H46).bind fun a47 =>
        endB false false n a47 H46 (E46 ++ (E27 ++ (E24 ++ (E20 ++ (E2 ++ (E1 ++ [])))))))
        ((loadA true 5 a20 H27).bind fun a48 =>
        (offA a1 1).bind fun a49 =>
        (loadA false 1 a49 H27).bind fun a50 =>
        (offA a1 2).bind fun a51 =>
        (loadA false 1 a51 H27).bind fun a52 =>
        (loadA true 5 a24 H27).bind fun a53 =>
        (callD (EV C) n_avl_put [a53, x1, x2] H27).bind fun a54 =>
        (callD (EV C) n_avl_node [a48, a50, a52, a54] H27).bind fun a55 =>
        (callD (EV C) n_avl_leveled [a55] H27).bind fun a56 =>
        stoK 5 a2 a56 H27 fun H57 E57 =>
        (loadA true 5 a2 H57).bind fun a58 =>
        endB false false n a58 H57 (E57 ++ (E27 ++ (E24 ++ (E20 ++ (E2 ++ (E1 ++ [])))))))))))))))) (List.length H) = some r) : EV C n_avl_put [x0, x1, x2] H = some r :=
  EV_of_fnK' (fn := Try.f71) (by kernel_rfl) (by kernel_rfl) (by kernel_rfl) hh
noncomputable def avl_take_J14 (n : Nat) (t4 t5 t6 t8 : AV) (H : List AObj) (E : List Nat) : Option R3 :=
  loopK Try.prog C.G (EV C) (C.hint 80) Try.f80 (cAt (bodyOf Try.f80) [1, 1, 1, 1, 1, 0, 0, 0]) (kAt Try.prog C.G (EV C) (C.hint 80) Try.f80 (bodyOf Try.f80) [1, 1, 1, 1, 1, 0, 0] [] (endK Try.prog (C.hint 80) Try.f80 n))
    ⟨pat 87 [(4, t4), (5, t5), (6, t6), (8, t8)], H, E⟩
theorem avl_take_J14_of {r : R3} {n : Nat} {t4 t5 t6 t8 : AV} {H : List AObj} {E : List Nat} (hh : (
  (offA t8 4).bind fun a1 =>
  (loadA false 1 a1 H).bind fun a2 =>
  (ixA 5 a2 (.int .i64 0) H).bind fun a3 =>
  (offA a3 4).bind fun a4 =>
  (loadA false 1 a4 H).bind fun a5 =>
  (lenV a5 H).bind fun a6 =>
  (binA .gtr (Go.TypeDesc.int Go.IntKind.i64) (cmpT Try.prog) true a6 (.int .i64 0)).bind fun a7 =>
  condK a7
    ((offA t8 4).bind fun a8 =>
    (loadA false 1 a8 H).bind fun a9 =>
    (ixA 5 a9 (.int .i64 0) H).bind fun a10 =>
    (loadA true 5 a10 H).bind fun a11 =>
    stoK 5 t8 a11 H fun H12 E12 =>
    avl_take_J14 n t4 t5 t6 t8 H12 ((E12 ++ []) ++ E))
    ((loadA true 5 t5 H).bind fun a13 =>
    (offA t8 1).bind fun a14 =>
    (loadA false 1 a14 H).bind fun a15 =>
    (offA t8 2).bind fun a16 =>
    (loadA false 1 a16 H).bind fun a17 =>
    (loadA true 5 t6 H).bind fun a18 =>
    (offA t8 1).bind fun a19 =>
    (loadA false 1 a19 H).bind fun a20 =>
    (callD (EV C) n_avl_take [a18, a20] H).bind fun a21 =>
    (callD (EV C) n_avl_node [a13, a15, a17, a21] H).bind fun a22 =>
    (callD (EV C) n_avl_leveled [a22] H).bind fun a23 =>
    stoK 5 t4 a23 H fun H24 E24 =>
    (loadA true 5 t4 H24).bind fun a25 =>
    endB false false n a25 H24 (E24 ++ E))) = some r) : avl_take_J14 n t4 t5 t6 t8 H E = some r :=
  loop_step' (by kernel_rfl) hh
theorem avl_take_of {r : R3} {x0 x1 : AV} {H : List AObj} (hh : (fun n => (
  newK x0 H fun a1 H1 E1 =>
  newK (.agg [(.int .i64 0), .nils, .nils, .nils, .nils]) H1 fun a2 H2 E2 =>
  (offA a1 4).bind fun a3 =>
  (loadA false 1 a3 H2).bind fun a4 =>
  (lenV a4 H2).bind fun a5 =>
  (binA .eql (Go.TypeDesc.int Go.IntKind.i64) (cmpT Try.prog) true a5 (.int .i64 0)).bind fun a6 =>
  condK a6
    ((loadA true 5 a1 H2).bind fun a7 =>
    stoK 5 a2 a7 H2 fun H8 E8 =>
    (loadA true 5 a2 H8).bind fun a9 =>
    endB false false n a9 H8 (E8 ++ (E2 ++ (E1 ++ []))))
    ((offA a1 4).bind fun a10 =>
    (loadA false 1 a10 H2).bind fun a11 =>
    (ixA 5 a11 (.int .i64 0) H2).bind fun a12 =>
    (loadA true 5 a12 H2).bind fun a13 =>
    (offA a1 4).bind fun a14 =>
    (loadA false 1 a14 H2).bind fun a15 =>
    (ixA 5 a15 (.int .i64 1) H2).bind fun a16 =>
    (loadA true 5 a16 H2).bind fun a17 =>
    sizK 5 a13
    (newK a13 H2 fun a18 H18 E18 =>
    drawK (((loadA false 1 a14 H18).bind fun a19 =>
    some a19) = some a15)
    (drawK (((ixA 5 a15 (.int .i64 1) H18).bind fun a20 =>
    some a20) = some a16)
    (drawK (((loadA true 5 a16 H18).bind fun a21 =>
    some a21) = some a17)
    (sizK 5 a17
    (newK a17 H18 fun a22 H22 E22 =>
    (offA a1 1).bind fun a23 =>
    (loadA false 1 a23 H22).bind fun a24 =>
    callK (EV C) false n_bytes_Compare [x1, a24] H22 fun a25 H25 E25 =>
    (binA .lss (Go.TypeDesc.int Go.IntKind.i64) (cmpT Try.prog) true a25 (.int .i64 0)).bind fun a26 =>
    condK a26
      ((loadA true 5 a18 H25).bind fun a27 =>
      (callD (EV C) n_avl_take [a27, x1] H25).bind fun a28 =>
      (offA a1 1).bind fun a29 =>
      (loadA false 1 a29 H25).bind fun a30 =>
      (offA a1 2).bind fun a31 =>
      (loadA false 1 a31 H25).bind fun a32 =>
      (loadA true 5 a22 H25).bind fun a33 =>
      (callD (EV C) n_avl_node [a28, a30, a32, a33] H25).bind fun a34 =>
      (callD (EV C) n_avl_leveled [a34] H25).bind fun a35 =>
      stoK 5 a2 a35 H25 fun H36 E36 =>
      (loadA true 5 a2 H36).bind fun a37 =>
      endB false false n a37 H36 (E36 ++ (E25 ++ (E22 ++ (E18 ++ (E2 ++ (E1 ++ [])))))))
      ((binA .gtr (Go.TypeDesc.int Go.IntKind.i64) (cmpT Try.prog) true a25 (.int .i64 0)).bind fun a38 =>
      condK a38
        ((loadA true 5 a18 H25).bind fun a39 =>
        (offA a1 1).bind fun a40 =>
        (loadA false 1 a40 H25).bind fun a41 =>
        (offA a1 2).bind fun a42 =>
        (loadA false 1 a42 H25).bind fun a43 =>
        (loadA true 5 a22 H25).bind fun a44 =>
        (callD (EV C) n_avl_take [a44, x1] H25).bind fun a45 =>
        (callD (EV C) n_avl_node [a39, a41, a43, a45] H25).bind fun a46 =>
        (callD (EV C) n_avl_leveled [a46] H25).bind fun a47 =>
        stoK 5 a2 a47 H25 fun H48 E48 =>
        (loadA true 5 a2 H48).bind fun a49 =>
        endB false false n a49 H48 (E48 ++ (E25 ++ (E22 ++ (E18 ++ (E2 ++ (E1 ++ [])))))))
        ((offA a18 4).bind fun a50 =>
        (loadA false 1 a50 H25).bind fun a51 =>
        (lenV a51 H25).bind fun a52 =>
        (binA .eql (Go.TypeDesc.int Go.IntKind.i64) (cmpT Try.prog) true a52 (.int .i64 0)).bind fun a53 =>
        condK a53
          ((loadA true 5 a22 H25).bind fun a54 =>
          stoK 5 a2 a54 H25 fun H55 E55 =>
          (loadA true 5 a2 H55).bind fun a56 =>
          endB false false n a56 H55 (E55 ++ (E25 ++ (E22 ++ (E18 ++ (E2 ++ (E1 ++ [])))))))
          ((offA a22 4).bind fun a57 =>
          (loadA false 1 a57 H25).bind fun a58 =>
          (lenV a58 H25).bind fun a59 =>
          (binA .eql (Go.TypeDesc.int Go.IntKind.i64) (cmpT Try.prog) true a59 (.int .i64 0)).bind fun a60 =>
          condK a60
            ((loadA true 5 a18 H25).bind fun a61 =>
            stoK 5 a2 a61 H25 fun H62 E62 =>
            (loadA true 5 a2 H62).bind fun a63 =>
            endB false false n a63 H62 (E62 ++ (E25 ++ (E22 ++ (E18 ++ (E2 ++ (E1 ++ [])))))))
            ((loadA true 5 a22 H25).bind fun a64 =>
            newK (.agg [(.int .i64 0), .nils, .nils, .nils, .nils]) H25 fun a65 H65 E65 =>
            stoK 5 a65 a64 H65 fun H66 E66 =>
            avl_take_J14 n a2 a18 a22 a65 H66 (E66 ++ (E65 ++ (E25 ++ (E22 ++ (E18 ++ (E2 ++ (E1 ++ []))))))))))))))))))) (List.length H) = some r) : EV C n_avl_take [x0, x1] H = some r :=
  EV_of_fnK' (fn := Try.f80) (by kernel_rfl) (by kernel_rfl) (by kernel_rfl) hh
theorem avl_node_of {r : R3} {x0 x1 x2 x3 : AV} {H : List AObj} (hh : (fun n => (
  newK x0 H fun a1 H1 E1 =>
  newK x3 H1 fun a2 H2 E2 =>
  newK (.agg [(.int .i64 0), .nils, .nils, .nils, .nils]) H2 fun a3 H3 E3 =>
  (loadA true 5 a1 H3).bind fun a4 =>
  (loadA true 5 a2 H3).bind fun a5 =>
  litK 5 2 (.agg [(.int .i64 0), .nils, .nils, .nils, .nils]) [(0, a4), (1, a5)] H3 fun a6 H6 E6 =>
  (fillB (AV.cells (.agg [(.int .i64 0), .nils, .nils, .nils, .nils])) [(0, 1, (.int .i64 1)), (1, 1, x1), (2, 1, x2), (4, 1, a6)]).bind fun c7 =>
  stoK 5 a3 (.agg c7) H6 fun H8 E8 =>
  (loadA true 5 a3 H8).bind fun a9 =>
  endB false false n a9 H8 (E8 ++ (E6 ++ (E3 ++ (E2 ++ (E1 ++ []))))))) (List.length H) = some r) : EV C n_avl_node [x0, x1, x2, x3] H = some r :=
  EV_of_fnK' (fn := Try.f81) (by kernel_rfl) (by kernel_rfl) (by kernel_rfl) hh
theorem avl_leveled_of {r : R3} {x0 : AV} {H : List AObj} (hh : (fun n => (
  newK x0 H fun a1 H1 E1 =>
  newK (.agg [(.int .i64 0), .nils, .nils, .nils, .nils]) H1 fun a2 H2 E2 =>
  (offA a1 4).bind fun a3 =>
  (loadA false 1 a3 H2).bind fun a4 =>
  (ixA 5 a4 (.int .i64 0) H2).bind fun a5 =>
  (loadA true 5 a5 H2).bind fun a6 =>
  (offA a1 4).bind fun a7 =>
  (loadA false 1 a7 H2).bind fun a8 =>
  (ixA 5 a8 (.int .i64 1) H2).bind fun a9 =>
  (loadA true 5 a9 H2).bind fun a10 =>
  sizK 5 a6
  (newK a6 H2 fun a11 H11 E11 =>
  drawK (((loadA false 1 a7 H11).bind fun a12 =>
  some a12) = some a8)
  (drawK (((ixA 5 a8 (.int .i64 1) H11).bind fun a13 =>
  some a13) = some a9)
  (drawK (((loadA true 5 a9 H11).bind fun a14 =>
  some a14) = some a10)
  (sizK 5 a10
  (newK a10 H11 fun a15 H15 E15 =>
  (loadA true 5 a11 H15).bind fun a16 =>
  (callD (EV C) n_avl_depth [a16] H15).bind fun a17 =>
  (loadA true 5 a15 H15).bind fun a18 =>
  (callD (EV C) n_avl_depth [a18] H15).bind fun a19 =>
  (binA .sub (Go.TypeDesc.int Go.IntKind.i64) (cmpT Try.prog) false a17 a19).bind fun a20 =>
  (binA .gtr (Go.TypeDesc.int Go.IntKind.i64) (cmpT Try.prog) true a20 (.int .i64 1)).bind fun a21 =>
  condK a21
    ((offA a11 4).bind fun a22 =>
    (loadA false 1 a22 H15).bind fun a23 =>
    (ixA 5 a23 (.int .i64 0) H15).bind fun a24 =>
    (loadA true 5 a24 H15).bind fun a25 =>
    (callD (EV C) n_avl_depth [a25] H15).bind fun a26 =>
    (offA a11 4).bind fun a27 =>
    (loadA false 1 a27 H15).bind fun a28 =>
    (ixA 5 a28 (.int .i64 1) H15).bind fun a29 =>
    (loadA true 5 a29 H15).bind fun a30 =>
    (callD (EV C) n_avl_depth [a30] H15).bind fun a31 =>
    (binA .lss (Go.TypeDesc.int Go.IntKind.i64) (cmpT Try.prog) false a26 a31).bind fun a32 =>
    condK a32
      ((loadA true 5 a11 H15).bind fun a33 =>
      (callD (EV C) n_avl_left [a33] H15).bind fun a34 =>
      (offA a1 1).bind fun a35 =>
      (loadA false 1 a35 H15).bind fun a36 =>
      (offA a1 2).bind fun a37 =>
      (loadA false 1 a37 H15).bind fun a38 =>
      (loadA true 5 a15 H15).bind fun a39 =>
      (callD (EV C) n_avl_node [a34, a36, a38, a39] H15).bind fun a40 =>
      stoK 5 a1 a40 H15 fun H41 E41 =>
      (loadA true 5 a1 H41).bind fun a42 =>
      callK (EV C) false n_avl_right [a42] H41 fun a43 H43 E43 =>
      stoK 5 a2 a43 H43 fun H44 E44 =>
      (loadA true 5 a2 H44).bind fun a45 =>
      endB false false n a45 H44 (E44 ++ (E43 ++ (E41 ++ (E15 ++ (E11 ++ (E2 ++ (E1 ++ []))))))))
      ((loadA true 5 a1 H15).bind fun a46 =>
      callK (EV C) false n_avl_right [a46] H15 fun a47 H47 E47 =>
      stoK 5 a2 a47 H47 fun H48 E48 =>
      (loadA true 5 a2 H48).bind fun a49 =>
      endB false false n a49 H48 (E48 ++ (E47 ++ (E15 ++ (E11 ++ (E2 ++ (E1 ++ []))))))))
    ((binA .lss (Go.TypeDesc.int Go.IntKind.i64) (cmpT Try.prog) true a20 (.int .i64 (-1))).bind fun a50 =>
    condK a50
      ((offA a15 4).bind fun a51 =>
      (loadA false 1 a51 H15).bind fun a52 =>
      (ixA 5 a52 (.int .i64 1) H15).bind fun a53 =>
      (loadA true 5 a53 H15).bind fun a54 =>
      (callD (EV C) n_avl_depth [a54] H15).bind fun a55 =>
      (offA a15 4).bind fun a56 =>
      (loadA false 1 a56 H15).bind fun a57 =>
      (ixA 5 a57 (.int .i64 0) H15).bind fun a58 =>
      (loadA true 5 a58 H15).bind fun a59 =>
      (callD (EV C) n_avl_depth [a59] H15).bind fun a60 =>
      (binA .lss (Go.TypeDesc.int Go.IntKind.i64) (cmpT Try.prog) false a55 a60).bind fun a61 =>
      condK a61
        ((loadA true 5 a11 H15).bind fun a62 =>
        (offA a1 1).bind fun a63 =>
        (loadA false 1 a63 H15).bind fun a64 =>
        (offA a1 2).bind fun a65 =>
        (loadA false 1 a65 H15).bind fun a66 =>
        (loadA true 5 a15 H15).bind fun a67 =>
        (callD (EV C) n_avl_right [a67] H15).bind fun a68 =>
        (callD (EV C) n_avl_node [a62, a64, a66, a68] H15).bind fun a69 =>
        stoK 5 a1 a69 H15 fun H70 E70 =>
        (loadA true 5 a1 H70).bind fun a71 =>
        callK (EV C) false n_avl_left [a71] H70 fun a72 H72 E72 =>
        stoK 5 a2 a72 H72 fun H73 E73 =>
        (loadA true 5 a2 H73).bind fun a74 =>
        endB false false n a74 H73 (E73 ++ (E72 ++ (E70 ++ (E15 ++ (E11 ++ (E2 ++ (E1 ++ []))))))))
        ((loadA true 5 a1 H15).bind fun a75 =>
        callK (EV C) false n_avl_left [a75] H15 fun a76 H76 E76 =>
        stoK 5 a2 a76 H76 fun H77 E77 =>
        (loadA true 5 a2 H77).bind fun a78 =>
        endB false false n a78 H77 (E77 ++ (E76 ++ (E15 ++ (E11 ++ (E2 ++ (E1 ++ []))))))))
      ((loadA true 5 a1 H15).bind fun a79 =>
      stoK 5 a2 a79 H15 fun H80 E80 =>
      (loadA true 5 a2 H80).bind fun a81 =>
      endB false false n a81 H80 (E80 ++ (E15 ++ (E11 ++ (E2 ++ (E1 ++ [])))))))))))))) (List.length H) = some r) : EV C n_avl_leveled [x0] H = some r :=
  EV_of_fnK' (fn := Try.f82) (by kernel_rfl) (by kernel_rfl) (by kernel_rfl) hh
theorem avl_depth_of {r : R3} {x0 : AV} {H : List AObj} (hh : (fun n => (
  newK x0 H fun a1 H1 E1 =>
  (loadA true 5 a1 H1).bind fun a2 =>
  callK (EV C) false n_avl_even [a2] H1 fun a3 H3 E3 =>
  (extA a3 0).bind fun a4 =>
  (extA a3 1).bind fun a5 =>
  endB false false n a4 H3 (E3 ++ (E1 ++ [])))) (List.length H) = some r) : EV C n_avl_depth [x0] H = some r :=
  EV_of_fnK' (fn := Try.f90) (by kernel_rfl) (by kernel_rfl) (by kernel_rfl) hh
theorem avl_left_of {r : R3} {x0 : AV} {H : List AObj} (hh : (fun n => (
  newK x0 H fun a1 H1 E1 =>
  newK (.agg [(.int .i64 0), .nils, .nils, .nils, .nils]) H1 fun a2 H2 E2 =>
  (offA a1 4).bind fun a3 =>
  (loadA false 1 a3 H2).bind fun a4 =>
  (ixA 5 a4 (.int .i64 1) H2).bind fun a5 =>
  (loadA true 5 a5 H2).bind fun a6 =>
  newK (.agg [(.int .i64 0), .nils, .nils, .nils, .nils]) H2 fun a7 H7 E7 =>
  stoK 5 a7 a6 H7 fun H8 E8 =>
  (offA a1 4).bind fun a9 =>
  (loadA false 1 a9 H8).bind fun a10 =>
  (ixA 5 a10 (.int .i64 0) H8).bind fun a11 =>
  (loadA true 5 a11 H8).bind fun a12 =>
  (offA a1 1).bind fun a13 =>
  (loadA false 1 a13 H8).bind fun a14 =>
  (offA a1 2).bind fun a15 =>
  (loadA false 1 a15 H8).bind fun a16 =>
  (offA a7 4).bind fun a17 =>
  (loadA false 1 a17 H8).bind fun a18 =>
  (ixA 5 a18 (.int .i64 0) H8).bind fun a19 =>
  (loadA true 5 a19 H8).bind fun a20 =>
  (callD (EV C) n_avl_node [a12, a14, a16, a20] H8).bind fun a21 =>
  (offA a7 1).bind fun a22 =>
  (loadA false 1 a22 H8).bind fun a23 =>
  (offA a7 2).bind fun a24 =>
  (loadA false 1 a24 H8).bind fun a25 =>
  (offA a7 4).bind fun a26 =>
  (loadA false 1 a26 H8).bind fun a27 =>
  (ixA 5 a27 (.int .i64 1) H8).bind fun a28 =>
  (loadA true 5 a28 H8).bind fun a29 =>
  (callD (EV C) n_avl_node [a21, a23, a25, a29] H8).bind fun a30 =>
  stoK 5 a2 a30 H8 fun H31 E31 =>
  (loadA true 5 a2 H31).bind fun a32 =>
  endB false false n a32 H31 (E31 ++ (E8 ++ (E7 ++ (E2 ++ (E1 ++ []))))))) (List.length H) = some r) : EV C n_avl_left [x0] H = some r :=
  EV_of_fnK' (fn := Try.f91) (by kernel_rfl) (by kernel_rfl) (by kernel_rfl) hh
theorem avl_right_of {r : R3} {x0 : AV} {H : List AObj} (hh : (fun n => (
  newK x0 H fun a1 H1 E1 =>
  newK (.agg [(.int .i64 0), .nils, .nils, .nils, .nils]) H1 fun a2 H2 E2 =>
  (offA a1 4).bind fun a3 =>
  (loadA false 1 a3 H2).bind fun a4 =>
  (ixA 5 a4 (.int .i64 0) H2).bind fun a5 =>
  (loadA true 5 a5 H2).bind fun a6 =>
  newK (.agg [(.int .i64 0), .nils, .nils, .nils, .nils]) H2 fun a7 H7 E7 =>
  stoK 5 a7 a6 H7 fun H8 E8 =>
  (offA a7 4).bind fun a9 =>
  (loadA false 1 a9 H8).bind fun a10 =>
  (ixA 5 a10 (.int .i64 0) H8).bind fun a11 =>
  (loadA true 5 a11 H8).bind fun a12 =>
  (offA a7 1).bind fun a13 =>
  (loadA false 1 a13 H8).bind fun a14 =>
  (offA a7 2).bind fun a15 =>
  (loadA false 1 a15 H8).bind fun a16 =>
  (offA a7 4).bind fun a17 =>
  (loadA false 1 a17 H8).bind fun a18 =>
  (ixA 5 a18 (.int .i64 1) H8).bind fun a19 =>
  (loadA true 5 a19 H8).bind fun a20 =>
  (offA a1 1).bind fun a21 =>
  (loadA false 1 a21 H8).bind fun a22 =>
  (offA a1 2).bind fun a23 =>
  (loadA false 1 a23 H8).bind fun a24 =>
  (offA a1 4).bind fun a25 =>
  (loadA false 1 a25 H8).bind fun a26 =>
  (ixA 5 a26 (.int .i64 1) H8).bind fun a27 =>
  (loadA true 5 a27 H8).bind fun a28 =>
  (callD (EV C) n_avl_node [a20, a22, a24, a28] H8).bind fun a29 =>
  (callD (EV C) n_avl_node [a12, a14, a16, a29] H8).bind fun a30 =>
  stoK 5 a2 a30 H8 fun H31 E31 =>
  (loadA true 5 a2 H31).bind fun a32 =>
  endB false false n a32 H31 (E31 ++ (E8 ++ (E7 ++ (E2 ++ (E1 ++ []))))))) (List.length H) = some r) : EV C n_avl_right [x0] H = some r :=
  EV_of_fnK' (fn := Try.f92) (by kernel_rfl) (by kernel_rfl) (by kernel_rfl) hh
theorem avl_Put_of {r : R3} {x0 x1 x2 : AV} {H : List AObj} (hh : (fun n => (
  newK x0 H fun a1 H1 E1 =>
  newK (.agg [(.int .i64 0), .nils, .nils, .nils, .nils]) H1 fun a2 H2 E2 =>
  (loadA true 5 a1 H2).bind fun a3 =>
  callK (EV C) false n_avl_asked [a3, x1, x2] H2 fun a4 H4 E4 =>
  (binA .neq (Go.TypeDesc.interface #[("Error", 118)]) (cmpT Try.prog) true a4 .nili).bind fun a5 =>
  condK a5
    ((fillB (AV.cells (.agg [(.int .i64 0), .nils, .nils, .nils, .nils])) []).bind fun c6 =>
    stoK 5 a2 (.agg c6) H4 fun H7 E7 =>
    (loadA true 5 a2 H7).bind fun a8 =>
    endB false false n (.tup [a8, a4]) H7 (E7 ++ (E4 ++ (E2 ++ (E1 ++ [])))))
    ((loadA true 5 a1 H4).bind fun a9 =>
    (callD (EV C) n_Clone_byte [x1] H4).bind fun a10 =>
    (callD (EV C) n_Clone_byte [x2] H4).bind fun a11 =>
    (callD (EV C) n_avl_put [a9, a10, a11] H4).bind fun a12 =>
    stoK 5 a2 a12 H4 fun H13 E13 =>
    (loadA true 5 a2 H13).bind fun a14 =>
    endB false false n (.tup [a14, .nili]) H13 (E13 ++ (E4 ++ (E2 ++ (E1 ++ []))))))) (List.length H) = some r) : EV C n_avl_Put [x0, x1, x2] H = some r :=
  EV_of_fnK' (fn := Try.f50) (by kernel_rfl) (by kernel_rfl) (by kernel_rfl) hh
noncomputable def ref05_Get_J3 (n : Nat) (t1 t6 t7 : AV) (H : List AObj) (E : List Nat) : Option R3 :=
  loopK Try.prog C.G (EV C) (C.hint 26) Try.f26 (cAt (bodyOf Try.f26) [1, 1, 0, 1, 0, 0]) (kAt Try.prog C.G (EV C) (C.hint 26) Try.f26 (bodyOf Try.f26) [1, 1, 0, 1, 0] [] (endK Try.prog (C.hint 26) Try.f26 n))
    ⟨pat 30 [(1, t1), (6, t6), (7, t7)], H, E⟩
theorem ref05_Get_J3_of {r : R3} {n : Nat} {t1 t6 t7 : AV} {H : List AObj} {E : List Nat} (hh : (
  (lenV t6 H).bind fun a1 =>
  (binA .lss (Go.TypeDesc.int Go.IntKind.i64) (cmpT Try.prog) false t7 a1).bind fun a2 =>
  condK a2
    ((ixA 5 t6 t7 H).bind fun a3 =>
    (offA a3 1).bind fun a4 =>
    (loadA false 1 a4 H).bind fun a5 =>
    (cvL a5 H).bind fun a6 =>
    (cvL t1 H).bind fun a7 =>
    (binA .eql Go.TypeDesc.string (cmpT Try.prog) false a6 a7).bind fun a8 =>
    condK a8
      ((ixA 5 t6 t7 H).bind fun a9 =>
      (offA a9 2).bind fun a10 =>
      (loadA false 1 a10 H).bind fun a11 =>
      endB false false n (.tup [a11, (.bool true)]) H E)
      ((binA .add (Go.TypeDesc.int Go.IntKind.i64) (cmpT Try.prog) true t7 (.int .i64 1)).bind fun a12 =>
      ref05_Get_J3 n t1 t6 a12 H E))
    (endB false false n (.tup [.nils, (.bool false)]) H E)) = some r) : ref05_Get_J3 n t1 t6 t7 H E = some r :=
  loop_step' (by kernel_rfl) hh
theorem ref05_Get_of {r : R3} {x0 x1 : AV} {H : List AObj} (hh : (fun n => (
  newK x0 H fun a1 H1 E1 =>
  (loadA true 5 a1 H1).bind fun a2 =>
  callK (EV C) false n_ref04_List [a2] H1 fun a3 H3 E3 =>
  ref05_Get_J3 n x1 a3 (.int .i64 0) H3 (E3 ++ (E1 ++ [])))) (List.length H) = some r) : EV C n_ref05_Get [x0, x1] H = some r :=
  EV_of_fnK' (fn := Try.f26) (by kernel_rfl) (by kernel_rfl) (by kernel_rfl) hh
theorem ref05_Delete_of {r : R3} {x0 x1 : AV} {H : List AObj} (hh : (fun n => (
  newK x0 H fun a1 H1 E1 =>
  newK (.agg [(.int .i64 0), .nils, .nils, .nils, .nils]) H1 fun a2 H2 E2 =>
  (offA a1 4).bind fun a3 =>
  (loadA false 1 a3 H2).bind fun a4 =>
  (lenV a4 H2).bind fun a5 =>
  (binA .eql (Go.TypeDesc.int Go.IntKind.i64) (cmpT Try.prog) true a5 (.int .i64 0)).bind fun a6 =>
  condK a6
    ((loadA true 5 a1 H2).bind fun a7 =>
    stoK 5 a2 a7 H2 fun H8 E8 =>
    (loadA true 5 a2 H8).bind fun a9 =>
    endB false false n a9 H8 (E8 ++ (E2 ++ (E1 ++ []))))
    ((offA a1 4).bind fun a10 =>
    (loadA false 1 a10 H2).bind fun a11 =>
    (ixA 5 a11 (.int .i64 0) H2).bind fun a12 =>
    (loadA true 5 a12 H2).bind fun a13 =>
    newK (.agg [(.int .i64 0), .nils, .nils, .nils, .nils]) H2 fun a14 H14 E14 =>
    stoK 5 a14 a13 H14 fun H15 E15 =>
    (offA a1 4).bind fun a16 =>
    (loadA false 1 a16 H15).bind fun a17 =>
    (ixA 5 a17 (.int .i64 1) H15).bind fun a18 =>
    (loadA true 5 a18 H15).bind fun a19 =>
    newK (.agg [(.int .i64 0), .nils, .nils, .nils, .nils]) H15 fun a20 H20 E20 =>
    stoK 5 a20 a19 H20 fun H21 E21 =>
    (cvL x1 H21).bind fun a22 =>
    (offA a1 1).bind fun a23 =>
    (loadA false 1 a23 H21).bind fun a24 =>
    (cvL a24 H21).bind fun a25 =>
    (binA .lss Go.TypeDesc.string (cmpT Try.prog) false a22 a25).bind fun a26 =>
    condK a26
      ((loadA true 5 a14 H21).bind fun a27 =>
      (callD (EV C) n_ref05_Delete [a27, x1] H21).bind fun a28 =>
      (offA a1 1).bind fun a29 =>
      (loadA false 1 a29 H21).bind fun a30 =>
      (offA a1 2).bind fun a31 =>
      (loadA false 1 a31 H21).bind fun a32 =>
      (loadA true 5 a20 H21).bind fun a33 =>
      (callD (EV C) n_ref05_Node [a28, a30, a32, a33] H21).bind fun a34 =>
      (callD (EV C) n_ref05_level [a34] H21).bind fun a35 =>
      stoK 5 a2 a35 H21 fun H36 E36 =>
      (loadA true 5 a2 H36).bind fun a37 =>
      endB false false n a37 H36 (E36 ++ (E21 ++ (E20 ++ (E15 ++ (E14 ++ (E2 ++ (E1 ++ []))))))))
      ((cvL x1 H21).bind fun a38 =>
      (offA a1 1).bind fun a39 =>
      (loadA false 1 a39 H21).bind fun a40 =>
      (cvL a40 H21).bind fun a41 =>
      (binA .gtr Go.TypeDesc.string (cmpT Try.prog) false a38 a41).bind fun a42 =>
      condK a42
        ((loadA true 5 a14 H21).bind fun a43 =>
        (offA a1 1).bind fun a44 =>
        (loadA false 1 a44 H21).bind fun a45 =>
        (offA a1 2).bind fun a46 =>
        (loadA false 1 a46 H21).bind fun a47 =>
        (loadA true 5 a20 H21).bind fun a48 =>
        (callD (EV C) n_ref05_Delete [a48, x1] H21).bind fun a49 =>
        (callD (EV C) n_ref05_Node [a43, a45, a47, a49] H21).bind fun a50 =>
        (callD (EV C) n_ref05_level [a50] H21).bind fun a51 =>
        stoK 5 a2 a51 H21 fun H52 E52 =>
        (loadA true 5 a2 H52).bind fun a53 =>
        endB false false n a53 H52 (E52 ++ (E21 ++ (E20 ++ (E15 ++ (E14 ++ (E2 ++ (E1 ++ []))))))))
        ((offA a14 4).bind fun a54 =>
        (loadA false 1 a54 H21).bind fun a55 =>
        (lenV a55 H21).bind fun a56 =>
        (binA .eql (Go.TypeDesc.int Go.IntKind.i64) (cmpT Try.prog) true a56 (.int .i64 0)).bind fun a57 =>
        condK a57
          ((loadA true 5 a20 H21).bind fun a58 =>
          stoK 5 a2 a58 H21 fun H59 E59 =>
          (loadA true 5 a2 H59).bind fun a60 =>
          endB false false n a60 H59 (E59 ++ (E21 ++ (E20 ++ (E15 ++ (E14 ++ (E2 ++ (E1 ++ []))))))))
          ((offA a20 4).bind fun a61 =>
          (loadA false 1 a61 H21).bind fun a62 =>
          (lenV a62 H21).bind fun a63 =>
          (binA .eql (Go.TypeDesc.int Go.IntKind.i64) (cmpT Try.prog) true a63 (.int .i64 0)).bind fun a64 =>
          condK a64
            ((loadA true 5 a14 H21).bind fun a65 =>
            stoK 5 a2 a65 H21 fun H66 E66 =>
            (loadA true 5 a2 H66).bind fun a67 =>
            endB false false n a67 H66 (E66 ++ (E21 ++ (E20 ++ (E15 ++ (E14 ++ (E2 ++ (E1 ++ []))))))))
            ((loadA true 5 a20 H21).bind fun a68 =>
            callK (EV C) false n_ref04_List [a68] H21 fun a69 H69 E69 =>
            (ixA 5 a69 (.int .i64 0) H69).bind fun a70 =>
            (loadA true 5 a70 H69).bind fun a71 =>
            newK (.agg [(.int .i64 0), .nils, .nils, .nils, .nils]) H69 fun a72 H72 E72 =>
            stoK 5 a72 a71 H72 fun H73 E73 =>
            (loadA true 5 a14 H73).bind fun a74 =>
            (offA a72 1).bind fun a75 =>
            (loadA false 1 a75 H73).bind fun a76 =>
            (offA a72 2).bind fun a77 =>
            (loadA false 1 a77 H73).bind fun a78 =>
            (loadA true 5 a20 H73).bind fun a79 =>
            (offA a72 1).bind fun a80 =>
            (loadA false 1 a80 H73).bind fun a81 =>
            (callD (EV C) n_ref05_Delete [a79, a81] H73).bind fun a82 =>
            (callD (EV C) n_ref05_Node [a74, a76, a78, a82] H73).bind fun a83 =>
            (callD (EV C) n_ref05_level [a83] H73).bind fun a84 =>
            stoK 5 a2 a84 H73 fun H85 E85 =>
            (loadA true 5 a2 H85).bind fun a86 =>
            endB false false n a86 H85 (E85 ++ (E73 ++ (E72 ++ (E69 ++ (E21 ++ (E20 ++ (E15 ++ (E14 ++ (E2 ++ (E1 ++ []))))))))))))))))) (List.length H) = some r) : EV C n_ref05_Delete [x0, x1] H = some r :=
  EV_of_fnK' (fn := Try.f57) (by kernel_rfl) (by kernel_rfl) (by kernel_rfl) hh
end Go.Pm
