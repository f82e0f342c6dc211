/- A part of the proof: what the functions of the program answer, as plain lists and numbers. -/
import Derived.Test.YtaoklfecdcakbaaP9
namespace Go.Pm
open Go.Proofs
set_option linter.unusedVariables false
set_option maxRecDepth 100000
noncomputable def ref05_Grown_J3 (n : Nat) (t0 t2 t3 t4 : AV) (H : List AObj) (E : List Nat) : Option R3 :=
  loopK Try.prog C.G (EV C) (C.hint 27) Try.f27 (cAt (bodyOf Try.f27) [1, 1, 0, 1, 0, 0]) (kAt Try.prog C.G (EV C) (C.hint 27) Try.f27 (bodyOf Try.f27) [1, 1, 0, 1, 0] [] (endK Try.prog (C.hint 27) Try.f27 n))
    ⟨pat 45 [(0, t0), (2, t2), (3, t3), (4, t4)], H, E⟩
theorem ref05_Grown_J3_of {r : R3} {n : Nat} {t0 t2 t3 t4 : AV} {H : List AObj} {E : List Nat} (hh : (
  (lenV t0 H).bind fun a1 =>
  (binA .lss (Go.TypeDesc.int Go.IntKind.i64) (cmpT Try.prog) false t4 a1).bind fun a2 =>
  splitK a2
    ((binA .lss (Go.TypeDesc.int Go.IntKind.i64) (cmpT Try.prog) true t4 (.int .i64 60)).bind fun a3 =>
    condK a3
      ((ixA 2 t0 t4 H).bind fun a4 =>
      (offA a4 0).bind fun a5 =>
      (loadA false 1 a5 H).bind fun a6 =>
      (lenV a6 H).bind fun a7 =>
      (binA .leq (Go.TypeDesc.int Go.IntKind.i64) (cmpT Try.prog) true a7 (.int .i64 80)).bind fun a8 =>
      splitK a8
        ((ixA 2 t0 t4 H).bind fun a9 =>
        (offA a9 1).bind fun a10 =>
        (loadA false 1 a10 H).bind fun a11 =>
        (lenV a11 H).bind fun a12 =>
        (binA .leq (Go.TypeDesc.int Go.IntKind.i64) (cmpT Try.prog) true a12 (.int .i64 1024)).bind fun a13 =>
        condK a13
          ((loadA true 5 t3 H).bind fun a14 =>
          (ixA 2 t0 t4 H).bind fun a15 =>
          (offA a15 0).bind fun a16 =>
          (loadA false 1 a16 H).bind fun a17 =>
          (ixA 2 t0 t4 H).bind fun a18 =>
          (offA a18 1).bind fun a19 =>
          (loadA false 1 a19 H).bind fun a20 =>
          (callD (EV C) n_ref05_Put [a14, a17, a20] H).bind fun a21 =>
          stoK 5 t3 a21 H fun H22 E22 =>
          (binA .add (Go.TypeDesc.int Go.IntKind.i64) (cmpT Try.prog) true t4 (.int .i64 1)).bind fun a23 =>
          ref05_Grown_J3 n t0 t2 t3 a23 H22 ((E22 ++ []) ++ E))
          ((binA .add (Go.TypeDesc.int Go.IntKind.i64) (cmpT Try.prog) true t4 (.int .i64 1)).bind fun a24 =>
          ref05_Grown_J3 n t0 t2 t3 a24 H E))
        ((binA .add (Go.TypeDesc.int Go.IntKind.i64) (cmpT Try.prog) true t4 (.int .i64 1)).bind fun a25 =>
        ref05_Grown_J3 n t0 t2 t3 a25 H E))
      ((loadA true 5 t3 H).bind fun a26 =>
      stoK 5 t2 a26 H fun H27 E27 =>
      (loadA true 5 t2 H27).bind fun a28 =>
      endB false false n a28 H27 (E27 ++ E)))
    ((loadA true 5 t3 H).bind fun a29 =>
    stoK 5 t2 a29 H fun H30 E30 =>
    (loadA true 5 t2 H30).bind fun a31 =>
    endB false false n a31 H30 (E30 ++ E))) = some r) : ref05_Grown_J3 n t0 t2 t3 t4 H E = some r :=
  loop_step' (by kernel_rfl) hh
theorem ref05_Grown_of {r : R3} {x0 : AV} {H : List AObj} (hh : (fun n => (
  newK (.agg [(.int .i64 0), .nils, .nils, .nils, .nils]) H fun a1 H1 E1 =>
  (fillB (AV.cells (.agg [(.int .i64 0), .nils, .nils, .nils, .nils])) []).bind fun c2 =>
  newK (.agg [(.int .i64 0), .nils, .nils, .nils, .nils]) H1 fun a3 H3 E3 =>
  stoK 5 a3 (.agg c2) H3 fun H4 E4 =>
  ref05_Grown_J3 n x0 a1 a3 (.int .i64 0) H4 (E4 ++ (E3 ++ (E1 ++ []))))) (List.length H) = some r) : EV C n_ref05_Grown [x0] H = some r :=
  EV_of_fnK' (fn := Try.f27) (by kernel_rfl) (by kernel_rfl) (by kernel_rfl) hh
noncomputable def avl_Is_J5 (n : Nat) (t1 t3 t4 : AV) (H : List AObj) (E : List Nat) : Option R3 :=
  loopK Try.prog C.G (EV C) (C.hint 28) Try.f28 (cAt (bodyOf Try.f28) [1, 1, 1, 0, 1, 0, 0]) (kAt Try.prog C.G (EV C) (C.hint 28) Try.f28 (bodyOf Try.f28) [1, 1, 1, 0, 1, 0] [] (endK Try.prog (C.hint 28) Try.f28 n))
    ⟨pat 37 [(1, t1), (3, t3), (4, t4)], H, E⟩
theorem avl_Is_J5_of {r : R3} {n : Nat} {t1 t3 t4 : AV} {H : List AObj} {E : List Nat} (hh : (
  (lenV t3 H).bind fun a1 =>
  (binA .lss (Go.TypeDesc.int Go.IntKind.i64) (cmpT Try.prog) false t4 a1).bind fun a2 =>
  condK a2
    ((binA .sub (Go.TypeDesc.int Go.IntKind.i64) (cmpT Try.prog) true t4 (.int .i64 1)).bind fun a3 =>
    (ixA 5 t3 a3 H).bind fun a4 =>
    (offA a4 1).bind fun a5 =>
    (loadA false 1 a5 H).bind fun a6 =>
    (ixA 5 t3 t4 H).bind fun a7 =>
    (offA a7 1).bind fun a8 =>
    (loadA false 1 a8 H).bind fun a9 =>
    (callD (EV C) n_bytes_Compare [a6, a9] H).bind fun a10 =>
    (binA .geq (Go.TypeDesc.int Go.IntKind.i64) (cmpT Try.prog) true a10 (.int .i64 0)).bind fun a11 =>
    condK a11
      (endB false false n (.bool false) H E)
      ((binA .add (Go.TypeDesc.int Go.IntKind.i64) (cmpT Try.prog) true t4 (.int .i64 1)).bind fun a12 =>
      avl_Is_J5 n t1 t3 a12 H E))
    ((loadA true 5 t1 H).bind fun a13 =>
    callK (EV C) false n_avl_even [a13] H fun a14 H14 E14 =>
    (extA a14 0).bind fun a15 =>
    (extA a14 1).bind fun a16 =>
    endB false false n a16 H14 (E14 ++ E))) = some r) : avl_Is_J5 n t1 t3 t4 H E = some r :=
  loop_step' (by kernel_rfl) hh
theorem avl_Is_of {r : R3} {x0 : AV} {H : List AObj} (hh : (fun n => (
  newK x0 H fun a1 H1 E1 =>
  (loadA true 5 a1 H1).bind fun a2 =>
  callK (EV C) false n_tree_Full [a2] H1 fun a3 H3 E3 =>
  (unA .not a3).bind fun a4 =>
  condK a4
    (endB false false n (.bool false) H3 (E3 ++ (E1 ++ [])))
    ((loadA true 5 a1 H3).bind fun a5 =>
    callK (EV C) false n_tree_List [a5] H3 fun a6 H6 E6 =>
    avl_Is_J5 n a1 a6 (.int .i64 1) H6 (E6 ++ (E3 ++ (E1 ++ [])))))) (List.length H) = some r) : EV C n_avl_Is [x0] H = some r :=
  EV_of_fnK' (fn := Try.f28) (by kernel_rfl) (by kernel_rfl) (by kernel_rfl) hh
noncomputable def Concat_byte_J3 (n : Nat) (t0 t3 t9 t10 t11 : AV) (H : List AObj) (E : List Nat) : Option R3 :=
  loopK Try.prog C.G (EV C) (C.hint 35) Try.f35 (cAt (bodyOf Try.f35) [1, 1, 0, 1, 0, 0]) (kAt Try.prog C.G (EV C) (C.hint 35) Try.f35 (bodyOf Try.f35) [1, 1, 0, 1, 0] [] (endK Try.prog (C.hint 35) Try.f35 n))
    ⟨pat 36 [(0, t0), (3, t3), (9, t9), (10, t10), (11, t11)], H, E⟩
noncomputable def Concat_byte_J11 (n : Nat) (t6 t25 t26 t27 : AV) (H : List AObj) (E : List Nat) : Option R3 :=
  loopK Try.prog C.G (EV C) (C.hint 35) Try.f35 (cAt (bodyOf Try.f35) [1, 1, 1, 1, 0, 1, 0, 0]) (kAt Try.prog C.G (EV C) (C.hint 35) Try.f35 (bodyOf Try.f35) [1, 1, 1, 1, 0, 1, 0] [] (endK Try.prog (C.hint 35) Try.f35 n))
    ⟨pat 36 [(6, t6), (25, t25), (26, t26), (27, t27)], H, E⟩
theorem Concat_byte_J3_of {r : R3} {n : Nat} {t0 t3 t9 t10 t11 : AV} {H : List AObj} {E : List Nat} (hh : (
  (binA .lss (Go.TypeDesc.int Go.IntKind.i64) (cmpT Try.prog) false t11 t10).bind fun a1 =>
  condK a1
    ((ixA 1 t9 t11 H).bind fun a2 =>
    (loadA false 1 a2 H).bind fun a3 =>
    (lenV a3 H).bind fun a4 =>
    (binA .add (Go.TypeDesc.int Go.IntKind.i64) (cmpT Try.prog) false t3 a4).bind fun a5 =>
    (binA .lss (Go.TypeDesc.int Go.IntKind.i64) (cmpT Try.prog) true a5 (.int .i64 0)).bind fun a6 =>
    condK a6
      (none)
      ((binA .add (Go.TypeDesc.int Go.IntKind.i64) (cmpT Try.prog) true t11 (.int .i64 1)).bind fun a7 =>
      Concat_byte_J3 n t0 a5 t9 t10 a7 H E))
    (callK (EV C) true n_Grow_byte [.nils, t3] H fun a8 H8 E8 =>
    (lenV t0 H8).bind fun a9 =>
    Concat_byte_J11 n a8 t0 a9 (.int .i64 0) H8 (E8 ++ E))) = some r) : Concat_byte_J3 n t0 t3 t9 t10 t11 H E = some r :=
  loop_step' (by kernel_rfl) hh
theorem Concat_byte_J11_of {r : R3} {n : Nat} {t6 t25 t26 t27 : AV} {H : List AObj} {E : List Nat} (hh : (
  (binA .lss (Go.TypeDesc.int Go.IntKind.i64) (cmpT Try.prog) false t27 t26).bind fun a1 =>
  condK a1
    ((ixA 1 t25 t27 H).bind fun a2 =>
    (loadA false 1 a2 H).bind fun a3 =>
    appK 1 1 t6 a3 H fun a4 H4 E4 =>
    (binA .add (Go.TypeDesc.int Go.IntKind.i64) (cmpT Try.prog) true t27 (.int .i64 1)).bind fun a5 =>
    Concat_byte_J11 n a4 t25 t26 a5 H4 ((E4 ++ []) ++ E))
    (endB false false n t6 H E)) = some r) : Concat_byte_J11 n t6 t25 t26 t27 H E = some r :=
  loop_step' (by kernel_rfl) hh
theorem Concat_byte_of {r : R3} {x0 : AV} {H : List AObj} (hh : (fun n => (
  (lenV x0 H).bind fun a1 =>
  Concat_byte_J3 n x0 (.int .i64 0) x0 a1 (.int .i64 0) H [])) (List.length H) = some r) : EV C n_Concat_byte [x0] H = some r :=
  EV_of_fnK' (fn := Try.f35) (by kernel_rfl) (by kernel_rfl) (by kernel_rfl) hh
theorem ref04_List_of {r : R3} {x0 : AV} {H : List AObj} (hh : (fun n => (
  newK x0 H fun a1 H1 E1 =>
  (offA a1 4).bind fun a2 =>
  (loadA false 1 a2 H1).bind fun a3 =>
  (lenV a3 H1).bind fun a4 =>
  (binA .eql (Go.TypeDesc.int Go.IntKind.i64) (cmpT Try.prog) true a4 (.int .i64 0)).bind fun a5 =>
  condK a5
    (endB false false n .nils H1 (E1 ++ []))
    (rawK 5 0 (.agg [(.int .i64 0), .nils, .nils, .nils, .nils]) [] H1 fun a6 H6 E6 =>
    (offA a1 4).bind fun a7 =>
    (loadA false 1 a7 H6).bind fun a8 =>
    (ixA 5 a8 (.int .i64 0) H6).bind fun a9 =>
    (loadA true 5 a9 H6).bind fun a10 =>
    callK (EV C) false n_ref04_List [a10] H6 fun a11 H11 E11 =>
    appK 5 104 a6 a11 H11 fun a12 H12 E12 =>
    (loadA true 5 a1 H12).bind fun a13 =>
    litK 5 1 (.agg [(.int .i64 0), .nils, .nils, .nils, .nils]) [(0, a13)] H12 fun a14 H14 E14 =>
    appK 5 104 a12 a14 H14 fun a15 H15 E15 =>
    (offA a1 4).bind fun a16 =>
    (loadA false 1 a16 H15).bind fun a17 =>
    (ixA 5 a17 (.int .i64 1) H15).bind fun a18 =>
    (loadA true 5 a18 H15).bind fun a19 =>
    callK (EV C) false n_ref04_List [a19] H15 fun a20 H20 E20 =>
    appK 5 104 a15 a20 H20 fun a21 H21 E21 =>
    endB false false n a21 H21 (E21 ++ (E20 ++ (E15 ++ (E14 ++ (E12 ++ (E11 ++ (E6 ++ (E1 ++ []))))))))))) (List.length H) = some r) : EV C n_ref04_List [x0] H = some r :=
  EV_of_fnK' (fn := Try.f54) (by kernel_rfl) (by kernel_rfl) (by kernel_rfl) hh
theorem ref04_Depth_of {r : R3} {x0 : AV} {H : List AObj} (hh : (fun n => (
  newK x0 H fun a1 H1 E1 =>
  (offA a1 4).bind fun a2 =>
  (loadA false 1 a2 H1).bind fun a3 =>
  (lenV a3 H1).bind fun a4 =>
  (binA .eql (Go.TypeDesc.int Go.IntKind.i64) (cmpT Try.prog) true a4 (.int .i64 0)).bind fun a5 =>
  condK a5
    (endB false false n (.int .i64 0) H1 (E1 ++ []))
    ((offA a1 4).bind fun a6 =>
    (loadA false 1 a6 H1).bind fun a7 =>
    (ixA 5 a7 (.int .i64 0) H1).bind fun a8 =>
    (loadA true 5 a8 H1).bind fun a9 =>
    callK (EV C) false n_ref04_Depth [a9] H1 fun a10 H10 E10 =>
    (offA a1 4).bind fun a11 =>
    (loadA false 1 a11 H10).bind fun a12 =>
    (ixA 5 a12 (.int .i64 1) H10).bind fun a13 =>
    (loadA true 5 a13 H10).bind fun a14 =>
    callK (EV C) false n_ref04_Depth [a14] H10 fun a15 H15 E15 =>
    (binA .gtr (Go.TypeDesc.int Go.IntKind.i64) (cmpT Try.prog) false a10 a15).bind fun a16 =>
    condK a16
      ((binA .add (Go.TypeDesc.int Go.IntKind.i64) (cmpT Try.prog) true a10 (.int .i64 1)).bind fun a17 =>
      endB false false n a17 H15 (E15 ++ (E10 ++ (E1 ++ []))))
      ((binA .add (Go.TypeDesc.int Go.IntKind.i64) (cmpT Try.prog) true a15 (.int .i64 1)).bind fun a18 =>
      endB false false n a18 H15 (E15 ++ (E10 ++ (E1 ++ []))))))) (List.length H) = some r) : EV C n_ref04_Depth [x0] H = some r :=
  EV_of_fnK' (fn := Try.f55) (by kernel_rfl) (by kernel_rfl) (by kernel_rfl) hh
theorem ref05_Put_of {r : R3} {x0 x1 x2 : AV} {H : List AObj} (hh : (fun n => (
  newK x0 H fun a1 H1 E1 =>
  newK (.agg [(.int .i64 0), .nils, .nils, .nils, .nils]) H1 fun a2 H2 E2 =>
  (offA a1 4).bind fun a3 =>
  (loadA false 1 a3 H2).bind fun a4 =>
  (lenV a4 H2).bind fun a5 =>
  (binA .eql (Go.TypeDesc.int Go.IntKind.i64) (cmpT Try.prog) true a5 (.int .i64 0)).bind fun a6 =>
  condK a6
    ((fillB (AV.cells (.agg [(.int .i64 0), .nils, .nils, .nils, .nils])) []).bind fun c7 =>
    (fillB (AV.cells (.agg [(.int .i64 0), .nils, .nils, .nils, .nils])) []).bind fun c8 =>
    callK (EV C) false n_ref05_Node [(.agg c7), x1, x2, (.agg c8)] H2 fun a9 H9 E9 =>
    stoK 5 a2 a9 H9 fun H10 E10 =>
    (loadA true 5 a2 H10).bind fun a11 =>
    endB false false n a11 H10 (E10 ++ (E9 ++ (E2 ++ (E1 ++ [])))))
    ((cvL x1 H2).bind fun a12 =>
    (offA a1 1).bind fun a13 =>
    (loadA false 1 a13 H2).bind fun a14 =>
    (cvL a14 H2).bind fun a15 =>
    (binA .eql Go.TypeDesc.string (cmpT Try.prog) false a12 a15).bind fun a16 =>
    condK a16
      ((offA a1 4).bind fun a17 =>
      (loadA false 1 a17 H2).bind fun a18 =>
      (ixA 5 a18 (.int .i64 0) H2).bind fun a19 =>
      (loadA true 5 a19 H2).bind fun a20 =>
      (offA a1 4).bind fun a21 =>
      (loadA false 1 a21 H2).bind fun a22 =>
      (ixA 5 a22 (.int .i64 1) H2).bind fun a23 =>
      (loadA true 5 a23 H2).bind fun a24 =>
      (callD (EV C) n_ref05_Node [a20, x1, x2, a24] H2).bind fun a25 =>
      stoK 5 a2 a25 H2 fun H26 E26 =>
      (loadA true 5 a2 H26).bind fun a27 =>
      endB false false n a27 H26 (E26 ++ (E2 ++ (E1 ++ []))))
      ((cvL x1 H2).bind fun a28 =>
      (offA a1 1).bind fun a29 =>
      (loadA false 1 a29 H2).bind fun a30 =>
      (cvL a30 H2).bind fun a31 =>
      (binA .lss Go.TypeDesc.string (cmpT Try.prog) false a28 a31).bind fun a32 =>
      condK a32
        ((offA a1 4).bind fun a33 =>
        (loadA false 1 a33 H2).bind fun a34 =>
        (ixA 5 a34 (.int .i64 0) H2).bind fun a35 =>
        (loadA true 5 a35 H2).bind fun a36 =>
        (callD (EV C) n_ref05_Put [a36, x1, x2] H2).bind fun a37 =>
        (offA a1 1).bind fun a38 =>
        (loadA false 1 a38 H2).bind fun a39 =>
        (offA a1 2).bind fun a40 =>
        (loadA false 1 a40 H2).bind fun a41 =>
        (offA a1 4).bind fun a42 =>
        (loadA false 1 a42 H2).bind fun a43 =>
        (ixA 5 a43 (.int .i64 1) H2).bind fun a44 =>
        (loadA true 5 a44 H2).bind fun a45 =>
        (callD (EV C) n_ref05_Node [a37, a39, a41, a45] H2).bind fun a46 =>
        (callD (EV C) n_ref05_level [a46] H2).bind fun a47 =>
        stoK 5 a2 a47 H2 fun H48 E48 =>
        (loadA true 5 a2 H48).bind fun a49 =>
        endB false false n a49 H48 (E48 ++ (E2 ++ (E1 ++ []))))
        ((offA a1 4).bind fun a50 =>
        (loadA false 1 a50 H2).bind fun a51 =>
        (ixA 5 a51 (.int .i64 0) H2).bind fun a52 =>
        (loadA true 5 a52 H2).bind fun a53 =>
        (offA a1 1).bind fun a54 =>
        (loadA false 1 a54 H2).bind fun a55 =>
        (offA a1 2).bind fun a56 =>
        (loadA false 1 a56 H2).bind fun a57 =>
        (offA a1 4).bind fun a58 =>
        (loadA false 1 a58 H2).bind fun a59 =>
        (ixA 5 a59 (.int .i64 1) H2).bind fun a60 =>
        (loadA true 5 a60 H2).bind fun a61 =>
        (callD (EV C) n_ref05_Put [a61, x1, x2] H2).bind fun a62 =>
        (callD (EV C) n_ref05_Node [a53, a55, a57, a62] H2).bind fun a63 =>
        (callD (EV C) n_ref05_level [a63] H2).bind fun a64 =>
        stoK 5 a2 a64 H2 fun H65 E65 =>
        (loadA true 5 a2 H65).bind fun a66 =>
        endB false false n a66 H65 (E65 ++ (E2 ++ (E1 ++ [])))))))) (List.length H) = some r) : EV C n_ref05_Put [x0, x1, x2] H = some r :=
  EV_of_fnK' (fn := Try.f56) (by kernel_rfl) (by kernel_rfl) (by kernel_rfl) hh
theorem tree_Full_of {r : R3} {x0 : AV} {H : List AObj} (hh : (fun n => (
  newK x0 H fun a1 H1 E1 =>
  (loadA true 5 a1 H1).bind fun a2 =>
  callK (EV C) false n_tree_Check [a2] H1 fun a3 H3 E3 =>
  (binA .eql (Go.TypeDesc.interface #[("Error", 118)]) (cmpT Try.prog) true a3 .nili).bind fun a4 =>
  splitK a4
    ((loadA true 5 a1 H3).bind fun a5 =>
    callK (EV C) false n_tree_full [a5] H3 fun a6 H6 E6 =>
    endB false false n a6 H6 (E6 ++ (E3 ++ (E1 ++ []))))
    (endB false false n (.bool false) H3 (E3 ++ (E1 ++ []))))) (List.length H) = some r) : EV C n_tree_Full [x0] H = some r :=
  EV_of_fnK' (fn := Try.f60) (by kernel_rfl) (by kernel_rfl) (by kernel_rfl) hh
theorem tree_List_of {r : R3} {x0 : AV} {H : List AObj} (hh : (fun n => (
  newK x0 H fun a1 H1 E1 =>
  (loadA true 5 a1 H1).bind fun a2 =>
  callK (EV C) false n_tree_Check [a2] H1 fun a3 H3 E3 =>
  (binA .neq (Go.TypeDesc.interface #[("Error", 118)]) (cmpT Try.prog) true a3 .nili).bind fun a4 =>
  condK a4
    (endB false false n .nils H3 (E3 ++ (E1 ++ [])))
    (newK .nils H3 fun a5 H5 E5 =>
    newK .nilf H5 fun a6 H6 E6 =>
    stoK 1 a6 (.clo n_tree_List_1 [] [a6, a5]) H6 fun H7 E7 =>
    (loadA false 1 a6 H7).bind fun a8 =>
    (loadA true 5 a1 H7).bind fun a9 =>
    valK Try.prog (EV C) false a8 [a9] H7 fun a10 H10 E10 =>
    (loadA false 1 a5 H10).bind fun a11 =>
    endB false false n a11 H10 (E10 ++ (E7 ++ (E6 ++ (E5 ++ (E3 ++ (E1 ++ []))))))))) (List.length H) = some r) : EV C n_tree_List [x0] H = some r :=
  EV_of_fnK' (fn := Try.f61) (by kernel_rfl) (by kernel_rfl) (by kernel_rfl) hh
theorem avl_even_of {r : R3} {x0 : AV} {H : List AObj} (hh : (fun n => (
  newK x0 H fun a1 H1 E1 =>
  (offA a1 4).bind fun a2 =>
  (loadA false 1 a2 H1).bind fun a3 =>
  (lenV a3 H1).bind fun a4 =>
  (binA .eql (Go.TypeDesc.int Go.IntKind.i64) (cmpT Try.prog) true a4 (.int .i64 0)).bind fun a5 =>
  condK a5
    (endB false false n (.tup [(.int .i64 0), (.bool true)]) H1 (E1 ++ []))
    ((offA a1 4).bind fun a6 =>
    (loadA false 1 a6 H1).bind fun a7 =>
    (ixA 5 a7 (.int .i64 0) H1).bind fun a8 =>
    (loadA true 5 a8 H1).bind fun a9 =>
    callK (EV C) false n_avl_even [a9] H1 fun a10 H10 E10 =>
    (extA a10 0).bind fun a11 =>
    (extA a10 1).bind fun a12 =>
    (offA a1 4).bind fun a13 =>
    (loadA false 1 a13 H10).bind fun a14 =>
    (ixA 5 a14 (.int .i64 1) H10).bind fun a15 =>
    (loadA true 5 a15 H10).bind fun a16 =>
    callK (EV C) false n_avl_even [a16] H10 fun a17 H17 E17 =>
    (extA a17 0).bind fun a18 =>
    (extA a17 1).bind fun a19 =>
    (maxA [a11, a18]).bind fun a20 =>
    (binA .add (Go.TypeDesc.int Go.IntKind.i64) (cmpT Try.prog) true a20 (.int .i64 1)).bind fun a21 =>
    splitK a12
      (splitK a19
        ((binA .sub (Go.TypeDesc.int Go.IntKind.i64) (cmpT Try.prog) false a11 a18).bind fun a22 =>
        (binA .leq (Go.TypeDesc.int Go.IntKind.i64) (cmpT Try.prog) true a22 (.int .i64 1)).bind fun a23 =>
        splitK a23
          ((binA .sub (Go.TypeDesc.int Go.IntKind.i64) (cmpT Try.prog) false a18 a11).bind fun a24 =>
          (binA .leq (Go.TypeDesc.int Go.IntKind.i64) (cmpT Try.prog) true a24 (.int .i64 1)).bind fun a25 =>
          endB false false n (.tup [a21, a25]) H17 (E17 ++ (E10 ++ (E1 ++ []))))
          (endB false false n (.tup [a21, (.bool false)]) H17 (E17 ++ (E10 ++ (E1 ++ [])))))
        (endB false false n (.tup [a21, (.bool false)]) H17 (E17 ++ (E10 ++ (E1 ++ [])))))
      (endB false false n (.tup [a21, (.bool false)]) H17 (E17 ++ (E10 ++ (E1 ++ []))))))) (List.length H) = some r) : EV C n_avl_even [x0] H = some r :=
  EV_of_fnK' (fn := Try.f63) (by kernel_rfl) (by kernel_rfl) (by kernel_rfl) hh
theorem Grow_byte_of {r : R3} {x0 x1 : AV} {H : List AObj} (hh : (fun n => (
  (binA .lss (Go.TypeDesc.int Go.IntKind.i64) (cmpT Try.prog) true x1 (.int .i64 0)).bind fun a1 =>
  condK a1
    (none)
    ((capA x0).bind fun a2 =>
    (lenV x0 H).bind fun a3 =>
    (binA .sub (Go.TypeDesc.int Go.IntKind.i64) (cmpT Try.prog) false a2 a3).bind fun a4 =>
    (binA .sub (Go.TypeDesc.int Go.IntKind.i64) (cmpT Try.prog) false x1 a4).bind fun a5 =>
    (binA .gtr (Go.TypeDesc.int Go.IntKind.i64) (cmpT Try.prog) true a5 (.int .i64 0)).bind fun a6 =>
    condK a6
      ((capA x0).bind fun a7 =>
      (cutA 1 x0 none (some a7) none H).bind fun a8 =>
      zapK 1 1 (.int .u8 0) a8 a5 H fun a9 H9 E9 =>
      (lenV x0 H9).bind fun a10 =>
      (cutA 1 a9 none (some a10) none H9).bind fun a11 =>
      trmK a11 H9 [] fun a12 H12 E12 =>
      endB true true n a12 H12 (E12 ++ (E9 ++ [])))
      (endB true true n x0 H [])))) (List.length H) = some r) : EV C n_Grow_byte [x0, x1] H = some r :=
  EV_of_fnK' (fn := Try.f66) (by kernel_rfl) (by kernel_rfl) (by kernel_rfl) hh
theorem Clone_byte_of {r : R3} {x0 : AV} {H : List AObj} (hh : (fun n => (
  (binA .eql (Go.TypeDesc.slice 5) (cmpT Try.prog) true x0 .nils).bind fun a1 =>
  condK a1
    (endB false false n .nils H [])
    (rawK 1 0 (.int .u8 0) [] H fun a2 H2 E2 =>
    appK 1 1 a2 x0 H2 fun a3 H3 E3 =>
    endB false false n a3 H3 (E3 ++ (E2 ++ []))))) (List.length H) = some r) : EV C0 n_Clone_byte [x0] H = some r :=
  EV_of_fnK' (fn := Try.f67) (by kernel_rfl) (by kernel_rfl) (by kernel_rfl) hh
theorem ref05_Node_of {r : R3} {x0 x1 x2 x3 : AV} {H : List AObj} (hh : (fun n => (
  newK x0 H fun a1 H1 E1 =>
  newK x3 H1 fun a2 H2 E2 =>
  newK (.agg [(.int .i64 0), .nils, .nils, .nils, .nils]) H2 fun a3 H3 E3 =>
  (loadA true 5 a1 H3).bind fun a4 =>
  (loadA true 5 a2 H3).bind fun a5 =>
  litK 5 2 (.agg [(.int .i64 0), .nils, .nils, .nils, .nils]) [(0, a4), (1, a5)] H3 fun a6 H6 E6 =>
  (fillB (AV.cells (.agg [(.int .i64 0), .nils, .nils, .nils, .nils])) [(0, 1, (.int .i64 1)), (1, 1, x1), (2, 1, x2), (4, 1, a6)]).bind fun c7 =>
  stoK 5 a3 (.agg c7) H6 fun H8 E8 =>
  (loadA true 5 a3 H8).bind fun a9 =>
  endB false false n a9 H8 (E8 ++ (E6 ++ (E3 ++ (E2 ++ (E1 ++ []))))))) (List.length H) = some r) : EV C n_ref05_Node [x0, x1, x2, x3] H = some r :=
  EV_of_fnK' (fn := Try.f74) (by kernel_rfl) (by kernel_rfl) (by kernel_rfl) hh
theorem ref05_level_of {r : R3} {x0 : AV} {H : List AObj} (hh : (fun n => (
  newK x0 H fun a1 H1 E1 =>
  newK (.agg [(.int .i64 0), .nils, .nils, .nils, .nils]) H1 fun a2 H2 E2 =>
  (loadA true 5 a1 H2).bind fun a3 =>
  callK (EV C) false n_ref05_tilt [a3] H2 fun a4 H4 E4 =>
  (binA .eql (Go.TypeDesc.int Go.IntKind.i64) (cmpT Try.prog) true a4 (.int .i64 2)).bind fun a5 =>
  condK a5
    ((offA a1 4).bind fun a6 =>
    (loadA false 1 a6 H4).bind fun a7 =>
    (ixA 5 a7 (.int .i64 0) H4).bind fun a8 =>
    (loadA true 5 a8 H4).bind fun a9 =>
    callK (EV C) false n_ref05_tilt [a9] H4 fun a10 H10 E10 =>
    (binA .lss (Go.TypeDesc.int Go.IntKind.i64) (cmpT Try.prog) true a10 (.int .i64 0)).bind fun a11 =>
    condK a11
      ((offA a1 4).bind fun a12 =>
      (loadA false 1 a12 H10).bind fun a13 =>
      (ixA 5 a13 (.int .i64 0) H10).bind fun a14 =>
      (loadA true 5 a14 H10).bind fun a15 =>
      (callD (EV C) n_ref05_left [a15] H10).bind fun a16 =>
      (offA a1 1).bind fun a17 =>
      (loadA false 1 a17 H10).bind fun a18 =>
      (offA a1 2).bind fun a19 =>
      (loadA false 1 a19 H10).bind fun a20 =>
      (offA a1 4).bind fun a21 =>
      (loadA false 1 a21 H10).bind fun a22 =>
      (ixA 5 a22 (.int .i64 1) H10).bind fun a23 =>
      (loadA true 5 a23 H10).bind fun a24 =>
      (callD (EV C) n_ref05_Node [a16, a18, a20, a24] H10).bind fun a25 =>
      stoK 5 a1 a25 H10 fun H26 E26 =>
      (loadA true 5 a1 H26).bind fun a27 =>
      callK (EV C) false n_ref05_right [a27] H26 fun a28 H28 E28 =>
      stoK 5 a2 a28 H28 fun H29 E29 =>
      (loadA true 5 a2 H29).bind fun a30 =>
      endB false false n a30 H29 (E29 ++ (E28 ++ (E26 ++ (E10 ++ (E4 ++ (E2 ++ (E1 ++ []))))))))
      ((loadA true 5 a1 H10).bind fun a31 =>
      callK (EV C) false n_ref05_right [a31] H10 fun a32 H32 E32 =>
      stoK 5 a2 a32 H32 fun H33 E33 =>
      (loadA true 5 a2 H33).bind fun a34 =>
      endB false false n a34 H33 (E33 ++ (E32 ++ (E10 ++ (E4 ++ (E2 ++ (E1 ++ []))))))))
    ((binA .eql (Go.TypeDesc.int Go.IntKind.i64) (cmpT Try.prog) true a4 (.int .i64 (-2))).bind fun a35 =>
    condK a35
      ((offA a1 4).bind fun a36 =>
      (loadA false 1 a36 H4).bind fun a37 =>
      (ixA 5 a37 (.int .i64 1) H4).bind fun a38 =>
      (loadA true 5 a38 H4).bind fun a39 =>
      callK (EV C) false n_ref05_tilt [a39] H4 fun a40 H40 E40 =>
      (binA .gtr (Go.TypeDesc.int Go.IntKind.i64) (cmpT Try.prog) true a40 (.int .i64 0)).bind fun a41 =>
      condK a41
        ((offA a1 4).bind fun a42 =>
        (loadA false 1 a42 H40).bind fun a43 =>
        (ixA 5 a43 (.int .i64 0) H40).bind fun a44 =>
        (loadA true 5 a44 H40).bind fun a45 =>
        (offA a1 1).bind fun a46 =>
        (loadA false 1 a46 H40).bind fun a47 =>
        (offA a1 2).bind fun a48 =>
        (loadA false 1 a48 H40).bind fun a49 =>
        (offA a1 4).bind fun a50 =>
        (loadA false 1 a50 H40).bind fun a51 =>
        (ixA 5 a51 (.int .i64 1) H40).bind fun a52 =>
        (loadA true 5 a52 H40).bind fun a53 =>
        (callD (EV C) n_ref05_right [a53] H40).bind fun a54 =>
        (callD (EV C) n_ref05_Node [a45, a47, a49, a54] H40).bind fun a55 =>
        stoK 5 a1 a55 H40 fun H56 E56 =>
        (loadA true 5 a1 H56).bind fun a57 =>
        callK (EV C) false n_ref05_left [a57] H56 fun a58 H58 E58 =>
        stoK 5 a2 a58 H58 fun H59 E59 =>
        (loadA true 5 a2 H59).bind fun a60 =>
        endB false false n a60 H59 (E59 ++ (E58 ++ (E56 ++ (E40 ++ (E4 ++ (E2 ++ (E1 ++ []))))))))
        ((loadA true 5 a1 H40).bind fun a61 =>
        callK (EV C) false n_ref05_left [a61] H40 fun a62 H62 E62 =>
        stoK 5 a2 a62 H62 fun H63 E63 =>
        (loadA true 5 a2 H63).bind fun a64 =>
        endB false false n a64 H63 (E63 ++ (E62 ++ (E40 ++ (E4 ++ (E2 ++ (E1 ++ []))))))))
      ((loadA true 5 a1 H4).bind fun a65 =>
      stoK 5 a2 a65 H4 fun H66 E66 =>
      (loadA true 5 a2 H66).bind fun a67 =>
      endB false false n a67 H66 (E66 ++ (E4 ++ (E2 ++ (E1 ++ [])))))))) (List.length H) = some r) : EV C n_ref05_level [x0] H = some r :=
  EV_of_fnK' (fn := Try.f75) (by kernel_rfl) (by kernel_rfl) (by kernel_rfl) hh
theorem tree_Check_of {r : R3} {x0 : AV} {H : List AObj} (hh : (fun n => (
  newK x0 H fun a1 H1 E1 =>
  (loadA true 5 a1 H1).bind fun a2 =>
  callK (EV C) false n_tree_deep [a2, (.int .i64 64)] H1 fun a3 H3 E3 =>
  condK a3
    (endB false false n (.ifc t_api_Code (.int .i64 5)) H3 (E3 ++ (E1 ++ [])))
    ((loadA true 5 a1 H3).bind fun a4 =>
    callK (EV C) false n_tree_formed [a4] H3 fun a5 H5 E5 =>
    (unA .not a5).bind fun a6 =>
    condK a6
      (endB false false n (.ifc t_api_Code (.int .i64 3)) H5 (E5 ++ (E3 ++ (E1 ++ []))))
      (endB false false n .nili H5 (E5 ++ (E3 ++ (E1 ++ []))))))) (List.length H) = some r) : EV C n_tree_Check [x0] H = some r :=
  EV_of_fnK' (fn := Try.f76) (by kernel_rfl) (by kernel_rfl) (by kernel_rfl) hh
theorem tree_full_of {r : R3} {x0 : AV} {H : List AObj} (hh : (fun n => (
  newK x0 H fun a1 H1 E1 =>
  (offA a1 0).bind fun a2 =>
  (loadA false 1 a2 H1).bind fun a3 =>
  (binA .eql (Go.TypeDesc.int Go.IntKind.i64) (cmpT Try.prog) true a3 (.int .i64 2)).bind fun a4 =>
  splitK a4
    (endB false false n (.bool false) H1 (E1 ++ []))
    ((offA a1 0).bind fun a5 =>
    (loadA false 1 a5 H1).bind fun a6 =>
    (binA .eql (Go.TypeDesc.int Go.IntKind.i64) (cmpT Try.prog) true a6 (.int .i64 3)).bind fun a7 =>
    condK a7
      (endB false false n (.bool false) H1 (E1 ++ []))
      ((offA a1 4).bind fun a8 =>
      (loadA false 1 a8 H1).bind fun a9 =>
      callK (EV C) false n_ContainsFunc_api_Tree [a9, (.clo n_tree_full_1 [] [])] H1 fun a10 H10 E10 =>
      (unA .not a10).bind fun a11 =>
      endB false false n a11 H10 (E10 ++ (E1 ++ [])))))) (List.length H) = some r) : EV C n_tree_full [x0] H = some r :=
  EV_of_fnK' (fn := Try.f77) (by kernel_rfl) (by kernel_rfl) (by kernel_rfl) hh
theorem tree_List_1_of {r : R3} {x0 x1 x2 : AV} {H : List AObj} (hh : (fun n => (
  newK x0 H fun a1 H1 E1 =>
  (offA a1 4).bind fun a2 =>
  (loadA false 1 a2 H1).bind fun a3 =>
  (lenV a3 H1).bind fun a4 =>
  (binA .eql (Go.TypeDesc.int Go.IntKind.i64) (cmpT Try.prog) true a4 (.int .i64 0)).bind fun a5 =>
  condK a5
    (endB false true n (.tup []) H1 (E1 ++ []))
    ((loadA false 1 x1 H1).bind fun a6 =>
    (offA a1 4).bind fun a7 =>
    (loadA false 1 a7 H1).bind fun a8 =>
    (ixA 5 a8 (.int .i64 0) H1).bind fun a9 =>
    (loadA true 5 a9 H1).bind fun a10 =>
    valK Try.prog (EV C) false a6 [a10] H1 fun a11 H11 E11 =>
    drawK (SwapOk Try.prog C.G (EV C) (C.hint 78) 3 (opsOf Try.f78 3) ⟨[x0, x1, x2, a1, a2, a3, a4, (.bool false), a6, a7, a8, a9, a10, a11, (.tup []), (.tup []), (.tup []), (.tup []), (.tup []), (.tup []), (.tup []), (.tup []), (.tup []), (.tup []), (.tup []), (.tup [])], H11, (E11 ++ (E1 ++ []))⟩)
    ((loadA false 1 x2 H11).bind fun a12 =>
      (loadA true 5 a1 H11).bind fun a13 =>
      (lenV a12 H11).bind fun a14 =>
      litK 5 1 (.agg [(.int .i64 0), .nils, .nils, .nils, .nils]) [(0, (.agg [(.int .i64 0), .nils, .nils, .nils, .nils]))] H11 fun a15 H15 E15 =>
      appK 5 104 a12 a15 H15 fun a16 H16 E16 =>
      (ixA 5 a16 a14 H16).bind fun a17 =>
      stoK 5 a17 a13 H16 fun H18 E18 =>
      stoK 1 x2 a16 H18 fun H19 E19 =>
      (loadA false 1 x1 H19).bind fun a20 =>
      (offA a1 4).bind fun a21 =>
      (loadA false 1 a21 H19).bind fun a22 =>
      (ixA 5 a22 (.int .i64 1) H19).bind fun a23 =>
      (loadA true 5 a23 H19).bind fun a24 =>
      valK Try.prog (EV C) false a20 [a24] H19 fun a25 H25 E25 =>
      endB false true n (.tup []) H25 (E25 ++ (E19 ++ (E18 ++ (E16 ++ (E15 ++ (E11 ++ (E1 ++ []))))))))))) (List.length H) = some r) : EV C n_tree_List_1 [x0, x1, x2] H = some r :=
  EV_of_fnK' (fn := Try.f78) (by kernel_rfl) (by kernel_rfl) (by kernel_rfl) hh
theorem ref05_tilt_of {r : R3} {x0 : AV} {H : List AObj} (hh : (fun n => (
  newK x0 H fun a1 H1 E1 =>
  (offA a1 4).bind fun a2 =>
  (loadA false 1 a2 H1).bind fun a3 =>
  (ixA 5 a3 (.int .i64 0) H1).bind fun a4 =>
  (loadA true 5 a4 H1).bind fun a5 =>
  (callD (EV C) n_ref04_Depth [a5] H1).bind fun a6 =>
  (offA a1 4).bind fun a7 =>
  (loadA false 1 a7 H1).bind fun a8 =>
  (ixA 5 a8 (.int .i64 1) H1).bind fun a9 =>
  (loadA true 5 a9 H1).bind fun a10 =>
  (callD (EV C) n_ref04_Depth [a10] H1).bind fun a11 =>
  (binA .sub (Go.TypeDesc.int Go.IntKind.i64) (cmpT Try.prog) false a6 a11).bind fun a12 =>
  endB false false n a12 H1 (E1 ++ []))) (List.length H) = some r) : EV C n_ref05_tilt [x0] H = some r :=
  EV_of_fnK' (fn := Try.f83) (by kernel_rfl) (by kernel_rfl) (by kernel_rfl) hh
theorem ref05_left_of {r : R3} {x0 : AV} {H : List AObj} (hh : (fun n => (
  newK x0 H fun a1 H1 E1 =>
  newK (.agg [(.int .i64 0), .nils, .nils, .nils, .nils]) H1 fun a2 H2 E2 =>
  (offA a1 4).bind fun a3 =>
  (loadA false 1 a3 H2).bind fun a4 =>
  (ixA 5 a4 (.int .i64 1) H2).bind fun a5 =>
  (loadA true 5 a5 H2).bind fun a6 =>
  newK (.agg [(.int .i64 0), .nils, .nils, .nils, .nils]) H2 fun a7 H7 E7 =>
  stoK 5 a7 a6 H7 fun H8 E8 =>
  (offA a1 4).bind fun a9 =>
  (loadA false 1 a9 H8).bind fun a10 =>
  (ixA 5 a10 (.int .i64 0) H8).bind fun a11 =>
  (loadA true 5 a11 H8).bind fun a12 =>
  (offA a1 1).bind fun a13 =>
  (loadA false 1 a13 H8).bind fun a14 =>
  (offA a1 2).bind fun a15 =>
  (loadA false 1 a15 H8).bind fun a16 =>
  (offA a7 4).bind fun a17 =>
  (loadA false 1 a17 H8).bind fun a18 =>
  (ixA 5 a18 (.int .i64 0) H8).bind fun a19 =>
  (loadA true 5 a19 H8).bind fun a20 =>
  (callD (EV C) n_ref05_Node [a12, a14, a16, a20] H8).bind fun a21 =>
  (offA a7 1).bind fun a22 =>
  (loadA false 1 a22 H8).bind fun a23 =>
  (offA a7 2).bind fun a24 =>
  (loadA false 1 a24 H8).bind fun a25 =>
  (offA a7 4).bind fun a26 =>
  (loadA false 1 a26 H8).bind fun a27 =>
  (ixA 5 a27 (.int .i64 1) H8).bind fun a28 =>
  (loadA true 5 a28 H8).bind fun a29 =>
  (callD (EV C) n_ref05_Node [a21, a23, a25, a29] H8).bind fun a30 =>
  stoK 5 a2 a30 H8 fun H31 E31 =>
  (loadA true 5 a2 H31).bind fun a32 =>
  endB false false n a32 H31 (E31 ++ (E8 ++ (E7 ++ (E2 ++ (E1 ++ []))))))) (List.length H) = some r) : EV C n_ref05_left [x0] H = some r :=
  EV_of_fnK' (fn := Try.f84) (by kernel_rfl) (by kernel_rfl) (by kernel_rfl) hh
theorem ref05_right_of {r : R3} {x0 : AV} {H : List AObj} (hh : (fun n => (
  newK x0 H fun a1 H1 E1 =>
  newK (.agg [(.int .i64 0), .nils, .nils, .nils, .nils]) H1 fun a2 H2 E2 =>
  (offA a1 4).bind fun a3 =>
  (loadA false 1 a3 H2).bind fun a4 =>
  (ixA 5 a4 (.int .i64 0) H2).bind fun a5 =>
  (loadA true 5 a5 H2).bind fun a6 =>
  newK (.agg [(.int .i64 0), .nils, .nils, .nils, .nils]) H2 fun a7 H7 E7 =>
  stoK 5 a7 a6 H7 fun H8 E8 =>
  (offA a7 4).bind fun a9 =>
  (loadA false 1 a9 H8).bind fun a10 =>
  (ixA 5 a10 (.int .i64 0) H8).bind fun a11 =>
  (loadA true 5 a11 H8).bind fun a12 =>
  (offA a7 1).bind fun a13 =>
  (loadA false 1 a13 H8).bind fun a14 =>
  (offA a7 2).bind fun a15 =>
  (loadA false 1 a15 H8).bind fun a16 =>
  (offA a7 4).bind fun a17 =>
  (loadA false 1 a17 H8).bind fun a18 =>
  (ixA 5 a18 (.int .i64 1) H8).bind fun a19 =>
  (loadA true 5 a19 H8).bind fun a20 =>
  (offA a1 1).bind fun a21 =>
  (loadA false 1 a21 H8).bind fun a22 =>
  (offA a1 2).bind fun a23 =>
  (loadA false 1 a23 H8).bind fun a24 =>
  (offA a1 4).bind fun a25 =>
  (loadA false 1 a25 H8).bind fun a26 =>
  (ixA 5 a26 (.int .i64 1) H8).bind fun a27 =>
  (loadA true 5 a27 H8).bind fun a28 =>
  (callD (EV C) n_ref05_Node [a20, a22, a24, a28] H8).bind fun a29 =>
  (callD (EV C) n_ref05_Node [a12, a14, a16, a29] H8).bind fun a30 =>
  stoK 5 a2 a30 H8 fun H31 E31 =>
  (loadA true 5 a2 H31).bind fun a32 =>
  endB false false n a32 H31 (E31 ++ (E8 ++ (E7 ++ (E2 ++ (E1 ++ []))))))) (List.length H) = some r) : EV C n_ref05_right [x0] H = some r :=
  EV_of_fnK' (fn := Try.f85) (by kernel_rfl) (by kernel_rfl) (by kernel_rfl) hh
theorem tree_deep_of {r : R3} {x0 x1 : AV} {H : List AObj} (hh : (fun n => (
  newK x0 H fun a1 H1 E1 =>
  newK x1 H1 fun a2 H2 E2 =>
  (offA a1 0).bind fun a3 =>
  (loadA false 1 a3 H2).bind fun a4 =>
  (binA .eql (Go.TypeDesc.int Go.IntKind.i64) (cmpT Try.prog) true a4 (.int .i64 1)).bind fun a5 =>
  splitK a5
    ((loadA false 1 a2 H2).bind fun a6 =>
    (binA .lss (Go.TypeDesc.int Go.IntKind.i64) (cmpT Try.prog) true a6 (.int .i64 1)).bind fun a7 =>
    condK a7
      (endB false false n (.bool true) H2 (E2 ++ (E1 ++ [])))
      ((offA a1 4).bind fun a8 =>
      (loadA false 1 a8 H2).bind fun a9 =>
      callK (EV C) false n_ContainsFunc_api_Tree [a9, (.clo n_tree_deep_1 [] [a2])] H2 fun a10 H10 E10 =>
      endB false false n a10 H10 (E10 ++ (E2 ++ (E1 ++ [])))))
    ((offA a1 0).bind fun a11 =>
    (loadA false 1 a11 H2).bind fun a12 =>
    (binA .eql (Go.TypeDesc.int Go.IntKind.i64) (cmpT Try.prog) true a12 (.int .i64 2)).bind fun a13 =>
    splitK a13
      ((loadA false 1 a2 H2).bind fun a14 =>
      (binA .lss (Go.TypeDesc.int Go.IntKind.i64) (cmpT Try.prog) true a14 (.int .i64 1)).bind fun a15 =>
      condK a15
        (endB false false n (.bool true) H2 (E2 ++ (E1 ++ [])))
        ((offA a1 4).bind fun a16 =>
        (loadA false 1 a16 H2).bind fun a17 =>
        callK (EV C) false n_ContainsFunc_api_Tree [a17, (.clo n_tree_deep_1 [] [a2])] H2 fun a18 H18 E18 =>
        endB false false n a18 H18 (E18 ++ (E2 ++ (E1 ++ [])))))
      ((offA a1 4).bind fun a19 =>
      (loadA false 1 a19 H2).bind fun a20 =>
      (lenV a20 H2).bind fun a21 =>
      (binA .gtr (Go.TypeDesc.int Go.IntKind.i64) (cmpT Try.prog) true a21 (.int .i64 0)).bind fun a22 =>
      splitK a22
        ((loadA false 1 a2 H2).bind fun a23 =>
        (binA .lss (Go.TypeDesc.int Go.IntKind.i64) (cmpT Try.prog) true a23 (.int .i64 1)).bind fun a24 =>
        condK a24
          (endB false false n (.bool true) H2 (E2 ++ (E1 ++ [])))
          ((offA a1 4).bind fun a25 =>
          (loadA false 1 a25 H2).bind fun a26 =>
          callK (EV C) false n_ContainsFunc_api_Tree [a26, (.clo n_tree_deep_1 [] [a2])] H2 fun a27 H27 E27 =>
          endB false false n a27 H27 (E27 ++ (E2 ++ (E1 ++ [])))))
        ((offA a1 4).bind fun a28 =>
        (loadA false 1 a28 H2).bind fun a29 =>
        callK (EV C) false n_ContainsFunc_api_Tree [a29, (.clo n_tree_deep_1 [] [a2])] H2 fun a30 H30 E30 =>
        endB false false n a30 H30 (E30 ++ (E2 ++ (E1 ++ [])))))))) (List.length H) = some r) : EV C n_tree_deep [x0, x1] H = some r :=
  EV_of_fnK' (fn := Try.f86) (by kernel_rfl) (by kernel_rfl) (by kernel_rfl) hh
theorem tree_formed_of {r : R3} {x0 : AV} {H : List AObj} (hh : (fun n => (
  newK x0 H fun a1 H1 E1 =>
  (offA a1 0).bind fun a2 =>
  (loadA false 1 a2 H1).bind fun a3 =>
  (binA .eql (Go.TypeDesc.int Go.IntKind.i64) (cmpT Try.prog) true a3 (.int .i64 0)).bind fun a4 =>
  condK a4
    ((offA a1 1).bind fun a5 =>
    (loadA false 1 a5 H1).bind fun a6 =>
    (lenV a6 H1).bind fun a7 =>
    (offA a1 2).bind fun a8 =>
    (loadA false 1 a8 H1).bind fun a9 =>
    (lenV a9 H1).bind fun a10 =>
    (binA .add (Go.TypeDesc.int Go.IntKind.i64) (cmpT Try.prog) false a7 a10).bind fun a11 =>
    (offA a1 3).bind fun a12 =>
    (loadA false 1 a12 H1).bind fun a13 =>
    (lenV a13 H1).bind fun a14 =>
    (binA .add (Go.TypeDesc.int Go.IntKind.i64) (cmpT Try.prog) false a11 a14).bind fun a15 =>
    (offA a1 4).bind fun a16 =>
    (loadA false 1 a16 H1).bind fun a17 =>
    (lenV a17 H1).bind fun a18 =>
    (binA .add (Go.TypeDesc.int Go.IntKind.i64) (cmpT Try.prog) false a15 a18).bind fun a19 =>
    (binA .eql (Go.TypeDesc.int Go.IntKind.i64) (cmpT Try.prog) true a19 (.int .i64 0)).bind fun a20 =>
    splitK a20
      ((offA a1 4).bind fun a21 =>
      (loadA false 1 a21 H1).bind fun a22 =>
      callK (EV C) false n_ContainsFunc_api_Tree [a22, (.clo n_tree_formed_1 [] [])] H1 fun a23 H23 E23 =>
      (unA .not a23).bind fun a24 =>
      endB false false n a24 H23 (E23 ++ (E1 ++ [])))
      (endB false false n (.bool false) H1 (E1 ++ [])))
    ((binA .eql (Go.TypeDesc.int Go.IntKind.i64) (cmpT Try.prog) true a3 (.int .i64 1)).bind fun a25 =>
    condK a25
      ((offA a1 1).bind fun a26 =>
      (loadA false 1 a26 H1).bind fun a27 =>
      (lenV a27 H1).bind fun a28 =>
      (binA .leq (Go.TypeDesc.int Go.IntKind.i64) (cmpT Try.prog) true a28 (.int .i64 80)).bind fun a29 =>
      splitK a29
        ((offA a1 2).bind fun a30 =>
        (loadA false 1 a30 H1).bind fun a31 =>
        (lenV a31 H1).bind fun a32 =>
        (binA .leq (Go.TypeDesc.int Go.IntKind.i64) (cmpT Try.prog) true a32 (.int .i64 1024)).bind fun a33 =>
        splitK a33
          ((offA a1 3).bind fun a34 =>
          (loadA false 1 a34 H1).bind fun a35 =>
          (lenV a35 H1).bind fun a36 =>
          (binA .eql (Go.TypeDesc.int Go.IntKind.i64) (cmpT Try.prog) true a36 (.int .i64 0)).bind fun a37 =>
          splitK a37
            ((offA a1 4).bind fun a38 =>
            (loadA false 1 a38 H1).bind fun a39 =>
            (lenV a39 H1).bind fun a40 =>
            (binA .eql (Go.TypeDesc.int Go.IntKind.i64) (cmpT Try.prog) true a40 (.int .i64 2)).bind fun a41 =>
            splitK a41
              ((offA a1 4).bind fun a42 =>
              (loadA false 1 a42 H1).bind fun a43 =>
              callK (EV C) false n_ContainsFunc_api_Tree [a43, (.clo n_tree_formed_1 [] [])] H1 fun a44 H44 E44 =>
              (unA .not a44).bind fun a45 =>
              endB false false n a45 H44 (E44 ++ (E1 ++ [])))
              (endB false false n (.bool false) H1 (E1 ++ [])))
            (endB false false n (.bool false) H1 (E1 ++ [])))
          (endB false false n (.bool false) H1 (E1 ++ [])))
        (endB false false n (.bool false) H1 (E1 ++ [])))
      ((binA .eql (Go.TypeDesc.int Go.IntKind.i64) (cmpT Try.prog) true a3 (.int .i64 2)).bind fun a46 =>
      condK a46
        ((offA a1 1).bind fun a47 =>
        (loadA false 1 a47 H1).bind fun a48 =>
        (lenV a48 H1).bind fun a49 =>
        (binA .leq (Go.TypeDesc.int Go.IntKind.i64) (cmpT Try.prog) true a49 (.int .i64 80)).bind fun a50 =>
        splitK a50
          ((offA a1 2).bind fun a51 =>
          (loadA false 1 a51 H1).bind fun a52 =>
          (lenV a52 H1).bind fun a53 =>
          (binA .eql (Go.TypeDesc.int Go.IntKind.i64) (cmpT Try.prog) true a53 (.int .i64 0)).bind fun a54 =>
          splitK a54
            ((offA a1 4).bind fun a55 =>
            (loadA false 1 a55 H1).bind fun a56 =>
            (lenV a56 H1).bind fun a57 =>
            (binA .eql (Go.TypeDesc.int Go.IntKind.i64) (cmpT Try.prog) true a57 (.int .i64 2)).bind fun a58 =>
            splitK a58
              ((offA a1 4).bind fun a59 =>
              (loadA false 1 a59 H1).bind fun a60 =>
              callK (EV C) false n_ContainsFunc_api_Tree [a60, (.clo n_tree_formed_1 [] [])] H1 fun a61 H61 E61 =>
              (unA .not a61).bind fun a62 =>
              endB false false n a62 H61 (E61 ++ (E1 ++ [])))
              (endB false false n (.bool false) H1 (E1 ++ [])))
            (endB false false n (.bool false) H1 (E1 ++ [])))
          (endB false false n (.bool false) H1 (E1 ++ [])))
        ((binA .eql (Go.TypeDesc.int Go.IntKind.i64) (cmpT Try.prog) true a3 (.int .i64 3)).bind fun a63 =>
        condK a63
          ((offA a1 1).bind fun a64 =>
          (loadA false 1 a64 H1).bind fun a65 =>
          (lenV a65 H1).bind fun a66 =>
          (offA a1 2).bind fun a67 =>
          (loadA false 1 a67 H1).bind fun a68 =>
          (lenV a68 H1).bind fun a69 =>
          (binA .add (Go.TypeDesc.int Go.IntKind.i64) (cmpT Try.prog) false a66 a69).bind fun a70 =>
          (offA a1 4).bind fun a71 =>
          (loadA false 1 a71 H1).bind fun a72 =>
          (lenV a72 H1).bind fun a73 =>
          (binA .add (Go.TypeDesc.int Go.IntKind.i64) (cmpT Try.prog) false a70 a73).bind fun a74 =>
          (binA .eql (Go.TypeDesc.int Go.IntKind.i64) (cmpT Try.prog) true a74 (.int .i64 0)).bind fun a75 =>
          splitK a75
            ((offA a1 4).bind fun a76 =>
            (loadA false 1 a76 H1).bind fun a77 =>
            callK (EV C) false n_ContainsFunc_api_Tree [a77, (.clo n_tree_formed_1 [] [])] H1 fun a78 H78 E78 =>
            (unA .not a78).bind fun a79 =>
            endB false false n a79 H78 (E78 ++ (E1 ++ [])))
            (endB false false n (.bool false) H1 (E1 ++ [])))
          (endB false false n (.bool false) H1 (E1 ++ []))))))) (List.length H) = some r) : EV C n_tree_formed [x0] H = some r :=
  EV_of_fnK' (fn := Try.f87) (by kernel_rfl) (by kernel_rfl) (by kernel_rfl) hh
theorem ContainsFunc_api_Tree_of {r : R3} {x0 x1 : AV} {H : List AObj} (hh : (fun n => (
  callK (EV C) false n_IndexFunc_api_Tree [x0, x1] H fun a1 H1 E1 =>
  (binA .geq (Go.TypeDesc.int Go.IntKind.i64) (cmpT Try.prog) true a1 (.int .i64 0)).bind fun a2 =>
  endB false false n a2 H1 (E1 ++ []))) (List.length H) = some r) : EV C n_ContainsFunc_api_Tree [x0, x1] H = some r :=
  EV_of_fnK' (fn := Try.f88) (by kernel_rfl) (by kernel_rfl) (by kernel_rfl) hh
theorem tree_full_1_of {r : R3} {x0 : AV} {H : List AObj} (hh : (fun n => (
  newK x0 H fun a1 H1 E1 =>
  (loadA true 5 a1 H1).bind fun a2 =>
  callK (EV C) false n_tree_full [a2] H1 fun a3 H3 E3 =>
  (unA .not a3).bind fun a4 =>
  endB false false n a4 H3 (E3 ++ (E1 ++ [])))) (List.length H) = some r) : EV C n_tree_full_1 [x0] H = some r :=
  EV_of_fnK' (fn := Try.f89) (by kernel_rfl) (by kernel_rfl) (by kernel_rfl) hh
theorem tree_deep_1_of {r : R3} {x0 x1 : AV} {H : List AObj} (hh : (fun n => (
  newK x0 H fun a1 H1 E1 =>
  (loadA true 5 a1 H1).bind fun a2 =>
  (loadA false 1 x1 H1).bind fun a3 =>
  (binA .sub (Go.TypeDesc.int Go.IntKind.i64) (cmpT Try.prog) true a3 (.int .i64 1)).bind fun a4 =>
  callK (EV C) false n_tree_deep [a2, a4] H1 fun a5 H5 E5 =>
  endB false false n a5 H5 (E5 ++ (E1 ++ [])))) (List.length H) = some r) : EV C n_tree_deep_1 [x0, x1] H = some r :=
  EV_of_fnK' (fn := Try.f93) (by kernel_rfl) (by kernel_rfl) (by kernel_rfl) hh
theorem tree_formed_1_of {r : R3} {x0 : AV} {H : List AObj} (hh : (fun n => (
  newK x0 H fun a1 H1 E1 =>
  (loadA true 5 a1 H1).bind fun a2 =>
  callK (EV C) false n_tree_formed [a2] H1 fun a3 H3 E3 =>
  (unA .not a3).bind fun a4 =>
  endB false false n a4 H3 (E3 ++ (E1 ++ [])))) (List.length H) = some r) : EV C n_tree_formed_1 [x0] H = some r :=
  EV_of_fnK' (fn := Try.f94) (by kernel_rfl) (by kernel_rfl) (by kernel_rfl) hh
noncomputable def IndexFunc_api_Tree_J2 (n : Nat) (t0 t1 t7 t8 : AV) (H : List AObj) (E : List Nat) : Option R3 :=
  loopK Try.prog C.G (EV C) (C.hint 95) Try.f95 (cAt (bodyOf Try.f95) [1, 0, 1, 0, 0]) (kAt Try.prog C.G (EV C) (C.hint 95) Try.f95 (bodyOf Try.f95) [1, 0, 1, 0] [] (endK Try.prog (C.hint 95) Try.f95 n))
    ⟨pat 19 [(0, t0), (1, t1), (7, t7), (8, t8)], H, E⟩
theorem IndexFunc_api_Tree_J2_of {r : R3} {n : Nat} {t0 t1 t7 t8 : AV} {H : List AObj} {E : List Nat} (hh : (
  (binA .lss (Go.TypeDesc.int Go.IntKind.i64) (cmpT Try.prog) false t8 t7).bind fun a1 =>
  condK a1
    ((ixA 5 t0 t8 H).bind fun a2 =>
    (loadA true 5 a2 H).bind fun a3 =>
    valK Try.prog (EV C) false t1 [a3] H fun a4 H4 E4 =>
    condK a4
      (endB false false n t8 H4 ((E4 ++ []) ++ E))
      ((binA .add (Go.TypeDesc.int Go.IntKind.i64) (cmpT Try.prog) true t8 (.int .i64 1)).bind fun a5 =>
      IndexFunc_api_Tree_J2 n t0 t1 t7 a5 H4 ((E4 ++ []) ++ E)))
    (endB false false n (.int .i64 (-1)) H E)) = some r) : IndexFunc_api_Tree_J2 n t0 t1 t7 t8 H E = some r :=
  loop_step' (by kernel_rfl) hh
theorem IndexFunc_api_Tree_of {r : R3} {x0 x1 : AV} {H : List AObj} (hh : (fun n => (
  (lenV x0 H).bind fun a1 =>
  IndexFunc_api_Tree_J2 n x0 x1 a1 (.int .i64 0) H [])) (List.length H) = some r) : EV C n_IndexFunc_api_Tree [x0, x1] H = some r :=
  EV_of_fnK' (fn := Try.f95) (by kernel_rfl) (by kernel_rfl) (by kernel_rfl) hh
end Go.Pm
