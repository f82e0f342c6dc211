/- A part of the proof: what the functions of the program answer, as plain lists and numbers. -/
import Derived.Test.YtaoklfecdcakbaaP9
namespace Go.Pm
open Go.Proofs
set_option linter.unusedVariables false
set_option maxRecDepth 100000
noncomputable def ref05_Is_J8 (n : Nat) (t4 t5 : AV) (H : List AObj) (E : List Nat) : Option R3 :=
  loopK Try.prog C.G (EV C) (C.hint 20) Try.f20 (cAt (bodyOf Try.f20) [1, 1, 1, 1, 1, 0, 1, 0, 0]) (kAt Try.prog C.G (EV C) (C.hint 20) Try.f20 (bodyOf Try.f20) [1, 1, 1, 1, 1, 0, 1, 0] [] (endK Try.prog (C.hint 20) Try.f20 n))
    ⟨pat 63 [(4, t4), (5, t5)], H, E⟩
theorem ref05_Is_J8_of {r : R3} {n : Nat} {t4 t5 : AV} {H : List AObj} {E : List Nat} (hh : (
  (lenV t4 H).bind fun a1 =>
  (binA .lss (Go.TypeDesc.int Go.IntKind.i64) (cmpT Try.prog) false t5 a1).bind fun a2 =>
  condK a2
    ((binA .gtr (Go.TypeDesc.int Go.IntKind.i64) (cmpT Try.prog) true t5 (.int .i64 0)).bind fun a3 =>
    splitK a3
      ((binA .sub (Go.TypeDesc.int Go.IntKind.i64) (cmpT Try.prog) true t5 (.int .i64 1)).bind fun a4 =>
      (ixA 5 t4 a4 H).bind fun a5 =>
      (offA a5 1).bind fun a6 =>
      (loadA false 1 a6 H).bind fun a7 =>
      (cvL a7 H).bind fun a8 =>
      (ixA 5 t4 t5 H).bind fun a9 =>
      (offA a9 1).bind fun a10 =>
      (loadA false 1 a10 H).bind fun a11 =>
      (cvL a11 H).bind fun a12 =>
      (binA .geq Go.TypeDesc.string (cmpT Try.prog) false a8 a12).bind fun a13 =>
      condK a13
        (endB false false n (.bool false) H E)
        ((ixA 5 t4 t5 H).bind fun a14 =>
        (offA a14 4).bind fun a15 =>
        (loadA false 1 a15 H).bind fun a16 =>
        (ixA 5 a16 (.int .i64 0) H).bind fun a17 =>
        (loadA true 5 a17 H).bind fun a18 =>
        (callD (EV C) n_ref04_Depth [a18] H).bind fun a19 =>
        (ixA 5 t4 t5 H).bind fun a20 =>
        (offA a20 4).bind fun a21 =>
        (loadA false 1 a21 H).bind fun a22 =>
        (ixA 5 a22 (.int .i64 1) H).bind fun a23 =>
        (loadA true 5 a23 H).bind fun a24 =>
        (callD (EV C) n_ref04_Depth [a24] H).bind fun a25 =>
        (binA .sub (Go.TypeDesc.int Go.IntKind.i64) (cmpT Try.prog) false a19 a25).bind fun a26 =>
        (binA .gtr (Go.TypeDesc.int Go.IntKind.i64) (cmpT Try.prog) true a26 (.int .i64 1)).bind fun a27 =>
        splitK a27
          (endB false false n (.bool false) H E)
          ((binA .lss (Go.TypeDesc.int Go.IntKind.i64) (cmpT Try.prog) true a26 (.int .i64 (-1))).bind fun a28 =>
          condK a28
            (endB false false n (.bool false) H E)
            ((binA .add (Go.TypeDesc.int Go.IntKind.i64) (cmpT Try.prog) true t5 (.int .i64 1)).bind fun a29 =>
            ref05_Is_J8 n t4 a29 H E))))
      ((ixA 5 t4 t5 H).bind fun a30 =>
      (offA a30 4).bind fun a31 =>
      (loadA false 1 a31 H).bind fun a32 =>
      (ixA 5 a32 (.int .i64 0) H).bind fun a33 =>
      (loadA true 5 a33 H).bind fun a34 =>
      (callD (EV C) n_ref04_Depth [a34] H).bind fun a35 =>
      (ixA 5 t4 t5 H).bind fun a36 =>
      (offA a36 4).bind fun a37 =>
      (loadA false 1 a37 H).bind fun a38 =>
      (ixA 5 a38 (.int .i64 1) H).bind fun a39 =>
      (loadA true 5 a39 H).bind fun a40 =>
      (callD (EV C) n_ref04_Depth [a40] H).bind fun a41 =>
      (binA .sub (Go.TypeDesc.int Go.IntKind.i64) (cmpT Try.prog) false a35 a41).bind fun a42 =>
      (binA .gtr (Go.TypeDesc.int Go.IntKind.i64) (cmpT Try.prog) true a42 (.int .i64 1)).bind fun a43 =>
      splitK a43
        (endB false false n (.bool false) H E)
        ((binA .lss (Go.TypeDesc.int Go.IntKind.i64) (cmpT Try.prog) true a42 (.int .i64 (-1))).bind fun a44 =>
        condK a44
          (endB false false n (.bool false) H E)
          ((binA .add (Go.TypeDesc.int Go.IntKind.i64) (cmpT Try.prog) true t5 (.int .i64 1)).bind fun a45 =>
          ref05_Is_J8 n t4 a45 H E))))
    (endB false false n (.bool true) H E)) = some r) : ref05_Is_J8 n t4 t5 H E = some r :=
  loop_step' (by kernel_rfl) hh
theorem ref05_Is_of {r : R3} {x0 : AV} {H : List AObj} (hh : (fun n => (
  newK x0 H fun a1 H1 E1 =>
  (loadA true 5 a1 H1).bind fun a2 =>
  callK (EV C) false n_ref04_Check [a2] H1 fun a3 H3 E3 =>
  (binA .neq (Go.TypeDesc.int Go.IntKind.i64) (cmpT Try.prog) true a3 (.int .i64 0)).bind fun a4 =>
  condK a4
    (endB false false n (.bool false) H3 (E3 ++ (E1 ++ [])))
    ((loadA true 5 a1 H3).bind fun a5 =>
    callK (EV C) false n_ref04_Full [a5] H3 fun a6 H6 E6 =>
    (unA .not a6).bind fun a7 =>
    condK a7
      (endB false false n (.bool false) H6 (E6 ++ (E3 ++ (E1 ++ []))))
      ((loadA true 5 a1 H6).bind fun a8 =>
      callK (EV C) false n_ref04_List [a8] H6 fun a9 H9 E9 =>
      ref05_Is_J8 n a9 (.int .i64 0) H9 (E9 ++ (E6 ++ (E3 ++ (E1 ++ [])))))))) (List.length H) = some r) : EV C n_ref05_Is [x0] H = some r :=
  EV_of_fnK' (fn := Try.f20) (by kernel_rfl) (by kernel_rfl) (by kernel_rfl) hh
noncomputable def avl_Is_J5 (n : Nat) (t1 t3 t4 : AV) (H : List AObj) (E : List Nat) : Option R3 :=
  loopK Try.prog C.G (EV C) (C.hint 28) Try.f28 (cAt (bodyOf Try.f28) [1, 1, 1, 0, 1, 0, 0]) (kAt Try.prog C.G (EV C) (C.hint 28) Try.f28 (bodyOf Try.f28) [1, 1, 1, 0, 1, 0] [] (endK Try.prog (C.hint 28) Try.f28 n))
    ⟨pat 37 [(1, t1), (3, t3), (4, t4)], H, E⟩
theorem avl_Is_J5_of {r : R3} {n : Nat} {t1 t3 t4 : AV} {H : List AObj} {E : List Nat} (hh : (
  (lenV t3 H).bind fun a1 =>
  (binA .lss (Go.TypeDesc.int Go.IntKind.i64) (cmpT Try.prog) false t4 a1).bind fun a2 =>
  condK a2
    ((binA .sub (Go.TypeDesc.int Go.IntKind.i64) (cmpT Try.prog) true t4 (.int .i64 1)).bind fun a3 =>
    (ixA 5 t3 a3 H).bind fun a4 =>
    (offA a4 1).bind fun a5 =>
    (loadA false 1 a5 H).bind fun a6 =>
    (ixA 5 t3 t4 H).bind fun a7 =>
    (offA a7 1).bind fun a8 =>
    (loadA false 1 a8 H).bind fun a9 =>
    (callD (EV C) n_bytes_Compare [a6, a9] H).bind fun a10 =>
    (binA .geq (Go.TypeDesc.int Go.IntKind.i64) (cmpT Try.prog) true a10 (.int .i64 0)).bind fun a11 =>
    condK a11
      (endB false false n (.bool false) H E)
      ((binA .add (Go.TypeDesc.int Go.IntKind.i64) (cmpT Try.prog) true t4 (.int .i64 1)).bind fun a12 =>
      avl_Is_J5 n t1 t3 a12 H E))
    ((loadA true 5 t1 H).bind fun a13 =>
    callK (EV C) false n_avl_even [a13] H fun a14 H14 E14 =>
    (extA a14 0).bind fun a15 =>
    (extA a14 1).bind fun a16 =>
    endB false false n a16 H14 (E14 ++ E))) = some r) : avl_Is_J5 n t1 t3 t4 H E = some r :=
  loop_step' (by kernel_rfl) hh
theorem avl_Is_of {r : R3} {x0 : AV} {H : List AObj} (hh : (fun n => (
  newK x0 H fun a1 H1 E1 =>
  (loadA true 5 a1 H1).bind fun a2 =>
  callK (EV C) false n_tree_Full [a2] H1 fun a3 H3 E3 =>
  (unA .not a3).bind fun a4 =>
  condK a4
    (endB false false n (.bool false) H3 (E3 ++ (E1 ++ [])))
    ((loadA true 5 a1 H3).bind fun a5 =>
    callK (EV C) false n_tree_List [a5] H3 fun a6 H6 E6 =>
    avl_Is_J5 n a1 a6 (.int .i64 1) H6 (E6 ++ (E3 ++ (E1 ++ [])))))) (List.length H) = some r) : EV C n_avl_Is [x0] H = some r :=
  EV_of_fnK' (fn := Try.f28) (by kernel_rfl) (by kernel_rfl) (by kernel_rfl) hh
noncomputable def ref04_Light_J5 (n : Nat) (t1 t2 t3 t7 : AV) (H : List AObj) (E : List Nat) : Option R3 :=
  loopK Try.prog C.G (EV C) (C.hint 31) Try.f31 (cAt (bodyOf Try.f31) [1, 1, 1, 0, 1, 0, 0]) (kAt Try.prog C.G (EV C) (C.hint 31) Try.f31 (bodyOf Try.f31) [1, 1, 1, 0, 1, 0] [] (endK Try.prog (C.hint 31) Try.f31 n))
    ⟨pat 60 [(1, t1), (2, t2), (3, t3), (7, t7)], H, E⟩
theorem ref04_Light_J5_of {r : R3} {n : Nat} {t1 t2 t3 t7 : AV} {H : List AObj} {E : List Nat} (hh : (
  (offA t3 4).bind fun a1 =>
  (loadA false 1 a1 H).bind fun a2 =>
  (lenV a2 H).bind fun a3 =>
  (binA .lss (Go.TypeDesc.int Go.IntKind.i64) (cmpT Try.prog) false t7 a3).bind fun a4 =>
  condK a4
    ((offA t3 4).bind fun a5 =>
    (loadA false 1 a5 H).bind fun a6 =>
    (ixA 5 a6 t7 H).bind fun a7 =>
    (loadA true 5 a7 H).bind fun a8 =>
    (binA .sub (Go.TypeDesc.int Go.IntKind.i64) (cmpT Try.prog) true t2 (.int .i64 1)).bind fun a9 =>
    callK (EV C) false n_ref04_Light [a8, t1, a9] H fun a10 H10 E10 =>
    (binA .lss (Go.TypeDesc.int Go.IntKind.i64) (cmpT Try.prog) true a10 (.int .i64 0)).bind fun a11 =>
    condK a11
      (endB false false n (.int .i64 (-1)) H10 ((E10 ++ []) ++ E))
      ((binA .add (Go.TypeDesc.int Go.IntKind.i64) (cmpT Try.prog) true t7 (.int .i64 1)).bind fun a12 =>
      ref04_Light_J5 n a10 t2 t3 a12 H10 ((E10 ++ []) ++ E)))
    (endB false false n t1 H E)) = some r) : ref04_Light_J5 n t1 t2 t3 t7 H E = some r :=
  loop_step' (by kernel_rfl) hh
theorem ref04_Light_of {r : R3} {x0 x1 x2 : AV} {H : List AObj} (hh : (fun n => (
  newK x0 H fun a1 H1 E1 =>
  (binA .sub (Go.TypeDesc.int Go.IntKind.i64) (cmpT Try.prog) true x1 (.int .i64 1)).bind fun a2 =>
  (binA .eql (Go.TypeDesc.int Go.IntKind.i64) (cmpT Try.prog) true x2 (.int .i64 0)).bind fun a3 =>
  splitK a3
    (endB false false n (.int .i64 (-1)) H1 (E1 ++ []))
    ((binA .lss (Go.TypeDesc.int Go.IntKind.i64) (cmpT Try.prog) true a2 (.int .i64 0)).bind fun a4 =>
    splitK a4
      (endB false false n (.int .i64 (-1)) H1 (E1 ++ []))
      ((offA a1 4).bind fun a5 =>
      (loadA false 1 a5 H1).bind fun a6 =>
      (lenV a6 H1).bind fun a7 =>
      (binA .gtr (Go.TypeDesc.int Go.IntKind.i64) (cmpT Try.prog) false a7 a2).bind fun a8 =>
      splitK a8
        (endB false false n (.int .i64 (-1)) H1 (E1 ++ []))
        ((offA a1 1).bind fun a9 =>
        (loadA false 1 a9 H1).bind fun a10 =>
        (lenV a10 H1).bind fun a11 =>
        (binA .gtr (Go.TypeDesc.int Go.IntKind.i64) (cmpT Try.prog) true a11 (.int .i64 3000)).bind fun a12 =>
        splitK a12
          (endB false false n (.int .i64 (-1)) H1 (E1 ++ []))
          ((offA a1 2).bind fun a13 =>
          (loadA false 1 a13 H1).bind fun a14 =>
          (lenV a14 H1).bind fun a15 =>
          (binA .gtr (Go.TypeDesc.int Go.IntKind.i64) (cmpT Try.prog) true a15 (.int .i64 3000)).bind fun a16 =>
          splitK a16
            (endB false false n (.int .i64 (-1)) H1 (E1 ++ []))
            ((offA a1 3).bind fun a17 =>
            (loadA false 1 a17 H1).bind fun a18 =>
            (lenV a18 H1).bind fun a19 =>
            (binA .gtr (Go.TypeDesc.int Go.IntKind.i64) (cmpT Try.prog) true a19 (.int .i64 3000)).bind fun a20 =>
            condK a20
              (endB false false n (.int .i64 (-1)) H1 (E1 ++ []))
              (ref04_Light_J5 n a2 x2 a1 (.int .i64 0) H1 (E1 ++ []))))))))) (List.length H) = some r) : EV C n_ref04_Light [x0, x1, x2] H = some r :=
  EV_of_fnK' (fn := Try.f31) (by kernel_rfl) (by kernel_rfl) (by kernel_rfl) hh
theorem ref04_Check_of {r : R3} {x0 : AV} {H : List AObj} (hh : (fun n => (
  newK x0 H fun a1 H1 E1 =>
  (loadA true 5 a1 H1).bind fun a2 =>
  callK (EV C) false n_ref04_Deep [a2, (.int .i64 64)] H1 fun a3 H3 E3 =>
  condK a3
    (endB false false n (.int .i64 5) H3 (E3 ++ (E1 ++ [])))
    ((loadA true 5 a1 H3).bind fun a4 =>
    callK (EV C) false n_ref04_Formed [a4] H3 fun a5 H5 E5 =>
    (unA .not a5).bind fun a6 =>
    condK a6
      (endB false false n (.int .i64 3) H5 (E5 ++ (E3 ++ (E1 ++ []))))
      (endB false false n (.int .i64 0) H5 (E5 ++ (E3 ++ (E1 ++ []))))))) (List.length H) = some r) : EV C n_ref04_Check [x0] H = some r :=
  EV_of_fnK' (fn := Try.f52) (by kernel_rfl) (by kernel_rfl) (by kernel_rfl) hh
noncomputable def ref04_Full_J4 (n : Nat) (t1 t3 : AV) (H : List AObj) (E : List Nat) : Option R3 :=
  loopK Try.prog C.G (EV C) (C.hint 53) Try.f53 (cAt (bodyOf Try.f53) [1, 1, 0, 1, 0, 0]) (kAt Try.prog C.G (EV C) (C.hint 53) Try.f53 (bodyOf Try.f53) [1, 1, 0, 1, 0] [] (endK Try.prog (C.hint 53) Try.f53 n))
    ⟨pat 23 [(1, t1), (3, t3)], H, E⟩
theorem ref04_Full_J4_of {r : R3} {n : Nat} {t1 t3 : AV} {H : List AObj} {E : List Nat} (hh : (
  (offA t1 4).bind fun a1 =>
  (loadA false 1 a1 H).bind fun a2 =>
  (lenV a2 H).bind fun a3 =>
  (binA .lss (Go.TypeDesc.int Go.IntKind.i64) (cmpT Try.prog) false t3 a3).bind fun a4 =>
  condK a4
    ((offA t1 4).bind fun a5 =>
    (loadA false 1 a5 H).bind fun a6 =>
    (ixA 5 a6 t3 H).bind fun a7 =>
    (loadA true 5 a7 H).bind fun a8 =>
    callK (EV C) false n_ref04_Full [a8] H fun a9 H9 E9 =>
    (unA .not a9).bind fun a10 =>
    condK a10
      (endB false false n (.bool false) H9 ((E9 ++ []) ++ E))
      ((binA .add (Go.TypeDesc.int Go.IntKind.i64) (cmpT Try.prog) true t3 (.int .i64 1)).bind fun a11 =>
      ref04_Full_J4 n t1 a11 H9 ((E9 ++ []) ++ E)))
    (endB false false n (.bool true) H E)) = some r) : ref04_Full_J4 n t1 t3 H E = some r :=
  loop_step' (by kernel_rfl) hh
theorem ref04_Full_of {r : R3} {x0 : AV} {H : List AObj} (hh : (fun n => (
  newK x0 H fun a1 H1 E1 =>
  (offA a1 0).bind fun a2 =>
  (loadA false 1 a2 H1).bind fun a3 =>
  (binA .gtr (Go.TypeDesc.int Go.IntKind.i64) (cmpT Try.prog) true a3 (.int .i64 1)).bind fun a4 =>
  condK a4
    (endB false false n (.bool false) H1 (E1 ++ []))
    (ref04_Full_J4 n a1 (.int .i64 0) H1 (E1 ++ [])))) (List.length H) = some r) : EV C n_ref04_Full [x0] H = some r :=
  EV_of_fnK' (fn := Try.f53) (by kernel_rfl) (by kernel_rfl) (by kernel_rfl) hh
theorem ref04_List_of {r : R3} {x0 : AV} {H : List AObj} (hh : (fun n => (
  newK x0 H fun a1 H1 E1 =>
  (offA a1 4).bind fun a2 =>
  (loadA false 1 a2 H1).bind fun a3 =>
  (lenV a3 H1).bind fun a4 =>
  (binA .eql (Go.TypeDesc.int Go.IntKind.i64) (cmpT Try.prog) true a4 (.int .i64 0)).bind fun a5 =>
  condK a5
    (endB false false n .nils H1 (E1 ++ []))
    (rawK 5 0 (.agg [(.int .i64 0), .nils, .nils, .nils, .nils]) [] H1 fun a6 H6 E6 =>
    (offA a1 4).bind fun a7 =>
    (loadA false 1 a7 H6).bind fun a8 =>
    (ixA 5 a8 (.int .i64 0) H6).bind fun a9 =>
    (loadA true 5 a9 H6).bind fun a10 =>
    callK (EV C) false n_ref04_List [a10] H6 fun a11 H11 E11 =>
    appK 5 104 a6 a11 H11 fun a12 H12 E12 =>
    (loadA true 5 a1 H12).bind fun a13 =>
    litK 5 1 (.agg [(.int .i64 0), .nils, .nils, .nils, .nils]) [(0, a13)] H12 fun a14 H14 E14 =>
    appK 5 104 a12 a14 H14 fun a15 H15 E15 =>
    (offA a1 4).bind fun a16 =>
    (loadA false 1 a16 H15).bind fun a17 =>
    (ixA 5 a17 (.int .i64 1) H15).bind fun a18 =>
    (loadA true 5 a18 H15).bind fun a19 =>
    callK (EV C) false n_ref04_List [a19] H15 fun a20 H20 E20 =>
    appK 5 104 a15 a20 H20 fun a21 H21 E21 =>
    endB false false n a21 H21 (E21 ++ (E20 ++ (E15 ++ (E14 ++ (E12 ++ (E11 ++ (E6 ++ (E1 ++ []))))))))))) (List.length H) = some r) : EV C n_ref04_List [x0] H = some r :=
  EV_of_fnK' (fn := Try.f54) (by kernel_rfl) (by kernel_rfl) (by kernel_rfl) hh
theorem ref04_Depth_of {r : R3} {x0 : AV} {H : List AObj} (hh : (fun n => (
  newK x0 H fun a1 H1 E1 =>
  (offA a1 4).bind fun a2 =>
  (loadA false 1 a2 H1).bind fun a3 =>
  (lenV a3 H1).bind fun a4 =>
  (binA .eql (Go.TypeDesc.int Go.IntKind.i64) (cmpT Try.prog) true a4 (.int .i64 0)).bind fun a5 =>
  condK a5
    (endB false false n (.int .i64 0) H1 (E1 ++ []))
    ((offA a1 4).bind fun a6 =>
    (loadA false 1 a6 H1).bind fun a7 =>
    (ixA 5 a7 (.int .i64 0) H1).bind fun a8 =>
    (loadA true 5 a8 H1).bind fun a9 =>
    callK (EV C) false n_ref04_Depth [a9] H1 fun a10 H10 E10 =>
    (offA a1 4).bind fun a11 =>
    (loadA false 1 a11 H10).bind fun a12 =>
    (ixA 5 a12 (.int .i64 1) H10).bind fun a13 =>
    (loadA true 5 a13 H10).bind fun a14 =>
    callK (EV C) false n_ref04_Depth [a14] H10 fun a15 H15 E15 =>
    (binA .gtr (Go.TypeDesc.int Go.IntKind.i64) (cmpT Try.prog) false a10 a15).bind fun a16 =>
    condK a16
      ((binA .add (Go.TypeDesc.int Go.IntKind.i64) (cmpT Try.prog) true a10 (.int .i64 1)).bind fun a17 =>
      endB false false n a17 H15 (E15 ++ (E10 ++ (E1 ++ []))))
      ((binA .add (Go.TypeDesc.int Go.IntKind.i64) (cmpT Try.prog) true a15 (.int .i64 1)).bind fun a18 =>
      endB false false n a18 H15 (E15 ++ (E10 ++ (E1 ++ []))))))) (List.length H) = some r) : EV C n_ref04_Depth [x0] H = some r :=
  EV_of_fnK' (fn := Try.f55) (by kernel_rfl) (by kernel_rfl) (by kernel_rfl) hh
theorem tree_Full_of {r : R3} {x0 : AV} {H : List AObj} (hh : (fun n => (
  newK x0 H fun a1 H1 E1 =>
  (loadA true 5 a1 H1).bind fun a2 =>
  callK (EV C) false n_tree_Check [a2] H1 fun a3 H3 E3 =>
  (binA .eql (Go.TypeDesc.interface #[("Error", 118)]) (cmpT Try.prog) true a3 .nili).bind fun a4 =>
  splitK a4
    ((loadA true 5 a1 H3).bind fun a5 =>
    callK (EV C) false n_tree_full [a5] H3 fun a6 H6 E6 =>
    endB false false n a6 H6 (E6 ++ (E3 ++ (E1 ++ []))))
    (endB false false n (.bool false) H3 (E3 ++ (E1 ++ []))))) (List.length H) = some r) : EV C n_tree_Full [x0] H = some r :=
  EV_of_fnK' (fn := Try.f60) (by kernel_rfl) (by kernel_rfl) (by kernel_rfl) hh
theorem tree_List_of {r : R3} {x0 : AV} {H : List AObj} (hh : (fun n => (
  newK x0 H fun a1 H1 E1 =>
  (loadA true 5 a1 H1).bind fun a2 =>
  callK (EV C) false n_tree_Check [a2] H1 fun a3 H3 E3 =>
  (binA .neq (Go.TypeDesc.interface #[("Error", 118)]) (cmpT Try.prog) true a3 .nili).bind fun a4 =>
  condK a4
    (endB false false n .nils H3 (E3 ++ (E1 ++ [])))
    (newK .nils H3 fun a5 H5 E5 =>
    newK .nilf H5 fun a6 H6 E6 =>
    stoK 1 a6 (.clo n_tree_List_1 [] [a6, a5]) H6 fun H7 E7 =>
    (loadA false 1 a6 H7).bind fun a8 =>
    (loadA true 5 a1 H7).bind fun a9 =>
    valK Try.prog (EV C) false a8 [a9] H7 fun a10 H10 E10 =>
    (loadA false 1 a5 H10).bind fun a11 =>
    endB false false n a11 H10 (E10 ++ (E7 ++ (E6 ++ (E5 ++ (E3 ++ (E1 ++ []))))))))) (List.length H) = some r) : EV C n_tree_List [x0] H = some r :=
  EV_of_fnK' (fn := Try.f61) (by kernel_rfl) (by kernel_rfl) (by kernel_rfl) hh
theorem avl_even_of {r : R3} {x0 : AV} {H : List AObj} (hh : (fun n => (
  newK x0 H fun a1 H1 E1 =>
  (offA a1 4).bind fun a2 =>
  (loadA false 1 a2 H1).bind fun a3 =>
  (lenV a3 H1).bind fun a4 =>
  (binA .eql (Go.TypeDesc.int Go.IntKind.i64) (cmpT Try.prog) true a4 (.int .i64 0)).bind fun a5 =>
  condK a5
    (endB false false n (.tup [(.int .i64 0), (.bool true)]) H1 (E1 ++ []))
    ((offA a1 4).bind fun a6 =>
    (loadA false 1 a6 H1).bind fun a7 =>
    (ixA 5 a7 (.int .i64 0) H1).bind fun a8 =>
    (loadA true 5 a8 H1).bind fun a9 =>
    callK (EV C) false n_avl_even [a9] H1 fun a10 H10 E10 =>
    (extA a10 0).bind fun a11 =>
    (extA a10 1).bind fun a12 =>
    (offA a1 4).bind fun a13 =>
    (loadA false 1 a13 H10).bind fun a14 =>
    (ixA 5 a14 (.int .i64 1) H10).bind fun a15 =>
    (loadA true 5 a15 H10).bind fun a16 =>
    callK (EV C) false n_avl_even [a16] H10 fun a17 H17 E17 =>
    (extA a17 0).bind fun a18 =>
    (extA a17 1).bind fun a19 =>
    (maxA [a11, a18]).bind fun a20 =>
    (binA .add (Go.TypeDesc.int Go.IntKind.i64) (cmpT Try.prog) true a20 (.int .i64 1)).bind fun a21 =>
    splitK a12
      (splitK a19
        ((binA .sub (Go.TypeDesc.int Go.IntKind.i64) (cmpT Try.prog) false a11 a18).bind fun a22 =>
        (binA .leq (Go.TypeDesc.int Go.IntKind.i64) (cmpT Try.prog) true a22 (.int .i64 1)).bind fun a23 =>
        splitK a23
          ((binA .sub (Go.TypeDesc.int Go.IntKind.i64) (cmpT Try.prog) false a18 a11).bind fun a24 =>
          (binA .leq (Go.TypeDesc.int Go.IntKind.i64) (cmpT Try.prog) true a24 (.int .i64 1)).bind fun a25 =>
          endB false false n (.tup [a21, a25]) H17 (E17 ++ (E10 ++ (E1 ++ []))))
          (endB false false n (.tup [a21, (.bool false)]) H17 (E17 ++ (E10 ++ (E1 ++ [])))))
        (endB false false n (.tup [a21, (.bool false)]) H17 (E17 ++ (E10 ++ (E1 ++ [])))))
      (endB false false n (.tup [a21, (.bool false)]) H17 (E17 ++ (E10 ++ (E1 ++ []))))))) (List.length H) = some r) : EV C n_avl_even [x0] H = some r :=
  EV_of_fnK' (fn := Try.f63) (by kernel_rfl) (by kernel_rfl) (by kernel_rfl) hh
noncomputable def ref04_Deep_J5 (n : Nat) (t1 t2 t6 : AV) (H : List AObj) (E : List Nat) : Option R3 :=
  loopK Try.prog C.G (EV C) (C.hint 72) Try.f72 (cAt (bodyOf Try.f72) [1, 1, 1, 0, 1, 0, 0]) (kAt Try.prog C.G (EV C) (C.hint 72) Try.f72 (bodyOf Try.f72) [1, 1, 1, 0, 1, 0] [] (endK Try.prog (C.hint 72) Try.f72 n))
    ⟨pat 43 [(1, t1), (2, t2), (6, t6)], H, E⟩
theorem ref04_Deep_J5_of {r : R3} {n : Nat} {t1 t2 t6 : AV} {H : List AObj} {E : List Nat} (hh : (
  (offA t2 4).bind fun a1 =>
  (loadA false 1 a1 H).bind fun a2 =>
  (lenV a2 H).bind fun a3 =>
  (binA .lss (Go.TypeDesc.int Go.IntKind.i64) (cmpT Try.prog) false t6 a3).bind fun a4 =>
  condK a4
    ((offA t2 4).bind fun a5 =>
    (loadA false 1 a5 H).bind fun a6 =>
    (ixA 5 a6 t6 H).bind fun a7 =>
    (loadA true 5 a7 H).bind fun a8 =>
    (binA .sub (Go.TypeDesc.int Go.IntKind.i64) (cmpT Try.prog) true t1 (.int .i64 1)).bind fun a9 =>
    callK (EV C) false n_ref04_Deep [a8, a9] H fun a10 H10 E10 =>
    condK a10
      (endB false false n (.bool true) H10 ((E10 ++ []) ++ E))
      ((binA .add (Go.TypeDesc.int Go.IntKind.i64) (cmpT Try.prog) true t6 (.int .i64 1)).bind fun a11 =>
      ref04_Deep_J5 n t1 t2 a11 H10 ((E10 ++ []) ++ E)))
    (endB false false n (.bool false) H E)) = some r) : ref04_Deep_J5 n t1 t2 t6 H E = some r :=
  loop_step' (by kernel_rfl) hh
theorem ref04_Deep_of {r : R3} {x0 x1 : AV} {H : List AObj} (hh : (fun n => (
  newK x0 H fun a1 H1 E1 =>
  (offA a1 0).bind fun a2 =>
  (loadA false 1 a2 H1).bind fun a3 =>
  (binA .eql (Go.TypeDesc.int Go.IntKind.i64) (cmpT Try.prog) true a3 (.int .i64 1)).bind fun a4 =>
  splitK a4
    ((binA .eql (Go.TypeDesc.int Go.IntKind.i64) (cmpT Try.prog) true x1 (.int .i64 0)).bind fun a5 =>
    condK a5
      (endB false false n (.bool true) H1 (E1 ++ []))
      (ref04_Deep_J5 n x1 a1 (.int .i64 0) H1 (E1 ++ [])))
    ((offA a1 0).bind fun a6 =>
    (loadA false 1 a6 H1).bind fun a7 =>
    (binA .eql (Go.TypeDesc.int Go.IntKind.i64) (cmpT Try.prog) true a7 (.int .i64 2)).bind fun a8 =>
    splitK a8
      ((binA .eql (Go.TypeDesc.int Go.IntKind.i64) (cmpT Try.prog) true x1 (.int .i64 0)).bind fun a9 =>
      condK a9
        (endB false false n (.bool true) H1 (E1 ++ []))
        (ref04_Deep_J5 n x1 a1 (.int .i64 0) H1 (E1 ++ [])))
      ((offA a1 4).bind fun a10 =>
      (loadA false 1 a10 H1).bind fun a11 =>
      (lenV a11 H1).bind fun a12 =>
      (binA .gtr (Go.TypeDesc.int Go.IntKind.i64) (cmpT Try.prog) true a12 (.int .i64 0)).bind fun a13 =>
      splitK a13
        ((binA .eql (Go.TypeDesc.int Go.IntKind.i64) (cmpT Try.prog) true x1 (.int .i64 0)).bind fun a14 =>
        condK a14
          (endB false false n (.bool true) H1 (E1 ++ []))
          (ref04_Deep_J5 n x1 a1 (.int .i64 0) H1 (E1 ++ [])))
        (ref04_Deep_J5 n x1 a1 (.int .i64 0) H1 (E1 ++ [])))))) (List.length H) = some r) : EV C n_ref04_Deep [x0, x1] H = some r :=
  EV_of_fnK' (fn := Try.f72) (by kernel_rfl) (by kernel_rfl) (by kernel_rfl) hh
noncomputable def ref04_Formed_J16 (n : Nat) (t1 t6 t7 t8 : AV) (H : List AObj) (E : List Nat) : Option R3 :=
  loopK Try.prog C.G (EV C) (C.hint 73) Try.f73 (cAt (bodyOf Try.f73) [1, 1, 1, 1, 1, 1, 1, 0, 1, 0, 0]) (kAt Try.prog C.G (EV C) (C.hint 73) Try.f73 (bodyOf Try.f73) [1, 1, 1, 1, 1, 1, 1, 0, 1, 0] [] (endK Try.prog (C.hint 73) Try.f73 n))
    ⟨pat 94 [(1, t1), (6, t6), (7, t7), (8, t8)], H, E⟩
theorem ref04_Formed_J16_of {r : R3} {n : Nat} {t1 t6 t7 t8 : AV} {H : List AObj} {E : List Nat} (hh : (
  (binA .lss (Go.TypeDesc.int Go.IntKind.i64) (cmpT Try.prog) false t8 t6).bind fun a1 =>
  splitK a1
    (condK t7
      ((offA t1 4).bind fun a2 =>
      (loadA false 1 a2 H).bind fun a3 =>
      (ixA 5 a3 t8 H).bind fun a4 =>
      (loadA true 5 a4 H).bind fun a5 =>
      callK (EV C) false n_ref04_Formed [a5] H fun a6 H6 E6 =>
      (binA .add (Go.TypeDesc.int Go.IntKind.i64) (cmpT Try.prog) true t8 (.int .i64 1)).bind fun a7 =>
      ref04_Formed_J16 n t1 t6 a6 a7 H6 ((E6 ++ []) ++ E))
      (endB false false n t7 H E))
    (endB false false n t7 H E)) = some r) : ref04_Formed_J16 n t1 t6 t7 t8 H E = some r :=
  loop_step' (by kernel_rfl) hh
theorem ref04_Formed_of {r : R3} {x0 : AV} {H : List AObj} (hh : (fun n => (
  newK x0 H fun a1 H1 E1 =>
  (offA a1 1).bind fun a2 =>
  (loadA false 1 a2 H1).bind fun a3 =>
  (lenV a3 H1).bind fun a4 =>
  (offA a1 2).bind fun a5 =>
  (loadA false 1 a5 H1).bind fun a6 =>
  (lenV a6 H1).bind fun a7 =>
  (offA a1 3).bind fun a8 =>
  (loadA false 1 a8 H1).bind fun a9 =>
  (lenV a9 H1).bind fun a10 =>
  (offA a1 4).bind fun a11 =>
  (loadA false 1 a11 H1).bind fun a12 =>
  (lenV a12 H1).bind fun a13 =>
  (offA a1 0).bind fun a14 =>
  (loadA false 1 a14 H1).bind fun a15 =>
  (binA .eql (Go.TypeDesc.int Go.IntKind.i64) (cmpT Try.prog) true a15 (.int .i64 0)).bind fun a16 =>
  condK a16
    ((binA .eql (Go.TypeDesc.int Go.IntKind.i64) (cmpT Try.prog) true a4 (.int .i64 0)).bind fun a17 =>
    splitK a17
      ((binA .eql (Go.TypeDesc.int Go.IntKind.i64) (cmpT Try.prog) true a7 (.int .i64 0)).bind fun a18 =>
      splitK a18
        ((binA .eql (Go.TypeDesc.int Go.IntKind.i64) (cmpT Try.prog) true a10 (.int .i64 0)).bind fun a19 =>
        splitK a19
          ((binA .eql (Go.TypeDesc.int Go.IntKind.i64) (cmpT Try.prog) true a13 (.int .i64 0)).bind fun a20 =>
          ref04_Formed_J16 n a1 a13 a20 (.int .i64 0) H1 (E1 ++ []))
          (ref04_Formed_J16 n a1 a13 (.bool false) (.int .i64 0) H1 (E1 ++ [])))
        (ref04_Formed_J16 n a1 a13 (.bool false) (.int .i64 0) H1 (E1 ++ [])))
      (ref04_Formed_J16 n a1 a13 (.bool false) (.int .i64 0) H1 (E1 ++ [])))
    ((binA .eql (Go.TypeDesc.int Go.IntKind.i64) (cmpT Try.prog) true a15 (.int .i64 1)).bind fun a21 =>
    condK a21
      ((binA .leq (Go.TypeDesc.int Go.IntKind.i64) (cmpT Try.prog) true a4 (.int .i64 80)).bind fun a22 =>
      splitK a22
        ((binA .leq (Go.TypeDesc.int Go.IntKind.i64) (cmpT Try.prog) true a7 (.int .i64 1024)).bind fun a23 =>
        splitK a23
          ((binA .eql (Go.TypeDesc.int Go.IntKind.i64) (cmpT Try.prog) true a10 (.int .i64 0)).bind fun a24 =>
          splitK a24
            ((binA .eql (Go.TypeDesc.int Go.IntKind.i64) (cmpT Try.prog) true a13 (.int .i64 2)).bind fun a25 =>
            ref04_Formed_J16 n a1 a13 a25 (.int .i64 0) H1 (E1 ++ []))
            (ref04_Formed_J16 n a1 a13 (.bool false) (.int .i64 0) H1 (E1 ++ [])))
          (ref04_Formed_J16 n a1 a13 (.bool false) (.int .i64 0) H1 (E1 ++ [])))
        (ref04_Formed_J16 n a1 a13 (.bool false) (.int .i64 0) H1 (E1 ++ [])))
      ((binA .eql (Go.TypeDesc.int Go.IntKind.i64) (cmpT Try.prog) true a15 (.int .i64 2)).bind fun a26 =>
      condK a26
        ((binA .leq (Go.TypeDesc.int Go.IntKind.i64) (cmpT Try.prog) true a4 (.int .i64 80)).bind fun a27 =>
        splitK a27
          ((binA .eql (Go.TypeDesc.int Go.IntKind.i64) (cmpT Try.prog) true a7 (.int .i64 0)).bind fun a28 =>
          splitK a28
            ((binA .eql (Go.TypeDesc.int Go.IntKind.i64) (cmpT Try.prog) true a13 (.int .i64 2)).bind fun a29 =>
            ref04_Formed_J16 n a1 a13 a29 (.int .i64 0) H1 (E1 ++ []))
            (ref04_Formed_J16 n a1 a13 (.bool false) (.int .i64 0) H1 (E1 ++ [])))
          (ref04_Formed_J16 n a1 a13 (.bool false) (.int .i64 0) H1 (E1 ++ [])))
        ((binA .eql (Go.TypeDesc.int Go.IntKind.i64) (cmpT Try.prog) true a15 (.int .i64 3)).bind fun a30 =>
        condK a30
          ((binA .eql (Go.TypeDesc.int Go.IntKind.i64) (cmpT Try.prog) true a4 (.int .i64 0)).bind fun a31 =>
          splitK a31
            ((binA .eql (Go.TypeDesc.int Go.IntKind.i64) (cmpT Try.prog) true a7 (.int .i64 0)).bind fun a32 =>
            splitK a32
              ((binA .eql (Go.TypeDesc.int Go.IntKind.i64) (cmpT Try.prog) true a13 (.int .i64 0)).bind fun a33 =>
              ref04_Formed_J16 n a1 a13 a33 (.int .i64 0) H1 (E1 ++ []))
              (ref04_Formed_J16 n a1 a13 (.bool false) (.int .i64 0) H1 (E1 ++ [])))
            (ref04_Formed_J16 n a1 a13 (.bool false) (.int .i64 0) H1 (E1 ++ [])))
          (ref04_Formed_J16 n a1 a13 (.bool false) (.int .i64 0) H1 (E1 ++ []))))))) (List.length H) = some r) : EV C n_ref04_Formed [x0] H = some r :=
  EV_of_fnK' (fn := Try.f73) (by kernel_rfl) (by kernel_rfl) (by kernel_rfl) hh
theorem tree_Check_of {r : R3} {x0 : AV} {H : List AObj} (hh : (fun n => (
  newK x0 H fun a1 H1 E1 =>
  (loadA true 5 a1 H1).bind fun a2 =>
  callK (EV C) false n_tree_deep [a2, (.int .i64 64)] H1 fun a3 H3 E3 =>
  condK a3
    (endB false false n (.ifc t_api_Code (.int .i64 5)) H3 (E3 ++ (E1 ++ [])))
    ((loadA true 5 a1 H3).bind fun a4 =>
    callK (EV C) false n_tree_formed [a4] H3 fun a5 H5 E5 =>
    (unA .not a5).bind fun a6 =>
    condK a6
      (endB false false n (.ifc t_api_Code (.int .i64 3)) H5 (E5 ++ (E3 ++ (E1 ++ []))))
      (endB false false n .nili H5 (E5 ++ (E3 ++ (E1 ++ []))))))) (List.length H) = some r) : EV C n_tree_Check [x0] H = some r :=
  EV_of_fnK' (fn := Try.f76) (by kernel_rfl) (by kernel_rfl) (by kernel_rfl) hh
theorem tree_full_of {r : R3} {x0 : AV} {H : List AObj} (hh : (fun n => (
  newK x0 H fun a1 H1 E1 =>
  (offA a1 0).bind fun a2 =>
  (loadA false 1 a2 H1).bind fun a3 =>
  (binA .eql (Go.TypeDesc.int Go.IntKind.i64) (cmpT Try.prog) true a3 (.int .i64 2)).bind fun a4 =>
  splitK a4
    (endB false false n (.bool false) H1 (E1 ++ []))
    ((offA a1 0).bind fun a5 =>
    (loadA false 1 a5 H1).bind fun a6 =>
    (binA .eql (Go.TypeDesc.int Go.IntKind.i64) (cmpT Try.prog) true a6 (.int .i64 3)).bind fun a7 =>
    condK a7
      (endB false false n (.bool false) H1 (E1 ++ []))
      ((offA a1 4).bind fun a8 =>
      (loadA false 1 a8 H1).bind fun a9 =>
      callK (EV C) false n_ContainsFunc_api_Tree [a9, (.clo n_tree_full_1 [] [])] H1 fun a10 H10 E10 =>
      (unA .not a10).bind fun a11 =>
      endB false false n a11 H10 (E10 ++ (E1 ++ [])))))) (List.length H) = some r) : EV C n_tree_full [x0] H = some r :=
  EV_of_fnK' (fn := Try.f77) (by kernel_rfl) (by kernel_rfl) (by kernel_rfl) hh
theorem tree_List_1_of {r : R3} {x0 x1 x2 : AV} {H : List AObj} (hh : (fun n => (
  newK x0 H fun a1 H1 E1 =>
  (offA a1 4).bind fun a2 =>
  (loadA false 1 a2 H1).bind fun a3 =>
  (lenV a3 H1).bind fun a4 =>
  (binA .eql (Go.TypeDesc.int Go.IntKind.i64) (cmpT Try.prog) true a4 (.int .i64 0)).bind fun a5 =>
  condK a5
    (endB false true n (.tup []) H1 (E1 ++ []))
    ((loadA false 1 x1 H1).bind fun a6 =>
    (offA a1 4).bind fun a7 =>
    (loadA false 1 a7 H1).bind fun a8 =>
    (ixA 5 a8 (.int .i64 0) H1).bind fun a9 =>
    (loadA true 5 a9 H1).bind fun a10 =>
    valK Try.prog (EV C) false a6 [a10] H1 fun a11 H11 E11 =>
    drawK (SwapOk Try.prog C.G (EV C) (C.hint 78) 3 (opsOf Try.f78 3) ⟨[x0, x1, x2, a1, a2, a3, a4, (.bool false), a6, a7, a8, a9, a10, a11, (.tup []), (.tup []), (.tup []), (.tup []), (.tup []), (.tup []), (.tup []), (.tup []), (.tup []), (.tup []), (.tup []), (.tup [])], H11, (E11 ++ (E1 ++ []))⟩)
    ((loadA false 1 x2 H11).bind fun a12 =>
      (loadA true 5 a1 H11).bind fun a13 =>
      (lenV a12 H11).bind fun a14 =>
      litK 5 1 (.agg [(.int .i64 0), .nils, .nils, .nils, .nils]) [(0, (.agg [(.int .i64 0), .nils, .nils, .nils, .nils]))] H11 fun a15 H15 E15 =>
      appK 5 104 a12 a15 H15 fun a16 H16 E16 =>
      (ixA 5 a16 a14 H16).bind fun a17 =>
      stoK 5 a17 a13 H16 fun H18 E18 =>
      stoK 1 x2 a16 H18 fun H19 E19 =>
      (loadA false 1 x1 H19).bind fun a20 =>
      (offA a1 4).bind fun a21 =>
      (loadA false 1 a21 H19).bind fun a22 =>
      (ixA 5 a22 (.int .i64 1) H19).bind fun a23 =>
      (loadA true 5 a23 H19).bind fun a24 =>
      valK Try.prog (EV C) false a20 [a24] H19 fun a25 H25 E25 =>
      endB false true n (.tup []) H25 (E25 ++ (E19 ++ (E18 ++ (E16 ++ (E15 ++ (E11 ++ (E1 ++ []))))))))))) (List.length H) = some r) : EV C n_tree_List_1 [x0, x1, x2] H = some r :=
  EV_of_fnK' (fn := Try.f78) (by kernel_rfl) (by kernel_rfl) (by kernel_rfl) hh
theorem tree_deep_of {r : R3} {x0 x1 : AV} {H : List AObj} (hh : (fun n => (
  newK x0 H fun a1 H1 E1 =>
  newK x1 H1 fun a2 H2 E2 =>
  (offA a1 0).bind fun a3 =>
  (loadA false 1 a3 H2).bind fun a4 =>
  (binA .eql (Go.TypeDesc.int Go.IntKind.i64) (cmpT Try.prog) true a4 (.int .i64 1)).bind fun a5 =>
  splitK a5
    ((loadA false 1 a2 H2).bind fun a6 =>
    (binA .lss (Go.TypeDesc.int Go.IntKind.i64) (cmpT Try.prog) true a6 (.int .i64 1)).bind fun a7 =>
    condK a7
      (endB false false n (.bool true) H2 (E2 ++ (E1 ++ [])))
      ((offA a1 4).bind fun a8 =>
      (loadA false 1 a8 H2).bind fun a9 =>
      callK (EV C) false n_ContainsFunc_api_Tree [a9, (.clo n_tree_deep_1 [] [a2])] H2 fun a10 H10 E10 =>
      endB false false n a10 H10 (E10 ++ (E2 ++ (E1 ++ [])))))
    ((offA a1 0).bind fun a11 =>
    (loadA false 1 a11 H2).bind fun a12 =>
    (binA .eql (Go.TypeDesc.int Go.IntKind.i64) (cmpT Try.prog) true a12 (.int .i64 2)).bind fun a13 =>
    splitK a13
      ((loadA false 1 a2 H2).bind fun a14 =>
      (binA .lss (Go.TypeDesc.int Go.IntKind.i64) (cmpT Try.prog) true a14 (.int .i64 1)).bind fun a15 =>
      condK a15
        (endB false false n (.bool true) H2 (E2 ++ (E1 ++ [])))
        ((offA a1 4).bind fun a16 =>
        (loadA false 1 a16 H2).bind fun a17 =>
        callK (EV C) false n_ContainsFunc_api_Tree [a17, (.clo n_tree_deep_1 [] [a2])] H2 fun a18 H18 E18 =>
        endB false false n a18 H18 (E18 ++ (E2 ++ (E1 ++ [])))))
      ((offA a1 4).bind fun a19 =>
      (loadA false 1 a19 H2).bind fun a20 =>
      (lenV a20 H2).bind fun a21 =>
      (binA .gtr (Go.TypeDesc.int Go.IntKind.i64) (cmpT Try.prog) true a21 (.int .i64 0)).bind fun a22 =>
      splitK a22
        ((loadA false 1 a2 H2).bind fun a23 =>
        (binA .lss (Go.TypeDesc.int Go.IntKind.i64) (cmpT Try.prog) true a23 (.int .i64 1)).bind fun a24 =>
        condK a24
          (endB false false n (.bool true) H2 (E2 ++ (E1 ++ [])))
          ((offA a1 4).bind fun a25 =>
          (loadA false 1 a25 H2).bind fun a26 =>
          callK (EV C) false n_ContainsFunc_api_Tree [a26, (.clo n_tree_deep_1 [] [a2])] H2 fun a27 H27 E27 =>
          endB false false n a27 H27 (E27 ++ (E2 ++ (E1 ++ [])))))
        ((offA a1 4).bind fun a28 =>
        (loadA false 1 a28 H2).bind fun a29 =>
        callK (EV C) false n_ContainsFunc_api_Tree [a29, (.clo n_tree_deep_1 [] [a2])] H2 fun a30 H30 E30 =>
        endB false false n a30 H30 (E30 ++ (E2 ++ (E1 ++ [])))))))) (List.length H) = some r) : EV C n_tree_deep [x0, x1] H = some r :=
  EV_of_fnK' (fn := Try.f86) (by kernel_rfl) (by kernel_rfl) (by kernel_rfl) hh
theorem tree_formed_of {r : R3} {x0 : AV} {H : List AObj} (hh : (fun n => (
  newK x0 H fun a1 H1 E1 =>
  (offA a1 0).bind fun a2 =>
  (loadA false 1 a2 H1).bind fun a3 =>
  (binA .eql (Go.TypeDesc.int Go.IntKind.i64) (cmpT Try.prog) true a3 (.int .i64 0)).bind fun a4 =>
  condK a4
    ((offA a1 1).bind fun a5 =>
    (loadA false 1 a5 H1).bind fun a6 =>
    (lenV a6 H1).bind fun a7 =>
    (offA a1 2).bind fun a8 =>
    (loadA false 1 a8 H1).bind fun a9 =>
    (lenV a9 H1).bind fun a10 =>
    (binA .add (Go.TypeDesc.int Go.IntKind.i64) (cmpT Try.prog) false a7 a10).bind fun a11 =>
    (offA a1 3).bind fun a12 =>
    (loadA false 1 a12 H1).bind fun a13 =>
    (lenV a13 H1).bind fun a14 =>
    (binA .add (Go.TypeDesc.int Go.IntKind.i64) (cmpT Try.prog) false a11 a14).bind fun a15 =>
    (offA a1 4).bind fun a16 =>
    (loadA false 1 a16 H1).bind fun a17 =>
    (lenV a17 H1).bind fun a18 =>
    (binA .add (Go.TypeDesc.int Go.IntKind.i64) (cmpT Try.prog) false a15 a18).bind fun a19 =>
    (binA .eql (Go.TypeDesc.int Go.IntKind.i64) (cmpT Try.prog) true a19 (.int .i64 0)).bind fun a20 =>
    splitK a20
      ((offA a1 4).bind fun a21 =>
      (loadA false 1 a21 H1).bind fun a22 =>
      callK (EV C) false n_ContainsFunc_api_Tree [a22, (.clo n_tree_formed_1 [] [])] H1 fun a23 H23 E23 =>
      (unA .not a23).bind fun a24 =>
      endB false false n a24 H23 (E23 ++ (E1 ++ [])))
      (endB false false n (.bool false) H1 (E1 ++ [])))
    ((binA .eql (Go.TypeDesc.int Go.IntKind.i64) (cmpT Try.prog) true a3 (.int .i64 1)).bind fun a25 =>
    condK a25
      ((offA a1 1).bind fun a26 =>
      (loadA false 1 a26 H1).bind fun a27 =>
      (lenV a27 H1).bind fun a28 =>
      (binA .leq (Go.TypeDesc.int Go.IntKind.i64) (cmpT Try.prog) true a28 (.int .i64 80)).bind fun a29 =>
      splitK a29
        ((offA a1 2).bind fun a30 =>
        (loadA false 1 a30 H1).bind fun a31 =>
        (lenV a31 H1).bind fun a32 =>
        (binA .leq (Go.TypeDesc.int Go.IntKind.i64) (cmpT Try.prog) true a32 (.int .i64 1024)).bind fun a33 =>
        splitK a33
          ((offA a1 3).bind fun a34 =>
          (loadA false 1 a34 H1).bind fun a35 =>
          (lenV a35 H1).bind fun a36 =>
          (binA .eql (Go.TypeDesc.int Go.IntKind.i64) (cmpT Try.prog) true a36 (.int .i64 0)).bind fun a37 =>
          splitK a37
            ((offA a1 4).bind fun a38 =>
            (loadA false 1 a38 H1).bind fun a39 =>
            (lenV a39 H1).bind fun a40 =>
            (binA .eql (Go.TypeDesc.int Go.IntKind.i64) (cmpT Try.prog) true a40 (.int .i64 2)).bind fun a41 =>
            splitK a41
              ((offA a1 4).bind fun a42 =>
              (loadA false 1 a42 H1).bind fun a43 =>
              callK (EV C) false n_ContainsFunc_api_Tree [a43, (.clo n_tree_formed_1 [] [])] H1 fun a44 H44 E44 =>
              (unA .not a44).bind fun a45 =>
              endB false false n a45 H44 (E44 ++ (E1 ++ [])))
              (endB false false n (.bool false) H1 (E1 ++ [])))
            (endB false false n (.bool false) H1 (E1 ++ [])))
          (endB false false n (.bool false) H1 (E1 ++ [])))
        (endB false false n (.bool false) H1 (E1 ++ [])))
      ((binA .eql (Go.TypeDesc.int Go.IntKind.i64) (cmpT Try.prog) true a3 (.int .i64 2)).bind fun a46 =>
      condK a46
        ((offA a1 1).bind fun a47 =>
        (loadA false 1 a47 H1).bind fun a48 =>
        (lenV a48 H1).bind fun a49 =>
        (binA .leq (Go.TypeDesc.int Go.IntKind.i64) (cmpT Try.prog) true a49 (.int .i64 80)).bind fun a50 =>
        splitK a50
          ((offA a1 2).bind fun a51 =>
          (loadA false 1 a51 H1).bind fun a52 =>
          (lenV a52 H1).bind fun a53 =>
          (binA .eql (Go.TypeDesc.int Go.IntKind.i64) (cmpT Try.prog) true a53 (.int .i64 0)).bind fun a54 =>
          splitK a54
            ((offA a1 4).bind fun a55 =>
            (loadA false 1 a55 H1).bind fun a56 =>
            (lenV a56 H1).bind fun a57 =>
            (binA .eql (Go.TypeDesc.int Go.IntKind.i64) (cmpT Try.prog) true a57 (.int .i64 2)).bind fun a58 =>
            splitK a58
              ((offA a1 4).bind fun a59 =>
              (loadA false 1 a59 H1).bind fun a60 =>
              callK (EV C) false n_ContainsFunc_api_Tree [a60, (.clo n_tree_formed_1 [] [])] H1 fun a61 H61 E61 =>
              (unA .not a61).bind fun a62 =>
              endB false false n a62 H61 (E61 ++ (E1 ++ [])))
              (endB false false n (.bool false) H1 (E1 ++ [])))
            (endB false false n (.bool false) H1 (E1 ++ [])))
          (endB false false n (.bool false) H1 (E1 ++ [])))
        ((binA .eql (Go.TypeDesc.int Go.IntKind.i64) (cmpT Try.prog) true a3 (.int .i64 3)).bind fun a63 =>
        condK a63
          ((offA a1 1).bind fun a64 =>
          (loadA false 1 a64 H1).bind fun a65 =>
          (lenV a65 H1).bind fun a66 =>
          (offA a1 2).bind fun a67 =>
          (loadA false 1 a67 H1).bind fun a68 =>
          (lenV a68 H1).bind fun a69 =>
          (binA .add (Go.TypeDesc.int Go.IntKind.i64) (cmpT Try.prog) false a66 a69).bind fun a70 =>
          (offA a1 4).bind fun a71 =>
          (loadA false 1 a71 H1).bind fun a72 =>
          (lenV a72 H1).bind fun a73 =>
          (binA .add (Go.TypeDesc.int Go.IntKind.i64) (cmpT Try.prog) false a70 a73).bind fun a74 =>
          (binA .eql (Go.TypeDesc.int Go.IntKind.i64) (cmpT Try.prog) true a74 (.int .i64 0)).bind fun a75 =>
          splitK a75
            ((offA a1 4).bind fun a76 =>
            (loadA false 1 a76 H1).bind fun a77 =>
            callK (EV C) false n_ContainsFunc_api_Tree [a77, (.clo n_tree_formed_1 [] [])] H1 fun a78 H78 E78 =>
            (unA .not a78).bind fun a79 =>
            endB false false n a79 H78 (E78 ++ (E1 ++ [])))
            (endB false false n (.bool false) H1 (E1 ++ [])))
          (endB false false n (.bool false) H1 (E1 ++ []))))))) (List.length H) = some r) : EV C n_tree_formed [x0] H = some r :=
  EV_of_fnK' (fn := Try.f87) (by kernel_rfl) (by kernel_rfl) (by kernel_rfl) hh
theorem ContainsFunc_api_Tree_of {r : R3} {x0 x1 : AV} {H : List AObj} (hh : (fun n => (
  callK (EV C) false n_IndexFunc_api_Tree [x0, x1] H fun a1 H1 E1 =>
  (binA .geq (Go.TypeDesc.int Go.IntKind.i64) (cmpT Try.prog) true a1 (.int .i64 0)).bind fun a2 =>
  endB false false n a2 H1 (E1 ++ []))) (List.length H) = some r) : EV C n_ContainsFunc_api_Tree [x0, x1] H = some r :=
  EV_of_fnK' (fn := Try.f88) (by kernel_rfl) (by kernel_rfl) (by kernel_rfl) hh
theorem tree_full_1_of {r : R3} {x0 : AV} {H : List AObj} (hh : (fun n => (
  newK x0 H fun a1 H1 E1 =>
  (loadA true 5 a1 H1).bind fun a2 =>
  callK (EV C) false n_tree_full [a2] H1 fun a3 H3 E3 =>
  (unA .not a3).bind fun a4 =>
  endB false false n a4 H3 (E3 ++ (E1 ++ [])))) (List.length H) = some r) : EV C n_tree_full_1 [x0] H = some r :=
  EV_of_fnK' (fn := Try.f89) (by kernel_rfl) (by kernel_rfl) (by kernel_rfl) hh
theorem tree_deep_1_of {r : R3} {x0 x1 : AV} {H : List AObj} (hh : (fun n => (
  newK x0 H fun a1 H1 E1 =>
  (loadA true 5 a1 H1).bind fun a2 =>
  (loadA false 1 x1 H1).bind fun a3 =>
  (binA .sub (Go.TypeDesc.int Go.IntKind.i64) (cmpT Try.prog) true a3 (.int .i64 1)).bind fun a4 =>
  callK (EV C) false n_tree_deep [a2, a4] H1 fun a5 H5 E5 =>
  endB false false n a5 H5 (E5 ++ (E1 ++ [])))) (List.length H) = some r) : EV C n_tree_deep_1 [x0, x1] H = some r :=
  EV_of_fnK' (fn := Try.f93) (by kernel_rfl) (by kernel_rfl) (by kernel_rfl) hh
theorem tree_formed_1_of {r : R3} {x0 : AV} {H : List AObj} (hh : (fun n => (
  newK x0 H fun a1 H1 E1 =>
  (loadA true 5 a1 H1).bind fun a2 =>
  callK (EV C) false n_tree_formed [a2] H1 fun a3 H3 E3 =>
  (unA .not a3).bind fun a4 =>
  endB false false n a4 H3 (E3 ++ (E1 ++ [])))) (List.length H) = some r) : EV C n_tree_formed_1 [x0] H = some r :=
  EV_of_fnK' (fn := Try.f94) (by kernel_rfl) (by kernel_rfl) (by kernel_rfl) hh
noncomputable def IndexFunc_api_Tree_J2 (n : Nat) (t0 t1 t7 t8 : AV) (H : List AObj) (E : List Nat) : Option R3 :=
  loopK Try.prog C.G (EV C) (C.hint 95) Try.f95 (cAt (bodyOf Try.f95) [1, 0, 1, 0, 0]) (kAt Try.prog C.G (EV C) (C.hint 95) Try.f95 (bodyOf Try.f95) [1, 0, 1, 0] [] (endK Try.prog (C.hint 95) Try.f95 n))
    ⟨pat 19 [(0, t0), (1, t1), (7, t7), (8, t8)], H, E⟩
theorem IndexFunc_api_Tree_J2_of {r : R3} {n : Nat} {t0 t1 t7 t8 : AV} {H : List AObj} {E : List Nat} (hh : (
  (binA .lss (Go.TypeDesc.int Go.IntKind.i64) (cmpT Try.prog) false t8 t7).bind fun a1 =>
  condK a1
    ((ixA 5 t0 t8 H).bind fun a2 =>
    (loadA true 5 a2 H).bind fun a3 =>
    valK Try.prog (EV C) false t1 [a3] H fun a4 H4 E4 =>
    condK a4
      (endB false false n t8 H4 ((E4 ++ []) ++ E))
      ((binA .add (Go.TypeDesc.int Go.IntKind.i64) (cmpT Try.prog) true t8 (.int .i64 1)).bind fun a5 =>
      IndexFunc_api_Tree_J2 n t0 t1 t7 a5 H4 ((E4 ++ []) ++ E)))
    (endB false false n (.int .i64 (-1)) H E)) = some r) : IndexFunc_api_Tree_J2 n t0 t1 t7 t8 H E = some r :=
  loop_step' (by kernel_rfl) hh
theorem IndexFunc_api_Tree_of {r : R3} {x0 x1 : AV} {H : List AObj} (hh : (fun n => (
  (lenV x0 H).bind fun a1 =>
  IndexFunc_api_Tree_J2 n x0 x1 a1 (.int .i64 0) H [])) (List.length H) = some r) : EV C n_IndexFunc_api_Tree [x0, x1] H = some r :=
  EV_of_fnK' (fn := Try.f95) (by kernel_rfl) (by kernel_rfl) (by kernel_rfl) hh
end Go.Pm
