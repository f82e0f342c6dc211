/- A part of the proof: what the functions of the program answer, as plain lists and numbers. -/
import Derived.Test.YtaoklfecdcakbaaDoorP9
namespace Go.Pm
open Go.Proofs
set_option linter.unusedVariables false
set_option maxRecDepth 100000
noncomputable def law13_FoldStays_J11 (n : Nat) (t0 t3 t5 t6 t8 t9 t10 : AV) (H : List AObj) (E : List Nat) : Option R3 :=
  loopK Tryd.prog C.G (EV C) (C.hint 4) Tryd.f4 (cAt (bodyOf Tryd.f4) [1, 1, 1, 1, 1, 1, 1, 1, 0, 1, 0, 0]) (kAt Tryd.prog C.G (EV C) (C.hint 4) Tryd.f4 (bodyOf Tryd.f4) [1, 1, 1, 1, 1, 1, 1, 1, 0, 1, 0] [] (endK Tryd.prog (C.hint 4) Tryd.f4 n))
    ⟨pat 154 [(0, t0), (3, t3), (5, t5), (6, t6), (8, t8), (9, t9), (10, t10)], H, E⟩
noncomputable def law13_FoldStays_J17 (n : Nat) (t0 t3 t5 t6 t9 t11 t12 t13 t14 : AV) (H : List AObj) (E : List Nat) : Option R3 :=
  loopK Tryd.prog C.G (EV C) (C.hint 4) Tryd.f4 (cAt (bodyOf Tryd.f4) [1, 1, 1, 1, 1, 1, 1, 1, 1, 1, 1, 0, 1, 0, 0]) (kAt Tryd.prog C.G (EV C) (C.hint 4) Tryd.f4 (bodyOf Tryd.f4) [1, 1, 1, 1, 1, 1, 1, 1, 1, 1, 1, 0, 1, 0] [] (endK Tryd.prog (C.hint 4) Tryd.f4 n))
    ⟨pat 154 [(0, t0), (3, t3), (5, t5), (6, t6), (9, t9), (11, t11), (12, t12), (13, t13), (14, t14)], H, E⟩
theorem law13_FoldStays_J11_of {r : R3} {n : Nat} {t0 t3 t5 t6 t8 t9 t10 : AV} {H : List AObj} {E : List Nat} (hh : (
  (offA t8 2).bind fun a1 =>
  (loadA false 1 a1 H).bind fun a2 =>
  (lenV a2 H).bind fun a3 =>
  (binA .lss (Go.TypeDesc.int Go.IntKind.i64) (cmpT Tryd.prog) false t10 a3).bind fun a4 =>
  condK a4
    ((offA t8 2).bind fun a5 =>
    (loadA false 1 a5 H).bind fun a6 =>
    (offA t8 2).bind fun a7 =>
    (loadA false 1 a7 H).bind fun a8 =>
    (ixA 1 a8 t10 H).bind fun a9 =>
    (loadA false 1 a9 H).bind fun a10 =>
    (binA .add (Go.TypeDesc.int Go.IntKind.u8) (cmpT Tryd.prog) true a10 (.int .u8 1)).bind fun a11 =>
    (ixA 1 a6 t10 H).bind fun a12 =>
    stoK 1 a12 a11 H fun H13 E13 =>
    (binA .add (Go.TypeDesc.int Go.IntKind.i64) (cmpT Tryd.prog) true t10 (.int .i64 1)).bind fun a14 =>
    law13_FoldStays_J11 n t0 t3 t5 t6 t8 t9 a14 H13 ((E13 ++ []) ++ E))
    (callK (EV C) true n_fold_Fold_Root_r [t6, (.int .i64 1)] H fun a15 H15 E15 =>
    (extA a15 0).bind fun a16 =>
    (extA a15 1).bind fun a17 =>
    (cvL a16 H15).bind fun a18 =>
    law13_FoldStays_J17 n t0 t3 t5 t6 t9 a16 a17 a18 (.int .i64 0) H15 (E15 ++ E))) = some r) : law13_FoldStays_J11 n t0 t3 t5 t6 t8 t9 t10 H E = some r :=
  loop_step' (by kernel_rfl) hh
theorem law13_FoldStays_J17_of {r : R3} {n : Nat} {t0 t3 t5 t6 t9 t11 t12 t13 t14 : AV} {H : List AObj} {E : List Nat} (hh : (
  (lenV t11 H).bind fun a1 =>
  (binA .lss (Go.TypeDesc.int Go.IntKind.i64) (cmpT Tryd.prog) false t14 a1).bind fun a2 =>
  condK a2
    ((ixA 1 t11 t14 H).bind fun a3 =>
    (loadA false 1 a3 H).bind fun a4 =>
    (binA .add (Go.TypeDesc.int Go.IntKind.u8) (cmpT Tryd.prog) true a4 (.int .u8 1)).bind fun a5 =>
    (ixA 1 t11 t14 H).bind fun a6 =>
    stoK 1 a6 a5 H fun H7 E7 =>
    (binA .add (Go.TypeDesc.int Go.IntKind.i64) (cmpT Tryd.prog) true t14 (.int .i64 1)).bind fun a8 =>
    law13_FoldStays_J17 n t0 t3 t5 t6 t9 t11 t12 t13 a8 H7 ((E7 ++ []) ++ E))
    (callK (EV C) false n_fold_Fold_Root [t6, (.int .i64 1)] H fun a9 H9 E9 =>
    (extA a9 0).bind fun a10 =>
    (extA a9 1).bind fun a11 =>
    callK (EV C) false n_ref05_Grown [t0] H9 fun a12 H12 E12 =>
    callK (EV C) true n_fold_New [(.int .i64 0), a12] H12 fun a13 H13 E13 =>
    (extA a13 0).bind fun a14 =>
    (extA a13 1).bind fun a15 =>
    (binA .eql (Go.TypeDesc.pointer 124) (cmpT Tryd.prog) true a14 .nilp).bind fun a16 =>
    splitK a16
      (endB false false n (.bool false) H13 (E13 ++ (E12 ++ (E9 ++ E))))
      ((binA .neq (Go.TypeDesc.interface #[("Error", 202)]) (cmpT Tryd.prog) true a15 .nili).bind fun a17 =>
      condK a17
        (endB false false n (.bool false) H13 (E13 ++ (E12 ++ (E9 ++ E))))
        ((loadA true 3 t3 H13).bind fun a18 =>
        callK (EV C) false n_fold_Fold_Apply [a14, a18] H13 fun a19 H19 E19 =>
        callK (EV C) false n_fold_Fold_Root [a14, (.int .i64 1)] H19 fun a20 H20 E20 =>
        (extA a20 0).bind fun a21 =>
        (extA a20 1).bind fun a22 =>
        splitK t5
          (splitK t9
            ((binA .eql (Go.TypeDesc.interface #[("Error", 202)]) (cmpT Tryd.prog) true t12 .nili).bind fun a23 =>
            splitK a23
              ((binA .eql (Go.TypeDesc.interface #[("Error", 202)]) (cmpT Tryd.prog) true a11 .nili).bind fun a24 =>
              splitK a24
                ((binA .eql (Go.TypeDesc.interface #[("Error", 202)]) (cmpT Tryd.prog) true a22 .nili).bind fun a25 =>
                splitK a25
                  ((cvL a10 H20).bind fun a26 =>
                  (binA .eql Go.TypeDesc.string (cmpT Tryd.prog) false a26 t13).bind fun a27 =>
                  splitK a27
                    ((cvL a21 H20).bind fun a28 =>
                    (binA .eql Go.TypeDesc.string (cmpT Tryd.prog) false a28 t13).bind fun a29 =>
                    splitK a29
                      (callK (EV C) false n_law00_Code [t12] H20 fun a30 H30 E30 =>
                      (binA .eql (Go.TypeDesc.int Go.IntKind.i64) (cmpT Tryd.prog) true a30 (.int .i64 0)).bind fun a31 =>
                      endB false false n a31 H30 (E30 ++ (E20 ++ (E19 ++ (E13 ++ (E12 ++ (E9 ++ E)))))))
                      (endB false false n (.bool false) H20 (E20 ++ (E19 ++ (E13 ++ (E12 ++ (E9 ++ E)))))))
                    (endB false false n (.bool false) H20 (E20 ++ (E19 ++ (E13 ++ (E12 ++ (E9 ++ E)))))))
                  (endB false false n (.bool false) H20 (E20 ++ (E19 ++ (E13 ++ (E12 ++ (E9 ++ E)))))))
                (endB false false n (.bool false) H20 (E20 ++ (E19 ++ (E13 ++ (E12 ++ (E9 ++ E)))))))
              (endB false false n (.bool false) H20 (E20 ++ (E19 ++ (E13 ++ (E12 ++ (E9 ++ E)))))))
            (endB false false n (.bool false) H20 (E20 ++ (E19 ++ (E13 ++ (E12 ++ (E9 ++ E)))))))
          (endB false false n (.bool false) H20 (E20 ++ (E19 ++ (E13 ++ (E12 ++ (E9 ++ E)))))))))) = some r) : law13_FoldStays_J17 n t0 t3 t5 t6 t9 t11 t12 t13 t14 H E = some r :=
  loop_step' (by kernel_rfl) hh
theorem law13_FoldStays_of {r : R3} {x0 x1 : AV} {H : List AObj} (hh : (fun n => (
  newK x1 H fun a1 H1 E1 =>
  callK (EV C) false n_law13_up [] H1 fun a2 H2 E2 =>
  (offA a1 2).bind fun a3 =>
  (loadA false 1 a3 H2).bind fun a4 =>
  (lenV a4 H2).bind fun a5 =>
  (binA .gtr (Go.TypeDesc.int Go.IntKind.i64) (cmpT Tryd.prog) true a5 (.int .i64 3000)).bind fun a6 =>
  condK a6
    (endB false false n a2 H2 (E2 ++ (E1 ++ [])))
    (callK (EV C) false n_ref05_Grown [x0] H2 fun a7 H7 E7 =>
    callK (EV C) true n_fold_New [(.int .i64 0), a7] H7 fun a8 H8 E8 =>
    (extA a8 0).bind fun a9 =>
    (extA a8 1).bind fun a10 =>
    (binA .eql (Go.TypeDesc.pointer 124) (cmpT Tryd.prog) true a9 .nilp).bind fun a11 =>
    splitK a11
      (endB false false n (.bool false) H8 (E8 ++ (E7 ++ (E2 ++ (E1 ++ [])))))
      ((binA .neq (Go.TypeDesc.interface #[("Error", 202)]) (cmpT Tryd.prog) true a10 .nili).bind fun a12 =>
      condK a12
        (endB false false n (.bool false) H8 (E8 ++ (E7 ++ (E2 ++ (E1 ++ [])))))
        ((offA a1 0).bind fun a13 =>
        (loadA false 1 a13 H8).bind fun a14 =>
        (offA a1 1).bind fun a15 =>
        (loadA false 1 a15 H8).bind fun a16 =>
        (offA a1 2).bind fun a17 =>
        (loadA false 1 a17 H8).bind fun a18 =>
        appK 1 1 (AV.emp none) a18 H8 fun a19 H19 E19 =>
        drawK (((loadA false 1 a13 H19).bind fun a20 =>
        some a20) = some a14)
        (drawK (((loadA false 1 a15 H19).bind fun a21 =>
        some a21) = some a16)
        ((fillB (AV.cells (.agg [(.int .i64 0), (.int .i64 0), .nils])) [(0, 1, a14), (1, 1, a16), (2, 1, a19)]).bind fun c22 =>
        sizK 3 (.agg c22)
        (newK (.agg c22) H19 fun a23 H23 E23 =>
        (loadA true 3 a23 H23).bind fun a24 =>
        callK (EV C) true n_fold_Fold_Apply [a9, a24] H23 fun a25 H25 E25 =>
        (offA a23 2).bind fun a26 =>
        (loadA false 1 a26 H25).bind fun a27 =>
        (cvL a27 H25).bind fun a28 =>
        (offA a1 2).bind fun a29 =>
        (loadA false 1 a29 H25).bind fun a30 =>
        (cvL a30 H25).bind fun a31 =>
        (binA .eql Go.TypeDesc.string (cmpT Tryd.prog) false a28 a31).bind fun a32 =>
        law13_FoldStays_J11 n x0 a1 a2 a9 a23 a32 (.int .i64 0) H25 (E25 ++ (E23 ++ (E19 ++ (E8 ++ (E7 ++ (E2 ++ (E1 ++ []))))))))))))))) (List.length H) = some r) : EV C n_law13_FoldStays [x0, x1] H = some r :=
  EV_of_fnK' (fn := Tryd.f4) (by kernel_rfl) (by kernel_rfl) (by kernel_rfl) hh
end Go.Pm
