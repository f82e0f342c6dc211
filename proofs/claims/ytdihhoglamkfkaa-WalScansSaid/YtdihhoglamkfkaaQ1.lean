/- A part of the proof: what the functions of the program answer, as plain lists and numbers. -/
import Derived.Test.YtdihhoglamkfkaaQ0
namespace Go.Pm
open Go.Proofs
set_option linter.unusedVariables false
set_option maxRecDepth 100000
/-! ### 3 heartwood/heartwoodlaw16.WalScans -/
theorem law16_WalScans_of {r : R3} {x0 : AV} {H : List AObj} (hh : (fun n => (
  callK (EV C) false n_law16_up [] H fun a1 H1 E1 =>
  (lenV x0 H1).bind fun a2 =>
  (binA .gtr (Go.TypeDesc.int Go.IntKind.i64) (cmpT Try.prog) true a2 (.int .i64 20000)).bind fun a3 =>
  condK a3
    ((cutA 1 x0 none (some (.int .i64 20000)) none H1).bind fun a4 =>
    callK (EV C) false n_wal_Scan [a4] H1 fun a5 H5 E5 =>
    (extA a5 0).bind fun a6 =>
    (extA a5 1).bind fun a7 =>
    callK (EV C) false n_ref16_Scan [a4] H5 fun a8 H8 E8 =>
    (extA a8 0).bind fun a9 =>
    (extA a8 1).bind fun a10 =>
    callK (EV C) false n_wal_Frame [a4] H8 fun a11 H11 E11 =>
    (extA a11 0).bind fun a12 =>
    (extA a11 1).bind fun a13 =>
    splitK a1
      ((callD (EV C) n_wal_Sum [a4] H11).bind fun a14 =>
      (callD (EV C) n_ref16_Sum [a4] H11).bind fun a15 =>
      (binA .eql (Go.TypeDesc.int Go.IntKind.u32) (cmpT Try.prog) false a14 a15).bind fun a16 =>
      splitK a16
        ((callD (EV C) n_ref16_Same [a6, a9] H11).bind fun a17 =>
        splitK a17
          ((binA .eql (Go.TypeDesc.int Go.IntKind.i64) (cmpT Try.prog) false a7 a10).bind fun a18 =>
          splitK a18
            ((binA .eql (Go.TypeDesc.interface #[("Error", 88)]) (cmpT Try.prog) true a13 .nili).bind fun a19 =>
            splitK a19
              ((cvL a12 H11).bind fun a20 =>
              (callD (EV C) n_ref16_Frame [a4] H11).bind fun a21 =>
              (cvL a21 H11).bind fun a22 =>
              (binA .eql Go.TypeDesc.string (cmpT Try.prog) false a20 a22).bind fun a23 =>
              endB false false n a23 H11 (E11 ++ (E8 ++ (E5 ++ (E1 ++ [])))))
              (endB false false n (.bool false) H11 (E11 ++ (E8 ++ (E5 ++ (E1 ++ []))))))
            (endB false false n (.bool false) H11 (E11 ++ (E8 ++ (E5 ++ (E1 ++ []))))))
          (endB false false n (.bool false) H11 (E11 ++ (E8 ++ (E5 ++ (E1 ++ []))))))
        (endB false false n (.bool false) H11 (E11 ++ (E8 ++ (E5 ++ (E1 ++ []))))))
      (endB false false n (.bool false) H11 (E11 ++ (E8 ++ (E5 ++ (E1 ++ []))))))
    (callK (EV C) false n_wal_Scan [x0] H1 fun a24 H24 E24 =>
    (extA a24 0).bind fun a25 =>
    (extA a24 1).bind fun a26 =>
    callK (EV C) false n_ref16_Scan [x0] H24 fun a27 H27 E27 =>
    (extA a27 0).bind fun a28 =>
    (extA a27 1).bind fun a29 =>
    callK (EV C) false n_wal_Frame [x0] H27 fun a30 H30 E30 =>
    (extA a30 0).bind fun a31 =>
    (extA a30 1).bind fun a32 =>
    splitK a1
      ((callD (EV C) n_wal_Sum [x0] H30).bind fun a33 =>
      (callD (EV C) n_ref16_Sum [x0] H30).bind fun a34 =>
      (binA .eql (Go.TypeDesc.int Go.IntKind.u32) (cmpT Try.prog) false a33 a34).bind fun a35 =>
      splitK a35
        ((callD (EV C) n_ref16_Same [a25, a28] H30).bind fun a36 =>
        splitK a36
          ((binA .eql (Go.TypeDesc.int Go.IntKind.i64) (cmpT Try.prog) false a26 a29).bind fun a37 =>
          splitK a37
            ((binA .eql (Go.TypeDesc.interface #[("Error", 88)]) (cmpT Try.prog) true a32 .nili).bind fun a38 =>
            splitK a38
              ((cvL a31 H30).bind fun a39 =>
              (callD (EV C) n_ref16_Frame [x0] H30).bind fun a40 =>
              (cvL a40 H30).bind fun a41 =>
              (binA .eql Go.TypeDesc.string (cmpT Try.prog) false a39 a41).bind fun a42 =>
              endB false false n a42 H30 (E30 ++ (E27 ++ (E24 ++ (E1 ++ [])))))
              (endB false false n (.bool false) H30 (E30 ++ (E27 ++ (E24 ++ (E1 ++ []))))))
            (endB false false n (.bool false) H30 (E30 ++ (E27 ++ (E24 ++ (E1 ++ []))))))
          (endB false false n (.bool false) H30 (E30 ++ (E27 ++ (E24 ++ (E1 ++ []))))))
        (endB false false n (.bool false) H30 (E30 ++ (E27 ++ (E24 ++ (E1 ++ []))))))
      (endB false false n (.bool false) H30 (E30 ++ (E27 ++ (E24 ++ (E1 ++ [])))))))) (List.length H) = some r) : EV C n_law16_WalScans [x0] H = some r :=
  EV_of_fnK' (fn := Try.f3) (by kernel_rfl) (by kernel_rfl) (by kernel_rfl) hh
/-! ### 9 heartwood/heartwoodlaw16.up -/
theorem law16_up_of {r : R3} {H : List AObj} (hh : (fun n => (
  callK (EV C) false n_wal_Frame [.nils] H fun a1 H1 E1 =>
  (extA a1 0).bind fun a2 =>
  (extA a1 1).bind fun a3 =>
  rawK 1 9 (.int .u8 0) [(0, (.int .u8 49)), (1, (.int .u8 50)), (2, (.int .u8 51)), (3, (.int .u8 52)), (4, (.int .u8 53)), (5, (.int .u8 54)), (6, (.int .u8 55)), (7, (.int .u8 56)), (8, (.int .u8 57))] H1 fun a4 H4 E4 =>
  (cvR a4 H4).bind fun a5 =>
  callK (EV C) false n_wal_Sum [a5] H4 fun a6 H6 E6 =>
  (binA .eql (Go.TypeDesc.int Go.IntKind.u32) (cmpT Try.prog) true a6 (.int .u32 3808858755)).bind fun a7 =>
  splitK a7
    ((binA .eql (Go.TypeDesc.interface #[("Error", 88)]) (cmpT Try.prog) true a3 .nili).bind fun a8 =>
    splitK a8
      ((lenV a2 H6).bind fun a9 =>
      (binA .eql (Go.TypeDesc.int Go.IntKind.i64) (cmpT Try.prog) true a9 (.int .i64 8)).bind fun a10 =>
      endB false false n a10 H6 (E6 ++ (E4 ++ (E1 ++ []))))
      (endB false false n (.bool false) H6 (E6 ++ (E4 ++ (E1 ++ [])))))
    (endB false false n (.bool false) H6 (E6 ++ (E4 ++ (E1 ++ [])))))) (List.length H) = some r) : EV C n_law16_up [] H = some r :=
  EV_of_fnK' (fn := Try.f9) (by kernel_rfl) (by kernel_rfl) (by kernel_rfl) hh
/-! ### 10 heartwood/wal.Scan -/
noncomputable def wal_Scan_J3 (n : Nat) (t0 t4 t5 : AV) (H : List AObj) (E : List Nat) : Option R3 :=
  loopK Try.prog C.G (EV C) (C.hint 10) Try.f10 (cAt (bodyOf Try.f10) [1, 1, 1, 0, 0, 0]) (kAt Try.prog C.G (EV C) (C.hint 10) Try.f10 (bodyOf Try.f10) [1, 1, 1, 0, 0] [] (endK Try.prog (C.hint 10) Try.f10 n))
    ⟨pat 63 [(0, t0), (4, t4), (5, t5)], H, E⟩
theorem wal_Scan_J3_of {r : R3} {n : Nat} {t0 t4 t5 : AV} {H : List AObj} {E : List Nat} (hh : (
  (lenV t0 H).bind fun a1 =>
  (binA .sub (Go.TypeDesc.int Go.IntKind.i64) (cmpT Try.prog) false a1 t5).bind fun a2 =>
  (binA .geq (Go.TypeDesc.int Go.IntKind.i64) (cmpT Try.prog) true a2 (.int .i64 8)).bind fun a3 =>
  condK a3
    ((binA .add (Go.TypeDesc.int Go.IntKind.i64) (cmpT Try.prog) true t5 (.int .i64 4)).bind fun a4 =>
    (cutA 1 t0 (some t5) (some a4) none H).bind fun a5 =>
    callK (EV C) false n_wal_number [a5] H fun a6 H6 E6 =>
    (binA .gtr (Go.TypeDesc.int Go.IntKind.u32) (cmpT Try.prog) true a6 (.int .u32 2097152)).bind fun a7 =>
    splitK a7
      (endB false false n (.tup [t4, t5]) H6 ((E6 ++ []) ++ E))
      ((cvI .i64 a6).bind fun a8 =>
      (lenV t0 H6).bind fun a9 =>
      (binA .sub (Go.TypeDesc.int Go.IntKind.i64) (cmpT Try.prog) false a9 t5).bind fun a10 =>
      (binA .sub (Go.TypeDesc.int Go.IntKind.i64) (cmpT Try.prog) true a10 (.int .i64 8)).bind fun a11 =>
      (binA .gtr (Go.TypeDesc.int Go.IntKind.i64) (cmpT Try.prog) false a8 a11).bind fun a12 =>
      condK a12
        (endB false false n (.tup [t4, t5]) H6 ((E6 ++ []) ++ E))
        ((binA .add (Go.TypeDesc.int Go.IntKind.i64) (cmpT Try.prog) true t5 (.int .i64 8)).bind fun a13 =>
        (binA .add (Go.TypeDesc.int Go.IntKind.i64) (cmpT Try.prog) true t5 (.int .i64 8)).bind fun a14 =>
        (cvI .i64 a6).bind fun a15 =>
        (binA .add (Go.TypeDesc.int Go.IntKind.i64) (cmpT Try.prog) false a14 a15).bind fun a16 =>
        (cutA 1 t0 (some a13) (some a16) none H6).bind fun a17 =>
        (callD (EV C) n_wal_check [a5, a17] H6).bind fun a18 =>
        (binA .add (Go.TypeDesc.int Go.IntKind.i64) (cmpT Try.prog) true t5 (.int .i64 4)).bind fun a19 =>
        (cutA 1 t0 (some a19) none none H6).bind fun a20 =>
        (callD (EV C) n_wal_number [a20] H6).bind fun a21 =>
        (binA .neq (Go.TypeDesc.int Go.IntKind.u32) (cmpT Try.prog) false a18 a21).bind fun a22 =>
        condK a22
          (endB false false n (.tup [t4, t5]) H6 ((E6 ++ []) ++ E))
          (callK (EV C) false n_Clone_byte [a17] H6 fun a23 H23 E23 =>
          litK 1 1 .nils [(0, a23)] H23 fun a24 H24 E24 =>
          appK 1 24 t4 a24 H24 fun a25 H25 E25 =>
          (cvI .i64 a6).bind fun a26 =>
          (binA .add (Go.TypeDesc.int Go.IntKind.i64) (cmpT Try.prog) true (.int .i64 8) a26).bind fun a27 =>
          (binA .add (Go.TypeDesc.int Go.IntKind.i64) (cmpT Try.prog) false t5 a27).bind fun a28 =>
          wal_Scan_J3 n t0 a25 a28 H25 ((E25 ++ (E24 ++ (E23 ++ (E6 ++ [])))) ++ E)))))
    (endB false false n (.tup [t4, t5]) H E)) = some r) : wal_Scan_J3 n t0 t4 t5 H E = some r :=
  loop_step' (by kernel_rfl) hh
theorem wal_Scan_of {r : R3} {x0 : AV} {H : List AObj} (hh : (fun n => (
  wal_Scan_J3 n x0 (.slc (List.length H) 0 0 0) (.int .i64 0) (H ++ [.vrow]) [])) (List.length H) = some r) : EV C n_wal_Scan [x0] H = some r :=
  EV_of_fnK' (fn := Try.f10) (by kernel_rfl) (by kernel_rfl) (by kernel_rfl) hh
/-! ### 11 heartwood/heartwoodref16.Scan -/
noncomputable def ref16_Scan_J3 (n : Nat) (t0 t4 t5 : AV) (H : List AObj) (E : List Nat) : Option R3 :=
  loopK Try.prog C.G (EV C) (C.hint 11) Try.f11 (cAt (bodyOf Try.f11) [1, 1, 1, 0, 0, 0]) (kAt Try.prog C.G (EV C) (C.hint 11) Try.f11 (bodyOf Try.f11) [1, 1, 1, 0, 0] [] (endK Try.prog (C.hint 11) Try.f11 n))
    ⟨pat 68 [(0, t0), (4, t4), (5, t5)], H, E⟩
theorem ref16_Scan_J3_of {r : R3} {n : Nat} {t0 t4 t5 : AV} {H : List AObj} {E : List Nat} (hh : (
  (binA .add (Go.TypeDesc.int Go.IntKind.i64) (cmpT Try.prog) true t5 (.int .i64 8)).bind fun a1 =>
  (lenV t0 H).bind fun a2 =>
  (binA .leq (Go.TypeDesc.int Go.IntKind.i64) (cmpT Try.prog) false a1 a2).bind fun a3 =>
  condK a3
    ((binA .add (Go.TypeDesc.int Go.IntKind.i64) (cmpT Try.prog) true t5 (.int .i64 4)).bind fun a4 =>
    (cutA 1 t0 (some t5) (some a4) none H).bind fun a5 =>
    callK (EV C) false n_ref16_number [a5] H fun a6 H6 E6 =>
    (cvI .i64 a6).bind fun a7 =>
    (binA .gtr (Go.TypeDesc.int Go.IntKind.i64) (cmpT Try.prog) true a7 (.int .i64 2097152)).bind fun a8 =>
    splitK a8
      (endB false false n (.tup [t4, t5]) H6 ((E6 ++ []) ++ E))
      ((binA .add (Go.TypeDesc.int Go.IntKind.i64) (cmpT Try.prog) true t5 (.int .i64 8)).bind fun a9 =>
      (binA .add (Go.TypeDesc.int Go.IntKind.i64) (cmpT Try.prog) false a9 a7).bind fun a10 =>
      (lenV t0 H6).bind fun a11 =>
      (binA .gtr (Go.TypeDesc.int Go.IntKind.i64) (cmpT Try.prog) false a10 a11).bind fun a12 =>
      condK a12
        (endB false false n (.tup [t4, t5]) H6 ((E6 ++ []) ++ E))
        (rawK 1 0 (.int .u8 0) [] H6 fun a13 H13 E13 =>
        (binA .add (Go.TypeDesc.int Go.IntKind.i64) (cmpT Try.prog) true t5 (.int .i64 4)).bind fun a14 =>
        (cutA 1 t0 (some t5) (some a14) none H13).bind fun a15 =>
        drawK (((cutA 1 t0 (some t5) (some a14) none H6).bind fun a16 =>
        some a16) = some a15)
        (appK 1 1 a13 a15 H13 fun a17 H17 E17 =>
        (binA .add (Go.TypeDesc.int Go.IntKind.i64) (cmpT Try.prog) true t5 (.int .i64 8)).bind fun a18 =>
        (binA .add (Go.TypeDesc.int Go.IntKind.i64) (cmpT Try.prog) true t5 (.int .i64 8)).bind fun a19 =>
        (binA .add (Go.TypeDesc.int Go.IntKind.i64) (cmpT Try.prog) false a19 a7).bind fun a20 =>
        (cutA 1 t0 (some a18) (some a20) none H17).bind fun a21 =>
        drawK (((cutA 1 t0 (some a18) (some a20) none H6).bind fun a22 =>
        some a22) = some a21)
        (drawK (((cutA 1 t0 (some a18) (some a20) none H13).bind fun a23 =>
        some a23) = some a21)
        (appK 1 1 a17 a21 H17 fun a24 H24 E24 =>
        frzK a24 H24 fun a25 H25 =>
        (callD (EV C) n_ref16_Sum [a25] H25).bind fun a26 =>
        (binA .add (Go.TypeDesc.int Go.IntKind.i64) (cmpT Try.prog) true t5 (.int .i64 4)).bind fun a27 =>
        (binA .add (Go.TypeDesc.int Go.IntKind.i64) (cmpT Try.prog) true t5 (.int .i64 8)).bind fun a28 =>
        (cutA 1 t0 (some a27) (some a28) none H25).bind fun a29 =>
        (callD (EV C) n_ref16_number [a29] H25).bind fun a30 =>
        (binA .neq (Go.TypeDesc.int Go.IntKind.u32) (cmpT Try.prog) false a26 a30).bind fun a31 =>
        condK a31
          (endB false false n (.tup [t4, t5]) H25 ((E24 ++ (E17 ++ (E13 ++ (E6 ++ [])))) ++ E))
          ((cutA 1 a25 (some (.int .i64 4)) none none H25).bind fun a32 =>
          litK 1 1 .nils [(0, a32)] H25 fun a33 H33 E33 =>
          appK 1 24 t4 a33 H33 fun a34 H34 E34 =>
          (binA .add (Go.TypeDesc.int Go.IntKind.i64) (cmpT Try.prog) true t5 (.int .i64 8)).bind fun a35 =>
          (binA .add (Go.TypeDesc.int Go.IntKind.i64) (cmpT Try.prog) false a35 a7).bind fun a36 =>
          condB (List.all (E34 ++ (E33 ++ (E24 ++ (E17 ++ (E13 ++ (E6 ++ [])))))) (fun e => decide (List.length H ≤ e)) && (AV.bel (List.length H) t0 && (AV.bel (List.length H) a34 && (AV.bel (List.length H) a36 && true))))
          (ref16_Scan_J3 n t0 a34 a36 (List.take (List.length H) H34) E))))))))
    (endB false false n (.tup [t4, t5]) H E)) = some r) : ref16_Scan_J3 n t0 t4 t5 H E = some r :=
  loop_step' (by kernel_rfl) hh
theorem ref16_Scan_of {r : R3} {x0 : AV} {H : List AObj} (hh : (fun n => (
  ref16_Scan_J3 n x0 (.slc (List.length H) 0 0 0) (.int .i64 0) (H ++ [.vrow]) [])) (List.length H) = some r) : EV C n_ref16_Scan [x0] H = some r :=
  EV_of_fnK' (fn := Try.f11) (by kernel_rfl) (by kernel_rfl) (by kernel_rfl) hh
/-! ### 12 heartwood/wal.Frame -/
theorem wal_Frame_of {r : R3} {x0 : AV} {H : List AObj} (hh : (fun n => (
  (lenV x0 H).bind fun a1 =>
  (binA .gtr (Go.TypeDesc.int Go.IntKind.i64) (cmpT Try.prog) true a1 (.int .i64 2097152)).bind fun a2 =>
  condK a2
    (endB false false n (.tup [.nils, (.ifc t_api_Code (.int .i64 2))]) H [])
    ((lenV x0 H).bind fun a3 =>
    (cvI .u32 a3).bind fun a4 =>
    callK (EV C) false n_wal_four [a4] H fun a5 H5 E5 =>
    callK (EV C) false n_wal_check [a5, x0] H5 fun a6 H6 E6 =>
    callK (EV C) false n_wal_four [a6] H6 fun a7 H7 E7 =>
    litK 1 3 .nils [(0, a5), (1, a7), (2, x0)] H7 fun a8 H8 E8 =>
    callK (EV C) false n_Concat_byte [a8] H8 fun a9 H9 E9 =>
    endB false false n (.tup [a9, .nili]) H9 (E9 ++ (E8 ++ (E7 ++ (E6 ++ (E5 ++ [])))))))) (List.length H) = some r) : EV C n_wal_Frame [x0] H = some r :=
  EV_of_fnK' (fn := Try.f12) (by kernel_rfl) (by kernel_rfl) (by kernel_rfl) hh
/-! ### 13 heartwood/wal.Sum -/
noncomputable def wal_Sum_J3 (n : Nat) (t3 t7 t8 t9 : AV) (H : List AObj) (E : List Nat) : Option R3 :=
  loopK Try.prog C.G (EV C) (C.hint 13) Try.f13 (cAt (bodyOf Try.f13) [1, 1, 0, 1, 0, 0]) (kAt Try.prog C.G (EV C) (C.hint 13) Try.f13 (bodyOf Try.f13) [1, 1, 0, 1, 0] [] (endK Try.prog (C.hint 13) Try.f13 n))
    ⟨pat 31 [(3, t3), (7, t7), (8, t8), (9, t9)], H, E⟩
noncomputable def wal_Sum_J7 (n : Nat) (Ha : List AObj) (Ea : List Nat) (t3 t7 t8 t9 t17 : AV) (H : List AObj) (E : List Nat) : Option R3 :=
  loopK Try.prog C.G (EV C) (C.hint 13) Try.f13 (cAt (bodyOf Try.f13) [1, 1, 0, 1, 0, 0, 1, 1, 0, 0, 1, 1, 1, 0, 0]) (kAt Try.prog C.G (EV C) (C.hint 13) Try.f13 (bodyOf Try.f13) [1, 1, 0, 1, 0, 0, 1, 1, 0, 0, 1, 1, 1, 0] [(Ha, Ea)] (endK Try.prog (C.hint 13) Try.f13 n))
    ⟨pat 31 [(3, t3), (7, t7), (8, t8), (9, t9), (17, t17)], H, E⟩
theorem wal_Sum_J3_of {r : R3} {n : Nat} {t3 t7 t8 t9 : AV} {H : List AObj} {E : List Nat} (hh : (
  (binA .lss (Go.TypeDesc.int Go.IntKind.i64) (cmpT Try.prog) false t9 t8).bind fun a1 =>
  condK a1
    ((ixA 1 t7 t9 H).bind fun a2 =>
    (loadA false 1 a2 H).bind fun a3 =>
    (cvI .u32 a3).bind fun a4 =>
    (binA .xor (Go.TypeDesc.int Go.IntKind.u32) (cmpT Try.prog) false t3 a4).bind fun a5 =>
    wal_Sum_J7 n H E a5 t7 t8 t9 (.int .i64 0) H [])
    ((unA .xor t3).bind fun a6 =>
    endB false false n a6 H E)) = some r) : wal_Sum_J3 n t3 t7 t8 t9 H E = some r :=
  loop_step' (by kernel_rfl) hh
theorem wal_Sum_J7_of {r : R3} {n : Nat} {Ha : List AObj} {Ea : List Nat} {t3 t7 t8 t9 t17 : AV} {H : List AObj} {E : List Nat} (hh : (
  (binA .lss (Go.TypeDesc.int Go.IntKind.i64) (cmpT Try.prog) true t17 (.int .i64 8)).bind fun a1 =>
  condK a1
    ((binA .and (Go.TypeDesc.int Go.IntKind.u32) (cmpT Try.prog) true t3 (.int .u32 1)).bind fun a2 =>
    (binA .shr (Go.TypeDesc.int Go.IntKind.u32) (cmpT Try.prog) true t3 (.int .u64 1)).bind fun a3 =>
    (binA .eql (Go.TypeDesc.int Go.IntKind.u32) (cmpT Try.prog) true a2 (.int .u32 1)).bind fun a4 =>
    condK a4
      ((binA .xor (Go.TypeDesc.int Go.IntKind.u32) (cmpT Try.prog) true a3 (.int .u32 2197175160)).bind fun a5 =>
      (binA .add (Go.TypeDesc.int Go.IntKind.i64) (cmpT Try.prog) true t17 (.int .i64 1)).bind fun a6 =>
      wal_Sum_J7 n Ha Ea a5 t7 t8 t9 a6 H E)
      ((binA .add (Go.TypeDesc.int Go.IntKind.i64) (cmpT Try.prog) true t17 (.int .i64 1)).bind fun a7 =>
      wal_Sum_J7 n Ha Ea a3 t7 t8 t9 a7 H E))
    ((binA .add (Go.TypeDesc.int Go.IntKind.i64) (cmpT Try.prog) true t9 (.int .i64 1)).bind fun a8 =>
    wal_Sum_J3 n t3 t7 t8 a8 H (E ++ Ea))) = some r) : wal_Sum_J7 n Ha Ea t3 t7 t8 t9 t17 H E = some r :=
  loop_step' (by kernel_rfl) hh
theorem wal_Sum_of {r : R3} {x0 : AV} {H : List AObj} (hh : (fun n => (
  (lenV x0 H).bind fun a1 =>
  wal_Sum_J3 n (.int .u32 4294967295) x0 a1 (.int .i64 0) H [])) (List.length H) = some r) : EV C n_wal_Sum [x0] H = some r :=
  EV_of_fnK' (fn := Try.f13) (by kernel_rfl) (by kernel_rfl) (by kernel_rfl) hh
/-! ### 14 heartwood/heartwoodref16.Sum -/
noncomputable def ref16_Sum_J3 (n : Nat) (t0 t3 t4 : AV) (H : List AObj) (E : List Nat) : Option R3 :=
  loopK Try.prog C.G (EV C) (C.hint 14) Try.f14 (cAt (bodyOf Try.f14) [1, 1, 0, 1, 0, 0]) (kAt Try.prog C.G (EV C) (C.hint 14) Try.f14 (bodyOf Try.f14) [1, 1, 0, 1, 0] [] (endK Try.prog (C.hint 14) Try.f14 n))
    ⟨pat 35 [(0, t0), (3, t3), (4, t4)], H, E⟩
noncomputable def ref16_Sum_J7 (n : Nat) (Ha : List AObj) (Ea : List Nat) (t0 t3 t4 t5 : AV) (H : List AObj) (E : List Nat) : Option R3 :=
  loopK Try.prog C.G (EV C) (C.hint 14) Try.f14 (cAt (bodyOf Try.f14) [1, 1, 0, 1, 0, 0, 1, 0, 0, 1, 1, 0, 0]) (kAt Try.prog C.G (EV C) (C.hint 14) Try.f14 (bodyOf Try.f14) [1, 1, 0, 1, 0, 0, 1, 0, 0, 1, 1, 0] [(Ha, Ea)] (endK Try.prog (C.hint 14) Try.f14 n))
    ⟨pat 35 [(0, t0), (3, t3), (4, t4), (5, t5)], H, E⟩
theorem ref16_Sum_J3_of {r : R3} {n : Nat} {t0 t3 t4 : AV} {H : List AObj} {E : List Nat} (hh : (
  (lenV t0 H).bind fun a1 =>
  (binA .lss (Go.TypeDesc.int Go.IntKind.i64) (cmpT Try.prog) false t4 a1).bind fun a2 =>
  condK a2
    ((ixA 1 t0 t4 H).bind fun a3 =>
    (loadA false 1 a3 H).bind fun a4 =>
    (cvI .u64 a4).bind fun a5 =>
    (binA .xor (Go.TypeDesc.int Go.IntKind.u64) (cmpT Try.prog) false t3 a5).bind fun a6 =>
    ref16_Sum_J7 n H E t0 a6 t4 (.int .i64 0) H [])
    ((binA .xor (Go.TypeDesc.int Go.IntKind.u64) (cmpT Try.prog) true t3 (.int .u64 4294967295)).bind fun a7 =>
    (cvI .u32 a7).bind fun a8 =>
    endB false false n a8 H E)) = some r) : ref16_Sum_J3 n t0 t3 t4 H E = some r :=
  loop_step' (by kernel_rfl) hh
theorem ref16_Sum_J7_of {r : R3} {n : Nat} {Ha : List AObj} {Ea : List Nat} {t0 t3 t4 t5 : AV} {H : List AObj} {E : List Nat} (hh : (
  (binA .lss (Go.TypeDesc.int Go.IntKind.i64) (cmpT Try.prog) true t5 (.int .i64 8)).bind fun a1 =>
  condK a1
    ((binA .rem (Go.TypeDesc.int Go.IntKind.u64) (cmpT Try.prog) true t3 (.int .u64 2)).bind fun a2 =>
    (binA .eql (Go.TypeDesc.int Go.IntKind.u64) (cmpT Try.prog) true a2 (.int .u64 1)).bind fun a3 =>
    (binA .quo (Go.TypeDesc.int Go.IntKind.u64) (cmpT Try.prog) true t3 (.int .u64 2)).bind fun a4 =>
    condK a3
      ((binA .xor (Go.TypeDesc.int Go.IntKind.u64) (cmpT Try.prog) true a4 (.int .u64 2197175160)).bind fun a5 =>
      (binA .add (Go.TypeDesc.int Go.IntKind.i64) (cmpT Try.prog) true t5 (.int .i64 1)).bind fun a6 =>
      ref16_Sum_J7 n Ha Ea t0 a5 t4 a6 H E)
      ((binA .add (Go.TypeDesc.int Go.IntKind.i64) (cmpT Try.prog) true t5 (.int .i64 1)).bind fun a7 =>
      ref16_Sum_J7 n Ha Ea t0 a4 t4 a7 H E))
    ((binA .add (Go.TypeDesc.int Go.IntKind.i64) (cmpT Try.prog) true t4 (.int .i64 1)).bind fun a8 =>
    ref16_Sum_J3 n t0 t3 a8 H (E ++ Ea))) = some r) : ref16_Sum_J7 n Ha Ea t0 t3 t4 t5 H E = some r :=
  loop_step' (by kernel_rfl) hh
theorem ref16_Sum_of {r : R3} {x0 : AV} {H : List AObj} (hh : (fun n => (
  ref16_Sum_J3 n x0 (.int .u64 4294967295) (.int .i64 0) H [])) (List.length H) = some r) : EV C n_ref16_Sum [x0] H = some r :=
  EV_of_fnK' (fn := Try.f14) (by kernel_rfl) (by kernel_rfl) (by kernel_rfl) hh
/-! ### 15 heartwood/heartwoodref16.Same -/
noncomputable def ref16_Same_J4 (n : Nat) (t0 t1 t5 : AV) (H : List AObj) (E : List Nat) : Option R3 :=
  loopK Try.prog C.G (EV C) (C.hint 15) Try.f15 (cAt (bodyOf Try.f15) [1, 1, 0, 1, 0, 0]) (kAt Try.prog C.G (EV C) (C.hint 15) Try.f15 (bodyOf Try.f15) [1, 1, 0, 1, 0] [] (endK Try.prog (C.hint 15) Try.f15 n))
    ⟨pat 28 [(0, t0), (1, t1), (5, t5)], H, E⟩
theorem ref16_Same_J4_of {r : R3} {n : Nat} {t0 t1 t5 : AV} {H : List AObj} {E : List Nat} (hh : (
  (lenV t0 H).bind fun a1 =>
  (binA .lss (Go.TypeDesc.int Go.IntKind.i64) (cmpT Try.prog) false t5 a1).bind fun a2 =>
  condK a2
    ((ixA 1 t0 t5 H).bind fun a3 =>
    (loadA false 1 a3 H).bind fun a4 =>
    (cvL a4 H).bind fun a5 =>
    (ixA 1 t1 t5 H).bind fun a6 =>
    (loadA false 1 a6 H).bind fun a7 =>
    (cvL a7 H).bind fun a8 =>
    (binA .neq Go.TypeDesc.string (cmpT Try.prog) false a5 a8).bind fun a9 =>
    condK a9
      (endB false false n (.bool false) H E)
      ((binA .add (Go.TypeDesc.int Go.IntKind.i64) (cmpT Try.prog) true t5 (.int .i64 1)).bind fun a10 =>
      ref16_Same_J4 n t0 t1 a10 H E))
    (endB false false n (.bool true) H E)) = some r) : ref16_Same_J4 n t0 t1 t5 H E = some r :=
  loop_step' (by kernel_rfl) hh
theorem ref16_Same_of {r : R3} {x0 x1 : AV} {H : List AObj} (hh : (fun n => (
  (lenV x0 H).bind fun a1 =>
  (lenV x1 H).bind fun a2 =>
  (binA .neq (Go.TypeDesc.int Go.IntKind.i64) (cmpT Try.prog) false a1 a2).bind fun a3 =>
  condK a3
    (endB false false n (.bool false) H [])
    (ref16_Same_J4 n x0 x1 (.int .i64 0) H []))) (List.length H) = some r) : EV C n_ref16_Same [x0, x1] H = some r :=
  EV_of_fnK' (fn := Try.f15) (by kernel_rfl) (by kernel_rfl) (by kernel_rfl) hh
/-! ### 16 heartwood/heartwoodref16.Frame -/
theorem ref16_Frame_of {r : R3} {x0 : AV} {H : List AObj} (hh : (fun n => (
  (lenV x0 H).bind fun a1 =>
  (cvI .u32 a1).bind fun a2 =>
  callK (EV C) true n_ref16_four [a2] H fun a3 H3 E3 =>
  rawK 1 0 (.int .u8 0) [] H3 fun a4 H4 E4 =>
  appK 1 1 a4 a3 H4 fun a5 H5 E5 =>
  appK 1 1 a5 x0 H5 fun a6 H6 E6 =>
  callK (EV C) false n_ref16_Sum [a6] H6 fun a7 H7 E7 =>
  callK (EV C) true n_ref16_four [a7] H7 fun a8 H8 E8 =>
  appK 1 1 a3 a8 H8 fun a9 H9 E9 =>
  appK 1 1 a9 x0 H9 fun a10 H10 E10 =>
  endB false false n a10 H10 (E10 ++ (E9 ++ (E8 ++ (E7 ++ (E6 ++ (E5 ++ (E4 ++ (E3 ++ [])))))))))) (List.length H) = some r) : EV C n_ref16_Frame [x0] H = some r :=
  EV_of_fnK' (fn := Try.f16) (by kernel_rfl) (by kernel_rfl) (by kernel_rfl) hh
/-! ### 38 heartwood/wal.number -/
theorem wal_number_of {r : R3} {x0 : AV} {H : List AObj} (hh : (fun n => (
  (ixA 1 x0 (.int .i64 0) H).bind fun a1 =>
  (loadA false 1 a1 H).bind fun a2 =>
  (cvI .u32 a2).bind fun a3 =>
  (binA .shl (Go.TypeDesc.int Go.IntKind.u32) (cmpT Try.prog) true a3 (.int .u64 24)).bind fun a4 =>
  (ixA 1 x0 (.int .i64 1) H).bind fun a5 =>
  (loadA false 1 a5 H).bind fun a6 =>
  (cvI .u32 a6).bind fun a7 =>
  (binA .shl (Go.TypeDesc.int Go.IntKind.u32) (cmpT Try.prog) true a7 (.int .u64 16)).bind fun a8 =>
  (binA .or (Go.TypeDesc.int Go.IntKind.u32) (cmpT Try.prog) false a4 a8).bind fun a9 =>
  (ixA 1 x0 (.int .i64 2) H).bind fun a10 =>
  (loadA false 1 a10 H).bind fun a11 =>
  (cvI .u32 a11).bind fun a12 =>
  (binA .shl (Go.TypeDesc.int Go.IntKind.u32) (cmpT Try.prog) true a12 (.int .u64 8)).bind fun a13 =>
  (binA .or (Go.TypeDesc.int Go.IntKind.u32) (cmpT Try.prog) false a9 a13).bind fun a14 =>
  (ixA 1 x0 (.int .i64 3) H).bind fun a15 =>
  (loadA false 1 a15 H).bind fun a16 =>
  (cvI .u32 a16).bind fun a17 =>
  (binA .or (Go.TypeDesc.int Go.IntKind.u32) (cmpT Try.prog) false a14 a17).bind fun a18 =>
  endB false false n a18 H [])) (List.length H) = some r) : EV C n_wal_number [x0] H = some r :=
  EV_of_fnK' (fn := Try.f38) (by kernel_rfl) (by kernel_rfl) (by kernel_rfl) hh
/-! ### 39 heartwood/wal.check -/
theorem wal_check_of {r : R3} {x0 x1 : AV} {H : List AObj} (hh : (fun n => (
  litK 1 2 .nils [(0, x0), (1, x1)] H fun a1 H1 E1 =>
  callK (EV C) false n_Concat_byte [a1] H1 fun a2 H2 E2 =>
  callK (EV C) false n_wal_Sum [a2] H2 fun a3 H3 E3 =>
  endB false false n a3 H3 (E3 ++ (E2 ++ (E1 ++ []))))) (List.length H) = some r) : EV C n_wal_check [x0, x1] H = some r :=
  EV_of_fnK' (fn := Try.f39) (by kernel_rfl) (by kernel_rfl) (by kernel_rfl) hh
/-! ### 40 slices.Clone[[]byte,byte] -/
theorem Clone_byte_of {r : R3} {x0 : AV} {H : List AObj} (hh : (fun n => (
  (binA .eql (Go.TypeDesc.slice 5) (cmpT Try.prog) true x0 .nils).bind fun a1 =>
  condK a1
    (endB false false n .nils H [])
    (rawK 1 0 (.int .u8 0) [] H fun a2 H2 E2 =>
    appK 1 1 a2 x0 H2 fun a3 H3 E3 =>
    endB false false n a3 H3 (E3 ++ (E2 ++ []))))) (List.length H) = some r) : EV C0 n_Clone_byte [x0] H = some r :=
  EV_of_fnK' (fn := Try.f40) (by kernel_rfl) (by kernel_rfl) (by kernel_rfl) hh
/-! ### 41 heartwood/heartwoodref16.number -/
theorem ref16_number_of {r : R3} {x0 : AV} {H : List AObj} (hh : (fun n => (
  (ixA 1 x0 (.int .i64 0) H).bind fun a1 =>
  (loadA false 1 a1 H).bind fun a2 =>
  (cvI .u32 a2).bind fun a3 =>
  (binA .mul (Go.TypeDesc.int Go.IntKind.u32) (cmpT Try.prog) true (.int .u32 16777216) a3).bind fun a4 =>
  (ixA 1 x0 (.int .i64 1) H).bind fun a5 =>
  (loadA false 1 a5 H).bind fun a6 =>
  (cvI .u32 a6).bind fun a7 =>
  (binA .mul (Go.TypeDesc.int Go.IntKind.u32) (cmpT Try.prog) true (.int .u32 65536) a7).bind fun a8 =>
  (binA .add (Go.TypeDesc.int Go.IntKind.u32) (cmpT Try.prog) false a4 a8).bind fun a9 =>
  (ixA 1 x0 (.int .i64 2) H).bind fun a10 =>
  (loadA false 1 a10 H).bind fun a11 =>
  (cvI .u32 a11).bind fun a12 =>
  (binA .mul (Go.TypeDesc.int Go.IntKind.u32) (cmpT Try.prog) true (.int .u32 256) a12).bind fun a13 =>
  (binA .add (Go.TypeDesc.int Go.IntKind.u32) (cmpT Try.prog) false a9 a13).bind fun a14 =>
  (ixA 1 x0 (.int .i64 3) H).bind fun a15 =>
  (loadA false 1 a15 H).bind fun a16 =>
  (cvI .u32 a16).bind fun a17 =>
  (binA .add (Go.TypeDesc.int Go.IntKind.u32) (cmpT Try.prog) false a14 a17).bind fun a18 =>
  endB false false n a18 H [])) (List.length H) = some r) : EV C n_ref16_number [x0] H = some r :=
  EV_of_fnK' (fn := Try.f41) (by kernel_rfl) (by kernel_rfl) (by kernel_rfl) hh
/-! ### 42 heartwood/wal.four -/
theorem wal_four_of {r : R3} {x0 : AV} {H : List AObj} (hh : (fun n => (
  (binA .shr (Go.TypeDesc.int Go.IntKind.u32) (cmpT Try.prog) true x0 (.int .u64 24)).bind fun a1 =>
  (cvI .u8 a1).bind fun a2 =>
  (binA .shr (Go.TypeDesc.int Go.IntKind.u32) (cmpT Try.prog) true x0 (.int .u64 16)).bind fun a3 =>
  (cvI .u8 a3).bind fun a4 =>
  (binA .shr (Go.TypeDesc.int Go.IntKind.u32) (cmpT Try.prog) true x0 (.int .u64 8)).bind fun a5 =>
  (cvI .u8 a5).bind fun a6 =>
  (cvI .u8 x0).bind fun a7 =>
  litK 1 4 (.int .u8 0) [(0, a2), (1, a4), (2, a6), (3, a7)] H fun a8 H8 E8 =>
  endB false false n a8 H8 (E8 ++ []))) (List.length H) = some r) : EV C n_wal_four [x0] H = some r :=
  EV_of_fnK' (fn := Try.f42) (by kernel_rfl) (by kernel_rfl) (by kernel_rfl) hh
/-! ### 43 slices.Concat[[]byte,byte] -/
noncomputable def Concat_byte_J3 (n : Nat) (t0 t3 t9 t10 t11 : AV) (H : List AObj) (E : List Nat) : Option R3 :=
  loopK Try.prog C.G (EV C) (C.hint 43) Try.f43 (cAt (bodyOf Try.f43) [1, 1, 0, 1, 0, 0]) (kAt Try.prog C.G (EV C) (C.hint 43) Try.f43 (bodyOf Try.f43) [1, 1, 0, 1, 0] [] (endK Try.prog (C.hint 43) Try.f43 n))
    ⟨pat 36 [(0, t0), (3, t3), (9, t9), (10, t10), (11, t11)], H, E⟩
noncomputable def Concat_byte_J11 (n : Nat) (t6 t25 t26 t27 : AV) (H : List AObj) (E : List Nat) : Option R3 :=
  loopK Try.prog C.G (EV C) (C.hint 43) Try.f43 (cAt (bodyOf Try.f43) [1, 1, 1, 1, 0, 1, 0, 0]) (kAt Try.prog C.G (EV C) (C.hint 43) Try.f43 (bodyOf Try.f43) [1, 1, 1, 1, 0, 1, 0] [] (endK Try.prog (C.hint 43) Try.f43 n))
    ⟨pat 36 [(6, t6), (25, t25), (26, t26), (27, t27)], H, E⟩
theorem Concat_byte_J3_of {r : R3} {n : Nat} {t0 t3 t9 t10 t11 : AV} {H : List AObj} {E : List Nat} (hh : (
  (binA .lss (Go.TypeDesc.int Go.IntKind.i64) (cmpT Try.prog) false t11 t10).bind fun a1 =>
  condK a1
    ((ixA 1 t9 t11 H).bind fun a2 =>
    (loadA false 1 a2 H).bind fun a3 =>
    (lenV a3 H).bind fun a4 =>
    (binA .add (Go.TypeDesc.int Go.IntKind.i64) (cmpT Try.prog) false t3 a4).bind fun a5 =>
    (binA .lss (Go.TypeDesc.int Go.IntKind.i64) (cmpT Try.prog) true a5 (.int .i64 0)).bind fun a6 =>
    condK a6
      (none)
      ((binA .add (Go.TypeDesc.int Go.IntKind.i64) (cmpT Try.prog) true t11 (.int .i64 1)).bind fun a7 =>
      Concat_byte_J3 n t0 a5 t9 t10 a7 H E))
    (callK (EV C) true n_Grow_byte [.nils, t3] H fun a8 H8 E8 =>
    (lenV t0 H8).bind fun a9 =>
    Concat_byte_J11 n a8 t0 a9 (.int .i64 0) H8 (E8 ++ E))) = some r) : Concat_byte_J3 n t0 t3 t9 t10 t11 H E = some r :=
  loop_step' (by kernel_rfl) hh
theorem Concat_byte_J11_of {r : R3} {n : Nat} {t6 t25 t26 t27 : AV} {H : List AObj} {E : List Nat} (hh : (
  (binA .lss (Go.TypeDesc.int Go.IntKind.i64) (cmpT Try.prog) false t27 t26).bind fun a1 =>
  condK a1
    ((ixA 1 t25 t27 H).bind fun a2 =>
    (loadA false 1 a2 H).bind fun a3 =>
    appK 1 1 t6 a3 H fun a4 H4 E4 =>
    (binA .add (Go.TypeDesc.int Go.IntKind.i64) (cmpT Try.prog) true t27 (.int .i64 1)).bind fun a5 =>
    Concat_byte_J11 n a4 t25 t26 a5 H4 ((E4 ++ []) ++ E))
    (endB false false n t6 H E)) = some r) : Concat_byte_J11 n t6 t25 t26 t27 H E = some r :=
  loop_step' (by kernel_rfl) hh
theorem Concat_byte_of {r : R3} {x0 : AV} {H : List AObj} (hh : (fun n => (
  (lenV x0 H).bind fun a1 =>
  Concat_byte_J3 n x0 (.int .i64 0) x0 a1 (.int .i64 0) H [])) (List.length H) = some r) : EV C n_Concat_byte [x0] H = some r :=
  EV_of_fnK' (fn := Try.f43) (by kernel_rfl) (by kernel_rfl) (by kernel_rfl) hh
/-! ### 44 heartwood/heartwoodref16.four -/
theorem ref16_four_of {r : R3} {x0 : AV} {H : List AObj} (hh : (fun n => (
  (binA .quo (Go.TypeDesc.int Go.IntKind.u32) (cmpT Try.prog) true x0 (.int .u32 16777216)).bind fun a1 =>
  (cvI .u8 a1).bind fun a2 =>
  (binA .quo (Go.TypeDesc.int Go.IntKind.u32) (cmpT Try.prog) true x0 (.int .u32 65536)).bind fun a3 =>
  (binA .rem (Go.TypeDesc.int Go.IntKind.u32) (cmpT Try.prog) true a3 (.int .u32 256)).bind fun a4 =>
  (cvI .u8 a4).bind fun a5 =>
  (binA .quo (Go.TypeDesc.int Go.IntKind.u32) (cmpT Try.prog) true x0 (.int .u32 256)).bind fun a6 =>
  (binA .rem (Go.TypeDesc.int Go.IntKind.u32) (cmpT Try.prog) true a6 (.int .u32 256)).bind fun a7 =>
  (cvI .u8 a7).bind fun a8 =>
  (binA .rem (Go.TypeDesc.int Go.IntKind.u32) (cmpT Try.prog) true x0 (.int .u32 256)).bind fun a9 =>
  (cvI .u8 a9).bind fun a10 =>
  rawK 1 4 (.int .u8 0) [(0, a2), (1, a5), (2, a8), (3, a10)] H fun a11 H11 E11 =>
  endB true true n a11 H11 (E11 ++ []))) (List.length H) = some r) : EV C n_ref16_four [x0] H = some r :=
  EV_of_fnK' (fn := Try.f44) (by kernel_rfl) (by kernel_rfl) (by kernel_rfl) hh
/-! ### 57 slices.Grow[[]byte,byte] -/
theorem Grow_byte_of {r : R3} {x0 x1 : AV} {H : List AObj} (hh : (fun n => (
  (binA .lss (Go.TypeDesc.int Go.IntKind.i64) (cmpT Try.prog) true x1 (.int .i64 0)).bind fun a1 =>
  condK a1
    (none)
    ((capA x0).bind fun a2 =>
    (lenV x0 H).bind fun a3 =>
    (binA .sub (Go.TypeDesc.int Go.IntKind.i64) (cmpT Try.prog) false a2 a3).bind fun a4 =>
    (binA .sub (Go.TypeDesc.int Go.IntKind.i64) (cmpT Try.prog) false x1 a4).bind fun a5 =>
    (binA .gtr (Go.TypeDesc.int Go.IntKind.i64) (cmpT Try.prog) true a5 (.int .i64 0)).bind fun a6 =>
    condK a6
      ((capA x0).bind fun a7 =>
      (cutA 1 x0 none (some a7) none H).bind fun a8 =>
      zapK 1 1 (.int .u8 0) a8 a5 H fun a9 H9 E9 =>
      (lenV x0 H9).bind fun a10 =>
      (cutA 1 a9 none (some a10) none H9).bind fun a11 =>
      trmK a11 H9 [] fun a12 H12 E12 =>
      endB true true n a12 H12 (E12 ++ (E9 ++ [])))
      (endB true true n x0 H [])))) (List.length H) = some r) : EV C n_Grow_byte [x0, x1] H = some r :=
  EV_of_fnK' (fn := Try.f57) (by kernel_rfl) (by kernel_rfl) (by kernel_rfl) hh
end Go.Pm
