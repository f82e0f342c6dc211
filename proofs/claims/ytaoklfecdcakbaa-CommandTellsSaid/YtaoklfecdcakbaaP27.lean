/- A part of the proof: what the functions of the program answer, as plain lists and numbers. -/
import Derived.Test.YtaoklfecdcakbaaP9
namespace Go.Pm
open Go.Proofs
set_option linter.unusedVariables false
set_option maxRecDepth 100000
noncomputable def coder_Number_J4 (n : Nat) (t0 t3 : AV) (H : List AObj) (E : List Nat) : Option R3 :=
  loopK Try.prog C.G (EV C) (C.hint 36) Try.f36 (cAt (bodyOf Try.f36) [1, 1, 1, 0, 0, 0]) (kAt Try.prog C.G (EV C) (C.hint 36) Try.f36 (bodyOf Try.f36) [1, 1, 1, 0, 0] [] (endK Try.prog (C.hint 36) Try.f36 n))
    ⟨pat 43 [(0, t0), (3, t3)], H, E⟩
noncomputable def coder_Number_J8 (n : Nat) (t0 t3 t4 t26 t27 : AV) (H : List AObj) (E : List Nat) : Option R3 :=
  loopK Try.prog C.G (EV C) (C.hint 36) Try.f36 (cAt (bodyOf Try.f36) [1, 1, 1, 1, 1, 0, 1, 0, 0]) (kAt Try.prog C.G (EV C) (C.hint 36) Try.f36 (bodyOf Try.f36) [1, 1, 1, 1, 1, 0, 1, 0] [] (endK Try.prog (C.hint 36) Try.f36 n))
    ⟨pat 43 [(0, t0), (3, t3), (4, t4), (26, t26), (27, t27)], H, E⟩
theorem coder_Number_J4_of {r : R3} {n : Nat} {t0 t3 : AV} {H : List AObj} {E : List Nat} (hh : (
  (binA .lss (Go.TypeDesc.int Go.IntKind.i64) (cmpT Try.prog) true t3 (.int .i64 8)).bind fun a1 =>
  splitK a1
    ((binA .mul (Go.TypeDesc.int Go.IntKind.i64) (cmpT Try.prog) true (.int .i64 8) t3).bind fun a2 =>
    (binA .shr (Go.TypeDesc.int Go.IntKind.u64) (cmpT Try.prog) false t0 a2).bind fun a3 =>
    (binA .gtr (Go.TypeDesc.int Go.IntKind.u64) (cmpT Try.prog) true a3 (.int .u64 0)).bind fun a4 =>
    condK a4
      ((binA .add (Go.TypeDesc.int Go.IntKind.i64) (cmpT Try.prog) true t3 (.int .i64 1)).bind fun a5 =>
      coder_Number_J4 n t0 a5 H E)
      ((binA .add (Go.TypeDesc.int Go.IntKind.i64) (cmpT Try.prog) true (.int .i64 247) t3).bind fun a6 =>
      (cvI .u8 a6).bind fun a7 =>
      rawK 1 1 (.int .u8 0) [(0, a7)] H fun a8 H8 E8 =>
      coder_Number_J8 n t0 t3 a8 t3 (.int .i64 0) H8 (E8 ++ E)))
    ((binA .add (Go.TypeDesc.int Go.IntKind.i64) (cmpT Try.prog) true (.int .i64 247) t3).bind fun a9 =>
    (cvI .u8 a9).bind fun a10 =>
    rawK 1 1 (.int .u8 0) [(0, a10)] H fun a11 H11 E11 =>
    coder_Number_J8 n t0 t3 a11 t3 (.int .i64 0) H11 (E11 ++ E))) = some r) : coder_Number_J4 n t0 t3 H E = some r :=
  loop_step' (by kernel_rfl) hh
theorem coder_Number_J8_of {r : R3} {n : Nat} {t0 t3 t4 t26 t27 : AV} {H : List AObj} {E : List Nat} (hh : (
  (binA .lss (Go.TypeDesc.int Go.IntKind.i64) (cmpT Try.prog) false t27 t26).bind fun a1 =>
  condK a1
    ((binA .sub (Go.TypeDesc.int Go.IntKind.i64) (cmpT Try.prog) true t3 (.int .i64 1)).bind fun a2 =>
    (binA .sub (Go.TypeDesc.int Go.IntKind.i64) (cmpT Try.prog) false a2 t27).bind fun a3 =>
    (binA .mul (Go.TypeDesc.int Go.IntKind.i64) (cmpT Try.prog) true (.int .i64 8) a3).bind fun a4 =>
    (binA .shr (Go.TypeDesc.int Go.IntKind.u64) (cmpT Try.prog) false t0 a4).bind fun a5 =>
    (cvI .u8 a5).bind fun a6 =>
    litK 1 1 (.int .u8 0) [(0, a6)] H fun a7 H7 E7 =>
    appK 1 1 t4 a7 H7 fun a8 H8 E8 =>
    (binA .add (Go.TypeDesc.int Go.IntKind.i64) (cmpT Try.prog) true t27 (.int .i64 1)).bind fun a9 =>
    coder_Number_J8 n t0 t3 a8 t26 a9 H8 ((E8 ++ (E7 ++ [])) ++ E))
    (endB false false n t4 H E)) = some r) : coder_Number_J8 n t0 t3 t4 t26 t27 H E = some r :=
  loop_step' (by kernel_rfl) hh
theorem coder_Number_of {r : R3} {x0 : AV} {H : List AObj} (hh : (fun n => (
  (binA .leq (Go.TypeDesc.int Go.IntKind.u64) (cmpT Try.prog) true x0 (.int .u64 247)).bind fun a1 =>
  condK a1
    ((cvI .u8 x0).bind fun a2 =>
    rawK 1 1 (.int .u8 0) [(0, a2)] H fun a3 H3 E3 =>
    endB false false n a3 H3 (E3 ++ []))
    (coder_Number_J4 n x0 (.int .i64 1) H []))) (List.length H) = some r) : EV C n_coder_Number [x0] H = some r :=
  EV_of_fnK' (fn := Try.f36) (by kernel_rfl) (by kernel_rfl) (by kernel_rfl) hh
noncomputable def coder_Number_r_J4 (n : Nat) (t0 t3 : AV) (H : List AObj) (E : List Nat) : Option R3 :=
  loopK Try.prog C.G (EV C) (C.hint 1000036) Try.f36 (cAt (bodyOf Try.f36) [1, 1, 1, 0, 0, 0]) (kAt Try.prog C.G (EV C) (C.hint 1000036) Try.f36 (bodyOf Try.f36) [1, 1, 1, 0, 0] [] (endK Try.prog (C.hint 1000036) Try.f36 n))
    ⟨pat 43 [(0, t0), (3, t3)], H, E⟩
noncomputable def coder_Number_r_J8 (n : Nat) (t0 t3 t4 t26 t27 : AV) (H : List AObj) (E : List Nat) : Option R3 :=
  loopK Try.prog C.G (EV C) (C.hint 1000036) Try.f36 (cAt (bodyOf Try.f36) [1, 1, 1, 1, 1, 0, 1, 0, 0]) (kAt Try.prog C.G (EV C) (C.hint 1000036) Try.f36 (bodyOf Try.f36) [1, 1, 1, 1, 1, 0, 1, 0] [] (endK Try.prog (C.hint 1000036) Try.f36 n))
    ⟨pat 43 [(0, t0), (3, t3), (4, t4), (26, t26), (27, t27)], H, E⟩
theorem coder_Number_r_J4_of {r : R3} {n : Nat} {t0 t3 : AV} {H : List AObj} {E : List Nat} (hh : (
  (binA .lss (Go.TypeDesc.int Go.IntKind.i64) (cmpT Try.prog) true t3 (.int .i64 8)).bind fun a1 =>
  splitK a1
    ((binA .mul (Go.TypeDesc.int Go.IntKind.i64) (cmpT Try.prog) true (.int .i64 8) t3).bind fun a2 =>
    (binA .shr (Go.TypeDesc.int Go.IntKind.u64) (cmpT Try.prog) false t0 a2).bind fun a3 =>
    (binA .gtr (Go.TypeDesc.int Go.IntKind.u64) (cmpT Try.prog) true a3 (.int .u64 0)).bind fun a4 =>
    condK a4
      ((binA .add (Go.TypeDesc.int Go.IntKind.i64) (cmpT Try.prog) true t3 (.int .i64 1)).bind fun a5 =>
      coder_Number_r_J4 n t0 a5 H E)
      ((binA .add (Go.TypeDesc.int Go.IntKind.i64) (cmpT Try.prog) true (.int .i64 247) t3).bind fun a6 =>
      (cvI .u8 a6).bind fun a7 =>
      rawK 1 1 (.int .u8 0) [(0, a7)] H fun a8 H8 E8 =>
      coder_Number_r_J8 n t0 t3 a8 t3 (.int .i64 0) H8 (E8 ++ E)))
    ((binA .add (Go.TypeDesc.int Go.IntKind.i64) (cmpT Try.prog) true (.int .i64 247) t3).bind fun a9 =>
    (cvI .u8 a9).bind fun a10 =>
    rawK 1 1 (.int .u8 0) [(0, a10)] H fun a11 H11 E11 =>
    coder_Number_r_J8 n t0 t3 a11 t3 (.int .i64 0) H11 (E11 ++ E))) = some r) : coder_Number_r_J4 n t0 t3 H E = some r :=
  loop_step' (by kernel_rfl) hh
theorem coder_Number_r_J8_of {r : R3} {n : Nat} {t0 t3 t4 t26 t27 : AV} {H : List AObj} {E : List Nat} (hh : (
  (binA .lss (Go.TypeDesc.int Go.IntKind.i64) (cmpT Try.prog) false t27 t26).bind fun a1 =>
  condK a1
    ((binA .sub (Go.TypeDesc.int Go.IntKind.i64) (cmpT Try.prog) true t3 (.int .i64 1)).bind fun a2 =>
    (binA .sub (Go.TypeDesc.int Go.IntKind.i64) (cmpT Try.prog) false a2 t27).bind fun a3 =>
    (binA .mul (Go.TypeDesc.int Go.IntKind.i64) (cmpT Try.prog) true (.int .i64 8) a3).bind fun a4 =>
    (binA .shr (Go.TypeDesc.int Go.IntKind.u64) (cmpT Try.prog) false t0 a4).bind fun a5 =>
    (cvI .u8 a5).bind fun a6 =>
    litK 1 1 (.int .u8 0) [(0, a6)] H fun a7 H7 E7 =>
    appK 1 1 t4 a7 H7 fun a8 H8 E8 =>
    (binA .add (Go.TypeDesc.int Go.IntKind.i64) (cmpT Try.prog) true t27 (.int .i64 1)).bind fun a9 =>
    coder_Number_r_J8 n t0 t3 a8 t26 a9 H8 ((E8 ++ (E7 ++ [])) ++ E))
    (endB true true n t4 H E)) = some r) : coder_Number_r_J8 n t0 t3 t4 t26 t27 H E = some r :=
  loop_step' (by kernel_rfl) hh
theorem coder_Number_r_of {r : R3} {x0 : AV} {H : List AObj} (hh : (fun n => (
  (binA .leq (Go.TypeDesc.int Go.IntKind.u64) (cmpT Try.prog) true x0 (.int .u64 247)).bind fun a1 =>
  condK a1
    ((cvI .u8 x0).bind fun a2 =>
    rawK 1 1 (.int .u8 0) [(0, a2)] H fun a3 H3 E3 =>
    endB true true n a3 H3 (E3 ++ []))
    (coder_Number_r_J4 n x0 (.int .i64 1) H []))) (List.length H) = some r) : EV C n_coder_Number_r [x0] H = some r :=
  EV_of_fnK' (fn := Try.f36) (by kernel_rfl) (by kernel_rfl) (by kernel_rfl) hh
noncomputable def ref02_Number_r_J4 (n : Nat) (t0 t3 : AV) (H : List AObj) (E : List Nat) : Option R3 :=
  loopK Try.prog C.G (EV C) (C.hint 1000043) Try.f43 (cAt (bodyOf Try.f43) [1, 1, 1, 0, 0, 0]) (kAt Try.prog C.G (EV C) (C.hint 1000043) Try.f43 (bodyOf Try.f43) [1, 1, 1, 0, 0] [] (endK Try.prog (C.hint 1000043) Try.f43 n))
    ⟨pat 26 [(0, t0), (3, t3)], H, E⟩
theorem ref02_Number_r_J4_of {r : R3} {n : Nat} {t0 t3 : AV} {H : List AObj} {E : List Nat} (hh : (
  (binA .gtr (Go.TypeDesc.int Go.IntKind.u64) (cmpT Try.prog) true t0 (.int .u64 0)).bind fun a1 =>
  condK a1
    ((binA .rem (Go.TypeDesc.int Go.IntKind.u64) (cmpT Try.prog) true t0 (.int .u64 256)).bind fun a2 =>
    (cvI .u8 a2).bind fun a3 =>
    rawK 1 1 (.int .u8 0) [(0, a3)] H fun a4 H4 E4 =>
    appK 1 1 a4 t3 H4 fun a5 H5 E5 =>
    frzK a5 H5 fun a6 H6 =>
    (binA .quo (Go.TypeDesc.int Go.IntKind.u64) (cmpT Try.prog) true t0 (.int .u64 256)).bind fun a7 =>
    condB (List.all (E5 ++ (E4 ++ [])) (fun e => decide (List.length H ≤ e)) && (AV.bel (List.length H) a7 && (AV.bel (List.length H) a6 && true)))
    (ref02_Number_r_J4 n a7 a6 (List.take (List.length H) H6) E))
    ((lenV t3 H).bind fun a8 =>
    (binA .add (Go.TypeDesc.int Go.IntKind.i64) (cmpT Try.prog) true (.int .i64 247) a8).bind fun a9 =>
    (cvI .u8 a9).bind fun a10 =>
    rawK 1 1 (.int .u8 0) [(0, a10)] H fun a11 H11 E11 =>
    appK 1 1 a11 t3 H11 fun a12 H12 E12 =>
    endB true true n a12 H12 (E12 ++ (E11 ++ E)))) = some r) : ref02_Number_r_J4 n t0 t3 H E = some r :=
  loop_step' (by kernel_rfl) hh
theorem ref02_Number_r_of {r : R3} {x0 : AV} {H : List AObj} (hh : (fun n => (
  (binA .lss (Go.TypeDesc.int Go.IntKind.u64) (cmpT Try.prog) true x0 (.int .u64 248)).bind fun a1 =>
  condK a1
    ((cvI .u8 x0).bind fun a2 =>
    rawK 1 1 (.int .u8 0) [(0, a2)] H fun a3 H3 E3 =>
    endB true true n a3 H3 (E3 ++ []))
    (ref02_Number_r_J4 n x0 .nils H []))) (List.length H) = some r) : EV C n_ref02_Number_r [x0] H = some r :=
  EV_of_fnK' (fn := Try.f43) (by kernel_rfl) (by kernel_rfl) (by kernel_rfl) hh
theorem coder_Bytes_of {r : R3} {x0 : AV} {H : List AObj} (hh : (fun n => (
  (lenV x0 H).bind fun a1 =>
  (cvI .u64 a1).bind fun a2 =>
  callK (EV C) true n_coder_Number_r [a2] H fun a3 H3 E3 =>
  appK 1 1 a3 x0 H3 fun a4 H4 E4 =>
  endB false false n a4 H4 (E4 ++ (E3 ++ [])))) (List.length H) = some r) : EV C n_coder_Bytes [x0] H = some r :=
  EV_of_fnK' (fn := Try.f37) (by kernel_rfl) (by kernel_rfl) (by kernel_rfl) hh
theorem coder_NewReader_of {r : R3} {x0 : AV} {H : List AObj} (hh : (fun n => (
  callK (EV C) false n_Clone_byte [x0] H fun a1 H1 E1 =>
  (fillB (AV.cells (.agg [.nils, (.bool false)])) [(0, 1, a1)]).bind fun c2 =>
  newK (.agg c2) H1 fun a3 H3 E3 =>
  endB true true n a3 H3 (E3 ++ (E1 ++ [])))) (List.length H) = some r) : EV C n_coder_NewReader [x0] H = some r :=
  EV_of_fnK' (fn := Try.f38) (by kernel_rfl) (by kernel_rfl) (by kernel_rfl) hh
theorem coder_Reader_take_of {r : R3} {x0 x1 : AV} {H : List AObj} (hh : (fun n => (
  (nilA x0).bind fun a1 =>
  (offA a1 1).bind fun a2 =>
  (loadA false 1 a2 H).bind fun a3 =>
  splitK a3
    ((nilA x0).bind fun a4 =>
    (offA a4 1).bind fun a5 =>
    stoK 1 a5 (.bool true) H fun H6 E6 =>
    endB false false n .nils H6 (E6 ++ []))
    ((nilA x0).bind fun a7 =>
    (offA a7 0).bind fun a8 =>
    (loadA false 1 a8 H).bind fun a9 =>
    (lenV a9 H).bind fun a10 =>
    (binA .gtr (Go.TypeDesc.int Go.IntKind.i64) (cmpT Try.prog) false x1 a10).bind fun a11 =>
    condK a11
      ((nilA x0).bind fun a12 =>
      (offA a12 1).bind fun a13 =>
      stoK 1 a13 (.bool true) H fun H14 E14 =>
      endB false false n .nils H14 (E14 ++ []))
      ((nilA x0).bind fun a15 =>
      (offA a15 0).bind fun a16 =>
      (loadA false 1 a16 H).bind fun a17 =>
      (cutA 1 a17 none (some x1) (some x1) H).bind fun a18 =>
      (nilA x0).bind fun a19 =>
      (offA a19 0).bind fun a20 =>
      (loadA false 1 a20 H).bind fun a21 =>
      (cutA 1 a21 (some x1) none none H).bind fun a22 =>
      (nilA x0).bind fun a23 =>
      (offA a23 0).bind fun a24 =>
      stoK 1 a24 a22 H fun H25 E25 =>
      endB false false n a18 H25 (E25 ++ []))))) (List.length H) = some r) : EV C n_coder_Reader_take [x0, x1] H = some r :=
  EV_of_fnK' (fn := Try.f68) (by kernel_rfl) (by kernel_rfl) (by kernel_rfl) hh
theorem coder_Reader_Byte_of {r : R3} {x0 : AV} {H : List AObj} (hh : (fun n => (
  callK (EV C) false n_coder_Reader_take [x0, (.int .i64 1)] H fun a1 H1 E1 =>
  (lenV a1 H1).bind fun a2 =>
  (binA .eql (Go.TypeDesc.int Go.IntKind.i64) (cmpT Try.prog) true a2 (.int .i64 0)).bind fun a3 =>
  condK a3
    (endB false false n (.int .u8 0) H1 (E1 ++ []))
    ((ixA 1 a1 (.int .i64 0) H1).bind fun a4 =>
    (loadA false 1 a4 H1).bind fun a5 =>
    endB false false n a5 H1 (E1 ++ [])))) (List.length H) = some r) : EV C n_coder_Reader_Byte [x0] H = some r :=
  EV_of_fnK' (fn := Try.f40) (by kernel_rfl) (by kernel_rfl) (by kernel_rfl) hh
noncomputable def coder_Reader_Number_J7 (n : Nat) (t0 t4 t5 t19 t20 t21 : AV) (H : List AObj) (E : List Nat) : Option R3 :=
  loopK Try.prog C.G (EV C) (C.hint 39) Try.f39 (cAt (bodyOf Try.f39) [1, 1, 1, 1, 1, 0, 1, 0, 0]) (kAt Try.prog C.G (EV C) (C.hint 39) Try.f39 (bodyOf Try.f39) [1, 1, 1, 1, 1, 0, 1, 0] [] (endK Try.prog (C.hint 39) Try.f39 n))
    ⟨pat 48 [(0, t0), (4, t4), (5, t5), (19, t19), (20, t20), (21, t21)], H, E⟩
theorem coder_Reader_Number_J7_of {r : R3} {n : Nat} {t0 t4 t5 t19 t20 t21 : AV} {H : List AObj} {E : List Nat} (hh : (
  (binA .lss (Go.TypeDesc.int Go.IntKind.i64) (cmpT Try.prog) false t21 t20).bind fun a1 =>
  condK a1
    ((ixA 1 t19 t21 H).bind fun a2 =>
    (loadA false 1 a2 H).bind fun a3 =>
    (binA .shl (Go.TypeDesc.int Go.IntKind.u64) (cmpT Try.prog) true t5 (.int .u64 8)).bind fun a4 =>
    (cvI .u64 a3).bind fun a5 =>
    (binA .or (Go.TypeDesc.int Go.IntKind.u64) (cmpT Try.prog) false a4 a5).bind fun a6 =>
    (binA .add (Go.TypeDesc.int Go.IntKind.i64) (cmpT Try.prog) true t21 (.int .i64 1)).bind fun a7 =>
    coder_Reader_Number_J7 n t0 t4 a6 t19 t20 a7 H E)
    ((lenV t4 H).bind fun a8 =>
    (binA .eql (Go.TypeDesc.int Go.IntKind.i64) (cmpT Try.prog) true a8 (.int .i64 0)).bind fun a9 =>
    splitK a9
      ((nilA t0).bind fun a10 =>
      (offA a10 1).bind fun a11 =>
      stoK 1 a11 (.bool true) H fun H12 E12 =>
      endB false false n (.int .u64 0) H12 (E12 ++ E))
      ((ixA 1 t4 (.int .i64 0) H).bind fun a13 =>
      (loadA false 1 a13 H).bind fun a14 =>
      (binA .eql (Go.TypeDesc.int Go.IntKind.u8) (cmpT Try.prog) true a14 (.int .u8 0)).bind fun a15 =>
      splitK a15
        ((nilA t0).bind fun a16 =>
        (offA a16 1).bind fun a17 =>
        stoK 1 a17 (.bool true) H fun H18 E18 =>
        endB false false n (.int .u64 0) H18 (E18 ++ E))
        ((binA .leq (Go.TypeDesc.int Go.IntKind.u64) (cmpT Try.prog) true t5 (.int .u64 247)).bind fun a19 =>
        condK a19
          ((nilA t0).bind fun a20 =>
          (offA a20 1).bind fun a21 =>
          stoK 1 a21 (.bool true) H fun H22 E22 =>
          endB false false n (.int .u64 0) H22 (E22 ++ E))
          (endB false false n t5 H E))))) = some r) : coder_Reader_Number_J7 n t0 t4 t5 t19 t20 t21 H E = some r :=
  loop_step' (by kernel_rfl) hh
theorem coder_Reader_Number_of {r : R3} {x0 : AV} {H : List AObj} (hh : (fun n => (
  callK (EV C) false n_coder_Reader_Byte [x0] H fun a1 H1 E1 =>
  (binA .leq (Go.TypeDesc.int Go.IntKind.u8) (cmpT Try.prog) true a1 (.int .u8 247)).bind fun a2 =>
  condK a2
    ((cvI .u64 a1).bind fun a3 =>
    endB false false n a3 H1 (E1 ++ []))
    ((cvI .i64 a1).bind fun a4 =>
    (binA .sub (Go.TypeDesc.int Go.IntKind.i64) (cmpT Try.prog) true a4 (.int .i64 247)).bind fun a5 =>
    callK (EV C) false n_coder_Reader_take [x0, a5] H1 fun a6 H6 E6 =>
    (lenV a6 H6).bind fun a7 =>
    coder_Reader_Number_J7 n x0 a6 (.int .u64 0) a6 a7 (.int .i64 0) H6 (E6 ++ (E1 ++ []))))) (List.length H) = some r) : EV C n_coder_Reader_Number [x0] H = some r :=
  EV_of_fnK' (fn := Try.f39) (by kernel_rfl) (by kernel_rfl) (by kernel_rfl) hh
theorem coder_Reader_Bytes_of {r : R3} {x0 x1 : AV} {H : List AObj} (hh : (fun n => (
  callK (EV C) false n_coder_Reader_Number [x0] H fun a1 H1 E1 =>
  (nilA x0).bind fun a2 =>
  (offA a2 1).bind fun a3 =>
  (loadA false 1 a3 H1).bind fun a4 =>
  splitK a4
    ((nilA x0).bind fun a5 =>
    (offA a5 1).bind fun a6 =>
    stoK 1 a6 (.bool true) H1 fun H7 E7 =>
    endB false false n .nils H7 (E7 ++ (E1 ++ [])))
    ((binA .lss (Go.TypeDesc.int Go.IntKind.i64) (cmpT Try.prog) true x1 (.int .i64 0)).bind fun a8 =>
    splitK a8
      ((nilA x0).bind fun a9 =>
      (offA a9 1).bind fun a10 =>
      stoK 1 a10 (.bool true) H1 fun H11 E11 =>
      endB false false n .nils H11 (E11 ++ (E1 ++ [])))
      ((cvI .u64 x1).bind fun a12 =>
      (binA .gtr (Go.TypeDesc.int Go.IntKind.u64) (cmpT Try.prog) false a1 a12).bind fun a13 =>
      splitK a13
        ((nilA x0).bind fun a14 =>
        (offA a14 1).bind fun a15 =>
        stoK 1 a15 (.bool true) H1 fun H16 E16 =>
        endB false false n .nils H16 (E16 ++ (E1 ++ [])))
        ((nilA x0).bind fun a17 =>
        (offA a17 0).bind fun a18 =>
        (loadA false 1 a18 H1).bind fun a19 =>
        (lenV a19 H1).bind fun a20 =>
        (cvI .u64 a20).bind fun a21 =>
        (binA .gtr (Go.TypeDesc.int Go.IntKind.u64) (cmpT Try.prog) false a1 a21).bind fun a22 =>
        condK a22
          ((nilA x0).bind fun a23 =>
          (offA a23 1).bind fun a24 =>
          stoK 1 a24 (.bool true) H1 fun H25 E25 =>
          endB false false n .nils H25 (E25 ++ (E1 ++ [])))
          ((cvI .i64 a1).bind fun a26 =>
          callK (EV C) false n_coder_Reader_take [x0, a26] H1 fun a27 H27 E27 =>
          endB false false n a27 H27 (E27 ++ (E1 ++ [])))))))) (List.length H) = some r) : EV C n_coder_Reader_Bytes [x0, x1] H = some r :=
  EV_of_fnK' (fn := Try.f41) (by kernel_rfl) (by kernel_rfl) (by kernel_rfl) hh
theorem coder_Reader_End_of {r : R3} {x0 : AV} {H : List AObj} (hh : (fun n => (
  (nilA x0).bind fun a1 =>
  (offA a1 1).bind fun a2 =>
  (loadA false 1 a2 H).bind fun a3 =>
  condK a3
    (endB false false n (.ifc t_api_Code (.int .i64 3)) H [])
    ((nilA x0).bind fun a4 =>
    (offA a4 0).bind fun a5 =>
    (loadA false 1 a5 H).bind fun a6 =>
    (lenV a6 H).bind fun a7 =>
    (binA .gtr (Go.TypeDesc.int Go.IntKind.i64) (cmpT Try.prog) true a7 (.int .i64 0)).bind fun a8 =>
    condK a8
      (endB false false n (.ifc t_api_Code (.int .i64 4)) H [])
      (endB false false n .nili H [])))) (List.length H) = some r) : EV C n_coder_Reader_End [x0] H = some r :=
  EV_of_fnK' (fn := Try.f42) (by kernel_rfl) (by kernel_rfl) (by kernel_rfl) hh
theorem ref02_Reader_Byte_of {r : R3} {x0 : AV} {H : List AObj} (hh : (fun n => (
  (nilA x0).bind fun a1 =>
  (offA a1 2).bind fun a2 =>
  (loadA false 1 a2 H).bind fun a3 =>
  splitK a3
    ((nilA x0).bind fun a4 =>
    (offA a4 2).bind fun a5 =>
    stoK 1 a5 (.bool true) H fun H6 E6 =>
    endB false false n (.int .u8 0) H6 (E6 ++ []))
    ((nilA x0).bind fun a7 =>
    (offA a7 1).bind fun a8 =>
    (loadA false 1 a8 H).bind fun a9 =>
    (nilA x0).bind fun a10 =>
    (offA a10 0).bind fun a11 =>
    (loadA false 1 a11 H).bind fun a12 =>
    (lenV a12 H).bind fun a13 =>
    (binA .geq (Go.TypeDesc.int Go.IntKind.i64) (cmpT Try.prog) false a9 a13).bind fun a14 =>
    condK a14
      ((nilA x0).bind fun a15 =>
      (offA a15 2).bind fun a16 =>
      stoK 1 a16 (.bool true) H fun H17 E17 =>
      endB false false n (.int .u8 0) H17 (E17 ++ []))
      ((nilA x0).bind fun a18 =>
      (offA a18 1).bind fun a19 =>
      (loadA false 1 a19 H).bind fun a20 =>
      (binA .add (Go.TypeDesc.int Go.IntKind.i64) (cmpT Try.prog) true a20 (.int .i64 1)).bind fun a21 =>
      (nilA x0).bind fun a22 =>
      (offA a22 1).bind fun a23 =>
      stoK 1 a23 a21 H fun H24 E24 =>
      (nilA x0).bind fun a25 =>
      (offA a25 0).bind fun a26 =>
      (loadA false 1 a26 H24).bind fun a27 =>
      (nilA x0).bind fun a28 =>
      (offA a28 1).bind fun a29 =>
      (loadA false 1 a29 H24).bind fun a30 =>
      (binA .sub (Go.TypeDesc.int Go.IntKind.i64) (cmpT Try.prog) true a30 (.int .i64 1)).bind fun a31 =>
      (ixA 1 a27 a31 H24).bind fun a32 =>
      (loadA false 1 a32 H24).bind fun a33 =>
      endB false false n a33 H24 (E24 ++ []))))) (List.length H) = some r) : EV C n_ref02_Reader_Byte [x0] H = some r :=
  EV_of_fnK' (fn := Try.f46) (by kernel_rfl) (by kernel_rfl) (by kernel_rfl) hh
noncomputable def ref02_Reader_Number_J10 (n : Nat) (t0 t4 t5 t6 : AV) (H : List AObj) (E : List Nat) : Option R3 :=
  loopK Try.prog C.G (EV C) (C.hint 45) Try.f45 (cAt (bodyOf Try.f45) [1, 1, 1, 1, 1, 1, 0, 1, 0, 0]) (kAt Try.prog C.G (EV C) (C.hint 45) Try.f45 (bodyOf Try.f45) [1, 1, 1, 1, 1, 1, 0, 1, 0] [] (endK Try.prog (C.hint 45) Try.f45 n))
    ⟨pat 86 [(0, t0), (4, t4), (5, t5), (6, t6)], H, E⟩
theorem ref02_Reader_Number_J10_of {r : R3} {n : Nat} {t0 t4 t5 t6 : AV} {H : List AObj} {E : List Nat} (hh : (
  (binA .lss (Go.TypeDesc.int Go.IntKind.i64) (cmpT Try.prog) false t6 t4).bind fun a1 =>
  condK a1
    ((binA .mul (Go.TypeDesc.int Go.IntKind.u64) (cmpT Try.prog) true (.int .u64 256) t5).bind fun a2 =>
    (nilA t0).bind fun a3 =>
    (offA a3 0).bind fun a4 =>
    (loadA false 1 a4 H).bind fun a5 =>
    (nilA t0).bind fun a6 =>
    (offA a6 1).bind fun a7 =>
    (loadA false 1 a7 H).bind fun a8 =>
    (binA .add (Go.TypeDesc.int Go.IntKind.i64) (cmpT Try.prog) false a8 t6).bind fun a9 =>
    (ixA 1 a5 a9 H).bind fun a10 =>
    (loadA false 1 a10 H).bind fun a11 =>
    (cvI .u64 a11).bind fun a12 =>
    (binA .add (Go.TypeDesc.int Go.IntKind.u64) (cmpT Try.prog) false a2 a12).bind fun a13 =>
    (binA .add (Go.TypeDesc.int Go.IntKind.i64) (cmpT Try.prog) true t6 (.int .i64 1)).bind fun a14 =>
    ref02_Reader_Number_J10 n t0 t4 a13 a14 H E)
    ((nilA t0).bind fun a15 =>
    (offA a15 0).bind fun a16 =>
    (loadA false 1 a16 H).bind fun a17 =>
    (nilA t0).bind fun a18 =>
    (offA a18 1).bind fun a19 =>
    (loadA false 1 a19 H).bind fun a20 =>
    (ixA 1 a17 a20 H).bind fun a21 =>
    (loadA false 1 a21 H).bind fun a22 =>
    (binA .eql (Go.TypeDesc.int Go.IntKind.u8) (cmpT Try.prog) true a22 (.int .u8 0)).bind fun a23 =>
    splitK a23
      ((nilA t0).bind fun a24 =>
      (offA a24 2).bind fun a25 =>
      stoK 1 a25 (.bool true) H fun H26 E26 =>
      endB false false n (.int .u64 0) H26 (E26 ++ E))
      ((binA .lss (Go.TypeDesc.int Go.IntKind.u64) (cmpT Try.prog) true t5 (.int .u64 248)).bind fun a27 =>
      condK a27
        ((nilA t0).bind fun a28 =>
        (offA a28 2).bind fun a29 =>
        stoK 1 a29 (.bool true) H fun H30 E30 =>
        endB false false n (.int .u64 0) H30 (E30 ++ E))
        ((nilA t0).bind fun a31 =>
        (offA a31 1).bind fun a32 =>
        (loadA false 1 a32 H).bind fun a33 =>
        (binA .add (Go.TypeDesc.int Go.IntKind.i64) (cmpT Try.prog) false a33 t4).bind fun a34 =>
        (nilA t0).bind fun a35 =>
        (offA a35 1).bind fun a36 =>
        stoK 1 a36 a34 H fun H37 E37 =>
        endB false false n t5 H37 (E37 ++ E))))) = some r) : ref02_Reader_Number_J10 n t0 t4 t5 t6 H E = some r :=
  loop_step' (by kernel_rfl) hh
theorem ref02_Reader_Number_of {r : R3} {x0 : AV} {H : List AObj} (hh : (fun n => (
  callK (EV C) false n_ref02_Reader_Byte [x0] H fun a1 H1 E1 =>
  (nilA x0).bind fun a2 =>
  (offA a2 2).bind fun a3 =>
  (loadA false 1 a3 H1).bind fun a4 =>
  splitK a4
    ((cvI .u64 a1).bind fun a5 =>
    endB false false n a5 H1 (E1 ++ []))
    ((binA .lss (Go.TypeDesc.int Go.IntKind.u8) (cmpT Try.prog) true a1 (.int .u8 248)).bind fun a6 =>
    condK a6
      ((cvI .u64 a1).bind fun a7 =>
      endB false false n a7 H1 (E1 ++ []))
      ((cvI .i64 a1).bind fun a8 =>
      (binA .sub (Go.TypeDesc.int Go.IntKind.i64) (cmpT Try.prog) true a8 (.int .i64 247)).bind fun a9 =>
      (nilA x0).bind fun a10 =>
      (offA a10 0).bind fun a11 =>
      (loadA false 1 a11 H1).bind fun a12 =>
      (lenV a12 H1).bind fun a13 =>
      (nilA x0).bind fun a14 =>
      (offA a14 1).bind fun a15 =>
      (loadA false 1 a15 H1).bind fun a16 =>
      (binA .sub (Go.TypeDesc.int Go.IntKind.i64) (cmpT Try.prog) false a13 a16).bind fun a17 =>
      (binA .lss (Go.TypeDesc.int Go.IntKind.i64) (cmpT Try.prog) false a17 a9).bind fun a18 =>
      condK a18
        ((nilA x0).bind fun a19 =>
        (offA a19 2).bind fun a20 =>
        stoK 1 a20 (.bool true) H1 fun H21 E21 =>
        endB false false n (.int .u64 0) H21 (E21 ++ (E1 ++ [])))
        (ref02_Reader_Number_J10 n x0 a9 (.int .u64 0) (.int .i64 0) H1 (E1 ++ [])))))) (List.length H) = some r) : EV C n_ref02_Reader_Number [x0] H = some r :=
  EV_of_fnK' (fn := Try.f45) (by kernel_rfl) (by kernel_rfl) (by kernel_rfl) hh
theorem ref02_Reader_Bytes_of {r : R3} {x0 x1 : AV} {H : List AObj} (hh : (fun n => (
  callK (EV C) false n_ref02_Reader_Number [x0] H fun a1 H1 E1 =>
  (nilA x0).bind fun a2 =>
  (offA a2 2).bind fun a3 =>
  (loadA false 1 a3 H1).bind fun a4 =>
  splitK a4
    ((nilA x0).bind fun a5 =>
    (offA a5 2).bind fun a6 =>
    stoK 1 a6 (.bool true) H1 fun H7 E7 =>
    endB false false n .nils H7 (E7 ++ (E1 ++ [])))
    ((binA .lss (Go.TypeDesc.int Go.IntKind.i64) (cmpT Try.prog) true x1 (.int .i64 0)).bind fun a8 =>
    splitK a8
      ((nilA x0).bind fun a9 =>
      (offA a9 2).bind fun a10 =>
      stoK 1 a10 (.bool true) H1 fun H11 E11 =>
      endB false false n .nils H11 (E11 ++ (E1 ++ [])))
      ((cvI .u64 x1).bind fun a12 =>
      (binA .gtr (Go.TypeDesc.int Go.IntKind.u64) (cmpT Try.prog) false a1 a12).bind fun a13 =>
      splitK a13
        ((nilA x0).bind fun a14 =>
        (offA a14 2).bind fun a15 =>
        stoK 1 a15 (.bool true) H1 fun H16 E16 =>
        endB false false n .nils H16 (E16 ++ (E1 ++ [])))
        ((nilA x0).bind fun a17 =>
        (offA a17 0).bind fun a18 =>
        (loadA false 1 a18 H1).bind fun a19 =>
        (lenV a19 H1).bind fun a20 =>
        (nilA x0).bind fun a21 =>
        (offA a21 1).bind fun a22 =>
        (loadA false 1 a22 H1).bind fun a23 =>
        (binA .sub (Go.TypeDesc.int Go.IntKind.i64) (cmpT Try.prog) false a20 a23).bind fun a24 =>
        (cvI .u64 a24).bind fun a25 =>
        (binA .gtr (Go.TypeDesc.int Go.IntKind.u64) (cmpT Try.prog) false a1 a25).bind fun a26 =>
        condK a26
          ((nilA x0).bind fun a27 =>
          (offA a27 2).bind fun a28 =>
          stoK 1 a28 (.bool true) H1 fun H29 E29 =>
          endB false false n .nils H29 (E29 ++ (E1 ++ [])))
          (rawK 1 0 (.int .u8 0) [] H1 fun a30 H30 E30 =>
          (nilA x0).bind fun a31 =>
          (offA a31 0).bind fun a32 =>
          (loadA false 1 a32 H30).bind fun a33 =>
          drawK (((loadA false 1 a32 H1).bind fun a34 =>
          some a34) = some a33)
          ((nilA x0).bind fun a35 =>
          (offA a35 1).bind fun a36 =>
          (loadA false 1 a36 H30).bind fun a37 =>
          drawK (((loadA false 1 a36 H1).bind fun a38 =>
          some a38) = some a37)
          ((nilA x0).bind fun a39 =>
          (offA a39 1).bind fun a40 =>
          (loadA false 1 a40 H30).bind fun a41 =>
          drawK (((loadA false 1 a40 H1).bind fun a42 =>
          some a42) = some a41)
          ((cvI .i64 a1).bind fun a43 =>
          drawK (((cvI .i64 a1).bind fun a44 =>
          some a44) = some a43)
          ((binA .add (Go.TypeDesc.int Go.IntKind.i64) (cmpT Try.prog) false a41 a43).bind fun a45 =>
          (cutA 1 a33 (some a37) (some a45) none H30).bind fun a46 =>
          drawK (((cutA 1 a33 (some a37) (some a45) none H1).bind fun a47 =>
          some a47) = some a46)
          (appK 1 1 a30 a46 H30 fun a48 H48 E48 =>
          (nilA x0).bind fun a49 =>
          (offA a49 1).bind fun a50 =>
          (loadA false 1 a50 H48).bind fun a51 =>
          (cvI .i64 a1).bind fun a52 =>
          (binA .add (Go.TypeDesc.int Go.IntKind.i64) (cmpT Try.prog) false a51 a52).bind fun a53 =>
          (nilA x0).bind fun a54 =>
          (offA a54 1).bind fun a55 =>
          stoK 1 a55 a53 H48 fun H56 E56 =>
          endB false false n a48 H56 (E56 ++ (E48 ++ (E30 ++ (E1 ++ []))))))))))))))) (List.length H) = some r) : EV C n_ref02_Reader_Bytes [x0, x1] H = some r :=
  EV_of_fnK' (fn := Try.f47) (by kernel_rfl) (by kernel_rfl) (by kernel_rfl) hh
theorem ref02_Reader_End_of {r : R3} {x0 : AV} {H : List AObj} (hh : (fun n => (
  (nilA x0).bind fun a1 =>
  (offA a1 2).bind fun a2 =>
  (loadA false 1 a2 H).bind fun a3 =>
  condK a3
    (endB false false n (.int .i64 3) H [])
    ((nilA x0).bind fun a4 =>
    (offA a4 1).bind fun a5 =>
    (loadA false 1 a5 H).bind fun a6 =>
    (nilA x0).bind fun a7 =>
    (offA a7 0).bind fun a8 =>
    (loadA false 1 a8 H).bind fun a9 =>
    (lenV a9 H).bind fun a10 =>
    (binA .lss (Go.TypeDesc.int Go.IntKind.i64) (cmpT Try.prog) false a6 a10).bind fun a11 =>
    condK a11
      (endB false false n (.int .i64 4) H [])
      (endB false false n (.int .i64 0) H [])))) (List.length H) = some r) : EV C n_ref02_Reader_End [x0] H = some r :=
  EV_of_fnK' (fn := Try.f64) (by kernel_rfl) (by kernel_rfl) (by kernel_rfl) hh
end Go.Pm
