/- A part of the proof: what the functions of the program answer, as plain lists and numbers. -/
import Derived.Test.YtclfnechcblmoaaDoorT0
namespace Go.Pm
open Go.Proofs
set_option linter.unusedVariables false
set_option maxRecDepth 100000
/-! ### 55 heartwood/heartwoodref01.root -/
noncomputable def ref01_root_J3 (n : Nat) (t0 t1 t5 t6 : AV) (H : List AObj) (E : List Nat) : Option R3 :=
 loopK Tryd.prog C.G (EV C) (C.hint 55) Tryd.f55 (cAt (bodyOf Tryd.f55) [1, 1, 0, 1, 0, 0]) (kAt Tryd.prog C.G (EV C) (C.hint 55) Tryd.f55 (bodyOf Tryd.f55) [1, 1, 0, 1, 0] [] (endK Tryd.prog (C.hint 55) Tryd.f55 n))
 ⟨pat 23 [(0, t0), (1, t1), (5, t5), (6, t6)], H, E⟩
theorem ref01_root_J3_of {r : R3} {n : Nat} {t0 t1 t5 t6 : AV} {H : List AObj} {E : List Nat} (hh : (
 (binA .gtr (Go.TypeDesc.int Go.IntKind.u64) (cmpT Tryd.prog) true t6 (.int .u64 0)).bind fun a1 =>
 condK a1
 ((binA .add (Go.TypeDesc.int Go.IntKind.u64) (cmpT Tryd.prog) false t5 t6).bind fun a2 =>
 callK (EV C) false n_ref01_below [a2, t0, t1] H fun a3 H3 E3 =>
 condK a3
 ((binA .quo (Go.TypeDesc.int Go.IntKind.u64) (cmpT Tryd.prog) true t6 (.int .u64 2)).bind fun a4 =>
 ref01_root_J3 n t0 t1 a2 a4 H3 ((E3 ++ []) ++ E))
 ((binA .quo (Go.TypeDesc.int Go.IntKind.u64) (cmpT Tryd.prog) true t6 (.int .u64 2)).bind fun a5 =>
 ref01_root_J3 n t0 t1 t5 a5 H3 ((E3 ++ []) ++ E)))
 ((binA .rem (Go.TypeDesc.int Go.IntKind.u64) (cmpT Tryd.prog) true t5 (.int .u64 4294967296)).bind fun a6 =>
 (cvI .u32 a6).bind fun a7 =>
 endB false false n a7 H E)) = some r) : ref01_root_J3 n t0 t1 t5 t6 H E = some r :=
 loop_step' (by kernel_rfl) hh
theorem ref01_root_of {r : R3} {x0 x1 : AV} {H : List AObj} (hh : (fun n => (
 ref01_root_J3 n x0 x1 (.int .u64 0) (.int .u64 34359738368) H [])) (List.length H) = some r) : EV C n_ref01_root [x0, x1] H = some r :=
 EV_of_fnK' (fn := Tryd.f55) (by kernel_rfl) (by kernel_rfl) (by kernel_rfl) hh
/-! ### 79 heartwood/heartwoodref01.below -/
noncomputable def ref01_below_J10 (n : Nat) (t8 t10 t11 : AV) (H : List AObj) (E : List Nat) : Option R3 :=
 loopK Tryd.prog C.G (EV C) (C.hint 79) Tryd.f79 (cAt (bodyOf Tryd.f79) [1, 1, 1, 1, 1, 1, 1, 0, 1, 0, 0]) (kAt Tryd.prog C.G (EV C) (C.hint 79) Tryd.f79 (bodyOf Tryd.f79) [1, 1, 1, 1, 1, 1, 1, 0, 1, 0] [] (endK Tryd.prog (C.hint 79) Tryd.f79 n))
 ⟨pat 59 [(8, t8), (10, t10), (11, t11)], H, E⟩
theorem ref01_below_J10_of {r : R3} {n : Nat} {t8 t10 t11 : AV} {H : List AObj} {E : List Nat} (hh : (
 (binA .geq (Go.TypeDesc.int Go.IntKind.i64) (cmpT Tryd.prog) true t11 (.int .i64 0)).bind fun a1 =>
 condK a1
 ((ixA 1 t8 t11 H).bind fun a2 =>
 (loadA false 1 a2 H).bind fun a3 =>
 (ixA 1 t10 t11 H).bind fun a4 =>
 (loadA false 1 a4 H).bind fun a5 =>
 (binA .neq (Go.TypeDesc.int Go.IntKind.u64) (cmpT Tryd.prog) false a3 a5).bind fun a6 =>
 condK a6
 ((ixA 1 t8 t11 H).bind fun a7 =>
 (loadA false 1 a7 H).bind fun a8 =>
 (ixA 1 t10 t11 H).bind fun a9 =>
 (loadA false 1 a9 H).bind fun a10 =>
 (binA .lss (Go.TypeDesc.int Go.IntKind.u64) (cmpT Tryd.prog) false a8 a10).bind fun a11 =>
 endB false false n a11 H E)
 ((binA .sub (Go.TypeDesc.int Go.IntKind.i64) (cmpT Tryd.prog) true t11 (.int .i64 1)).bind fun a12 =>
 ref01_below_J10 n t8 t10 a12 H E))
 (endB false false n (.bool true) H E)) = some r) : ref01_below_J10 n t8 t10 t11 H E = some r :=
 loop_step' (by kernel_rfl) hh
theorem ref01_below_of {r : R3} {x0 x1 x2 : AV} {H : List AObj} (hh : (fun n => (
 (binA .rem (Go.TypeDesc.int Go.IntKind.u64) (cmpT Tryd.prog) true x0 (.int .u64 65536)).bind fun a1 =>
 (binA .quo (Go.TypeDesc.int Go.IntKind.u64) (cmpT Tryd.prog) true x0 (.int .u64 65536)).bind fun a2 =>
 (binA .rem (Go.TypeDesc.int Go.IntKind.u64) (cmpT Tryd.prog) true a2 (.int .u64 65536)).bind fun a3 =>
 (binA .quo (Go.TypeDesc.int Go.IntKind.u64) (cmpT Tryd.prog) true x0 (.int .u64 4294967296)).bind fun a4 =>
 litK 1 3 (.int .u64 0) [(0, a1), (1, a3), (2, a4)] H fun a5 H5 E5 =>
 callK (EV C) false n_ref01_times [a5, a5] H5 fun a6 H6 E6 =>
 condK x2
 (callK (EV C) false n_ref01_times [a6, a5] H6 fun a7 H7 E7 =>
 (lenV a7 H7).bind fun a8 =>
 mkK 1 8 (.int .u64 0) a8 a8 H7 fun a9 H9 E9 =>
 (ixA 1 a9 (.int .i64 6) H9).bind fun a10 =>
 stoK 1 a10 x1 H9 fun H11 E11 =>
 (lenV a7 H11).bind fun a12 =>
 (binA .sub (Go.TypeDesc.int Go.IntKind.i64) (cmpT Tryd.prog) true a12 (.int .i64 1)).bind fun a13 =>
 ref01_below_J10 n a7 a9 a13 H11 (E11 ++ (E9 ++ (E7 ++ (E6 ++ (E5 ++ []))))))
 ((lenV a6 H6).bind fun a14 =>
 mkK 1 8 (.int .u64 0) a14 a14 H6 fun a15 H15 E15 =>
 (ixA 1 a15 (.int .i64 4) H15).bind fun a16 =>
 stoK 1 a16 x1 H15 fun H17 E17 =>
 (lenV a6 H17).bind fun a18 =>
 (binA .sub (Go.TypeDesc.int Go.IntKind.i64) (cmpT Tryd.prog) true a18 (.int .i64 1)).bind fun a19 =>
 ref01_below_J10 n a6 a15 a19 H17 (E17 ++ (E15 ++ (E6 ++ (E5 ++ []))))))) (List.length H) = some r) : EV C n_ref01_below [x0, x1, x2] H = some r :=
 EV_of_fnK' (fn := Tryd.f79) (by kernel_rfl) (by kernel_rfl) (by kernel_rfl) hh
/-! ### 97 heartwood/heartwoodref01.times -/
noncomputable def ref01_times_J3 (n : Nat) (t0 t1 t5 t6 : AV) (H : List AObj) (E : List Nat) : Option R3 :=
 loopK Tryd.prog C.G (EV C) (C.hint 97) Tryd.f97 (cAt (bodyOf Tryd.f97) [1, 1, 0, 1, 0, 0]) (kAt Tryd.prog C.G (EV C) (C.hint 97) Tryd.f97 (bodyOf Tryd.f97) [1, 1, 0, 1, 0] [] (endK Tryd.prog (C.hint 97) Tryd.f97 n))
 ⟨pat 80 [(0, t0), (1, t1), (5, t5), (6, t6)], H, E⟩
noncomputable def ref01_times_J6 (n : Nat) (Ha : List AObj) (Ea : List Nat) (t0 t1 t5 t6 t7 : AV) (H : List AObj) (E : List Nat) : Option R3 :=
 loopK Tryd.prog C.G (EV C) (C.hint 97) Tryd.f97 (cAt (bodyOf Tryd.f97) [1, 1, 0, 1, 0, 0, 1, 0, 0, 1, 0, 0]) (kAt Tryd.prog C.G (EV C) (C.hint 97) Tryd.f97 (bodyOf Tryd.f97) [1, 1, 0, 1, 0, 0, 1, 0, 0, 1, 0] [(Ha, Ea)] (endK Tryd.prog (C.hint 97) Tryd.f97 n))
 ⟨pat 80 [(0, t0), (1, t1), (5, t5), (6, t6), (7, t7)], H, E⟩
noncomputable def ref01_times_J10 (n : Nat) (t5 t8 : AV) (H : List AObj) (E : List Nat) : Option R3 :=
 loopK Tryd.prog C.G (EV C) (C.hint 97) Tryd.f97 (cAt (bodyOf Tryd.f97) [1, 1, 1, 0, 1, 0, 0]) (kAt Tryd.prog C.G (EV C) (C.hint 97) Tryd.f97 (bodyOf Tryd.f97) [1, 1, 1, 0, 1, 0] [] (endK Tryd.prog (C.hint 97) Tryd.f97 n))
 ⟨pat 80 [(5, t5), (8, t8)], H, E⟩
theorem ref01_times_J3_of {r : R3} {n : Nat} {t0 t1 t5 t6 : AV} {H : List AObj} {E : List Nat} (hh : (
 (lenV t0 H).bind fun a1 =>
 (binA .lss (Go.TypeDesc.int Go.IntKind.i64) (cmpT Tryd.prog) false t6 a1).bind fun a2 =>
 condK a2
 (ref01_times_J6 n H E t0 t1 t5 t6 (.int .i64 0) H [])
 (ref01_times_J10 n t5 (.int .i64 0) H E)) = some r) : ref01_times_J3 n t0 t1 t5 t6 H E = some r :=
 loop_step' (by kernel_rfl) hh
theorem ref01_times_J6_of {r : R3} {n : Nat} {Ha : List AObj} {Ea : List Nat} {t0 t1 t5 t6 t7 : AV} {H : List AObj} {E : List Nat} (hh : (
 (lenV t1 H).bind fun a1 =>
 (binA .lss (Go.TypeDesc.int Go.IntKind.i64) (cmpT Tryd.prog) false t7 a1).bind fun a2 =>
 condK a2
 ((binA .add (Go.TypeDesc.int Go.IntKind.i64) (cmpT Tryd.prog) false t6 t7).bind fun a3 =>
 (binA .add (Go.TypeDesc.int Go.IntKind.i64) (cmpT Tryd.prog) false t6 t7).bind fun a4 =>
 (ixA 1 t5 a4 H).bind fun a5 =>
 (loadA false 1 a5 H).bind fun a6 =>
 (ixA 1 t0 t6 H).bind fun a7 =>
 (loadA false 1 a7 H).bind fun a8 =>
 (ixA 1 t1 t7 H).bind fun a9 =>
 (loadA false 1 a9 H).bind fun a10 =>
 (binA .mul (Go.TypeDesc.int Go.IntKind.u64) (cmpT Tryd.prog) false a8 a10).bind fun a11 =>
 (binA .add (Go.TypeDesc.int Go.IntKind.u64) (cmpT Tryd.prog) false a6 a11).bind fun a12 =>
 (ixA 1 t5 a3 H).bind fun a13 =>
 stoK 1 a13 a12 H fun H14 E14 =>
 (binA .add (Go.TypeDesc.int Go.IntKind.i64) (cmpT Tryd.prog) true t7 (.int .i64 1)).bind fun a15 =>
 ref01_times_J6 n Ha Ea t0 t1 t5 t6 a15 H14 ((E14 ++ []) ++ E))
 ((binA .add (Go.TypeDesc.int Go.IntKind.i64) (cmpT Tryd.prog) true t6 (.int .i64 1)).bind fun a16 =>
 ref01_times_J3 n t0 t1 t5 a16 H (E ++ Ea))) = some r) : ref01_times_J6 n Ha Ea t0 t1 t5 t6 t7 H E = some r :=
 loop_step' (by kernel_rfl) hh
theorem ref01_times_J10_of {r : R3} {n : Nat} {t5 t8 : AV} {H : List AObj} {E : List Nat} (hh : (
 (binA .add (Go.TypeDesc.int Go.IntKind.i64) (cmpT Tryd.prog) true t8 (.int .i64 1)).bind fun a1 =>
 (lenV t5 H).bind fun a2 =>
 (binA .lss (Go.TypeDesc.int Go.IntKind.i64) (cmpT Tryd.prog) false a1 a2).bind fun a3 =>
 condK a3
 ((binA .add (Go.TypeDesc.int Go.IntKind.i64) (cmpT Tryd.prog) true t8 (.int .i64 1)).bind fun a4 =>
 (binA .add (Go.TypeDesc.int Go.IntKind.i64) (cmpT Tryd.prog) true t8 (.int .i64 1)).bind fun a5 =>
 (ixA 1 t5 a5 H).bind fun a6 =>
 (loadA false 1 a6 H).bind fun a7 =>
 (ixA 1 t5 t8 H).bind fun a8 =>
 (loadA false 1 a8 H).bind fun a9 =>
 (binA .quo (Go.TypeDesc.int Go.IntKind.u64) (cmpT Tryd.prog) true a9 (.int .u64 65536)).bind fun a10 =>
 (binA .add (Go.TypeDesc.int Go.IntKind.u64) (cmpT Tryd.prog) false a7 a10).bind fun a11 =>
 (ixA 1 t5 a4 H).bind fun a12 =>
 stoK 1 a12 a11 H fun H13 E13 =>
 (ixA 1 t5 t8 H13).bind fun a14 =>
 (loadA false 1 a14 H13).bind fun a15 =>
 (binA .rem (Go.TypeDesc.int Go.IntKind.u64) (cmpT Tryd.prog) true a15 (.int .u64 65536)).bind fun a16 =>
 (ixA 1 t5 t8 H13).bind fun a17 =>
 stoK 1 a17 a16 H13 fun H18 E18 =>
 (binA .add (Go.TypeDesc.int Go.IntKind.i64) (cmpT Tryd.prog) true t8 (.int .i64 1)).bind fun a19 =>
 ref01_times_J10 n t5 a19 H18 ((E18 ++ (E13 ++ [])) ++ E))
 (endB false false n t5 H E)) = some r) : ref01_times_J10 n t5 t8 H E = some r :=
 loop_step' (by kernel_rfl) hh
theorem ref01_times_of {r : R3} {x0 x1 : AV} {H : List AObj} (hh : (fun n => (
 (lenV x0 H).bind fun a1 =>
 (lenV x1 H).bind fun a2 =>
 (binA .add (Go.TypeDesc.int Go.IntKind.i64) (cmpT Tryd.prog) false a1 a2).bind fun a3 =>
 (binA .add (Go.TypeDesc.int Go.IntKind.i64) (cmpT Tryd.prog) true a3 (.int .i64 1)).bind fun a4 =>
 mkK 1 8 (.int .u64 0) a4 a4 H fun a5 H5 E5 =>
 ref01_times_J3 n x0 x1 a5 (.int .i64 0) H5 (E5 ++ []))) (List.length H) = some r) : EV C n_ref01_times [x0, x1] H = some r :=
 EV_of_fnK' (fn := Tryd.f97) (by kernel_rfl) (by kernel_rfl) (by kernel_rfl) hh
/-! ### 21 heartwood/heartwoodref01.Made -/
noncomputable def ref01_Made_J4 (n : Nat) (t0 t1 t2 t3 : AV) (H : List AObj) (E : List Nat) : Option R3 :=
 loopK Tryd.prog C.G (EV C) (C.hint 21) Tryd.f21 (cAt (bodyOf Tryd.f21) [1, 1, 1, 0, 1, 0, 0]) (kAt Tryd.prog C.G (EV C) (C.hint 21) Tryd.f21 (bodyOf Tryd.f21) [1, 1, 1, 0, 1, 0] [] (endK Tryd.prog (C.hint 21) Tryd.f21 n))
 ⟨pat 61 [(0, t0), (1, t1), (2, t2), (3, t3)], H, E⟩
noncomputable def ref01_Made_J8 (n : Nat) (Ha : List AObj) (Ea : List Nat) (t0 t1 t2 t3 t4 t5 : AV) (H : List AObj) (E : List Nat) : Option R3 :=
 loopK Tryd.prog C.G (EV C) (C.hint 21) Tryd.f21 (cAt (bodyOf Tryd.f21) [1, 1, 1, 0, 1, 0, 0, 1, 0, 0, 1, 0, 1, 0, 0]) (kAt Tryd.prog C.G (EV C) (C.hint 21) Tryd.f21 (bodyOf Tryd.f21) [1, 1, 1, 0, 1, 0, 0, 1, 0, 0, 1, 0, 1, 0] [(Ha, Ea)] (endK Tryd.prog (C.hint 21) Tryd.f21 n))
 ⟨pat 61 [(0, t0), (1, t1), (2, t2), (3, t3), (4, t4), (5, t5)], H, E⟩
noncomputable def ref01_Made_J14 (n : Nat) (t0 t1 t2 t6 : AV) (H : List AObj) (E : List Nat) : Option R3 :=
 loopK Tryd.prog C.G (EV C) (C.hint 21) Tryd.f21 (cAt (bodyOf Tryd.f21) [1, 1, 1, 1, 0, 1, 0, 0]) (kAt Tryd.prog C.G (EV C) (C.hint 21) Tryd.f21 (bodyOf Tryd.f21) [1, 1, 1, 1, 0, 1, 0] [] (endK Tryd.prog (C.hint 21) Tryd.f21 n))
 ⟨pat 61 [(0, t0), (1, t1), (2, t2), (6, t6)], H, E⟩
noncomputable def ref01_Made_J18 (n : Nat) (t0 t1 t2 t7 : AV) (H : List AObj) (E : List Nat) : Option R3 :=
 loopK Tryd.prog C.G (EV C) (C.hint 21) Tryd.f21 (cAt (bodyOf Tryd.f21) [1, 1, 1, 1, 1, 0, 1, 0, 0]) (kAt Tryd.prog C.G (EV C) (C.hint 21) Tryd.f21 (bodyOf Tryd.f21) [1, 1, 1, 1, 1, 0, 1, 0] [] (endK Tryd.prog (C.hint 21) Tryd.f21 n))
 ⟨pat 61 [(0, t0), (1, t1), (2, t2), (7, t7)], H, E⟩
theorem ref01_Made_J4_of {r : R3} {n : Nat} {t0 t1 t2 t3 : AV} {H : List AObj} {E : List Nat} (hh : (
 (lenV t2 H).bind fun a1 =>
 (binA .lss (Go.TypeDesc.int Go.IntKind.i64) (cmpT Tryd.prog) true a1 (.int .i64 64)).bind fun a2 =>
 condK a2
 (ref01_Made_J8 n H E t0 t1 t2 t3 (.bool true) (.int .i64 0) H [])
 (ref01_Made_J14 n t0 t1 t2 (.int .i64 0) H E)) = some r) : ref01_Made_J4 n t0 t1 t2 t3 H E = some r :=
 loop_step' (by kernel_rfl) hh
theorem ref01_Made_J8_of {r : R3} {n : Nat} {Ha : List AObj} {Ea : List Nat} {t0 t1 t2 t3 t4 t5 : AV} {H : List AObj} {E : List Nat} (hh : (
 (lenV t2 H).bind fun a1 =>
 (binA .lss (Go.TypeDesc.int Go.IntKind.i64) (cmpT Tryd.prog) false t5 a1).bind fun a2 =>
 condK a2
 (splitK t4
 ((ixA 1 t2 t5 H).bind fun a3 =>
 (loadA false 1 a3 H).bind fun a4 =>
 (binA .rem (Go.TypeDesc.int Go.IntKind.u64) (cmpT Tryd.prog) false t3 a4).bind fun a5 =>
 (binA .neq (Go.TypeDesc.int Go.IntKind.u64) (cmpT Tryd.prog) true a5 (.int .u64 0)).bind fun a6 =>
 (binA .add (Go.TypeDesc.int Go.IntKind.i64) (cmpT Tryd.prog) true t5 (.int .i64 1)).bind fun a7 =>
 ref01_Made_J8 n Ha Ea t0 t1 t2 t3 a6 a7 H E)
 ((binA .add (Go.TypeDesc.int Go.IntKind.i64) (cmpT Tryd.prog) true t5 (.int .i64 1)).bind fun a8 =>
 ref01_Made_J8 n Ha Ea t0 t1 t2 t3 (.bool false) a8 H E))
 (condK t4
 (litK 1 1 (.int .u64 0) [(0, t3)] H fun a9 H9 E9 =>
 appK 1 8 t2 a9 H9 fun a10 H10 E10 =>
 (binA .add (Go.TypeDesc.int Go.IntKind.u64) (cmpT Tryd.prog) true t3 (.int .u64 1)).bind fun a11 =>
 ref01_Made_J4 n t0 t1 a10 a11 H10 ((E10 ++ (E9 ++ E)) ++ Ea))
 ((binA .add (Go.TypeDesc.int Go.IntKind.u64) (cmpT Tryd.prog) true t3 (.int .u64 1)).bind fun a12 =>
 ref01_Made_J4 n t0 t1 t2 a12 H (E ++ Ea)))) = some r) : ref01_Made_J8 n Ha Ea t0 t1 t2 t3 t4 t5 H E = some r :=
 loop_step' (by kernel_rfl) hh
theorem ref01_Made_J14_of {r : R3} {n : Nat} {t0 t1 t2 t6 : AV} {H : List AObj} {E : List Nat} (hh : (
 (binA .lss (Go.TypeDesc.int Go.IntKind.i64) (cmpT Tryd.prog) true t6 (.int .i64 64)).bind fun a1 =>
 condK a1
 ((offA t1 0).bind fun a2 =>
 (loadA false 1 a2 H).bind fun a3 =>
 (ixA 1 t2 t6 H).bind fun a4 =>
 (loadA false 1 a4 H).bind fun a5 =>
 (callD (EV C) n_ref01_root [a5, (.bool true)] H).bind fun a6 =>
 (litD 1 1 (.int .u32 0) [(0, a6)] H).bind fun a7 =>
 appK 1 4 a3 a7 H fun a8 H8 E8 =>
 (offA t1 0).bind fun a9 =>
 stoK 1 a9 a8 H8 fun H10 E10 =>
 (binA .add (Go.TypeDesc.int Go.IntKind.i64) (cmpT Tryd.prog) true t6 (.int .i64 1)).bind fun a11 =>
 ref01_Made_J14 n t0 t1 t2 a11 H10 ((E10 ++ (E8 ++ [])) ++ E))
 (ref01_Made_J18 n t0 t1 t2 (.int .i64 0) H E)) = some r) : ref01_Made_J14 n t0 t1 t2 t6 H E = some r :=
 loop_step' (by kernel_rfl) hh
theorem ref01_Made_J18_of {r : R3} {n : Nat} {t0 t1 t2 t7 : AV} {H : List AObj} {E : List Nat} (hh : (
 (binA .lss (Go.TypeDesc.int Go.IntKind.i64) (cmpT Tryd.prog) true t7 (.int .i64 8)).bind fun a1 =>
 condK a1
 ((ixA 1 t2 t7 H).bind fun a2 =>
 (loadA false 1 a2 H).bind fun a3 =>
 callK (EV C) false n_ref01_root [a3, (.bool false)] H fun a4 H4 E4 =>
 (offA t1 1).bind fun a5 =>
 (arA 8 1 a5 t7).bind fun a6 =>
 stoK 1 a6 a4 H4 fun H7 E7 =>
 (binA .add (Go.TypeDesc.int Go.IntKind.i64) (cmpT Tryd.prog) true t7 (.int .i64 1)).bind fun a8 =>
 ref01_Made_J18 n t0 t1 t2 a8 H7 ((E7 ++ (E4 ++ [])) ++ E))
 ((loadA true 9 t1 H).bind fun a9 =>
 stoK 9 t0 a9 H fun H10 E10 =>
 (loadA true 9 t0 H10).bind fun a11 =>
 endB false false n a11 H10 (E10 ++ E))) = some r) : ref01_Made_J18 n t0 t1 t2 t7 H E = some r :=
 loop_step' (by kernel_rfl) hh
theorem ref01_Made_of {r : R3} {H : List AObj} (hh : (fun n => (
 newK (.agg [.nils, (.int .u32 0), (.int .u32 0), (.int .u32 0), (.int .u32 0), (.int .u32 0), (.int .u32 0), (.int .u32 0), (.int .u32 0)]) H fun a1 H1 E1 =>
 newK (.agg [.nils, (.int .u32 0), (.int .u32 0), (.int .u32 0), (.int .u32 0), (.int .u32 0), (.int .u32 0), (.int .u32 0), (.int .u32 0)]) H1 fun a2 H2 E2 =>
 ref01_Made_J4 n a1 a2 (.slc (List.length H2) 0 0 0) (.int .u64 2) (H2 ++ [.vrow]) (E2 ++ (E1 ++ [])))) (List.length H) = some r) : EV C n_ref01_Made [] H = some r :=
 EV_of_fnK' (fn := Tryd.f21) (by kernel_rfl) (by kernel_rfl) (by kernel_rfl) hh
/-! ### 103 heartwood/heartwoodref01.Tail -/
noncomputable def ref01_Tail_J2 (n : Nat) (t0 t3 : AV) (H : List AObj) (E : List Nat) : Option R3 :=
 loopK Tryd.prog C.G (EV C) (C.hint 103) Tryd.f103 (cAt (bodyOf Tryd.f103) [1, 1, 0, 0, 0]) (kAt Tryd.prog C.G (EV C) (C.hint 103) Tryd.f103 (bodyOf Tryd.f103) [1, 1, 0, 0] [] (endK Tryd.prog (C.hint 103) Tryd.f103 n))
 ⟨pat 36 [(0, t0), (3, t3)], H, E⟩
noncomputable def ref01_Tail_J7 (n : Nat) (t3 t4 t5 t6 : AV) (H : List AObj) (E : List Nat) : Option R3 :=
 loopK Tryd.prog C.G (EV C) (C.hint 103) Tryd.f103 (cAt (bodyOf Tryd.f103) [1, 1, 1, 1, 1, 0, 1, 0, 0]) (kAt Tryd.prog C.G (EV C) (C.hint 103) Tryd.f103 (bodyOf Tryd.f103) [1, 1, 1, 1, 1, 0, 1, 0] [] (endK Tryd.prog (C.hint 103) Tryd.f103 n))
 ⟨pat 36 [(3, t3), (4, t4), (5, t5), (6, t6)], H, E⟩
theorem ref01_Tail_J2_of {r : R3} {n : Nat} {t0 t3 : AV} {H : List AObj} {E : List Nat} (hh : (
 (lenV t3 H).bind fun a1 =>
 (binA .add (Go.TypeDesc.int Go.IntKind.i64) (cmpT Tryd.prog) false t0 a1).bind fun a2 =>
 (binA .rem (Go.TypeDesc.int Go.IntKind.i64) (cmpT Tryd.prog) true a2 (.int .i64 64)).bind fun a3 =>
 (binA .neq (Go.TypeDesc.int Go.IntKind.i64) (cmpT Tryd.prog) true a3 (.int .i64 56)).bind fun a4 =>
 condK a4
 (litK 1 1 (.int .u8 0) [(0, (.int .u8 0))] H fun a5 H5 E5 =>
 appK 1 1 t3 a5 H5 fun a6 H6 E6 =>
 ref01_Tail_J2 n t0 a6 H6 ((E6 ++ (E5 ++ [])) ++ E))
 (mkK 1 1 (.int .u8 0) (.int .i64 8) (.int .i64 8) H fun a7 H7 E7 =>
 (cvI .u64 t0).bind fun a8 =>
 (binA .mul (Go.TypeDesc.int Go.IntKind.u64) (cmpT Tryd.prog) true (.int .u64 8) a8).bind fun a9 =>
 ref01_Tail_J7 n t3 a7 a9 (.int .i64 7) H7 (E7 ++ E))) = some r) : ref01_Tail_J2 n t0 t3 H E = some r :=
 loop_step' (by kernel_rfl) hh
theorem ref01_Tail_J7_of {r : R3} {n : Nat} {t3 t4 t5 t6 : AV} {H : List AObj} {E : List Nat} (hh : (
 (binA .geq (Go.TypeDesc.int Go.IntKind.i64) (cmpT Tryd.prog) true t6 (.int .i64 0)).bind fun a1 =>
 condK a1
 ((binA .rem (Go.TypeDesc.int Go.IntKind.u64) (cmpT Tryd.prog) true t5 (.int .u64 256)).bind fun a2 =>
 (cvI .u8 a2).bind fun a3 =>
 (ixA 1 t4 t6 H).bind fun a4 =>
 stoK 1 a4 a3 H fun H5 E5 =>
 (binA .quo (Go.TypeDesc.int Go.IntKind.u64) (cmpT Tryd.prog) true t5 (.int .u64 256)).bind fun a6 =>
 (binA .sub (Go.TypeDesc.int Go.IntKind.i64) (cmpT Tryd.prog) true t6 (.int .i64 1)).bind fun a7 =>
 ref01_Tail_J7 n t3 t4 a6 a7 H5 ((E5 ++ []) ++ E))
 (appK 1 1 t3 t4 H fun a8 H8 E8 =>
 endB false false n a8 H8 (E8 ++ E))) = some r) : ref01_Tail_J7 n t3 t4 t5 t6 H E = some r :=
 loop_step' (by kernel_rfl) hh
theorem ref01_Tail_of {r : R3} {x0 : AV} {H : List AObj} (hh : (fun n => (
 rawK 1 1 (.int .u8 0) [(0, (.int .u8 128))] H fun a1 H1 E1 =>
 ref01_Tail_J2 n x0 a1 H1 (E1 ++ []))) (List.length H) = some r) : EV C n_ref01_Tail [x0] H = some r :=
 EV_of_fnK' (fn := Tryd.f103) (by kernel_rfl) (by kernel_rfl) (by kernel_rfl) hh
/-! ### 119 heartwood/heartwoodref01.turn -/
theorem ref01_turn_of {r : R3} {x0 x1 : AV} {H : List AObj} (hh : (fun n => (
 (binA .shr (Go.TypeDesc.int Go.IntKind.u32) (cmpT Tryd.prog) false x0 x1).bind fun a1 =>
 (binA .sub (Go.TypeDesc.int Go.IntKind.i64) (cmpT Tryd.prog) true (.int .i64 32) x1).bind fun a2 =>
 (binA .shl (Go.TypeDesc.int Go.IntKind.u32) (cmpT Tryd.prog) false x0 a2).bind fun a3 =>
 (binA .or (Go.TypeDesc.int Go.IntKind.u32) (cmpT Tryd.prog) false a1 a3).bind fun a4 =>
 endB false false n a4 H [])) (List.length H) = some r) : EV C n_ref01_turn [x0, x1] H = some r :=
 EV_of_fnK' (fn := Tryd.f119) (by kernel_rfl) (by kernel_rfl) (by kernel_rfl) hh
/-! ### 115 heartwood/heartwoodref01.Words -/
noncomputable def ref01_Words_J3 (n : Nat) (t0 t3 t4 : AV) (H : List AObj) (E : List Nat) : Option R3 :=
 loopK Tryd.prog C.G (EV C) (C.hint 115) Tryd.f115 (cAt (bodyOf Tryd.f115) [1, 1, 0, 1, 0, 0]) (kAt Tryd.prog C.G (EV C) (C.hint 115) Tryd.f115 (bodyOf Tryd.f115) [1, 1, 0, 1, 0] [] (endK Tryd.prog (C.hint 115) Tryd.f115 n))
 ⟨pat 96 [(0, t0), (3, t3), (4, t4)], H, E⟩
noncomputable def ref01_Words_J7 (n : Nat) (Ha : List AObj) (Ea : List Nat) (t0 t3 t4 t5 t6 : AV) (H : List AObj) (E : List Nat) : Option R3 :=
 loopK Tryd.prog C.G (EV C) (C.hint 115) Tryd.f115 (cAt (bodyOf Tryd.f115) [1, 1, 0, 1, 0, 0, 1, 0, 0, 1, 0, 1, 0, 0]) (kAt Tryd.prog C.G (EV C) (C.hint 115) Tryd.f115 (bodyOf Tryd.f115) [1, 1, 0, 1, 0, 0, 1, 0, 0, 1, 0, 1, 0] [(Ha, Ea)] (endK Tryd.prog (C.hint 115) Tryd.f115 n))
 ⟨pat 96 [(0, t0), (3, t3), (4, t4), (5, t5), (6, t6)], H, E⟩
noncomputable def ref01_Words_J12 (n : Nat) (t3 t7 : AV) (H : List AObj) (E : List Nat) : Option R3 :=
 loopK Tryd.prog C.G (EV C) (C.hint 115) Tryd.f115 (cAt (bodyOf Tryd.f115) [1, 1, 1, 0, 1, 0, 0]) (kAt Tryd.prog C.G (EV C) (C.hint 115) Tryd.f115 (bodyOf Tryd.f115) [1, 1, 1, 0, 1, 0] [] (endK Tryd.prog (C.hint 115) Tryd.f115 n))
 ⟨pat 96 [(3, t3), (7, t7)], H, E⟩
theorem ref01_Words_J3_of {r : R3} {n : Nat} {t0 t3 t4 : AV} {H : List AObj} {E : List Nat} (hh : (
 (binA .lss (Go.TypeDesc.int Go.IntKind.i64) (cmpT Tryd.prog) true t4 (.int .i64 16)).bind fun a1 =>
 condK a1
 (ref01_Words_J7 n H E t0 t3 t4 (.int .u32 0) (.int .i64 0) H [])
 (ref01_Words_J12 n t3 (.int .i64 16) H E)) = some r) : ref01_Words_J3 n t0 t3 t4 H E = some r :=
 loop_step' (by kernel_rfl) hh
theorem ref01_Words_J7_of {r : R3} {n : Nat} {Ha : List AObj} {Ea : List Nat} {t0 t3 t4 t5 t6 : AV} {H : List AObj} {E : List Nat} (hh : (
 (binA .lss (Go.TypeDesc.int Go.IntKind.i64) (cmpT Tryd.prog) true t6 (.int .i64 4)).bind fun a1 =>
 condK a1
 ((binA .mul (Go.TypeDesc.int Go.IntKind.u32) (cmpT Tryd.prog) true (.int .u32 256) t5).bind fun a2 =>
 (binA .mul (Go.TypeDesc.int Go.IntKind.i64) (cmpT Tryd.prog) true (.int .i64 4) t4).bind fun a3 =>
 (binA .add (Go.TypeDesc.int Go.IntKind.i64) (cmpT Tryd.prog) false a3 t6).bind fun a4 =>
 (ixA 1 t0 a4 H).bind fun a5 =>
 (loadA false 1 a5 H).bind fun a6 =>
 (cvI .u32 a6).bind fun a7 =>
 (binA .add (Go.TypeDesc.int Go.IntKind.u32) (cmpT Tryd.prog) false a2 a7).bind fun a8 =>
 (binA .add (Go.TypeDesc.int Go.IntKind.i64) (cmpT Tryd.prog) true t6 (.int .i64 1)).bind fun a9 =>
 ref01_Words_J7 n Ha Ea t0 t3 t4 a8 a9 H E)
 (litK 1 1 (.int .u32 0) [(0, t5)] H fun a10 H10 E10 =>
 appK 1 4 t3 a10 H10 fun a11 H11 E11 =>
 (binA .add (Go.TypeDesc.int Go.IntKind.i64) (cmpT Tryd.prog) true t4 (.int .i64 1)).bind fun a12 =>
 ref01_Words_J3 n t0 a11 a12 H11 ((E11 ++ (E10 ++ E)) ++ Ea))) = some r) : ref01_Words_J7 n Ha Ea t0 t3 t4 t5 t6 H E = some r :=
 loop_step' (by kernel_rfl) hh
theorem ref01_Words_J12_of {r : R3} {n : Nat} {t3 t7 : AV} {H : List AObj} {E : List Nat} (hh : (
 (binA .lss (Go.TypeDesc.int Go.IntKind.i64) (cmpT Tryd.prog) true t7 (.int .i64 64)).bind fun a1 =>
 condK a1
 ((binA .sub (Go.TypeDesc.int Go.IntKind.i64) (cmpT Tryd.prog) true t7 (.int .i64 15)).bind fun a2 =>
 (ixA 1 t3 a2 H).bind fun a3 =>
 (loadA false 1 a3 H).bind fun a4 =>
 (callD (EV C) n_ref01_turn [a4, (.int .i64 7)] H).bind fun a5 =>
 (binA .sub (Go.TypeDesc.int Go.IntKind.i64) (cmpT Tryd.prog) true t7 (.int .i64 15)).bind fun a6 =>
 (ixA 1 t3 a6 H).bind fun a7 =>
 (loadA false 1 a7 H).bind fun a8 =>
 (callD (EV C) n_ref01_turn [a8, (.int .i64 18)] H).bind fun a9 =>
 (binA .xor (Go.TypeDesc.int Go.IntKind.u32) (cmpT Tryd.prog) false a5 a9).bind fun a10 =>
 (binA .sub (Go.TypeDesc.int Go.IntKind.i64) (cmpT Tryd.prog) true t7 (.int .i64 15)).bind fun a11 =>
 (ixA 1 t3 a11 H).bind fun a12 =>
 (loadA false 1 a12 H).bind fun a13 =>
 (binA .shr (Go.TypeDesc.int Go.IntKind.u32) (cmpT Tryd.prog) true a13 (.int .u64 3)).bind fun a14 =>
 (binA .xor (Go.TypeDesc.int Go.IntKind.u32) (cmpT Tryd.prog) false a10 a14).bind fun a15 =>
 (binA .sub (Go.TypeDesc.int Go.IntKind.i64) (cmpT Tryd.prog) true t7 (.int .i64 2)).bind fun a16 =>
 (ixA 1 t3 a16 H).bind fun a17 =>
 (loadA false 1 a17 H).bind fun a18 =>
 (callD (EV C) n_ref01_turn [a18, (.int .i64 17)] H).bind fun a19 =>
 (binA .sub (Go.TypeDesc.int Go.IntKind.i64) (cmpT Tryd.prog) true t7 (.int .i64 2)).bind fun a20 =>
 (ixA 1 t3 a20 H).bind fun a21 =>
 (loadA false 1 a21 H).bind fun a22 =>
 (callD (EV C) n_ref01_turn [a22, (.int .i64 19)] H).bind fun a23 =>
 (binA .xor (Go.TypeDesc.int Go.IntKind.u32) (cmpT Tryd.prog) false a19 a23).bind fun a24 =>
 (binA .sub (Go.TypeDesc.int Go.IntKind.i64) (cmpT Tryd.prog) true t7 (.int .i64 2)).bind fun a25 =>
 (ixA 1 t3 a25 H).bind fun a26 =>
 (loadA false 1 a26 H).bind fun a27 =>
 (binA .shr (Go.TypeDesc.int Go.IntKind.u32) (cmpT Tryd.prog) true a27 (.int .u64 10)).bind fun a28 =>
 (binA .xor (Go.TypeDesc.int Go.IntKind.u32) (cmpT Tryd.prog) false a24 a28).bind fun a29 =>
 (binA .sub (Go.TypeDesc.int Go.IntKind.i64) (cmpT Tryd.prog) true t7 (.int .i64 16)).bind fun a30 =>
 (ixA 1 t3 a30 H).bind fun a31 =>
 (loadA false 1 a31 H).bind fun a32 =>
 (binA .add (Go.TypeDesc.int Go.IntKind.u32) (cmpT Tryd.prog) false a32 a15).bind fun a33 =>
 (binA .sub (Go.TypeDesc.int Go.IntKind.i64) (cmpT Tryd.prog) true t7 (.int .i64 7)).bind fun a34 =>
 (ixA 1 t3 a34 H).bind fun a35 =>
 (loadA false 1 a35 H).bind fun a36 =>
 (binA .add (Go.TypeDesc.int Go.IntKind.u32) (cmpT Tryd.prog) false a33 a36).bind fun a37 =>
 (binA .add (Go.TypeDesc.int Go.IntKind.u32) (cmpT Tryd.prog) false a37 a29).bind fun a38 =>
 (litD 1 1 (.int .u32 0) [(0, a38)] H).bind fun a39 =>
 appK 1 4 t3 a39 H fun a40 H40 E40 =>
 (binA .add (Go.TypeDesc.int Go.IntKind.i64) (cmpT Tryd.prog) true t7 (.int .i64 1)).bind fun a41 =>
 ref01_Words_J12 n a40 a41 H40 ((E40 ++ []) ++ E))
 (endB false false n t3 H E)) = some r) : ref01_Words_J12 n t3 t7 H E = some r :=
 loop_step' (by kernel_rfl) hh
theorem ref01_Words_of {r : R3} {x0 : AV} {H : List AObj} (hh : (fun n => (
 ref01_Words_J3 n x0 (.slc (List.length H) 0 0 0) (.int .i64 0) (H ++ [.vrow]) [])) (List.length H) = some r) : EV C n_ref01_Words [x0] H = some r :=
 EV_of_fnK' (fn := Tryd.f115) (by kernel_rfl) (by kernel_rfl) (by kernel_rfl) hh
/-! ### 116 heartwood/heartwoodref01.Round -/
theorem ref01_Round_of {r : R3} {x0 x1 x2 : AV} {H : List AObj} (hh : (fun n => (
 newK x0 H fun a1 H1 E1 =>
 newK (.agg [(.int .u32 0), (.int .u32 0), (.int .u32 0), (.int .u32 0), (.int .u32 0), (.int .u32 0), (.int .u32 0), (.int .u32 0)]) H1 fun a2 H2 E2 =>
 (arA 8 1 a1 (.int .i64 0)).bind fun a3 =>
 (loadA false 1 a3 H2).bind fun a4 =>
 (arA 8 1 a1 (.int .i64 4)).bind fun a5 =>
 (loadA false 1 a5 H2).bind fun a6 =>
 (arA 8 1 a1 (.int .i64 7)).bind fun a7 =>
 (loadA false 1 a7 H2).bind fun a8 =>
 (callD (EV C) n_ref01_turn [a6, (.int .i64 6)] H2).bind fun a9 =>
 (callD (EV C) n_ref01_turn [a6, (.int .i64 11)] H2).bind fun a10 =>
 (binA .xor (Go.TypeDesc.int Go.IntKind.u32) (cmpT Tryd.prog) false a9 a10).bind fun a11 =>
 (callD (EV C) n_ref01_turn [a6, (.int .i64 25)] H2).bind fun a12 =>
 (binA .xor (Go.TypeDesc.int Go.IntKind.u32) (cmpT Tryd.prog) false a11 a12).bind fun a13 =>
 (binA .add (Go.TypeDesc.int Go.IntKind.u32) (cmpT Tryd.prog) false a8 a13).bind fun a14 =>
 (arA 8 1 a1 (.int .i64 5)).bind fun a15 =>
 (loadA false 1 a15 H2).bind fun a16 =>
 (binA .and (Go.TypeDesc.int Go.IntKind.u32) (cmpT Tryd.prog) false a6 a16).bind fun a17 =>
 (unA .xor a6).bind fun a18 =>
 (arA 8 1 a1 (.int .i64 6)).bind fun a19 =>
 (loadA false 1 a19 H2).bind fun a20 =>
 (binA .and (Go.TypeDesc.int Go.IntKind.u32) (cmpT Tryd.prog) false a18 a20).bind fun a21 =>
 (binA .xor (Go.TypeDesc.int Go.IntKind.u32) (cmpT Tryd.prog) false a17 a21).bind fun a22 =>
 (binA .add (Go.TypeDesc.int Go.IntKind.u32) (cmpT Tryd.prog) false a14 a22).bind fun a23 =>
 (binA .add (Go.TypeDesc.int Go.IntKind.u32) (cmpT Tryd.prog) false a23 x1).bind fun a24 =>
 (binA .add (Go.TypeDesc.int Go.IntKind.u32) (cmpT Tryd.prog) false a24 x2).bind fun a25 =>
 (callD (EV C) n_ref01_turn [a4, (.int .i64 2)] H2).bind fun a26 =>
 (callD (EV C) n_ref01_turn [a4, (.int .i64 13)] H2).bind fun a27 =>
 (binA .xor (Go.TypeDesc.int Go.IntKind.u32) (cmpT Tryd.prog) false a26 a27).bind fun a28 =>
 (callD (EV C) n_ref01_turn [a4, (.int .i64 22)] H2).bind fun a29 =>
 (binA .xor (Go.TypeDesc.int Go.IntKind.u32) (cmpT Tryd.prog) false a28 a29).bind fun a30 =>
 (arA 8 1 a1 (.int .i64 1)).bind fun a31 =>
 (loadA false 1 a31 H2).bind fun a32 =>
 (binA .and (Go.TypeDesc.int Go.IntKind.u32) (cmpT Tryd.prog) false a4 a32).bind fun a33 =>
 (arA 8 1 a1 (.int .i64 2)).bind fun a34 =>
 (loadA false 1 a34 H2).bind fun a35 =>
 (binA .and (Go.TypeDesc.int Go.IntKind.u32) (cmpT Tryd.prog) false a4 a35).bind fun a36 =>
 (binA .xor (Go.TypeDesc.int Go.IntKind.u32) (cmpT Tryd.prog) false a33 a36).bind fun a37 =>
 (arA 8 1 a1 (.int .i64 1)).bind fun a38 =>
 (loadA false 1 a38 H2).bind fun a39 =>
 (arA 8 1 a1 (.int .i64 2)).bind fun a40 =>
 (loadA false 1 a40 H2).bind fun a41 =>
 (binA .and (Go.TypeDesc.int Go.IntKind.u32) (cmpT Tryd.prog) false a39 a41).bind fun a42 =>
 (binA .xor (Go.TypeDesc.int Go.IntKind.u32) (cmpT Tryd.prog) false a37 a42).bind fun a43 =>
 (binA .add (Go.TypeDesc.int Go.IntKind.u32) (cmpT Tryd.prog) false a30 a43).bind fun a44 =>
 (binA .add (Go.TypeDesc.int Go.IntKind.u32) (cmpT Tryd.prog) false a25 a44).bind fun a45 =>
 (arA 8 1 a1 (.int .i64 1)).bind fun a46 =>
 (loadA false 1 a46 H2).bind fun a47 =>
 (arA 8 1 a1 (.int .i64 2)).bind fun a48 =>
 (loadA false 1 a48 H2).bind fun a49 =>
 (arA 8 1 a1 (.int .i64 3)).bind fun a50 =>
 (loadA false 1 a50 H2).bind fun a51 =>
 (binA .add (Go.TypeDesc.int Go.IntKind.u32) (cmpT Tryd.prog) false a51 a25).bind fun a52 =>
 (arA 8 1 a1 (.int .i64 5)).bind fun a53 =>
 (loadA false 1 a53 H2).bind fun a54 =>
 (arA 8 1 a1 (.int .i64 6)).bind fun a55 =>
 (loadA false 1 a55 H2).bind fun a56 =>
 (fillB (AV.cells (.agg [(.int .u32 0), (.int .u32 0), (.int .u32 0), (.int .u32 0), (.int .u32 0), (.int .u32 0), (.int .u32 0), (.int .u32 0)])) [(0, 1, a45), (1, 1, a4), (2, 1, a47), (3, 1, a49), (4, 1, a52), (5, 1, a6), (6, 1, a54), (7, 1, a56)]).bind fun c57 =>
 stoK 8 a2 (.agg c57) H2 fun H58 E58 =>
 (loadA true 8 a2 H58).bind fun a59 =>
 endB false false n a59 H58 (E58 ++ (E2 ++ (E1 ++ []))))) (List.length H) = some r) : EV C n_ref01_Round [x0, x1, x2] H = some r :=
 EV_of_fnK' (fn := Tryd.f116) (by kernel_rfl) (by kernel_rfl) (by kernel_rfl) hh
/-! ### 104 (heartwood/heartwoodref01.Tables).Step -/
noncomputable def ref01_Tables_Step_J4 (n : Nat) (t3 t4 t6 t7 t8 t9 : AV) (H : List AObj) (E : List Nat) : Option R3 :=
 loopK Tryd.prog C.G (EV C) (C.hint 104) Tryd.f104 (cAt (bodyOf Tryd.f104) [1, 1, 1, 0, 1, 0, 0]) (kAt Tryd.prog C.G (EV C) (C.hint 104) Tryd.f104 (bodyOf Tryd.f104) [1, 1, 1, 0, 1, 0] [] (endK Tryd.prog (C.hint 104) Tryd.f104 n))
 ⟨pat 43 [(3, t3), (4, t4), (6, t6), (7, t7), (8, t8), (9, t9)], H, E⟩
noncomputable def ref01_Tables_Step_J8 (n : Nat) (t4 t6 t8 t10 : AV) (H : List AObj) (E : List Nat) : Option R3 :=
 loopK Tryd.prog C.G (EV C) (C.hint 104) Tryd.f104 (cAt (bodyOf Tryd.f104) [1, 1, 1, 1, 0, 1, 0, 0]) (kAt Tryd.prog C.G (EV C) (C.hint 104) Tryd.f104 (bodyOf Tryd.f104) [1, 1, 1, 1, 0, 1, 0] [] (endK Tryd.prog (C.hint 104) Tryd.f104 n))
 ⟨pat 43 [(4, t4), (6, t6), (8, t8), (10, t10)], H, E⟩
theorem ref01_Tables_Step_J4_of {r : R3} {n : Nat} {t3 t4 t6 t7 t8 t9 : AV} {H : List AObj} {E : List Nat} (hh : (
 (binA .lss (Go.TypeDesc.int Go.IntKind.i64) (cmpT Tryd.prog) true t9 (.int .i64 64)).bind fun a1 =>
 condK a1
 ((loadA true 8 t8 H).bind fun a2 =>
 (offA t3 0).bind fun a3 =>
 (loadA false 1 a3 H).bind fun a4 =>
 (ixA 1 a4 t9 H).bind fun a5 =>
 (loadA false 1 a5 H).bind fun a6 =>
 (ixA 1 t7 t9 H).bind fun a7 =>
 (loadA false 1 a7 H).bind fun a8 =>
 (callD (EV C) n_ref01_Round [a2, a6, a8] H).bind fun a9 =>
 stoK 8 t8 a9 H fun H10 E10 =>
 (binA .add (Go.TypeDesc.int Go.IntKind.i64) (cmpT Tryd.prog) true t9 (.int .i64 1)).bind fun a11 =>
 ref01_Tables_Step_J4 n t3 t4 t6 t7 t8 a11 H10 ((E10 ++ []) ++ E))
 (ref01_Tables_Step_J8 n t4 t6 t8 (.int .i64 0) H E)) = some r) : ref01_Tables_Step_J4 n t3 t4 t6 t7 t8 t9 H E = some r :=
 loop_step' (by kernel_rfl) hh
theorem ref01_Tables_Step_J8_of {r : R3} {n : Nat} {t4 t6 t8 t10 : AV} {H : List AObj} {E : List Nat} (hh : (
 (binA .lss (Go.TypeDesc.int Go.IntKind.i64) (cmpT Tryd.prog) true t10 (.int .i64 8)).bind fun a1 =>
 condK a1
 ((arA 8 1 t8 t10).bind fun a2 =>
 (loadA false 1 a2 H).bind fun a3 =>
 (arA 8 1 t4 t10).bind fun a4 =>
 (loadA false 1 a4 H).bind fun a5 =>
 (binA .add (Go.TypeDesc.int Go.IntKind.u32) (cmpT Tryd.prog) false a3 a5).bind fun a6 =>
 (arA 8 1 t8 t10).bind fun a7 =>
 stoK 1 a7 a6 H fun H8 E8 =>
 (binA .add (Go.TypeDesc.int Go.IntKind.i64) (cmpT Tryd.prog) true t10 (.int .i64 1)).bind fun a9 =>
 ref01_Tables_Step_J8 n t4 t6 t8 a9 H8 ((E8 ++ []) ++ E))
 ((loadA true 8 t8 H).bind fun a10 =>
 stoK 8 t6 a10 H fun H11 E11 =>
 (loadA true 8 t6 H11).bind fun a12 =>
 endB false false n a12 H11 (E11 ++ E))) = some r) : ref01_Tables_Step_J8 n t4 t6 t8 t10 H E = some r :=
 loop_step' (by kernel_rfl) hh
theorem ref01_Tables_Step_of {r : R3} {x0 x1 x2 : AV} {H : List AObj} (hh : (fun n => (
 newK x0 H fun a1 H1 E1 =>
 newK x1 H1 fun a2 H2 E2 =>
 newK (.agg [(.int .u32 0), (.int .u32 0), (.int .u32 0), (.int .u32 0), (.int .u32 0), (.int .u32 0), (.int .u32 0), (.int .u32 0)]) H2 fun a3 H3 E3 =>
 callK (EV C) false n_ref01_Words [x2] H3 fun a4 H4 E4 =>
 (loadA true 8 a2 H4).bind fun a5 =>
 newK (.agg [(.int .u32 0), (.int .u32 0), (.int .u32 0), (.int .u32 0), (.int .u32 0), (.int .u32 0), (.int .u32 0), (.int .u32 0)]) H4 fun a6 H6 E6 =>
 stoK 8 a6 a5 H6 fun H7 E7 =>
 ref01_Tables_Step_J4 n a1 a2 a3 a4 a6 (.int .i64 0) H7 (E7 ++ (E6 ++ (E4 ++ (E3 ++ (E2 ++ (E1 ++ [])))))))) (List.length H) = some r) : EV C n_ref01_Tables_Step [x0, x1, x2] H = some r :=
 EV_of_fnK' (fn := Tryd.f104) (by kernel_rfl) (by kernel_rfl) (by kernel_rfl) hh
/-! ### 88 (heartwood/heartwoodref01.Tables).Sum -/
noncomputable def ref01_Tables_Sum_J5 (n : Nat) (t2 t5 t6 t7 : AV) (H : List AObj) (E : List Nat) : Option R3 :=
 loopK Tryd.prog C.G (EV C) (C.hint 88) Tryd.f88 (cAt (bodyOf Tryd.f88) [1, 1, 1, 1, 0, 1, 0, 0]) (kAt Tryd.prog C.G (EV C) (C.hint 88) Tryd.f88 (bodyOf Tryd.f88) [1, 1, 1, 1, 0, 1, 0] [] (endK Tryd.prog (C.hint 88) Tryd.f88 n))
 ⟨pat 53 [(2, t2), (5, t5), (6, t6), (7, t7)], H, E⟩
noncomputable def ref01_Tables_Sum_J10 (n : Nat) (t6 t8 t9 : AV) (H : List AObj) (E : List Nat) : Option R3 :=
 loopK Tryd.prog C.G (EV C) (C.hint 88) Tryd.f88 (cAt (bodyOf Tryd.f88) [1, 1, 1, 1, 1, 1, 0, 1, 0, 0]) (kAt Tryd.prog C.G (EV C) (C.hint 88) Tryd.f88 (bodyOf Tryd.f88) [1, 1, 1, 1, 1, 1, 0, 1, 0] [] (endK Tryd.prog (C.hint 88) Tryd.f88 n))
 ⟨pat 53 [(6, t6), (8, t8), (9, t9)], H, E⟩
theorem ref01_Tables_Sum_J5_of {r : R3} {n : Nat} {t2 t5 t6 t7 : AV} {H : List AObj} {E : List Nat} (hh : (
 (lenV t5 H).bind fun a1 =>
 (binA .lss (Go.TypeDesc.int Go.IntKind.i64) (cmpT Tryd.prog) false t7 a1).bind fun a2 =>
 condK a2
 ((loadA true 9 t2 H).bind fun a3 =>
 (loadA true 8 t6 H).bind fun a4 =>
 (binA .add (Go.TypeDesc.int Go.IntKind.i64) (cmpT Tryd.prog) true t7 (.int .i64 64)).bind fun a5 =>
 (cutA 1 t5 (some t7) (some a5) none H).bind fun a6 =>
 (callD (EV C) n_ref01_Tables_Step [a3, a4, a6] H).bind fun a7 =>
 stoK 8 t6 a7 H fun H8 E8 =>
 (binA .add (Go.TypeDesc.int Go.IntKind.i64) (cmpT Tryd.prog) true t7 (.int .i64 64)).bind fun a9 =>
 ref01_Tables_Sum_J5 n t2 t5 t6 a9 H8 ((E8 ++ []) ++ E))
 (mkK 1 1 (.int .u8 0) (.int .i64 32) (.int .i64 32) H fun a10 H10 E10 =>
 ref01_Tables_Sum_J10 n t6 a10 (.int .i64 0) H10 (E10 ++ E))) = some r) : ref01_Tables_Sum_J5 n t2 t5 t6 t7 H E = some r :=
 loop_step' (by kernel_rfl) hh
theorem ref01_Tables_Sum_J10_of {r : R3} {n : Nat} {t6 t8 t9 : AV} {H : List AObj} {E : List Nat} (hh : (
 (binA .lss (Go.TypeDesc.int Go.IntKind.i64) (cmpT Tryd.prog) true t9 (.int .i64 32)).bind fun a1 =>
 condK a1
 ((binA .quo (Go.TypeDesc.int Go.IntKind.i64) (cmpT Tryd.prog) true t9 (.int .i64 4)).bind fun a2 =>
 (arA 8 1 t6 a2).bind fun a3 =>
 (loadA false 1 a3 H).bind fun a4 =>
 (binA .rem (Go.TypeDesc.int Go.IntKind.i64) (cmpT Tryd.prog) true t9 (.int .i64 4)).bind fun a5 =>
 (binA .mul (Go.TypeDesc.int Go.IntKind.i64) (cmpT Tryd.prog) true (.int .i64 8) a5).bind fun a6 =>
 (binA .sub (Go.TypeDesc.int Go.IntKind.i64) (cmpT Tryd.prog) true (.int .i64 24) a6).bind fun a7 =>
 (binA .shr (Go.TypeDesc.int Go.IntKind.u32) (cmpT Tryd.prog) false a4 a7).bind fun a8 =>
 (cvI .u8 a8).bind fun a9 =>
 (ixA 1 t8 t9 H).bind fun a10 =>
 stoK 1 a10 a9 H fun H11 E11 =>
 (binA .add (Go.TypeDesc.int Go.IntKind.i64) (cmpT Tryd.prog) true t9 (.int .i64 1)).bind fun a12 =>
 ref01_Tables_Sum_J10 n t6 t8 a12 H11 ((E11 ++ []) ++ E))
 (endB false false n t8 H E)) = some r) : ref01_Tables_Sum_J10 n t6 t8 t9 H E = some r :=
 loop_step' (by kernel_rfl) hh
theorem ref01_Tables_Sum_of {r : R3} {x0 x1 : AV} {H : List AObj} (hh : (fun n => (
 newK x0 H fun a1 H1 E1 =>
 rawK 1 0 (.int .u8 0) [] H1 fun a2 H2 E2 =>
 appK 1 1 a2 x1 H2 fun a3 H3 E3 =>
 (lenV x1 H3).bind fun a4 =>
 callK (EV C) false n_ref01_Tail [a4] H3 fun a5 H5 E5 =>
 appK 1 1 a3 a5 H5 fun a6 H6 E6 =>
 (offA a1 1).bind fun a7 =>
 (loadA true 8 a7 H6).bind fun a8 =>
 newK (.agg [(.int .u32 0), (.int .u32 0), (.int .u32 0), (.int .u32 0), (.int .u32 0), (.int .u32 0), (.int .u32 0), (.int .u32 0)]) H6 fun a9 H9 E9 =>
 stoK 8 a9 a8 H9 fun H10 E10 =>
 ref01_Tables_Sum_J5 n a1 a6 a9 (.int .i64 0) H10 (E10 ++ (E9 ++ (E6 ++ (E5 ++ (E3 ++ (E2 ++ (E1 ++ []))))))))) (List.length H) = some r) : EV C n_ref01_Tables_Sum [x0, x1] H = some r :=
 EV_of_fnK' (fn := Tryd.f88) (by kernel_rfl) (by kernel_rfl) (by kernel_rfl) hh
end Go.Pm
