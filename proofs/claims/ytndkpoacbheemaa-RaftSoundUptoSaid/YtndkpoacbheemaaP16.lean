/- A part of the proof: what the functions of the program answer, as plain lists and numbers. -/
import Derived.Test.YtndkpoacbheemaaP8
namespace Go.Pm
open Go.Proofs
set_option linter.unusedVariables false
set_option maxRecDepth 100000
noncomputable def IndexFunc_api_Entry_J2 (n : Nat) (t0 t1 t7 t8 : AV) (H : List AObj) (E : List Nat) : Option R3 :=
 loopK Try.prog C.G (EV C) (C.hint 97) Try.f97 (cAt (bodyOf Try.f97) [1, 0, 1, 0, 0]) (kAt Try.prog C.G (EV C) (C.hint 97) Try.f97 (bodyOf Try.f97) [1, 0, 1, 0] [] (endK Try.prog (C.hint 97) Try.f97 n))
 ⟨pat 19 [(0, t0), (1, t1), (7, t7), (8, t8)], H, E⟩
theorem IndexFunc_api_Entry_J2_of {r : R3} {n : Nat} {t0 t1 t7 t8 : AV} {H : List AObj} {E : List Nat} (hh : (
 (binA .lss (Go.TypeDesc.int Go.IntKind.i64) (cmpT Try.prog) false t8 t7).bind fun a1 =>
 condK a1
 ((ixA 3 t0 t8 H).bind fun a2 =>
 (loadA true 3 a2 H).bind fun a3 =>
 valK Try.prog (EV C) false t1 [a3] H fun a4 H4 E4 =>
 condK a4
 (endB false false n t8 H4 ((E4 ++ []) ++ E))
 ((binA .add (Go.TypeDesc.int Go.IntKind.i64) (cmpT Try.prog) true t8 (.int .i64 1)).bind fun a5 =>
 IndexFunc_api_Entry_J2 n t0 t1 t7 a5 H4 ((E4 ++ []) ++ E)))
 (endB false false n (.int .i64 (-1)) H E)) = some r) : IndexFunc_api_Entry_J2 n t0 t1 t7 t8 H E = some r :=
 loop_step' (by kernel_rfl) hh
theorem IndexFunc_api_Entry_of {r : R3} {x0 x1 : AV} {H : List AObj} (hh : (fun n => (
 (lenV x0 H).bind fun a1 =>
 IndexFunc_api_Entry_J2 n x0 x1 a1 (.int .i64 0) H [])) (List.length H) = some r) : EV C n_IndexFunc_api_Entry [x0, x1] H = some r :=
 EV_of_fnK' (fn := Try.f97) (by kernel_rfl) (by kernel_rfl) (by kernel_rfl) hh
noncomputable def IndexFunc_int_J2 (n : Nat) (t0 t1 t7 t8 : AV) (H : List AObj) (E : List Nat) : Option R3 :=
 loopK Try.prog C.G (EV C) (C.hint 98) Try.f98 (cAt (bodyOf Try.f98) [1, 0, 1, 0, 0]) (kAt Try.prog C.G (EV C) (C.hint 98) Try.f98 (bodyOf Try.f98) [1, 0, 1, 0] [] (endK Try.prog (C.hint 98) Try.f98 n))
 ⟨pat 19 [(0, t0), (1, t1), (7, t7), (8, t8)], H, E⟩
theorem IndexFunc_int_J2_of {r : R3} {n : Nat} {t0 t1 t7 t8 : AV} {H : List AObj} {E : List Nat} (hh : (
 (binA .lss (Go.TypeDesc.int Go.IntKind.i64) (cmpT Try.prog) false t8 t7).bind fun a1 =>
 condK a1
 ((ixA 1 t0 t8 H).bind fun a2 =>
 (loadA false 1 a2 H).bind fun a3 =>
 valK Try.prog (EV C) false t1 [a3] H fun a4 H4 E4 =>
 condK a4
 (endB false false n t8 H4 ((E4 ++ []) ++ E))
 ((binA .add (Go.TypeDesc.int Go.IntKind.i64) (cmpT Try.prog) true t8 (.int .i64 1)).bind fun a5 =>
 IndexFunc_int_J2 n t0 t1 t7 a5 H4 ((E4 ++ []) ++ E)))
 (endB false false n (.int .i64 (-1)) H E)) = some r) : IndexFunc_int_J2 n t0 t1 t7 t8 H E = some r :=
 loop_step' (by kernel_rfl) hh
theorem IndexFunc_int_of {r : R3} {x0 x1 : AV} {H : List AObj} (hh : (fun n => (
 (lenV x0 H).bind fun a1 =>
 IndexFunc_int_J2 n x0 x1 a1 (.int .i64 0) H [])) (List.length H) = some r) : EV C n_IndexFunc_int [x0, x1] H = some r :=
 EV_of_fnK' (fn := Try.f98) (by kernel_rfl) (by kernel_rfl) (by kernel_rfl) hh
theorem Grow_api_Entry_of {r : R3} {x0 x1 : AV} {H : List AObj} (hh : (fun n => (
 (binA .lss (Go.TypeDesc.int Go.IntKind.i64) (cmpT Try.prog) true x1 (.int .i64 0)).bind fun a1 =>
 condK a1
 (none)
 ((capA x0).bind fun a2 =>
 (lenV x0 H).bind fun a3 =>
 (binA .sub (Go.TypeDesc.int Go.IntKind.i64) (cmpT Try.prog) false a2 a3).bind fun a4 =>
 (binA .sub (Go.TypeDesc.int Go.IntKind.i64) (cmpT Try.prog) false x1 a4).bind fun a5 =>
 (binA .gtr (Go.TypeDesc.int Go.IntKind.i64) (cmpT Try.prog) true a5 (.int .i64 0)).bind fun a6 =>
 condK a6
 ((capA x0).bind fun a7 =>
 (cutA 3 x0 none (some a7) none H).bind fun a8 =>
 zapK 3 40 (.agg [(.int .i64 0), (.int .i64 0), .nils]) a8 a5 H fun a9 H9 E9 =>
 (lenV x0 H9).bind fun a10 =>
 (cutA 3 a9 none (some a10) none H9).bind fun a11 =>
 trmK a11 H9 [] fun a12 H12 E12 =>
 endB true true n a12 H12 (E12 ++ (E9 ++ [])))
 (endB true true n x0 H [])))) (List.length H) = some r) : EV C n_Grow_api_Entry [x0, x1] H = some r :=
 EV_of_fnK' (fn := Try.f99) (by kernel_rfl) (by kernel_rfl) (by kernel_rfl) hh
theorem Clone_api_Entry_r_of {r : R3} {x0 : AV} {H : List AObj} (hh : (fun n => (
 (binA .eql (Go.TypeDesc.slice 81) (cmpT Try.prog) true x0 .nils).bind fun a1 =>
 condK a1
 (endB true true n .nils H [])
 (appK 3 40 (AV.emp none) x0 H fun a2 H2 E2 =>
 endB true true n a2 H2 (E2 ++ [])))) (List.length H) = some r) : EV C0 n_Clone_api_Entry_r [x0] H = some r :=
 EV_of_fnK' (fn := Try.f76) (by kernel_rfl) (by kernel_rfl) (by kernel_rfl) hh
theorem Clone_int_r_of {r : R3} {x0 : AV} {H : List AObj} (hh : (fun n => (
 (binA .eql (Go.TypeDesc.slice 3) (cmpT Try.prog) true x0 .nils).bind fun a1 =>
 condK a1
 (endB true true n .nils H [])
 (appK 1 8 (AV.emp none) x0 H fun a2 H2 E2 =>
 endB true true n a2 H2 (E2 ++ [])))) (List.length H) = some r) : EV C0 n_Clone_int_r [x0] H = some r :=
 EV_of_fnK' (fn := Try.f61) (by kernel_rfl) (by kernel_rfl) (by kernel_rfl) hh
end Go.Pm
