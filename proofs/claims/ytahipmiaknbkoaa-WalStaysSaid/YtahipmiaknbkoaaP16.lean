/- A part of the proof: what the functions of the program answer, as plain lists and numbers. -/
import Derived.Test.YtahipmiaknbkoaaP9
namespace Go.Pm
open Go.Proofs
set_option linter.unusedVariables false
set_option maxRecDepth 100000
theorem wal_Frame_r_of {r : R3} {x0 : AV} {H : List AObj} (hh : (fun n => (
 (lenV x0 H).bind fun a1 =>
 (binA .gtr (Go.TypeDesc.int Go.IntKind.i64) (cmpT Try.prog) true a1 (.int .i64 2097152)).bind fun a2 =>
 condK a2
 (endB false false n (.tup [.nils, (.ifc t_api_Code (.int .i64 2))]) H [])
 ((lenV x0 H).bind fun a3 =>
 (cvI .u32 a3).bind fun a4 =>
 callK (EV C) false n_wal_four [a4] H fun a5 H5 E5 =>
 callK (EV C) false n_wal_check [a5, x0] H5 fun a6 H6 E6 =>
 callK (EV C) false n_wal_four [a6] H6 fun a7 H7 E7 =>
 rawK 1 3 .nils [(0, a5), (1, a7), (2, x0)] H7 fun a8 H8 E8 =>
 callK (EV C) true n_Concat_byte_r [a8] H8 fun a9 H9 E9 =>
 endB false false n (.tup [a9, .nili]) H9 (E9 ++ (E8 ++ (E7 ++ (E6 ++ (E5 ++ [])))))))) (List.length H) = some r) : EV C n_wal_Frame_r [x0] H = some r :=
 EV_of_fnK' (fn := Try.f20) (by kernel_rfl) (by kernel_rfl) (by kernel_rfl) hh
noncomputable def wal_Scan_l_J3 (n : Nat) (t0 t4 t5 : AV) (H : List AObj) (E : List Nat) : Option R3 :=
 loopK Try.prog C.G (EV C) (C.hint 2000027) Try.f27 (cAt (bodyOf Try.f27) [1, 1, 1, 0, 0, 0]) (kAt Try.prog C.G (EV C) (C.hint 2000027) Try.f27 (bodyOf Try.f27) [1, 1, 1, 0, 0] [] (endK Try.prog (C.hint 2000027) Try.f27 n))
 ⟨pat 63 [(0, t0), (4, t4), (5, t5)], H, E⟩
theorem wal_Scan_l_J3_of {r : R3} {n : Nat} {t0 t4 t5 : AV} {H : List AObj} {E : List Nat} (hh : (
 (lenV t0 H).bind fun a1 =>
 (binA .sub (Go.TypeDesc.int Go.IntKind.i64) (cmpT Try.prog) false a1 t5).bind fun a2 =>
 (binA .geq (Go.TypeDesc.int Go.IntKind.i64) (cmpT Try.prog) true a2 (.int .i64 8)).bind fun a3 =>
 condK a3
 ((binA .add (Go.TypeDesc.int Go.IntKind.i64) (cmpT Try.prog) true t5 (.int .i64 4)).bind fun a4 =>
 (cutA 1 t0 (some t5) (some a4) none H).bind fun a5 =>
 calXK (EV C) 12 n_wal_number [a5] H fun a6 H6 E6 =>
 (binA .gtr (Go.TypeDesc.int Go.IntKind.u32) (cmpT Try.prog) true a6 (.int .u32 2097152)).bind fun a7 =>
 splitK a7
 (endB false false n (.tup [t4, t5]) H6 ((E6 ++ []) ++ E))
 ((cvI .i64 a6).bind fun a8 =>
 (lenV t0 H6).bind fun a9 =>
 (binA .sub (Go.TypeDesc.int Go.IntKind.i64) (cmpT Try.prog) false a9 t5).bind fun a10 =>
 (binA .sub (Go.TypeDesc.int Go.IntKind.i64) (cmpT Try.prog) true a10 (.int .i64 8)).bind fun a11 =>
 (binA .gtr (Go.TypeDesc.int Go.IntKind.i64) (cmpT Try.prog) false a8 a11).bind fun a12 =>
 condK a12
 (endB false false n (.tup [t4, t5]) H6 ((E6 ++ []) ++ E))
 ((binA .add (Go.TypeDesc.int Go.IntKind.i64) (cmpT Try.prog) true t5 (.int .i64 8)).bind fun a13 =>
 (binA .add (Go.TypeDesc.int Go.IntKind.i64) (cmpT Try.prog) true t5 (.int .i64 8)).bind fun a14 =>
 (cvI .i64 a6).bind fun a15 =>
 (binA .add (Go.TypeDesc.int Go.IntKind.i64) (cmpT Try.prog) false a14 a15).bind fun a16 =>
 (cutA 1 t0 (some a13) (some a16) none H6).bind fun a17 =>
 calXK (EV C) 12 n_wal_check [a5, a17] H6 fun a18 H18 E18 =>
 (binA .add (Go.TypeDesc.int Go.IntKind.i64) (cmpT Try.prog) true t5 (.int .i64 4)).bind fun a19 =>
 (cutA 1 t0 (some a19) none none H18).bind fun a20 =>
 calXK (EV C) 12 n_wal_number [a20] H18 fun a21 H21 E21 =>
 (binA .neq (Go.TypeDesc.int Go.IntKind.u32) (cmpT Try.prog) false a18 a21).bind fun a22 =>
 condK a22
 (endB false false n (.tup [t4, t5]) H21 ((E21 ++ (E18 ++ (E6 ++ []))) ++ E))
 (callK (EV C) false n_Clone_byte [a17] H21 fun a23 H23 E23 =>
 litK 1 1 .nils [(0, a23)] H23 fun a24 H24 E24 =>
 appK 1 24 t4 a24 H24 fun a25 H25 E25 =>
 (cvI .i64 a6).bind fun a26 =>
 (binA .add (Go.TypeDesc.int Go.IntKind.i64) (cmpT Try.prog) true (.int .i64 8) a26).bind fun a27 =>
 (binA .add (Go.TypeDesc.int Go.IntKind.i64) (cmpT Try.prog) false t5 a27).bind fun a28 =>
 wal_Scan_l_J3 n t0 a25 a28 H25 ((E25 ++ (E24 ++ (E23 ++ (E21 ++ (E18 ++ (E6 ++ [])))))) ++ E)))))
 (endB false false n (.tup [t4, t5]) H E)) = some r) : wal_Scan_l_J3 n t0 t4 t5 H E = some r :=
 loop_step' (by kernel_rfl) hh
theorem wal_Scan_l_of {r : R3} {x0 : AV} {H : List AObj} (hh : (fun n => (
 wal_Scan_l_J3 n x0 (.slc (List.length H) 0 0 0) (.int .i64 0) (H ++ [.vrow]) [])) (List.length H) = some r) : EV C n_wal_Scan_l [x0] H = some r :=
 EV_of_fnK' (fn := Try.f27) (by kernel_rfl) (by kernel_rfl) (by kernel_rfl) hh
end Go.Pm
