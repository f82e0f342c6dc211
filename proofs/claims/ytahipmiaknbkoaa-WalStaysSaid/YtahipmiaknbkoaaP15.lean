/- A part of the proof: what the functions of the program answer, as plain lists and numbers. -/
import Derived.Test.YtahipmiaknbkoaaP9
namespace Go.Pm
open Go.Proofs
set_option linter.unusedVariables false
set_option maxRecDepth 100000
theorem disk_Disk_Remove_of {r : R3} {x0 x1 : AV} {H : List AObj} (hh : (fun n => (
 callK (EV C) false n_disk_Disk_there [x0, x1] H fun a1 H1 E1 =>
 (binA .neq (Go.TypeDesc.interface #[("Error", 123)]) (cmpT Try.prog) true a1 .nili).bind fun a2 =>
 condK a2
 (endB false false n a1 H1 (E1 ++ []))
 (callK (EV C) false n_disk_Disk_step [x0] H1 fun a3 H3 E3 =>
 (unA .not a3).bind fun a4 =>
 condK a4
 (endB false false n (.ifc t_api_Code (.int .i64 10)) H3 (E3 ++ (E1 ++ [])))
 ((nilA x0).bind fun a5 =>
 (offA a5 1).bind fun a6 =>
 (loadA false 1 a6 H3).bind fun a7 =>
 delK (some Go.TypeDesc.string) a7 x1 H3 fun H8 =>
 endB false false n .nili H8 (E3 ++ (E1 ++ [])))))) (List.length H) = some r) : EV C n_disk_Disk_Remove [x0, x1] H = some r :=
 EV_of_fnK' (fn := Try.f46) (by kernel_rfl) (by kernel_rfl) (by kernel_rfl) hh
noncomputable def Index_string_J2 (n : Nat) (t0 t1 t7 t8 : AV) (H : List AObj) (E : List Nat) : Option R3 :=
 loopK Try.prog C.G (EV C) (C.hint 52) Try.f52 (cAt (bodyOf Try.f52) [1, 0, 1, 0, 0]) (kAt Try.prog C.G (EV C) (C.hint 52) Try.f52 (bodyOf Try.f52) [1, 0, 1, 0] [] (endK Try.prog (C.hint 52) Try.f52 n))
 ⟨pat 19 [(0, t0), (1, t1), (7, t7), (8, t8)], H, E⟩
theorem Index_string_J2_of {r : R3} {n : Nat} {t0 t1 t7 t8 : AV} {H : List AObj} {E : List Nat} (hh : (
 (binA .lss (Go.TypeDesc.int Go.IntKind.i64) (cmpT Try.prog) false t8 t7).bind fun a1 =>
 condK a1
 ((ixA 1 t0 t8 H).bind fun a2 =>
 (loadA false 1 a2 H).bind fun a3 =>
 (binA .eql Go.TypeDesc.string (cmpT Try.prog) false t1 a3).bind fun a4 =>
 condK a4
 (endB false false n t8 H E)
 ((binA .add (Go.TypeDesc.int Go.IntKind.i64) (cmpT Try.prog) true t8 (.int .i64 1)).bind fun a5 =>
 Index_string_J2 n t0 t1 t7 a5 H E))
 (endB false false n (.int .i64 (-1)) H E)) = some r) : Index_string_J2 n t0 t1 t7 t8 H E = some r :=
 loop_step' (by kernel_rfl) hh
theorem Index_string_of {r : R3} {x0 x1 : AV} {H : List AObj} (hh : (fun n => (
 (lenV x0 H).bind fun a1 =>
 Index_string_J2 n x0 x1 a1 (.int .i64 0) H [])) (List.length H) = some r) : EV C n_Index_string [x0, x1] H = some r :=
 EV_of_fnK' (fn := Try.f52) (by kernel_rfl) (by kernel_rfl) (by kernel_rfl) hh
noncomputable def Concat_byte_r_J3 (n : Nat) (t0 t3 t9 t10 t11 : AV) (H : List AObj) (E : List Nat) : Option R3 :=
 loopK Try.prog C.G (EV C) (C.hint 1000029) Try.f29 (cAt (bodyOf Try.f29) [1, 1, 0, 1, 0, 0]) (kAt Try.prog C.G (EV C) (C.hint 1000029) Try.f29 (bodyOf Try.f29) [1, 1, 0, 1, 0] [] (endK Try.prog (C.hint 1000029) Try.f29 n))
 ⟨pat 36 [(0, t0), (3, t3), (9, t9), (10, t10), (11, t11)], H, E⟩
noncomputable def Concat_byte_r_J11 (n : Nat) (t6 t25 t26 t27 : AV) (H : List AObj) (E : List Nat) : Option R3 :=
 loopK Try.prog C.G (EV C) (C.hint 1000029) Try.f29 (cAt (bodyOf Try.f29) [1, 1, 1, 1, 0, 1, 0, 0]) (kAt Try.prog C.G (EV C) (C.hint 1000029) Try.f29 (bodyOf Try.f29) [1, 1, 1, 1, 0, 1, 0] [] (endK Try.prog (C.hint 1000029) Try.f29 n))
 ⟨pat 36 [(6, t6), (25, t25), (26, t26), (27, t27)], H, E⟩
theorem Concat_byte_r_J3_of {r : R3} {n : Nat} {t0 t3 t9 t10 t11 : AV} {H : List AObj} {E : List Nat} (hh : (
 (binA .lss (Go.TypeDesc.int Go.IntKind.i64) (cmpT Try.prog) false t11 t10).bind fun a1 =>
 condK a1
 ((ixA 1 t9 t11 H).bind fun a2 =>
 (loadA false 1 a2 H).bind fun a3 =>
 (lenV a3 H).bind fun a4 =>
 (binA .add (Go.TypeDesc.int Go.IntKind.i64) (cmpT Try.prog) false t3 a4).bind fun a5 =>
 (binA .lss (Go.TypeDesc.int Go.IntKind.i64) (cmpT Try.prog) true a5 (.int .i64 0)).bind fun a6 =>
 condK a6
 (none)
 ((binA .add (Go.TypeDesc.int Go.IntKind.i64) (cmpT Try.prog) true t11 (.int .i64 1)).bind fun a7 =>
 Concat_byte_r_J3 n t0 a5 t9 t10 a7 H E))
 (callK (EV C) true n_Grow_byte [.nils, t3] H fun a8 H8 E8 =>
 (lenV t0 H8).bind fun a9 =>
 Concat_byte_r_J11 n a8 t0 a9 (.int .i64 0) H8 (E8 ++ E))) = some r) : Concat_byte_r_J3 n t0 t3 t9 t10 t11 H E = some r :=
 loop_step' (by kernel_rfl) hh
theorem Concat_byte_r_J11_of {r : R3} {n : Nat} {t6 t25 t26 t27 : AV} {H : List AObj} {E : List Nat} (hh : (
 (binA .lss (Go.TypeDesc.int Go.IntKind.i64) (cmpT Try.prog) false t27 t26).bind fun a1 =>
 condK a1
 ((ixA 1 t25 t27 H).bind fun a2 =>
 (loadA false 1 a2 H).bind fun a3 =>
 appK 1 1 t6 a3 H fun a4 H4 E4 =>
 (binA .add (Go.TypeDesc.int Go.IntKind.i64) (cmpT Try.prog) true t27 (.int .i64 1)).bind fun a5 =>
 Concat_byte_r_J11 n a4 t25 t26 a5 H4 ((E4 ++ []) ++ E))
 (endB false false n t6 H E)) = some r) : Concat_byte_r_J11 n t6 t25 t26 t27 H E = some r :=
 loop_step' (by kernel_rfl) hh
theorem Concat_byte_r_of {r : R3} {x0 : AV} {H : List AObj} (hh : (fun n => (
 (lenV x0 H).bind fun a1 =>
 Concat_byte_r_J3 n x0 (.int .i64 0) x0 a1 (.int .i64 0) H [])) (List.length H) = some r) : EV C n_Concat_byte_r [x0] H = some r :=
 EV_of_fnK' (fn := Try.f29) (by kernel_rfl) (by kernel_rfl) (by kernel_rfl) hh
theorem wal_Wal_Write_r_of {r : R3} {x0 x1 : AV} {H : List AObj} (hh : (fun n => (
 callK (EV C) true n_wal_frames_r [x1] H fun a1 H1 E1 =>
 (extA a1 0).bind fun a2 =>
 (extA a1 1).bind fun a3 =>
 (binA .neq (Go.TypeDesc.interface #[("Error", 123)]) (cmpT Try.prog) true a3 .nili).bind fun a4 =>
 condK a4
 (endB false false n a3 H1 (E1 ++ []))
 ((nilA x0).bind fun a5 =>
 (offA a5 0).bind fun a6 =>
 (loadA false 1 a6 H1).bind fun a7 =>
 callK (EV C) false n_disk_Disk_Append [a7, (.str { data := #[108, 111, 103] }), a2] H1 fun a8 H8 E8 =>
 (binA .neq (Go.TypeDesc.interface #[("Error", 123)]) (cmpT Try.prog) true a8 .nili).bind fun a9 =>
 condK a9
 (endB false false n a8 H8 (E8 ++ (E1 ++ [])))
 ((nilA x0).bind fun a10 =>
 (offA a10 0).bind fun a11 =>
 (loadA false 1 a11 H8).bind fun a12 =>
 callK (EV C) false n_disk_Disk_Sync [a12, (.str { data := #[108, 111, 103] })] H8 fun a13 H13 E13 =>
 endB false false n a13 H13 (E13 ++ (E8 ++ (E1 ++ []))))))) (List.length H) = some r) : EV C n_wal_Wal_Write_r [x0, x1] H = some r :=
 EV_of_fnK' (fn := Try.f21) (by kernel_rfl) (by kernel_rfl) (by kernel_rfl) hh
noncomputable def wal_frames_r_J3 (n : Nat) (t4 t9 t10 t11 : AV) (H : List AObj) (E : List Nat) : Option R3 :=
 loopK Try.prog C.G (EV C) (C.hint 1000039) Try.f39 (cAt (bodyOf Try.f39) [1, 1, 0, 1, 0, 0]) (kAt Try.prog C.G (EV C) (C.hint 1000039) Try.f39 (bodyOf Try.f39) [1, 1, 0, 1, 0] [] (endK Try.prog (C.hint 1000039) Try.f39 n))
 ⟨pat 28 [(4, t4), (9, t9), (10, t10), (11, t11)], H, E⟩
theorem wal_frames_r_J3_of {r : R3} {n : Nat} {t4 t9 t10 t11 : AV} {H : List AObj} {E : List Nat} (hh : (
 (binA .lss (Go.TypeDesc.int Go.IntKind.i64) (cmpT Try.prog) false t11 t10).bind fun a1 =>
 condK a1
 ((ixA 1 t9 t11 H).bind fun a2 =>
 (loadA false 1 a2 H).bind fun a3 =>
 callK (EV C) true n_wal_Frame_r [a3] H fun a4 H4 E4 =>
 (extA a4 0).bind fun a5 =>
 (extA a4 1).bind fun a6 =>
 (binA .neq (Go.TypeDesc.interface #[("Error", 123)]) (cmpT Try.prog) true a6 .nili).bind fun a7 =>
 condK a7
 (endB false false n (.tup [.nils, a6]) H4 ((E4 ++ []) ++ E))
 (appK 1 1 t4 a5 H4 fun a8 H8 E8 =>
 (binA .add (Go.TypeDesc.int Go.IntKind.i64) (cmpT Try.prog) true t11 (.int .i64 1)).bind fun a9 =>
 wal_frames_r_J3 n a8 t9 t10 a9 H8 ((E8 ++ (E4 ++ [])) ++ E)))
 (endB false false n (.tup [t4, .nili]) H E)) = some r) : wal_frames_r_J3 n t4 t9 t10 t11 H E = some r :=
 loop_step' (by kernel_rfl) hh
theorem wal_frames_r_of {r : R3} {x0 : AV} {H : List AObj} (hh : (fun n => (
 (lenV x0 (H ++ [.vrow])).bind fun a1 =>
 wal_frames_r_J3 n (.slc (List.length H) 0 0 0) x0 a1 (.int .i64 0) (H ++ [.vrow]) [])) (List.length H) = some r) : EV C n_wal_frames_r [x0] H = some r :=
 EV_of_fnK' (fn := Try.f39) (by kernel_rfl) (by kernel_rfl) (by kernel_rfl) hh
end Go.Pm
