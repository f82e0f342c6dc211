/- A part of the proof: what the functions of the program answer, as plain lists and numbers. -/
import Derived.Test.YtahipmiaknbkoaaProg
import Derived.Test.YtahipmiaknbkoaaP7
namespace Go.Pm
open Go.Proofs
set_option linter.unusedVariables false
set_option maxRecDepth 100000
abbrev n_law15_DiskStays : FuncId := 3
abbrev n_law15_up : FuncId := 10
abbrev n_disk_New : FuncId := 11
abbrev n_disk_Disk_Append : FuncId := 12
abbrev n_disk_Disk_Read : FuncId := 13
abbrev n_disk_Disk_Sync : FuncId := 14
abbrev n_disk_Disk_Cut : FuncId := 15
abbrev n_disk_Disk_Power : FuncId := 17
abbrev n_disk_Disk_Room : FuncId := 23
abbrev n_disk_named : FuncId := 28
abbrev n_Concat_byte : FuncId := 29
abbrev n_disk_Disk_step : FuncId := 30
abbrev n_disk_Disk_there : FuncId := 31
abbrev n_Clone_byte : FuncId := 32
abbrev n_disk_Disk_Names : FuncId := 33
abbrev n_errors_Is : FuncId := 36
abbrev n_Grow_byte : FuncId := 42
abbrev n_Sorted_string : FuncId := 43
abbrev n_maps_Keys_disk_file : FuncId := 44
abbrev n_maps_Keys_map_string_disk_file_string_disk_file_1 : FuncId := 51
abbrev n_disk_Disk_Append_r : FuncId := 1000012
abbrev n_disk_Disk_Read_r : FuncId := 1000013
abbrev n_Concat_byte_r : FuncId := 1000029
abbrev n_Clone_byte_r : FuncId := 1000032
abbrev t_api_Code : TypeId := 44
def hintC : FuncId → Hint
 | 3 => { acts := [(2, 0, 1), (5, 0, 1), (6, 2, 7), (12, 1, 7)], loops := [(9, clr 121 [0, 3, 4, 6, 7, 8, 9]), (15, clr 121 [0, 3, 4, 7, 8, 10, 11, 12, 13])], open_ := [15, 9] }
 | 4 => { acts := [(2, 0, 1), (8, 0, 1)], loops := [(11, clr 157 [1, 3, 9, 10, 12, 13, 14, 15, 16])], open_ := [11] }
 | 5 => { acts := [(4, 1, 3), (5, 0, 1), (8, 1, 1)] }
 | 6 => { acts := [(5, 1, 1), (6, 1, 1), (15, 1, 1), (19, 0, 1)] }
 | 7 => { acts := [(4, 0, 1), (5, 1, 1), (8, 0, 9), (8, 2, 9), (15, 0, 9), (15, 2, 9), (22, 1, 1)], loops := [(12, clr 158 [0, 1, 5, 6, 11, 12, 13, 14]), (18, clr 158 [0, 1, 5, 6, 12, 13, 15, 16, 17, 18])], open_ := [18, 12] }
 | 8 => { acts := [(4, 0, 1), (5, 1, 1), (13, 1, 1), (16, 0, 1)] }
 | 9 => { acts := [(4, 0, 1), (5, 1, 1), (13, 1, 1)] }
 | 10 => { acts := [(1, 0, 1), (4, 1, 1), (6, 1, 1)] }
 | 11 => { keep := true, raw := true }
 | 17 => { loops := [(2, clr 69 [0, 1, 14, 15, 16])] }
 | 18 => { acts := [(2, 0, 1)] }
 | 19 => { keep := true, raw := true }
 | 25 => { loops := [(4, clr 19 [0, 3])], open_ := [4] }
 | 26 => { loops := [(4, clr 28 [0, 1, 5])], open_ := [4] }
 | 27 => { acts := [(1, 0, 2)], loops := [(3, clr 63 [0, 4, 5])], open_ := [3] }
 | 29 => { acts := [(9, 1, 1)], loops := [(3, clr 36 [0, 3, 9, 10, 11]), (11, clr 36 [6, 25, 26, 27])], open_ := [11, 3] }
 | 32 => { acts := [(3, 0, 9), (3, 2, 9)] }
 | 33 => { acts := [(1, 4, 1)] }
 | 34 => { loops := [(3, clr 31 [3, 7, 8, 9]), (7, clr 31 [3, 7, 8, 9, 17])], open_ := [7, 3] }
 | 39 => { acts := [(1, 0, 2)], loops := [(3, clr 28 [4, 9, 10, 11])], open_ := [3] }
 | 42 => { keep := true, raw := true, acts := [(5, 8, 5)] }
 | 44 => { keep := true, raw := true }
 | 52 => { loops := [(2, clr 19 [0, 1, 7, 8])], open_ := [2] }
 | 1000032 => { keep := true, raw := true, acts := [(3, 0, 9)] }
 | 1000013 => { keep := true, raw := true, acts := [(4, 7, 7)] }
 | 1000012 => { acts := [(8, 3, 1), (8, 4, 7)] }
 | 1000029 => { acts := [(9, 1, 1)], loops := [(3, clr 36 [0, 3, 9, 10, 11]), (11, clr 36 [6, 25, 26, 27])], open_ := [11, 3] }
 | _ => {}
/-- without what slices.Clone is taken for -/
noncomputable def C0 : Cfg := { P := Try.prog, G := fun _ => none, I := fun _ => none, hint := hintC }
noncomputable def C : Cfg := { P := Try.prog, G := fun _ => none, I := addI n_disk_Disk_Room roomF (addI n_Sorted_string (sortF 51) (addI n_errors_Is (isF 44) (clonesI C0 [n_Clone_byte, n_Clone_byte_r]))), hint := hintC }
end Go.Pm
namespace Go.Pm
open Go.Proofs
set_option linter.unusedVariables false
set_option maxRecDepth 100000
noncomputable def law15_DiskStays_J9 (n : Nat) (t0 t3 t4 t6 t7 t8 t9 : AV) (H : List AObj) (E : List Nat) : Option R3 :=
 loopK Try.prog C.G (EV C) (C.hint 3) Try.f3 (cAt (bodyOf Try.f3) [1, 1, 1, 1, 1, 1, 1, 0, 1, 0, 0]) (kAt Try.prog C.G (EV C) (C.hint 3) Try.f3 (bodyOf Try.f3) [1, 1, 1, 1, 1, 1, 1, 0, 1, 0] [] (endK Try.prog (C.hint 3) Try.f3 n))
 ⟨pat 121 [(0, t0), (3, t3), (4, t4), (6, t6), (7, t7), (8, t8), (9, t9)], H, E⟩
noncomputable def law15_DiskStays_J15 (n : Nat) (t0 t3 t4 t7 t8 t10 t11 t12 t13 : AV) (H : List AObj) (E : List Nat) : Option R3 :=
 loopK Try.prog C.G (EV C) (C.hint 3) Try.f3 (cAt (bodyOf Try.f3) [1, 1, 1, 1, 1, 1, 1, 1, 1, 1, 0, 1, 0, 0]) (kAt Try.prog C.G (EV C) (C.hint 3) Try.f3 (bodyOf Try.f3) [1, 1, 1, 1, 1, 1, 1, 1, 1, 1, 0, 1, 0] [] (endK Try.prog (C.hint 3) Try.f3 n))
 ⟨pat 121 [(0, t0), (3, t3), (4, t4), (7, t7), (8, t8), (10, t10), (11, t11), (12, t12), (13, t13)], H, E⟩
theorem law15_DiskStays_J9_of {r : R3} {n : Nat} {t0 t3 t4 t6 t7 t8 t9 : AV} {H : List AObj} {E : List Nat} (hh : (
 (lenV t6 H).bind fun a1 =>
 (binA .lss (Go.TypeDesc.int Go.IntKind.i64) (cmpT Try.prog) false t9 a1).bind fun a2 =>
 condK a2
 ((ixA 1 t6 t9 H).bind fun a3 =>
 (loadA false 1 a3 H).bind fun a4 =>
 (binA .add (Go.TypeDesc.int Go.IntKind.u8) (cmpT Try.prog) true a4 (.int .u8 1)).bind fun a5 =>
 (ixA 1 t6 t9 H).bind fun a6 =>
 stoK 1 a6 a5 H fun H7 E7 =>
 (binA .add (Go.TypeDesc.int Go.IntKind.i64) (cmpT Try.prog) true t9 (.int .i64 1)).bind fun a8 =>
 law15_DiskStays_J9 n t0 t3 t4 t6 t7 t8 a8 H7 ((E7 ++ []) ++ E))
 (callK (EV C) true n_disk_Disk_Read_r [t4, (.str { data := #[97] })] H fun a9 H9 E9 =>
 (extA a9 0).bind fun a10 =>
 (extA a9 1).bind fun a11 =>
 (cvL a10 H9).bind fun a12 =>
 (cvL t0 H9).bind fun a13 =>
 (binA .eql Go.TypeDesc.string (cmpT Try.prog) false a12 a13).bind fun a14 =>
 law15_DiskStays_J15 n t0 t3 t4 t7 t8 a10 a11 a14 (.int .i64 0) H9 (E9 ++ E))) = some r) : law15_DiskStays_J9 n t0 t3 t4 t6 t7 t8 t9 H E = some r :=
 loop_step' (by kernel_rfl) hh
theorem law15_DiskStays_J15_of {r : R3} {n : Nat} {t0 t3 t4 t7 t8 t10 t11 t12 t13 : AV} {H : List AObj} {E : List Nat} (hh : (
 (lenV t10 H).bind fun a1 =>
 (binA .lss (Go.TypeDesc.int Go.IntKind.i64) (cmpT Try.prog) false t13 a1).bind fun a2 =>
 condK a2
 ((ixA 1 t10 t13 H).bind fun a3 =>
 (loadA false 1 a3 H).bind fun a4 =>
 (binA .add (Go.TypeDesc.int Go.IntKind.u8) (cmpT Try.prog) true a4 (.int .u8 1)).bind fun a5 =>
 (ixA 1 t10 t13 H).bind fun a6 =>
 stoK 1 a6 a5 H fun H7 E7 =>
 (binA .add (Go.TypeDesc.int Go.IntKind.i64) (cmpT Try.prog) true t13 (.int .i64 1)).bind fun a8 =>
 law15_DiskStays_J15 n t0 t3 t4 t7 t8 t10 t11 t12 a8 H7 ((E7 ++ []) ++ E))
 (callK (EV C) false n_disk_Disk_Read [t4, (.str { data := #[97] })] H fun a9 H9 E9 =>
 (extA a9 0).bind fun a10 =>
 (extA a9 1).bind fun a11 =>
 splitK t3
 (splitK t8
 (splitK t12
 ((binA .eql (Go.TypeDesc.interface #[("Error", 123)]) (cmpT Try.prog) true t7 .nili).bind fun a12 =>
 splitK a12
 ((binA .eql (Go.TypeDesc.interface #[("Error", 123)]) (cmpT Try.prog) true t11 .nili).bind fun a13 =>
 splitK a13
 ((binA .eql (Go.TypeDesc.interface #[("Error", 123)]) (cmpT Try.prog) true a11 .nili).bind fun a14 =>
 splitK a14
 ((cvL a10 H9).bind fun a15 =>
 (cvL t0 H9).bind fun a16 =>
 (binA .eql Go.TypeDesc.string (cmpT Try.prog) false a15 a16).bind fun a17 =>
 endB false false n a17 H9 (E9 ++ E))
 (endB false false n (.bool false) H9 (E9 ++ E)))
 (endB false false n (.bool false) H9 (E9 ++ E)))
 (endB false false n (.bool false) H9 (E9 ++ E)))
 (endB false false n (.bool false) H9 (E9 ++ E)))
 (endB false false n (.bool false) H9 (E9 ++ E)))
 (endB false false n (.bool false) H9 (E9 ++ E)))) = some r) : law15_DiskStays_J15 n t0 t3 t4 t7 t8 t10 t11 t12 t13 H E = some r :=
 loop_step' (by kernel_rfl) hh
theorem law15_DiskStays_of {r : R3} {x0 : AV} {H : List AObj} (hh : (fun n => (
 callK (EV C) false n_law15_up [] H fun a1 H1 E1 =>
 callK (EV C) true n_disk_New [(.int .i64 1048576)] H1 fun a2 H2 E2 =>
 (extA a2 0).bind fun a3 =>
 (extA a2 1).bind fun a4 =>
 (binA .eql (Go.TypeDesc.pointer 57) (cmpT Try.prog) true a3 .nilp).bind fun a5 =>
 splitK a5
 (splitK a1
 ((binA .neq (Go.TypeDesc.pointer 57) (cmpT Try.prog) true a3 .nilp).bind fun a6 =>
 splitK a6
 ((binA .eql (Go.TypeDesc.interface #[("Error", 123)]) (cmpT Try.prog) true a4 .nili).bind fun a7 =>
 endB false false n a7 H2 (E2 ++ (E1 ++ [])))
 (endB false false n (.bool false) H2 (E2 ++ (E1 ++ []))))
 (endB false false n (.bool false) H2 (E2 ++ (E1 ++ []))))
 ((binA .neq (Go.TypeDesc.interface #[("Error", 123)]) (cmpT Try.prog) true a4 .nili).bind fun a8 =>
 splitK a8
 (splitK a1
 ((binA .neq (Go.TypeDesc.pointer 57) (cmpT Try.prog) true a3 .nilp).bind fun a9 =>
 splitK a9
 ((binA .eql (Go.TypeDesc.interface #[("Error", 123)]) (cmpT Try.prog) true a4 .nili).bind fun a10 =>
 endB false false n a10 H2 (E2 ++ (E1 ++ [])))
 (endB false false n (.bool false) H2 (E2 ++ (E1 ++ []))))
 (endB false false n (.bool false) H2 (E2 ++ (E1 ++ []))))
 ((lenV x0 H2).bind fun a11 =>
 (binA .gtr (Go.TypeDesc.int Go.IntKind.i64) (cmpT Try.prog) true a11 (.int .i64 5000)).bind fun a12 =>
 condK a12
 (splitK a1
 ((binA .neq (Go.TypeDesc.pointer 57) (cmpT Try.prog) true a3 .nilp).bind fun a13 =>
 splitK a13
 ((binA .eql (Go.TypeDesc.interface #[("Error", 123)]) (cmpT Try.prog) true a4 .nili).bind fun a14 =>
 endB false false n a14 H2 (E2 ++ (E1 ++ [])))
 (endB false false n (.bool false) H2 (E2 ++ (E1 ++ []))))
 (endB false false n (.bool false) H2 (E2 ++ (E1 ++ []))))
 (rawK 1 0 (.int .u8 0) [] H2 fun a15 H15 E15 =>
 appK 1 1 a15 x0 H15 fun a16 H16 E16 =>
 callK (EV C) true n_disk_Disk_Append_r [a3, (.str { data := #[97] }), a16] H16 fun a17 H17 E17 =>
 (cvL a16 H17).bind fun a18 =>
 (cvL x0 H17).bind fun a19 =>
 (binA .eql Go.TypeDesc.string (cmpT Try.prog) false a18 a19).bind fun a20 =>
 law15_DiskStays_J9 n x0 a1 a3 a16 a17 a20 (.int .i64 0) H17 (E17 ++ (E16 ++ (E15 ++ (E2 ++ (E1 ++ [])))))))))) (List.length H) = some r) : EV C n_law15_DiskStays [x0] H = some r :=
 EV_of_fnK' (fn := Try.f3) (by kernel_rfl) (by kernel_rfl) (by kernel_rfl) hh
theorem law15_up_of {r : R3} {H : List AObj} (hh : (fun n => (
 callK (EV C) true n_disk_New [(.int .i64 9)] H fun a1 H1 E1 =>
 (extA a1 0).bind fun a2 =>
 (extA a1 1).bind fun a3 =>
 (binA .eql (Go.TypeDesc.pointer 57) (cmpT Try.prog) true a2 .nilp).bind fun a4 =>
 splitK a4
 (endB false false n (.bool false) H1 (E1 ++ []))
 ((binA .neq (Go.TypeDesc.interface #[("Error", 123)]) (cmpT Try.prog) true a3 .nili).bind fun a5 =>
 condK a5
 (endB false false n (.bool false) H1 (E1 ++ []))
 (rawK 1 3 (.int .u8 0) [(0, (.int .u8 97)), (1, (.int .u8 98)), (2, (.int .u8 99))] H1 fun a6 H6 E6 =>
 (cvR a6 H6).bind fun a7 =>
 callK (EV C) false n_disk_Disk_Append [a2, (.str { data := #[97] }), a7] H6 fun a8 H8 E8 =>
 callK (EV C) false n_disk_Disk_Sync [a2, (.str { data := #[97] })] H8 fun a9 H9 E9 =>
 rawK 1 2 (.int .u8 0) [(0, (.int .u8 100)), (1, (.int .u8 101))] H9 fun a10 H10 E10 =>
 (cvR a10 H10).bind fun a11 =>
 callK (EV C) false n_disk_Disk_Append [a2, (.str { data := #[97] }), a11] H10 fun a12 H12 E12 =>
 callK (EV C) false n_disk_Disk_Cut [a2, (.int .i64 0)] H12 fun a13 H13 E13 =>
 callK (EV C) false n_disk_Disk_Sync [a2, (.str { data := #[97] })] H13 fun a14 H14 E14 =>
 litK 1 1 (.int .i64 0) [(0, (.int .i64 1))] H14 fun a15 H15 E15 =>
 callK (EV C) false n_disk_Disk_Power [a2, a15] H15 fun a16 H16 E16 =>
 callK (EV C) false n_disk_Disk_Read [a2, (.str { data := #[97] })] H16 fun a17 H17 E17 =>
 (extA a17 0).bind fun a18 =>
 (extA a17 1).bind fun a19 =>
 (binA .eql (Go.TypeDesc.interface #[("Error", 123)]) (cmpT Try.prog) true a8 .nili).bind fun a20 =>
 splitK a20
 ((binA .eql (Go.TypeDesc.interface #[("Error", 123)]) (cmpT Try.prog) true a9 .nili).bind fun a21 =>
 splitK a21
 ((binA .eql (Go.TypeDesc.interface #[("Error", 123)]) (cmpT Try.prog) true a12 .nili).bind fun a22 =>
 splitK a22
 ((binA .eql (Go.TypeDesc.interface #[("Error", 123)]) (cmpT Try.prog) true a13 .nili).bind fun a23 =>
 splitK a23
 ((binA .eql (Go.TypeDesc.interface #[("Error", 123)]) (cmpT Try.prog) false a14 (.ifc t_api_Code (.int .i64 10))).bind fun a24 =>
 splitK a24
 ((binA .eql (Go.TypeDesc.interface #[("Error", 123)]) (cmpT Try.prog) true a19 .nili).bind fun a25 =>
 splitK a25
 ((cvL a18 H17).bind fun a26 =>
 (binA .eql Go.TypeDesc.string (cmpT Try.prog) true a26 (.str { data := #[97, 98, 99, 100] })).bind fun a27 =>
 endB false false n a27 H17 (E17 ++ (E16 ++ (E15 ++ (E14 ++ (E13 ++ (E12 ++ (E10 ++ (E9 ++ (E8 ++ (E6 ++ (E1 ++ []))))))))))))
 (endB false false n (.bool false) H17 (E17 ++ (E16 ++ (E15 ++ (E14 ++ (E13 ++ (E12 ++ (E10 ++ (E9 ++ (E8 ++ (E6 ++ (E1 ++ [])))))))))))))
 (endB false false n (.bool false) H17 (E17 ++ (E16 ++ (E15 ++ (E14 ++ (E13 ++ (E12 ++ (E10 ++ (E9 ++ (E8 ++ (E6 ++ (E1 ++ [])))))))))))))
 (endB false false n (.bool false) H17 (E17 ++ (E16 ++ (E15 ++ (E14 ++ (E13 ++ (E12 ++ (E10 ++ (E9 ++ (E8 ++ (E6 ++ (E1 ++ [])))))))))))))
 (endB false false n (.bool false) H17 (E17 ++ (E16 ++ (E15 ++ (E14 ++ (E13 ++ (E12 ++ (E10 ++ (E9 ++ (E8 ++ (E6 ++ (E1 ++ [])))))))))))))
 (endB false false n (.bool false) H17 (E17 ++ (E16 ++ (E15 ++ (E14 ++ (E13 ++ (E12 ++ (E10 ++ (E9 ++ (E8 ++ (E6 ++ (E1 ++ [])))))))))))))
 (endB false false n (.bool false) H17 (E17 ++ (E16 ++ (E15 ++ (E14 ++ (E13 ++ (E12 ++ (E10 ++ (E9 ++ (E8 ++ (E6 ++ (E1 ++ [])))))))))))))))) (List.length H) = some r) : EV C n_law15_up [] H = some r :=
 EV_of_fnK' (fn := Try.f10) (by kernel_rfl) (by kernel_rfl) (by kernel_rfl) hh
end Go.Pm
namespace Go.Pm
open Go.Proofs
set_option linter.unusedVariables false
set_option maxRecDepth 100000
theorem disk_New_of {r : R3} {x0 : AV} {H : List AObj} (hh : (fun n => (
 (binA .lss (Go.TypeDesc.int Go.IntKind.i64) (cmpT Try.prog) true x0 (.int .i64 0)).bind fun a1 =>
 splitK a1
 (endB true true n (.tup [.nilp, (.ifc t_api_Code (.int .i64 1))]) H [])
 ((binA .gtr (Go.TypeDesc.int Go.IntKind.i64) (cmpT Try.prog) true x0 (.int .i64 67108864)).bind fun a2 =>
 condK a2
 (endB true true n (.tup [.nilp, (.ifc t_api_Code (.int .i64 1))]) H [])
 (mpK H fun a3 H3 E3 =>
 (fillB (AV.cells (.agg [(.int .i64 0), .nilm, (.bool false), (.int .i64 0), (.bool false), (.int .i64 0)])) [(0, 1, x0), (1, 1, a3)]).bind fun c4 =>
 newK (.agg c4) H3 fun a5 H5 E5 =>
 endB true true n (.tup [a5, .nili]) H5 (E5 ++ (E3 ++ [])))))) (List.length H) = some r) : EV C n_disk_New [x0] H = some r :=
 EV_of_fnK' (fn := Try.f11) (by kernel_rfl) (by kernel_rfl) (by kernel_rfl) hh
theorem disk_Disk_Append_of {r : R3} {x0 x1 x2 : AV} {H : List AObj} (hh : (fun n => (
 (nilA x0).bind fun a1 =>
 (offA a1 1).bind fun a2 =>
 (loadA false 1 a2 H).bind fun a3 =>
 (lookV (some Go.TypeDesc.string) (.agg [.nils, (.int .i64 0)]) true a3 x1 H).bind fun a4 =>
 (extA a4 0).bind fun a5 =>
 (extA a4 1).bind fun a6 =>
 newK (.agg [.nils, (.int .i64 0)]) H fun a7 H7 E7 =>
 stoK 2 a7 a5 H7 fun H8 E8 =>
 (nilA x0).bind fun a9 =>
 (offA a9 2).bind fun a10 =>
 (loadA false 1 a10 H8).bind fun a11 =>
 condK a11
 (endB false false n (.ifc t_api_Code (.int .i64 10)) H8 (E8 ++ (E7 ++ [])))
 (callK (EV C) false n_disk_named [x1] H8 fun a12 H12 E12 =>
 (unA .not a12).bind fun a13 =>
 condK a13
 (endB false false n (.ifc t_api_Code (.int .i64 1)) H12 (E12 ++ (E8 ++ (E7 ++ []))))
 ((lenV x2 H12).bind fun a14 =>
 callK (EV C) false n_disk_Disk_Room [x0] H12 fun a15 H15 E15 =>
 (binA .gtr (Go.TypeDesc.int Go.IntKind.i64) (cmpT Try.prog) false a14 a15).bind fun a16 =>
 splitK a16
 (endB false false n (.ifc t_api_Code (.int .i64 11)) H15 (E15 ++ (E12 ++ (E8 ++ (E7 ++ [])))))
 ((unA .not a6).bind fun a17 =>
 splitK a17
 ((nilA x0).bind fun a18 =>
 (offA a18 1).bind fun a19 =>
 (loadA false 1 a19 H15).bind fun a20 =>
 (lenW a20 H15).bind fun a21 =>
 (binA .geq (Go.TypeDesc.int Go.IntKind.i64) (cmpT Try.prog) true a21 (.int .i64 8)).bind fun a22 =>
 condK a22
 (endB false false n (.ifc t_api_Code (.int .i64 11)) H15 (E15 ++ (E12 ++ (E8 ++ (E7 ++ [])))))
 ((offA a7 0).bind fun a23 =>
 (loadA false 1 a23 H15).bind fun a24 =>
 litK 1 2 .nils [(0, a24), (1, x2)] H15 fun a25 H25 E25 =>
 callK (EV C) false n_Concat_byte [a25] H25 fun a26 H26 E26 =>
 (offA a7 0).bind fun a27 =>
 stoK 1 a27 a26 H26 fun H28 E28 =>
 (nilA x0).bind fun a29 =>
 (offA a29 1).bind fun a30 =>
 (loadA false 1 a30 H28).bind fun a31 =>
 (loadA true 2 a7 H28).bind fun a32 =>
 updK (some Go.TypeDesc.string) a31 x1 a32 H28 fun H33 =>
 callK (EV C) false n_disk_Disk_step [x0] H33 fun a34 H34 E34 =>
 (unA .not a34).bind fun a35 =>
 condK a35
 (endB false false n (.ifc t_api_Code (.int .i64 10)) H34 (E34 ++ (E28 ++ (E26 ++ (E25 ++ (E15 ++ (E12 ++ (E8 ++ (E7 ++ [])))))))))
 (endB false false n .nili H34 (E34 ++ (E28 ++ (E26 ++ (E25 ++ (E15 ++ (E12 ++ (E8 ++ (E7 ++ [])))))))))))
 ((offA a7 0).bind fun a36 =>
 (loadA false 1 a36 H15).bind fun a37 =>
 litK 1 2 .nils [(0, a37), (1, x2)] H15 fun a38 H38 E38 =>
 callK (EV C) false n_Concat_byte [a38] H38 fun a39 H39 E39 =>
 (offA a7 0).bind fun a40 =>
 stoK 1 a40 a39 H39 fun H41 E41 =>
 (nilA x0).bind fun a42 =>
 (offA a42 1).bind fun a43 =>
 (loadA false 1 a43 H41).bind fun a44 =>
 (loadA true 2 a7 H41).bind fun a45 =>
 updK (some Go.TypeDesc.string) a44 x1 a45 H41 fun H46 =>
 callK (EV C) false n_disk_Disk_step [x0] H46 fun a47 H47 E47 =>
 (unA .not a47).bind fun a48 =>
 condK a48
 (endB false false n (.ifc t_api_Code (.int .i64 10)) H47 (E47 ++ (E41 ++ (E39 ++ (E38 ++ (E15 ++ (E12 ++ (E8 ++ (E7 ++ [])))))))))
 (endB false false n .nili H47 (E47 ++ (E41 ++ (E39 ++ (E38 ++ (E15 ++ (E12 ++ (E8 ++ (E7 ++ []))))))))))))))) (List.length H) = some r) : EV C n_disk_Disk_Append [x0, x1, x2] H = some r :=
 EV_of_fnK' (fn := Try.f12) (by kernel_rfl) (by kernel_rfl) (by kernel_rfl) hh
theorem disk_Disk_Read_of {r : R3} {x0 x1 : AV} {H : List AObj} (hh : (fun n => (
 callK (EV C) false n_disk_Disk_there [x0, x1] H fun a1 H1 E1 =>
 (binA .neq (Go.TypeDesc.interface #[("Error", 123)]) (cmpT Try.prog) true a1 .nili).bind fun a2 =>
 condK a2
 (endB false false n (.tup [.nils, a1]) H1 (E1 ++ []))
 ((nilA x0).bind fun a3 =>
 (offA a3 1).bind fun a4 =>
 (loadA false 1 a4 H1).bind fun a5 =>
 (lookV (some Go.TypeDesc.string) (.agg [.nils, (.int .i64 0)]) false a5 x1 H1).bind fun a6 =>
 (fldA false 1 0 a6).bind fun a7 =>
 callK (EV C) false n_Clone_byte [a7] H1 fun a8 H8 E8 =>
 endB false false n (.tup [a8, .nili]) H8 (E8 ++ (E1 ++ []))))) (List.length H) = some r) : EV C n_disk_Disk_Read [x0, x1] H = some r :=
 EV_of_fnK' (fn := Try.f13) (by kernel_rfl) (by kernel_rfl) (by kernel_rfl) hh
theorem disk_Disk_Sync_of {r : R3} {x0 x1 : AV} {H : List AObj} (hh : (fun n => (
 callK (EV C) false n_disk_Disk_there [x0, x1] H fun a1 H1 E1 =>
 (binA .neq (Go.TypeDesc.interface #[("Error", 123)]) (cmpT Try.prog) true a1 .nili).bind fun a2 =>
 condK a2
 (endB false false n a1 H1 (E1 ++ []))
 (callK (EV C) false n_disk_Disk_step [x0] H1 fun a3 H3 E3 =>
 (unA .not a3).bind fun a4 =>
 condK a4
 (endB false false n (.ifc t_api_Code (.int .i64 10)) H3 (E3 ++ (E1 ++ [])))
 ((nilA x0).bind fun a5 =>
 (offA a5 1).bind fun a6 =>
 (loadA false 1 a6 H3).bind fun a7 =>
 (lookV (some Go.TypeDesc.string) (.agg [.nils, (.int .i64 0)]) false a7 x1 H3).bind fun a8 =>
 newK (.agg [.nils, (.int .i64 0)]) H3 fun a9 H9 E9 =>
 stoK 2 a9 a8 H9 fun H10 E10 =>
 (offA a9 0).bind fun a11 =>
 (loadA false 1 a11 H10).bind fun a12 =>
 (lenV a12 H10).bind fun a13 =>
 (offA a9 1).bind fun a14 =>
 stoK 1 a14 a13 H10 fun H15 E15 =>
 (nilA x0).bind fun a16 =>
 (offA a16 1).bind fun a17 =>
 (loadA false 1 a17 H15).bind fun a18 =>
 (loadA true 2 a9 H15).bind fun a19 =>
 updK (some Go.TypeDesc.string) a18 x1 a19 H15 fun H20 =>
 endB false false n .nili H20 (E15 ++ (E10 ++ (E9 ++ (E3 ++ (E1 ++ []))))))))) (List.length H) = some r) : EV C n_disk_Disk_Sync [x0, x1] H = some r :=
 EV_of_fnK' (fn := Try.f14) (by kernel_rfl) (by kernel_rfl) (by kernel_rfl) hh
theorem disk_Disk_Cut_of {r : R3} {x0 x1 : AV} {H : List AObj} (hh : (fun n => (
 (binA .lss (Go.TypeDesc.int Go.IntKind.i64) (cmpT Try.prog) true x1 (.int .i64 0)).bind fun a1 =>
 condK a1
 (endB false false n (.ifc t_api_Code (.int .i64 1)) H [])
 ((nilA x0).bind fun a2 =>
 (offA a2 2).bind fun a3 =>
 (loadA false 1 a3 H).bind fun a4 =>
 condK a4
 (endB false false n (.ifc t_api_Code (.int .i64 10)) H [])
 ((nilA x0).bind fun a5 =>
 (offA a5 4).bind fun a6 =>
 stoK 1 a6 (.bool true) H fun H7 E7 =>
 (nilA x0).bind fun a8 =>
 (offA a8 5).bind fun a9 =>
 stoK 1 a9 x1 H7 fun H10 E10 =>
 endB false false n .nili H10 (E10 ++ (E7 ++ [])))))) (List.length H) = some r) : EV C n_disk_Disk_Cut [x0, x1] H = some r :=
 EV_of_fnK' (fn := Try.f15) (by kernel_rfl) (by kernel_rfl) (by kernel_rfl) hh
noncomputable def disk_Disk_Power_J2 (n : Nat) (t0 t1 t14 t15 t16 : AV) (H : List AObj) (E : List Nat) : Option R3 :=
 loopK Try.prog C.G (EV C) (C.hint 17) Try.f17 (cAt (bodyOf Try.f17) [1, 0, 1, 0, 0]) (kAt Try.prog C.G (EV C) (C.hint 17) Try.f17 (bodyOf Try.f17) [1, 0, 1, 0] [] (endK Try.prog (C.hint 17) Try.f17 n))
 ⟨pat 69 [(0, t0), (1, t1), (14, t14), (15, t15), (16, t16)], H, E⟩
theorem disk_Disk_Power_J2_of {r : R3} {n : Nat} {t0 t1 t14 t15 t16 : AV} {H : List AObj} {E : List Nat} (hh : (
 (binA .lss (Go.TypeDesc.int Go.IntKind.i64) (cmpT Try.prog) false t16 t15).bind fun a1 =>
 condK a1
 ((ixA 1 t14 t16 H).bind fun a2 =>
 (loadA false 1 a2 H).bind fun a3 =>
 (nilA t0).bind fun a4 =>
 (offA a4 1).bind fun a5 =>
 (loadA false 1 a5 H).bind fun a6 =>
 (lookV (some Go.TypeDesc.string) (.agg [.nils, (.int .i64 0)]) false a6 a3 H).bind fun a7 =>
 newK (.agg [.nils, (.int .i64 0)]) H fun a8 H8 E8 =>
 stoK 2 a8 a7 H8 fun H9 E9 =>
 (lenV t1 H9).bind fun a10 =>
 (binA .lss (Go.TypeDesc.int Go.IntKind.i64) (cmpT Try.prog) false t16 a10).bind fun a11 =>
 condK a11
 ((ixA 1 t1 t16 H9).bind fun a12 =>
 (loadA false 1 a12 H9).bind fun a13 =>
 (maxA [a13, (.int .i64 0)]).bind fun a14 =>
 (offA a8 0).bind fun a15 =>
 (loadA false 1 a15 H9).bind fun a16 =>
 (offA a8 1).bind fun a17 =>
 (loadA false 1 a17 H9).bind fun a18 =>
 (offA a8 0).bind fun a19 =>
 (loadA false 1 a19 H9).bind fun a20 =>
 (lenV a20 H9).bind fun a21 =>
 (offA a8 1).bind fun a22 =>
 (loadA false 1 a22 H9).bind fun a23 =>
 (binA .sub (Go.TypeDesc.int Go.IntKind.i64) (cmpT Try.prog) false a21 a23).bind fun a24 =>
 (minA [a14, a24]).bind fun a25 =>
 (binA .add (Go.TypeDesc.int Go.IntKind.i64) (cmpT Try.prog) false a18 a25).bind fun a26 =>
 (cutA 1 a16 none (some a26) none H9).bind fun a27 =>
 callK (EV C) false n_Clone_byte [a27] H9 fun a28 H28 E28 =>
 (offA a8 0).bind fun a29 =>
 stoK 1 a29 a28 H28 fun H30 E30 =>
 (offA a8 0).bind fun a31 =>
 (loadA false 1 a31 H30).bind fun a32 =>
 (lenV a32 H30).bind fun a33 =>
 (offA a8 1).bind fun a34 =>
 stoK 1 a34 a33 H30 fun H35 E35 =>
 (nilA t0).bind fun a36 =>
 (offA a36 1).bind fun a37 =>
 (loadA false 1 a37 H35).bind fun a38 =>
 (loadA true 2 a8 H35).bind fun a39 =>
 updK (some Go.TypeDesc.string) a38 a3 a39 H35 fun H40 =>
 (binA .add (Go.TypeDesc.int Go.IntKind.i64) (cmpT Try.prog) true t16 (.int .i64 1)).bind fun a41 =>
 condB (List.all (E35 ++ (E30 ++ (E28 ++ (E9 ++ (E8 ++ []))))) (fun e => decide (List.length H ≤ e)) && (AV.bel (List.length H) t0 && (AV.bel (List.length H) t1 && (AV.bel (List.length H) t14 && (AV.bel (List.length H) t15 && (AV.bel (List.length H) a41 && true))))))
 (disk_Disk_Power_J2 n t0 t1 t14 t15 a41 (List.take (List.length H) H40) E))
 ((offA a8 0).bind fun a42 =>
 (loadA false 1 a42 H9).bind fun a43 =>
 (offA a8 1).bind fun a44 =>
 (loadA false 1 a44 H9).bind fun a45 =>
 (offA a8 0).bind fun a46 =>
 (loadA false 1 a46 H9).bind fun a47 =>
 (lenV a47 H9).bind fun a48 =>
 (offA a8 1).bind fun a49 =>
 (loadA false 1 a49 H9).bind fun a50 =>
 (binA .sub (Go.TypeDesc.int Go.IntKind.i64) (cmpT Try.prog) false a48 a50).bind fun a51 =>
 (minA [(.int .i64 0), a51]).bind fun a52 =>
 (binA .add (Go.TypeDesc.int Go.IntKind.i64) (cmpT Try.prog) false a45 a52).bind fun a53 =>
 (cutA 1 a43 none (some a53) none H9).bind fun a54 =>
 callK (EV C) false n_Clone_byte [a54] H9 fun a55 H55 E55 =>
 (offA a8 0).bind fun a56 =>
 stoK 1 a56 a55 H55 fun H57 E57 =>
 (offA a8 0).bind fun a58 =>
 (loadA false 1 a58 H57).bind fun a59 =>
 (lenV a59 H57).bind fun a60 =>
 (offA a8 1).bind fun a61 =>
 stoK 1 a61 a60 H57 fun H62 E62 =>
 (nilA t0).bind fun a63 =>
 (offA a63 1).bind fun a64 =>
 (loadA false 1 a64 H62).bind fun a65 =>
 (loadA true 2 a8 H62).bind fun a66 =>
 updK (some Go.TypeDesc.string) a65 a3 a66 H62 fun H67 =>
 (binA .add (Go.TypeDesc.int Go.IntKind.i64) (cmpT Try.prog) true t16 (.int .i64 1)).bind fun a68 =>
 condB (List.all (E62 ++ (E57 ++ (E55 ++ (E9 ++ (E8 ++ []))))) (fun e => decide (List.length H ≤ e)) && (AV.bel (List.length H) t0 && (AV.bel (List.length H) t1 && (AV.bel (List.length H) t14 && (AV.bel (List.length H) t15 && (AV.bel (List.length H) a68 && true))))))
 (disk_Disk_Power_J2 n t0 t1 t14 t15 a68 (List.take (List.length H) H67) E)))
 ((nilA t0).bind fun a69 =>
 (offA a69 2).bind fun a70 =>
 stoK 1 a70 (.bool false) H fun H71 E71 =>
 (nilA t0).bind fun a72 =>
 (offA a72 4).bind fun a73 =>
 stoK 1 a73 (.bool false) H71 fun H74 E74 =>
 endB false false n (.tup []) H74 (E74 ++ (E71 ++ E)))) = some r) : disk_Disk_Power_J2 n t0 t1 t14 t15 t16 H E = some r :=
 loop_step' (by kernel_rfl) hh
theorem disk_Disk_Power_of {r : R3} {x0 x1 : AV} {H : List AObj} (hh : (fun n => (
 (nilA x0).bind fun a1 =>
 (offA a1 2).bind fun a2 =>
 (loadA false 1 a2 H).bind fun a3 =>
 (unA .not a3).bind fun a4 =>
 condK a4
 (endB false false n (.tup []) H [])
 (callK (EV C) false n_disk_Disk_Names [x0] H fun a5 H5 E5 =>
 (lenV a5 H5).bind fun a6 =>
 disk_Disk_Power_J2 n x0 x1 a5 a6 (.int .i64 0) H5 (E5 ++ [])))) (List.length H) = some r) : EV C n_disk_Disk_Power [x0, x1] H = some r :=
 EV_of_fnK' (fn := Try.f17) (by kernel_rfl) (by kernel_rfl) (by kernel_rfl) hh
end Go.Pm
namespace Go.Pm
open Go.Proofs
set_option linter.unusedVariables false
set_option maxRecDepth 100000
theorem disk_named_of {r : R3} {x0 : AV} {H : List AObj} (hh : (fun n => (
 (lenS x0).bind fun a1 =>
 (binA .geq (Go.TypeDesc.int Go.IntKind.i64) (cmpT Try.prog) true a1 (.int .i64 1)).bind fun a2 =>
 splitK a2
 ((lenS x0).bind fun a3 =>
 (binA .leq (Go.TypeDesc.int Go.IntKind.i64) (cmpT Try.prog) true a3 (.int .i64 16)).bind fun a4 =>
 endB false false n a4 H [])
 (endB false false n (.bool false) H []))) (List.length H) = some r) : EV C n_disk_named [x0] H = some r :=
 EV_of_fnK' (fn := Try.f28) (by kernel_rfl) (by kernel_rfl) (by kernel_rfl) hh
noncomputable def Concat_byte_J3 (n : Nat) (t0 t3 t9 t10 t11 : AV) (H : List AObj) (E : List Nat) : Option R3 :=
 loopK Try.prog C.G (EV C) (C.hint 29) Try.f29 (cAt (bodyOf Try.f29) [1, 1, 0, 1, 0, 0]) (kAt Try.prog C.G (EV C) (C.hint 29) Try.f29 (bodyOf Try.f29) [1, 1, 0, 1, 0] [] (endK Try.prog (C.hint 29) Try.f29 n))
 ⟨pat 36 [(0, t0), (3, t3), (9, t9), (10, t10), (11, t11)], H, E⟩
noncomputable def Concat_byte_J11 (n : Nat) (t6 t25 t26 t27 : AV) (H : List AObj) (E : List Nat) : Option R3 :=
 loopK Try.prog C.G (EV C) (C.hint 29) Try.f29 (cAt (bodyOf Try.f29) [1, 1, 1, 1, 0, 1, 0, 0]) (kAt Try.prog C.G (EV C) (C.hint 29) Try.f29 (bodyOf Try.f29) [1, 1, 1, 1, 0, 1, 0] [] (endK Try.prog (C.hint 29) Try.f29 n))
 ⟨pat 36 [(6, t6), (25, t25), (26, t26), (27, t27)], H, E⟩
theorem Concat_byte_J3_of {r : R3} {n : Nat} {t0 t3 t9 t10 t11 : AV} {H : List AObj} {E : List Nat} (hh : (
 (binA .lss (Go.TypeDesc.int Go.IntKind.i64) (cmpT Try.prog) false t11 t10).bind fun a1 =>
 condK a1
 ((ixA 1 t9 t11 H).bind fun a2 =>
 (loadA false 1 a2 H).bind fun a3 =>
 (lenV a3 H).bind fun a4 =>
 (binA .add (Go.TypeDesc.int Go.IntKind.i64) (cmpT Try.prog) false t3 a4).bind fun a5 =>
 (binA .lss (Go.TypeDesc.int Go.IntKind.i64) (cmpT Try.prog) true a5 (.int .i64 0)).bind fun a6 =>
 condK a6
 (none)
 ((binA .add (Go.TypeDesc.int Go.IntKind.i64) (cmpT Try.prog) true t11 (.int .i64 1)).bind fun a7 =>
 Concat_byte_J3 n t0 a5 t9 t10 a7 H E))
 (callK (EV C) true n_Grow_byte [.nils, t3] H fun a8 H8 E8 =>
 (lenV t0 H8).bind fun a9 =>
 Concat_byte_J11 n a8 t0 a9 (.int .i64 0) H8 (E8 ++ E))) = some r) : Concat_byte_J3 n t0 t3 t9 t10 t11 H E = some r :=
 loop_step' (by kernel_rfl) hh
theorem Concat_byte_J11_of {r : R3} {n : Nat} {t6 t25 t26 t27 : AV} {H : List AObj} {E : List Nat} (hh : (
 (binA .lss (Go.TypeDesc.int Go.IntKind.i64) (cmpT Try.prog) false t27 t26).bind fun a1 =>
 condK a1
 ((ixA 1 t25 t27 H).bind fun a2 =>
 (loadA false 1 a2 H).bind fun a3 =>
 appK 1 1 t6 a3 H fun a4 H4 E4 =>
 (binA .add (Go.TypeDesc.int Go.IntKind.i64) (cmpT Try.prog) true t27 (.int .i64 1)).bind fun a5 =>
 Concat_byte_J11 n a4 t25 t26 a5 H4 ((E4 ++ []) ++ E))
 (endB false false n t6 H E)) = some r) : Concat_byte_J11 n t6 t25 t26 t27 H E = some r :=
 loop_step' (by kernel_rfl) hh
theorem Concat_byte_of {r : R3} {x0 : AV} {H : List AObj} (hh : (fun n => (
 (lenV x0 H).bind fun a1 =>
 Concat_byte_J3 n x0 (.int .i64 0) x0 a1 (.int .i64 0) H [])) (List.length H) = some r) : EV C n_Concat_byte [x0] H = some r :=
 EV_of_fnK' (fn := Try.f29) (by kernel_rfl) (by kernel_rfl) (by kernel_rfl) hh
theorem disk_Disk_step_of {r : R3} {x0 : AV} {H : List AObj} (hh : (fun n => (
 (nilA x0).bind fun a1 =>
 (offA a1 3).bind fun a2 =>
 (loadA false 1 a2 H).bind fun a3 =>
 (binA .add (Go.TypeDesc.int Go.IntKind.i64) (cmpT Try.prog) true a3 (.int .i64 1)).bind fun a4 =>
 (nilA x0).bind fun a5 =>
 (offA a5 3).bind fun a6 =>
 stoK 1 a6 a4 H fun H7 E7 =>
 (nilA x0).bind fun a8 =>
 (offA a8 4).bind fun a9 =>
 (loadA false 1 a9 H7).bind fun a10 =>
 (unA .not a10).bind fun a11 =>
 condK a11
 (endB false false n (.bool true) H7 (E7 ++ []))
 ((nilA x0).bind fun a12 =>
 (offA a12 5).bind fun a13 =>
 (loadA false 1 a13 H7).bind fun a14 =>
 (binA .eql (Go.TypeDesc.int Go.IntKind.i64) (cmpT Try.prog) true a14 (.int .i64 0)).bind fun a15 =>
 condK a15
 ((nilA x0).bind fun a16 =>
 (offA a16 2).bind fun a17 =>
 stoK 1 a17 (.bool true) H7 fun H18 E18 =>
 endB false false n (.bool false) H18 (E18 ++ (E7 ++ [])))
 ((nilA x0).bind fun a19 =>
 (offA a19 5).bind fun a20 =>
 (loadA false 1 a20 H7).bind fun a21 =>
 (binA .sub (Go.TypeDesc.int Go.IntKind.i64) (cmpT Try.prog) true a21 (.int .i64 1)).bind fun a22 =>
 (nilA x0).bind fun a23 =>
 (offA a23 5).bind fun a24 =>
 stoK 1 a24 a22 H7 fun H25 E25 =>
 endB false false n (.bool true) H25 (E25 ++ (E7 ++ [])))))) (List.length H) = some r) : EV C n_disk_Disk_step [x0] H = some r :=
 EV_of_fnK' (fn := Try.f30) (by kernel_rfl) (by kernel_rfl) (by kernel_rfl) hh
theorem disk_Disk_there_of {r : R3} {x0 x1 : AV} {H : List AObj} (hh : (fun n => (
 (nilA x0).bind fun a1 =>
 (offA a1 2).bind fun a2 =>
 (loadA false 1 a2 H).bind fun a3 =>
 condK a3
 (endB false false n (.ifc t_api_Code (.int .i64 10)) H [])
 ((nilA x0).bind fun a4 =>
 (offA a4 1).bind fun a5 =>
 (loadA false 1 a5 H).bind fun a6 =>
 (lookV (some Go.TypeDesc.string) (.agg [.nils, (.int .i64 0)]) true a6 x1 H).bind fun a7 =>
 (extA a7 0).bind fun a8 =>
 (extA a7 1).bind fun a9 =>
 newK (.agg [.nils, (.int .i64 0)]) H fun a10 H10 E10 =>
 stoK 2 a10 a8 H10 fun H11 E11 =>
 (unA .not a9).bind fun a12 =>
 condK a12
 (endB false false n (.ifc t_api_Code (.int .i64 9)) H11 (E11 ++ (E10 ++ [])))
 (endB false false n .nili H11 (E11 ++ (E10 ++ [])))))) (List.length H) = some r) : EV C n_disk_Disk_there [x0, x1] H = some r :=
 EV_of_fnK' (fn := Try.f31) (by kernel_rfl) (by kernel_rfl) (by kernel_rfl) hh
theorem Clone_byte_of {r : R3} {x0 : AV} {H : List AObj} (hh : (fun n => (
 (binA .eql (Go.TypeDesc.slice 5) (cmpT Try.prog) true x0 .nils).bind fun a1 =>
 condK a1
 (endB false false n .nils H [])
 ((appD 1 1 (AV.emp none) x0 H).bind fun a2 =>
 endB false false n a2 H []))) (List.length H) = some r) : EV C0 n_Clone_byte [x0] H = some r :=
 EV_of_fnK' (fn := Try.f32) (by kernel_rfl) (by kernel_rfl) (by kernel_rfl) hh
theorem disk_Disk_Names_of {r : R3} {x0 : AV} {H : List AObj} (hh : (fun n => (
 (nilA x0).bind fun a1 =>
 (offA a1 1).bind fun a2 =>
 (loadA false 1 a2 H).bind fun a3 =>
 callK (EV C) true n_maps_Keys_disk_file [a3] H fun a4 H4 E4 =>
 callK (EV C) false n_Sorted_string [a4] H4 fun a5 H5 E5 =>
 endB false false n a5 H5 (E5 ++ (E4 ++ [])))) (List.length H) = some r) : EV C n_disk_Disk_Names [x0] H = some r :=
 EV_of_fnK' (fn := Try.f33) (by kernel_rfl) (by kernel_rfl) (by kernel_rfl) hh
end Go.Pm
namespace Go.Pm
open Go.Proofs
set_option linter.unusedVariables false
set_option maxRecDepth 100000
theorem Grow_byte_of {r : R3} {x0 x1 : AV} {H : List AObj} (hh : (fun n => (
 (binA .lss (Go.TypeDesc.int Go.IntKind.i64) (cmpT Try.prog) true x1 (.int .i64 0)).bind fun a1 =>
 condK a1
 (none)
 ((capA x0).bind fun a2 =>
 (lenV x0 H).bind fun a3 =>
 (binA .sub (Go.TypeDesc.int Go.IntKind.i64) (cmpT Try.prog) false a2 a3).bind fun a4 =>
 (binA .sub (Go.TypeDesc.int Go.IntKind.i64) (cmpT Try.prog) false x1 a4).bind fun a5 =>
 (binA .gtr (Go.TypeDesc.int Go.IntKind.i64) (cmpT Try.prog) true a5 (.int .i64 0)).bind fun a6 =>
 condK a6
 ((capA x0).bind fun a7 =>
 (cutA 1 x0 none (some a7) none H).bind fun a8 =>
 zapK 1 1 (.int .u8 0) a8 a5 H fun a9 H9 E9 =>
 (lenV x0 H9).bind fun a10 =>
 (cutA 1 a9 none (some a10) none H9).bind fun a11 =>
 trmK a11 H9 [] fun a12 H12 E12 =>
 endB true true n a12 H12 (E12 ++ (E9 ++ [])))
 (endB true true n x0 H [])))) (List.length H) = some r) : EV C n_Grow_byte [x0, x1] H = some r :=
 EV_of_fnK' (fn := Try.f42) (by kernel_rfl) (by kernel_rfl) (by kernel_rfl) hh
theorem maps_Keys_disk_file_of {r : R3} {x0 : AV} {H : List AObj} (hh : (fun n => (
 newK x0 H fun a1 H1 E1 =>
 endB true true n (.clo n_maps_Keys_map_string_disk_file_string_disk_file_1 [] [a1]) H1 (E1 ++ []))) (List.length H) = some r) : EV C n_maps_Keys_disk_file [x0] H = some r :=
 EV_of_fnK' (fn := Try.f44) (by kernel_rfl) (by kernel_rfl) (by kernel_rfl) hh
end Go.Pm
namespace Go.Pm
open Go.Proofs
set_option linter.unusedVariables false
set_option maxRecDepth 100000
theorem Clone_byte_r_of {r : R3} {x0 : AV} {H : List AObj} (hh : (fun n => (
 (binA .eql (Go.TypeDesc.slice 5) (cmpT Try.prog) true x0 .nils).bind fun a1 =>
 condK a1
 (endB true true n .nils H [])
 (appK 1 1 (AV.emp none) x0 H fun a2 H2 E2 =>
 endB true true n a2 H2 (E2 ++ [])))) (List.length H) = some r) : EV C0 n_Clone_byte_r [x0] H = some r :=
 EV_of_fnK' (fn := Try.f32) (by kernel_rfl) (by kernel_rfl) (by kernel_rfl) hh
theorem disk_Disk_Read_r_of {r : R3} {x0 x1 : AV} {H : List AObj} (hh : (fun n => (
 callK (EV C) false n_disk_Disk_there [x0, x1] H fun a1 H1 E1 =>
 (binA .neq (Go.TypeDesc.interface #[("Error", 123)]) (cmpT Try.prog) true a1 .nili).bind fun a2 =>
 condK a2
 (endB true true n (.tup [.nils, a1]) H1 (E1 ++ []))
 ((nilA x0).bind fun a3 =>
 (offA a3 1).bind fun a4 =>
 (loadA false 1 a4 H1).bind fun a5 =>
 (lookV (some Go.TypeDesc.string) (.agg [.nils, (.int .i64 0)]) false a5 x1 H1).bind fun a6 =>
 (fldA false 1 0 a6).bind fun a7 =>
 callK (EV C) true n_Clone_byte_r [a7] H1 fun a8 H8 E8 =>
 endB true true n (.tup [a8, .nili]) H8 (E8 ++ (E1 ++ []))))) (List.length H) = some r) : EV C n_disk_Disk_Read_r [x0, x1] H = some r :=
 EV_of_fnK' (fn := Try.f13) (by kernel_rfl) (by kernel_rfl) (by kernel_rfl) hh
theorem disk_Disk_Append_r_of {r : R3} {x0 x1 x2 : AV} {H : List AObj} (hh : (fun n => (
 (nilA x0).bind fun a1 =>
 (offA a1 1).bind fun a2 =>
 (loadA false 1 a2 H).bind fun a3 =>
 (lookV (some Go.TypeDesc.string) (.agg [.nils, (.int .i64 0)]) true a3 x1 H).bind fun a4 =>
 (extA a4 0).bind fun a5 =>
 (extA a4 1).bind fun a6 =>
 newK (.agg [.nils, (.int .i64 0)]) H fun a7 H7 E7 =>
 stoK 2 a7 a5 H7 fun H8 E8 =>
 (nilA x0).bind fun a9 =>
 (offA a9 2).bind fun a10 =>
 (loadA false 1 a10 H8).bind fun a11 =>
 condK a11
 (endB false false n (.ifc t_api_Code (.int .i64 10)) H8 (E8 ++ (E7 ++ [])))
 (callK (EV C) false n_disk_named [x1] H8 fun a12 H12 E12 =>
 (unA .not a12).bind fun a13 =>
 condK a13
 (endB false false n (.ifc t_api_Code (.int .i64 1)) H12 (E12 ++ (E8 ++ (E7 ++ []))))
 ((lenV x2 H12).bind fun a14 =>
 callK (EV C) false n_disk_Disk_Room [x0] H12 fun a15 H15 E15 =>
 (binA .gtr (Go.TypeDesc.int Go.IntKind.i64) (cmpT Try.prog) false a14 a15).bind fun a16 =>
 splitK a16
 (endB false false n (.ifc t_api_Code (.int .i64 11)) H15 (E15 ++ (E12 ++ (E8 ++ (E7 ++ [])))))
 ((unA .not a6).bind fun a17 =>
 splitK a17
 ((nilA x0).bind fun a18 =>
 (offA a18 1).bind fun a19 =>
 (loadA false 1 a19 H15).bind fun a20 =>
 (lenW a20 H15).bind fun a21 =>
 (binA .geq (Go.TypeDesc.int Go.IntKind.i64) (cmpT Try.prog) true a21 (.int .i64 8)).bind fun a22 =>
 condK a22
 (endB false false n (.ifc t_api_Code (.int .i64 11)) H15 (E15 ++ (E12 ++ (E8 ++ (E7 ++ [])))))
 ((offA a7 0).bind fun a23 =>
 (loadA false 1 a23 H15).bind fun a24 =>
 rawK 1 2 .nils [(0, a24), (1, x2)] H15 fun a25 H25 E25 =>
 callK (EV C) true n_Concat_byte_r [a25] H25 fun a26 H26 E26 =>
 (offA a7 0).bind fun a27 =>
 stoK 1 a27 a26 H26 fun H28 E28 =>
 (nilA x0).bind fun a29 =>
 (offA a29 1).bind fun a30 =>
 (loadA false 1 a30 H28).bind fun a31 =>
 (loadA true 2 a7 H28).bind fun a32 =>
 updK (some Go.TypeDesc.string) a31 x1 a32 H28 fun H33 =>
 callK (EV C) false n_disk_Disk_step [x0] H33 fun a34 H34 E34 =>
 (unA .not a34).bind fun a35 =>
 condK a35
 (endB false false n (.ifc t_api_Code (.int .i64 10)) H34 (E34 ++ (E28 ++ (E26 ++ (E25 ++ (E15 ++ (E12 ++ (E8 ++ (E7 ++ [])))))))))
 (endB false false n .nili H34 (E34 ++ (E28 ++ (E26 ++ (E25 ++ (E15 ++ (E12 ++ (E8 ++ (E7 ++ [])))))))))))
 ((offA a7 0).bind fun a36 =>
 (loadA false 1 a36 H15).bind fun a37 =>
 rawK 1 2 .nils [(0, a37), (1, x2)] H15 fun a38 H38 E38 =>
 callK (EV C) true n_Concat_byte_r [a38] H38 fun a39 H39 E39 =>
 (offA a7 0).bind fun a40 =>
 stoK 1 a40 a39 H39 fun H41 E41 =>
 (nilA x0).bind fun a42 =>
 (offA a42 1).bind fun a43 =>
 (loadA false 1 a43 H41).bind fun a44 =>
 (loadA true 2 a7 H41).bind fun a45 =>
 updK (some Go.TypeDesc.string) a44 x1 a45 H41 fun H46 =>
 callK (EV C) false n_disk_Disk_step [x0] H46 fun a47 H47 E47 =>
 (unA .not a47).bind fun a48 =>
 condK a48
 (endB false false n (.ifc t_api_Code (.int .i64 10)) H47 (E47 ++ (E41 ++ (E39 ++ (E38 ++ (E15 ++ (E12 ++ (E8 ++ (E7 ++ [])))))))))
 (endB false false n .nili H47 (E47 ++ (E41 ++ (E39 ++ (E38 ++ (E15 ++ (E12 ++ (E8 ++ (E7 ++ []))))))))))))))) (List.length H) = some r) : EV C n_disk_Disk_Append_r [x0, x1, x2] H = some r :=
 EV_of_fnK' (fn := Try.f12) (by kernel_rfl) (by kernel_rfl) (by kernel_rfl) hh
noncomputable def Concat_byte_r_J3 (n : Nat) (t0 t3 t9 t10 t11 : AV) (H : List AObj) (E : List Nat) : Option R3 :=
 loopK Try.prog C.G (EV C) (C.hint 1000029) Try.f29 (cAt (bodyOf Try.f29) [1, 1, 0, 1, 0, 0]) (kAt Try.prog C.G (EV C) (C.hint 1000029) Try.f29 (bodyOf Try.f29) [1, 1, 0, 1, 0] [] (endK Try.prog (C.hint 1000029) Try.f29 n))
 ⟨pat 36 [(0, t0), (3, t3), (9, t9), (10, t10), (11, t11)], H, E⟩
noncomputable def Concat_byte_r_J11 (n : Nat) (t6 t25 t26 t27 : AV) (H : List AObj) (E : List Nat) : Option R3 :=
 loopK Try.prog C.G (EV C) (C.hint 1000029) Try.f29 (cAt (bodyOf Try.f29) [1, 1, 1, 1, 0, 1, 0, 0]) (kAt Try.prog C.G (EV C) (C.hint 1000029) Try.f29 (bodyOf Try.f29) [1, 1, 1, 1, 0, 1, 0] [] (endK Try.prog (C.hint 1000029) Try.f29 n))
 ⟨pat 36 [(6, t6), (25, t25), (26, t26), (27, t27)], H, E⟩
theorem Concat_byte_r_J3_of {r : R3} {n : Nat} {t0 t3 t9 t10 t11 : AV} {H : List AObj} {E : List Nat} (hh : (
 (binA .lss (Go.TypeDesc.int Go.IntKind.i64) (cmpT Try.prog) false t11 t10).bind fun a1 =>
 condK a1
 ((ixA 1 t9 t11 H).bind fun a2 =>
 (loadA false 1 a2 H).bind fun a3 =>
 (lenV a3 H).bind fun a4 =>
 (binA .add (Go.TypeDesc.int Go.IntKind.i64) (cmpT Try.prog) false t3 a4).bind fun a5 =>
 (binA .lss (Go.TypeDesc.int Go.IntKind.i64) (cmpT Try.prog) true a5 (.int .i64 0)).bind fun a6 =>
 condK a6
 (none)
 ((binA .add (Go.TypeDesc.int Go.IntKind.i64) (cmpT Try.prog) true t11 (.int .i64 1)).bind fun a7 =>
 Concat_byte_r_J3 n t0 a5 t9 t10 a7 H E))
 (callK (EV C) true n_Grow_byte [.nils, t3] H fun a8 H8 E8 =>
 (lenV t0 H8).bind fun a9 =>
 Concat_byte_r_J11 n a8 t0 a9 (.int .i64 0) H8 (E8 ++ E))) = some r) : Concat_byte_r_J3 n t0 t3 t9 t10 t11 H E = some r :=
 loop_step' (by kernel_rfl) hh
theorem Concat_byte_r_J11_of {r : R3} {n : Nat} {t6 t25 t26 t27 : AV} {H : List AObj} {E : List Nat} (hh : (
 (binA .lss (Go.TypeDesc.int Go.IntKind.i64) (cmpT Try.prog) false t27 t26).bind fun a1 =>
 condK a1
 ((ixA 1 t25 t27 H).bind fun a2 =>
 (loadA false 1 a2 H).bind fun a3 =>
 appK 1 1 t6 a3 H fun a4 H4 E4 =>
 (binA .add (Go.TypeDesc.int Go.IntKind.i64) (cmpT Try.prog) true t27 (.int .i64 1)).bind fun a5 =>
 Concat_byte_r_J11 n a4 t25 t26 a5 H4 ((E4 ++ []) ++ E))
 (endB false false n t6 H E)) = some r) : Concat_byte_r_J11 n t6 t25 t26 t27 H E = some r :=
 loop_step' (by kernel_rfl) hh
theorem Concat_byte_r_of {r : R3} {x0 : AV} {H : List AObj} (hh : (fun n => (
 (lenV x0 H).bind fun a1 =>
 Concat_byte_r_J3 n x0 (.int .i64 0) x0 a1 (.int .i64 0) H [])) (List.length H) = some r) : EV C n_Concat_byte_r [x0] H = some r :=
 EV_of_fnK' (fn := Try.f29) (by kernel_rfl) (by kernel_rfl) (by kernel_rfl) hh
end Go.Pm
namespace Go.Pm
open Go.Proofs
set_option linter.unusedVariables false
set_option linter.unusedSimpArgs false
def stepN (c : Nat) : Nat := if c % 2 = 1 then (c / 2) ^^^ 2197175160 else c / 2
def stepsN : Nat → Nat → Nat
  | 0, c => c
  | n + 1, c => stepsN n (stepN c)
def crcL : List UInt8 → Nat → Nat
  | [], c => c
  | b :: l, c => crcL l (stepsN 8 (c ^^^ b.toNat))
def crc (l : List UInt8) : Nat := crcL l 4294967295 ^^^ 4294967295
end Go.Pm
namespace Go.Pm
open Go.Proofs
set_option linter.unusedVariables false
set_option linter.unusedSimpArgs false
def fourL (v : Nat) : List UInt8 := [UInt8.ofNat (v / 2^24), UInt8.ofNat (v / 2^16), UInt8.ofNat (v / 2^8), UInt8.ofNat v]
theorem ixA_map {α : Type} {f : α → AV} (hf : ∀ a, (f a).cells = [f a]) {l : List α} {k : IntKind} {i : Nat} {a : α} {H : List AObj} (h : l[i]? = some a) : ixA 1 (.lst (l.map f)) (.int k i) H = some (.ip [f a]) := by
  rw [ixA_lst (e := f a) (by omega) (by simp [h]) (by simp [hf]), hf]
theorem Grow_byte_ok (n : Nat) (h0 : 0 < n) (h1 : n ≤ 2^46) (H : List AObj) : EV C n_Grow_byte [.nils, .int .i64 n] H = some (.slc (H.length + 1) 0 0 0, H ++ [.dead, .row 1 []], []) := by
  refine Grow_byte_of ?_
  have e0 : ¬ ((n : Int) < 0) := by omega
  have e1 : (0 : Int) < (n : Int) := by omega
  have w0 : IntKind.i64.wrap ((0 : Int) - 0) = 0 := by decide
  have w1 : IntKind.i64.wrap ((n : Int) - 0) = n := by rw [wrap64] <;> omega
  have l0 : ∀ H, lenV .nils H = some (.int .i64 0) := fun H => rfl
  have c1 : cutA 1 .nils none (some (.int .i64 0)) none H = some .nils := rfl
  simp only [lss_int, Option.bind_some, e0, decide_false, condK_f, capA, l0, sub_int, w0, w1, gtr_int, e1, decide_true, condK_t, c1]
  have z1 : appZ 1 1 (.int .u8 0) .nils (.int .i64 n) H = some (.slc H.length 0 n n, H ++ [.row 1 (List.replicate n (.int .u8 0))], []) := by
    have : (n : Int) ≤ 140737489400832 := by omega
    simp [appZ, e1, this, AV.cells, AV.one]
    omega
  simp only [zapK, z1, Option.bind_some, l0]
  have c2 : cutA 1 (.slc H.length 0 n n) none (some (.int .i64 0)) none (H ++ [.row 1 (List.replicate n (.int .u8 0))]) = some (.slc H.length 0 0 n) := by
    simp [cutA, lenA, lenOf, boundA]
  simp only [c2, Option.bind_some, trmK, trimA]
  simp [endB_raw]
theorem grow0 (H : List AObj) : EV C n_Grow_byte [.nils, .int .i64 ((0 : Nat) : Int)] H = some (.nils, H, []) := by
  show EV C n_Grow_byte [.nils, .int .i64 0] H = _
  refine Grow_byte_of ?_
  have w0 : IntKind.i64.wrap ((0 : Int) - 0) = 0 := by decide
  have l0 : ∀ H, lenV .nils H = some (.int .i64 0) := fun H => rfl
  simp only [lss_int, Option.bind_some, Int.lt_irrefl, decide_false, condK_f, capA, l0, sub_int, w0, gtr_int]
  exact endB_raw
theorem take_flat {ls : List (List UInt8)} {i : Nat} (h : i < ls.length) : (ls.take (i + 1)).flatten = (ls.take i).flatten ++ ls[i] := by
  rw [List.take_add_one, List.getElem?_eq_getElem h, List.flatten_append]; simp only [Option.toList, List.flatten_cons, List.flatten_nil, List.append_nil]
theorem flat_le {ls : List (List UInt8)} {i : Nat} : (ls.take i).flatten.length ≤ ls.flatten.length := by
  conv => rhs; rw [← List.take_append_drop i ls]
  rw [List.flatten_append, List.length_append]; omega
theorem concat_rows {ls : List (List UInt8)} (hl : ls.length < 2^62) (ht : ls.flatten.length ≤ 2^46) : ∀ (m i : Nat) (E : List Nat), i + m = ls.length →
    Concat_byte_J11 0 (.slc 1 0 (ls.take i).flatten.length (ls.take i).flatten.length) (.lst (ls.map bys)) (.int .i64 ls.length) (.int .i64 i) [.dead, .row 1 ((ls.take i).flatten.map u8)] E = some (bys ls.flatten, [], [])
  | 0, i, E, h => by
    refine Concat_byte_J11_of ?_
    have e1 : ¬ ((i : Int) < (ls.length : Int)) := by omega
    simp only [lss_int, Option.bind_some, e1, decide_false, condK_f]
    have e2 : ls.take i = ls := List.take_of_length_le (by omega)
    rw [e2]
    exact endB_frz (frz_row (z := 1) rfl (List.length_map _).symm (goodL_u8 _)) (good_bys _)
  | m + 1, i, E, h => by
    refine Concat_byte_J11_of ?_
    have hi : i < ls.length := by omega
    have e1 : ((i : Int) < (ls.length : Int)) := by omega
    have e3 : IntKind.i64.wrap ((i : Int) + 1) = ((i + 1 : Nat) : Int) := by rw [wrap64] <;> omega
    have hf := flat_le (ls := ls) (i := i + 1)
    have ht' := take_flat hi
    rw [ht', List.length_append] at hf
    simp only [lss_int, Option.bind_some, e1, decide_true, condK_t, ixA_map (f := bys) (fun _ => rfl) (List.getElem?_eq_getElem hi), loadA_ip1]
    rw [appK_row (es := (ls.take i).flatten.map u8) (ys := ls[i].map u8) rfl rfl (List.length_map _).symm (lz_u8 _) (by decide) (by decide) (by decide) (by rw [List.length_map]; omega), esc_good (goodL_u8 _)]
    simp only [add_int, Option.bind_some, e3]
    have := concat_rows hl ht m (i + 1) (([] ++ []) ++ E) (by omega)
    rw [ht', List.map_append, List.length_append] at this
    rw [List.length_map]
    exact this
theorem concat_nils {ls : List (List UInt8)} (hl : ls.length < 2^62) (ht : ls.flatten = []) : ∀ (m i : Nat) (E : List Nat), i + m = ls.length →
    Concat_byte_J11 0 .nils (.lst (ls.map bys)) (.int .i64 ls.length) (.int .i64 i) [] E = some (bys [], [], [])
  | 0, i, E, h => by
    refine Concat_byte_J11_of ?_
    have e1 : ¬ ((i : Int) < (ls.length : Int)) := by omega
    simp only [lss_int, Option.bind_some, e1, decide_false, condK_f]
    exact endB_frz rfl (by simp)
  | m + 1, i, E, h => by
    refine Concat_byte_J11_of ?_
    have hi : i < ls.length := by omega
    have e1 : ((i : Int) < (ls.length : Int)) := by omega
    have e3 : IntKind.i64.wrap ((i : Int) + 1) = ((i + 1 : Nat) : Int) := by rw [wrap64] <;> omega
    have e4 : ls[i] = [] := by
      have := List.flatten_eq_nil_iff.1 ht ls[i] (List.getElem_mem hi)
      exact this
    simp only [lss_int, Option.bind_some, e1, decide_true, condK_t, ixA_map (f := bys) (fun _ => rfl) (List.getElem?_eq_getElem hi), loadA_ip1, e4]
    have e5 : ∀ (K : AV → List AObj → List Nat → Option R3), appK 1 1 .nils (bys []) [] K = K .nils [] [] := fun K => rfl
    rw [e5]
    simp only [add_int, Option.bind_some, e3]
    exact concat_nils hl ht m (i + 1) _ (by omega)
theorem concat_sum {ls : List (List UInt8)} (hl : ls.length < 2^62) (ht : ls.flatten.length ≤ 2^46) : ∀ (m i : Nat), i + m = ls.length →
    Concat_byte_J3 0 (.lst (ls.map bys)) (.int .i64 (ls.take i).flatten.length) (.lst (ls.map bys)) (.int .i64 ls.length) (.int .i64 i) [] [] = some (bys ls.flatten, [], [])
  | 0, i, h => by
    refine Concat_byte_J3_of ?_
    have e1 : ¬ ((i : Int) < (ls.length : Int)) := by omega
    simp only [lss_int, Option.bind_some, e1, decide_false, condK_f]
    have e2 : ls.take i = ls := List.take_of_length_le (by omega)
    rw [e2]
    have hlen : ∀ H, lenV (.lst (ls.map bys)) H = some (.int .i64 ls.length) := fun H => by simp
    rcases Nat.eq_zero_or_pos ls.flatten.length with h0 | h0
    · rw [h0, callK_raw (grow0 [])]
      simp only [hlen, Option.bind_some]
      rw [List.length_eq_zero_iff.1 h0]
      exact concat_nils hl (List.length_eq_zero_iff.1 h0) ls.length 0 _ (by omega)
    · rw [callK_raw (Grow_byte_ok _ h0 ht [])]
      simp only [hlen, Option.bind_some]
      exact concat_rows hl ht ls.length 0 _ (by omega)
  | m + 1, i, h => by
    refine Concat_byte_J3_of ?_
    have hi : i < ls.length := by omega
    have e1 : ((i : Int) < (ls.length : Int)) := by omega
    have e3 : IntKind.i64.wrap ((i : Int) + 1) = ((i + 1 : Nat) : Int) := by rw [wrap64] <;> omega
    have hf := flat_le (ls := ls) (i := i + 1)
    have ht' := take_flat hi
    have e4 : IntKind.i64.wrap (((ls.take i).flatten.length : Int) + (ls[i].length : Int)) = ((ls.take (i + 1)).flatten.length : Int) := by
      rw [ht', List.length_append] at hf ⊢
      rw [wrap64] <;> omega
    have e5 : ¬ (((ls.take (i + 1)).flatten.length : Int) < 0) := by omega
    simp only [lss_int, Option.bind_some, e1, decide_true, condK_t, ixA_map (f := bys) (fun _ => rfl) (List.getElem?_eq_getElem hi), loadA_ip1, lenV_bys, add_int, e4, e5, decide_false, condK_f, e3]
    exact concat_sum hl ht m (i + 1) (by omega)
theorem Concat_byte_ok (ls : List (List UInt8)) (hl : ls.length < 2^62) (ht : ls.flatten.length ≤ 2^46) : EV C n_Concat_byte [.lst (ls.map bys)] [] = some (bys ls.flatten, [], []) := by
  refine Concat_byte_of ?_
  have hlen : ∀ H, lenV (.lst (ls.map bys)) H = some (.int .i64 ls.length) := fun H => by simp
  simp only [hlen, Option.bind_some]
  exact concat_sum hl ht ls.length 0 (by omega)
end Go.Pm
namespace Go.Pm
open Go.Proofs
set_option linter.unusedVariables false
set_option linter.unusedSimpArgs false
theorem appD_fresh {z by_ : Nat} {x y : AV} {ys : List AV} {H : List AObj} (hx : freshA x = true) (hy : elemsA y H = some ys) (hg : goodL ys = true) (hz : lz z ys = true) (h1 : 0 < z) (h2 : 0 < by_) (h3 : by_ ≤ 1048576) (h4 : ys.length * by_ ≤ 140737489400832) :
    appD z by_ x y H = some (.lst ys) := by
  unfold appD appF
  rw [hy, Option.bind_some, if_pos ⟨hx, hg, fun _ => ⟨hz, h1, h2, h3, h4⟩⟩]
theorem appK_fresh {β : Type} {z by_ : Nat} {x y : AV} {ys : List AV} {H : List AObj} {K : AV → List AObj → List Nat → Option β} (hx : x = .emp none ∨ x = .nils) (hy : elemsA y H = some ys) (hne : ys.isEmpty = false) (hz : lz z ys = true) (h1 : 0 < z) (h2 : 0 < by_) (h3 : by_ ≤ 1048576) (h4 : ys.length * by_ ≤ 140737489400832) :
    appK z by_ x y H K = K (.slc H.length 0 ys.length ys.length) (H ++ [.row z ys]) [] := by
  unfold appK appendA
  rw [hy, Option.bind_some]
  rcases hx with rfl | rfl <;> simp [hne, hz, h1, h2, h3, h4]
theorem appDb (l : List UInt8) (h : l.length ≤ 2^46) (H : List AObj) : appD 1 1 (AV.emp none) (bys l) H = some (bys l) := appD_fresh rfl rfl (goodL_u8 l) (lz_u8 l) (by decide) (by decide) (by decide) (by simp; omega)
theorem Clone_byte_ok (l : List UInt8) (h : l.length ≤ 2^46) : EV C n_Clone_byte [bys l] [] = some (bys l, [], []) := by
  cases l with
  | nil =>
    refine clone_nil (C0 := C0) (l := [n_Clone_byte, n_Clone_byte_r]) rfl rfl ?_ ?_
    · refine Clone_byte_of ?_
      show endB false false 0 .nils [] [] = _
      exact endB_frz (u := .lst []) rfl rfl
    · refine Clone_byte_of ?_
      show ((appD 1 1 (AV.emp none) (.emp (some false)) []).bind fun a2 => endB false false 0 a2 [] []) = _
      rw [show appD 1 1 (AV.emp none) (.emp (some false)) [] = some (.lst []) from rfl, Option.bind_some]
      exact endB_good rfl
  | cons x l =>
    rw [show bys (x :: l) = .lst (u8 x :: l.map u8) from rfl, clone_cons (C0 := C0) (l := [n_Clone_byte, n_Clone_byte_r]) rfl rfl]
    refine Clone_byte_of ?_
    have e1 : binA .eql (.slice 5) (cmpT Try.prog) true (.lst (u8 x :: l.map u8)) .nils = some (.bool false) := rfl
    simp only [e1, Option.bind_some, condK_f]
    rw [show AV.lst (u8 x :: l.map u8) = bys (x :: l) from rfl, appDb (x :: l) h, Option.bind_some]
    exact endB_good (good_bys (x :: l))
/-- a record's frame -/
def frame (l : List UInt8) : List UInt8 := fourL l.length ++ (fourL (crc (fourL l.length ++ l)) ++ l)
end Go.Pm
namespace Go.Pm
open Go.Proofs
set_option linter.unusedVariables false
set_option linter.unusedSimpArgs false
theorem w64 {x : Int} {n : Nat} (h : x = n) (h1 : n < 2^63) : IntKind.i64.wrap x = (n : Int) := by subst h; rw [wrap64] <;> omega
end Go.Pm
namespace Go.Pm
open Go.Proofs
set_option linter.unusedVariables false
set_option linter.unusedSimpArgs false
theorem ld_fld {H : List AObj} {l z j : Nat} {cs : List AV} {v : AV} (h : H[l]? = some (.row z [.agg cs])) (hv : cs[j]? = some v) : loadA false 1 (.ptr l 1 0 j) H = some v := by
  unfold loadA
  simp only [h, List.length_singleton, if_true, List.getElem?_cons_zero, Option.bind_some, AV.cells, ldv, Bool.false_eq_true, if_false, List.getElem?_drop, Nat.add_zero, hv]
theorem ld_all {H : List AObj} {l z n : Nat} {cs : List AV} (h : H[l]? = some (.row z [.agg cs])) (hn : cs.length = n) : loadA true n (.ptr l 1 0 0) H = some (.agg cs) := by
  unfold loadA
  simp only [h, List.length_singleton, if_true, List.getElem?_cons_zero, Option.bind_some, AV.cells, ldv, List.drop_zero]
  rw [if_pos (by omega), List.take_of_length_le (by omega)]
theorem sto_fld {β : Type} {H : List AObj} {l z j : Nat} {cs : List AV} {v : AV} {K : List AObj → List Nat → Option β} (h : H[l]? = some (.row z [.agg cs])) (hj : j < cs.length) (hc : v.cells = [v]) (h1 : v.one = true) (hb : v.bel (l + 1) = true) :
    stoK 1 (.ptr l 1 0 j) v H K = K (H.set l (.row z [.agg (cs.set j v)])) [] := by
  have h2 : storeA 1 (.ptr l 1 0 j) v H = some (H.set l (.row z [.agg (cs.set j v)]), []) := by
    have e : cs.take j ++ [v] ++ cs.drop (j + 1) = cs.set j v := by
      rw [List.set_eq_take_append_cons_drop, if_pos hj]; simp
    unfold storeA
    simp only [h, hc, List.length_singleton, List.all_cons, h1, List.all_nil, Bool.and_self, and_self, if_true, List.getElem?_cons_zero, Option.bind_some, setC]
    rw [if_pos (by omega), e]
    simp [escs, belL, hb]
  unfold stoK; rw [h2]; rfl
theorem sto_all {β : Type} {H : List AObj} {l z n : Nat} {cs ds : List AV} {K : List AObj → List Nat → Option β} (h : H[l]? = some (.row z [.agg cs])) (hn : cs.length = n) (hd : ds.length = n) (h1 : ds.all AV.one = true) (hb : belL (l + 1) ds = true) :
    stoK n (.ptr l 1 0 0) (.agg ds) H K = K (H.set l (.row z [.agg ds])) [] := by
  have h2 : storeA n (.ptr l 1 0 0) (.agg ds) H = some (H.set l (.row z [.agg ds]), []) := by
    unfold storeA
    simp only [h, AV.cells, List.length_singleton]
    rw [if_pos ⟨trivial, hd, h1⟩]
    simp only [List.getElem?_cons_zero, Option.bind_some, setC]
    rw [if_pos (by omega)]
    simp [escs, hb, hd, List.drop_of_length_le (show cs.length ≤ n by omega)]
  unfold stoK; rw [h2]; rfl
theorem new_agg {β : Type} {cs : List AV} {H : List AObj} {K : AV → List AObj → List Nat → Option β} (h0 : cs ≠ []) (h1 : cs.all AV.one = true) : newK (.agg cs) H K = K (.ptr H.length 1 0 0) (H ++ [.row cs.length [.agg cs]]) [] := by
  have : newA (.agg cs) H = some (.ptr H.length 1 0 0, H ++ [.row cs.length [.agg cs]], []) := by
    unfold newA
    rw [show (AV.agg cs).cells = cs from rfl, if_pos ⟨h0, h1⟩]
  unfold newK; rw [this]; rfl
structure Fil where
  b : List UInt8
  sy : Int
structure Dk where
  sz : Int
  fs : List (List UInt8 × Fil)
  off : Bool
  steps : Int
  has : Bool
  bud : Int
def Fil.cs (f : Fil) : List AV := [bys f.b, .int .i64 f.sy]
def Fil.av (f : Fil) : AV := .agg f.cs
def fobj (fs : List (List UInt8 × Fil)) : AObj := mpo sv Fil.av fs
def Dk.cs (L : Nat) (d : Dk) : List AV := [.int .i64 d.sz, .mp L, .bool d.off, .int .i64 d.steps, .bool d.has, .int .i64 d.bud]
def drow (L : Nat) (d : Dk) : AObj := .row 6 [.agg (d.cs L)]
theorem Fil.good (f : Fil) : f.av.good = true := by simp [Fil.av, Fil.cs, AV.good, goodL]
theorem Fil.bel0 (f : Fil) : f.av.bel 0 = true := bel_good 0 _ f.good
structure At (H : List AObj) (L D : Nat) (d : Dk) : Prop where
  m : H[L]? = some (fobj d.fs)
  r : H[D]? = some (drow L d)
  lt : L < D
theorem At.dl {H : List AObj} {L D : Nat} {d : Dk} (h : At H L D d) : D < H.length := (List.getElem?_eq_some_iff.1 h.r).1
theorem At.app {H : List AObj} {L D : Nat} {d : Dk} (h : At H L D d) (X : List AObj) : At (H ++ X) L D d := by
  have := h.dl; have := h.lt
  exact ⟨by rw [List.getElem?_append_left (by omega)]; exact h.m, by rw [List.getElem?_append_left (by omega)]; exact h.r, h.lt⟩
def pt (H : List AObj) (L D : Nat) (d : Dk) : List AObj := (H.set L (fobj d.fs)).set D (drow L d)
theorem pt_len (H : List AObj) (L D : Nat) (d : Dk) : (pt H L D d).length = H.length := by simp [pt]
theorem At.pt {H : List AObj} {L D : Nat} {d0 : Dk} (h : At H L D d0) (d : Dk) : At (pt H L D d) L D d := by
  have := h.dl; have := h.lt
  refine ⟨?_, ?_, h.lt⟩
  · unfold Go.Pm.pt; rw [List.getElem?_set_ne (by omega), List.getElem?_set_self (by omega)]
  · unfold Go.Pm.pt; rw [List.getElem?_set_self (by simpa using h.dl)]
theorem pt_self {H : List AObj} {L D : Nat} {d : Dk} (h : At H L D d) : pt H L D d = H := by
  have := h.dl; have := h.lt
  obtain ⟨h1, h2⟩ := List.getElem?_eq_some_iff.1 h.m
  obtain ⟨h3, h4⟩ := List.getElem?_eq_some_iff.1 h.r
  unfold pt
  rw [← h2, List.set_getElem_self, ← h4, List.set_getElem_self]
theorem pt_pt {H : List AObj} {L D : Nat} (d d' : Dk) (h : L < D) : pt (pt H L D d) L D d' = pt H L D d' := by
  unfold pt
  rw [List.set_comm _ _ (show D ≠ L by omega), List.set_set, List.set_set]
theorem pt_app {H : List AObj} {L D : Nat} {d0 : Dk} (h : At H L D d0) (X : List AObj) (d : Dk) : pt (H ++ X) L D d = pt H L D d ++ X := by
  have := h.dl; have := h.lt
  unfold pt
  rw [List.set_append_left _ _ (by omega), List.set_append_left _ _ (by simpa using h.dl)]
/-- a cell of the disk's own -/
theorem set_D {H : List AObj} {L D : Nat} {d : Dk} (h : At H L D d) (d' : Dk) (hf : d'.fs = d.fs) : H.set D (drow L d') = pt H L D d' := by
  obtain ⟨h1, h2⟩ := List.getElem?_eq_some_iff.1 h.m
  unfold pt
  rw [hf, ← h2, List.set_getElem_self]
/-- its files -/
theorem set_L {H : List AObj} {L D : Nat} {d : Dk} (h : At H L D d) (fs : List (List UInt8 × Fil)) : H.set L (fobj fs) = pt H L D { d with fs := fs } := by
  have := h.lt
  obtain ⟨h1, h2⟩ := List.getElem?_eq_some_iff.1 h.r
  have e : drow L { d with fs := fs } = drow L d := rfl
  unfold pt
  rw [e, List.set_comm _ _ (show L ≠ D by omega), ← h2, List.set_getElem_self]
section
variable {β : Type} {H : List AObj} {L D : Nat} {d : Dk} {K : List AObj → List Nat → Option β}
theorem At.sz (h : At H L D d) : loadA false 1 (.ptr D 1 0 0) H = some (.int .i64 d.sz) := ld_fld h.r rfl
theorem At.fs (h : At H L D d) : loadA false 1 (.ptr D 1 0 1) H = some (.mp L) := ld_fld h.r rfl
theorem At.off (h : At H L D d) : loadA false 1 (.ptr D 1 0 2) H = some (.bool d.off) := ld_fld h.r rfl
theorem At.st (h : At H L D d) : loadA false 1 (.ptr D 1 0 3) H = some (.int .i64 d.steps) := ld_fld h.r rfl
theorem At.has (h : At H L D d) : loadA false 1 (.ptr D 1 0 4) H = some (.bool d.has) := ld_fld h.r rfl
theorem At.bud (h : At H L D d) : loadA false 1 (.ptr D 1 0 5) H = some (.int .i64 d.bud) := ld_fld h.r rfl
theorem At.soff (h : At H L D d) (b : Bool) : stoK 1 (.ptr D 1 0 2) (.bool b) H K = K (Go.Pm.pt H L D { d with off := b }) [] := by
  rw [sto_fld h.r (by simp [Dk.cs]) rfl rfl rfl, ← set_D h { d with off := b } rfl]; rfl
theorem At.sst (h : At H L D d) (n : Int) : stoK 1 (.ptr D 1 0 3) (.int .i64 n) H K = K (Go.Pm.pt H L D { d with steps := n }) [] := by
  rw [sto_fld h.r (by simp [Dk.cs]) rfl rfl rfl, ← set_D h { d with steps := n } rfl]; rfl
theorem At.shas (h : At H L D d) (b : Bool) : stoK 1 (.ptr D 1 0 4) (.bool b) H K = K (Go.Pm.pt H L D { d with has := b }) [] := by
  rw [sto_fld h.r (by simp [Dk.cs]) rfl rfl rfl, ← set_D h { d with has := b } rfl]; rfl
theorem At.sbud (h : At H L D d) (n : Int) : stoK 1 (.ptr D 1 0 5) (.int .i64 n) H K = K (Go.Pm.pt H L D { d with bud := n }) [] := by
  rw [sto_fld h.r (by simp [Dk.cs]) rfl rfl rfl, ← set_D h { d with bud := n } rfl]; rfl
theorem At.look (h : At H L D d) (z : AV) (ok : Bool) (nm : List UInt8) : lookV (some .string) z ok (.mp L) (sv nm) H = some (lookL Fil.av z ok (getL nm d.fs)) := lookV_mpo keyS h.m z ok nm
theorem At.upd (h : At H L D d) (nm : List UInt8) (f : Fil) (hl : d.fs.length < 2^40) {K : List AObj → Option β} : updK (some .string) (.mp L) (sv nm) f.av H K = K (Go.Pm.pt H L D { d with fs := putL nm f d.fs }) := by
  rw [updK_mpo keyS h.m nm f f.bel0 hl, ← set_L h]; rfl
theorem At.len (h : At H L D d) : lenW (.mp L) H = some (.int .i64 (d.fs.length : Int)) := lenW_mpo h.m
end
def DM (f : FuncId) (args : List AV) (d : Dk) (v : AV) (d' : Dk) : Prop := ∀ (H : List AObj) (L D : Nat), At H L D d → EV C f (.ptr D 1 0 0 :: args) H = some (v, pt H L D d', [])
theorem DM.call {f : FuncId} {args : List AV} {d d' : Dk} {v : AV} (h : DM f args d v d') (hg : goodL args = true) {β : Type} {H : List AObj} {L D : Nat} (ha : At H L D d) {K : AV → List AObj → List Nat → Option β} :
    callK (EV C) false f (.ptr D 1 0 0 :: args) H K = K v (pt H L D d') [] := by
  have e1 : frzL H (.ptr D 1 0 0 :: args) = some (.ptr D 1 0 0 :: args) := by simp only [frzL, frz, Option.bind_some, frzL_good H args hg, Option.map_some]
  have e2 : belL 0 (.ptr D 1 0 0 :: args) = false := by simp [belL, AV.bel]
  have e3 : killsL (.ptr D 1 0 0 :: args) = [] := by simp [killsL, kills, killsL_good args hg]
  unfold callK callA
  simp only [Bool.false_eq_true, if_false, e1, Option.bind_some, e2, e3, killAll, h H L D ha]
/-- the end of a method -/
theorem DM.fin {v : AV} {H X : List AObj} {L D : Nat} {d0 d : Dk} (ha : At H L D d0) (hg : v.good = true) : endB false false H.length v (pt H L D d ++ X) [] = some (v, pt H L D d, []) := by
  unfold endB endA
  rw [if_neg (by decide), frz_good _ v hg]
  simp only [Option.map_some, Option.bind_some, kills_good v hg, killAll, Bool.false_eq_true, if_false, bel_good _ v hg, List.all_nil, and_self, if_true]
  rw [List.take_left' (pt_len H L D d)]
theorem DM.fin0 {v : AV} {H : List AObj} {L D : Nat} {d0 d : Dk} (ha : At H L D d0) (hg : v.good = true) : endB false false H.length v (pt H L D d) [] = some (v, pt H L D d, []) := by
  have := DM.fin (X := []) (d := d) ha hg; rwa [List.append_nil] at this
theorem DM.same {v : AV} {H X : List AObj} {L D : Nat} {d : Dk} (ha : At H L D d) (hg : v.good = true) : endB false false H.length v (H ++ X) [] = some (v, pt H L D d, []) := by
  have := DM.fin (X := X) (d := d) ha hg; rwa [pt_self ha] at this ⊢
theorem DM.same0 {v : AV} {H : List AObj} {L D : Nat} {d : Dk} (ha : At H L D d) (hg : v.good = true) : endB false false H.length v H [] = some (v, pt H L D d, []) := by
  have := DM.same (X := []) ha hg; rwa [List.append_nil] at this
/-- an error's number -/
def erA (k : Int) : AV := if k = 0 then .nili else .ifc t_api_Code (.int .i64 k)
theorem er_good (k : Int) : (erA k).good = true := by unfold erA; split <;> rfl
theorem er_neq (k : Int) (ms : Array (String × TypeId)) (c : TypeId → Bool) : binA .neq (.interface ms) c true (erA k) .nili = some (.bool (decide (k ≠ 0))) := by
  unfold erA
  by_cases h : k = 0
  · rw [if_pos h]; simp [h]; rfl
  · rw [if_neg h]; simp [h]; rfl
def stepF (d : Dk) : Bool × Dk :=
  let d1 := { d with steps := IntKind.i64.wrap (d.steps + 1) }
  if d.has = true then (if d.bud = 0 then (false, { d1 with off := true }) else (true, { d1 with bud := IntKind.i64.wrap (d.bud - 1) })) else (true, d1)
theorem step_m (d : Dk) : DM n_disk_Disk_step [] d (.bool (stepF d).1) (stepF d).2 := fun H L D ha => by
  refine disk_Disk_step_of ?_
  obtain ⟨sz, fs, off, st, has, bud⟩ := d
  have h1 := ha.pt ⟨sz, fs, off, IntKind.i64.wrap (st + 1), has, bud⟩
  have nA : nilA (.ptr D 1 0 0) = some (.ptr D 1 0 0) := rfl
  have oA : ∀ k, offA (.ptr D 1 0 0) k = some (.ptr D 1 0 k) := fun k => by simp [offA]
  simp -implicitDefEqProofs only [nA, oA, Option.bind_some, ha.st, add_int, ha.sst, h1.has, unA, List.append_nil]
  unfold stepF
  dsimp only
  cases has with
  | false =>
    simp -implicitDefEqProofs only [Bool.not_false, condK_t, Bool.false_eq_true, if_false]
    exact DM.fin0 ha rfl
  | true =>
    simp -implicitDefEqProofs only [Bool.not_true, condK_f, if_true, h1.bud, Option.bind_some, eql_int, condK_dec]
    by_cases hb : bud = 0
    · rw [if_pos hb, if_pos hb, h1.soff, pt_pt _ _ ha.lt]
      exact DM.fin0 ha rfl
    · rw [if_neg hb, if_neg hb]
      simp -implicitDefEqProofs only [sub_int, Option.bind_some]
      rw [h1.sbud, pt_pt _ _ ha.lt]
      exact DM.fin0 ha rfl
def namedF (nm : List UInt8) : Bool := decide (1 ≤ nm.length) && decide (nm.length ≤ 16)
theorem named_ok (nm : List UInt8) (H : List AObj) : EV C n_disk_named [sv nm] H = some (.bool (namedF nm), H, []) := by
  refine disk_named_of ?_
  have e : lenS (sv nm) = some (.int .i64 (nm.length : Int)) := rfl
  have fin : ∀ b : Bool, endB false false H.length (.bool b) H [] = some (.bool b, H, []) := fun b => by
    unfold endB endA; simp [frz, kills, killAll, AV.bel]
  simp -implicitDefEqProofs only [e, Option.bind_some, geq_int, splitK_dec, leq_int]
  unfold namedF
  by_cases h : (1 : Int) ≤ (nm.length : Int)
  · rw [if_pos h, fin, show decide (1 ≤ nm.length) = true from decide_eq_true (by omega), Bool.true_and]
    congr 3
    rw [Bool.eq_iff_iff]; simp only [decide_eq_true_eq]; omega
  · rw [if_neg h, fin, show decide (1 ≤ nm.length) = false from decide_eq_false (by omega), Bool.false_and]
theorem namedK (nm : List UInt8) {β : Type} {H : List AObj} {K : AV → List AObj → List Nat → Option β} : callK (EV C) false n_disk_named [sv nm] H K = K (.bool (namedF nm)) H [] := callK_ok (by simp [goodL, sv, AV.good]) (named_ok nm [])
def thereF (d : Dk) (nm : List UInt8) : Int := if d.off = true then 10 else if (getL nm d.fs).isNone = true then 9 else 0
theorem there_m (d : Dk) (nm : List UInt8) : DM n_disk_Disk_there [sv nm] d (erA (thereF d nm)) d := fun H L D ha => by
  refine disk_Disk_there_of ?_
  have nA : nilA (.ptr D 1 0 0) = some (.ptr D 1 0 0) := rfl
  have oA : ∀ k, offA (.ptr D 1 0 0) k = some (.ptr D 1 0 k) := fun k => by simp [offA]
  simp -implicitDefEqProofs only [nA, oA, Option.bind_some, ha.off]
  unfold thereF
  cases ho : d.off with
  | true =>
    simp -implicitDefEqProofs only [condK_t, if_true]
    exact DM.same0 ha rfl
  | false =>
    simp -implicitDefEqProofs only [condK_f, Bool.false_eq_true, if_false, ha.fs, Option.bind_some, ha.look]
    have hn : (H ++ [AObj.row 2 [.agg [.nils, .int .i64 0]]])[H.length]? = some (.row 2 [.agg [.nils, .int .i64 0]]) := by simp
    cases hg : getL nm d.fs with
    | none =>
      simp -implicitDefEqProofs only [lookL, if_true, extA_0, extA_1, Option.bind_some]
      rw [new_agg (by simp) rfl]
      refine Eq.trans (sto_all hn rfl rfl rfl rfl) ?_
      simp -implicitDefEqProofs only [unA, Bool.not_false, Option.bind_some, condK_t, Option.isNone_none, if_true]
      rw [List.set_append_right _ _ (by omega)]
      exact DM.same ha rfl
    | some f =>
      simp -implicitDefEqProofs only [lookL, if_true, extA_0, extA_1, Option.bind_some]
      rw [new_agg (by simp) rfl]
      refine Eq.trans (sto_all hn rfl rfl rfl (belL_good _ _ (by simp [Fil.cs, goodL, AV.good]))) ?_
      simp -implicitDefEqProofs only [unA, Bool.not_true, Option.bind_some, condK_f, Option.isNone_some, Bool.false_eq_true, if_false]
      rw [List.set_append_right _ _ (by omega)]
      exact DM.same ha rfl
end Go.Pm
namespace Go.Pm
open Go.Proofs
set_option linter.unusedVariables false
set_option linter.unusedSimpArgs false
theorem nP (D : Nat) : nilA (.ptr D 1 0 0) = some (.ptr D 1 0 0) := rfl
theorem oP (D k : Nat) : offA (.ptr D 1 0 0) k = some (.ptr D 1 0 k) := by simp [offA]
section
variable {f : FuncId} {args : List AV} {d d0 d' : Dk} {v : AV} {β : Type} {H : List AObj} {L D : Nat} {K : AV → List AObj → List Nat → Option β}
theorem DM.callX (h : DM f args d v d') (hg : goodL args = true) (ha : At H L D d) (X : List AObj) : callK (EV C) false f (.ptr D 1 0 0 :: args) (H ++ X) K = K v (pt H L D d' ++ X) [] := by
  rw [h.call hg (ha.app X), pt_app ha]
theorem DM.callPX (h : DM f args d v d') (hg : goodL args = true) (ha : At H L D d0) (X : List AObj) : callK (EV C) false f (.ptr D 1 0 0 :: args) (pt H L D d ++ X) K = K v (pt H L D d' ++ X) [] := by
  rw [h.callX hg (ha.pt d) X, pt_pt _ _ ha.lt]
end
def totF (fs : List (List UInt8 × Fil)) : Nat := (fs.map fun p => p.2.b.length).sum
structure Dk.ok (d : Dk) : Prop where
  s0 : 0 ≤ d.sz
  s1 : d.sz < 2^40
  t : (totF d.fs : Int) ≤ d.sz
  nd : (d.fs.map (·.1)).Nodup
  n8 : d.fs.length ≤ 8
  sy : ∀ p ∈ d.fs, 0 ≤ p.2.sy ∧ p.2.sy ≤ p.2.b.length
  nl : ∀ p ∈ d.fs, p.1.length < 2^40
theorem sumLen_fs : ∀ fs : List (List UInt8 × Fil), sumLen (fs.map (entA sv Fil.av)) = some (totF fs)
  | [] => rfl
  | p :: fs => by
    simp only [List.map_cons, sumLen, sumLen_fs fs, totF, List.sum_cons]
    simp [entA, Fil.av, Fil.cs, fileLen, bys]
def roomOf (d : Dk) : Int := d.sz - totF d.fs
theorem Room_ok {d : Dk} (ho : d.ok) {H : List AObj} {L D : Nat} (ha : At H L D d) : EV C n_disk_Disk_Room [.ptr D 1 0 0] H = some (.int .i64 (roomOf d), H, []) := by
  rw [EV_I C (F := roomF) rfl]
  have h0 := ho.s0; have h1 := ho.s1; have h2 := ho.t
  have hm := ha.m
  unfold fobj mpo at hm
  simp only [roomF, ha.r, drow, Dk.cs, hm, sumLen_fs, Option.bind_some]
  rw [if_pos ⟨h0, by omega, by omega⟩]
  rfl
theorem Room_m {d : Dk} (ho : d.ok) : DM n_disk_Disk_Room [] d (.int .i64 (roomOf d)) d := fun H L D ha => by rw [pt_self ha]; exact Room_ok ho ha
def fileOf (nm : List UInt8) (d : Dk) : Fil := (getL nm d.fs).getD ⟨[], 0⟩
def putF (d : Dk) (nm : List UInt8) (f : Fil) : Dk := { d with fs := putL nm f d.fs }
def stepE (d : Dk) : Int × Dk := (if (stepF d).1 = true then 0 else 10, (stepF d).2)
def appendF (d : Dk) (nm b : List UInt8) : Int × Dk :=
  if d.off = true then (10, d)
  else if namedF nm = true then
    (if roomOf d < (b.length : Int) then (11, d)
    else if (getL nm d.fs).isNone = true ∧ 8 ≤ d.fs.length then (11, d)
    else stepE (putF d nm ⟨(fileOf nm d).b ++ b, (fileOf nm d).sy⟩))
  else (1, d)
theorem lit2 (a b : List UInt8) (v : AV) (hv : v = bys a ∨ (v = .nils ∧ a = [])) {β : Type} {H : List AObj} {K : AV → List AObj → List Nat → Option β} : litK 1 2 .nils [(0, v), (1, bys b)] H K = K (.lst ([a, b].map bys)) H [] := by
  rcases hv with rfl | ⟨rfl, rfl⟩ <;> rfl
theorem tot_get {nm : List UInt8} {f : Fil} {fs : List (List UInt8 × Fil)} (h : getL nm fs = some f) : f.b.length ≤ totF fs := by
  have hm := getL_mem h
  have : ∀ l : List (List UInt8 × Fil), (nm, f) ∈ l → f.b.length ≤ totF l := fun l => by
    induction l with
    | nil => intro h; cases h
    | cons p l ih =>
      intro h
      simp only [totF, List.map_cons, List.sum_cons]
      rcases List.mem_cons.1 h with rfl | h
      · simp
      · have := ih h; simp only [totF] at this; omega
  exact this fs hm
set_option maxHeartbeats 1000000 in
theorem Append_m {d : Dk} (ho : d.ok) (nm b : List UInt8) (hb : b.length ≤ 2^45) : DM n_disk_Disk_Append [sv nm, bys b] d (erA (appendF d nm b).1) (appendF d nm b).2 := fun H L D ha => by
  refine disk_Disk_Append_of ?_
  have h0 := ho.s0; have h1 := ho.s1; have h2 := ho.t; have h8 := ho.n8
  obtain ⟨g, hg⟩ : ∃ g, g = fileOf nm d := ⟨_, rfl⟩
  -- what is found
  obtain ⟨fc, v0, w, e1, e2, e3, e4, e5⟩ : ∃ (fc : List AV) (v0 : AV) (has : Bool), lookL Fil.av (.agg [.nils, .int .i64 0]) true (getL nm d.fs) = .tup [.agg fc, .bool has] ∧ fc = [v0, .int .i64 g.sy] ∧ (v0 = bys g.b ∨ (v0 = .nils ∧ g.b = [])) ∧ has = !(getL nm d.fs).isNone ∧ g.b.length ≤ totF d.fs := by
    rw [hg]; unfold fileOf
    cases hh : getL nm d.fs with
    | none => exact ⟨_, _, _, rfl, rfl, .inr ⟨rfl, rfl⟩, rfl, by simp⟩
    | some f => exact ⟨_, _, _, rfl, rfl, .inl rfl, rfl, tot_get hh⟩
  simp -implicitDefEqProofs only [nP, oP, Option.bind_some, ha.fs, ha.look, e1, extA_0, extA_1]
  rw [new_agg (by simp) rfl]
  have hv1 : v0.one = true ∧ v0.cells = [v0] ∧ ∀ m, v0.bel m = true := by
    rcases e3 with rfl | ⟨rfl, _⟩
    · exact ⟨rfl, rfl, fun m => bel_good m _ (good_bys _)⟩
    · exact ⟨rfl, rfl, fun m => rfl⟩
  have hn : (H ++ [AObj.row 2 [.agg [.nils, .int .i64 0]]])[H.length]? = some (.row 2 [.agg [.nils, .int .i64 0]]) := by simp
  rw [e2]
  refine Eq.trans (sto_all hn rfl rfl (by simp only [List.all_cons, hv1.1, List.all_nil]; rfl) (by simp only [belL, hv1.2.2]; rfl)) ?_
  rw [List.set_append_right _ _ (by omega), Nat.sub_self, List.set_cons_zero]
  obtain ⟨X, hX⟩ : ∃ X, X = [AObj.row 2 [.agg [v0, .int .i64 g.sy]]] := ⟨_, rfl⟩
  rw [← hX]
  have hx0 : ∀ H' : List AObj, H'.length = H.length → (H' ++ X)[H.length]? = some (.row 2 [.agg [v0, .int .i64 g.sy]]) := fun H' h => by rw [hX, List.getElem?_append_right (by omega)]; simp [h]
  simp -implicitDefEqProofs only [nP, oP, Option.bind_some, (ha.app X).off]
  unfold appendF
  cases hoff : d.off with
  | true =>
    simp -implicitDefEqProofs only [condK_t, if_true, List.append_nil]
    exact DM.same ha rfl
  | false =>
    simp -implicitDefEqProofs only [condK_f, Bool.false_eq_true, if_false, namedK, unA, Option.bind_some]
    cases hnm : namedF nm with
    | false =>
      simp -implicitDefEqProofs only [Bool.not_false, condK_t, List.append_nil, Bool.false_eq_true, if_false]
      exact DM.same ha rfl
    | true =>
      simp -implicitDefEqProofs only [Bool.not_true, condK_f, if_true, lenV_bys, Option.bind_some]
      rw [(Room_m ho).callX rfl ha X, pt_self ha]
      simp -implicitDefEqProofs only [gtr_int, Option.bind_some, splitK_dec]
      by_cases hr : roomOf d < (b.length : Int)
      · rw [if_pos hr, if_pos hr]
        exact DM.same ha rfl
      · rw [if_neg hr, if_neg hr]
        -- the body
        have body : ∀ E : List Nat, E = [] → ((loadA false 1 (.ptr H.length 1 0 0) (H ++ X)).bind fun a37 =>
          litK 1 2 .nils [(0, a37), (1, bys b)] (H ++ X) fun a38 H38 E38 =>
          callK (EV C) false n_Concat_byte [a38] H38 fun a39 H39 E39 =>
          stoK 1 (.ptr H.length 1 0 0) a39 H39 fun H41 E41 =>
          (loadA false 1 (.ptr D 1 0 1) H41).bind fun a44 =>
          (loadA true 2 (.ptr H.length 1 0 0) H41).bind fun a45 =>
          updK (some Go.TypeDesc.string) a44 (sv nm) a45 H41 fun H46 =>
          callK (EV C) false n_disk_Disk_step [.ptr D 1 0 0] H46 fun a47 H47 E47 =>
          (unA .not a47).bind fun a48 =>
          condK a48
            (endB false false H.length (.ifc t_api_Code (.int .i64 10)) H47 (E47 ++ (E41 ++ (E39 ++ (E38 ++ E)))))
            (endB false false H.length .nili H47 (E47 ++ (E41 ++ (E39 ++ (E38 ++ E)))))) = some (erA (stepE (putF d nm ⟨g.b ++ b, g.sy⟩)).1, pt H L D (stepE (putF d nm ⟨g.b ++ b, g.sy⟩)).2, []) := fun E hE => by
          subst hE
          rw [ld_fld (hx0 H rfl) rfl, Option.bind_some, lit2 g.b b v0 e3, callK_ok (by simp [goodL]) (Concat_byte_ok [g.b, b] (by simp) (by simp; omega))]
          rw [sto_fld (hx0 H rfl) (by simp) rfl rfl (bel_good _ _ (good_bys _))]
          rw [List.set_append_right _ _ (by omega), Nat.sub_self]
          obtain ⟨X2, hX2⟩ : ∃ X2, X2 = X.set 0 (AObj.row 2 [AV.agg ([v0, AV.int IntKind.i64 g.sy].set 0 (bys [g.b, b].flatten))]) := ⟨_, rfl⟩
          rw [← hX2]
          have hX2' : X2 = [AObj.row 2 [.agg [bys (g.b ++ b), .int .i64 g.sy]]] := by rw [hX2, hX]; simp
          have hx2 : (H ++ X2)[H.length]? = some (.row 2 [.agg [bys (g.b ++ b), .int .i64 g.sy]]) := by rw [hX2', List.getElem?_append_right (by omega)]; simp
          rw [(ha.app X2).fs, Option.bind_some, ld_all (n := 2) hx2 rfl, Option.bind_some]
          rw [show (AV.agg [bys (g.b ++ b), .int .i64 g.sy]) = Fil.av ⟨g.b ++ b, g.sy⟩ from rfl, (ha.app X2).upd nm _ (by omega), pt_app ha]
          rw [show ({ d with fs := putL nm ⟨g.b ++ b, g.sy⟩ d.fs } : Dk) = putF d nm ⟨g.b ++ b, g.sy⟩ from rfl]
          rw [(step_m _).callPX rfl ha X2]
          simp -implicitDefEqProofs only [unA, Option.bind_some, List.append_nil]
          unfold stepE
          cases (stepF (putF d nm ⟨g.b ++ b, g.sy⟩)).1 with
          | true =>
            simp -implicitDefEqProofs only [Bool.not_true, condK_f, if_true]
            exact DM.fin ha rfl
          | false =>
            simp -implicitDefEqProofs only [Bool.not_false, condK_t, Bool.false_eq_true, if_false]
            exact DM.fin ha rfl
        rw [← hg]
        cases hw : w with
        | true =>
          have hn : ¬ ((getL nm d.fs).isNone = true ∧ 8 ≤ d.fs.length) := fun h => by rw [hw, h.1] at e4; cases e4
          rw [if_neg hn]
          simp -implicitDefEqProofs only [unA, Bool.not_true, Option.bind_some, splitK_f, nP, oP, Nat.zero_add, Nat.add_zero]
          exact body _ rfl
        | false =>
          have hn : (getL nm d.fs).isNone = true := by rw [hw] at e4; cases hh : (getL nm d.fs).isNone <;> simp [hh] at e4 ⊢
          simp -implicitDefEqProofs only [unA, Bool.not_false, Option.bind_some, splitK_t, nP, oP, (ha.app X).fs, (ha.app X).len, geq_int, condK_dec, Nat.zero_add, Nat.add_zero]
          by_cases h9 : 8 ≤ d.fs.length
          · rw [if_pos (show (8 : Int) ≤ (d.fs.length : Int) by omega), if_pos ⟨hn, h9⟩]
            exact DM.same ha rfl
          · rw [if_neg (show ¬ (8 : Int) ≤ (d.fs.length : Int) by omega), if_neg (fun h => h9 h.2)]
            exact body _ rfl
end Go.Pm
namespace Go.Pm
open Go.Proofs
set_option linter.unusedVariables false
set_option linter.unusedSimpArgs false
theorem DM.finz {v u : AV} {H X : List AObj} {L D : Nat} {d0 d : Dk} (ha : At H L D d0) (hf : ∀ H', frz H' v = some u) (hk : kills v = []) (hg : u.good = true) : endB false false H.length v (pt H L D d ++ X) [] = some (u, pt H L D d, []) := by
  unfold endB endA
  rw [if_neg (by decide), hf]
  simp only [Option.map_some, Option.bind_some, hk, killAll, Bool.false_eq_true, if_false, bel_good _ u hg, List.all_nil, and_self, if_true]
  rw [List.take_left' (pt_len H L D d)]
theorem DM.samez {v u : AV} {H X : List AObj} {L D : Nat} {d : Dk} (ha : At H L D d) (hf : ∀ H', frz H' v = some u) (hk : kills v = []) (hg : u.good = true) : endB false false H.length v (H ++ X) [] = some (u, pt H L D d, []) := by
  have := DM.finz (X := X) (d := d) ha hf hk hg; rwa [pt_self ha] at this ⊢
theorem DM.samez0 {v u : AV} {H : List AObj} {L D : Nat} {d : Dk} (ha : At H L D d) (hf : ∀ H', frz H' v = some u) (hk : kills v = []) (hg : u.good = true) : endB false false H.length v H [] = some (u, pt H L D d, []) := by
  have := DM.samez (X := []) ha hf hk hg; rwa [List.append_nil] at this
theorem new2 {β : Type} {a b : AV} {H : List AObj} {K : AV → List AObj → List Nat → Option β} (h1 : [a, b].all AV.one = true) : newK (.agg [a, b]) H K = K (.ptr H.length 1 0 0) (H ++ [.row 2 [.agg [a, b]]]) [] := new_agg (by simp) h1
theorem DM.callS {f : FuncId} {args : List AV} {d : Dk} {v : AV} (h : DM f args d v d) (hg : goodL args = true) {β : Type} {H : List AObj} {L D : Nat} (ha : At H L D d) {K : AV → List AObj → List Nat → Option β} :
    callK (EV C) false f (.ptr D 1 0 0 :: args) H K = K v H [] := by rw [h.call hg ha, pt_self ha]
theorem er_frz (k : Int) (H : List AObj) : frz H (erA k) = some (erA k) := frz_good _ _ (er_good k)
theorem er_kills (k : Int) : kills (erA k) = [] := kills_good _ (er_good k)
theorem tup_good (l : List UInt8) (k : Int) : (AV.tup [bys l, erA k]).good = true := by
  have h1 := good_bys l
  have h2 := er_good k
  unfold AV.good goodL goodL goodL
  rw [h1, h2]; rfl
theorem tup_frz (k : Int) (H : List AObj) : frz H (.tup [.nils, erA k]) = some (.tup [bys [], erA k]) := by
  unfold frz frzL frzL frzL
  rw [er_frz]; rfl
theorem tup_kills (k : Int) : kills (.tup [.nils, erA k]) = [] := by
  unfold kills killsL killsL killsL
  rw [er_kills]; rfl
def readF (d : Dk) (nm : List UInt8) : List UInt8 := if thereF d nm = 0 then (fileOf nm d).b else []
theorem there_some {d : Dk} {nm : List UInt8} (h : thereF d nm = 0) : ∃ f, getL nm d.fs = some f ∧ d.off = false := by
  unfold thereF at h
  split at h
  · cases h
  · split at h
    · cases h
    · rename_i h1 h2
      cases hh : getL nm d.fs with
      | none => rw [hh] at h2; simp at h2
      | some f => exact ⟨f, rfl, by simpa using h1⟩
theorem sv_good (nm : List UInt8) : goodL [sv nm] = true := rfl
theorem Read_m {d : Dk} (ho : d.ok) (nm : List UInt8) : DM n_disk_Disk_Read [sv nm] d (.tup [bys (readF d nm), erA (thereF d nm)]) d := fun H L D ha => by
  refine disk_Disk_Read_of ?_
  have h1 := ho.s1; have h2 := ho.t
  dsimp only
  rw [(there_m d nm).callS (sv_good nm) ha]
  simp -implicitDefEqProofs only [er_neq, Option.bind_some, condK_dec]
  unfold readF
  by_cases h : thereF d nm = 0
  · rw [if_neg (fun q => q h), if_pos h]
    obtain ⟨f, hf, _⟩ := there_some h
    simp -implicitDefEqProofs only [nP, oP, Option.bind_some, ha.fs, ha.look, hf, lookL, Bool.false_eq_true, if_false]
    rw [show fldA false 1 0 f.av = some (bys f.b) from rfl, Option.bind_some]
    have hl := tot_get hf
    rw [callK_ok (by simp [goodL]) (Clone_byte_ok f.b (by omega))]
    rw [h]
    rw [show (fileOf nm d).b = f.b from by unfold fileOf; rw [hf]; rfl]
    exact DM.same0 ha (tup_good f.b 0)
  · rw [if_pos h, if_neg h]
    exact DM.samez0 (u := .tup [bys [], erA (thereF d nm)]) ha (tup_frz _) (tup_kills _) (tup_good _ _)
def syncF (d : Dk) (nm : List UInt8) : Int × Dk :=
  if thereF d nm = 0 then (if (stepF d).1 = true then (0, putF (stepF d).2 nm ⟨(fileOf nm d).b, (fileOf nm d).b.length⟩) else (10, (stepF d).2)) else (thereF d nm, d)
theorem step_fs (d : Dk) : (stepF d).2.fs = d.fs := by
  unfold stepF; dsimp only; split
  · split <;> rfl
  · rfl
theorem step_sz (d : Dk) : (stepF d).2.sz = d.sz := by
  unfold stepF; dsimp only; split
  · split <;> rfl
  · rfl
set_option maxHeartbeats 1000000 in
theorem Sync_m {d : Dk} (ho : d.ok) (nm : List UInt8) : DM n_disk_Disk_Sync [sv nm] d (erA (syncF d nm).1) (syncF d nm).2 := fun H L D ha => by
  refine disk_Disk_Sync_of ?_
  have h1 := ho.s1; have h2 := ho.t; have h8 := ho.n8
  dsimp only
  rw [(there_m d nm).callS (sv_good nm) ha]
  simp -implicitDefEqProofs only [er_neq, Option.bind_some, condK_dec]
  unfold syncF
  by_cases h : thereF d nm = 0
  · rw [if_neg (fun q => q h), if_pos h]
    obtain ⟨f, hf, _⟩ := there_some h
    have hfo : fileOf nm d = f := by unfold fileOf; rw [hf]; rfl
    rw [hfo, (step_m d).call rfl ha]
    simp -implicitDefEqProofs only [unA, Option.bind_some]
    cases hs : (stepF d).1 with
    | false =>
      simp -implicitDefEqProofs only [Bool.not_false, condK_t, Bool.false_eq_true, if_false, List.append_nil]
      exact DM.fin0 ha rfl
    | true =>
      have hp := ha.pt (stepF d).2
      have hf2 : getL nm (stepF d).2.fs = some f := by rw [step_fs]; exact hf
      simp -implicitDefEqProofs only [Bool.not_true, condK_f, if_true, nP, oP, Option.bind_some, hp.fs, hp.look, hf2, lookL, Bool.false_eq_true, if_false]
      rw [new2 rfl, pt_len]
      have hn : ∀ Y : AObj, (pt H L D (stepF d).2 ++ [Y])[H.length]? = some Y := fun Y => by
        rw [List.getElem?_append_right (by rw [pt_len]; omega), pt_len]; simp
      have hset : ∀ Y Z : AObj, (pt H L D (stepF d).2 ++ [Y]).set H.length Z = pt H L D (stepF d).2 ++ [Z] := fun Y Z => by
        rw [List.set_append_right _ _ (by rw [pt_len]; omega), pt_len]; simp
      refine Eq.trans (sto_all (hn _) rfl rfl rfl (belL_good _ _ (by simp [Fil.cs, goodL, AV.good]))) ?_
      rw [hset, oP, Option.bind_some, ld_fld (j := 0) (v := bys f.b) (hn (.row 2 [.agg f.cs])) rfl, Option.bind_some, lenV_bys, Option.bind_some, oP, Option.bind_some]
      rw [sto_fld (j := 1) (hn (.row 2 [.agg f.cs])) (by simp [Fil.cs]) rfl rfl rfl, hset]
      have hq := hp.app [AObj.row 2 [.agg (f.cs.set 1 (.int .i64 f.b.length))]]
      rw [hq.fs, Option.bind_some, ld_all (n := 2) (hn _) rfl, Option.bind_some]
      refine (hq.upd nm ⟨f.b, f.b.length⟩ (by rw [step_fs]; omega)).trans ?_
      rw [pt_app hp, pt_pt _ _ ha.lt]
      simp -implicitDefEqProofs only [List.append_nil]
      exact DM.fin ha rfl
  · rw [if_pos h, if_neg h]
    exact DM.same0 ha (er_good _)
def cutF (d : Dk) (b : Int) : Int × Dk := if b < 0 then (1, d) else if d.off = true then (10, d) else (0, { d with has := true, bud := b })
theorem Cut_m (d : Dk) (b : Int) : DM n_disk_Disk_Cut [.int .i64 b] d (erA (cutF d b).1) (cutF d b).2 := fun H L D ha => by
  refine disk_Disk_Cut_of ?_
  unfold cutF
  simp -implicitDefEqProofs only [lss_int, Option.bind_some, condK_dec]
  by_cases h : b < 0
  · rw [if_pos h, if_pos h]; exact DM.same0 ha rfl
  · rw [if_neg h, if_neg h]
    simp -implicitDefEqProofs only [nP, oP, Option.bind_some, ha.off]
    cases ho : d.off with
    | true =>
      simp -implicitDefEqProofs only [condK_t, if_true]
      exact DM.same0 ha rfl
    | false =>
      simp -implicitDefEqProofs only [condK_f, Bool.false_eq_true, if_false]
      rw [ha.shas, (ha.pt _).sbud, pt_pt _ _ ha.lt, ho]
      exact DM.fin0 ha rfl
def newD (sz : Int) : Dk := ⟨sz, [], false, 0, false, 0⟩
theorem New_ok (sz : Int) (h0 : 0 ≤ sz) (h1 : sz ≤ 67108864) (H : List AObj) : EV C n_disk_New [.int .i64 sz] H = some (.tup [.ptr (H.length + 1) 1 0 0, .nili], H ++ [fobj [], drow H.length (newD sz)], []) := by
  refine disk_New_of ?_
  simp -implicitDefEqProofs only [lss_int, gtr_int, Option.bind_some, splitK_dec, condK_dec]
  rw [if_neg (by omega), if_neg (by omega)]
  unfold mpK
  refine (congrArg (fun x => Option.bind x _) (show fillB _ _ = some [.int .i64 sz, .mp H.length, .bool false, .int .i64 0, .bool false, .int .i64 0] from rfl)).trans ?_
  rw [Option.bind_some, new_agg (by simp) rfl]
  simp only [List.length_append, List.length_singleton, List.append_assoc]
  rfl
def namesF (d : Dk) : List (List UInt8) := sortL (d.fs.map (·.1))
def strs (l : List (List UInt8)) : AV := .lst (l.map sv)
theorem strs_good (l : List (List UInt8)) : (strs l).good = true := goodL_all.2 fun v hv => by
  obtain ⟨x, _, rfl⟩ := List.mem_map.1 hv; rfl
theorem keys_fs : ∀ fs : List (List UInt8 × Fil), (fs.map (entA sv Fil.av)).mapM keyL = some (fs.map (·.1))
  | [] => rfl
  | p :: fs => by
    rw [List.map_cons, List.mapM_cons, keys_fs fs]
    rfl
theorem Names_m {d : Dk} (h8 : d.fs.length ≤ 8) (hnl : ∀ p ∈ d.fs, p.1.length < 2^40) : DM n_disk_Disk_Names [] d (strs (namesF d)) d := fun H L D ha => by
  refine disk_Disk_Names_of ?_
  simp -implicitDefEqProofs only [nP, oP, Option.bind_some, ha.fs]
  have hk : EV C n_maps_Keys_disk_file [.mp L] H = some (.clo n_maps_Keys_map_string_disk_file_string_disk_file_1 [] [.ptr H.length 1 0 0], H ++ [.row 1 [.mp L]], []) := by
    refine maps_Keys_disk_file_of ?_
    rfl
  rw [callK_raw hk]
  have hs : EV C n_Sorted_string [.clo n_maps_Keys_map_string_disk_file_string_disk_file_1 [] [.ptr H.length 1 0 0]] (H ++ [.row 1 [.mp L]]) = some (strs (namesF d), H ++ [.row 1 [.mp L]], []) := by
    rw [EV_I C (F := sortF 51) rfl]
    have hm := (ha.app [.row 1 [.mp L]]).m
    unfold fobj mpo at hm
    simp only [sortF, if_true, List.getElem?_append_right (Nat.le_refl _), Nat.sub_self, List.getElem?_cons_zero, hm, keys_fs, Option.bind_some]
    rw [if_pos ⟨by simp; omega, List.all_eq_true.2 fun k hk => by
      obtain ⟨p, hp, rfl⟩ := List.mem_map.1 hk; exact decide_eq_true (hnl p hp)⟩]
    rfl
  unfold callK callA
  simp only [Bool.false_eq_true, if_false, frzL, frz, Option.bind_some, Option.map_some, belL, AV.bel, killsL, kills, killAll, List.append_nil, Bool.and_true, Nat.not_lt_zero, decide_false]
  rw [hs]
  exact DM.same ha (strs_good _)
end Go.Pm
namespace Go.Pm
open Go.Proofs
set_option linter.unusedVariables false
set_option linter.unusedSimpArgs false
/-- the end of a function whose value is a row of its own -/
theorem end_own {n g N : Nat} {H X : List AObj} {E : List Nat} {l : List UInt8} (hn : n = H.length) (hg : (H ++ X)[g]? = some (.row 1 (l.map u8))) (hN : N = l.length) (hgn : n ≤ g) (hE : E.all (fun e => decide (n ≤ e)) = true) : endB false false n (.slc g 0 N N) (H ++ X) E = some (bys l, H, []) := by
  subst hn hN
  unfold endB endA
  rw [if_neg (by decide), frz_row (z := 1) hg (List.length_map _).symm (goodL_u8 l)]
  simp only [Option.map_some, Option.bind_some, kills, killAll, Bool.false_eq_true, if_false]
  rw [show (AV.lst (l.map u8)).bel H.length = true from bel_good _ _ (good_bys l), if_pos ⟨rfl, hE⟩]
  have hgl : H.length ≤ g := hgn
  rw [List.set_append_right _ _ hgl, List.take_left]
  rfl
theorem end_nils {n : Nat} {H X : List AObj} {E : List Nat} (hn : n = H.length) (hE : E.all (fun e => decide (n ≤ e)) = true) : endB false false n .nils (H ++ X) E = some (bys [], H, []) := by
  subst hn
  unfold endB endA
  rw [if_neg (by decide)]
  simp only [frz, Option.map_some, Option.bind_some, kills, killAll, Bool.false_eq_true, if_false]
  rw [show (AV.lst []).bel H.length = true from rfl, if_pos ⟨rfl, hE⟩, List.take_left]
  rfl
abbrev KR := AV → List AObj → List Nat → Option R3
theorem Concat_r_ok {H : List AObj} {k m n : Nat} {v0 : AV} (a l : List UInt8) (hv : v0 = bys a ∨ (v0 = .nils ∧ a = [])) (hk : H[k]? = some (.row 1 [v0, .slc m 0 n n])) (hm : H[m]? = some (.row 1 (l.map u8))) (hn : n = l.length) (ht : a.length + l.length ≤ 2^46) :
    EV C n_Concat_byte_r [.slc k 0 2 2] H = some (bys (a ++ l), H, []) := by
  subst hn
  refine Concat_byte_r_of ?_
  dsimp only
  have hX : ∀ X : List AObj, (H ++ X)[k]? = some (.row 1 [v0, .slc m 0 l.length l.length]) := fun X => by
    rw [List.getElem?_append_left (List.getElem?_eq_some_iff.1 hk).1]; exact hk
  have hY : ∀ X : List AObj, (H ++ X)[m]? = some (.row 1 (l.map u8)) := fun X => by
    rw [List.getElem?_append_left (List.getElem?_eq_some_iff.1 hm).1]; exact hm
  have lk : ∀ X : List AObj, lenV (.slc k 0 2 2) (H ++ X) = some (.int .i64 2) := fun X => by simp [lenV, lenA, lenOf, hX X]
  have lm : ∀ X : List AObj, lenV (.slc m 0 l.length l.length) (H ++ X) = some (.int .i64 l.length) := fun X => by simp [lenV, lenA, lenOf, hY X]
  have x0 : ∀ X : List AObj, ixA 1 (.slc k 0 2 2) (.int .i64 0) (H ++ X) = some (.ptr k 2 0 0) := fun X => by simp [ixA, indexA, hX X]
  have x1 : ∀ X : List AObj, ixA 1 (.slc k 0 2 2) (.int .i64 1) (H ++ X) = some (.ptr k 2 1 0) := fun X => by simp [ixA, indexA, hX X]
  have d0 : ∀ X : List AObj, loadA false 1 (.ptr k 2 0 0) (H ++ X) = some v0 := fun X => by
    rcases hv with rfl | ⟨rfl, rfl⟩ <;> simp [loadA, hX X, ldv, AV.cells, bys]
  have d1 : ∀ X : List AObj, loadA false 1 (.ptr k 2 1 0) (H ++ X) = some (.slc m 0 l.length l.length) := fun X => by
    rcases hv with rfl | ⟨rfl, rfl⟩ <;> simp [loadA, hX X, ldv, AV.cells, bys]
  have lv : ∀ X : List AObj, lenV v0 X = some (.int .i64 a.length) := fun X => by
    rcases hv with rfl | ⟨rfl, rfl⟩
    · exact lenV_bys a X
    · rfl
  have ev : ∀ X : List AObj, elemsA v0 X = some (a.map u8) := fun X => by
    rcases hv with rfl | ⟨rfl, rfl⟩ <;> rfl
  have em : ∀ X : List AObj, elemsA (.slc m 0 l.length l.length) (H ++ X) = some (l.map u8) := fun X => by
    simp only [elemsA, hY X, List.length_map, if_true, List.drop_zero]; rw [List.take_of_length_le (by simp)]
  have h0 : H = H ++ [] := (List.append_nil H).symm
  have w1 : IntKind.i64.wrap ((0 : Int) + 1) = 1 := rfl
  have w2 : IntKind.i64.wrap ((1 : Int) + 1) = 2 := rfl
  have w3 : IntKind.i64.wrap ((0 : Int) + (a.length : Int)) = (a.length : Int) := w64 (by omega) (by omega)
  have w4 : IntKind.i64.wrap ((a.length : Int) + (l.length : Int)) = ((a.length + l.length : Nat) : Int) := w64 (by omega) (by omega)
  have key : ∀ (X : List AObj), X = [] → (lenV (.slc k 0 2 2) (H ++ X)).bind (fun a1 => Concat_byte_r_J3 H.length (.slc k 0 2 2) (.int .i64 0) (.slc k 0 2 2) a1 (.int .i64 0) (H ++ X) []) = some (bys (a ++ l), H, []) := fun X hX0 => by
    rw [lk, Option.bind_some]
    refine Concat_byte_r_J3_of ?_
    simp only [lss_int, Option.bind_some, condK_dec]
    rw [if_pos (by decide), x0, Option.bind_some, d0, Option.bind_some, lv, Option.bind_some, add_int, Option.bind_some, w3, lss_int, Option.bind_some, condK_dec, if_neg (by omega), add_int, Option.bind_some, w1]
    refine Concat_byte_r_J3_of ?_
    simp only [lss_int, Option.bind_some, condK_dec]
    rw [if_pos (by decide), x1, Option.bind_some, d1, Option.bind_some, lm, Option.bind_some, add_int, Option.bind_some, w4, lss_int, Option.bind_some, condK_dec, if_neg (by omega), add_int, Option.bind_some, w2]
    refine Concat_byte_r_J3_of ?_
    simp only [lss_int, Option.bind_some, condK_dec]
    rw [if_neg (by decide)]
    subst hX0
    rcases Nat.eq_zero_or_pos (a.length + l.length) with hz | hz
    · have ha : a = [] := List.eq_nil_of_length_eq_zero (by omega)
      have hl : l = [] := List.eq_nil_of_length_eq_zero (by omega)
      subst hl
      subst ha
      rw [show ((([] : List UInt8).length + ([] : List UInt8).length : Nat) : Int) = ((0 : Nat) : Int) from rfl, callK_raw (grow0 _)]
      dsimp only
      rw [lk, Option.bind_some]
      refine Concat_byte_r_J11_of ?_
      simp only [lss_int, Option.bind_some, condK_dec]
      rw [if_pos (by decide), x0, Option.bind_some, d0, Option.bind_some]
      rw [show ∀ (H' : List AObj) (K : KR), appK 1 1 .nils v0 H' K = K .nils H' [] from fun H' K => by unfold appK; rw [ev]; rfl, add_int, Option.bind_some, w1]
      refine Concat_byte_r_J11_of ?_
      simp only [lss_int, Option.bind_some, condK_dec]
      rw [if_pos (by decide), x1, Option.bind_some, d1, Option.bind_some]
      have e5 : ∀ (K : KR), appK 1 1 .nils (.slc m 0 ([] : List UInt8).length ([] : List UInt8).length) (H ++ []) K = K .nils (H ++ []) [] := fun K => by
        unfold appK; rw [em]; rfl
      rw [e5, add_int, Option.bind_some, w2]
      refine Concat_byte_r_J11_of ?_
      simp only [lss_int, Option.bind_some, condK_dec]
      rw [if_neg (by decide)]
      exact end_nils rfl rfl
    · rw [callK_raw (Grow_byte_ok _ hz ht _)]
      dsimp only
      rw [List.append_nil, lk, Option.bind_some]
      refine Concat_byte_r_J11_of ?_
      simp only [lss_int, Option.bind_some, condK_dec]
      rw [if_pos (by decide), x0, Option.bind_some, d0, Option.bind_some]
      have hr : (H ++ [AObj.dead, .row 1 []])[H.length + 1]? = some (.row 1 []) := by rw [List.getElem?_append_right (by omega)]; simp
      rw [appK_row (n := 0) (es := []) (ys := a.map u8) (ev _) hr rfl (lz_u8 a) (by decide) (by decide) (by decide) (by simp; omega), esc_good (goodL_u8 a)]
      have hs : ∀ Z, (H ++ [AObj.dead, .row 1 []]).set (H.length + 1) Z = H ++ [.dead, Z] := fun Z => by rw [List.set_append_right _ _ (by omega)]; simp
      rw [hs, List.nil_append, List.length_map, Nat.zero_add, add_int, Option.bind_some, w1]
      refine Concat_byte_r_J11_of ?_
      simp only [lss_int, Option.bind_some, condK_dec]
      rw [if_pos (by decide), x1, Option.bind_some, d1, Option.bind_some]
      have hr2 : (H ++ [AObj.dead, .row 1 (a.map u8)])[H.length + 1]? = some (.row 1 (a.map u8)) := by rw [List.getElem?_append_right (by omega)]; simp
      rw [appK_row (n := a.length) (es := a.map u8) (ys := l.map u8) (em _) hr2 (List.length_map _).symm (lz_u8 l) (by decide) (by decide) (by decide) (by rw [List.length_map]; omega), esc_good (goodL_u8 l)]
      have hs2 : ∀ Z, (H ++ [AObj.dead, .row 1 (a.map u8)]).set (H.length + 1) Z = H ++ [.dead, Z] := fun Z => by rw [List.set_append_right _ _ (by omega)]; simp
      rw [hs2, List.length_map, add_int, Option.bind_some, w2, ← List.map_append]
      refine Concat_byte_r_J11_of ?_
      simp only [lss_int, Option.bind_some, condK_dec]
      rw [if_neg (by decide)]
      exact end_own (l := a ++ l) rfl (by rw [List.getElem?_append_right (by omega)]; simp) (by rw [List.length_append]) (by omega) rfl
  have := key [] rfl
  rwa [List.append_nil] at this
end Go.Pm
namespace Go.Pm
open Go.Proofs
set_option linter.unusedVariables false
set_option linter.unusedSimpArgs false
theorem Append_r {d : Dk} (ho : d.ok) (nm b : List UInt8) (hb : b.length ≤ 2^45) {H : List AObj} {L D m : Nat} (ha : At H L D d) (hm : H[m]? = some (.row 1 (b.map u8))) :
    EV C n_disk_Disk_Append_r [.ptr D 1 0 0, sv nm, .slc m 0 b.length b.length] H = some (erA (appendF d nm b).1, pt H L D (appendF d nm b).2, []) := by
  refine disk_Disk_Append_r_of ?_
  have hmX : ∀ X : List AObj, (H ++ X)[m]? = some (.row 1 (b.map u8)) := fun X => by
    rw [List.getElem?_append_left (List.getElem?_eq_some_iff.1 hm).1]; exact hm
  have lmX : ∀ X : List AObj, lenV (.slc m 0 b.length b.length) (H ++ X) = some (.int .i64 b.length) := fun X => by simp [lenV, lenA, lenOf, hmX X]
  have h0 := ho.s0; have h1 := ho.s1; have h2 := ho.t; have h8 := ho.n8
  obtain ⟨g, hg⟩ : ∃ g, g = fileOf nm d := ⟨_, rfl⟩
  -- what is found
  obtain ⟨fc, v0, w, e1, e2, e3, e4, e5⟩ : ∃ (fc : List AV) (v0 : AV) (has : Bool), lookL Fil.av (.agg [.nils, .int .i64 0]) true (getL nm d.fs) = .tup [.agg fc, .bool has] ∧ fc = [v0, .int .i64 g.sy] ∧ (v0 = bys g.b ∨ (v0 = .nils ∧ g.b = [])) ∧ has = !(getL nm d.fs).isNone ∧ g.b.length ≤ totF d.fs := by
    rw [hg]; unfold fileOf
    cases hh : getL nm d.fs with
    | none => exact ⟨_, _, _, rfl, rfl, .inr ⟨rfl, rfl⟩, rfl, by simp⟩
    | some f => exact ⟨_, _, _, rfl, rfl, .inl rfl, rfl, tot_get hh⟩
  simp -implicitDefEqProofs only [nP, oP, Option.bind_some, ha.fs, ha.look, e1, extA_0, extA_1]
  rw [new_agg (by simp) rfl]
  have hv1 : v0.one = true ∧ v0.cells = [v0] ∧ ∀ m, v0.bel m = true := by
    rcases e3 with rfl | ⟨rfl, _⟩
    · exact ⟨rfl, rfl, fun m => bel_good m _ (good_bys _)⟩
    · exact ⟨rfl, rfl, fun m => rfl⟩
  have hn : (H ++ [AObj.row 2 [.agg [.nils, .int .i64 0]]])[H.length]? = some (.row 2 [.agg [.nils, .int .i64 0]]) := by simp
  rw [e2]
  refine Eq.trans (sto_all hn rfl rfl (by simp only [List.all_cons, hv1.1, List.all_nil]; rfl) (by simp only [belL, hv1.2.2]; rfl)) ?_
  rw [List.set_append_right _ _ (by omega), Nat.sub_self, List.set_cons_zero]
  obtain ⟨X, hX⟩ : ∃ X, X = [AObj.row 2 [.agg [v0, .int .i64 g.sy]]] := ⟨_, rfl⟩
  rw [← hX]
  have hx0 : ∀ H' : List AObj, H'.length = H.length → (H' ++ X)[H.length]? = some (.row 2 [.agg [v0, .int .i64 g.sy]]) := fun H' h => by rw [hX, List.getElem?_append_right (by omega)]; simp [h]
  simp -implicitDefEqProofs only [nP, oP, Option.bind_some, (ha.app X).off]
  unfold appendF
  cases hoff : d.off with
  | true =>
    simp -implicitDefEqProofs only [condK_t, if_true, List.append_nil]
    exact DM.same ha rfl
  | false =>
    simp -implicitDefEqProofs only [condK_f, Bool.false_eq_true, if_false, namedK, unA, Option.bind_some]
    cases hnm : namedF nm with
    | false =>
      simp -implicitDefEqProofs only [Bool.not_false, condK_t, List.append_nil, Bool.false_eq_true, if_false]
      exact DM.same ha rfl
    | true =>
      simp -implicitDefEqProofs only [Bool.not_true, condK_f, if_true, lmX, Option.bind_some]
      rw [(Room_m ho).callX rfl ha X, pt_self ha]
      simp -implicitDefEqProofs only [gtr_int, Option.bind_some, splitK_dec]
      by_cases hr : roomOf d < (b.length : Int)
      · rw [if_pos hr, if_pos hr]
        exact DM.same ha rfl
      · rw [if_neg hr, if_neg hr]
        -- the body
        have body : ∀ E : List Nat, E = [] → ((loadA false 1 (.ptr H.length 1 0 0) (H ++ X)).bind fun a37 =>
          rawK 1 2 .nils [(0, a37), (1, .slc m 0 b.length b.length)] (H ++ X) fun a38 H38 E38 =>
          callK (EV C) true n_Concat_byte_r [a38] H38 fun a39 H39 E39 =>
          stoK 1 (.ptr H.length 1 0 0) a39 H39 fun H41 E41 =>
          (loadA false 1 (.ptr D 1 0 1) H41).bind fun a44 =>
          (loadA true 2 (.ptr H.length 1 0 0) H41).bind fun a45 =>
          updK (some Go.TypeDesc.string) a44 (sv nm) a45 H41 fun H46 =>
          callK (EV C) false n_disk_Disk_step [.ptr D 1 0 0] H46 fun a47 H47 E47 =>
          (unA .not a47).bind fun a48 =>
          condK a48
            (endB false false H.length (.ifc t_api_Code (.int .i64 10)) H47 (E47 ++ (E41 ++ (E39 ++ (E38 ++ E)))))
            (endB false false H.length .nili H47 (E47 ++ (E41 ++ (E39 ++ (E38 ++ E)))))) = some (erA (stepE (putF d nm ⟨g.b ++ b, g.sy⟩)).1, pt H L D (stepE (putF d nm ⟨g.b ++ b, g.sy⟩)).2, []) := fun E hE => by
          subst hE
          rw [ld_fld (hx0 H rfl) rfl, Option.bind_some]
          have hraw : ∀ K : KR, rawK 1 2 .nils [(0, v0), (1, .slc m 0 b.length b.length)] (H ++ X) K = K (.slc (H ++ X).length 0 2 2) ((H ++ X) ++ [.row 1 [v0, .slc m 0 b.length b.length]]) [] := fun K => by
            rcases e3 with h | ⟨h, _⟩ <;> rw [h] <;> rfl
          obtain ⟨R, hR⟩ : ∃ R, R = AObj.row 1 [v0, .slc m 0 b.length b.length] := ⟨_, rfl⟩
          rw [hraw, ← hR]
          have hcc : EV C n_Concat_byte_r [.slc (H ++ X).length 0 2 2] ((H ++ X) ++ [R]) = some (bys (g.b ++ b), (H ++ X) ++ [R], []) :=
            Concat_r_ok (m := m) (n := b.length) g.b b e3 (by rw [hR]; simp) (by rw [List.append_assoc]; exact hmX _) rfl (by omega)
          rw [callK_raw hcc]
          dsimp only
          rw [List.append_assoc]
          have hx1 : (H ++ (X ++ [R]))[H.length]? = some (.row 2 [.agg [v0, .int .i64 g.sy]]) := by rw [List.getElem?_append_right (by omega), hX]; simp
          rw [sto_fld hx1 (by simp) rfl rfl (bel_good _ _ (good_bys _))]
          rw [List.set_append_right _ _ (by omega), Nat.sub_self]
          obtain ⟨X2, hX2⟩ : ∃ X2, X2 = (X ++ [R]).set 0 (AObj.row 2 [AV.agg ([v0, AV.int IntKind.i64 g.sy].set 0 (bys (g.b ++ b)))]) := ⟨_, rfl⟩
          rw [← hX2]
          have hX2' : X2 = [AObj.row 2 [.agg [bys (g.b ++ b), .int .i64 g.sy]], R] := by rw [hX2, hX]; simp
          have hx2 : (H ++ X2)[H.length]? = some (.row 2 [.agg [bys (g.b ++ b), .int .i64 g.sy]]) := by rw [hX2', List.getElem?_append_right (by omega)]; simp
          rw [(ha.app X2).fs, Option.bind_some, ld_all (n := 2) hx2 rfl, Option.bind_some]
          rw [show (AV.agg [bys (g.b ++ b), .int .i64 g.sy]) = Fil.av ⟨g.b ++ b, g.sy⟩ from rfl, (ha.app X2).upd nm _ (by omega), pt_app ha]
          rw [show ({ d with fs := putL nm ⟨g.b ++ b, g.sy⟩ d.fs } : Dk) = putF d nm ⟨g.b ++ b, g.sy⟩ from rfl]
          rw [(step_m _).callPX rfl ha X2]
          simp -implicitDefEqProofs only [unA, Option.bind_some, List.append_nil]
          unfold stepE
          cases (stepF (putF d nm ⟨g.b ++ b, g.sy⟩)).1 with
          | true =>
            simp -implicitDefEqProofs only [Bool.not_true, condK_f, if_true]
            exact DM.fin ha rfl
          | false =>
            simp -implicitDefEqProofs only [Bool.not_false, condK_t, Bool.false_eq_true, if_false]
            exact DM.fin ha rfl
        rw [← hg]
        cases hw : w with
        | true =>
          have hn : ¬ ((getL nm d.fs).isNone = true ∧ 8 ≤ d.fs.length) := fun h => by rw [hw, h.1] at e4; cases e4
          rw [if_neg hn]
          simp -implicitDefEqProofs only [unA, Bool.not_true, Option.bind_some, splitK_f, nP, oP, Nat.zero_add, Nat.add_zero]
          exact body _ rfl
        | false =>
          have hn : (getL nm d.fs).isNone = true := by rw [hw] at e4; cases hh : (getL nm d.fs).isNone <;> simp [hh] at e4 ⊢
          simp -implicitDefEqProofs only [unA, Bool.not_false, Option.bind_some, splitK_t, nP, oP, (ha.app X).fs, (ha.app X).len, geq_int, condK_dec, Nat.zero_add, Nat.add_zero]
          by_cases h9 : 8 ≤ d.fs.length
          · rw [if_pos (show (8 : Int) ≤ (d.fs.length : Int) by omega), if_pos ⟨hn, h9⟩]
            exact DM.same ha rfl
          · rw [if_neg (show ¬ (8 : Int) ≤ (d.fs.length : Int) by omega), if_neg (fun h => h9 h.2)]
            exact body _ rfl
end Go.Pm
namespace Go.Pm
open Go.Proofs
set_option linter.unusedVariables false
set_option linter.unusedSimpArgs false
def i64 (n : Int) : AV := .int .i64 n
def ints (l : List Int) : AV := .lst (l.map i64)
@[simp] theorem good_ints (l : List Int) : (ints l).good = true := goodL_map (fun _ => rfl) l
theorem lenV_ints (l : List Int) (H : List AObj) : lenV (ints l) H = some (.int .i64 l.length) := by simp [ints]
theorem ix_ints {l : List Int} {i : Nat} (h : i < l.length) (H : List AObj) : ixA 1 (ints l) (.int .i64 (i : Int)) H = some (.ip [.int .i64 l[i]]) := by
  unfold ints
  exact ixA_lst (e := i64 l[i]) (by omega) (by simp [h]) rfl
theorem lenV_strs (l : List (List UInt8)) (H : List AObj) : lenV (strs l) H = some (.int .i64 l.length) := by simp [strs]
theorem ix_strs {l : List (List UInt8)} {i : Nat} (h : i < l.length) (H : List AObj) : ixA 1 (strs l) (.int .i64 (i : Int)) H = some (.ip [sv l[i]]) := by
  unfold strs
  exact ixA_lst (e := sv l[i]) (by omega) (by simp [h]) rfl
theorem condB_t {β : Type} {b : Bool} {x : Option β} (h : b = true) : condB b x = x := by subst h; rfl
def kOf (keep : List Int) (i : Nat) : Int := if i < keep.length then (if (0 : Int) > keep.getD i 0 then 0 else keep.getD i 0) else 0
theorem kOf_nn (keep : List Int) (i : Nat) : 0 ≤ kOf keep i := by
  unfold kOf; split
  · split <;> omega
  · exact Int.le_refl _
/-- how many bytes stay -/
def trimN (f : Fil) (k : Int) : Nat := (f.sy + (if (f.b.length : Int) - f.sy < k then (f.b.length : Int) - f.sy else k)).toNat
def trimF (f : Fil) (k : Int) : Fil := ⟨f.b.take (trimN f k), trimN f k⟩
def powL (keep : List Int) : List (List UInt8) → Nat → List (List UInt8 × Fil) → List (List UInt8 × Fil)
  | [], _, fs => fs
  | nm :: ns, i, fs => powL keep ns (i + 1) (putL nm (trimF ((getL nm fs).getD ⟨[], 0⟩) (kOf keep i)) fs)
def powerF (d : Dk) (keep : List Int) : Dk := if d.off = true then { d with fs := powL keep (namesF d) 0 d.fs, off := false, has := false } else d
structure FilOk (f : Fil) : Prop where
  a : 0 ≤ f.sy
  b : f.sy ≤ f.b.length
  c : f.b.length < 2^41
theorem trimN_le {f : Fil} (h : FilOk f) {k : Int} (hk : 0 ≤ k) : trimN f k ≤ f.b.length := by
  have := h.a; have := h.b
  unfold trimN; split <;> omega
theorem trimF_ok {f : Fil} (h : FilOk f) {k : Int} (hk : 0 ≤ k) : FilOk (trimF f k) := by
  have := trimN_le h hk; have := h.c
  refine ⟨by show (0 : Int) ≤ (trimN f k : Int); omega, ?_, ?_⟩
  · show ((trimN f k : Nat) : Int) ≤ ((f.b.take (trimN f k)).length : Int); rw [List.length_take]; omega
  · show (f.b.take (trimN f k)).length < _; rw [List.length_take]; omega
theorem put_len_eq {α β : Type} [DecidableEq α] {k : α} {v w : β} : ∀ {es : List (α × β)}, getL k es = some w → (putL k v es).length = es.length
  | [], h => by cases h
  | p :: es, h => by
    unfold getL at h
    unfold putL
    split
    · simp
    · rename_i hne; rw [if_neg hne] at h; simp [put_len_eq h]
set_option maxHeartbeats 2000000 in
theorem power_J2 (d : Dk) (keep : List Int) (hkl : keep.length < 2^60) (names : List (List UInt8)) (hnl : names.length < 2^60) {H : List AObj} {L D : Nat} {d0 : Dk} (ha : At H L D d0) : ∀ (m i : Nat) (fs : List (List UInt8 × Fil)), i + m = names.length →
    fs.length < 2^40 → (∀ nm ∈ names, ∃ f, getL nm fs = some f ∧ FilOk f) →
    disk_Disk_Power_J2 H.length (.ptr D 1 0 0) (ints keep) (strs names) (.int .i64 (names.length : Int)) (.int .i64 (i : Int)) (pt H L D { d with fs := fs }) [] = some (.tup [], pt H L D { d with fs := powL keep (names.drop i) i fs, off := false, has := false }, [])
  | 0, i, fs, hi, hl, hf => by
    refine disk_Disk_Power_J2_of ?_
    have hp := ha.pt { d with fs := fs }
    simp -implicitDefEqProofs only [lss_int, Option.bind_some, condK_dec]
    rw [if_neg (by omega)]
    simp -implicitDefEqProofs only [nP, oP, Option.bind_some]
    rw [hp.soff, pt_pt _ _ ha.lt, (ha.pt _).shas, pt_pt _ _ ha.lt, List.drop_eq_nil_of_le (by omega)]
    exact DM.fin0 ha rfl
  | m + 1, i, fs, hi, hl, hf => by
    refine disk_Disk_Power_J2_of ?_
    have hp := ha.pt { d with fs := fs }
    have hlt : i < names.length := by omega
    obtain ⟨f, hg, hfo⟩ := hf _ (List.getElem_mem hlt)
    have f1 := hfo.a; have f2 := hfo.b; have f3 := hfo.c
    have e3 : IntKind.i64.wrap ((i : Int) + 1) = ((i + 1 : Nat) : Int) := w64 (by omega) (by omega)
    simp -implicitDefEqProofs only [lss_int, Option.bind_some, condK_dec]
    rw [if_pos (by omega), ix_strs hlt, Option.bind_some, show ∀ H', loadA false 1 (.ip [sv names[i]]) H' = some (sv names[i]) from fun _ => rfl, Option.bind_some]
    simp -implicitDefEqProofs only [nP, oP, Option.bind_some, hp.fs, hp.look, hg, lookL, Bool.false_eq_true, if_false]
    rw [new2 rfl, pt_len]
    have hn : ∀ (d' : Dk) (Y : AObj), (pt H L D d' ++ [Y])[H.length]? = some Y := fun d' Y => by
      rw [List.getElem?_append_right (by rw [pt_len]; omega), pt_len]; simp
    have hset : ∀ (d' : Dk) (Y Z : AObj), (pt H L D d' ++ [Y]).set H.length Z = pt H L D d' ++ [Z] := fun d' Y Z => by
      rw [List.set_append_right _ _ (by rw [pt_len]; omega), pt_len]; simp
    refine Eq.trans (sto_all (hn _ _) rfl rfl rfl (belL_good _ _ (by simp [Fil.cs, goodL, AV.good]))) ?_
    rw [hset]
    obtain ⟨X, hX⟩ : ∃ X, X = AObj.row 2 [.agg f.cs] := ⟨_, rfl⟩
    rw [← hX]
    have l0 : loadA false 1 (.ptr H.length 1 0 0) (pt H L D { d with fs := fs } ++ [X]) = some (bys f.b) := ld_fld (z := 2) (cs := f.cs) (by rw [hX]; exact hn _ _) rfl
    have l1 : loadA false 1 (.ptr H.length 1 0 1) (pt H L D { d with fs := fs } ++ [X]) = some (.int .i64 f.sy) := ld_fld (z := 2) (cs := f.cs) (by rw [hX]; exact hn _ _) rfl
    -- what is common to both branches
    have tail : ∀ k : Int, k = kOf keep i → ((cutA 1 (bys f.b) none (some (.int .i64 (f.sy + (if (f.b.length : Int) - f.sy < k then (f.b.length : Int) - f.sy else k)))) none (pt H L D { d with fs := fs } ++ [X])).bind fun a27 =>
      callK (EV C) false n_Clone_byte [a27] (pt H L D { d with fs := fs } ++ [X]) fun a28 H28 E28 =>
      stoK 1 (.ptr H.length 1 0 0) a28 H28 fun H30 E30 =>
      (loadA false 1 (.ptr H.length 1 0 0) H30).bind fun a32 =>
      (lenV a32 H30).bind fun a33 =>
      stoK 1 (.ptr H.length 1 0 1) a33 H30 fun H35 E35 =>
      (loadA false 1 (.ptr D 1 0 1) H35).bind fun a38 =>
      (loadA true 2 (.ptr H.length 1 0 0) H35).bind fun a39 =>
      updK (some Go.TypeDesc.string) a38 (sv names[i]) a39 H35 fun H40 =>
      condB (List.all (E35 ++ (E30 ++ (E28 ++ ([] ++ ([] ++ []))))) (fun e => decide (H.length ≤ e)) && (AV.bel H.length (.ptr D 1 0 0) && (AV.bel H.length (ints keep) && (AV.bel H.length (strs names) && (AV.bel H.length (.int .i64 (names.length : Int)) && (AV.bel H.length (.int .i64 ((i + 1 : Nat) : Int)) && true))))))
      (disk_Disk_Power_J2 H.length (.ptr D 1 0 0) (ints keep) (strs names) (.int .i64 (names.length : Int)) (.int .i64 ((i + 1 : Nat) : Int)) (List.take H.length H40) [])) = some (.tup [], pt H L D { d with fs := powL keep (names.drop i) i fs, off := false, has := false }, []) := fun k hk => by
      have hk0 : 0 ≤ k := by rw [hk]; exact kOf_nn _ _
      have htl := trimN_le hfo hk0
      have et : (f.sy + (if (f.b.length : Int) - f.sy < k then (f.b.length : Int) - f.sy else k)) = ((trimN f k : Nat) : Int) := by unfold trimN; split <;> omega
      rw [et, cutA_bys (i := 0) (j := trimN f k) rfl rfl (Nat.zero_le _) htl, Option.bind_some, List.drop_zero]
      rw [callK_ok (by simp [goodL]) (Clone_byte_ok _ (by rw [List.length_take]; omega))]
      rw [hX, sto_fld (j := 0) (hn _ _) (by simp [Fil.cs]) rfl rfl (bel_good _ _ (good_bys _)), hset]
      rw [ld_fld (j := 0) (v := bys (f.b.take (trimN f k))) (hn _ _) rfl, Option.bind_some, lenV_bys, Option.bind_some]
      rw [sto_fld (j := 1) (hn _ _) (by simp [Fil.cs]) rfl rfl rfl, hset]
      have el : (f.b.take (trimN f k)).length = trimN f k := by rw [List.length_take]; omega
      obtain ⟨Y, hY⟩ : ∃ Y, Y = AObj.row 2 [AV.agg ((f.cs.set 0 (bys (f.b.take (trimN f k)))).set 1 (.int .i64 ((f.b.take (trimN f k)).length : Int)))] := ⟨_, rfl⟩
      rw [← hY]
      have hY' : Y = .row 2 [.agg (trimF f k).cs] := by rw [hY, el]; rfl
      have hq := hp.app [Y]
      rw [hq.fs, Option.bind_some, ld_all (n := 2) (cs := (trimF f k).cs) (by rw [hY']; exact hn _ _) rfl, Option.bind_some]
      refine (hq.upd names[i] (trimF f k) hl).trans ?_
      rw [pt_app hp, pt_pt _ _ ha.lt]
      have hdl := ha.dl
      rw [condB_t (by simp only [List.append_nil, List.all_nil, Bool.true_and, AV.bel, decide_eq_true hdl, bel_good _ _ (good_ints _), bel_good _ _ (strs_good _), Bool.and_self])]
      rw [List.take_left' (pt_len _ _ _ _)]
      have ih := power_J2 d keep hkl names hnl ha m (i + 1) (putL names[i] (trimF f k) fs) (by omega) (by rw [put_len_eq hg]; exact hl) (fun nm hnm => by
        by_cases e : nm = names[i]
        · rw [e]; exact ⟨_, getL_put_self _ _ _, trimF_ok hfo hk0⟩
        · rw [getL_put_ne e]; exact hf nm hnm)
      refine ih.trans ?_
      rw [List.drop_eq_getElem_cons hlt, powL, hg, hk]
      rfl
    rw [lenV_ints, Option.bind_some, lss_int, Option.bind_some, condK_dec]
    have e4 : IntKind.i64.wrap ((f.b.length : Int) - f.sy) = (f.b.length : Int) - f.sy := wrap64 (by omega) (by omega)
    by_cases hik : (i : Int) < (keep.length : Int)
    · rw [if_pos hik, ix_ints (by omega), Option.bind_some, show ∀ n H', loadA false 1 (.ip [.int .i64 n]) H' = some (.int .i64 n) from fun _ _ => rfl, Option.bind_some]
      have hko : kOf keep i = (if (0 : Int) > keep[i]'(by omega) then 0 else keep[i]'(by omega)) := by
        unfold kOf; rw [if_pos (by omega), List.getD_eq_getElem?_getD, List.getElem?_eq_getElem (by omega)]; rfl
      have hk0 := kOf_nn keep i
      have em : maxA [.int .i64 (keep[i]'(by omega)), .int .i64 0] = some (.int .i64 (kOf keep i)) := by rw [hko]; rfl
      rw [em, Option.bind_some]
      have e5 : IntKind.i64.wrap (f.sy + (if (f.b.length : Int) - f.sy < kOf keep i then (f.b.length : Int) - f.sy else kOf keep i)) = f.sy + (if (f.b.length : Int) - f.sy < kOf keep i then (f.b.length : Int) - f.sy else kOf keep i) := wrap64 (by split <;> omega) (by split <;> omega)
      simp -implicitDefEqProofs only [oP, Option.bind_some, l0, l1, lenV_bys, sub_int, e4, minA, add_int, e5, e3]
      exact tail _ rfl
    · rw [if_neg hik]
      have hko : kOf keep i = 0 := by unfold kOf; rw [if_neg (by omega)]
      have e5 : IntKind.i64.wrap (f.sy + (if (f.b.length : Int) - f.sy < 0 then (f.b.length : Int) - f.sy else 0)) = f.sy + (if (f.b.length : Int) - f.sy < 0 then (f.b.length : Int) - f.sy else 0) := wrap64 (by split <;> omega) (by split <;> omega)
      simp -implicitDefEqProofs only [oP, Option.bind_some, l0, l1, lenV_bys, sub_int, e4, minA, add_int, e5, e3]
      exact tail 0 hko.symm
theorem sort_mem {nm : List UInt8} {l : List (List UInt8)} : nm ∈ sortL l ↔ nm ∈ l := by
  unfold sortL; exact List.mem_mergeSort
theorem sort_len (l : List (List UInt8)) : (sortL l).length = l.length := by unfold sortL; exact List.length_mergeSort l
theorem mem_get {α β : Type} [DecidableEq α] {k : α} : ∀ {es : List (α × β)}, k ∈ es.map (·.1) → ∃ v, getL k es = some v ∧ (k, v) ∈ es
  | [], h => by cases h
  | p :: es, h => by
    unfold getL
    by_cases e : k = p.1
    · rw [if_pos e]; exact ⟨p.2, rfl, by rw [e]; exact List.mem_cons_self ..⟩
    · rw [if_neg e]
      simp only [List.map_cons, List.mem_cons] at h
      obtain ⟨v, h1, h2⟩ := mem_get (h.resolve_left e)
      exact ⟨v, h1, List.mem_cons_of_mem _ h2⟩
theorem ok_fil {d : Dk} (ho : d.ok) {nm : List UInt8} {f : Fil} (h : getL nm d.fs = some f) : FilOk f := by
  have h1 := ho.s1; have h2 := ho.t; have h3 := tot_get h
  have h4 := ho.sy _ (getL_mem h)
  exact ⟨h4.1, h4.2, by omega⟩
theorem Power_m {d : Dk} (ho : d.ok) (keep : List Int) (hk : keep.length < 2^60) : DM n_disk_Disk_Power [ints keep] d (.tup []) (powerF d keep) := fun H L D ha => by
  refine disk_Disk_Power_of ?_
  have h8 := ho.n8
  simp -implicitDefEqProofs only [nP, oP, Option.bind_some, ha.off, unA]
  unfold powerF
  cases hof : d.off with
  | false =>
    simp -implicitDefEqProofs only [Bool.not_false, condK_t, Bool.false_eq_true, if_false]
    exact DM.same0 ha rfl
  | true =>
    simp -implicitDefEqProofs only [Bool.not_true, condK_f, if_true]
    rw [(Names_m h8 ho.nl).callS rfl ha, lenV_strs, Option.bind_some]
    have hnl : (namesF d).length = d.fs.length := by unfold namesF; rw [sort_len]; simp
    have key := power_J2 d keep hk (namesF d) (by omega) ha (namesF d).length 0 d.fs (by omega) (by omega) (fun nm hnm => by
      obtain ⟨f, h1, _⟩ := mem_get (sort_mem.1 hnm)
      exact ⟨f, h1, ok_fil ho h1⟩)
    have hself : pt H L D { d with fs := d.fs } = H := pt_self ha
    rw [hself, List.drop_zero] at key
    exact key
end Go.Pm
namespace Go.Pm
set_option linter.unusedVariables false
set_option linter.unusedSimpArgs false
theorem tot_put (nm : List UInt8) (f : Fil) : ∀ fs : List (List UInt8 × Fil), totF (putL nm f fs) + ((getL nm fs).getD ⟨[], 0⟩).b.length = totF fs + f.b.length
  | [] => by simp [putL, getL, totF]
  | p :: fs => by
    have ih := tot_put nm f fs
    unfold putL getL
    simp only [totF, List.map_cons, List.sum_cons] at ih ⊢
    split
    · simp only [List.map_cons, List.sum_cons, Option.getD_some]; omega
    · simp only [List.map_cons, List.sum_cons]; omega
theorem mem_put {nm : List UInt8} {f : Fil} : ∀ {fs : List (List UInt8 × Fil)} {p : List UInt8 × Fil}, p ∈ putL nm f fs → p = (nm, f) ∨ p ∈ fs
  | [], p, h => by simp only [putL, List.mem_singleton] at h; exact .inl h
  | q :: fs, p, h => by
    unfold putL at h
    split at h
    · rcases List.mem_cons.1 h with h | h
      · exact .inl h
      · exact .inr (List.mem_cons_of_mem _ h)
    · rcases List.mem_cons.1 h with h | h
      · exact .inr (by rw [h]; exact List.mem_cons_self ..)
      · exact (mem_put h).imp id (List.mem_cons_of_mem _)
theorem put_nd {nm : List UInt8} {f : Fil} {fs : List (List UInt8 × Fil)} (h : (fs.map (·.1)).Nodup) : ((putL nm f fs).map (·.1)).Nodup := by
  rw [putL_keys]
  split
  · rename_i hn
    rw [List.nodup_append]
    refine ⟨h, by simp, fun a ha b hb => ?_⟩
    simp only [List.mem_singleton] at hb
    subst hb
    obtain ⟨p, hp, rfl⟩ := List.mem_map.1 ha
    exact fun e => getL_none.1 hn p hp e
  · exact h
theorem put_len {nm : List UInt8} {f : Fil} : ∀ (fs : List (List UInt8 × Fil)), (putL nm f fs).length = if getL nm fs = none then fs.length + 1 else fs.length
  | [] => rfl
  | q :: fs => by
    unfold putL getL
    split
    · simp
    · simp only [List.length_cons, put_len fs]
      split <;> rfl
theorem newD_ok {sz : Int} (h0 : 0 ≤ sz) (h1 : sz < 2^40) : (newD sz).ok := ⟨h0, h1, by simp [newD, totF]; exact h0, by simp [newD], by simp [newD], by simp [newD], by simp [newD]⟩
theorem stepD_ok {d : Dk} (h : d.ok) : (stepF d).2.ok := by
  have e1 := step_fs d; have e2 := step_sz d
  exact ⟨by rw [e2]; exact h.s0, by rw [e2]; exact h.s1, by rw [e1, e2]; exact h.t, by rw [e1]; exact h.nd, by rw [e1]; exact h.n8, by rw [e1]; exact h.sy, by rw [e1]; exact h.nl⟩
/-- other cells, the same files -/
theorem ok_of {d d' : Dk} (h : d.ok) (e1 : d'.fs = d.fs) (e2 : d'.sz = d.sz) : d'.ok :=
  ⟨by rw [e2]; exact h.s0, by rw [e2]; exact h.s1, by rw [e1, e2]; exact h.t, by rw [e1]; exact h.nd, by rw [e1]; exact h.n8, by rw [e1]; exact h.sy, by rw [e1]; exact h.nl⟩
theorem put_ok {d : Dk} (h : d.ok) {nm : List UInt8} {f : Fil} (ht : (f.b.length : Int) ≤ (fileOf nm d).b.length + roomOf d) (h8 : getL nm d.fs = none → d.fs.length < 8) (hs : 0 ≤ f.sy ∧ f.sy ≤ f.b.length) (hn : nm.length < 2^40) : (putF d nm f).ok := by
  have t1 := tot_put nm f d.fs
  have t2 := h.t
  have t3 := h.n8
  unfold roomOf fileOf at ht
  refine ⟨h.s0, h.s1, ?_, put_nd h.nd, ?_, fun p hp => ?_, fun p hp => ?_⟩
  · show ((totF (putL nm f d.fs) : Nat) : Int) ≤ d.sz; omega
  · show (putL nm f d.fs).length ≤ 8
    rw [put_len]; split
    · have := h8 ‹_›; omega
    · exact t3
  · rcases mem_put hp with rfl | hp
    · exact hs
    · exact h.sy p hp
  · rcases mem_put hp with rfl | hp
    · exact hn
    · exact h.nl p hp
theorem named_len {nm : List UInt8} (h : namedF nm = true) : nm.length < 2^40 := by
  unfold namedF at h
  simp only [Bool.and_eq_true, decide_eq_true_eq] at h
  omega
theorem file_ok {d : Dk} (h : d.ok) (nm : List UInt8) : 0 ≤ (fileOf nm d).sy ∧ (fileOf nm d).sy ≤ (fileOf nm d).b.length := by
  unfold fileOf
  cases hg : getL nm d.fs with
  | none => simp
  | some f => exact h.sy _ (getL_mem hg)
theorem append_ok' {d : Dk} (h : d.ok) (nm b : List UInt8) : (appendF d nm b).2.ok := by
  unfold appendF
  split
  · exact h
  · split
    · split
      · exact h
      · rename_i hr
        split
        · exact h
        · rename_i hn
          have hf := file_ok h nm
          refine stepD_ok (put_ok h (by simp only [List.length_append]; omega) (fun e => ?_) ⟨hf.1, by simp only [List.length_append]; omega⟩ (named_len ‹_›))
          rw [e] at hn
          simp only [Option.isNone_none, true_and] at hn
          omega
    · exact h
theorem get_of_there {d : Dk} {nm : List UInt8} (h : thereF d nm = 0) : getL nm d.fs = some (fileOf nm d) := by
  obtain ⟨f, hf, _⟩ := there_some h
  unfold fileOf; rw [hf]; rfl
theorem file_step (d : Dk) (nm : List UInt8) : fileOf nm (stepF d).2 = fileOf nm d := by unfold fileOf; rw [step_fs]
theorem room_nn {d : Dk} (h : d.ok) : 0 ≤ roomOf d := by have := h.t; unfold roomOf; omega
theorem sync_ok {d : Dk} (h : d.ok) (nm : List UInt8) : (syncF d nm).2.ok := by
  unfold syncF
  split
  · rename_i ht
    split
    · have hs := stepD_ok h
      have hr := room_nn hs
      refine put_ok hs ?_ (fun e => ?_) ⟨by simp, by simp⟩ (h.nl _ (getL_mem (get_of_there ht)))
      · rw [file_step]; show ((fileOf nm d).b.length : Int) ≤ _; omega
      · rw [step_fs, get_of_there ht] at e; cases e
    · exact stepD_ok h
  · exact h
theorem cut_ok' {d : Dk} (h : d.ok) (b : Int) : (cutF d b).2.ok := by
  unfold cutF
  split
  · exact h
  · split
    · exact h
    · exact ok_of h rfl rfl
theorem pow_ok (keep : List Int) : ∀ (ns : List (List UInt8)) (i : Nat) (fs : List (List UInt8 × Fil)), (∀ nm ∈ ns, (getL nm fs).isSome = true) → (∀ p ∈ fs, FilOk p.2) →
    totF (powL keep ns i fs) ≤ totF fs ∧ (powL keep ns i fs).map (·.1) = fs.map (·.1) ∧ ∀ p ∈ powL keep ns i fs, FilOk p.2
  | [], i, fs, h1, h2 => ⟨Nat.le_refl _, rfl, h2⟩
  | nm :: ns, i, fs, h1, h2 => by
    obtain ⟨f, hf⟩ := Option.isSome_iff_exists.1 (h1 nm (by simp))
    have hfo := h2 _ (getL_mem hf)
    have hk := kOf_nn keep i
    have ht := tot_put nm (trimF f (kOf keep i)) fs
    have hl : (trimF f (kOf keep i)).b.length ≤ f.b.length := by show (f.b.take _).length ≤ _; rw [List.length_take]; omega
    have hkeys : (putL nm (trimF f (kOf keep i)) fs).map (·.1) = fs.map (·.1) := by rw [putL_keys, if_neg (by rw [hf]; simp)]
    obtain ⟨q1, q2, q3⟩ := pow_ok keep ns (i + 1) (putL nm (trimF f (kOf keep i)) fs) (fun x hx => by
      by_cases e : x = nm
      · rw [e, getL_put_self]; rfl
      · rw [getL_put_ne e]; exact h1 x (List.mem_cons_of_mem _ hx)) (fun p hp => by
      rcases mem_put hp with rfl | hp
      · exact trimF_ok hfo hk
      · exact h2 p hp)
    unfold powL
    rw [hf, Option.getD_some]
    rw [hf, Option.getD_some] at ht
    exact ⟨by omega, q2.trans hkeys, q3⟩
theorem power_ok {d : Dk} (h : d.ok) (keep : List Int) : (powerF d keep).ok := by
  unfold powerF
  split
  · have h1 := h.s1; have h2 := h.t
    obtain ⟨q1, q2, q3⟩ := pow_ok keep (namesF d) 0 d.fs (fun nm hnm => by
      obtain ⟨f, hf, _⟩ := mem_get (sort_mem.1 hnm); rw [hf]; rfl) (fun p hp => by
      have h4 := h.sy p hp
      have : p.2.b.length ≤ totF d.fs := by
        have : ∀ l : List (List UInt8 × Fil), p ∈ l → p.2.b.length ≤ totF l := fun l => by
          induction l with
          | nil => intro h; cases h
          | cons q l ih =>
            intro h
            simp only [totF, List.map_cons, List.sum_cons]
            rcases List.mem_cons.1 h with rfl | h
            · omega
            · have := ih h; simp only [totF] at this; omega
        exact this _ hp
      exact ⟨h4.1, h4.2, by omega⟩)
    have hl : (powL keep (namesF d) 0 d.fs).length = d.fs.length := by have := congrArg List.length q2; simpa using this
    exact ⟨h.s0, h.s1, by show ((totF (powL keep (namesF d) 0 d.fs) : Nat) : Int) ≤ d.sz; omega, by show ((powL keep (namesF d) 0 d.fs).map (·.1)).Nodup; rw [q2]; exact h.nd, by show (powL keep (namesF d) 0 d.fs).length ≤ 8; rw [hl]; exact h.n8, fun p hp => ⟨(q3 p hp).a, (q3 p hp).b⟩, fun p hp => by
      have hp' : p.1 ∈ (powL keep (namesF d) 0 d.fs).map (·.1) := List.mem_map.2 ⟨p, hp, rfl⟩
      rw [q2] at hp'
      obtain ⟨q, hq, e⟩ := List.mem_map.1 hp'
      rw [← e]; exact h.nl q hq⟩
  · exact h
end Go.Pm
namespace Go.Pm
open Go.Proofs
set_option linter.unusedVariables false
set_option linter.unusedSimpArgs false
abbrev KK := AV → List AObj → List Nat → Option R3
theorem At_new (H : List AObj) (sz : Int) : At (H ++ [fobj [], drow H.length (newD sz)]) H.length (H.length + 1) (newD sz) :=
  ⟨by rw [List.getElem?_append_right (Nat.le_refl _)]; simp [newD], by rw [List.getElem?_append_right (by omega)]; simp, by omega⟩
theorem New_K (sz : Int) (h0 : 0 ≤ sz) (h1 : sz ≤ 67108864) (H : List AObj) : ∃ H', At H' H.length (H.length + 1) (newD sz) ∧ ∀ K : KK, callK (EV C) true n_disk_New [.int .i64 sz] H K = K (.tup [.ptr (H.length + 1) 1 0 0, .nili]) H' [] :=
  ⟨_, At_new H sz, fun K => callK_raw (New_ok sz h0 h1 H)⟩
theorem DM.callA {f : FuncId} {args : List AV} {d d' : Dk} {v : AV} (h : DM f args d v d') (hg : goodL args = true) {H : List AObj} {L D : Nat} (ha : At H L D d) :
    ∃ H', At H' L D d' ∧ ∀ K : KK, callK (EV C) false f (.ptr D 1 0 0 :: args) H K = K v H' [] := ⟨_, ha.pt d', fun K => h.call hg ha⟩
theorem er_eqc (k m : Int) (ms : Array (String × TypeId)) (b : Bool) : binA .eql (.interface ms) (cmpT Try.prog) b (erA k) (.ifc t_api_Code (.int .i64 m)) = some (.bool (decide (k ≠ 0 ∧ k = m))) := by
  unfold erA
  by_cases h : k = 0
  · rw [if_pos h]; simp [h]; rfl
  · rw [if_neg h]
    have : cmpT Try.prog t_api_Code = true := by kernel_rfl
    simp [binA, eqA, h, this]
theorem ptr_nil (t : TypeId) (b : Bool) (D : Nat) : binA .eql (Go.TypeDesc.pointer t) (cmpT Try.prog) b (.ptr D 1 0 0) .nilp = some (.bool false) := rfl
theorem ptr_nnil (t : TypeId) (b : Bool) (D : Nat) : binA .neq (Go.TypeDesc.pointer t) (cmpT Try.prog) b (.ptr D 1 0 0) .nilp = some (.bool true) := rfl
theorem nil_neq (ms : Array (String × TypeId)) : binA .neq (.interface ms) (cmpT Try.prog) true .nili .nili = some (.bool false) := rfl
theorem nil_eql (ms : Array (String × TypeId)) : binA .eql (.interface ms) (cmpT Try.prog) true .nili .nili = some (.bool true) := rfl
theorem appendF_go {d : Dk} {nm b : List UInt8} (hoff : d.off = false) (hn : namedF nm = true) (hr : (b.length : Int) ≤ roomOf d) (h8 : (getL nm d.fs).isNone = true → d.fs.length < 8) : appendF d nm b = stepE (putF d nm ⟨(fileOf nm d).b ++ b, (fileOf nm d).sy⟩) := by
  unfold appendF
  rw [if_neg (by rw [hoff]; simp), if_pos hn, if_neg (by omega), if_neg (fun q => by have := h8 q.1; omega)]
end Go.Pm
namespace Go.Pm
set_option linter.unusedVariables false
set_option linter.unusedSimpArgs false
def Free (n : Int) (d : Dk) : Prop := d.off = false ∧ (d.has = false ∨ (n ≤ d.bud ∧ d.bud < 2^62))
theorem Free.mono {n m : Int} {d : Dk} (h : Free n d) (hm : m ≤ n) : Free m d := ⟨h.1, h.2.imp id fun q => ⟨by omega, q.2⟩⟩
theorem step_free {d : Dk} {n : Int} (h : Free (n + 1) d) (h0 : 0 ≤ n) : (stepF d).1 = true ∧ Free n (stepF d).2 := by
  obtain ⟨h1, h2⟩ := h
  unfold stepF Free
  cases hh : d.has with
  | false => simp [hh, h1]
  | true =>
    rcases h2 with h2 | ⟨h2, h3⟩
    · rw [hh] at h2; cases h2
    · have : d.bud ≠ 0 := by omega
      have e : IntKind.i64.wrap (d.bud - 1) = d.bud - 1 := wrap64 (by omega) (by omega)
      simp only [this, if_false, if_true, e, h1, true_and]
      exact .inr ⟨by omega, by omega⟩
section
variable {d : Dk} {nm b : List UInt8} {f : Fil} {n : Int}
def appFs (d : Dk) (nm b : List UInt8) : List (List UInt8 × Fil) := putL nm ⟨(fileOf nm d).b ++ b, (fileOf nm d).sy⟩ d.fs
theorem append_free (h : Free (n + 1) d) (h0 : 0 ≤ n) (hn : namedF nm = true) (hr : (b.length : Int) ≤ roomOf d) (h8 : (getL nm d.fs).isNone = true → d.fs.length < 8) :
    (appendF d nm b).2.fs = appFs d nm b ∧ (appendF d nm b).2.sz = d.sz ∧ (appendF d nm b).1 = 0 ∧ Free n (appendF d nm b).2 := by
  rw [appendF_go h.1 hn hr h8]
  obtain ⟨h1, h2⟩ := step_free (d := putF d nm ⟨(fileOf nm d).b ++ b, (fileOf nm d).sy⟩) h h0
  exact ⟨step_fs _, step_sz _, by simp [stepE, h1], h2⟩
theorem there0 (hoff : d.off = false) (hg : getL nm d.fs = some f) : thereF d nm = 0 ∧ fileOf nm d = f := by
  unfold thereF fileOf; rw [hg, hoff]; simp
theorem sync_free (h : Free (n + 1) d) (h0 : 0 ≤ n) (hg : getL nm d.fs = some f) :
    (syncF d nm).2.sz = d.sz ∧ (syncF d nm).1 = 0 ∧ Free n (syncF d nm).2 ∧ (syncF d nm).2.fs = putL nm ⟨f.b, f.b.length⟩ d.fs := by
  obtain ⟨h1, h2⟩ := there0 h.1 hg
  obtain ⟨h3, h4⟩ := step_free h h0
  unfold syncF
  rw [if_pos h1, h2, if_pos h3]
  exact ⟨step_sz d, rfl, h4, by show putL _ _ (stepF d).2.fs = _; rw [step_fs]⟩
end
theorem new_free (sz n : Int) : Free n (newD sz) := ⟨rfl, .inl rfl⟩
theorem tot1 (g : Fil) (nm : List UInt8) : totF [(nm, g)] = g.b.length := by simp [totF]
end Go.Pm
namespace Go.Pm
set_option linter.unusedVariables false
set_option linter.unusedSimpArgs false
section
variable {d : Dk} {ls : List (List UInt8)} {f : Fil} {n : Int}
end
theorem power_off (d : Dk) (keep : List Int) : (powerF d keep).off = false := by
  unfold powerF
  split
  · rfl
  · rename_i h; simpa using h
end Go.Pm
namespace Go.Pm
open Go.Proofs
set_option linter.unusedVariables false
set_option linter.unusedSimpArgs false
def nA : List UInt8 := [97]
theorem named_A : namedF nA = true := by decide
theorem putNA (f g : Fil) : putL nA f [(nA, g)] = [(nA, f)] := by unfold putL; rw [if_pos rfl]
theorem getNA (g : Fil) : getL nA [(nA, g)] = some g := by unfold getL; rw [if_pos rfl]
theorem fileA {d : Dk} {f : Fil} (hfs : d.fs = [(nA, f)]) : fileOf nA d = f := by unfold fileOf; rw [hfs, getNA]; rfl
theorem roomA {d : Dk} {f : Fil} (hfs : d.fs = [(nA, f)]) : roomOf d = d.sz - f.b.length := by unfold roomOf; rw [hfs, tot1]
theorem appFsA {d : Dk} {f : Fil} (hfs : d.fs = [(nA, f)]) (b : List UInt8) : appFs d nA b = [(nA, ⟨f.b ++ b, f.sy⟩)] := by unfold appFs; rw [fileA hfs, hfs, putNA]
theorem powA {d : Dk} {f : Fil} (hfs : d.fs = [(nA, f)]) (hoff : d.off = true) (keep : List Int) : (powerF d keep).fs = [(nA, trimF f (kOf keep 0))] := by
  unfold powerF
  rw [if_pos hoff]
  have hn : namesF d = [nA] := by unfold namesF; rw [hfs]; simp [sortL]
  rw [hn, hfs]
  unfold powL powL
  rw [getNA, putNA]; rfl
theorem DM.callR {f : FuncId} {nm l : List UInt8} {d d' : Dk} {v : AV} (h : DM f [sv nm, bys l] d v d') {H : List AObj} {L D n : Nat} (hn : n = l.length) (ha : At H L D d) :
    ∃ H', At H' L D d' ∧ ∀ K : KK, callK (EV C) false f [.ptr D 1 0 0, sv nm, .slc H.length 0 n n] (H ++ [.row 1 (l.map u8)]) K = K v H' [] := by
  subst hn
  refine ⟨_, (ha.app [.dead]).pt d', fun K => ?_⟩
  have hz : frz (H ++ [AObj.row 1 (l.map u8)]) (.slc H.length 0 l.length l.length) = some (bys l) := frz_row (z := 1) (by simp) (by simp) (goodL_u8 l)
  have e1 : frzL (H ++ [AObj.row 1 (l.map u8)]) [.ptr D 1 0 0, sv nm, .slc H.length 0 l.length l.length] = some [.ptr D 1 0 0, sv nm, bys l] := frzL_cons rfl (frzL_cons rfl (frzL_cons hz rfl))
  have e2 : belL 0 [.ptr D 1 0 0, sv nm, bys l] = false := by simp [belL, AV.bel]
  have e3 : killsL [.ptr D 1 0 0, sv nm, .slc H.length 0 l.length l.length] = [H.length] := rfl
  unfold callK Go.Pm.callA
  simp only [Bool.false_eq_true, if_false, e1, Option.bind_some, e2, e3, killAll]
  rw [show (H ++ [AObj.row 1 (l.map u8)]).set H.length .dead = H ++ [.dead] by simp, h _ L D (ha.app [.dead])]
  rfl
theorem last_rowW (H : List AObj) (X : AObj) : (H ++ [X])[H.length]? = some X := by simp
theorem law15_up_ok : EV C n_law15_up [] [] = some (.bool true, [], []) := by
  refine law15_up_of ?_
  dsimp only
  have o0 := newD_ok (sz := 9) (by decide) (by decide)
  obtain ⟨H1, g1, k1⟩ := New_K 9 (by decide) (by decide) []
  rw [k1]
  simp -implicitDefEqProofs only [extA_0, extA_1, Option.bind_some, ptr_nil, nil_neq, splitK_f, condK_f, List.length_nil, Nat.zero_add] at g1 ⊢
  have r3 : ∀ (H : List AObj) (K : KK), rawK 1 3 (.int .u8 0) [(0, (.int .u8 97)), (1, (.int .u8 98)), (2, (.int .u8 99))] H K = K (.slc H.length 0 3 3) (H ++ [.row 1 (([97, 98, 99] : List UInt8).map u8)]) [] := fun H K => rfl
  have r2 : ∀ (H : List AObj) (K : KK), rawK 1 2 (.int .u8 0) [(0, (.int .u8 100)), (1, (.int .u8 101))] H K = K (.slc H.length 0 2 2) (H ++ [.row 1 (([100, 101] : List UInt8).map u8)]) [] := fun H K => rfl
  have cv : ∀ (H : List AObj) (l : List UInt8) (n : Nat), n = l.length → 0 < n → cvR (.slc H.length 0 n n) (H ++ [.row 1 (l.map u8)]) = some (.slc H.length 0 n n) := fun H l n hn h0 => by
    subst hn; simp only [cvR, last_rowW, List.length_map]; rw [if_pos ⟨trivial, h0⟩]
  -- plainly
  obtain ⟨p1, p2, p3, p4⟩ := append_free (n := 20) (nm := nA) (b := [97, 98, 99]) (new_free 9 _) (by decide) named_A (by decide) (fun _ => by decide)
  have q1 : (appendF (newD 9) nA [97, 98, 99]).2.fs = [(nA, ⟨[97, 98, 99], 0⟩)] := p1.trans rfl
  have o1 := append_ok' o0 nA [97, 98, 99]
  obtain ⟨H2, g2, k2⟩ := (Append_m o0 nA [97, 98, 99] (by decide)).callR (n := 3) rfl g1
  rw [p3] at k2
  generalize (appendF (newD 9) nA [97, 98, 99]).2 = d1 at *
  obtain ⟨s1, s2, s3, s4⟩ := sync_free (n := 19) p4 (by decide) (by rw [q1, getNA])
  rw [q1, putNA] at s4
  have o2 := sync_ok o1 nA
  obtain ⟨H3, g3, k3⟩ := (Sync_m o1 nA).callA rfl g2
  rw [s2] at k3
  have z2 := s1.trans p2
  generalize (syncF d1 nA).2 = d2 at *
  obtain ⟨t1, t2, t3, t4⟩ := append_free (n := 18) (nm := nA) (b := [100, 101]) s3 (by decide) named_A (by rw [roomA s4, z2]; decide) (fun _ => by rw [s4]; simp)
  rw [appFsA s4] at t1
  have o3 := append_ok' o2 nA [100, 101]
  obtain ⟨H4, g4, k4⟩ := (Append_m o2 nA [100, 101] (by decide)).callR (n := 2) rfl g3
  rw [t3] at k4
  generalize (appendF d2 nA [100, 101]).2 = d3 at *
  obtain ⟨H5, g5, k5⟩ := (Cut_m d3 0).callA rfl g4
  have c1 : cutF d3 0 = (0, { d3 with has := true, bud := 0 }) := by unfold cutF; rw [if_neg (by decide), if_neg (by rw [t4.1]; simp)]
  have o4 := cut_ok' o3 0
  rw [c1] at g5 k5 o4
  obtain ⟨H6, g6, k6⟩ := (Sync_m o4 nA).callA rfl g5
  have o5 := sync_ok o4 nA
  have y : (syncF { d3 with has := true, bud := 0 } nA).1 = 10 ∧ (syncF { d3 with has := true, bud := 0 } nA).2.off = true ∧ (syncF { d3 with has := true, bud := 0 } nA).2.fs = d3.fs := by
    have ht := (there0 (d := { d3 with has := true, bud := 0 }) (nm := nA) t4.1 (show getL nA d3.fs = _ by rw [t1, getNA])).1
    unfold syncF
    rw [if_pos ht]
    exact ⟨rfl, rfl, rfl⟩
  obtain ⟨y1, y2, y3⟩ := y
  rw [y1] at k6
  generalize (syncF { d3 with has := true, bud := 0 } nA).2 = d4 at *
  obtain ⟨H7, g7, k7⟩ := (Power_m o5 [1] (by decide)).callA rfl g6
  have o6 := power_ok o5 [1]
  have hp := powA (y3.trans t1) y2 [1]
  have hpo := power_off d4 [1]
  generalize powerF d4 [1] = d5 at *
  obtain ⟨H8, g8, k8⟩ := (Read_m o6 nA).callA rfl g7
  obtain ⟨th, fo⟩ := there0 hpo (show getL nA d5.fs = _ by rw [hp, getNA])
  have hr : readF d5 nA = [97, 98, 99, 100] := by unfold readF; rw [if_pos th, fo]; rfl
  rw [hr, th] at k8
  rw [r3, cv _ [97, 98, 99] 3 rfl (by decide), Option.bind_some, show (AV.str { data := #[97] }) = sv nA from rfl, k2, k3, r2, cv _ [100, 101] 2 rfl (by decide), Option.bind_some, k4, k5, k6, show ∀ (H : List AObj) (K : KK), litK 1 1 (.int .i64 0) [(0, (.int .i64 1))] H K = K (ints [1]) H [] from fun _ _ => rfl, k7, k8]
  have e10 : ∀ ms, binA .eql (Go.TypeDesc.interface ms) (cmpT Try.prog) false (erA 10) (.ifc t_api_Code (.int .i64 10)) = some (.bool true) := fun ms => by rw [er_eqc]; rfl
  have ez : ∀ ms, binA .eql (Go.TypeDesc.interface ms) (cmpT Try.prog) true (erA 0) .nili = some (.bool true) := fun ms => rfl
  simp -implicitDefEqProofs only [ez, e10, Option.bind_some, splitK_t, extA_0, extA_1, cvL_bys]
  exact endB_good rfl
end Go.Pm
namespace Go.Pm
open Go.Proofs
set_option linter.unusedVariables false
set_option linter.unusedSimpArgs false
structure Dt (H : List AObj) (L D m : Nat) (d : Dk) (all : List UInt8) : Prop where
  a : At H L D d
  r : H[m]? = some (.row 1 (all.map u8))
  n1 : m ≠ L
  n2 : m ≠ D
theorem Dt.pt {H : List AObj} {L D m : Nat} {d0 : Dk} {all : List UInt8} (h : Dt H L D m d0 all) (d : Dk) : Dt (pt H L D d) L D m d all := by
  have h1 := h.n1; have h2 := h.n2
  refine ⟨h.a.pt d, ?_, h.n1, h.n2⟩
  unfold Go.Pm.pt
  rw [List.getElem?_set_ne (by omega), List.getElem?_set_ne (by omega)]
  exact h.r
theorem Dt.app {H : List AObj} {L D m : Nat} {d : Dk} {all : List UInt8} (h : Dt H L D m d all) (l : List UInt8) (hs : all.length + l.length ≤ 2^46) :
    ∃ H', Dt H' L D m d (all ++ l) ∧ ∀ K : KK, appK 1 1 (.slc m 0 all.length all.length) (bys l) H K = K (.slc m 0 (all ++ l).length (all ++ l).length) H' [] := by
  have h1 := h.n1; have h2 := h.n2
  have hm : m < H.length := (List.getElem?_eq_some_iff.1 h.r).1
  refine ⟨H.set m (.row 1 ((all ++ l).map u8)), ⟨⟨?_, ?_, h.a.lt⟩, ?_, h1, h2⟩, fun K => ?_⟩
  · rw [List.getElem?_set_ne h1]; exact h.a.m
  · rw [List.getElem?_set_ne h2]; exact h.a.r
  · rw [List.getElem?_set_self hm]
  · rw [appK_row (es := all.map u8) (ys := l.map u8) rfl h.r (List.length_map _).symm (lz_u8 l) (by decide) (by decide) (by decide) (by rw [List.length_map]; omega), esc_good (goodL_u8 l), List.length_map, List.length_append, List.map_append]
end Go.Pm
namespace Go.Pm
open Go.Proofs
set_option linter.unusedVariables false
set_option linter.unusedSimpArgs false
/-- the clone as a row of one's own, or a fresh empty slice -/
def clR (H : List AObj) (z : Nat) (es : List AV) : AV × List AObj × List Nat := match es with
  | [] => (.emp none, H, [])
  | es => (.slc H.length 0 es.length es.length, H ++ [.row z es], [])
theorem Clone_byte_r_ok (l : List UInt8) (h : l.length ≤ 2^40) (H : List AObj) : EV C n_Clone_byte_r [bys l] H = some (clR H 1 (l.map u8)) := by
  cases l with
  | nil =>
    refine clone_fresh (C0 := C0) (l := [n_Clone_byte, n_Clone_byte_r]) rfl rfl ?_ ?_
    · refine Clone_byte_r_of ?_
      rfl
    · refine Clone_byte_r_of ?_
      rfl
  | cons x l =>
    rw [show bys (x :: l) = .lst (u8 x :: l.map u8) from rfl, clone_cons (C0 := C0) (l := [n_Clone_byte, n_Clone_byte_r]) rfl rfl]
    refine Clone_byte_r_of ?_
    have e1 : binA .eql (.slice 5) (cmpT Try.prog) true (.lst (u8 x :: l.map u8)) .nils = some (.bool false) := rfl
    simp only [e1, Option.bind_some, condK_f]
    rw [appK_fresh (ys := u8 x :: l.map u8) (.inl rfl) rfl rfl (lz_u8 (x :: l)) (by decide) (by decide) (by decide) (by simp at h ⊢; omega)]
    exact endB_raw
theorem Read_r {d : Dk} (ho : d.ok) {nm : List UInt8} {f : Fil} (hoff : d.off = false) (hg : getL nm d.fs = some f) {H : List AObj} {L D : Nat} (ha : At H L D d) :
    EV C n_disk_Disk_Read_r [.ptr D 1 0 0, sv nm] H = some (.tup [(clR H 1 (f.b.map u8)).1, .nili], (clR H 1 (f.b.map u8)).2.1, []) := by
  refine disk_Disk_Read_r_of ?_
  obtain ⟨th, fo⟩ := there0 hoff hg
  have h1 := ho.s1; have h2 := ho.t; have hl := tot_get hg
  dsimp only
  rw [(there_m d nm).callS (sv_good nm) ha, th]
  simp -implicitDefEqProofs only [er_neq, Option.bind_some, condK_dec]
  rw [if_neg (by decide)]
  simp -implicitDefEqProofs only [nP, oP, Option.bind_some, ha.fs, ha.look, hg, lookL, Bool.false_eq_true, if_false]
  rw [show fldA false 1 0 f.av = some (bys f.b) from rfl, Option.bind_some, callK_raw (Clone_byte_r_ok f.b (by omega) H)]
  have : (clR H 1 (f.b.map u8)).2.2 = [] := by unfold clR; split <;> rfl
  rw [this]
  simp [endB_raw]

theorem ix_row {H : List AObj} {m n i : Nat} {es : List AV} (h : H[m]? = some (.row 1 es)) (hn : es.length = n) (hi : i < n) : ixA 1 (.slc m 0 n n) (.int .i64 (i : Int)) H = some (.ptr m n i 0) := by
  simp [ixA, indexA, h, hn]; omega
theorem ld_row {H : List AObj} {m n i : Nat} {l : List UInt8} (h : H[m]? = some (.row 1 (l.map u8))) (hn : l.length = n) (hi : i < l.length) : loadA false 1 (.ptr m n i 0) H = some (u8 l[i]) := by
  simp [loadA, h, hn, ldv, List.getElem?_eq_getElem hi, AV.cells, u8]
theorem sto_u8 {H : List AObj} {m n i : Nat} {l : List UInt8} {v : UInt8} {K : List AObj → List Nat → Option R3} (h : H[m]? = some (.row 1 (l.map u8))) (hn : l.length = n) (hi : i < l.length) : stoK 1 (.ptr m n i 0) (u8 v) H K = K (H.set m (.row 1 ((l.set i v).map u8))) [] := by
  have h2 : storeA 1 (.ptr m n i 0) (u8 v) H = some (H.set m (.row 1 ((l.set i v).map u8)), []) := by
    simp [storeA, h, hn, List.getElem?_eq_getElem hi, AV.cells, u8, setC, set1, AV.one, escs, belL, AV.bel, List.map_set]
  unfold stoK; rw [h2]; rfl
theorem add_u8 (x : UInt8) : ∃ v : UInt8, binA .add (Go.TypeDesc.int Go.IntKind.u8) (cmpT Try.prog) true (u8 x) (.int .u8 1) = some (u8 v) := by
  refine ⟨UInt8.ofNat (x.toNat + 1), ?_⟩
  rw [show u8 x = .int .u8 (x.toNat : Int) from rfl, add_int]
  congr 1
end Go.Pm
namespace Go.Pm
open Go.Proofs
set_option linter.unusedVariables false
set_option linter.unusedSimpArgs false
theorem Dt.st {H : List AObj} {L D m : Nat} {d : Dk} {all : List UInt8} (h : Dt H L D m d all) (i : Nat) (v : UInt8) : Dt (H.set m (.row 1 ((all.set i v).map u8))) L D m d (all.set i v) := by
  have h1 := h.n1; have h2 := h.n2
  have hm : m < H.length := (List.getElem?_eq_some_iff.1 h.r).1
  refine ⟨⟨?_, ?_, h.a.lt⟩, ?_, h1, h2⟩
  · rw [List.getElem?_set_ne h1]; exact h.a.m
  · rw [List.getElem?_set_ne h2]; exact h.a.r
  · rw [List.getElem?_set_self hm]
theorem stays_end {H : List AObj} {L D : Nat} {d : Dk} {f : Fil} {b : List UInt8} {t10 : AV} {k : Nat} {E : List Nat} (ha : At H L D d) (ho : d.ok) (hoff : d.off = false) (hg : getL nA d.fs = some f) (hb : f.b = b) (hl : lenV t10 H = some (.int .i64 (k : Int))) :
    law15_DiskStays_J15 0 (bys b) (.bool true) (.ptr D 1 0 0) .nili (.bool true) t10 .nili (.bool true) (.int .i64 (k : Int)) H E = some (.bool true, [], []) := by
  refine law15_DiskStays_J15_of ?_
  rw [hl, Option.bind_some, lss_int, Option.bind_some, condK_dec, if_neg (by omega)]
  obtain ⟨th, fo⟩ := there0 hoff hg
  have hr : readF d nA = b := by unfold readF; rw [if_pos th, fo, hb]
  obtain ⟨H1, g1, k1⟩ := (Read_m ho nA).callA rfl ha
  rw [hr, th] at k1
  rw [show (AV.str { data := #[97] }) = sv nA from rfl, k1]
  have ez : ∀ ms, binA .eql (Go.TypeDesc.interface ms) (cmpT Try.prog) true (erA 0) .nili = some (.bool true) := fun ms => rfl
  simp -implicitDefEqProofs only [extA_0, extA_1, Option.bind_some, splitK_t, nil_eql, ez, cvL_bys, eql_str]
  refine (endB_good rfl).trans ?_
  simp
theorem stays_J15 {L D r : Nat} {d : Dk} {f : Fil} {b : List UInt8} (ho : d.ok) (hoff : d.off = false) (hg : getL nA d.fs = some f) (hb : f.b = b) {N : Nat} (hN : N < 2^40) : ∀ (k i : Nat) (H : List AObj) (E : List Nat) (es : List UInt8), i + k = N → es.length = N → Dt H L D r d es →
    law15_DiskStays_J15 0 (bys b) (.bool true) (.ptr D 1 0 0) .nili (.bool true) (.slc r 0 N N) .nili (.bool true) (.int .i64 (i : Int)) H E = some (.bool true, [], [])
  | 0, i, H, E, es, hi, hes, hD => by
    obtain rfl : i = N := by omega
    exact stays_end hD.a ho hoff hg hb (by simp [lenV, lenA, lenOf, hD.r, hes])
  | k + 1, i, H, E, es, hi, hes, hD => by
    refine law15_DiskStays_J15_of ?_
    have e3 : IntKind.i64.wrap ((i : Int) + 1) = ((i + 1 : Nat) : Int) := w64 (by omega) (by omega)
    rw [show lenV (.slc r 0 N N) H = some (.int .i64 (N : Int)) from by simp [lenV, lenA, lenOf, hD.r, hes], Option.bind_some, lss_int, Option.bind_some, condK_dec, if_pos (by omega)]
    have hil : i < es.length := by omega
    obtain ⟨v, hv⟩ := add_u8 es[i]
    rw [ix_row hD.r (by rw [List.length_map]; exact hes) (by omega), Option.bind_some, ld_row hD.r hes hil, Option.bind_some, hv, Option.bind_some, Option.bind_some, sto_u8 hD.r hes hil, add_int, Option.bind_some, e3]
    exact stays_J15 ho hoff hg hb hN k (i + 1) _ _ (es.set i v) (by omega) (by rw [List.length_set]; exact hes) (hD.st i v)
theorem stays_J9 {L D r : Nat} {d : Dk} {f : Fil} {b : List UInt8} (ho : d.ok) (hoff : d.off = false) (hg : getL nA d.fs = some f) (hb : f.b = b) {N : Nat} (hN : N < 2^40) (hbN : b.length < 2^40) : ∀ (k i : Nat) (H : List AObj) (E : List Nat) (es : List UInt8), i + k = N → es.length = N → Dt H L D r d es →
    law15_DiskStays_J9 0 (bys b) (.bool true) (.ptr D 1 0 0) (.slc r 0 N N) .nili (.bool true) (.int .i64 (i : Int)) H E = some (.bool true, [], [])
  | 0, i, H, E, es, hi, hes, hD => by
    refine law15_DiskStays_J9_of ?_
    rw [show lenV (.slc r 0 N N) H = some (.int .i64 (N : Int)) from by simp [lenV, lenA, lenOf, hD.r, hes], Option.bind_some, lss_int, Option.bind_some, condK_dec, if_neg (by omega)]
    rw [show (AV.str { data := #[97] }) = sv nA from rfl, callK_raw (Read_r ho hoff hg hD.a)]
    have eq : ∀ x y : List UInt8, x = y → binA .eql Go.TypeDesc.string (cmpT Try.prog) false (.str ⟨x.toArray⟩) (.str ⟨y.toArray⟩) = some (.bool true) := fun x y h => by rw [eql_str, h, decide_eq_true rfl]
    rw [hb]
    cases b with
    | nil =>
      rw [show clR H 1 (([] : List UInt8).map u8) = (.emp none, H, []) from rfl]
      dsimp only
      rw [extA_0, Option.bind_some, extA_1, Option.bind_some, show cvL (.emp none) H = some (.str ⟨([] : List UInt8).toArray⟩) from rfl, Option.bind_some, cvL_bys, Option.bind_some, eq [] [] rfl, Option.bind_some]
      exact stays_end (k := 0) hD.a ho hoff hg hb rfl
    | cons x l =>
      have e1 : clR H 1 ((x :: l).map u8) = (.slc H.length 0 (x :: l).length (x :: l).length, H ++ [.row 1 ((x :: l).map u8)], []) := by
        simp [clR]
      rw [e1]
      dsimp only
      have hD2 : Dt (H ++ [.row 1 ((x :: l).map u8)]) L D H.length d (x :: l) := by
        have := hD.a.dl; have := hD.a.lt
        exact ⟨hD.a.app _, by simp, by omega, by omega⟩
      have hcv : cvL (.slc H.length 0 (x :: l).length (x :: l).length) (H ++ [.row 1 ((x :: l).map u8)]) = some (.str ⟨(x :: l).toArray⟩) := by
        have e : elemsA (.slc H.length 0 (x :: l).length (x :: l).length) (H ++ [.row 1 ((x :: l).map u8)]) = some ((x :: l).map u8) := by
          simp only [elemsA, hD2.r, List.length_map, if_true, List.drop_zero]; rw [List.take_of_length_le (by simp)]
        unfold cvL
        dsimp only
        rw [e, Option.bind_some, toBytes_u8]; rfl
      rw [extA_0, Option.bind_some, extA_1, Option.bind_some, hcv, Option.bind_some, cvL_bys, Option.bind_some, eq _ _ rfl, Option.bind_some]
      exact stays_J15 ho hoff hg hb hbN (x :: l).length 0 _ _ (x :: l) (by omega) rfl hD2
  | k + 1, i, H, E, es, hi, hes, hD => by
    refine law15_DiskStays_J9_of ?_
    have e3 : IntKind.i64.wrap ((i : Int) + 1) = ((i + 1 : Nat) : Int) := w64 (by omega) (by omega)
    rw [show lenV (.slc r 0 N N) H = some (.int .i64 (N : Int)) from by simp [lenV, lenA, lenOf, hD.r, hes], Option.bind_some, lss_int, Option.bind_some, condK_dec, if_pos (by omega)]
    have hil : i < es.length := by omega
    obtain ⟨v, hv⟩ := add_u8 es[i]
    rw [ix_row hD.r (by rw [List.length_map]; exact hes) (by omega), Option.bind_some, ld_row hD.r hes hil, Option.bind_some, hv, Option.bind_some, Option.bind_some, sto_u8 hD.r hes hil, add_int, Option.bind_some, e3]
    exact stays_J9 ho hoff hg hb hN hbN k (i + 1) _ _ (es.set i v) (by omega) (by rw [List.length_set]; exact hes) (hD.st i v)
end Go.Pm
