/- A part of the proof: what the functions of the program answer, as plain lists and numbers. -/
import Derived.Test.YtclfnechcblmoaaDoorP9
namespace Go.Pm
open Go.Proofs
set_option linter.unusedVariables false
set_option maxRecDepth 100000
theorem ref04_Depth_of {r : R3} {x0 : AV} {H : List AObj} (hh : (fun n => (
 newK x0 H fun a1 H1 E1 =>
 (offA a1 4).bind fun a2 =>
 (loadA false 1 a2 H1).bind fun a3 =>
 (lenV a3 H1).bind fun a4 =>
 (binA .eql (Go.TypeDesc.int Go.IntKind.i64) (cmpT Tryd.prog) true a4 (.int .i64 0)).bind fun a5 =>
 condK a5
 (endB false false n (.int .i64 0) H1 (E1 ++ []))
 ((offA a1 4).bind fun a6 =>
 (loadA false 1 a6 H1).bind fun a7 =>
 (ixA 5 a7 (.int .i64 0) H1).bind fun a8 =>
 (loadA true 5 a8 H1).bind fun a9 =>
 callK (EV C) false n_ref04_Depth [a9] H1 fun a10 H10 E10 =>
 (offA a1 4).bind fun a11 =>
 (loadA false 1 a11 H10).bind fun a12 =>
 (ixA 5 a12 (.int .i64 1) H10).bind fun a13 =>
 (loadA true 5 a13 H10).bind fun a14 =>
 callK (EV C) false n_ref04_Depth [a14] H10 fun a15 H15 E15 =>
 (binA .gtr (Go.TypeDesc.int Go.IntKind.i64) (cmpT Tryd.prog) false a10 a15).bind fun a16 =>
 condK a16
 ((binA .add (Go.TypeDesc.int Go.IntKind.i64) (cmpT Tryd.prog) true a10 (.int .i64 1)).bind fun a17 =>
 endB false false n a17 H15 (E15 ++ (E10 ++ (E1 ++ []))))
 ((binA .add (Go.TypeDesc.int Go.IntKind.i64) (cmpT Tryd.prog) true a15 (.int .i64 1)).bind fun a18 =>
 endB false false n a18 H15 (E15 ++ (E10 ++ (E1 ++ []))))))) (List.length H) = some r) : EV C n_ref04_Depth [x0] H = some r :=
 EV_of_fnK' (fn := Tryd.f73) (by kernel_rfl) (by kernel_rfl) (by kernel_rfl) hh
noncomputable def ref04_Same_J4 (n : Nat) (t2 t3 t5 : AV) (H : List AObj) (E : List Nat) : Option R3 :=
 loopK Tryd.prog C.G (EV C) (C.hint 34) Tryd.f34 (cAt (bodyOf Tryd.f34) [1, 1, 0, 1, 0, 0]) (kAt Tryd.prog C.G (EV C) (C.hint 34) Tryd.f34 (bodyOf Tryd.f34) [1, 1, 0, 1, 0] [] (endK Tryd.prog (C.hint 34) Tryd.f34 n))
 ⟨pat 68 [(2, t2), (3, t3), (5, t5)], H, E⟩
theorem ref04_Same_J4_of {r : R3} {n : Nat} {t2 t3 t5 : AV} {H : List AObj} {E : List Nat} (hh : (
 (offA t2 4).bind fun a1 =>
 (loadA false 1 a1 H).bind fun a2 =>
 (lenV a2 H).bind fun a3 =>
 (binA .lss (Go.TypeDesc.int Go.IntKind.i64) (cmpT Tryd.prog) false t5 a3).bind fun a4 =>
 condK a4
 ((offA t2 4).bind fun a5 =>
 (loadA false 1 a5 H).bind fun a6 =>
 (ixA 5 a6 t5 H).bind fun a7 =>
 (loadA true 5 a7 H).bind fun a8 =>
 (offA t3 4).bind fun a9 =>
 (loadA false 1 a9 H).bind fun a10 =>
 (ixA 5 a10 t5 H).bind fun a11 =>
 (loadA true 5 a11 H).bind fun a12 =>
 (callD (EV C) n_ref04_Same [a8, a12] H).bind fun a13 =>
 (unA .not a13).bind fun a14 =>
 condK a14
 (endB false false n (.bool false) H E)
 ((binA .add (Go.TypeDesc.int Go.IntKind.i64) (cmpT Tryd.prog) true t5 (.int .i64 1)).bind fun a15 =>
 ref04_Same_J4 n t2 t3 a15 H E))
 (endB false false n (.bool true) H E)) = some r) : ref04_Same_J4 n t2 t3 t5 H E = some r :=
 loop_step' (by kernel_rfl) hh
theorem ref04_Same_of {r : R3} {x0 x1 : AV} {H : List AObj} (hh : (fun n => (
 newK x0 H fun a1 H1 E1 =>
 newK x1 H1 fun a2 H2 E2 =>
 (offA a1 0).bind fun a3 =>
 (loadA false 1 a3 H2).bind fun a4 =>
 (offA a2 0).bind fun a5 =>
 (loadA false 1 a5 H2).bind fun a6 =>
 (binA .neq (Go.TypeDesc.int Go.IntKind.i64) (cmpT Tryd.prog) false a4 a6).bind fun a7 =>
 splitK a7
 (endB false false n (.bool false) H2 (E2 ++ (E1 ++ [])))
 ((offA a1 1).bind fun a8 =>
 (loadA false 1 a8 H2).bind fun a9 =>
 (cvL a9 H2).bind fun a10 =>
 (offA a2 1).bind fun a11 =>
 (loadA false 1 a11 H2).bind fun a12 =>
 (cvL a12 H2).bind fun a13 =>
 (binA .neq Go.TypeDesc.string (cmpT Tryd.prog) false a10 a13).bind fun a14 =>
 splitK a14
 (endB false false n (.bool false) H2 (E2 ++ (E1 ++ [])))
 ((offA a1 2).bind fun a15 =>
 (loadA false 1 a15 H2).bind fun a16 =>
 (cvL a16 H2).bind fun a17 =>
 (offA a2 2).bind fun a18 =>
 (loadA false 1 a18 H2).bind fun a19 =>
 (cvL a19 H2).bind fun a20 =>
 (binA .neq Go.TypeDesc.string (cmpT Tryd.prog) false a17 a20).bind fun a21 =>
 splitK a21
 (endB false false n (.bool false) H2 (E2 ++ (E1 ++ [])))
 ((offA a1 3).bind fun a22 =>
 (loadA false 1 a22 H2).bind fun a23 =>
 (cvL a23 H2).bind fun a24 =>
 (offA a2 3).bind fun a25 =>
 (loadA false 1 a25 H2).bind fun a26 =>
 (cvL a26 H2).bind fun a27 =>
 (binA .neq Go.TypeDesc.string (cmpT Tryd.prog) false a24 a27).bind fun a28 =>
 splitK a28
 (endB false false n (.bool false) H2 (E2 ++ (E1 ++ [])))
 ((offA a1 4).bind fun a29 =>
 (loadA false 1 a29 H2).bind fun a30 =>
 (lenV a30 H2).bind fun a31 =>
 (offA a2 4).bind fun a32 =>
 (loadA false 1 a32 H2).bind fun a33 =>
 (lenV a33 H2).bind fun a34 =>
 (binA .neq (Go.TypeDesc.int Go.IntKind.i64) (cmpT Tryd.prog) false a31 a34).bind fun a35 =>
 condK a35
 (endB false false n (.bool false) H2 (E2 ++ (E1 ++ [])))
 (ref04_Same_J4 n a1 a2 (.int .i64 0) H2 (E2 ++ (E1 ++ []))))))))) (List.length H) = some r) : EV C n_ref04_Same [x0, x1] H = some r :=
 EV_of_fnK' (fn := Tryd.f34) (by kernel_rfl) (by kernel_rfl) (by kernel_rfl) hh
theorem tree_Full_of {r : R3} {x0 : AV} {H : List AObj} (hh : (fun n => (
 newK x0 H fun a1 H1 E1 =>
 (loadA true 5 a1 H1).bind fun a2 =>
 callK (EV C) false n_tree_Check [a2] H1 fun a3 H3 E3 =>
 (binA .eql (Go.TypeDesc.interface #[("Error", 138)]) (cmpT Tryd.prog) true a3 .nili).bind fun a4 =>
 splitK a4
 ((loadA true 5 a1 H3).bind fun a5 =>
 callK (EV C) false n_tree_full [a5] H3 fun a6 H6 E6 =>
 endB false false n a6 H6 (E6 ++ (E3 ++ (E1 ++ []))))
 (endB false false n (.bool false) H3 (E3 ++ (E1 ++ []))))) (List.length H) = some r) : EV C n_tree_Full [x0] H = some r :=
 EV_of_fnK' (fn := Tryd.f92) (by kernel_rfl) (by kernel_rfl) (by kernel_rfl) hh
theorem tree_full_of {r : R3} {x0 : AV} {H : List AObj} (hh : (fun n => (
 newK x0 H fun a1 H1 E1 =>
 (offA a1 0).bind fun a2 =>
 (loadA false 1 a2 H1).bind fun a3 =>
 (binA .eql (Go.TypeDesc.int Go.IntKind.i64) (cmpT Tryd.prog) true a3 (.int .i64 2)).bind fun a4 =>
 splitK a4
 (endB false false n (.bool false) H1 (E1 ++ []))
 ((offA a1 0).bind fun a5 =>
 (loadA false 1 a5 H1).bind fun a6 =>
 (binA .eql (Go.TypeDesc.int Go.IntKind.i64) (cmpT Tryd.prog) true a6 (.int .i64 3)).bind fun a7 =>
 condK a7
 (endB false false n (.bool false) H1 (E1 ++ []))
 ((offA a1 4).bind fun a8 =>
 (loadA false 1 a8 H1).bind fun a9 =>
 callK (EV C) false n_ContainsFunc_api_Tree [a9, (.clo n_tree_full_1 [] [])] H1 fun a10 H10 E10 =>
 (unA .not a10).bind fun a11 =>
 endB false false n a11 H10 (E10 ++ (E1 ++ [])))))) (List.length H) = some r) : EV C n_tree_full [x0] H = some r :=
 EV_of_fnK' (fn := Tryd.f108) (by kernel_rfl) (by kernel_rfl) (by kernel_rfl) hh
theorem tree_full_1_of {r : R3} {x0 : AV} {H : List AObj} (hh : (fun n => (
 newK x0 H fun a1 H1 E1 =>
 (loadA true 5 a1 H1).bind fun a2 =>
 callK (EV C) false n_tree_full [a2] H1 fun a3 H3 E3 =>
 (unA .not a3).bind fun a4 =>
 endB false false n a4 H3 (E3 ++ (E1 ++ [])))) (List.length H) = some r) : EV C n_tree_full_1 [x0] H = some r :=
 EV_of_fnK' (fn := Tryd.f118) (by kernel_rfl) (by kernel_rfl) (by kernel_rfl) hh
theorem avl_even_of {r : R3} {x0 : AV} {H : List AObj} (hh : (fun n => (
 newK x0 H fun a1 H1 E1 =>
 (offA a1 4).bind fun a2 =>
 (loadA false 1 a2 H1).bind fun a3 =>
 (lenV a3 H1).bind fun a4 =>
 (binA .eql (Go.TypeDesc.int Go.IntKind.i64) (cmpT Tryd.prog) true a4 (.int .i64 0)).bind fun a5 =>
 condK a5
 (endB false false n (.tup [(.int .i64 0), (.bool true)]) H1 (E1 ++ []))
 ((offA a1 4).bind fun a6 =>
 (loadA false 1 a6 H1).bind fun a7 =>
 (ixA 5 a7 (.int .i64 0) H1).bind fun a8 =>
 (loadA true 5 a8 H1).bind fun a9 =>
 callK (EV C) false n_avl_even [a9] H1 fun a10 H10 E10 =>
 (extA a10 0).bind fun a11 =>
 (extA a10 1).bind fun a12 =>
 (offA a1 4).bind fun a13 =>
 (loadA false 1 a13 H10).bind fun a14 =>
 (ixA 5 a14 (.int .i64 1) H10).bind fun a15 =>
 (loadA true 5 a15 H10).bind fun a16 =>
 callK (EV C) false n_avl_even [a16] H10 fun a17 H17 E17 =>
 (extA a17 0).bind fun a18 =>
 (extA a17 1).bind fun a19 =>
 (maxA [a11, a18]).bind fun a20 =>
 (binA .add (Go.TypeDesc.int Go.IntKind.i64) (cmpT Tryd.prog) true a20 (.int .i64 1)).bind fun a21 =>
 splitK a12
 (splitK a19
 ((binA .sub (Go.TypeDesc.int Go.IntKind.i64) (cmpT Tryd.prog) false a11 a18).bind fun a22 =>
 (binA .leq (Go.TypeDesc.int Go.IntKind.i64) (cmpT Tryd.prog) true a22 (.int .i64 1)).bind fun a23 =>
 splitK a23
 ((binA .sub (Go.TypeDesc.int Go.IntKind.i64) (cmpT Tryd.prog) false a18 a11).bind fun a24 =>
 (binA .leq (Go.TypeDesc.int Go.IntKind.i64) (cmpT Tryd.prog) true a24 (.int .i64 1)).bind fun a25 =>
 endB false false n (.tup [a21, a25]) H17 (E17 ++ (E10 ++ (E1 ++ []))))
 (endB false false n (.tup [a21, (.bool false)]) H17 (E17 ++ (E10 ++ (E1 ++ [])))))
 (endB false false n (.tup [a21, (.bool false)]) H17 (E17 ++ (E10 ++ (E1 ++ [])))))
 (endB false false n (.tup [a21, (.bool false)]) H17 (E17 ++ (E10 ++ (E1 ++ []))))))) (List.length H) = some r) : EV C n_avl_even [x0] H = some r :=
 EV_of_fnK' (fn := Tryd.f93) (by kernel_rfl) (by kernel_rfl) (by kernel_rfl) hh
noncomputable def avl_Is_J5 (n : Nat) (t1 t3 t4 : AV) (H : List AObj) (E : List Nat) : Option R3 :=
 loopK Tryd.prog C.G (EV C) (C.hint 70) Tryd.f70 (cAt (bodyOf Tryd.f70) [1, 1, 1, 0, 1, 0, 0]) (kAt Tryd.prog C.G (EV C) (C.hint 70) Tryd.f70 (bodyOf Tryd.f70) [1, 1, 1, 0, 1, 0] [] (endK Tryd.prog (C.hint 70) Tryd.f70 n))
 ⟨pat 37 [(1, t1), (3, t3), (4, t4)], H, E⟩
theorem avl_Is_J5_of {r : R3} {n : Nat} {t1 t3 t4 : AV} {H : List AObj} {E : List Nat} (hh : (
 (lenV t3 H).bind fun a1 =>
 (binA .lss (Go.TypeDesc.int Go.IntKind.i64) (cmpT Tryd.prog) false t4 a1).bind fun a2 =>
 condK a2
 ((binA .sub (Go.TypeDesc.int Go.IntKind.i64) (cmpT Tryd.prog) true t4 (.int .i64 1)).bind fun a3 =>
 (ixA 5 t3 a3 H).bind fun a4 =>
 (offA a4 1).bind fun a5 =>
 (loadA false 1 a5 H).bind fun a6 =>
 (ixA 5 t3 t4 H).bind fun a7 =>
 (offA a7 1).bind fun a8 =>
 (loadA false 1 a8 H).bind fun a9 =>
 (callD (EV C) n_bytes_Compare [a6, a9] H).bind fun a10 =>
 (binA .geq (Go.TypeDesc.int Go.IntKind.i64) (cmpT Tryd.prog) true a10 (.int .i64 0)).bind fun a11 =>
 condK a11
 (endB false false n (.bool false) H E)
 ((binA .add (Go.TypeDesc.int Go.IntKind.i64) (cmpT Tryd.prog) true t4 (.int .i64 1)).bind fun a12 =>
 avl_Is_J5 n t1 t3 a12 H E))
 ((loadA true 5 t1 H).bind fun a13 =>
 callK (EV C) false n_avl_even [a13] H fun a14 H14 E14 =>
 (extA a14 0).bind fun a15 =>
 (extA a14 1).bind fun a16 =>
 endB false false n a16 H14 (E14 ++ E))) = some r) : avl_Is_J5 n t1 t3 t4 H E = some r :=
 loop_step' (by kernel_rfl) hh
theorem avl_Is_of {r : R3} {x0 : AV} {H : List AObj} (hh : (fun n => (
 newK x0 H fun a1 H1 E1 =>
 (loadA true 5 a1 H1).bind fun a2 =>
 callK (EV C) false n_tree_Full [a2] H1 fun a3 H3 E3 =>
 (unA .not a3).bind fun a4 =>
 condK a4
 (endB false false n (.bool false) H3 (E3 ++ (E1 ++ [])))
 ((loadA true 5 a1 H3).bind fun a5 =>
 callK (EV C) false n_tree_List [a5] H3 fun a6 H6 E6 =>
 avl_Is_J5 n a1 a6 (.int .i64 1) H6 (E6 ++ (E3 ++ (E1 ++ [])))))) (List.length H) = some r) : EV C n_avl_Is [x0] H = some r :=
 EV_of_fnK' (fn := Tryd.f70) (by kernel_rfl) (by kernel_rfl) (by kernel_rfl) hh
end Go.Pm
