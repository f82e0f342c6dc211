/- A part of the proof: what the functions of the program answer, as plain lists and numbers. -/
import Derived.Test.YtclfnechcblmoaaDoorP9
namespace Go.Pm
open Go.Proofs
set_option linter.unusedVariables false
set_option maxRecDepth 100000
noncomputable def ref04_Copy_J3 (n : Nat) (t1 t2 t3 t4 : AV) (H : List AObj) (E : List Nat) : Option R3 :=
 loopK Tryd.prog C.G (EV C) (C.hint 33) Tryd.f33 (cAt (bodyOf Tryd.f33) [1, 1, 0, 1, 0, 0]) (kAt Tryd.prog C.G (EV C) (C.hint 33) Tryd.f33 (bodyOf Tryd.f33) [1, 1, 0, 1, 0] [] (endK Tryd.prog (C.hint 33) Tryd.f33 n))
 ⟨pat 39 [(1, t1), (2, t2), (3, t3), (4, t4)], H, E⟩
theorem ref04_Copy_J3_of {r : R3} {n : Nat} {t1 t2 t3 t4 : AV} {H : List AObj} {E : List Nat} (hh : (
 (offA t1 4).bind fun a1 =>
 (loadA false 1 a1 H).bind fun a2 =>
 (lenV a2 H).bind fun a3 =>
 (binA .lss (Go.TypeDesc.int Go.IntKind.i64) (cmpT Tryd.prog) false t4 a3).bind fun a4 =>
 condK a4
 ((offA t3 4).bind fun a5 =>
 (loadA false 1 a5 H).bind fun a6 =>
 (offA t1 4).bind fun a7 =>
 (loadA false 1 a7 H).bind fun a8 =>
 (ixA 5 a8 t4 H).bind fun a9 =>
 (loadA true 5 a9 H).bind fun a10 =>
 (callD (EV C) n_ref04_Copy [a10] H).bind fun a11 =>
 (litD 5 1 (.agg [(.int .i64 0), .nils, .nils, .nils, .nils]) [(0, a11)] H).bind fun a12 =>
 appK 5 104 a6 a12 H fun a13 H13 E13 =>
 (offA t3 4).bind fun a14 =>
 stoK 1 a14 a13 H13 fun H15 E15 =>
 (binA .add (Go.TypeDesc.int Go.IntKind.i64) (cmpT Tryd.prog) true t4 (.int .i64 1)).bind fun a16 =>
 ref04_Copy_J3 n t1 t2 t3 a16 H15 ((E15 ++ (E13 ++ [])) ++ E))
 ((loadA true 5 t3 H).bind fun a17 =>
 stoK 5 t2 a17 H fun H18 E18 =>
 (loadA true 5 t2 H18).bind fun a19 =>
 endB false false n a19 H18 (E18 ++ E))) = some r) : ref04_Copy_J3 n t1 t2 t3 t4 H E = some r :=
 loop_step' (by kernel_rfl) hh
theorem ref04_Copy_of {r : R3} {x0 : AV} {H : List AObj} (hh : (fun n => (
 newK x0 H fun a1 H1 E1 =>
 newK (.agg [(.int .i64 0), .nils, .nils, .nils, .nils]) H1 fun a2 H2 E2 =>
 (offA a1 0).bind fun a3 =>
 (loadA false 1 a3 H2).bind fun a4 =>
 (offA a1 1).bind fun a5 =>
 (loadA false 1 a5 H2).bind fun a6 =>
 (appD 1 1 (AV.emp none) a6 H2).bind fun a7 =>
 (offA a1 2).bind fun a8 =>
 (loadA false 1 a8 H2).bind fun a9 =>
 (appD 1 1 (AV.emp none) a9 H2).bind fun a10 =>
 (offA a1 3).bind fun a11 =>
 (loadA false 1 a11 H2).bind fun a12 =>
 (appD 1 1 (AV.emp none) a12 H2).bind fun a13 =>
 (fillB (AV.cells (.agg [(.int .i64 0), .nils, .nils, .nils, .nils])) [(0, 1, a4), (1, 1, a7), (2, 1, a10), (3, 1, a13)]).bind fun c14 =>
 trmK (.agg c14) H2 [] fun a15 H15 E15 =>
 sizK 5 a15
 (newK a15 H15 fun a16 H16 E16 =>
 ref04_Copy_J3 n a1 a2 a16 (.int .i64 0) H16 (E16 ++ (E15 ++ (E2 ++ (E1 ++ []))))))) (List.length H) = some r) : EV C n_ref04_Copy [x0] H = some r :=
 EV_of_fnK' (fn := Tryd.f33) (by kernel_rfl) (by kernel_rfl) (by kernel_rfl) hh
noncomputable def ref04_Copy_r_J3 (n : Nat) (t1 t2 t3 t4 : AV) (H : List AObj) (E : List Nat) : Option R3 :=
 loopK Tryd.prog C.G (EV C) (C.hint 1000033) Tryd.f33 (cAt (bodyOf Tryd.f33) [1, 1, 0, 1, 0, 0]) (kAt Tryd.prog C.G (EV C) (C.hint 1000033) Tryd.f33 (bodyOf Tryd.f33) [1, 1, 0, 1, 0] [] (endK Tryd.prog (C.hint 1000033) Tryd.f33 n))
 ⟨pat 39 [(1, t1), (2, t2), (3, t3), (4, t4)], H, E⟩
theorem ref04_Copy_r_J3_of {r : R3} {n : Nat} {t1 t2 t3 t4 : AV} {H : List AObj} {E : List Nat} (hh : (
 (offA t1 4).bind fun a1 =>
 (loadA false 1 a1 H).bind fun a2 =>
 (lenV a2 H).bind fun a3 =>
 (binA .lss (Go.TypeDesc.int Go.IntKind.i64) (cmpT Tryd.prog) false t4 a3).bind fun a4 =>
 condK a4
 ((offA t3 4).bind fun a5 =>
 (loadA false 1 a5 H).bind fun a6 =>
 (offA t1 4).bind fun a7 =>
 (loadA false 1 a7 H).bind fun a8 =>
 (ixA 5 a8 t4 H).bind fun a9 =>
 (loadA true 5 a9 H).bind fun a10 =>
 callK (EV C) true n_ref04_Copy_r [a10] H fun a11 H11 E11 =>
 drawK (((loadA false 1 a5 H11).bind fun a12 =>
 some a12) = some a6)
 (rawK 5 1 (.agg [(.int .i64 0), .nils, .nils, .nils, .nils]) [(0, a11)] H11 fun a13 H13 E13 =>
 drawK (((loadA false 1 a5 H13).bind fun a14 =>
 some a14) = some a6)
 (appK 5 104 a6 a13 H13 fun a15 H15 E15 =>
 (offA t3 4).bind fun a16 =>
 stoK 1 a16 a15 H15 fun H17 E17 =>
 (binA .add (Go.TypeDesc.int Go.IntKind.i64) (cmpT Tryd.prog) true t4 (.int .i64 1)).bind fun a18 =>
 ref04_Copy_r_J3 n t1 t2 t3 a18 H17 ((E17 ++ (E15 ++ (E13 ++ (E11 ++ [])))) ++ E))))
 ((loadA true 5 t3 H).bind fun a19 =>
 frcK a19 H [] fun a20 H20 E20 =>
 stoK 5 t2 a20 H20 fun H21 E21 =>
 (loadA true 5 t2 H21).bind fun a22 =>
 endB true true n a22 H21 (E21 ++ (E20 ++ E)))) = some r) : ref04_Copy_r_J3 n t1 t2 t3 t4 H E = some r :=
 loop_step' (by kernel_rfl) hh
theorem ref04_Copy_r_of {r : R3} {x0 : AV} {H : List AObj} (hh : (fun n => (
 newK x0 H fun a1 H1 E1 =>
 newK (.agg [(.int .i64 0), .nils, .nils, .nils, .nils]) H1 fun a2 H2 E2 =>
 (offA a1 0).bind fun a3 =>
 (loadA false 1 a3 H2).bind fun a4 =>
 (offA a1 1).bind fun a5 =>
 (loadA false 1 a5 H2).bind fun a6 =>
 appK 1 1 (AV.emp none) a6 H2 fun a7 H7 E7 =>
 drawK (((loadA false 1 a3 H7).bind fun a8 =>
 some a8) = some a4)
 (drawK ((some (AV.emp none)) = some (AV.emp none))
 ((offA a1 2).bind fun a9 =>
 (loadA false 1 a9 H7).bind fun a10 =>
 drawK (((loadA false 1 a9 H2).bind fun a11 =>
 some a11) = some a10)
 (appK 1 1 (AV.emp none) a10 H7 fun a12 H12 E12 =>
 drawK (((loadA false 1 a3 H12).bind fun a13 =>
 some a13) = some a4)
 (drawK ((some (AV.emp none)) = some (AV.emp none))
 (drawK ((some (AV.emp none)) = some (AV.emp none))
 ((offA a1 3).bind fun a14 =>
 (loadA false 1 a14 H12).bind fun a15 =>
 drawK (((loadA false 1 a14 H2).bind fun a16 =>
 some a16) = some a15)
 (drawK (((loadA false 1 a14 H7).bind fun a17 =>
 some a17) = some a15)
 ((appD 1 1 (AV.emp none) a15 H12).bind fun a18 =>
 (fillB (AV.cells (.agg [(.int .i64 0), .nils, .nils, .nils, .nils])) [(0, 1, a4), (1, 1, a7), (2, 1, a12), (3, 1, a18)]).bind fun c19 =>
 trmK (.agg c19) H12 [] fun a20 H20 E20 =>
 sizK 5 a20
 (newK a20 H20 fun a21 H21 E21 =>
 ref04_Copy_r_J3 n a1 a2 a21 (.int .i64 0) H21 (E21 ++ (E20 ++ (E12 ++ (E7 ++ (E2 ++ (E1 ++ []))))))))))))))))) (List.length H) = some r) : EV C n_ref04_Copy_r [x0] H = some r :=
 EV_of_fnK' (fn := Tryd.f33) (by kernel_rfl) (by kernel_rfl) (by kernel_rfl) hh
theorem ref04_List_r_of {r : R3} {x0 : AV} {H : List AObj} (hh : (fun n => (
 newK x0 H fun a1 H1 E1 =>
 (offA a1 4).bind fun a2 =>
 (loadA false 1 a2 H1).bind fun a3 =>
 (lenV a3 H1).bind fun a4 =>
 (binA .eql (Go.TypeDesc.int Go.IntKind.i64) (cmpT Tryd.prog) true a4 (.int .i64 0)).bind fun a5 =>
 condK a5
 (endB false false n .nils H1 (E1 ++ []))
 (rawK 5 0 (.agg [(.int .i64 0), .nils, .nils, .nils, .nils]) [] H1 fun a6 H6 E6 =>
 (offA a1 4).bind fun a7 =>
 (loadA false 1 a7 H6).bind fun a8 =>
 (ixA 5 a8 (.int .i64 0) H6).bind fun a9 =>
 (loadA true 5 a9 H6).bind fun a10 =>
 callK (EV C) true n_ref04_List_r [a10] H6 fun a11 H11 E11 =>
 appK 5 104 a6 a11 H11 fun a12 H12 E12 =>
 (loadA true 5 a1 H12).bind fun a13 =>
 rawK 5 1 (.agg [(.int .i64 0), .nils, .nils, .nils, .nils]) [(0, a13)] H12 fun a14 H14 E14 =>
 appK 5 104 a12 a14 H14 fun a15 H15 E15 =>
 (offA a1 4).bind fun a16 =>
 (loadA false 1 a16 H15).bind fun a17 =>
 (ixA 5 a17 (.int .i64 1) H15).bind fun a18 =>
 (loadA true 5 a18 H15).bind fun a19 =>
 callK (EV C) true n_ref04_List_r [a19] H15 fun a20 H20 E20 =>
 appK 5 104 a15 a20 H20 fun a21 H21 E21 =>
 endB false false n a21 H21 (E21 ++ (E20 ++ (E15 ++ (E14 ++ (E12 ++ (E11 ++ (E6 ++ (E1 ++ []))))))))))) (List.length H) = some r) : EV C n_ref04_List_r [x0] H = some r :=
 EV_of_fnK' (fn := Tryd.f36) (by kernel_rfl) (by kernel_rfl) (by kernel_rfl) hh
end Go.Pm
