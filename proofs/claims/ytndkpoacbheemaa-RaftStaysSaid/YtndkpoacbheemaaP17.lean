/- A part of the proof: what the functions of the program answer, as plain lists and numbers. -/
import Derived.Test.YtndkpoacbheemaaP8
namespace Go.Pm
open Go.Proofs
set_option linter.unusedVariables false
set_option maxRecDepth 100000
noncomputable def ref18_Copy_J3 (n : Nat) (t1 t2 t3 t4 : AV) (H : List AObj) (E : List Nat) : Option R3 :=
 loopK Try.prog C.G (EV C) (C.hint 17) Try.f17 (cAt (bodyOf Try.f17) [1, 1, 0, 1, 0, 0]) (kAt Try.prog C.G (EV C) (C.hint 17) Try.f17 (bodyOf Try.f17) [1, 1, 0, 1, 0] [] (endK Try.prog (C.hint 17) Try.f17 n))
 ⟨pat 52 [(1, t1), (2, t2), (3, t3), (4, t4)], H, E⟩
theorem ref18_Copy_J3_of {r : R3} {n : Nat} {t1 t2 t3 t4 : AV} {H : List AObj} {E : List Nat} (hh : (
 (offA t1 3).bind fun a1 =>
 (loadA false 1 a1 H).bind fun a2 =>
 (lenV a2 H).bind fun a3 =>
 (binA .lss (Go.TypeDesc.int Go.IntKind.i64) (cmpT Try.prog) false t4 a3).bind fun a4 =>
 condK a4
 ((offA t3 3).bind fun a5 =>
 (loadA false 1 a5 H).bind fun a6 =>
 (offA t1 3).bind fun a7 =>
 (loadA false 1 a7 H).bind fun a8 =>
 (ixA 3 a8 t4 H).bind fun a9 =>
 (offA a9 0).bind fun a10 =>
 (loadA false 1 a10 H).bind fun a11 =>
 (offA t1 3).bind fun a12 =>
 (loadA false 1 a12 H).bind fun a13 =>
 (ixA 3 a13 t4 H).bind fun a14 =>
 (offA a14 1).bind fun a15 =>
 (loadA false 1 a15 H).bind fun a16 =>
 (offA t1 3).bind fun a17 =>
 (loadA false 1 a17 H).bind fun a18 =>
 (ixA 3 a18 t4 H).bind fun a19 =>
 (offA a19 2).bind fun a20 =>
 (loadA false 1 a20 H).bind fun a21 =>
 (appD 1 1 (AV.emp none) a21 H).bind fun a22 =>
 (fillB (AV.cells (.agg [(.int .i64 0), (.int .i64 0), .nils])) [(0, 1, a11), (1, 1, a16), (2, 1, a22)]).bind fun c23 =>
 (litD 3 1 (.agg [(.int .i64 0), (.int .i64 0), .nils]) [(0, (.agg c23))] H).bind fun a24 =>
 appK 3 40 a6 a24 H fun a25 H25 E25 =>
 (offA t3 3).bind fun a26 =>
 stoK 1 a26 a25 H25 fun H27 E27 =>
 (binA .add (Go.TypeDesc.int Go.IntKind.i64) (cmpT Try.prog) true t4 (.int .i64 1)).bind fun a28 =>
 ref18_Copy_J3 n t1 t2 t3 a28 H27 ((E27 ++ (E25 ++ [])) ++ E))
 ((loadA true 4 t3 H).bind fun a29 =>
 stoK 4 t2 a29 H fun H30 E30 =>
 (loadA true 4 t2 H30).bind fun a31 =>
 endB false false n a31 H30 (E30 ++ E))) = some r) : ref18_Copy_J3 n t1 t2 t3 t4 H E = some r :=
 loop_step' (by kernel_rfl) hh
theorem ref18_Copy_of {r : R3} {x0 : AV} {H : List AObj} (hh : (fun n => (
 newK x0 H fun a1 H1 E1 =>
 newK (.agg [(.int .i64 0), (.int .i64 0), .nils, .nils]) H1 fun a2 H2 E2 =>
 (offA a1 0).bind fun a3 =>
 (offA a3 0).bind fun a4 =>
 (loadA false 1 a4 H2).bind fun a5 =>
 (offA a1 0).bind fun a6 =>
 (offA a6 1).bind fun a7 =>
 (loadA false 1 a7 H2).bind fun a8 =>
 (offA a1 0).bind fun a9 =>
 (offA a9 2).bind fun a10 =>
 (loadA false 1 a10 H2).bind fun a11 =>
 (appD 1 8 (AV.emp none) a11 H2).bind fun a12 =>
 (fillB (AV.cells (.agg [(.int .i64 0), (.int .i64 0), .nils])) [(0, 1, a5), (1, 1, a8), (2, 1, a12)]).bind fun c13 =>
 (fillB (AV.cells (.agg [(.int .i64 0), (.int .i64 0), .nils, .nils])) [(0, 3, (.agg c13))]).bind fun c14 =>
 trmK (.agg c14) H2 [] fun a15 H15 E15 =>
 sizK 4 a15
 (newK a15 H15 fun a16 H16 E16 =>
 ref18_Copy_J3 n a1 a2 a16 (.int .i64 0) H16 (E16 ++ (E15 ++ (E2 ++ (E1 ++ []))))))) (List.length H) = some r) : EV C n_ref18_Copy [x0] H = some r :=
 EV_of_fnK' (fn := Try.f17) (by kernel_rfl) (by kernel_rfl) (by kernel_rfl) hh
end Go.Pm
