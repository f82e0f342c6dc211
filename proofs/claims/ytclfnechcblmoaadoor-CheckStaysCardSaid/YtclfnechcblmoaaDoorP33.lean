/- A part of the proof: what the functions of the program answer, as plain lists and numbers. -/
import Derived.Test.YtclfnechcblmoaaDoorP9
namespace Go.Pm
open Go.Proofs
set_option linter.unusedVariables false
set_option maxRecDepth 100000
noncomputable def ref06_Same_J4 (n : Nat) (t0 t1 t5 : AV) (H : List AObj) (E : List Nat) : Option R3 :=
 loopK Tryd.prog C.G (EV C) (C.hint 23) Tryd.f23 (cAt (bodyOf Tryd.f23) [1, 1, 0, 1, 0, 0]) (kAt Tryd.prog C.G (EV C) (C.hint 23) Tryd.f23 (bodyOf Tryd.f23) [1, 1, 0, 1, 0] [] (endK Tryd.prog (C.hint 23) Tryd.f23 n))
 ⟨pat 45 [(0, t0), (1, t1), (5, t5)], H, E⟩
theorem ref06_Same_J4_of {r : R3} {n : Nat} {t0 t1 t5 : AV} {H : List AObj} {E : List Nat} (hh : (
 (lenV t0 H).bind fun a1 =>
 (binA .lss (Go.TypeDesc.int Go.IntKind.i64) (cmpT Tryd.prog) false t5 a1).bind fun a2 =>
 condK a2
 ((ixA 2 t0 t5 H).bind fun a3 =>
 (offA a3 0).bind fun a4 =>
 (loadA false 1 a4 H).bind fun a5 =>
 (cvL a5 H).bind fun a6 =>
 (ixA 2 t1 t5 H).bind fun a7 =>
 (offA a7 0).bind fun a8 =>
 (loadA false 1 a8 H).bind fun a9 =>
 (cvL a9 H).bind fun a10 =>
 (binA .neq Go.TypeDesc.string (cmpT Tryd.prog) false a6 a10).bind fun a11 =>
 splitK a11
 (endB false false n (.bool false) H E)
 ((ixA 2 t0 t5 H).bind fun a12 =>
 (offA a12 1).bind fun a13 =>
 (loadA false 1 a13 H).bind fun a14 =>
 (cvL a14 H).bind fun a15 =>
 (ixA 2 t1 t5 H).bind fun a16 =>
 (offA a16 1).bind fun a17 =>
 (loadA false 1 a17 H).bind fun a18 =>
 (cvL a18 H).bind fun a19 =>
 (binA .neq Go.TypeDesc.string (cmpT Tryd.prog) false a15 a19).bind fun a20 =>
 condK a20
 (endB false false n (.bool false) H E)
 ((binA .add (Go.TypeDesc.int Go.IntKind.i64) (cmpT Tryd.prog) true t5 (.int .i64 1)).bind fun a21 =>
 ref06_Same_J4 n t0 t1 a21 H E)))
 (endB false false n (.bool true) H E)) = some r) : ref06_Same_J4 n t0 t1 t5 H E = some r :=
 loop_step' (by kernel_rfl) hh
theorem ref06_Same_of {r : R3} {x0 x1 : AV} {H : List AObj} (hh : (fun n => (
 (lenV x0 H).bind fun a1 =>
 (lenV x1 H).bind fun a2 =>
 (binA .neq (Go.TypeDesc.int Go.IntKind.i64) (cmpT Tryd.prog) false a1 a2).bind fun a3 =>
 condK a3
 (endB false false n (.bool false) H [])
 (ref06_Same_J4 n x0 x1 (.int .i64 0) H []))) (List.length H) = some r) : EV C n_ref06_Same [x0, x1] H = some r :=
 EV_of_fnK' (fn := Tryd.f23) (by kernel_rfl) (by kernel_rfl) (by kernel_rfl) hh
theorem ref06_In_of {r : R3} {x0 x1 : AV} {H : List AObj} (hh : (fun n => (
 newK x0 H fun a1 H1 E1 =>
 (offA a1 0).bind fun a2 =>
 (loadA false 1 a2 H1).bind fun a3 =>
 (cvL a3 H1).bind fun a4 =>
 (cvL x1 H1).bind fun a5 =>
 (binA .leq Go.TypeDesc.string (cmpT Tryd.prog) false a4 a5).bind fun a6 =>
 splitK a6
 ((offA a1 2).bind fun a7 =>
 (loadA false 1 a7 H1).bind fun a8 =>
 splitK a8
 (endB false false n (.bool true) H1 (E1 ++ []))
 ((cvL x1 H1).bind fun a9 =>
 (offA a1 1).bind fun a10 =>
 (loadA false 1 a10 H1).bind fun a11 =>
 (cvL a11 H1).bind fun a12 =>
 (binA .lss Go.TypeDesc.string (cmpT Tryd.prog) false a9 a12).bind fun a13 =>
 endB false false n a13 H1 (E1 ++ [])))
 (endB false false n (.bool false) H1 (E1 ++ [])))) (List.length H) = some r) : EV C n_ref06_In [x0, x1] H = some r :=
 EV_of_fnK' (fn := Tryd.f54) (by kernel_rfl) (by kernel_rfl) (by kernel_rfl) hh
theorem law08_up_of {r : R3} {H : List AObj} (hh : (fun n => (
 litK 1 1 (.int .u8 0) [(0, (.int .u8 8))] H fun a1 H1 E1 =>
 (fillB (AV.cells (.agg [.nils, .nils, (.bool false)])) [(2, 1, (.bool true))]).bind fun c2 =>
 (fillB (AV.cells (.agg [(.int .i64 0), .nils, .nils, .nils, .nils])) []).bind fun c3 =>
 callK (EV C) false n_check_Check [(.int .i64 1), a1, (.agg c2), (.agg c3)] H1 fun a4 H4 E4 =>
 (extA a4 0).bind fun a5 =>
 (extA a4 1).bind fun a6 =>
 litK 1 1 (.int .u8 0) [(0, (.int .u8 255))] H4 fun a7 H7 E7 =>
 (fillB (AV.cells (.agg [.nils, .nils, (.bool false)])) [(2, 1, (.bool true))]).bind fun c8 =>
 litK 1 1 (.int .u8 0) [(0, (.int .u8 255))] H7 fun a9 H9 E9 =>
 (fillB (AV.cells (.agg [(.int .i64 0), .nils, .nils, .nils, .nils])) [(0, 1, (.int .i64 3)), (3, 1, a9)]).bind fun c10 =>
 callK (EV C) false n_check_Check [(.int .i64 1), a7, (.agg c8), (.agg c10)] H9 fun a11 H11 E11 =>
 (extA a11 0).bind fun a12 =>
 (extA a11 1).bind fun a13 =>
 (lenV a5 H11).bind fun a14 =>
 (binA .eql (Go.TypeDesc.int Go.IntKind.i64) (cmpT Tryd.prog) true a14 (.int .i64 0)).bind fun a15 =>
 splitK a15
 ((binA .eql (Go.TypeDesc.interface #[("Error", 138)]) (cmpT Tryd.prog) true a6 .nili).bind fun a16 =>
 splitK a16
 ((binA .eql (Go.TypeDesc.interface #[("Error", 138)]) (cmpT Tryd.prog) false a13 (.ifc t_api_Code (.int .i64 8))).bind fun a17 =>
 endB false false n a17 H11 (E11 ++ (E9 ++ (E7 ++ (E4 ++ (E1 ++ []))))))
 (endB false false n (.bool false) H11 (E11 ++ (E9 ++ (E7 ++ (E4 ++ (E1 ++ [])))))))
 (endB false false n (.bool false) H11 (E11 ++ (E9 ++ (E7 ++ (E4 ++ (E1 ++ [])))))))) (List.length H) = some r) : EV C n_law08_up [] H = some r :=
 EV_of_fnK' (fn := Tryd.f17) (by kernel_rfl) (by kernel_rfl) (by kernel_rfl) hh
end Go.Pm
