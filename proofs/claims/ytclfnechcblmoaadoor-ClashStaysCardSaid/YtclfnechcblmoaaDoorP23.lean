/- A part of the proof: what the functions of the program answer, as plain lists and numbers. -/
import Derived.Test.YtclfnechcblmoaaDoorP9
namespace Go.Pm
open Go.Proofs
set_option linter.unusedVariables false
set_option maxRecDepth 100000
theorem law09_up_of {r : R3} {H : List AObj} (hh : (fun n => (
 (fillB (AV.cells (.agg [(.int .i64 0), .nils, .nils, .nils, .nils])) []).bind fun c1 =>
 (fillB (AV.cells (.agg [(.int .i64 0), .nils, .nils, .nils, .nils])) []).bind fun c2 =>
 callK (EV C) false n_clash_Find [(.int .i64 1), (.agg c1), (.agg c2)] H fun a3 H3 E3 =>
 (extA a3 0).bind fun a4 =>
 (extA a3 1).bind fun a5 =>
 (extA a3 2).bind fun a6 =>
 (fillB (AV.cells (.agg [(.int .i64 0), .nils, .nils, .nils, .nils])) []).bind fun c7 =>
 litK 1 1 (.int .u8 0) [(0, (.int .u8 9))] H3 fun a8 H8 E8 =>
 (fillB (AV.cells (.agg [(.int .i64 0), .nils, .nils, .nils, .nils])) [(0, 1, (.int .i64 3)), (3, 1, a8)]).bind fun c9 =>
 callK (EV C) false n_clash_Find [(.int .i64 1), (.agg c7), (.agg c9)] H8 fun a10 H10 E10 =>
 (extA a10 0).bind fun a11 =>
 (extA a10 1).bind fun a12 =>
 (extA a10 2).bind fun a13 =>
 (binA .eql (Go.TypeDesc.interface #[("Error", 138)]) (cmpT Tryd.prog) false a6 (.ifc t_api_Code (.int .i64 9))).bind fun a14 =>
 splitK a14
 ((binA .eql (Go.TypeDesc.interface #[("Error", 138)]) (cmpT Tryd.prog) false a13 (.ifc t_api_Code (.int .i64 6))).bind fun a15 =>
 endB false false n a15 H10 (E10 ++ (E8 ++ (E3 ++ []))))
 (endB false false n (.bool false) H10 (E10 ++ (E8 ++ (E3 ++ [])))))) (List.length H) = some r) : EV C n_law09_up [] H = some r :=
 EV_of_fnK' (fn := Tryd.f26) (by kernel_rfl) (by kernel_rfl) (by kernel_rfl) hh
end Go.Pm
