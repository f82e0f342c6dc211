/- A part of the proof: what the functions of the program answer, as plain lists and numbers. -/
import Derived.Test.YtndkpoacbheemaaGreatP8
namespace Go.Pm
set_option linter.unusedVariables false
open Go.Proofs
variable {r : R3} {n : Nat} {H : List AObj} {E : List Nat}
set_option linter.unusedVariables false
set_option maxRecDepth 100000
noncomputable def law19_RaftPlays_J7 (n : Nat) (t2 t7 t8 t10 t11 : AV) (H : List AObj) (E : List Nat) : Option R3 :=
 lK 4 Tryz.f4 [1, 1, 1, 1, 1, 0, 1, 0] n
 ⟨pat 104 [(2, t2), (7, t7), (8, t8), (10, t10), (11, t11)], H, E⟩
theorem law19_RaftPlays_J7_of {t2 t7 t8 t10 t11 : AV} (hh : (
 (lenV t2 H).bind fun a1 =>
 (binA .lss tI cT false t11 a1).bind fun a2 =>
 splitK a2
 ((binA .lss tI cT true t11 (.int .i64 30)).bind fun a3 =>
 condK a3
 ((loadA true 29 t8 H).bind fun a4 =>
 (ixA 22 t2 t11 H).bind fun a5 =>
 (loadA true 22 a5 H).bind fun a6 =>
 (callD (EV C) n_ref19_Light [a4, a6] H).bind fun a7 =>
 (unA .not a7).bind fun a8 =>
 condK a8
 (endB false false n t7 H E)
 ((loadA true 29 t8 H).bind fun a9 =>
 (ixA 22 t2 t11 H).bind fun a10 =>
 (loadA true 22 a10 H).bind fun a11 =>
 (callD (EV C) n_raft_Step [a9, a11] H).bind fun a12 =>
 (extA a12 0).bind fun a13 =>
 (extA a12 1).bind fun a14 =>
 (extA a12 2).bind fun a15 =>
 (extA a12 3).bind fun a16 =>
 newK (.agg [z0, z0, z0, z0, z0, z0, z0, .nils, .nils, z0, .nils, z0, z0, z0, z0, z0, z0, z0, z0, z0, z0, z0, z0, z0, z0, z0, z0, z0, z0]) H fun a17 H17 E17 =>
 drawK (((loadA true 29 t8 H17).bind fun a18 =>
 some a18) = some a9)
 (drawK (((ixA 22 t2 t11 H17).bind fun a19 =>
 some a19) = some a10)
 (drawK (((loadA true 22 a10 H17).bind fun a20 =>
 some a20) = some a11)
 (drawK (((callD (EV C) n_raft_Step [a9, a11] H17).bind fun a21 =>
 some a21) = some a12)
 (stoK 29 a17 a13 H17 fun H22 E22 =>
 (loadA true 29 t10 H22).bind fun a23 =>
 (ixA 22 t2 t11 H22).bind fun a24 =>
 (loadA true 22 a24 H22).bind fun a25 =>
 callK (EV C) true n_ref19_Step [a23, a25] H22 fun a26 H26 E26 =>
 (binA .neq (Go.TypeDesc.interface #[("Error", 121)]) cT true a16 .nili).bind fun a27 =>
 splitK a27
 (endB false false n (.bool false) H26 ((E26 ++ (E22 ++ (E17 ++ []))) ++ E))
 ((nilA a26).bind fun a28 =>
 (offA a28 30).bind fun a29 =>
 (loadA false 1 a29 H26).bind fun a30 =>
 (binA .neq tI cT false a15 a30).bind fun a31 =>
 splitK a31
 (endB false false n (.bool false) H26 ((E26 ++ (E22 ++ (E17 ++ []))) ++ E))
 ((loadA true 29 a17 H26).bind fun a32 =>
 (nilA a26).bind fun a33 =>
 (offA a33 0).bind fun a34 =>
 (loadA true 29 a34 H26).bind fun a35 =>
 (callD (EV C) n_ref19_Same [a32, a35] H26).bind fun a36 =>
 (unA .not a36).bind fun a37 =>
 splitK a37
 (endB false false n (.bool false) H26 ((E26 ++ (E22 ++ (E17 ++ []))) ++ E))
 ((nilA a26).bind fun a38 =>
 (offA a38 29).bind fun a39 =>
 (loadA false 1 a39 H26).bind fun a40 =>
 (callD (EV C) n_ref19_SameMsgs [a14, a40] H26).bind fun a41 =>
 (unA .not a41).bind fun a42 =>
 condK a42
 (endB false false n (.bool false) H26 ((E26 ++ (E22 ++ (E17 ++ []))) ++ E))
 ((loadA true 29 a17 H26).bind fun a43 =>
 stoK 29 t8 a43 H26 fun H44 E44 =>
 (nilA a26).bind fun a45 =>
 (offA a45 0).bind fun a46 =>
 (loadA true 29 a46 H44).bind fun a47 =>
 frzK a47 H44 fun a48 H48 =>
 stoK 29 t10 a48 H48 fun H49 E49 =>
 (binA .add tI cT true t11 (.int .i64 1)).bind fun a50 =>
 condB (List.all (E49 ++ (E44 ++ (E26 ++ (E22 ++ (E17 ++ []))))) (fun e => decide (List.length H ≤ e)) && (AV.bel (List.length H) t2 && (AV.bel (List.length H) t7 && (AV.bel (List.length H) t8 && (AV.bel (List.length H) t10 && (AV.bel (List.length H) a50 && true))))))
 (law19_RaftPlays_J7 n t2 t7 t8 t10 a50 (List.take (List.length H) H49) E)))))))))))
 (endB false false n t7 H E))
 (endB false false n t7 H E)) = some r) : law19_RaftPlays_J7 n t2 t7 t8 t10 t11 H E = some r :=
 loop_step' (by kernel_rfl) hh
theorem law19_RaftPlays_of {x0 x1 x2 : AV} (hh : (fun n => (
 newK x1 H fun a1 H1 E1 =>
 callK (EV C) false n_law19_up [] H1 fun a2 H2 E2 =>
 (loadA true 4 a1 H2).bind fun a3 =>
 callK (EV C) false n_raft_New [x0, (.int .i64 1099511627776), z0, a3, (.int .i64 3)] H2 fun a4 H4 E4 =>
 (extA a4 0).bind fun a5 =>
 (extA a4 1).bind fun a6 =>
 newK (.agg [z0, z0, z0, z0, z0, z0, z0, .nils, .nils, z0, .nils, z0, z0, z0, z0, z0, z0, z0, z0, z0, z0, z0, z0, z0, z0, z0, z0, z0, z0]) H4 fun a7 H7 E7 =>
 stoK 29 a7 a5 H7 fun H8 E8 =>
 (binA .neq (Go.TypeDesc.interface #[("Error", 121)]) cT true a6 .nili).bind fun a9 =>
 splitK a9
 (endB false false n a2 H8 (E8 ++ (E7 ++ (E4 ++ (E2 ++ (E1 ++ []))))))
 ((loadA true 4 a1 H8).bind fun a10 =>
 callK (EV C) false n_ref18_Light [a10] H8 fun a11 H11 E11 =>
 (unA .not a11).bind fun a12 =>
 condK a12
 (endB false false n a2 H11 (E11 ++ (E8 ++ (E7 ++ (E4 ++ (E2 ++ (E1 ++ [])))))))
 ((loadA true 29 a7 H11).bind fun a13 =>
 newK (.agg [z0, z0, z0, z0, z0, z0, z0, .nils, .nils, z0, .nils, z0, z0, z0, z0, z0, z0, z0, z0, z0, z0, z0, z0, z0, z0, z0, z0, z0, z0]) H11 fun a14 H14 E14 =>
 stoK 29 a14 a13 H14 fun H15 E15 =>
 law19_RaftPlays_J7 n x2 a2 a7 a14 z0 H15 (E15 ++ (E14 ++ (E11 ++ (E8 ++ (E7 ++ (E4 ++ (E2 ++ (E1 ++ [])))))))))))) (List.length H) = some r) : EV C n_law19_RaftPlays [x0, x1, x2] H = some r :=
 EV_of_fnK' (fn := Tryz.f4) (by kernel_rfl) (by kernel_rfl) (by kernel_rfl) hh
end Go.Pm
