/- A part of the proof: what the functions of the program answer, as plain lists and numbers. -/
import Derived.Test.YtndkpoacbheemaaP8
namespace Go.Pm
open Go.Proofs
set_option linter.unusedVariables false
set_option maxRecDepth 100000
noncomputable def law19_RaftSound_J10 (n : Nat) (t2 t5 t7 t8 t12 : AV) (H : List AObj) (E : List Nat) : Option R3 :=
 loopK Try.prog C.G (EV C) (C.hint 4) Try.f4 (cAt (bodyOf Try.f4) [1, 1, 1, 1, 1, 1, 1, 0, 1, 0, 0]) (kAt Try.prog C.G (EV C) (C.hint 4) Try.f4 (bodyOf Try.f4) [1, 1, 1, 1, 1, 1, 1, 0, 1, 0] [] (endK Try.prog (C.hint 4) Try.f4 n))
 ⟨pat 139 [(2, t2), (5, t5), (7, t7), (8, t8), (12, t12)], H, E⟩
noncomputable def law19_RaftSound_J15 (n : Nat) (t2 t5 t7 t8 t13 : AV) (H : List AObj) (E : List Nat) : Option R3 :=
 loopK Try.prog C.G (EV C) (C.hint 4) Try.f4 (cAt (bodyOf Try.f4) [1, 1, 1, 1, 1, 1, 1, 1, 0, 1, 0, 0]) (kAt Try.prog C.G (EV C) (C.hint 4) Try.f4 (bodyOf Try.f4) [1, 1, 1, 1, 1, 1, 1, 1, 0, 1, 0] [] (endK Try.prog (C.hint 4) Try.f4 n))
 ⟨pat 139 [(2, t2), (5, t5), (7, t7), (8, t8), (13, t13)], H, E⟩
theorem law19_RaftSound_J10_of {r : R3} {n : Nat} {t2 t5 t7 t8 t12 : AV} {H : List AObj} {E : List Nat} (hh : (
 (offA t2 9).bind fun a1 =>
 (loadA false 1 a1 H).bind fun a2 =>
 (binA .leq (Go.TypeDesc.int Go.IntKind.i64) (cmpT Try.prog) false t12 a2).bind fun a3 =>
 condK a3
 ((offA t7 5).bind fun a4 =>
 (offA a4 0).bind fun a5 =>
 (offA a5 0).bind fun a6 =>
 (loadA false 1 a6 H).bind fun a7 =>
 (binA .geq (Go.TypeDesc.int Go.IntKind.i64) (cmpT Try.prog) false t12 a7).bind fun a8 =>
 splitK a8
 ((offA t7 5).bind fun a9 =>
 (loadA true 4 a9 H).bind fun a10 =>
 (callD (EV C) n_ref18_Term [a10, t12] H).bind fun a11 =>
 (offA t2 5).bind fun a12 =>
 (loadA true 4 a12 H).bind fun a13 =>
 (callD (EV C) n_ref18_Term [a13, t12] H).bind fun a14 =>
 (binA .neq (Go.TypeDesc.int Go.IntKind.i64) (cmpT Try.prog) false a11 a14).bind fun a15 =>
 condK a15
 (endB false false n (.bool false) H E)
 ((binA .add (Go.TypeDesc.int Go.IntKind.i64) (cmpT Try.prog) true t12 (.int .i64 1)).bind fun a16 =>
 law19_RaftSound_J10 n t2 t5 t7 t8 a16 H E))
 ((binA .add (Go.TypeDesc.int Go.IntKind.i64) (cmpT Try.prog) true t12 (.int .i64 1)).bind fun a17 =>
 law19_RaftSound_J10 n t2 t5 t7 t8 a17 H E))
 (law19_RaftSound_J15 n t2 t5 t7 t8 (.int .i64 0) H E)) = some r) : law19_RaftSound_J10 n t2 t5 t7 t8 t12 H E = some r :=
 loop_step' (by kernel_rfl) hh
theorem law19_RaftSound_J15_of {r : R3} {n : Nat} {t2 t5 t7 t8 t13 : AV} {H : List AObj} {E : List Nat} (hh : (
 (lenV t8 H).bind fun a1 =>
 (binA .lss (Go.TypeDesc.int Go.IntKind.i64) (cmpT Try.prog) false t13 a1).bind fun a2 =>
 condK a2
 ((ixA 17 t8 t13 H).bind fun a3 =>
 (offA a3 1).bind fun a4 =>
 (loadA false 1 a4 H).bind fun a5 =>
 (offA t2 0).bind fun a6 =>
 (loadA false 1 a6 H).bind fun a7 =>
 (binA .neq (Go.TypeDesc.int Go.IntKind.i64) (cmpT Try.prog) false a5 a7).bind fun a8 =>
 splitK a8
 (endB false false n (.bool false) H E)
 ((ixA 17 t8 t13 H).bind fun a9 =>
 (offA a9 2).bind fun a10 =>
 (loadA false 1 a10 H).bind fun a11 =>
 (offA t2 0).bind fun a12 =>
 (loadA false 1 a12 H).bind fun a13 =>
 (binA .eql (Go.TypeDesc.int Go.IntKind.i64) (cmpT Try.prog) false a11 a13).bind fun a14 =>
 splitK a14
 (endB false false n (.bool false) H E)
 ((ixA 17 t8 t13 H).bind fun a15 =>
 (offA a15 3).bind fun a16 =>
 (loadA false 1 a16 H).bind fun a17 =>
 (offA t7 1).bind fun a18 =>
 (loadA false 1 a18 H).bind fun a19 =>
 (binA .neq (Go.TypeDesc.int Go.IntKind.i64) (cmpT Try.prog) false a17 a19).bind fun a20 =>
 condK a20
 (endB false false n (.bool false) H E)
 ((binA .add (Go.TypeDesc.int Go.IntKind.i64) (cmpT Try.prog) true t13 (.int .i64 1)).bind fun a21 =>
 law19_RaftSound_J15 n t2 t5 t7 t8 a21 H E))))
 (endB false false n t5 H E)) = some r) : law19_RaftSound_J15 n t2 t5 t7 t8 t13 H E = some r :=
 loop_step' (by kernel_rfl) hh
theorem law19_RaftSound_of {r : R3} {x0 x1 : AV} {H : List AObj} (hh : (fun n => (
 newK x0 H fun a1 H1 E1 =>
 newK x1 H1 fun a2 H2 E2 =>
 callK (EV C) false n_law19_up [] H2 fun a3 H3 E3 =>
 (loadA true 29 a1 H3).bind fun a4 =>
 (loadA true 22 a2 H3).bind fun a5 =>
 callK (EV C) false n_ref19_Light [a4, a5] H3 fun a6 H6 E6 =>
 (loadA true 29 a1 H6).bind fun a7 =>
 (loadA true 22 a2 H6).bind fun a8 =>
 callK (EV C) false n_raft_Step [a7, a8] H6 fun a9 H9 E9 =>
 (extA a9 0).bind fun a10 =>
 (extA a9 1).bind fun a11 =>
 (extA a9 2).bind fun a12 =>
 (extA a9 3).bind fun a13 =>
 newK (.agg [(.int .i64 0), (.int .i64 0), (.int .i64 0), (.int .i64 0), (.int .i64 0), (.int .i64 0), (.int .i64 0), .nils, .nils, (.int .i64 0), .nils, (.int .i64 0), (.int .i64 0), (.int .i64 0), (.int .i64 0), (.int .i64 0), (.int .i64 0), (.int .i64 0), (.int .i64 0), (.int .i64 0), (.int .i64 0), (.int .i64 0), (.int .i64 0), (.int .i64 0), (.int .i64 0), (.int .i64 0), (.int .i64 0), (.int .i64 0), (.int .i64 0)]) H9 fun a14 H14 E14 =>
 stoK 29 a14 a10 H14 fun H15 E15 =>
 (unA .not a6).bind fun a16 =>
 splitK a16
 (endB false false n a3 H15 (E15 ++ (E14 ++ (E9 ++ (E6 ++ (E3 ++ (E2 ++ (E1 ++ []))))))))
 ((binA .neq (Go.TypeDesc.interface #[("Error", 139)]) (cmpT Try.prog) true a13 .nili).bind fun a17 =>
 condK a17
 (endB false false n a3 H15 (E15 ++ (E14 ++ (E9 ++ (E6 ++ (E3 ++ (E2 ++ (E1 ++ []))))))))
 ((loadA true 29 a14 H15).bind fun a18 =>
 callK (EV C) false n_raft_Check [a18] H15 fun a19 H19 E19 =>
 (binA .neq (Go.TypeDesc.interface #[("Error", 139)]) (cmpT Try.prog) true a19 .nili).bind fun a20 =>
 splitK a20
 (endB false false n (.bool false) H19 (E19 ++ (E15 ++ (E14 ++ (E9 ++ (E6 ++ (E3 ++ (E2 ++ (E1 ++ [])))))))))
 ((offA a14 1).bind fun a21 =>
 (loadA false 1 a21 H19).bind fun a22 =>
 (offA a1 1).bind fun a23 =>
 (loadA false 1 a23 H19).bind fun a24 =>
 (binA .lss (Go.TypeDesc.int Go.IntKind.i64) (cmpT Try.prog) false a22 a24).bind fun a25 =>
 splitK a25
 (endB false false n (.bool false) H19 (E19 ++ (E15 ++ (E14 ++ (E9 ++ (E6 ++ (E3 ++ (E2 ++ (E1 ++ [])))))))))
 ((offA a14 1).bind fun a26 =>
 (loadA false 1 a26 H19).bind fun a27 =>
 (offA a1 1).bind fun a28 =>
 (loadA false 1 a28 H19).bind fun a29 =>
 (binA .eql (Go.TypeDesc.int Go.IntKind.i64) (cmpT Try.prog) false a27 a29).bind fun a30 =>
 splitK a30
 ((offA a1 2).bind fun a31 =>
 (loadA false 1 a31 H19).bind fun a32 =>
 (binA .neq (Go.TypeDesc.int Go.IntKind.i64) (cmpT Try.prog) true a32 (.int .i64 0)).bind fun a33 =>
 splitK a33
 ((offA a14 2).bind fun a34 =>
 (loadA false 1 a34 H19).bind fun a35 =>
 (offA a1 2).bind fun a36 =>
 (loadA false 1 a36 H19).bind fun a37 =>
 (binA .neq (Go.TypeDesc.int Go.IntKind.i64) (cmpT Try.prog) false a35 a37).bind fun a38 =>
 splitK a38
 (endB false false n (.bool false) H19 (E19 ++ (E15 ++ (E14 ++ (E9 ++ (E6 ++ (E3 ++ (E2 ++ (E1 ++ [])))))))))
 ((offA a14 9).bind fun a39 =>
 (loadA false 1 a39 H19).bind fun a40 =>
 (offA a1 9).bind fun a41 =>
 (loadA false 1 a41 H19).bind fun a42 =>
 (binA .lss (Go.TypeDesc.int Go.IntKind.i64) (cmpT Try.prog) false a40 a42).bind fun a43 =>
 splitK a43
 (endB false false n (.bool false) H19 (E19 ++ (E15 ++ (E14 ++ (E9 ++ (E6 ++ (E3 ++ (E2 ++ (E1 ++ [])))))))))
 ((offA a14 0).bind fun a44 =>
 (loadA false 1 a44 H19).bind fun a45 =>
 (offA a1 0).bind fun a46 =>
 (loadA false 1 a46 H19).bind fun a47 =>
 (binA .neq (Go.TypeDesc.int Go.IntKind.i64) (cmpT Try.prog) false a45 a47).bind fun a48 =>
 condK a48
 (endB false false n (.bool false) H19 (E19 ++ (E15 ++ (E14 ++ (E9 ++ (E6 ++ (E3 ++ (E2 ++ (E1 ++ [])))))))))
 ((offA a1 5).bind fun a49 =>
 (offA a49 0).bind fun a50 =>
 (offA a50 0).bind fun a51 =>
 (loadA false 1 a51 H19).bind fun a52 =>
 law19_RaftSound_J10 n a1 a3 a14 a11 a52 H19 (E19 ++ (E15 ++ (E14 ++ (E9 ++ (E6 ++ (E3 ++ (E2 ++ (E1 ++ []))))))))))))
 ((offA a14 9).bind fun a53 =>
 (loadA false 1 a53 H19).bind fun a54 =>
 (offA a1 9).bind fun a55 =>
 (loadA false 1 a55 H19).bind fun a56 =>
 (binA .lss (Go.TypeDesc.int Go.IntKind.i64) (cmpT Try.prog) false a54 a56).bind fun a57 =>
 splitK a57
 (endB false false n (.bool false) H19 (E19 ++ (E15 ++ (E14 ++ (E9 ++ (E6 ++ (E3 ++ (E2 ++ (E1 ++ [])))))))))
 ((offA a14 0).bind fun a58 =>
 (loadA false 1 a58 H19).bind fun a59 =>
 (offA a1 0).bind fun a60 =>
 (loadA false 1 a60 H19).bind fun a61 =>
 (binA .neq (Go.TypeDesc.int Go.IntKind.i64) (cmpT Try.prog) false a59 a61).bind fun a62 =>
 condK a62
 (endB false false n (.bool false) H19 (E19 ++ (E15 ++ (E14 ++ (E9 ++ (E6 ++ (E3 ++ (E2 ++ (E1 ++ [])))))))))
 ((offA a1 5).bind fun a63 =>
 (offA a63 0).bind fun a64 =>
 (offA a64 0).bind fun a65 =>
 (loadA false 1 a65 H19).bind fun a66 =>
 law19_RaftSound_J10 n a1 a3 a14 a11 a66 H19 (E19 ++ (E15 ++ (E14 ++ (E9 ++ (E6 ++ (E3 ++ (E2 ++ (E1 ++ []))))))))))))
 ((offA a14 9).bind fun a67 =>
 (loadA false 1 a67 H19).bind fun a68 =>
 (offA a1 9).bind fun a69 =>
 (loadA false 1 a69 H19).bind fun a70 =>
 (binA .lss (Go.TypeDesc.int Go.IntKind.i64) (cmpT Try.prog) false a68 a70).bind fun a71 =>
 splitK a71
 (endB false false n (.bool false) H19 (E19 ++ (E15 ++ (E14 ++ (E9 ++ (E6 ++ (E3 ++ (E2 ++ (E1 ++ [])))))))))
 ((offA a14 0).bind fun a72 =>
 (loadA false 1 a72 H19).bind fun a73 =>
 (offA a1 0).bind fun a74 =>
 (loadA false 1 a74 H19).bind fun a75 =>
 (binA .neq (Go.TypeDesc.int Go.IntKind.i64) (cmpT Try.prog) false a73 a75).bind fun a76 =>
 condK a76
 (endB false false n (.bool false) H19 (E19 ++ (E15 ++ (E14 ++ (E9 ++ (E6 ++ (E3 ++ (E2 ++ (E1 ++ [])))))))))
 ((offA a1 5).bind fun a77 =>
 (offA a77 0).bind fun a78 =>
 (offA a78 0).bind fun a79 =>
 (loadA false 1 a79 H19).bind fun a80 =>
 law19_RaftSound_J10 n a1 a3 a14 a11 a80 H19 (E19 ++ (E15 ++ (E14 ++ (E9 ++ (E6 ++ (E3 ++ (E2 ++ (E1 ++ []))))))))))))))))) (List.length H) = some r) : EV C n_law19_RaftSound [x0, x1] H = some r :=
 EV_of_fnK' (fn := Try.f4) (by kernel_rfl) (by kernel_rfl) (by kernel_rfl) hh
noncomputable def law19_up_J3 (n : Nat) (t1 t2 t3 : AV) (H : List AObj) (E : List Nat) : Option R3 :=
 loopK Try.prog C.G (EV C) (C.hint 8) Try.f8 (cAt (bodyOf Try.f8) [1, 1, 0, 1, 0, 0]) (kAt Try.prog C.G (EV C) (C.hint 8) Try.f8 (bodyOf Try.f8) [1, 1, 0, 1, 0] [] (endK Try.prog (C.hint 8) Try.f8 n))
 ⟨pat 69 [(1, t1), (2, t2), (3, t3)], H, E⟩
theorem law19_up_J3_of {r : R3} {n : Nat} {t1 t2 t3 : AV} {H : List AObj} {E : List Nat} (hh : (
 (binA .lss (Go.TypeDesc.int Go.IntKind.i64) (cmpT Try.prog) true t3 (.int .i64 10)).bind fun a1 =>
 condK a1
 ((loadA true 29 t1 H).bind fun a2 =>
 (fillB (AV.cells (.agg [(.int .i64 0), (.int .i64 0), (.int .i64 0), (.int .i64 0), (.int .i64 0), (.int .i64 0), (.int .i64 0), (.int .i64 0), (.int .i64 0), (.int .i64 0), (.bool false), .nils, .nils, (.int .i64 0), .nils, (.int .i64 0), .nils, .nils, .nils, .nils, .nils, .nils])) [(0, 1, (.int .i64 0))]).bind fun c3 =>
 callK (EV C) false n_raft_Step [a2, (.agg c3)] H fun a4 H4 E4 =>
 (extA a4 0).bind fun a5 =>
 (extA a4 1).bind fun a6 =>
 (extA a4 2).bind fun a7 =>
 (extA a4 3).bind fun a8 =>
 newK (.agg [(.int .i64 0), (.int .i64 0), (.int .i64 0), (.int .i64 0), (.int .i64 0), (.int .i64 0), (.int .i64 0), .nils, .nils, (.int .i64 0), .nils, (.int .i64 0), (.int .i64 0), (.int .i64 0), (.int .i64 0), (.int .i64 0), (.int .i64 0), (.int .i64 0), (.int .i64 0), (.int .i64 0), (.int .i64 0), (.int .i64 0), (.int .i64 0), (.int .i64 0), (.int .i64 0), (.int .i64 0), (.int .i64 0), (.int .i64 0), (.int .i64 0)]) H4 fun a9 H9 E9 =>
 stoK 29 a9 a5 H9 fun H10 E10 =>
 (binA .neq (Go.TypeDesc.interface #[("Error", 139)]) (cmpT Try.prog) true a8 .nili).bind fun a11 =>
 condK a11
 (endB false false n (.bool false) H10 ((E10 ++ (E9 ++ (E4 ++ []))) ++ E))
 ((loadA true 29 a9 H10).bind fun a12 =>
 stoK 29 t1 a12 H10 fun H13 E13 =>
 (binA .add (Go.TypeDesc.int Go.IntKind.i64) (cmpT Try.prog) true t3 (.int .i64 1)).bind fun a14 =>
 condB (List.all (E13 ++ (E10 ++ (E9 ++ (E4 ++ [])))) (fun e => decide (List.length H ≤ e)) && (AV.bel (List.length H) t1 && (AV.bel (List.length H) t2 && (AV.bel (List.length H) a14 && true))))
 (law19_up_J3 n t1 t2 a14 (List.take (List.length H) H13) E)))
 ((loadA true 29 t1 H).bind fun a15 =>
 rawK 1 1 (.int .u8 0) [(0, (.int .u8 97))] H fun a16 H16 E16 =>
 (cvR a16 H16).bind fun a17 =>
 (fillB (AV.cells (.agg [(.int .i64 0), (.int .i64 0), (.int .i64 0), (.int .i64 0), (.int .i64 0), (.int .i64 0), (.int .i64 0), (.int .i64 0), (.int .i64 0), (.int .i64 0), (.bool false), .nils, .nils, (.int .i64 0), .nils, (.int .i64 0), .nils, .nils, .nils, .nils, .nils, .nils])) [(0, 1, (.int .i64 2)), (20, 1, a17)]).bind fun c18 =>
 callK (EV C) false n_raft_Step [a15, (.agg c18)] H16 fun a19 H19 E19 =>
 (extA a19 0).bind fun a20 =>
 (extA a19 1).bind fun a21 =>
 (extA a19 2).bind fun a22 =>
 (extA a19 3).bind fun a23 =>
 newK (.agg [(.int .i64 0), (.int .i64 0), (.int .i64 0), (.int .i64 0), (.int .i64 0), (.int .i64 0), (.int .i64 0), .nils, .nils, (.int .i64 0), .nils, (.int .i64 0), (.int .i64 0), (.int .i64 0), (.int .i64 0), (.int .i64 0), (.int .i64 0), (.int .i64 0), (.int .i64 0), (.int .i64 0), (.int .i64 0), (.int .i64 0), (.int .i64 0), (.int .i64 0), (.int .i64 0), (.int .i64 0), (.int .i64 0), (.int .i64 0), (.int .i64 0)]) H19 fun a24 H24 E24 =>
 stoK 29 a24 a20 H24 fun H25 E25 =>
 (binA .eql (Go.TypeDesc.interface #[("Error", 139)]) (cmpT Try.prog) true t2 .nili).bind fun a26 =>
 splitK a26
 ((offA t1 3).bind fun a27 =>
 (loadA false 1 a27 H25).bind fun a28 =>
 (binA .eql (Go.TypeDesc.int Go.IntKind.i64) (cmpT Try.prog) true a28 (.int .i64 2)).bind fun a29 =>
 splitK a29
 ((offA t1 9).bind fun a30 =>
 (loadA false 1 a30 H25).bind fun a31 =>
 (binA .eql (Go.TypeDesc.int Go.IntKind.i64) (cmpT Try.prog) true a31 (.int .i64 1)).bind fun a32 =>
 splitK a32
 ((binA .eql (Go.TypeDesc.interface #[("Error", 139)]) (cmpT Try.prog) true a23 .nili).bind fun a33 =>
 splitK a33
 ((binA .eql (Go.TypeDesc.int Go.IntKind.i64) (cmpT Try.prog) true a22 (.int .i64 2)).bind fun a34 =>
 splitK a34
 ((offA a24 9).bind fun a35 =>
 (loadA false 1 a35 H25).bind fun a36 =>
 (binA .eql (Go.TypeDesc.int Go.IntKind.i64) (cmpT Try.prog) true a36 (.int .i64 2)).bind fun a37 =>
 endB false false n a37 H25 (E25 ++ (E24 ++ (E19 ++ (E16 ++ E)))))
 (endB false false n (.bool false) H25 (E25 ++ (E24 ++ (E19 ++ (E16 ++ E))))))
 (endB false false n (.bool false) H25 (E25 ++ (E24 ++ (E19 ++ (E16 ++ E))))))
 (endB false false n (.bool false) H25 (E25 ++ (E24 ++ (E19 ++ (E16 ++ E))))))
 (endB false false n (.bool false) H25 (E25 ++ (E24 ++ (E19 ++ (E16 ++ E))))))
 (endB false false n (.bool false) H25 (E25 ++ (E24 ++ (E19 ++ (E16 ++ E))))))) = some r) : law19_up_J3 n t1 t2 t3 H E = some r :=
 loop_step' (by kernel_rfl) hh
theorem law19_up_of {r : R3} {H : List AObj} (hh : (fun n => (
 litK 1 1 (.int .i64 0) [(0, (.int .i64 1))] H fun a1 H1 E1 =>
 (fillB (AV.cells (.agg [(.int .i64 0), (.int .i64 0), .nils])) [(2, 1, a1)]).bind fun c2 =>
 (fillB (AV.cells (.agg [(.int .i64 0), (.int .i64 0), .nils, .nils])) [(0, 3, (.agg c2))]).bind fun c3 =>
 callK (EV C) false n_raft_New [(.int .i64 1), (.int .i64 0), (.int .i64 0), (.agg c3), (.int .i64 0)] H1 fun a4 H4 E4 =>
 (extA a4 0).bind fun a5 =>
 (extA a4 1).bind fun a6 =>
 newK (.agg [(.int .i64 0), (.int .i64 0), (.int .i64 0), (.int .i64 0), (.int .i64 0), (.int .i64 0), (.int .i64 0), .nils, .nils, (.int .i64 0), .nils, (.int .i64 0), (.int .i64 0), (.int .i64 0), (.int .i64 0), (.int .i64 0), (.int .i64 0), (.int .i64 0), (.int .i64 0), (.int .i64 0), (.int .i64 0), (.int .i64 0), (.int .i64 0), (.int .i64 0), (.int .i64 0), (.int .i64 0), (.int .i64 0), (.int .i64 0), (.int .i64 0)]) H4 fun a7 H7 E7 =>
 stoK 29 a7 a5 H7 fun H8 E8 =>
 law19_up_J3 n a7 a6 (.int .i64 0) H8 (E8 ++ (E7 ++ (E4 ++ (E1 ++ [])))))) (List.length H) = some r) : EV C n_law19_up [] H = some r :=
 EV_of_fnK' (fn := Try.f8) (by kernel_rfl) (by kernel_rfl) (by kernel_rfl) hh
noncomputable def ref18_Light_J4 (n : Nat) (t1 t3 : AV) (H : List AObj) (E : List Nat) : Option R3 :=
 loopK Try.prog C.G (EV C) (C.hint 9) Try.f9 (cAt (bodyOf Try.f9) [1, 1, 0, 1, 0, 0]) (kAt Try.prog C.G (EV C) (C.hint 9) Try.f9 (bodyOf Try.f9) [1, 1, 0, 1, 0] [] (endK Try.prog (C.hint 9) Try.f9 n))
 ⟨pat 30 [(1, t1), (3, t3)], H, E⟩
theorem ref18_Light_J4_of {r : R3} {n : Nat} {t1 t3 : AV} {H : List AObj} {E : List Nat} (hh : (
 (offA t1 3).bind fun a1 =>
 (loadA false 1 a1 H).bind fun a2 =>
 (lenV a2 H).bind fun a3 =>
 (binA .lss (Go.TypeDesc.int Go.IntKind.i64) (cmpT Try.prog) false t3 a3).bind fun a4 =>
 condK a4
 ((offA t1 3).bind fun a5 =>
 (loadA false 1 a5 H).bind fun a6 =>
 (ixA 3 a6 t3 H).bind fun a7 =>
 (offA a7 2).bind fun a8 =>
 (loadA false 1 a8 H).bind fun a9 =>
 (lenV a9 H).bind fun a10 =>
 (binA .gtr (Go.TypeDesc.int Go.IntKind.i64) (cmpT Try.prog) true a10 (.int .i64 5000)).bind fun a11 =>
 condK a11
 (endB false false n (.bool false) H E)
 ((binA .add (Go.TypeDesc.int Go.IntKind.i64) (cmpT Try.prog) true t3 (.int .i64 1)).bind fun a12 =>
 ref18_Light_J4 n t1 a12 H E))
 (endB false false n (.bool true) H E)) = some r) : ref18_Light_J4 n t1 t3 H E = some r :=
 loop_step' (by kernel_rfl) hh
theorem ref18_Light_of {r : R3} {x0 : AV} {H : List AObj} (hh : (fun n => (
 newK x0 H fun a1 H1 E1 =>
 (offA a1 3).bind fun a2 =>
 (loadA false 1 a2 H1).bind fun a3 =>
 (lenV a3 H1).bind fun a4 =>
 (binA .gtr (Go.TypeDesc.int Go.IntKind.i64) (cmpT Try.prog) true a4 (.int .i64 200)).bind fun a5 =>
 splitK a5
 (endB false false n (.bool false) H1 (E1 ++ []))
 ((offA a1 0).bind fun a6 =>
 (offA a6 2).bind fun a7 =>
 (loadA false 1 a7 H1).bind fun a8 =>
 (lenV a8 H1).bind fun a9 =>
 (binA .gtr (Go.TypeDesc.int Go.IntKind.i64) (cmpT Try.prog) true a9 (.int .i64 100)).bind fun a10 =>
 condK a10
 (endB false false n (.bool false) H1 (E1 ++ []))
 (ref18_Light_J4 n a1 (.int .i64 0) H1 (E1 ++ []))))) (List.length H) = some r) : EV C n_ref18_Light [x0] H = some r :=
 EV_of_fnK' (fn := Try.f9) (by kernel_rfl) (by kernel_rfl) (by kernel_rfl) hh
theorem raft_New_of {r : R3} {x0 x1 x2 x3 x4 : AV} {H : List AObj} (hh : (fun n => (
 newK x3 H fun a1 H1 E1 =>
 newK (.agg [(.int .i64 0), (.int .i64 0), (.int .i64 0), (.int .i64 0), (.int .i64 0), (.int .i64 0), (.int .i64 0), .nils, .nils, (.int .i64 0), .nils, (.int .i64 0), (.int .i64 0), (.int .i64 0), (.int .i64 0), (.int .i64 0), (.int .i64 0), (.int .i64 0), (.int .i64 0), (.int .i64 0), (.int .i64 0), (.int .i64 0), (.int .i64 0), (.int .i64 0), (.int .i64 0), (.int .i64 0), (.int .i64 0), (.int .i64 0), (.int .i64 0)]) H1 fun a2 H2 E2 =>
 (loadA true 4 a1 H2).bind fun a3 =>
 (offA a1 0).bind fun a4 =>
 (offA a4 0).bind fun a5 =>
 (loadA false 1 a5 H2).bind fun a6 =>
 (callD (EV C) n_raft_timeout [x4] H2).bind fun a7 =>
 (fillB (AV.cells (.agg [(.int .i64 0), (.int .i64 0), (.int .i64 0), (.int .i64 0), (.int .i64 0), (.int .i64 0), (.int .i64 0), .nils, .nils, (.int .i64 0), .nils, (.int .i64 0), (.int .i64 0), (.int .i64 0), (.int .i64 0), (.int .i64 0), (.int .i64 0), (.int .i64 0), (.int .i64 0), (.int .i64 0), (.int .i64 0), (.int .i64 0), (.int .i64 0), (.int .i64 0), (.int .i64 0), (.int .i64 0), (.int .i64 0), (.int .i64 0), (.int .i64 0)])) [(0, 1, x0), (1, 1, x1), (2, 1, x2), (5, 4, a3), (9, 1, a6), (28, 1, a7)]).bind fun c8 =>
 newK (.agg [(.int .i64 0), (.int .i64 0), (.int .i64 0), (.int .i64 0), (.int .i64 0), (.int .i64 0), (.int .i64 0), .nils, .nils, (.int .i64 0), .nils, (.int .i64 0), (.int .i64 0), (.int .i64 0), (.int .i64 0), (.int .i64 0), (.int .i64 0), (.int .i64 0), (.int .i64 0), (.int .i64 0), (.int .i64 0), (.int .i64 0), (.int .i64 0), (.int .i64 0), (.int .i64 0), (.int .i64 0), (.int .i64 0), (.int .i64 0), (.int .i64 0)]) H2 fun a9 H9 E9 =>
 drawK (((loadA true 4 a1 H9).bind fun a10 =>
 some a10) = some a3)
 (drawK (((loadA false 1 a5 H9).bind fun a11 =>
 some a11) = some a6)
 (drawK (((callD (EV C) n_raft_timeout [x4] H9).bind fun a12 =>
 some a12) = some a7)
 (stoK 29 a9 (.agg c8) H9 fun H13 E13 =>
 (loadA true 29 a9 H13).bind fun a14 =>
 callK (EV C) false n_raft_Check [a14] H13 fun a15 H15 E15 =>
 (binA .neq (Go.TypeDesc.interface #[("Error", 139)]) (cmpT Try.prog) true a15 .nili).bind fun a16 =>
 condK a16
 ((fillB (AV.cells (.agg [(.int .i64 0), (.int .i64 0), (.int .i64 0), (.int .i64 0), (.int .i64 0), (.int .i64 0), (.int .i64 0), .nils, .nils, (.int .i64 0), .nils, (.int .i64 0), (.int .i64 0), (.int .i64 0), (.int .i64 0), (.int .i64 0), (.int .i64 0), (.int .i64 0), (.int .i64 0), (.int .i64 0), (.int .i64 0), (.int .i64 0), (.int .i64 0), (.int .i64 0), (.int .i64 0), (.int .i64 0), (.int .i64 0), (.int .i64 0), (.int .i64 0)])) []).bind fun c17 =>
 stoK 29 a2 (.agg c17) H15 fun H18 E18 =>
 (loadA true 29 a2 H18).bind fun a19 =>
 endB false false n (.tup [a19, a15]) H18 (E18 ++ (E15 ++ (E13 ++ (E9 ++ (E2 ++ (E1 ++ [])))))))
 ((loadA true 29 a9 H15).bind fun a20 =>
 stoK 29 a2 a20 H15 fun H21 E21 =>
 (loadA true 29 a2 H21).bind fun a22 =>
 endB false false n (.tup [a22, .nili]) H21 (E21 ++ (E15 ++ (E13 ++ (E9 ++ (E2 ++ (E1 ++ [])))))))))))) (List.length H) = some r) : EV C n_raft_New [x0, x1, x2, x3, x4] H = some r :=
 EV_of_fnK' (fn := Try.f10) (by kernel_rfl) (by kernel_rfl) (by kernel_rfl) hh
theorem ref19_Light_of {r : R3} {x0 x1 : AV} {H : List AObj} (hh : (fun n => (
 newK x0 H fun a1 H1 E1 =>
 newK x1 H1 fun a2 H2 E2 =>
 (offA a1 5).bind fun a3 =>
 (loadA true 4 a3 H2).bind fun a4 =>
 callK (EV C) false n_ref18_Light [a4] H2 fun a5 H5 E5 =>
 (offA a2 3).bind fun a6 =>
 (offA a6 8).bind fun a7 =>
 (loadA false 1 a7 H5).bind fun a8 =>
 (fillB (AV.cells (.agg [(.int .i64 0), (.int .i64 0), .nils, .nils])) [(3, 1, a8)]).bind fun c9 =>
 callK (EV C) false n_ref18_Light [(.agg c9)] H5 fun a10 H10 E10 =>
 splitK a5
 (splitK a10
 ((offA a1 10).bind fun a11 =>
 (loadA false 1 a11 H10).bind fun a12 =>
 (lenV a12 H10).bind fun a13 =>
 (binA .lss (Go.TypeDesc.int Go.IntKind.i64) (cmpT Try.prog) true a13 (.int .i64 100)).bind fun a14 =>
 splitK a14
 ((offA a2 20).bind fun a15 =>
 (loadA false 1 a15 H10).bind fun a16 =>
 (lenV a16 H10).bind fun a17 =>
 (binA .lss (Go.TypeDesc.int Go.IntKind.i64) (cmpT Try.prog) true a17 (.int .i64 10000)).bind fun a18 =>
 splitK a18
 ((offA a2 21).bind fun a19 =>
 (loadA false 1 a19 H10).bind fun a20 =>
 (lenV a20 H10).bind fun a21 =>
 (binA .lss (Go.TypeDesc.int Go.IntKind.i64) (cmpT Try.prog) true a21 (.int .i64 100)).bind fun a22 =>
 splitK a22
 ((offA a2 3).bind fun a23 =>
 (offA a23 9).bind fun a24 =>
 (loadA false 1 a24 H10).bind fun a25 =>
 (lenV a25 H10).bind fun a26 =>
 (binA .lss (Go.TypeDesc.int Go.IntKind.i64) (cmpT Try.prog) true a26 (.int .i64 100)).bind fun a27 =>
 endB false false n a27 H10 (E10 ++ (E5 ++ (E2 ++ (E1 ++ [])))))
 (endB false false n (.bool false) H10 (E10 ++ (E5 ++ (E2 ++ (E1 ++ []))))))
 (endB false false n (.bool false) H10 (E10 ++ (E5 ++ (E2 ++ (E1 ++ []))))))
 (endB false false n (.bool false) H10 (E10 ++ (E5 ++ (E2 ++ (E1 ++ []))))))
 (endB false false n (.bool false) H10 (E10 ++ (E5 ++ (E2 ++ (E1 ++ []))))))
 (endB false false n (.bool false) H10 (E10 ++ (E5 ++ (E2 ++ (E1 ++ []))))))) (List.length H) = some r) : EV C n_ref19_Light [x0, x1] H = some r :=
 EV_of_fnK' (fn := Try.f13) (by kernel_rfl) (by kernel_rfl) (by kernel_rfl) hh
theorem raft_Step_of {r : R3} {x0 x1 : AV} {H : List AObj} (hh : (fun n => (
 newK x0 H fun a1 H1 E1 =>
 newK x1 H1 fun a2 H2 E2 =>
 newK (.agg [(.int .i64 0), (.int .i64 0), (.int .i64 0), (.int .i64 0), (.int .i64 0), (.int .i64 0), (.int .i64 0), .nils, .nils, (.int .i64 0), .nils, (.int .i64 0), (.int .i64 0), (.int .i64 0), (.int .i64 0), (.int .i64 0), (.int .i64 0), (.int .i64 0), (.int .i64 0), (.int .i64 0), (.int .i64 0), (.int .i64 0), (.int .i64 0), (.int .i64 0), (.int .i64 0), (.int .i64 0), (.int .i64 0), (.int .i64 0), (.int .i64 0)]) H2 fun a3 H3 E3 =>
 (loadA true 29 a1 H3).bind fun a4 =>
 callK (EV C) false n_raft_Check [a4] H3 fun a5 H5 E5 =>
 (binA .neq (Go.TypeDesc.interface #[("Error", 139)]) (cmpT Try.prog) true a5 .nili).bind fun a6 =>
 condK a6
 ((fillB (AV.cells (.agg [(.int .i64 0), (.int .i64 0), (.int .i64 0), (.int .i64 0), (.int .i64 0), (.int .i64 0), (.int .i64 0), .nils, .nils, (.int .i64 0), .nils, (.int .i64 0), (.int .i64 0), (.int .i64 0), (.int .i64 0), (.int .i64 0), (.int .i64 0), (.int .i64 0), (.int .i64 0), (.int .i64 0), (.int .i64 0), (.int .i64 0), (.int .i64 0), (.int .i64 0), (.int .i64 0), (.int .i64 0), (.int .i64 0), (.int .i64 0), (.int .i64 0)])) []).bind fun c7 =>
 stoK 29 a3 (.agg c7) H5 fun H8 E8 =>
 (loadA true 29 a3 H8).bind fun a9 =>
 endB false false n (.tup [a9, .nils, (.int .i64 0), a5]) H8 (E8 ++ (E5 ++ (E3 ++ (E2 ++ (E1 ++ []))))))
 ((loadA true 29 a1 H5).bind fun a10 =>
 (fillB (AV.cells (.agg [(.int .i64 0), (.int .i64 0), (.int .i64 0), (.int .i64 0), (.int .i64 0), (.int .i64 0), (.int .i64 0), .nils, .nils, (.int .i64 0), .nils, (.int .i64 0), (.int .i64 0), (.int .i64 0), (.int .i64 0), (.int .i64 0), (.int .i64 0), (.int .i64 0), (.int .i64 0), (.int .i64 0), (.int .i64 0), (.int .i64 0), (.int .i64 0), (.int .i64 0), (.int .i64 0), (.int .i64 0), (.int .i64 0), (.int .i64 0), (.int .i64 0), .nils, (.int .i64 0)])) [(0, 29, a10)]).bind fun c11 =>
 trmK (.agg c11) H5 [] fun a12 H12 E12 =>
 newK a12 H12 fun a13 H13 E13 =>
 (offA a2 0).bind fun a14 =>
 (loadA false 1 a14 H13).bind fun a15 =>
 (binA .eql (Go.TypeDesc.int Go.IntKind.i64) (cmpT Try.prog) true a15 (.int .i64 0)).bind fun a16 =>
 condK a16
 ((offA a2 1).bind fun a17 =>
 (loadA false 1 a17 H13).bind fun a18 =>
 callK (EV C) false n_raft_stepper_tick [a13, a18] H13 fun a19 H19 E19 =>
 (nilA a13).bind fun a20 =>
 (offA a20 0).bind fun a21 =>
 (loadA true 29 a21 H19).bind fun a22 =>
 (nilA a13).bind fun a23 =>
 (offA a23 29).bind fun a24 =>
 (loadA false 1 a24 H19).bind fun a25 =>
 (nilA a13).bind fun a26 =>
 (offA a26 30).bind fun a27 =>
 (loadA false 1 a27 H19).bind fun a28 =>
 stoK 29 a3 a22 H19 fun H29 E29 =>
 drawK (((loadA false 1 a24 H29).bind fun a30 =>
 some a30) = some a25)
 (drawK (((loadA false 1 a27 H29).bind fun a31 =>
 some a31) = some a28)
 ((loadA true 29 a3 H29).bind fun a32 =>
 endB false false n (.tup [a32, a25, a28, .nili]) H29 (E29 ++ (E19 ++ (E13 ++ (E12 ++ (E5 ++ (E3 ++ (E2 ++ (E1 ++ [])))))))))))
 ((binA .eql (Go.TypeDesc.int Go.IntKind.i64) (cmpT Try.prog) true a15 (.int .i64 1)).bind fun a33 =>
 condK a33
 ((offA a2 3).bind fun a34 =>
 (loadA true 17 a34 H13).bind fun a35 =>
 callK (EV C) false n_raft_stepper_msg [a13, a35] H13 fun a36 H36 E36 =>
 (nilA a13).bind fun a37 =>
 (offA a37 0).bind fun a38 =>
 (loadA true 29 a38 H36).bind fun a39 =>
 (nilA a13).bind fun a40 =>
 (offA a40 29).bind fun a41 =>
 (loadA false 1 a41 H36).bind fun a42 =>
 (nilA a13).bind fun a43 =>
 (offA a43 30).bind fun a44 =>
 (loadA false 1 a44 H36).bind fun a45 =>
 stoK 29 a3 a39 H36 fun H46 E46 =>
 drawK (((loadA false 1 a41 H46).bind fun a47 =>
 some a47) = some a42)
 (drawK (((loadA false 1 a44 H46).bind fun a48 =>
 some a48) = some a45)
 ((loadA true 29 a3 H46).bind fun a49 =>
 endB false false n (.tup [a49, a42, a45, .nili]) H46 (E46 ++ (E36 ++ (E13 ++ (E12 ++ (E5 ++ (E3 ++ (E2 ++ (E1 ++ [])))))))))))
 ((binA .eql (Go.TypeDesc.int Go.IntKind.i64) (cmpT Try.prog) true a15 (.int .i64 2)).bind fun a50 =>
 condK a50
 ((offA a1 3).bind fun a51 =>
 (loadA false 1 a51 H13).bind fun a52 =>
 (binA .eql (Go.TypeDesc.int Go.IntKind.i64) (cmpT Try.prog) true a52 (.int .i64 2)).bind fun a53 =>
 splitK a53
 ((offA a2 20).bind fun a54 =>
 (loadA false 1 a54 H13).bind fun a55 =>
 (lenV a55 H13).bind fun a56 =>
 (binA .leq (Go.TypeDesc.int Go.IntKind.i64) (cmpT Try.prog) true a56 (.int .i64 4096)).bind fun a57 =>
 splitK a57
 (callK (EV C) false n_raft_stepper_last [a13] H13 fun a58 H58 E58 =>
 (binA .lss (Go.TypeDesc.int Go.IntKind.i64) (cmpT Try.prog) true a58 (.int .i64 1152921504606846976)).bind fun a59 =>
 condK a59
 ((offA a2 20).bind fun a60 =>
 (loadA false 1 a60 H58).bind fun a61 =>
 callK (EV C) false n_raft_stepper_propose [a13, (.int .i64 1), a61] H58 fun a62 H62 E62 =>
 (nilA a13).bind fun a63 =>
 (offA a63 0).bind fun a64 =>
 (loadA true 29 a64 H62).bind fun a65 =>
 (nilA a13).bind fun a66 =>
 (offA a66 29).bind fun a67 =>
 (loadA false 1 a67 H62).bind fun a68 =>
 (nilA a13).bind fun a69 =>
 (offA a69 30).bind fun a70 =>
 (loadA false 1 a70 H62).bind fun a71 =>
 stoK 29 a3 a65 H62 fun H72 E72 =>
 drawK (((loadA false 1 a67 H72).bind fun a73 =>
 some a73) = some a68)
 (drawK (((loadA false 1 a70 H72).bind fun a74 =>
 some a74) = some a71)
 ((loadA true 29 a3 H72).bind fun a75 =>
 endB false false n (.tup [a75, a68, a71, .nili]) H72 (E72 ++ (E62 ++ (E58 ++ (E13 ++ (E12 ++ (E5 ++ (E3 ++ (E2 ++ (E1 ++ []))))))))))))
 ((nilA a13).bind fun a76 =>
 (offA a76 0).bind fun a77 =>
 (loadA true 29 a77 H58).bind fun a78 =>
 (nilA a13).bind fun a79 =>
 (offA a79 29).bind fun a80 =>
 (loadA false 1 a80 H58).bind fun a81 =>
 (nilA a13).bind fun a82 =>
 (offA a82 30).bind fun a83 =>
 (loadA false 1 a83 H58).bind fun a84 =>
 stoK 29 a3 a78 H58 fun H85 E85 =>
 drawK (((loadA false 1 a80 H85).bind fun a86 =>
 some a86) = some a81)
 (drawK (((loadA false 1 a83 H85).bind fun a87 =>
 some a87) = some a84)
 ((loadA true 29 a3 H85).bind fun a88 =>
 endB false false n (.tup [a88, a81, a84, .nili]) H85 (E85 ++ (E58 ++ (E13 ++ (E12 ++ (E5 ++ (E3 ++ (E2 ++ (E1 ++ []))))))))))))
 ((nilA a13).bind fun a89 =>
 (offA a89 0).bind fun a90 =>
 (loadA true 29 a90 H13).bind fun a91 =>
 (nilA a13).bind fun a92 =>
 (offA a92 29).bind fun a93 =>
 (loadA false 1 a93 H13).bind fun a94 =>
 (nilA a13).bind fun a95 =>
 (offA a95 30).bind fun a96 =>
 (loadA false 1 a96 H13).bind fun a97 =>
 stoK 29 a3 a91 H13 fun H98 E98 =>
 drawK (((loadA false 1 a93 H98).bind fun a99 =>
 some a99) = some a94)
 (drawK (((loadA false 1 a96 H98).bind fun a100 =>
 some a100) = some a97)
 ((loadA true 29 a3 H98).bind fun a101 =>
 endB false false n (.tup [a101, a94, a97, .nili]) H98 (E98 ++ (E13 ++ (E12 ++ (E5 ++ (E3 ++ (E2 ++ (E1 ++ [])))))))))))
 ((nilA a13).bind fun a102 =>
 (offA a102 0).bind fun a103 =>
 (loadA true 29 a103 H13).bind fun a104 =>
 (nilA a13).bind fun a105 =>
 (offA a105 29).bind fun a106 =>
 (loadA false 1 a106 H13).bind fun a107 =>
 (nilA a13).bind fun a108 =>
 (offA a108 30).bind fun a109 =>
 (loadA false 1 a109 H13).bind fun a110 =>
 stoK 29 a3 a104 H13 fun H111 E111 =>
 drawK (((loadA false 1 a106 H111).bind fun a112 =>
 some a112) = some a107)
 (drawK (((loadA false 1 a109 H111).bind fun a113 =>
 some a113) = some a110)
 ((loadA true 29 a3 H111).bind fun a114 =>
 endB false false n (.tup [a114, a107, a110, .nili]) H111 (E111 ++ (E13 ++ (E12 ++ (E5 ++ (E3 ++ (E2 ++ (E1 ++ [])))))))))))
 ((binA .eql (Go.TypeDesc.int Go.IntKind.i64) (cmpT Try.prog) true a15 (.int .i64 3)).bind fun a115 =>
 condK a115
 ((offA a2 21).bind fun a116 =>
 (loadA false 1 a116 H13).bind fun a117 =>
 callK (EV C) false n_raft_stepper_change [a13, a117] H13 fun a118 H118 E118 =>
 (nilA a13).bind fun a119 =>
 (offA a119 0).bind fun a120 =>
 (loadA true 29 a120 H118).bind fun a121 =>
 (nilA a13).bind fun a122 =>
 (offA a122 29).bind fun a123 =>
 (loadA false 1 a123 H118).bind fun a124 =>
 (nilA a13).bind fun a125 =>
 (offA a125 30).bind fun a126 =>
 (loadA false 1 a126 H118).bind fun a127 =>
 stoK 29 a3 a121 H118 fun H128 E128 =>
 drawK (((loadA false 1 a123 H128).bind fun a129 =>
 some a129) = some a124)
 (drawK (((loadA false 1 a126 H128).bind fun a130 =>
 some a130) = some a127)
 ((loadA true 29 a3 H128).bind fun a131 =>
 endB false false n (.tup [a131, a124, a127, .nili]) H128 (E128 ++ (E118 ++ (E13 ++ (E12 ++ (E5 ++ (E3 ++ (E2 ++ (E1 ++ [])))))))))))
 ((binA .eql (Go.TypeDesc.int Go.IntKind.i64) (cmpT Try.prog) true a15 (.int .i64 4)).bind fun a132 =>
 condK a132
 ((offA a2 2).bind fun a133 =>
 (loadA false 1 a133 H13).bind fun a134 =>
 (offA a1 5).bind fun a135 =>
 (offA a135 0).bind fun a136 =>
 (offA a136 0).bind fun a137 =>
 (loadA false 1 a137 H13).bind fun a138 =>
 (binA .gtr (Go.TypeDesc.int Go.IntKind.i64) (cmpT Try.prog) false a134 a138).bind fun a139 =>
 splitK a139
 ((offA a2 2).bind fun a140 =>
 (loadA false 1 a140 H13).bind fun a141 =>
 (offA a1 9).bind fun a142 =>
 (loadA false 1 a142 H13).bind fun a143 =>
 (binA .leq (Go.TypeDesc.int Go.IntKind.i64) (cmpT Try.prog) false a141 a143).bind fun a144 =>
 condK a144
 ((offA a1 5).bind fun a145 =>
 (loadA true 4 a145 H13).bind fun a146 =>
 (offA a2 2).bind fun a147 =>
 (loadA false 1 a147 H13).bind fun a148 =>
 callK (EV C) false n_log_Compact [a146, a148] H13 fun a149 H149 E149 =>
 (extA a149 0).bind fun a150 =>
 (extA a149 1).bind fun a151 =>
 newK (.agg [(.int .i64 0), (.int .i64 0), .nils, .nils]) H149 fun a152 H152 E152 =>
 stoK 4 a152 a150 H152 fun H153 E153 =>
 (binA .eql (Go.TypeDesc.interface #[("Error", 139)]) (cmpT Try.prog) true a151 .nili).bind fun a154 =>
 condK a154
 ((loadA true 4 a152 H153).bind fun a155 =>
 (offA a2 2).bind fun a156 =>
 (loadA false 1 a156 H153).bind fun a157 =>
 (nilA a13).bind fun a158 =>
 (offA a158 0).bind fun a159 =>
 (offA a159 5).bind fun a160 =>
 stoK 4 a160 a155 H153 fun H161 E161 =>
 drawK (((loadA false 1 a156 H161).bind fun a162 =>
 some a162) = some a157)
 ((nilA a13).bind fun a163 =>
 (offA a163 30).bind fun a164 =>
 stoK 1 a164 a157 H161 fun H165 E165 =>
 (nilA a13).bind fun a166 =>
 (offA a166 0).bind fun a167 =>
 (loadA true 29 a167 H165).bind fun a168 =>
 (nilA a13).bind fun a169 =>
 (offA a169 29).bind fun a170 =>
 (loadA false 1 a170 H165).bind fun a171 =>
 (nilA a13).bind fun a172 =>
 (offA a172 30).bind fun a173 =>
 (loadA false 1 a173 H165).bind fun a174 =>
 stoK 29 a3 a168 H165 fun H175 E175 =>
 drawK (((loadA false 1 a170 H175).bind fun a176 =>
 some a176) = some a171)
 (drawK (((loadA false 1 a173 H175).bind fun a177 =>
 some a177) = some a174)
 ((loadA true 29 a3 H175).bind fun a178 =>
 endB false false n (.tup [a178, a171, a174, .nili]) H175 (E175 ++ (E165 ++ (E161 ++ (E153 ++ (E152 ++ (E149 ++ (E13 ++ (E12 ++ (E5 ++ (E3 ++ (E2 ++ (E1 ++ []))))))))))))))))
 ((nilA a13).bind fun a179 =>
 (offA a179 0).bind fun a180 =>
 (loadA true 29 a180 H153).bind fun a181 =>
 (nilA a13).bind fun a182 =>
 (offA a182 29).bind fun a183 =>
 (loadA false 1 a183 H153).bind fun a184 =>
 (nilA a13).bind fun a185 =>
 (offA a185 30).bind fun a186 =>
 (loadA false 1 a186 H153).bind fun a187 =>
 stoK 29 a3 a181 H153 fun H188 E188 =>
 drawK (((loadA false 1 a183 H188).bind fun a189 =>
 some a189) = some a184)
 (drawK (((loadA false 1 a186 H188).bind fun a190 =>
 some a190) = some a187)
 ((loadA true 29 a3 H188).bind fun a191 =>
 endB false false n (.tup [a191, a184, a187, .nili]) H188 (E188 ++ (E153 ++ (E152 ++ (E149 ++ (E13 ++ (E12 ++ (E5 ++ (E3 ++ (E2 ++ (E1 ++ []))))))))))))))
 ((nilA a13).bind fun a192 =>
 (offA a192 0).bind fun a193 =>
 (loadA true 29 a193 H13).bind fun a194 =>
 (nilA a13).bind fun a195 =>
 (offA a195 29).bind fun a196 =>
 (loadA false 1 a196 H13).bind fun a197 =>
 (nilA a13).bind fun a198 =>
 (offA a198 30).bind fun a199 =>
 (loadA false 1 a199 H13).bind fun a200 =>
 stoK 29 a3 a194 H13 fun H201 E201 =>
 drawK (((loadA false 1 a196 H201).bind fun a202 =>
 some a202) = some a197)
 (drawK (((loadA false 1 a199 H201).bind fun a203 =>
 some a203) = some a200)
 ((loadA true 29 a3 H201).bind fun a204 =>
 endB false false n (.tup [a204, a197, a200, .nili]) H201 (E201 ++ (E13 ++ (E12 ++ (E5 ++ (E3 ++ (E2 ++ (E1 ++ [])))))))))))
 ((nilA a13).bind fun a205 =>
 (offA a205 0).bind fun a206 =>
 (loadA true 29 a206 H13).bind fun a207 =>
 (nilA a13).bind fun a208 =>
 (offA a208 29).bind fun a209 =>
 (loadA false 1 a209 H13).bind fun a210 =>
 (nilA a13).bind fun a211 =>
 (offA a211 30).bind fun a212 =>
 (loadA false 1 a212 H13).bind fun a213 =>
 stoK 29 a3 a207 H13 fun H214 E214 =>
 drawK (((loadA false 1 a209 H214).bind fun a215 =>
 some a215) = some a210)
 (drawK (((loadA false 1 a212 H214).bind fun a216 =>
 some a216) = some a213)
 ((loadA true 29 a3 H214).bind fun a217 =>
 endB false false n (.tup [a217, a210, a213, .nili]) H214 (E214 ++ (E13 ++ (E12 ++ (E5 ++ (E3 ++ (E2 ++ (E1 ++ [])))))))))))
 ((nilA a13).bind fun a218 =>
 (offA a218 0).bind fun a219 =>
 (loadA true 29 a219 H13).bind fun a220 =>
 (nilA a13).bind fun a221 =>
 (offA a221 29).bind fun a222 =>
 (loadA false 1 a222 H13).bind fun a223 =>
 (nilA a13).bind fun a224 =>
 (offA a224 30).bind fun a225 =>
 (loadA false 1 a225 H13).bind fun a226 =>
 stoK 29 a3 a220 H13 fun H227 E227 =>
 drawK (((loadA false 1 a222 H227).bind fun a228 =>
 some a228) = some a223)
 (drawK (((loadA false 1 a225 H227).bind fun a229 =>
 some a229) = some a226)
 ((loadA true 29 a3 H227).bind fun a230 =>
 endB false false n (.tup [a230, a223, a226, .nili]) H227 (E227 ++ (E13 ++ (E12 ++ (E5 ++ (E3 ++ (E2 ++ (E1 ++ []))))))))))))))))) (List.length H) = some r) : EV C n_raft_Step [x0, x1] H = some r :=
 EV_of_fnK' (fn := Try.f14) (by kernel_rfl) (by kernel_rfl) (by kernel_rfl) hh
noncomputable def raft_Check_J6 (n : Nat) (t1 t5 t74 : AV) (H : List AObj) (E : List Nat) : Option R3 :=
 loopK Try.prog C.G (EV C) (C.hint 15) Try.f15 (cAt (bodyOf Try.f15) [1, 1, 1, 1, 0, 1, 0, 0]) (kAt Try.prog C.G (EV C) (C.hint 15) Try.f15 (bodyOf Try.f15) [1, 1, 1, 1, 0, 1, 0] [] (endK Try.prog (C.hint 15) Try.f15 n))
 ⟨pat 119 [(1, t1), (5, t5), (74, t74)], H, E⟩
noncomputable def raft_Check_J11 (n : Nat) (t1 t5 t94 t95 t96 : AV) (H : List AObj) (E : List Nat) : Option R3 :=
 loopK Try.prog C.G (EV C) (C.hint 15) Try.f15 (cAt (bodyOf Try.f15) [1, 1, 1, 1, 1, 0, 1, 0, 0]) (kAt Try.prog C.G (EV C) (C.hint 15) Try.f15 (bodyOf Try.f15) [1, 1, 1, 1, 1, 0, 1, 0] [] (endK Try.prog (C.hint 15) Try.f15 n))
 ⟨pat 119 [(1, t1), (5, t5), (94, t94), (95, t95), (96, t96)], H, E⟩
theorem raft_Check_J6_of {r : R3} {n : Nat} {t1 t5 t74 : AV} {H : List AObj} {E : List Nat} (hh : (
 (binA .lss (Go.TypeDesc.int Go.IntKind.i64) (cmpT Try.prog) true t74 (.int .i64 8)).bind fun a1 =>
 condK a1
 (splitK t5
 ((offA t1 11).bind fun a2 =>
 (arA 8 1 a2 t74).bind fun a3 =>
 (loadA false 1 a3 H).bind fun a4 =>
 callK (EV C) false n_raft_in [a4, (.int .i64 0), (.int .i64 1152921504606846976)] H fun a5 H5 E5 =>
 splitK a5
 ((offA t1 19).bind fun a6 =>
 (arA 8 1 a6 t74).bind fun a7 =>
 (loadA false 1 a7 H5).bind fun a8 =>
 callK (EV C) false n_raft_in [a8, (.int .i64 0), (.int .i64 1152921504606846976)] H5 fun a9 H9 E9 =>
 (binA .add (Go.TypeDesc.int Go.IntKind.i64) (cmpT Try.prog) true t74 (.int .i64 1)).bind fun a10 =>
 raft_Check_J6 n t1 a9 a10 H9 ((E9 ++ (E5 ++ [])) ++ E))
 ((binA .add (Go.TypeDesc.int Go.IntKind.i64) (cmpT Try.prog) true t74 (.int .i64 1)).bind fun a11 =>
 raft_Check_J6 n t1 (.bool false) a11 H5 ((E5 ++ []) ++ E)))
 ((binA .add (Go.TypeDesc.int Go.IntKind.i64) (cmpT Try.prog) true t74 (.int .i64 1)).bind fun a12 =>
 raft_Check_J6 n t1 (.bool false) a12 H E))
 ((offA t1 10).bind fun a13 =>
 (loadA false 1 a13 H).bind fun a14 =>
 (lenV a14 H).bind fun a15 =>
 raft_Check_J11 n t1 t5 a14 a15 (.int .i64 0) H E)) = some r) : raft_Check_J6 n t1 t5 t74 H E = some r :=
 loop_step' (by kernel_rfl) hh
theorem raft_Check_J11_of {r : R3} {n : Nat} {t1 t5 t94 t95 t96 : AV} {H : List AObj} {E : List Nat} (hh : (
 (binA .lss (Go.TypeDesc.int Go.IntKind.i64) (cmpT Try.prog) false t96 t95).bind fun a1 =>
 condK a1
 ((ixA 1 t94 t96 H).bind fun a2 =>
 (loadA false 1 a2 H).bind fun a3 =>
 splitK t5
 (callK (EV C) false n_raft_in [a3, (.int .i64 1), (.int .i64 7)] H fun a4 H4 E4 =>
 splitK a4
 ((offA t1 10).bind fun a5 =>
 (loadA false 1 a5 H4).bind fun a6 =>
 (cutA 1 a6 none (some t96) none H4).bind fun a7 =>
 callK (EV C) false n_Contains_int [a7, a3] H4 fun a8 H8 E8 =>
 (unA .not a8).bind fun a9 =>
 (binA .add (Go.TypeDesc.int Go.IntKind.i64) (cmpT Try.prog) true t96 (.int .i64 1)).bind fun a10 =>
 raft_Check_J11 n t1 a9 t94 t95 a10 H8 ((E8 ++ (E4 ++ [])) ++ E))
 ((binA .add (Go.TypeDesc.int Go.IntKind.i64) (cmpT Try.prog) true t96 (.int .i64 1)).bind fun a11 =>
 raft_Check_J11 n t1 (.bool false) t94 t95 a11 H4 ((E4 ++ []) ++ E)))
 ((binA .add (Go.TypeDesc.int Go.IntKind.i64) (cmpT Try.prog) true t96 (.int .i64 1)).bind fun a12 =>
 raft_Check_J11 n t1 (.bool false) t94 t95 a12 H E))
 ((unA .not t5).bind fun a13 =>
 condK a13
 (endB false false n (.ifc t_api_Code (.int .i64 3)) H E)
 (endB false false n .nili H E))) = some r) : raft_Check_J11 n t1 t5 t94 t95 t96 H E = some r :=
 loop_step' (by kernel_rfl) hh
theorem raft_Check_of {r : R3} {x0 : AV} {H : List AObj} (hh : (fun n => (
 newK x0 H fun a1 H1 E1 =>
 (offA a1 5).bind fun a2 =>
 (loadA true 4 a2 H1).bind fun a3 =>
 callK (EV C) false n_log_Check [a3] H1 fun a4 H4 E4 =>
 (binA .neq (Go.TypeDesc.interface #[("Error", 139)]) (cmpT Try.prog) true a4 .nili).bind fun a5 =>
 condK a5
 (endB false false n (.ifc t_api_Code (.int .i64 3)) H4 (E4 ++ (E1 ++ [])))
 ((offA a1 5).bind fun a6 =>
 (loadA true 4 a6 H4).bind fun a7 =>
 callK (EV C) false n_log_Last [a7] H4 fun a8 H8 E8 =>
 (extA a8 0).bind fun a9 =>
 (extA a8 1).bind fun a10 =>
 (offA a1 0).bind fun a11 =>
 (loadA false 1 a11 H8).bind fun a12 =>
 callK (EV C) false n_raft_in [a12, (.int .i64 1), (.int .i64 7)] H8 fun a13 H13 E13 =>
 splitK a13
 ((offA a1 1).bind fun a14 =>
 (loadA false 1 a14 H13).bind fun a15 =>
 callK (EV C) false n_raft_in [a15, a10, (.int .i64 1152921504606846976)] H13 fun a16 H16 E16 =>
 splitK a16
 ((offA a1 2).bind fun a17 =>
 (loadA false 1 a17 H16).bind fun a18 =>
 callK (EV C) false n_raft_in [a18, (.int .i64 0), (.int .i64 7)] H16 fun a19 H19 E19 =>
 splitK a19
 ((offA a1 4).bind fun a20 =>
 (loadA false 1 a20 H19).bind fun a21 =>
 callK (EV C) false n_raft_in [a21, (.int .i64 0), (.int .i64 7)] H19 fun a22 H22 E22 =>
 splitK a22
 ((offA a1 3).bind fun a23 =>
 (loadA false 1 a23 H22).bind fun a24 =>
 callK (EV C) false n_raft_in [a24, (.int .i64 0), (.int .i64 2)] H22 fun a25 H25 E25 =>
 splitK a25
 ((offA a1 1).bind fun a26 =>
 (loadA false 1 a26 H25).bind fun a27 =>
 (binA .gtr (Go.TypeDesc.int Go.IntKind.i64) (cmpT Try.prog) true a27 (.int .i64 0)).bind fun a28 =>
 splitK a28
 ((offA a1 9).bind fun a29 =>
 (loadA false 1 a29 H25).bind fun a30 =>
 (offA a1 5).bind fun a31 =>
 (offA a31 0).bind fun a32 =>
 (offA a32 0).bind fun a33 =>
 (loadA false 1 a33 H25).bind fun a34 =>
 callK (EV C) false n_raft_in [a30, a34, a9] H25 fun a35 H35 E35 =>
 splitK a35
 ((offA a1 27).bind fun a36 =>
 (loadA false 1 a36 H35).bind fun a37 =>
 callK (EV C) false n_raft_in [a37, (.int .i64 0), (.int .i64 1152921504606846976)] H35 fun a38 H38 E38 =>
 splitK a38
 ((offA a1 28).bind fun a39 =>
 (loadA false 1 a39 H38).bind fun a40 =>
 callK (EV C) false n_raft_in [a40, (.int .i64 0), (.int .i64 1152921504606846976)] H38 fun a41 H41 E41 =>
 raft_Check_J6 n a1 a41 (.int .i64 0) H41 (E41 ++ (E38 ++ (E35 ++ (E25 ++ (E22 ++ (E19 ++ (E16 ++ (E13 ++ (E8 ++ (E4 ++ (E1 ++ []))))))))))))
 (raft_Check_J6 n a1 (.bool false) (.int .i64 0) H38 (E38 ++ (E35 ++ (E25 ++ (E22 ++ (E19 ++ (E16 ++ (E13 ++ (E8 ++ (E4 ++ (E1 ++ []))))))))))))
 (raft_Check_J6 n a1 (.bool false) (.int .i64 0) H35 (E35 ++ (E25 ++ (E22 ++ (E19 ++ (E16 ++ (E13 ++ (E8 ++ (E4 ++ (E1 ++ [])))))))))))
 ((offA a1 3).bind fun a42 =>
 (loadA false 1 a42 H25).bind fun a43 =>
 (binA .eql (Go.TypeDesc.int Go.IntKind.i64) (cmpT Try.prog) true a43 (.int .i64 0)).bind fun a44 =>
 splitK a44
 ((offA a1 9).bind fun a45 =>
 (loadA false 1 a45 H25).bind fun a46 =>
 (offA a1 5).bind fun a47 =>
 (offA a47 0).bind fun a48 =>
 (offA a48 0).bind fun a49 =>
 (loadA false 1 a49 H25).bind fun a50 =>
 callK (EV C) false n_raft_in [a46, a50, a9] H25 fun a51 H51 E51 =>
 splitK a51
 ((offA a1 27).bind fun a52 =>
 (loadA false 1 a52 H51).bind fun a53 =>
 callK (EV C) false n_raft_in [a53, (.int .i64 0), (.int .i64 1152921504606846976)] H51 fun a54 H54 E54 =>
 splitK a54
 ((offA a1 28).bind fun a55 =>
 (loadA false 1 a55 H54).bind fun a56 =>
 callK (EV C) false n_raft_in [a56, (.int .i64 0), (.int .i64 1152921504606846976)] H54 fun a57 H57 E57 =>
 raft_Check_J6 n a1 a57 (.int .i64 0) H57 (E57 ++ (E54 ++ (E51 ++ (E25 ++ (E22 ++ (E19 ++ (E16 ++ (E13 ++ (E8 ++ (E4 ++ (E1 ++ []))))))))))))
 (raft_Check_J6 n a1 (.bool false) (.int .i64 0) H54 (E54 ++ (E51 ++ (E25 ++ (E22 ++ (E19 ++ (E16 ++ (E13 ++ (E8 ++ (E4 ++ (E1 ++ []))))))))))))
 (raft_Check_J6 n a1 (.bool false) (.int .i64 0) H51 (E51 ++ (E25 ++ (E22 ++ (E19 ++ (E16 ++ (E13 ++ (E8 ++ (E4 ++ (E1 ++ [])))))))))))
 (raft_Check_J6 n a1 (.bool false) (.int .i64 0) H25 (E25 ++ (E22 ++ (E19 ++ (E16 ++ (E13 ++ (E8 ++ (E4 ++ (E1 ++ [])))))))))))
 (raft_Check_J6 n a1 (.bool false) (.int .i64 0) H25 (E25 ++ (E22 ++ (E19 ++ (E16 ++ (E13 ++ (E8 ++ (E4 ++ (E1 ++ []))))))))))
 (raft_Check_J6 n a1 (.bool false) (.int .i64 0) H22 (E22 ++ (E19 ++ (E16 ++ (E13 ++ (E8 ++ (E4 ++ (E1 ++ [])))))))))
 (raft_Check_J6 n a1 (.bool false) (.int .i64 0) H19 (E19 ++ (E16 ++ (E13 ++ (E8 ++ (E4 ++ (E1 ++ []))))))))
 (raft_Check_J6 n a1 (.bool false) (.int .i64 0) H16 (E16 ++ (E13 ++ (E8 ++ (E4 ++ (E1 ++ [])))))))
 (raft_Check_J6 n a1 (.bool false) (.int .i64 0) H13 (E13 ++ (E8 ++ (E4 ++ (E1 ++ [])))))))) (List.length H) = some r) : EV C n_raft_Check [x0] H = some r :=
 EV_of_fnK' (fn := Try.f15) (by kernel_rfl) (by kernel_rfl) (by kernel_rfl) hh
end Go.Pm
