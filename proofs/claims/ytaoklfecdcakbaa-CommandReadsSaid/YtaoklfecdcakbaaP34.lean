/- A part of the proof: what the functions of the program answer, as plain lists and numbers. -/
import Derived.Test.YtaoklfecdcakbaaP32
import Derived.Test.YtaoklfecdcakbaaP33
namespace Go.Pm
open Go.Proofs
set_option linter.unusedVariables false
set_option linter.unusedSimpArgs false
def upC : Cmd := ⟨5, 1, 1, [97], [49]⟩
theorem upC_may : upC.may = true := by decide
theorem upC_w : upC.w64 := by unfold Cmd.w64 upC; decide
theorem up_apply1 : applyF .lf (cmdB upC) = doC .lf upC := by
  unfold applyF
  rw [readF_cmd upC_may upC_w]
  rfl
theorem up_inv : BInv (doC .lf upC).1 2 := binv_lf.doC upC_may
theorem up_res1 : (doC .lf upC).2 = 1 := rfl
theorem up_apply2 : applyF (doC .lf upC).1 (cmdB upC) = ((doC .lf upC).1, 1) := by
  unfold applyF
  rw [readF_cmd upC_may upC_w]
  simp only [if_true]
  exact apply_again (sess_do binv_lf upC_may upC_w)
theorem up_look : lookF (doC .lf upC).1 [97] = some [49] := by
  have := get_apply_new (c := upC) binv_lf upC_may rfl
  unfold lookF
  rw [if_neg (by decide)]
  have e : applyC .lf upC = doC .lf upC := rfl
  rw [e] at this
  exact this
theorem eq_1 : binA .eql Go.TypeDesc.string (cmpT Try.prog) true (.str ⟨([49] : Bs).toArray⟩) (.str { data := #[49] }) = some (.bool true) := by kernel_rfl
theorem up12_ok : EV C n_law12_up [] [] = some (.bool true, [], []) := by
  refine law12_up_of ?_
  have r1 : ∀ (K : AV → List AObj → List Nat → Option R3), rawK 1 1 (.int .u8 0) [(0, (.int .u8 97))] [] K = K (.slc 0 0 1 1) [.row 1 [.int .u8 97]] [] := fun K => rfl
  have r2 : ∀ (K : AV → Option R3), (cvR (.slc 0 0 1 1) [.row 1 [.int .u8 97]]).bind K = K (.slc 0 0 1 1) := fun K => rfl
  have r3 : ∀ (K : AV → List AObj → List Nat → Option R3), rawK 1 1 (.int .u8 0) [(0, (.int .u8 49))] [.row 1 [.int .u8 97]] K = K (.slc 1 0 1 1) [.row 1 [.int .u8 97], .row 1 [.int .u8 49]] [] := fun K => rfl
  have r4 : ∀ (K : AV → Option R3), (cvR (.slc 1 0 1 1) [.row 1 [.int .u8 97], .row 1 [.int .u8 49]]).bind K = K (.slc 1 0 1 1) := fun K => rfl
  have r5 : ∀ (K : List AV → Option R3), (fillB (AV.cells (.agg [(.int .u64 0), (.int .u64 0), (.int .i64 0), .nils, .nils])) [(0, 1, (.int .u64 5)), (1, 1, (.int .u64 1)), (2, 1, (.int .i64 1)), (3, 1, .slc 0 0 1 1), (4, 1, .slc 1 0 1 1)]).bind K = K [.int .u64 5, .int .u64 1, .int .i64 1, .slc 0 0 1 1, .slc 1 0 1 1] := fun K => rfl
  have W := Write_ok upC upC_w (by decide) (by decide)
  rw [show resW upC = .tup [bys (cmdB upC), .nili] from by unfold resW; rw [if_pos upC_may]] at W
  have w1 : ∀ (K : AV → List AObj → List Nat → Option R3), callK (EV C) false n_command_Write [(.agg [.int .u64 5, .int .u64 1, .int .i64 1, .slc 0 0 1 1, .slc 1 0 1 1])] [.row 1 [.int .u8 97], .row 1 [.int .u8 49]] K = K (.tup [bys (cmdB upC), .nili]) [.dead, .dead] [] := fun K => callK_frz (bs := [upC.av]) rfl (by simp [goodL]) W rfl
  have nb : (cmdB upC).length ≤ 2 ^ 46 := by decide
  have A1 := cApply_ok (cmdB upC) nb binv_lf (by decide)
  rw [up_apply1] at A1
  have a1 : ∀ (H : List AObj) (K : AV → List AObj → List Nat → Option R3), callK (EV C) false n_command_Apply [(.agg [(.int .i64 0), .nils, .nils, .nils, .nils]), bys (cmdB upC)] H K = K (resA3 (doC .lf upC).1.tre (doC .lf upC).2 0) H [] := fun H K => callK_nil (bs := [Bt.lf.tre.av, bys (cmdB upC)]) (by simp [killsL, kills, kills_good _ (good_bys _)]) (frzL_cons (frz_nil0 _) (frzL_cons (frz_good _ _ (good_bys _)) rfl)) (by simp [goodL]) A1
  have A2 := cApply_ok (cmdB upC) nb up_inv (by decide)
  rw [up_apply2] at A2
  have L := look_ok [97] (by decide) up_inv (by decide)
  rw [up_look] at L
  dsimp only
  rw [r1, r2, r3, r4, r5, w1]
  simp -implicitDefEqProofs only [ZS, ZT, Nat.reduceAdd]
  rw [fill_nil, a1]
  simp -implicitDefEqProofs only [resA3, new_z, ZS, ZT, Nat.reduceAdd]
  rw [sto_t (b := 2) rfl rfl]
  simp -implicitDefEqProofs only [ZS, ZT, Nat.reduceAdd]
  rw [callK_ok (by simp) A2]
  simp -implicitDefEqProofs only [resA3, new_z, ZS, ZT, Nat.reduceAdd]
  rw [sto_t (b := 3) rfl rfl]
  simp -implicitDefEqProofs only [ZS, ZT, Nat.reduceAdd]
  have r6 : ∀ (o0 o1 o2 o3 : AObj) (K : AV → List AObj → List Nat → Option R3), rawK 1 1 (.int .u8 0) [(0, (.int .u8 97))] [o0, o1, o2, o3] K = K (.slc 4 0 1 1) [o0, o1, o2, o3, .row 1 [.int .u8 97]] [] := fun o0 o1 o2 o3 K => rfl
  have r7 : ∀ (o0 o1 o2 o3 : AObj) (K : AV → Option R3), (cvR (.slc 4 0 1 1) [o0, o1, o2, o3, .row 1 [.int .u8 97]]).bind K = K (.slc 4 0 1 1) := fun o0 o1 o2 o3 K => rfl
  have w2 : ∀ (o0 o1 o2 o3 : AObj) (K : AV → List AObj → List Nat → Option R3), callK (EV C) false n_command_Look [(doC .lf upC).1.tre.av, .slc 4 0 1 1] [o0, o1, o2, o3, .row 1 [.int .u8 97]] K = K (resG (some [49]) 0) [o0, o1, o2, o3, .dead] [] := fun o0 o1 o2 o3 K => (callK_frz (bs := [(doC .lf upC).1.tre.av, bys [97]]) (frzL_cons (frz_good _ _ (good_tr _)) (frzL_cons rfl rfl)) (by simp [goodL]) L rfl).trans (by simp [killsL, kills, kills_good _ (good_tr _), killAll])
  rw [r6, r7, w2]
  simp -implicitDefEqProofs only [resG, eql_nil1, eqlE0, Option.isSome_some, Option.getD_some, up_res1, eq_1, ZS, ZT, Nat.reduceAdd]
  exact endB_good rfl
theorem readF_range (b : Bs) : 0 ≤ (readF b).1 ∧ (readF b).1 ≤ 13 := by
  unfold readF
  split
  · decide
  · split
    · split <;> simp
    · simp
theorem CommandReads_ok (b : Bs) (hb : b.length ≤ 2 ^ 50) : EV C n_law12_CommandReads [bys b] [] = some (.bool true, [], []) := by
  refine law12_CommandReads_of ?_
  dsimp only
  rw [callK_ok rfl up12_ok]
  simp -implicitDefEqProofs only [ZS, ZT, Nat.reduceAdd]
  by_cases c : 5000 < b.length
  · have c' : (5000 : Int) < (b.length : Int) := by omega
    rw [if_pos c']; exact endB_good rfl
  · have c' : ¬ (5000 : Int) < (b.length : Int) := by omega
    have rr := readF_range b
    rw [if_neg c', callK_ok (by simp) (cRead_ok b (by omega))]
    simp -implicitDefEqProofs only [resCR, new_zc, ZS, ZT, Nat.reduceAdd]
    rw [sto_cmd' (b := 0) rfl rfl]
    simp -implicitDefEqProofs only [ZS, ZT, Nat.reduceAdd]
    rw [callK_ok (by simp) (rRead_ok b (by omega))]
    simp -implicitDefEqProofs only [resRR, new_zc, ZS, ZT, Nat.reduceAdd]
    rw [sto_cmd' (b := 1) rfl rfl]
    simp -implicitDefEqProofs only [ZS, ZT, Nat.reduceAdd]
    rw [callK_ok (by simp) (Code_ok _ rr.1 rr.2)]
    have h0 : ∀ T, (AObj.row 5 [(readF b).2.av] :: T)[0]? = some (.row 5 [(readF b).2.av]) := fun T => rfl
    have h1 : ∀ o T, (o :: AObj.row 5 [(readF b).2.av] :: T)[1]? = some (.row 5 [(readF b).2.av]) := fun o T => rfl
    simp -implicitDefEqProofs only [eq_self, cm_all (h0 _), cm_all (h1 _ _), ZS, ZT, Nat.reduceAdd]
    rw [callK_ok (by simp [goodL]) (same_self _)]
    exact endB_good rfl
end Go.Pm
namespace Go.Pm
open Go.Proofs
set_option linter.unusedVariables false
theorem reach_le {n : Nat} (h : n ≤ reachBytes) : n ≤ 2 ^ 50 := by
  have r : reachBytes = 140737488351232 := rfl
  omega
theorem commandReads_law {a : AV} {f : Nat} {l : List AV} (e : a = mkE (agT Try.prog 23) l) (h : tyC Try.prog reachBytes f 23 l) : EV C n_law12_CommandReads [a] [] = some (.bool true, [], []) := by
  obtain ⟨b, rfl, hb⟩ := ty_bytes' e h
  exact CommandReads_ok b (reach_le hb)
end Go.Pm
