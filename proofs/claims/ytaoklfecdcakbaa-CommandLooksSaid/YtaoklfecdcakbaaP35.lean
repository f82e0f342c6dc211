/- A part of the proof: what the functions of the program answer, as plain lists and numbers. -/
import Derived.Test.YtaoklfecdcakbaaP25
import Derived.Test.YtaoklfecdcakbaaP33
import Derived.Test.YtaoklfecdcakbaaP34
namespace Go.Pm
open Go.Proofs
set_option linter.unusedVariables false
set_option linter.unusedSimpArgs false
def upC : Cmd := ⟨5, 1, 1, [97], [49]⟩
theorem upC_may : upC.may = true := by decide
theorem upC_w : upC.w64 := by unfold Cmd.w64 upC; decide
theorem up_apply1 : applyF .lf (cmdB upC) = doC .lf upC := by
  unfold applyF
  rw [readF_cmd upC_may upC_w]
  rfl
theorem up_inv : BInv (doC .lf upC).1 2 := binv_lf.doC upC_may
theorem up_res1 : (doC .lf upC).2 = 1 := rfl
theorem up_apply2 : applyF (doC .lf upC).1 (cmdB upC) = ((doC .lf upC).1, 1) := by
  unfold applyF
  rw [readF_cmd upC_may upC_w]
  simp only [if_true]
  exact apply_again (sess_do binv_lf upC_may upC_w)
theorem up_look : lookF (doC .lf upC).1 [97] = some [49] := by
  have := get_apply_new (c := upC) binv_lf upC_may rfl
  unfold lookF
  rw [if_neg (by decide)]
  have e : applyC .lf upC = doC .lf upC := rfl
  rw [e] at this
  exact this
theorem eq_1 : binA .eql Go.TypeDesc.string (cmpT Try.prog) true (.str ⟨([49] : Bs).toArray⟩) (.str { data := #[49] }) = some (.bool true) := by kernel_rfl
theorem up12_ok : EV C n_law12_up [] [] = some (.bool true, [], []) := by
  refine law12_up_of ?_
  have r1 : ∀ (K : AV → List AObj → List Nat → Option R3), rawK 1 1 (.int .u8 0) [(0, (.int .u8 97))] [] K = K (.slc 0 0 1 1) [.row 1 [.int .u8 97]] [] := fun K => rfl
  have r2 : ∀ (K : AV → Option R3), (cvR (.slc 0 0 1 1) [.row 1 [.int .u8 97]]).bind K = K (.slc 0 0 1 1) := fun K => rfl
  have r3 : ∀ (K : AV → List AObj → List Nat → Option R3), rawK 1 1 (.int .u8 0) [(0, (.int .u8 49))] [.row 1 [.int .u8 97]] K = K (.slc 1 0 1 1) [.row 1 [.int .u8 97], .row 1 [.int .u8 49]] [] := fun K => rfl
  have r4 : ∀ (K : AV → Option R3), (cvR (.slc 1 0 1 1) [.row 1 [.int .u8 97], .row 1 [.int .u8 49]]).bind K = K (.slc 1 0 1 1) := fun K => rfl
  have r5 : ∀ (K : List AV → Option R3), (fillB (AV.cells (.agg [(.int .u64 0), (.int .u64 0), (.int .i64 0), .nils, .nils])) [(0, 1, (.int .u64 5)), (1, 1, (.int .u64 1)), (2, 1, (.int .i64 1)), (3, 1, .slc 0 0 1 1), (4, 1, .slc 1 0 1 1)]).bind K = K [.int .u64 5, .int .u64 1, .int .i64 1, .slc 0 0 1 1, .slc 1 0 1 1] := fun K => rfl
  have W := Write_ok upC upC_w (by decide) (by decide)
  rw [show resW upC = .tup [bys (cmdB upC), .nili] from by unfold resW; rw [if_pos upC_may]] at W
  have w1 : ∀ (K : AV → List AObj → List Nat → Option R3), callK (EV C) false n_command_Write [(.agg [.int .u64 5, .int .u64 1, .int .i64 1, .slc 0 0 1 1, .slc 1 0 1 1])] [.row 1 [.int .u8 97], .row 1 [.int .u8 49]] K = K (.tup [bys (cmdB upC), .nili]) [.dead, .dead] [] := fun K => callK_frz (bs := [upC.av]) rfl (by simp [goodL]) W rfl
  have nb : (cmdB upC).length ≤ 2 ^ 46 := by decide
  have A1 := cApply_ok (cmdB upC) nb binv_lf (by decide)
  rw [up_apply1] at A1
  have a1 : ∀ (H : List AObj) (K : AV → List AObj → List Nat → Option R3), callK (EV C) false n_command_Apply [(.agg [(.int .i64 0), .nils, .nils, .nils, .nils]), bys (cmdB upC)] H K = K (resA3 (doC .lf upC).1.tre (doC .lf upC).2 0) H [] := fun H K => callK_nil (bs := [Bt.lf.tre.av, bys (cmdB upC)]) (by simp [killsL, kills, kills_good _ (good_bys _)]) (frzL_cons (frz_nil0 _) (frzL_cons (frz_good _ _ (good_bys _)) rfl)) (by simp [goodL]) A1
  have A2 := cApply_ok (cmdB upC) nb up_inv (by decide)
  rw [up_apply2] at A2
  have L := look_ok [97] (by decide) up_inv (by decide)
  rw [up_look] at L
  dsimp only
  rw [r1, r2, r3, r4, r5, w1]
  simp -implicitDefEqProofs only [ZS, ZT, Nat.reduceAdd]
  rw [fill_nil, a1]
  simp -implicitDefEqProofs only [resA3, new_z, ZS, ZT, Nat.reduceAdd]
  rw [sto_t (b := 2) rfl rfl]
  simp -implicitDefEqProofs only [ZS, ZT, Nat.reduceAdd]
  rw [callK_ok (by simp) A2]
  simp -implicitDefEqProofs only [resA3, new_z, ZS, ZT, Nat.reduceAdd]
  rw [sto_t (b := 3) rfl rfl]
  simp -implicitDefEqProofs only [ZS, ZT, Nat.reduceAdd]
  have r6 : ∀ (o0 o1 o2 o3 : AObj) (K : AV → List AObj → List Nat → Option R3), rawK 1 1 (.int .u8 0) [(0, (.int .u8 97))] [o0, o1, o2, o3] K = K (.slc 4 0 1 1) [o0, o1, o2, o3, .row 1 [.int .u8 97]] [] := fun o0 o1 o2 o3 K => rfl
  have r7 : ∀ (o0 o1 o2 o3 : AObj) (K : AV → Option R3), (cvR (.slc 4 0 1 1) [o0, o1, o2, o3, .row 1 [.int .u8 97]]).bind K = K (.slc 4 0 1 1) := fun o0 o1 o2 o3 K => rfl
  have w2 : ∀ (o0 o1 o2 o3 : AObj) (K : AV → List AObj → List Nat → Option R3), callK (EV C) false n_command_Look [(doC .lf upC).1.tre.av, .slc 4 0 1 1] [o0, o1, o2, o3, .row 1 [.int .u8 97]] K = K (resG (some [49]) 0) [o0, o1, o2, o3, .dead] [] := fun o0 o1 o2 o3 K => (callK_frz (bs := [(doC .lf upC).1.tre.av, bys [97]]) (frzL_cons (frz_good _ _ (good_tr _)) (frzL_cons rfl rfl)) (by simp [goodL]) L rfl).trans (by simp [killsL, kills, kills_good _ (good_tr _), killAll])
  rw [r6, r7, w2]
  simp -implicitDefEqProofs only [resG, eql_nil1, eqlE0, Option.isSome_some, Option.getD_some, up_res1, eq_1, ZS, ZT, Nat.reduceAdd]
  exact endB_good rfl
end Go.Pm
namespace Go.Pm
open Go.Proofs
set_option linter.unusedVariables false
theorem reach_le {n : Nat} (h : n ≤ reachBytes) : n ≤ 2 ^ 50 := by
  have r : reachBytes = 140737488351232 := rfl
  omega
end Go.Pm
namespace Go.Pm
open Go.Proofs
set_option linter.unusedVariables false
set_option linter.unusedSimpArgs false
theorem eql_bool (c : TypeId → Bool) (b x y : Bool) : binA .eql .bool c b (.bool x) (.bool y) = some (.bool (decide (x = y))) := rfl
def smallT3 (t : Tre) : Bool := decide (0 ≤ lightF t 300 100)
theorem small12_ok (t : Tre) (ht : t.ok) : EV C n_law12_small [t.av] [] = some (.bool (smallT3 t), [], []) := by
  refine law12_small_of ?_
  simp -implicitDefEqProofs only [ZS, ZT, Nat.reduceAdd]
  rw [callK_ok (by simp) (Light_ok t ht 300 100 (by decide) (by decide) (by decide) (by decide))]
  simp -implicitDefEqProofs only [ZS, ZT, Nat.reduceAdd]
  exact endB_good rfl
theorem small12_nodes {t : Tre} (h : smallT3 t = true) : (nodesF t).length ≤ 300 := by
  unfold smallT3 at h
  have h0 : 0 ≤ lightF t 300 100 := by simpa using h
  have hp := lightF_parts t 300 100 h0
  have hn := nodes_parts t
  omega
theorem is_binv {t : Tre} (hi : isF t = true) (hn : (nodesF t).length ≤ 300) : ∃ b : Bt, t = b.tre ∧ BInv b 300 := by
  obtain ⟨b, rfl, g⟩ := of_is hi
  exact ⟨b, rfl, g.sml, g.bal, g.srt, by rw [← tre_len]; exact hn⟩
theorem CommandLooks_ok (t : Tre) (ht : t.ok) (k : Bs) (hk : k.length ≤ 2 ^ 50) : EV C n_law12_CommandLooks [t.av, bys k] [] = some (.bool true, [], []) := by
  refine law12_CommandLooks_of ?_
  simp -implicitDefEqProofs only [ZS, ZT, Nat.reduceAdd]
  rw [callK_ok rfl up12_ok]
  simp -implicitDefEqProofs only [ZS, ZT, Nat.reduceAdd]
  rw [callK_ok (by simp) (small12_ok t ht)]
  cases hs : smallT3 t with
  | false =>
    simp -implicitDefEqProofs only [not_bool, ZS, ZT, Nat.reduceAdd]
    exact endB_good rfl
  | true =>
    have hn := small12_nodes hs
    simp -implicitDefEqProofs only [not_bool, ZS, ZT, Nat.reduceAdd]
    by_cases c : 5000 < k.length
    · have c' : (5000 : Int) < (k.length : Int) := by omega
      rw [if_pos c']; exact endB_good rfl
    · have c' : ¬ (5000 : Int) < (k.length : Int) := by omega
      rw [if_neg c']
      have rk : ∀ H, callD (EV C) n_ref12_Key [bys k] H = some (bys (userK k)) := fun H => callD_ok (by simp) (rkey_ok k (by omega))
      cases hi : isF t with
      | false =>
        rw [callK_ok (by simp) (look_bad k (by omega) t ht (by omega) hi)]
        simp -implicitDefEqProofs only [resG, ZS, ZT, Nat.reduceAdd]
        rw [callK_ok (by simp) (key_ok k (by omega))]
        simp -implicitDefEqProofs only [ZS, ZT, Nat.reduceAdd]
        rw [callK_ok (by simp) (refIs_ok t ht (by omega)), hi]
        simp -implicitDefEqProofs only [not_bool, rk, eq_self, eqlE _ _ _ (show (3 : Int) ≠ 0 by decide), Option.isSome_none, Option.getD_none, Int.natCast_zero, ZS, ZT, Nat.reduceAdd]
        exact endB_good rfl
      | true =>
        obtain ⟨u, rfl, v⟩ := is_binv hi hn
        rw [callK_ok (by simp) (look_ok k (by omega) v (by decide))]
        simp -implicitDefEqProofs only [resG, ZS, ZT, Nat.reduceAdd]
        rw [callK_ok (by simp) (key_ok k (by omega))]
        simp -implicitDefEqProofs only [ZS, ZT, Nat.reduceAdd]
        rw [callK_ok (by simp) (refIs_ok u.tre ht (by omega)), hi]
        simp -implicitDefEqProofs only [not_bool, rk, eq_self, ZS, ZT, Nat.reduceAdd]
        rw [callK_ok (by simp) (rGet_ok (userK k) v (by decide))]
        have cn : ∀ H, cvL .nils H = some (.str ⟨([] : Bs).toArray⟩) := fun H => rfl
        simp -implicitDefEqProofs only [resG2, ZS, ZT, Nat.reduceAdd]
        unfold lookF
        by_cases c2 : 64 < k.length
        · have c2' : (64 : Int) < (k.length : Int) := by omega
          rw [if_pos c2', if_pos c2]
          simp -implicitDefEqProofs only [eqlE0, eql_bool, cn, Option.isSome_none, Option.getD_none, ZS, ZT, Nat.reduceAdd]
          exact endB_good rfl
        · have c2' : ¬ (64 : Int) < (k.length : Int) := by omega
          rw [if_neg c2', if_neg c2]
          simp -implicitDefEqProofs only [eqlE0, eql_bool, eq_self, ZS, ZT, Nat.reduceAdd]
          exact endB_good rfl
theorem commandLooks_law {a b : AV} {f f1 : Nat} {l l1 : List AV} (e : a = mkE (agT Try.prog 43) l) (h : tyC Try.prog reachBytes f 43 l) (e1 : b = mkE (agT Try.prog 23) l1) (h1 : tyC Try.prog reachBytes f1 23 l1) : EV C n_law12_CommandLooks [a, b] [] = some (.bool true, [], []) := by
  obtain ⟨t, rfl, ht⟩ := ty_tre' (by decide) e h
  obtain ⟨b, rfl, hb⟩ := ty_bytes' e1 h1
  exact CommandLooks_ok t ht b (reach_le hb)
end Go.Pm
