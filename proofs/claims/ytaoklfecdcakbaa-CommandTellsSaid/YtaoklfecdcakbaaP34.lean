/- A part of the proof: what the functions of the program answer, as plain lists and numbers. -/
import Derived.Test.YtaoklfecdcakbaaP24
import Derived.Test.YtaoklfecdcakbaaP32
import Derived.Test.YtaoklfecdcakbaaP33
namespace Go.Pm
open Go.Proofs
set_option linter.unusedVariables false
set_option linter.unusedSimpArgs false
def upC : Cmd := ⟨5, 1, 1, [97], [49]⟩
theorem upC_may : upC.may = true := by decide
theorem upC_w : upC.w64 := by unfold Cmd.w64 upC; decide
theorem up_apply1 : applyF .lf (cmdB upC) = doC .lf upC := by
  unfold applyF
  rw [readF_cmd upC_may upC_w]
  rfl
theorem up_inv : BInv (doC .lf upC).1 2 := binv_lf.doC upC_may
theorem up_res1 : (doC .lf upC).2 = 1 := rfl
theorem up_apply2 : applyF (doC .lf upC).1 (cmdB upC) = ((doC .lf upC).1, 1) := by
  unfold applyF
  rw [readF_cmd upC_may upC_w]
  simp only [if_true]
  exact apply_again (sess_do binv_lf upC_may upC_w)
theorem up_look : lookF (doC .lf upC).1 [97] = some [49] := by
  have := get_apply_new (c := upC) binv_lf upC_may rfl
  unfold lookF
  rw [if_neg (by decide)]
  have e : applyC .lf upC = doC .lf upC := rfl
  rw [e] at this
  exact this
theorem eq_1 : binA .eql Go.TypeDesc.string (cmpT Try.prog) true (.str ⟨([49] : Bs).toArray⟩) (.str { data := #[49] }) = some (.bool true) := by kernel_rfl
theorem up12_ok : EV C n_law12_up [] [] = some (.bool true, [], []) := by
  refine law12_up_of ?_
  have r1 : ∀ (K : AV → List AObj → List Nat → Option R3), rawK 1 1 (.int .u8 0) [(0, (.int .u8 97))] [] K = K (.slc 0 0 1 1) [.row 1 [.int .u8 97]] [] := fun K => rfl
  have r2 : ∀ (K : AV → Option R3), (cvR (.slc 0 0 1 1) [.row 1 [.int .u8 97]]).bind K = K (.slc 0 0 1 1) := fun K => rfl
  have r3 : ∀ (K : AV → List AObj → List Nat → Option R3), rawK 1 1 (.int .u8 0) [(0, (.int .u8 49))] [.row 1 [.int .u8 97]] K = K (.slc 1 0 1 1) [.row 1 [.int .u8 97], .row 1 [.int .u8 49]] [] := fun K => rfl
  have r4 : ∀ (K : AV → Option R3), (cvR (.slc 1 0 1 1) [.row 1 [.int .u8 97], .row 1 [.int .u8 49]]).bind K = K (.slc 1 0 1 1) := fun K => rfl
  have r5 : ∀ (K : List AV → Option R3), (fillB (AV.cells (.agg [(.int .u64 0), (.int .u64 0), (.int .i64 0), .nils, .nils])) [(0, 1, (.int .u64 5)), (1, 1, (.int .u64 1)), (2, 1, (.int .i64 1)), (3, 1, .slc 0 0 1 1), (4, 1, .slc 1 0 1 1)]).bind K = K [.int .u64 5, .int .u64 1, .int .i64 1, .slc 0 0 1 1, .slc 1 0 1 1] := fun K => rfl
  have W := Write_ok upC upC_w (by decide) (by decide)
  rw [show resW upC = .tup [bys (cmdB upC), .nili] from by unfold resW; rw [if_pos upC_may]] at W
  have w1 : ∀ (K : AV → List AObj → List Nat → Option R3), callK (EV C) false n_command_Write [(.agg [.int .u64 5, .int .u64 1, .int .i64 1, .slc 0 0 1 1, .slc 1 0 1 1])] [.row 1 [.int .u8 97], .row 1 [.int .u8 49]] K = K (.tup [bys (cmdB upC), .nili]) [.dead, .dead] [] := fun K => callK_frz (bs := [upC.av]) rfl (by simp [goodL]) W rfl
  have nb : (cmdB upC).length ≤ 2 ^ 46 := by decide
  have A1 := cApply_ok (cmdB upC) nb binv_lf (by decide)
  rw [up_apply1] at A1
  have a1 : ∀ (H : List AObj) (K : AV → List AObj → List Nat → Option R3), callK (EV C) false n_command_Apply [(.agg [(.int .i64 0), .nils, .nils, .nils, .nils]), bys (cmdB upC)] H K = K (resA3 (doC .lf upC).1.tre (doC .lf upC).2 0) H [] := fun H K => callK_nil (bs := [Bt.lf.tre.av, bys (cmdB upC)]) (by simp [killsL, kills, kills_good _ (good_bys _)]) (frzL_cons (frz_nil0 _) (frzL_cons (frz_good _ _ (good_bys _)) rfl)) (by simp [goodL]) A1
  have A2 := cApply_ok (cmdB upC) nb up_inv (by decide)
  rw [up_apply2] at A2
  have L := look_ok [97] (by decide) up_inv (by decide)
  rw [up_look] at L
  dsimp only
  rw [r1, r2, r3, r4, r5, w1]
  simp -implicitDefEqProofs only [ZS, ZT, Nat.reduceAdd]
  rw [fill_nil, a1]
  simp -implicitDefEqProofs only [resA3, new_z, ZS, ZT, Nat.reduceAdd]
  rw [sto_t (b := 2) rfl rfl]
  simp -implicitDefEqProofs only [ZS, ZT, Nat.reduceAdd]
  rw [callK_ok (by simp) A2]
  simp -implicitDefEqProofs only [resA3, new_z, ZS, ZT, Nat.reduceAdd]
  rw [sto_t (b := 3) rfl rfl]
  simp -implicitDefEqProofs only [ZS, ZT, Nat.reduceAdd]
  have r6 : ∀ (o0 o1 o2 o3 : AObj) (K : AV → List AObj → List Nat → Option R3), rawK 1 1 (.int .u8 0) [(0, (.int .u8 97))] [o0, o1, o2, o3] K = K (.slc 4 0 1 1) [o0, o1, o2, o3, .row 1 [.int .u8 97]] [] := fun o0 o1 o2 o3 K => rfl
  have r7 : ∀ (o0 o1 o2 o3 : AObj) (K : AV → Option R3), (cvR (.slc 4 0 1 1) [o0, o1, o2, o3, .row 1 [.int .u8 97]]).bind K = K (.slc 4 0 1 1) := fun o0 o1 o2 o3 K => rfl
  have w2 : ∀ (o0 o1 o2 o3 : AObj) (K : AV → List AObj → List Nat → Option R3), callK (EV C) false n_command_Look [(doC .lf upC).1.tre.av, .slc 4 0 1 1] [o0, o1, o2, o3, .row 1 [.int .u8 97]] K = K (resG (some [49]) 0) [o0, o1, o2, o3, .dead] [] := fun o0 o1 o2 o3 K => (callK_frz (bs := [(doC .lf upC).1.tre.av, bys [97]]) (frzL_cons (frz_good _ _ (good_tr _)) (frzL_cons rfl rfl)) (by simp [goodL]) L rfl).trans (by simp [killsL, kills, kills_good _ (good_tr _), killAll])
  rw [r6, r7, w2]
  simp -implicitDefEqProofs only [resG, eql_nil1, eqlE0, Option.isSome_some, Option.getD_some, up_res1, eq_1, ZS, ZT, Nat.reduceAdd]
  exact endB_good rfl
end Go.Pm
namespace Go.Pm
open Go.Proofs
set_option linter.unusedVariables false
theorem ty_u64 {B f : Nat} {cs : List AV} (h : tyC Try.prog B f 22 cs) : ∃ n : Nat, cs = [.int .u64 (n : Int)] ∧ n < 2 ^ 64 := by
  obtain ⟨n, rfl, h1, h2⟩ := ty_int Try.underlying22 h
  have a1 : IntKind.u64.min = 0 := rfl
  have a2 : IntKind.u64.max = 18446744073709551615 := rfl
  rw [a1] at h1; rw [a2] at h2
  exact ⟨n.toNat, by congr 2; omega, by omega⟩
theorem agT25 : agT Try.prog 25 = true := by unfold agT; rw [Try.underlying25]
theorem ty_cmd0 {B f : Nat} {cs : List AV} (h : tyC Try.prog B f 25 cs) : ∃ c : Cmd, cs = c.cs ∧ c.w64 ∧ c.key.length ≤ B ∧ c.value.length ≤ B := by
  obtain ⟨f', css, rfl, h2⟩ := ty_struct Try.underlying25 h
  obtain ⟨c1, _, rfl, ⟨k1, _⟩, h2⟩ := forall2_1 h2
  obtain ⟨c2, _, rfl, ⟨k2, _⟩, h2⟩ := forall2_1 h2
  obtain ⟨c3, _, rfl, ⟨k3, _⟩, h2⟩ := forall2_1 h2
  obtain ⟨c4, _, rfl, ⟨k4, _⟩, h2⟩ := forall2_1 h2
  obtain ⟨c5, _, rfl, ⟨k5, _⟩, h2⟩ := forall2_1 h2
  obtain rfl := forall2_0 h2
  obtain ⟨a, rfl, ha⟩ := ty_u64 k1
  obtain ⟨b, rfl, hb⟩ := ty_u64 k2
  obtain ⟨o, rfl⟩ := ty_i64 k3
  obtain ⟨x, rfl, hx⟩ := ty_bytesB k4
  obtain ⟨y, rfl, hy⟩ := ty_bytesB k5
  exact ⟨⟨a, b, o, x, y⟩, rfl, ⟨ha, hb⟩, hx, hy⟩
theorem ty_cmd {B f : Nat} {cs : List AV} {a : AV} (e : a = mkE (agT Try.prog 25) cs) (h : tyC Try.prog B f 25 cs) : ∃ c : Cmd, a = c.av ∧ c.w64 ∧ c.key.length ≤ B ∧ c.value.length ≤ B := by
  obtain ⟨c, rfl, h1, h2, h3⟩ := ty_cmd0 h
  exact ⟨c, by rw [e, agT25]; rfl, h1, h2, h3⟩
theorem reach_le {n : Nat} (h : n ≤ reachBytes) : n ≤ 2 ^ 50 := by
  have r : reachBytes = 140737488351232 := rfl
  omega
end Go.Pm
namespace Go.Pm
open Go.Proofs
set_option linter.unusedVariables false
set_option linter.unusedSimpArgs false
theorem eql_bool (c : TypeId → Bool) (b x y : Bool) : binA .eql .bool c b (.bool x) (.bool y) = some (.bool (decide (x = y))) := rfl
end Go.Pm
namespace Go.Pm
open Go.Proofs
set_option linter.unusedVariables false
set_option linter.unusedSimpArgs false
@[simp] theorem goodL_cmd (l : List Cmd) : goodL (l.map Cmd.av) = true := goodL_map good_cmd l
end Go.Pm
namespace Go.Pm
open Go.Proofs
set_option linter.unusedVariables false
set_option linter.unusedSimpArgs false
theorem CommandTells_ok (p : List Pr) (hp : p.length ≤ 2^50) (c : Cmd) (hw : c.w64) (hk : c.key.length ≤ 2^50) (hv : c.value.length ≤ 2^50) (x : Bs) (hx : x.length ≤ 2^50) : EV C n_law12_CommandTells [prsA p, c.av, bys x] [] = some (.bool true, [], []) := by
  refine law12_CommandTells_of ?_
  have h0 : ∀ T, (AObj.row 5 [c.av] :: T)[0]? = some (.row 5 [c.av]) := fun T => rfl
  have gi := binv_grown p
  simp -implicitDefEqProofs only [new_cmd, ZS, ZT, Nat.reduceAdd]
  rw [callK_ok rfl up12_ok]
  simp -implicitDefEqProofs only [ZS, ZT, Nat.reduceAdd]
  rw [callK_ok (by simp) (Grown_ok p hp)]
  simp -implicitDefEqProofs only [new_z, ZS, ZT, Nat.reduceAdd]
  rw [sto_t (b := 1) rfl rfl]
  simp -implicitDefEqProofs only [cm_all (h0 _), ZS, ZT, Nat.reduceAdd]
  rw [callK_ok (by simp [goodL]) (Write_ok c hw hk hv)]
  unfold resW
  cases hm : c.may with
  | false =>
    have en : ∀ ms cc, binA .neq (.interface ms) cc true (errA 1) .nili = some (.bool true) := fun ms cc => rfl
    simp -implicitDefEqProofs only [Bool.false_eq_true, en, eqlE _ _ _ (show (1 : Int) ≠ 0 by decide), ZS, ZT, Nat.reduceAdd]
    exact endB_good rfl
  | true =>
    have k := may_parts hm
    have n1 := numF_len c.client
    have n2 := numF_len c.seq
    have n3 := numF_len c.key.length
    have n4 := numF_len c.value.length
    have A := cApply_ok (cmdB c) (by simp [cmdB, bytesB]; omega) gi (by omega)
    have R := rApply_ok (cmdB c) (by simp [cmdB, bytesB]; omega) gi (by omega)
    have ea : applyF (grownF p) (cmdB c) = applyC (grownF p) c := by
      unfold applyF; rw [readF_cmd hm hw]; simp only [if_true]
    rw [ea] at A R
    have ui := gi.apply hm
    simp -implicitDefEqProofs only [neq_nil1, ZS, ZT, Nat.reduceAdd]
    rw [callK_ok (by simp) A]
    simp -implicitDefEqProofs only [resA3, new_z, ZS, ZT, Nat.reduceAdd]
    rw [sto_t (b := 2) rfl rfl]
    simp -implicitDefEqProofs only [cm_key (h0 _), ZS, ZT, Nat.reduceAdd]
    rw [callK_ok (by simp) (look_ok c.key hk ui (by decide))]
    simp -implicitDefEqProofs only [resG, ZS, ZT, Nat.reduceAdd]
    rw [callK_ok (by simp) (look_ok x hx gi (by decide))]
    simp -implicitDefEqProofs only [resG, ZS, ZT, Nat.reduceAdd]
    rw [callK_ok (by simp) (look_ok x hx ui (by decide))]
    simp -implicitDefEqProofs only [resG, neqE0, ZS, ZT, Nat.reduceAdd]
    rw [callK_ok (by simp) (avlIs_ok _ (tre_ok ui.sml) (ui.nodes (by decide))), ui.is' (by decide)]
    simp -implicitDefEqProofs only [not_bool, cm_key (h0 _), ZS, ZT, Nat.reduceAdd]
    by_cases e : x = c.key
    · rw [if_pos e]
      rw [callK_ok (by simp) R]
      simp -implicitDefEqProofs only [resA2, new_z, ZS, ZT, Nat.reduceAdd]
      rw [sto_t (b := 3) rfl rfl]
      simp -implicitDefEqProofs only [eq_self, not_bool, cm_client (h0 _), ZS, ZT, Nat.reduceAdd]
      rw [callK_ok (by simp [goodL, AV.good]) (rSess_ok c.client hw.1 gi (by decide))]
      simp -implicitDefEqProofs only [resL, ZS, ZT, Nat.reduceAdd]
      cases hs : (sessR (grownF p) c.client).2.2 with
      | true =>
        simp -implicitDefEqProofs only [ZS, ZT, Nat.reduceAdd]
        exact endB_good rfl
      | false =>
        have hn : sessF (grownF p) c.client = none := by rw [sessR_sess, hs]; rfl
        have L := get_apply_new (c := c) gi hm hn
        have lk : lookF (applyC (grownF p) c).1 c.key = if c.op = 1 then some c.value else none := by
          unfold lookF; rw [if_neg (by omega)]; exact L
        rw [lk]
        simp -implicitDefEqProofs only [Bool.false_eq_true, cm_op (h0 _), ZS, ZT, Nat.reduceAdd]
        rcases k.2.2 with o | ⟨o, _⟩
        · have o2 : ¬ c.op = 2 := by omega
          rw [if_neg o2, if_pos o]
          simp -implicitDefEqProofs only [Option.isSome_some, Option.getD_some, cm_value (h0 _), eq_self, ZS, ZT, Nat.reduceAdd]
          exact endB_good rfl
        · have o1 : ¬ c.op = 1 := by omega
          rw [if_pos o, if_neg o1]
          simp -implicitDefEqProofs only [Option.isSome_none, not_bool, ZS, ZT, Nat.reduceAdd]
          exact endB_good rfl
    · rw [if_neg e]
      have le : lookF (applyC (grownF p) c).1 x = lookF (grownF p) x := by
        unfold lookF
        split
        · rfl
        · exact get_apply_ne gi hm e
      rw [le]
      simp -implicitDefEqProofs only [eql_bool, eq_self, ZS, ZT, Nat.reduceAdd]
      rw [callK_ok (by simp) R]
      simp -implicitDefEqProofs only [resA2, new_z, ZS, ZT, Nat.reduceAdd]
      rw [sto_t (b := 3) rfl rfl]
      simp -implicitDefEqProofs only [eq_self, not_bool, cm_client (h0 _), ZS, ZT, Nat.reduceAdd]
      rw [callK_ok (by simp [goodL, AV.good]) (rSess_ok c.client hw.1 gi (by decide))]
      simp -implicitDefEqProofs only [resL, ZS, ZT, Nat.reduceAdd]
      cases hs : (sessR (grownF p) c.client).2.2 with
      | true =>
        simp -implicitDefEqProofs only [ZS, ZT, Nat.reduceAdd]
        exact endB_good rfl
      | false =>
        have hn : sessF (grownF p) c.client = none := by rw [sessR_sess, hs]; rfl
        have L := get_apply_new (c := c) gi hm hn
        have lk : lookF (applyC (grownF p) c).1 c.key = if c.op = 1 then some c.value else none := by
          unfold lookF; rw [if_neg (by omega)]; exact L
        rw [lk]
        simp -implicitDefEqProofs only [Bool.false_eq_true, cm_op (h0 _), ZS, ZT, Nat.reduceAdd]
        rcases k.2.2 with o | ⟨o, _⟩
        · have o2 : ¬ c.op = 2 := by omega
          rw [if_neg o2, if_pos o]
          simp -implicitDefEqProofs only [Option.isSome_some, Option.getD_some, cm_value (h0 _), eq_self, ZS, ZT, Nat.reduceAdd]
          exact endB_good rfl
        · have o1 : ¬ c.op = 1 := by omega
          rw [if_pos o, if_neg o1]
          simp -implicitDefEqProofs only [Option.isSome_none, not_bool, ZS, ZT, Nat.reduceAdd]
          exact endB_good rfl
theorem commandTells_law {a b d : AV} {f f1 f3 : Nat} {l l1 l3 : List AV} (e : a = mkE (agT Try.prog 57) l) (h : tyC Try.prog reachBytes f 57 l) (e1 : b = mkE (agT Try.prog 25) l1) (h1 : tyC Try.prog reachBytes f1 25 l1) (e3 : d = mkE (agT Try.prog 23) l3) (h3 : tyC Try.prog reachBytes f3 23 l3) : EV C n_law12_CommandTells [a, b, d] [] = some (.bool true, [], []) := by
  obtain ⟨p, rfl, hp⟩ := ty_prs e h
  obtain ⟨c, rfl, hw, hk, hv⟩ := ty_cmd e1 h1
  obtain ⟨x, rfl, hx⟩ := ty_bytes' e3 h3
  exact CommandTells_ok p (prs_len hp) c hw (reach_le hk) (reach_le hv) x (reach_le hx)
end Go.Pm
