/- A part of the proof: what the functions of the program answer, as plain lists and numbers. -/
import Derived.Test.YtaoklfecdcakbaaP24
import Derived.Test.YtaoklfecdcakbaaP32
import Derived.Test.YtaoklfecdcakbaaP33
namespace Go.Pm
open Go.Proofs
set_option linter.unusedVariables false
set_option linter.unusedSimpArgs false
def upC : Cmd := ⟨5, 1, 1, [97], [49]⟩
theorem upC_may : upC.may = true := by decide
theorem upC_w : upC.w64 := by unfold Cmd.w64 upC; decide
theorem up_apply1 : applyF .lf (cmdB upC) = doC .lf upC := by
  unfold applyF
  rw [readF_cmd upC_may upC_w]
  rfl
theorem up_inv : BInv (doC .lf upC).1 2 := binv_lf.doC upC_may
theorem up_res1 : (doC .lf upC).2 = 1 := rfl
theorem up_apply2 : applyF (doC .lf upC).1 (cmdB upC) = ((doC .lf upC).1, 1) := by
  unfold applyF
  rw [readF_cmd upC_may upC_w]
  simp only [if_true]
  exact apply_again (sess_do binv_lf upC_may upC_w)
theorem up_look : lookF (doC .lf upC).1 [97] = some [49] := by
  have := get_apply_new (c := upC) binv_lf upC_may rfl
  unfold lookF
  rw [if_neg (by decide)]
  have e : applyC .lf upC = doC .lf upC := rfl
  rw [e] at this
  exact this
theorem eq_1 : binA .eql Go.TypeDesc.string (cmpT Try.prog) true (.str ⟨([49] : Bs).toArray⟩) (.str { data := #[49] }) = some (.bool true) := by kernel_rfl
theorem up12_ok : EV C n_law12_up [] [] = some (.bool true, [], []) := by
  refine law12_up_of ?_
  have r1 : ∀ (K : AV → List AObj → List Nat → Option R3), rawK 1 1 (.int .u8 0) [(0, (.int .u8 97))] [] K = K (.slc 0 0 1 1) [.row 1 [.int .u8 97]] [] := fun K => rfl
  have r2 : ∀ (K : AV → Option R3), (cvR (.slc 0 0 1 1) [.row 1 [.int .u8 97]]).bind K = K (.slc 0 0 1 1) := fun K => rfl
  have r3 : ∀ (K : AV → List AObj → List Nat → Option R3), rawK 1 1 (.int .u8 0) [(0, (.int .u8 49))] [.row 1 [.int .u8 97]] K = K (.slc 1 0 1 1) [.row 1 [.int .u8 97], .row 1 [.int .u8 49]] [] := fun K => rfl
  have r4 : ∀ (K : AV → Option R3), (cvR (.slc 1 0 1 1) [.row 1 [.int .u8 97], .row 1 [.int .u8 49]]).bind K = K (.slc 1 0 1 1) := fun K => rfl
  have r5 : ∀ (K : List AV → Option R3), (fillB (AV.cells (.agg [(.int .u64 0), (.int .u64 0), (.int .i64 0), .nils, .nils])) [(0, 1, (.int .u64 5)), (1, 1, (.int .u64 1)), (2, 1, (.int .i64 1)), (3, 1, .slc 0 0 1 1), (4, 1, .slc 1 0 1 1)]).bind K = K [.int .u64 5, .int .u64 1, .int .i64 1, .slc 0 0 1 1, .slc 1 0 1 1] := fun K => rfl
  have W := Write_ok upC upC_w (by decide) (by decide)
  rw [show resW upC = .tup [bys (cmdB upC), .nili] from by unfold resW; rw [if_pos upC_may]] at W
  have w1 : ∀ (K : AV → List AObj → List Nat → Option R3), callK (EV C) false n_command_Write [(.agg [.int .u64 5, .int .u64 1, .int .i64 1, .slc 0 0 1 1, .slc 1 0 1 1])] [.row 1 [.int .u8 97], .row 1 [.int .u8 49]] K = K (.tup [bys (cmdB upC), .nili]) [.dead, .dead] [] := fun K => callK_frz (bs := [upC.av]) rfl (by simp [goodL]) W rfl
  have nb : (cmdB upC).length ≤ 2 ^ 46 := by decide
  have A1 := cApply_ok (cmdB upC) nb binv_lf (by decide)
  rw [up_apply1] at A1
  have a1 : ∀ (H : List AObj) (K : AV → List AObj → List Nat → Option R3), callK (EV C) false n_command_Apply [(.agg [(.int .i64 0), .nils, .nils, .nils, .nils]), bys (cmdB upC)] H K = K (resA3 (doC .lf upC).1.tre (doC .lf upC).2 0) H [] := fun H K => callK_nil (bs := [Bt.lf.tre.av, bys (cmdB upC)]) (by simp [killsL, kills, kills_good _ (good_bys _)]) (frzL_cons (frz_nil0 _) (frzL_cons (frz_good _ _ (good_bys _)) rfl)) (by simp [goodL]) A1
  have A2 := cApply_ok (cmdB upC) nb up_inv (by decide)
  rw [up_apply2] at A2
  have L := look_ok [97] (by decide) up_inv (by decide)
  rw [up_look] at L
  dsimp only
  rw [r1, r2, r3, r4, r5, w1]
  simp -implicitDefEqProofs only [ZS, ZT, Nat.reduceAdd]
  rw [fill_nil, a1]
  simp -implicitDefEqProofs only [resA3, new_z, ZS, ZT, Nat.reduceAdd]
  rw [sto_t (b := 2) rfl rfl]
  simp -implicitDefEqProofs only [ZS, ZT, Nat.reduceAdd]
  rw [callK_ok (by simp) A2]
  simp -implicitDefEqProofs only [resA3, new_z, ZS, ZT, Nat.reduceAdd]
  rw [sto_t (b := 3) rfl rfl]
  simp -implicitDefEqProofs only [ZS, ZT, Nat.reduceAdd]
  have r6 : ∀ (o0 o1 o2 o3 : AObj) (K : AV → List AObj → List Nat → Option R3), rawK 1 1 (.int .u8 0) [(0, (.int .u8 97))] [o0, o1, o2, o3] K = K (.slc 4 0 1 1) [o0, o1, o2, o3, .row 1 [.int .u8 97]] [] := fun o0 o1 o2 o3 K => rfl
  have r7 : ∀ (o0 o1 o2 o3 : AObj) (K : AV → Option R3), (cvR (.slc 4 0 1 1) [o0, o1, o2, o3, .row 1 [.int .u8 97]]).bind K = K (.slc 4 0 1 1) := fun o0 o1 o2 o3 K => rfl
  have w2 : ∀ (o0 o1 o2 o3 : AObj) (K : AV → List AObj → List Nat → Option R3), callK (EV C) false n_command_Look [(doC .lf upC).1.tre.av, .slc 4 0 1 1] [o0, o1, o2, o3, .row 1 [.int .u8 97]] K = K (resG (some [49]) 0) [o0, o1, o2, o3, .dead] [] := fun o0 o1 o2 o3 K => (callK_frz (bs := [(doC .lf upC).1.tre.av, bys [97]]) (frzL_cons (frz_good _ _ (good_tr _)) (frzL_cons rfl rfl)) (by simp [goodL]) L rfl).trans (by simp [killsL, kills, kills_good _ (good_tr _), killAll])
  rw [r6, r7, w2]
  simp -implicitDefEqProofs only [resG, eql_nil1, eqlE0, Option.isSome_some, Option.getD_some, up_res1, eq_1, ZS, ZT, Nat.reduceAdd]
  exact endB_good rfl
end Go.Pm
namespace Go.Pm
open Go.Proofs
set_option linter.unusedVariables false
theorem ty_u64 {B f : Nat} {cs : List AV} (h : tyC Try.prog B f 22 cs) : ∃ n : Nat, cs = [.int .u64 (n : Int)] ∧ n < 2 ^ 64 := by
  obtain ⟨n, rfl, h1, h2⟩ := ty_int Try.underlying22 h
  have a1 : IntKind.u64.min = 0 := rfl
  have a2 : IntKind.u64.max = 18446744073709551615 := rfl
  rw [a1] at h1; rw [a2] at h2
  exact ⟨n.toNat, by congr 2; omega, by omega⟩
theorem ty_u64' {B f : Nat} {cs : List AV} {a : AV} (e : a = mkE (agT Try.prog 22) cs) (h : tyC Try.prog B f 22 cs) : ∃ n : Nat, a = .int .u64 (n : Int) ∧ n < 2 ^ 64 := by
  obtain ⟨n, rfl, hn⟩ := ty_u64 h
  exact ⟨n, by rw [e, agT_f Try.underlying22 rfl]; rfl, hn⟩
theorem agT25 : agT Try.prog 25 = true := by unfold agT; rw [Try.underlying25]
theorem ty_cmd0 {B f : Nat} {cs : List AV} (h : tyC Try.prog B f 25 cs) : ∃ c : Cmd, cs = c.cs ∧ c.w64 ∧ c.key.length ≤ B ∧ c.value.length ≤ B := by
  obtain ⟨f', css, rfl, h2⟩ := ty_struct Try.underlying25 h
  obtain ⟨c1, _, rfl, ⟨k1, _⟩, h2⟩ := forall2_1 h2
  obtain ⟨c2, _, rfl, ⟨k2, _⟩, h2⟩ := forall2_1 h2
  obtain ⟨c3, _, rfl, ⟨k3, _⟩, h2⟩ := forall2_1 h2
  obtain ⟨c4, _, rfl, ⟨k4, _⟩, h2⟩ := forall2_1 h2
  obtain ⟨c5, _, rfl, ⟨k5, _⟩, h2⟩ := forall2_1 h2
  obtain rfl := forall2_0 h2
  obtain ⟨a, rfl, ha⟩ := ty_u64 k1
  obtain ⟨b, rfl, hb⟩ := ty_u64 k2
  obtain ⟨o, rfl⟩ := ty_i64 k3
  obtain ⟨x, rfl, hx⟩ := ty_bytesB k4
  obtain ⟨y, rfl, hy⟩ := ty_bytesB k5
  exact ⟨⟨a, b, o, x, y⟩, rfl, ⟨ha, hb⟩, hx, hy⟩
theorem ty_cmd {B f : Nat} {cs : List AV} {a : AV} (e : a = mkE (agT Try.prog 25) cs) (h : tyC Try.prog B f 25 cs) : ∃ c : Cmd, a = c.av ∧ c.w64 ∧ c.key.length ≤ B ∧ c.value.length ≤ B := by
  obtain ⟨c, rfl, h1, h2, h3⟩ := ty_cmd0 h
  exact ⟨c, by rw [e, agT25]; rfl, h1, h2, h3⟩
theorem reach_le {n : Nat} (h : n ≤ reachBytes) : n ≤ 2 ^ 50 := by
  have r : reachBytes = 140737488351232 := rfl
  omega
end Go.Pm
namespace Go.Pm
open Go.Proofs
set_option linter.unusedVariables false
set_option linter.unusedSimpArgs false
def cmdsA (l : List Cmd) : AV := .lst (l.map Cmd.av)
@[simp] theorem goodL_cmd (l : List Cmd) : goodL (l.map Cmd.av) = true := goodL_map good_cmd l
@[simp] theorem good_cmds (l : List Cmd) : (cmdsA l).good = true := goodL_cmd l
theorem lenV_cmds (l : List Cmd) (H : List AObj) : lenV (cmdsA l) H = some (.int .i64 (l.length : Int)) := by unfold cmdsA; simp
theorem ixA_cmds {l : List Cmd} {k : IntKind} {i : Nat} {c : Cmd} {H : List AObj} (h : l[i]? = some c) : ixA 5 (cmdsA l) (.int k i) H = some (.ip c.cs) := by
  have := ixA_lst (z := 5) (es := l.map Cmd.av) (k := k) (i := (i : Int)) (e := c.av) (H := H) (by omega) (by simp [h]) rfl
  exact this
theorem ld_cs (c : Cmd) (H : List AObj) : loadA true 5 (.ip c.cs) H = some c.av := Eq.trans rfl rfl
theorem once_tail (c : Cmd) (hm : c.may = true) (hw : c.w64) (r : Int) (back : Nat) (hb : back < 2 ^ 64) (t0 : Tre) {u : Bt} {n : Nat} (h : BInv u n) (hn : n + 1 < 2^20) (hs : sessF u c.client = some (c.seq, r)) (E : List Nat) :
    ((loadA true 5 (.ptr 2 1 0 0) [AObj.row 5 [c.av], .row 5 [t0.av], .row 5 [u.tre.av]]).bind fun a70 =>
    callK (EV C) false n_command_Apply [a70, (bys (cmdB c))] [AObj.row 5 [c.av], .row 5 [t0.av], .row 5 [u.tre.av]] fun a71 H71 E71 =>
    (extA a71 0).bind fun a72 =>
    (extA a71 1).bind fun a73 =>
    (extA a71 2).bind fun a74 =>
    newK (.agg [(.int .i64 0), .nils, .nils, .nils, .nils]) H71 fun a75 H75 E75 =>
    stoK 5 a75 a72 H75 fun H76 E76 =>
    (binA .neq (Go.TypeDesc.interface #[("Error", 118)]) (cmpT Try.prog) true a74 .nili).bind fun a77 =>
    splitK a77
    (endB false false 0 (.bool false) H76 (E76 ++ (E75 ++ (E71 ++ E))))
    ((binA .neq (Go.TypeDesc.int Go.IntKind.i64) (cmpT Try.prog) false a73 (.int .i64 r)).bind fun a78 =>
    splitK a78
    (endB false false 0 (.bool false) H76 (E76 ++ (E75 ++ (E71 ++ E))))
    ((loadA true 5 a75 H76).bind fun a79 =>
    (loadA true 5 (.ptr 2 1 0 0) H76).bind fun a80 =>
    callK (EV C) false n_ref04_Same [a79, a80] H76 fun a81 H81 E81 =>
    (unA .not a81).bind fun a82 =>
    condK a82
    (endB false false 0 (.bool false) H81 (E81 ++ (E76 ++ (E75 ++ (E71 ++ E)))))
    ((binA .eql (Go.TypeDesc.int Go.IntKind.u64) (cmpT Try.prog) true (.int .u64 (back : Int)) (.int .u64 0)).bind fun a83 =>
    splitK a83
    (endB false false 0 (.bool true) H81 (E81 ++ (E76 ++ (E75 ++ (E71 ++ E)))))
    ((offA (.ptr 0 1 0 0) 1).bind fun a84 =>
    (loadA false 1 a84 H81).bind fun a85 =>
    (binA .gtr (Go.TypeDesc.int Go.IntKind.u64) (cmpT Try.prog) false (.int .u64 (back : Int)) a85).bind fun a86 =>
    condK a86
    (endB false false 0 (.bool true) H81 (E81 ++ (E76 ++ (E75 ++ (E71 ++ E)))))
    ((offA (.ptr 0 1 0 0) 1).bind fun a87 =>
    (loadA false 1 a87 H81).bind fun a88 =>
    (binA .sub (Go.TypeDesc.int Go.IntKind.u64) (cmpT Try.prog) false a88 (.int .u64 (back : Int))).bind fun a89 =>
    (offA (.ptr 0 1 0 0) 1).bind fun a90 =>
    stoK 1 a90 a89 H81 fun H91 E91 =>
    (loadA true 5 (.ptr 0 1 0 0) H91).bind fun a92 =>
    callK (EV C) false n_command_Write [a92] H91 fun a93 H93 E93 =>
    (extA a93 0).bind fun a94 =>
    (extA a93 1).bind fun a95 =>
    (loadA true 5 (.ptr 2 1 0 0) H93).bind fun a96 =>
    callK (EV C) false n_command_Apply [a96, a94] H93 fun a97 H97 E97 =>
    (extA a97 0).bind fun a98 =>
    (extA a97 1).bind fun a99 =>
    (extA a97 2).bind fun a100 =>
    newK (.agg [(.int .i64 0), .nils, .nils, .nils, .nils]) H97 fun a101 H101 E101 =>
    stoK 5 a101 a98 H101 fun H102 E102 =>
    splitK (.bool true)
    ((binA .eql (Go.TypeDesc.interface #[("Error", 118)]) (cmpT Try.prog) true a95 .nili).bind fun a103 =>
    splitK a103
    ((binA .eql (Go.TypeDesc.interface #[("Error", 118)]) (cmpT Try.prog) true a100 .nili).bind fun a104 =>
    splitK a104
    ((binA .eql (Go.TypeDesc.int Go.IntKind.i64) (cmpT Try.prog) true a99 (.int .i64 5)).bind fun a105 =>
    splitK a105
    ((loadA true 5 a101 H102).bind fun a106 =>
    (loadA true 5 (.ptr 2 1 0 0) H102).bind fun a107 =>
    callK (EV C) false n_ref04_Same [a106, a107] H102 fun a108 H108 E108 =>
    endB false false 0 a108 H108 (E108 ++ (E102 ++ (E101 ++ (E97 ++ (E93 ++ (E91 ++ (E81 ++ (E76 ++ (E75 ++ (E71 ++ E)))))))))))
    (endB false false 0 (.bool false) H102 (E102 ++ (E101 ++ (E97 ++ (E93 ++ (E91 ++ (E81 ++ (E76 ++ (E75 ++ (E71 ++ E)))))))))))
    (endB false false 0 (.bool false) H102 (E102 ++ (E101 ++ (E97 ++ (E93 ++ (E91 ++ (E81 ++ (E76 ++ (E75 ++ (E71 ++ E)))))))))))
    (endB false false 0 (.bool false) H102 (E102 ++ (E101 ++ (E97 ++ (E93 ++ (E91 ++ (E81 ++ (E76 ++ (E75 ++ (E71 ++ E)))))))))))
    (endB false false 0 (.bool false) H102 (E102 ++ (E101 ++ (E97 ++ (E93 ++ (E91 ++ (E81 ++ (E76 ++ (E75 ++ (E71 ++ E)))))))))))))))) = some (.bool true, [], []) := by
  have k := may_parts hm
  have n1 := numF_len c.client
  have n2 := numF_len c.seq
  have n3 := numF_len c.key.length
  have n4 := numF_len c.value.length
  have A := cApply_ok (cmdB c) (by simp [cmdB, bytesB]; omega) h hn
  have ea : applyF u (cmdB c) = (u, r) := by
    unfold applyF; rw [readF_cmd hm hw]; simp only [if_true]; exact apply_again hs
  rw [ea] at A
  have h0 : ∀ T, (AObj.row 5 [c.av] :: T)[0]? = some (.row 5 [c.av]) := fun T => rfl
  simp -implicitDefEqProofs only [ZS, ZT, Nat.reduceAdd]
  rw [callK_ok (by simp) A]
  simp -implicitDefEqProofs only [resA3, new_z, ZS, ZT, Nat.reduceAdd]
  rw [sto_t (b := 3) rfl rfl]
  simp -implicitDefEqProofs only [neqE0, eq_self, ld_tr3, ZS, ZT, Nat.reduceAdd]
  rw [callK_ok (by simp) (sameT_self _ (tre_ok h.sml))]
  simp -implicitDefEqProofs only [not_bool, cm_seq (h0 _), ZS, ZT, Nat.reduceAdd]
  by_cases b0 : back = 0
  · have b0' : (back : Int) = 0 := by omega
    rw [if_pos b0']; exact endB_good rfl
  · have b0' : ¬ (back : Int) = 0 := by omega
    rw [if_neg b0']
    by_cases b1 : c.seq < back
    · have b1' : (c.seq : Int) < (back : Int) := by omega
      rw [if_pos b1']; exact endB_good rfl
    · have b1' : ¬ (c.seq : Int) < (back : Int) := by omega
      have hw2 := hw.2
      have e1 : IntKind.u64.wrap ((c.seq : Int) - (back : Int)) = ((c.seq - back : Nat) : Int) := by
        rw [show (c.seq : Int) - (back : Int) = ((c.seq - back : Nat) : Int) by omega, wrap_u64 (by omega)]
      rw [if_neg b1']
      simp -implicitDefEqProofs only [cm_seq (h0 _), sub_int, e1, ZS, ZT, Nat.reduceAdd]
      rw [sto_f (l := 0) (cs := c.cs) rfl (by simp [Cmd.cs]) rfl rfl rfl]
      have hm' : (Cmd.mk c.client (c.seq - back) c.op c.key c.value).may = true := hm
      have hw' : (Cmd.mk c.client (c.seq - back) c.op c.key c.value).w64 := ⟨hw.1, by simp only; omega⟩
      have n2' := numF_len (c.seq - back)
      have W := Write_ok (Cmd.mk c.client (c.seq - back) c.op c.key c.value) hw' (by simp only; omega) (by simp only; omega)
      rw [show resW (Cmd.mk c.client (c.seq - back) c.op c.key c.value) = .tup [bys (cmdB (Cmd.mk c.client (c.seq - back) c.op c.key c.value)), .nili] from by unfold resW; rw [if_pos hm']] at W
      have A2 := cApply_ok (cmdB (Cmd.mk c.client (c.seq - back) c.op c.key c.value)) (by simp [cmdB, bytesB]; omega) h hn
      have ea2 : applyF u (cmdB (Cmd.mk c.client (c.seq - back) c.op c.key c.value)) = (u, 5) := by
        unfold applyF; rw [readF_cmd hm' hw']; simp only [if_true]
        exact apply_elder hs (by simp only; omega)
      rw [ea2] at A2
      have h0' : ∀ T, (AObj.row 5 [.agg (c.cs.set 1 (.int .u64 ((c.seq - back : Nat) : Int)))] :: T)[0]? = some (.row 5 [(Cmd.mk c.client (c.seq - back) c.op c.key c.value).av]) := fun T => rfl
      simp -implicitDefEqProofs only [cm_all (h0' _), ZS, ZT, Nat.reduceAdd]
      rw [callK_ok (by simp [goodL]) W]
      simp -implicitDefEqProofs only [ZS, ZT, Nat.reduceAdd]
      rw [callK_ok (by simp) A2]
      simp -implicitDefEqProofs only [resA3, new_z, ZS, ZT, Nat.reduceAdd]
      rw [sto_t (b := 4) rfl rfl]
      have ld4t : ∀ (t : Tre) (o0 o1 o2 o3 : AObj) (T : List AObj), loadA true 5 (.ptr 4 1 0 0) (o0 :: o1 :: o2 :: o3 :: .row 5 [t.av] :: T) = some t.av := fun t o0 o1 o2 o3 T => ld_box rfl
      simp -implicitDefEqProofs only [eql_nil1, eqlE0, ld4t, ZS, ZT, Nat.reduceAdd]
      rw [callK_ok (by simp) (sameT_self _ (tre_ok h.sml))]
      exact endB_good rfl
theorem once_J10 (c : Cmd) (hm : c.may = true) (hw : c.w64) (r : Int) (back : Nat) (hb : back < 2 ^ 64) (t0 : Tre) (l : List Cmd) (hl : l.length ≤ 2^50) (ho : ∀ o ∈ l, o.w64 ∧ o.key.length ≤ 2^50 ∧ o.value.length ≤ 2^50) : ∀ (m i : Nat) (u : Bt) (E : List Nat), i + m = 10 → BInv u (100 + 2 * i) → sessF u c.client = some (c.seq, r) →
    law12_CommandOnce_J10 0 (cmdsA l) (.int .u64 (back : Int)) (.ptr 0 1 0 0) (.bool true) (bys (cmdB c)) (.ptr 2 1 0 0) (.int .i64 r) (.int .i64 (i : Int)) [.row 5 [c.av], .row 5 [t0.av], .row 5 [u.tre.av]] E = some (.bool true, [], [])
  | 0, i, u, E, hi, hv, hs => by
    refine law12_CommandOnce_J10_of ?_
    have e10 : ¬ ((i : Int) < 10) := by omega
    have T := once_tail c hm hw r back hb t0 hv (by omega) hs E
    simp -implicitDefEqProofs only [lenV_cmds, lss_int, Option.bind_some, splitK_dec, e10, decide_false, condK_f]
    split
    · exact T
    · exact T
  | m + 1, i, u, E, hi, hv, hs => by
    refine law12_CommandOnce_J10_of ?_
    have e10 : ((i : Int) < 10) := by omega
    have T := once_tail c hm hw r back hb t0 hv (by omega) hs E
    by_cases hlt : i < l.length
    · have e1 : ((i : Int) < (l.length : Int)) := by omega
      have e3 : IntKind.i64.wrap ((i : Int) + 1) = ((i + 1 : Nat) : Int) := w64 (by omega) (by omega)
      have ob := ho _ (List.getElem_mem hlt)
      have h0 : ∀ T, (AObj.row 5 [c.av] :: T)[0]? = some (.row 5 [c.av]) := fun T => rfl
      have h3 : ∀ (o0 o1 o2 : AObj) T, (o0 :: o1 :: o2 :: AObj.row 5 [l[i].av] :: T)[3]? = some (.row 5 [l[i].av]) := fun _ _ _ T => rfl
      simp -implicitDefEqProofs only [lenV_cmds, e1, e10, ixA_cmds (List.getElem?_eq_getElem hlt), ld_cs, new_zc, ZS, ZT, Nat.reduceAdd]
      rw [sto_cmd' (b := 3) rfl rfl]
      simp -implicitDefEqProofs only [cm_client (h3 _ _ _ _), cm_client (h0 _), cm_all (h3 _ _ _ _), add_int, e3, ZS, ZT, Nat.reduceAdd]
      by_cases hc : l[i].client = c.client
      · have hc' : (l[i].client : Int) = (c.client : Int) := by omega
        rw [if_pos hc', condB_t (by simp [AV.bel, bel_good _ _ (good_cmds l), bel_good _ _ (good_bys _)])]
        exact once_J10 c hm hw r back hb t0 l hl ho m (i + 1) u E (by omega) (hv.mono (by omega)) hs
      · have hc' : ¬ (l[i].client : Int) = (c.client : Int) := by omega
        rw [if_neg hc', callK_ok (by simp [goodL]) (Write_ok _ ob.1 ob.2.1 ob.2.2)]
        unfold resW
        cases hmo : l[i].may with
        | false =>
          have en : ∀ ms cc, binA .neq (.interface ms) cc true (errA 1) .nili = some (.bool true) := fun ms cc => rfl
          simp -implicitDefEqProofs only [Bool.false_eq_true, en, add_int, e3, ZS, ZT, Nat.reduceAdd]
          rw [condB_t (by simp [AV.bel, bel_good _ _ (good_cmds l), bel_good _ _ (good_bys _)])]
          exact once_J10 c hm hw r back hb t0 l hl ho m (i + 1) u E (by omega) (hv.mono (by omega)) hs
        | true =>
          have k := may_parts hmo
          have n1 := numF_len l[i].client
          have n2 := numF_len l[i].seq
          have n3 := numF_len l[i].key.length
          have n4 := numF_len l[i].value.length
          have A := cApply_ok (cmdB l[i]) (by simp [cmdB, bytesB]; omega) hv (by omega)
          have ea : applyF u (cmdB l[i]) = applyC u l[i] := by
            unfold applyF; rw [readF_cmd hmo ob.1]; simp only [if_true]
          rw [ea] at A
          simp -implicitDefEqProofs only [neq_nil1, ZS, ZT, Nat.reduceAdd]
          rw [callK_ok (by simp) A]
          simp -implicitDefEqProofs only [resA3, new_z, ZS, ZT, Nat.reduceAdd]
          rw [sto_t (b := 4) rfl rfl]
          have ld4t : ∀ (t : Tre) (o0 o1 o2 o3 : AObj) (T : List AObj), loadA true 5 (.ptr 4 1 0 0) (o0 :: o1 :: o2 :: o3 :: .row 5 [t.av] :: T) = some t.av := fun t o0 o1 o2 o3 T => ld_box rfl
          simp -implicitDefEqProofs only [neqE0, ld4t, ZS, ZT, Nat.reduceAdd]
          rw [sto_t2 (b := 2) rfl]
          simp -implicitDefEqProofs only [add_int, e3, ZS, ZT, Nat.reduceAdd]
          rw [condB_t (by simp [AV.bel, bel_good _ _ (good_cmds l), bel_good _ _ (good_bys _)])]
          exact once_J10 c hm hw r back hb t0 l hl ho m (i + 1) (applyC u l[i]).1 E (by omega) ((hv.apply hmo).mono (by omega)) (by rw [sess_other hv hmo ob.1 hw.1 hc]; exact hs)
    · have e1 : ¬ ((i : Int) < (l.length : Int)) := by omega
      simp -implicitDefEqProofs only [lenV_cmds, lss_int, Option.bind_some, splitK_dec, e1, if_false]
      exact T
theorem CommandOnce_ok (p : List Pr) (hp : p.length ≤ 2^50) (c : Cmd) (hw : c.w64) (hk : c.key.length ≤ 2^50) (hv : c.value.length ≤ 2^50) (l : List Cmd) (hl : l.length ≤ 2^50) (ho : ∀ o ∈ l, o.w64 ∧ o.key.length ≤ 2^50 ∧ o.value.length ≤ 2^50) (back : Nat) (hb : back < 2 ^ 64) : EV C n_law12_CommandOnce [prsA p, c.av, cmdsA l, .int .u64 (back : Int)] [] = some (.bool true, [], []) := by
  refine law12_CommandOnce_of ?_
  have h0 : ∀ T, (AObj.row 5 [c.av] :: T)[0]? = some (.row 5 [c.av]) := fun T => rfl
  have gi := binv_grown p
  simp -implicitDefEqProofs only [new_cmd, ZS, ZT, Nat.reduceAdd]
  rw [callK_ok rfl up12_ok]
  simp -implicitDefEqProofs only [ZS, ZT, Nat.reduceAdd]
  rw [callK_ok (by simp) (Grown_ok p hp)]
  simp -implicitDefEqProofs only [new_z, ZS, ZT, Nat.reduceAdd]
  rw [sto_t (b := 1) rfl rfl]
  simp -implicitDefEqProofs only [cm_all (h0 _), ZS, ZT, Nat.reduceAdd]
  rw [callK_ok (by simp [goodL]) (Write_ok c hw hk hv)]
  unfold resW
  cases hm : c.may with
  | false =>
    have en : ∀ ms cc, binA .neq (.interface ms) cc true (errA 1) .nili = some (.bool true) := fun ms cc => rfl
    simp -implicitDefEqProofs only [Bool.false_eq_true, en, eqlE _ _ _ (show (1 : Int) ≠ 0 by decide), ZS, ZT, Nat.reduceAdd]
    exact endB_good rfl
  | true =>
    have k := may_parts hm
    have n1 := numF_len c.client
    have n2 := numF_len c.seq
    have n3 := numF_len c.key.length
    have n4 := numF_len c.value.length
    have A := cApply_ok (cmdB c) (by simp [cmdB, bytesB]; omega) gi (by omega)
    have ea : applyF (grownF p) (cmdB c) = applyC (grownF p) c := by
      unfold applyF; rw [readF_cmd hm hw]; simp only [if_true]
    rw [ea] at A
    have rr := apply_res (grownF p) c
    simp -implicitDefEqProofs only [neq_nil1, ZS, ZT, Nat.reduceAdd]
    rw [callK_ok (by simp) A]
    simp -implicitDefEqProofs only [resA3, new_z, ZS, ZT, Nat.reduceAdd]
    rw [sto_t (b := 2) rfl rfl]
    simp -implicitDefEqProofs only [neqE0, eqlE0, ZS, ZT, Nat.reduceAdd]
    by_cases r5 : (applyC (grownF p) c).2 = 5
    · simp -implicitDefEqProofs only [r5, eqlE0, ZS, ZT, Nat.reduceAdd]
      exact endB_good rfl
    · have r0 : ¬ (applyC (grownF p) c).2 = 0 := by omega
      simp -implicitDefEqProofs only [r5, r0, ZS, ZT, Nat.reduceAdd]
      exact once_J10 c hm hw _ back hb (grownF p).tre l hl ho 10 0 (applyC (grownF p) c).1 _ (by omega) ((gi.apply hm).mono (by omega)) (sess_same gi hm hw r5)
theorem ty_cmds {B f : Nat} {cs : List AV} {a : AV} (e : a = mkE (agT Try.prog 58) cs) (h : tyC Try.prog B f 58 cs) : ∃ l : List Cmd, a = cmdsA l ∧ l.length * Try.prog.bytesOf 25 ≤ B ∧ ∀ o ∈ l, o.w64 ∧ o.key.length ≤ B ∧ o.value.length ≤ B := by
  obtain ⟨l, rfl, hl⟩ := ty_slice (g := fun c : { c : Cmd // c.w64 ∧ c.key.length ≤ B ∧ c.value.length ≤ B } => c.1.av) Try.underlying58 h fun f cs h => by
    obtain ⟨c, rfl, h1⟩ := ty_cmd0 h
    exact ⟨⟨c, h1⟩, by rw [agT25]; rfl⟩
  refine ⟨l.map (·.1), ?_, by rw [List.length_map]; exact hl, fun o ho => ?_⟩
  · rw [e, agT_f Try.underlying58 rfl]
    simp [mkE, cmdsA]
  · obtain ⟨x, _, rfl⟩ := List.mem_map.1 ho
    exact x.2
theorem cmds_len {n : Nat} (h : n * Try.prog.bytesOf 25 ≤ reachBytes) : n ≤ 2^50 := by
  have e : Try.prog.bytesOf 25 = 72 := by kernel_rfl
  have r : reachBytes = 140737488351232 := rfl
  rw [e, r] at h
  omega
theorem commandOnce_law {a b c d : AV} {f f1 f2 f3 : Nat} {l l1 l2 l3 : List AV} (e : a = mkE (agT Try.prog 57) l) (h : tyC Try.prog reachBytes f 57 l) (e1 : b = mkE (agT Try.prog 25) l1) (h1 : tyC Try.prog reachBytes f1 25 l1) (e2 : c = mkE (agT Try.prog 58) l2) (h2 : tyC Try.prog reachBytes f2 58 l2) (e3 : d = mkE (agT Try.prog 22) l3) (h3 : tyC Try.prog reachBytes f3 22 l3) : EV C n_law12_CommandOnce [a, b, c, d] [] = some (.bool true, [], []) := by
  obtain ⟨p, rfl, hp⟩ := ty_prs e h
  obtain ⟨c, rfl, hw, hk, hv⟩ := ty_cmd e1 h1
  obtain ⟨l, rfl, hl, ho⟩ := ty_cmds e2 h2
  obtain ⟨n, rfl, hn⟩ := ty_u64' e3 h3
  exact CommandOnce_ok p (prs_len hp) c hw (reach_le hk) (reach_le hv) l (cmds_len hl) (fun o h => ⟨(ho o h).1, reach_le (ho o h).2.1, reach_le (ho o h).2.2⟩) n hn
end Go.Pm
