/- A part of the proof: what the functions of the program answer, as plain lists and numbers. -/
import Derived.Test.YtaoklfecdcakbaaDoorP10
import Derived.Test.YtaoklfecdcakbaaDoorP26
import Derived.Test.YtaoklfecdcakbaaDoorP32
namespace Go.Pm
open Go.Proofs
set_option linter.unusedVariables false
set_option linter.unusedSimpArgs false
theorem own_J3 (v : Nat) (hv : v < 2 ^ 64) : ∀ (m : Nat) (es : Bs) (i : Int), i = 8 * (m : Int) - 8 → m ≤ 8 → es.length + m ≤ 20 →
    command_own_J3 0 (.int .u64 (v : Int)) (.slc 0 0 es.length es.length) (.int .i64 i) [.row 1 (es.map u8)] [] = some (bys (es ++ beF m v), [], [])
  | 0, es, i, hi, hm, hl => by
    refine command_own_J3_of ?_
    have e1 : ¬ ((0 : Int) ≤ i) := by omega
    simp -implicitDefEqProofs only [e1, ZS, Nat.reduceAdd]
    refine (endB_frz (frz_row (z := 1) (l := 0) rfl (by simp) (goodL_u8 _)) (good_bys es)).trans ?_
    simp [beF, bys]
  | m + 1, es, i, hi, hm, hl => by
    refine command_own_J3_of ?_
    have hi2 : i = ((8 * m : Nat) : Int) := by omega
    subst hi2
    have e1 : ((0 : Int) ≤ ((8 * m : Nat) : Int)) := by omega
    have e2 : IntKind.i64.wrap (((8 * m : Nat) : Int) - 8) = 8 * (m : Int) - 8 := by rw [wrap64] <;> omega
    simp -implicitDefEqProofs only [e1, shr_nat _ _ _ .u64 .i64 v (8 * m) (by show 8 * m ≤ 64; omega), pow8, cvI_int, wrap_u8, ← u8_nat, lit1, ZS, Nat.reduceAdd]
    rw [appB (n := es.length) (es := es) (ys := [UInt8.ofNat (v / 256 ^ m)]) (elemsA_bys _ _) rfl rfl (by simp; omega)]
    simp -implicitDefEqProofs only [sub_int, e2, ZS, Nat.reduceAdd]
    have := own_J3 v hv m (es ++ [UInt8.ofNat (v / 256 ^ m)]) (8 * (m : Int) - 8) rfl (by omega) (by simp; omega)
    have hb : UInt8.ofNat (v / 256 ^ m % 256) = UInt8.ofNat (v / 256 ^ m) := by
      apply UInt8.toNat_inj.1; simp
    rw [beF, hb]
    simp only [List.length_append, List.length_singleton, List.append_assoc, List.singleton_append] at this
    exact this
theorem own_ok (v : Nat) (hv : v < 2 ^ 64) : EV C n_command_own [.int .u64 (v : Int)] [] = some (bys (ownK v), [], []) := by
  refine command_own_of ?_
  have r : ∀ (K : AV → List AObj → List Nat → Option R3), rawK 1 1 (.int .u8 0) [(0, (.int .u8 115))] [] K = K (.slc 0 0 1 1) [.row 1 (([115] : Bs).map u8)] [] := fun K => rfl
  dsimp only
  rw [r]
  exact own_J3 v hv 8 [115] 56 (by decide) (by decide) (by simp)
theorem key_ok (k : Bs) (h : k.length ≤ 2 ^ 40) : EV C n_command_Key [bys k] [] = some (bys (userK k), [], []) := by
  refine command_Key_of ?_
  have r : ∀ (K : AV → List AObj → List Nat → Option R3), rawK 1 1 (.int .u8 0) [(0, (.int .u8 117))] [] K = K (.slc 0 0 1 1) [.row 1 (([117] : Bs).map u8)] [] := fun K => rfl
  dsimp only
  rw [r, appB (n := 1) (es := [117]) (ys := k) (elemsA_bys _ _) rfl rfl (by omega)]
  exact endB_frz (frz_row (z := 1) (es := (117 :: k).map u8) rfl (by simp; omega) (goodL_u8 _)) (good_bys _)
theorem get_sml (k : Bs) : ∀ {t : Bt} {v : Bs}, t.sml → t.get k = some v → v.length ≤ 1024
  | .lf, v, _, h => by cases h
  | .nd l k' v' r, v, hs, h => by
    simp only [Bt.sml] at hs
    unfold Bt.get at h
    split at h
    · cases h; exact hs.2.2.2
    · split at h
      · exact get_sml k hs.1 h
      · exact get_sml k hs.2.1 h
def lastV (v : Bs) : Nat × Int × Bool :=
  let n := numP ⟨v, false⟩; let b := byteP n.2
  (n.1, (b.1.toNat : Int), decide (endRd b.2 = 0) && (decide (1 ≤ b.1.toNat) && decide (b.1.toNat ≤ 4)))
def lastFc (t : Bt) (client : Nat) : Nat × Int × Bool := match t.get (ownK client) with
  | none => (0, 0, false)
  | some v => lastV v
theorem last_parse (v : Bs) : parseS v = if (lastV v).2.2 = true then some ((lastV v).1, (lastV v).2.1) else none := by
  unfold parseS lastV
  cases h1 : rdN v with
  | none =>
    have b1 := byteP_bad (numP_none h1)
    simp [endRd, b1]
  | some p1 =>
    obtain ⟨sq, r1⟩ := p1
    simp only [numP_some h1]
    cases h2 : rdB r1 with
    | none => simp [byteP_none h2, endRd]
    | some p2 =>
      obtain ⟨x, r2⟩ := p2
      simp only [byteP_some h2]
      by_cases hr : r2 = []
      · subst hr
        by_cases c : 1 ≤ x.toNat ∧ x.toNat ≤ 4
        · simp [endRd, c]
        · rw [if_neg (by simpa using c), if_neg]
          simp [endRd]
          intro h; have := fun h2 => c ⟨h, h2⟩; omega
      · have hl : 0 < r2.length := List.length_pos_iff.2 hr
        simp [endRd, hr, hl]
theorem last_sess (t : Bt) (a : Nat) : sessF t a = if (lastFc t a).2.2 = true then some ((lastFc t a).1, (lastFc t a).2.1) else none := by
  unfold sessF lastFc
  cases t.get (ownK a) with
  | none => rfl
  | some v => exact last_parse v
def resL (x : Nat × Int × Bool) : AV := .tup [.int .u64 (x.1 : Int), .int .i64 x.2.1, .bool x.2.2]
@[simp] theorem good_resL (x : Nat × Int × Bool) : (resL x).good = true := rfl
theorem last_ok (a : Nat) (ha : a < 2 ^ 64) {t : Bt} {n : Nat} (h : BInv t n) (hn : n < 2^20) : EV C n_command_last [t.tre.av, .int .u64 (a : Int)] [] = some (resL (lastFc t a), [], []) := by
  refine command_last_of ?_
  have co : ∀ H, callD (EV C) n_command_own [.int .u64 (a : Int)] H = some (bys (ownK a)) := fun H => callD_ok rfl (own_ok a ha)
  have cg : ∀ H, callD (EV C) n_avl_Get [t.tre.av, bys (ownK a)] H = some (resG (t.get (ownK a)) 0) := fun H => callD_ok (by simp) (aGet_ok (ownK a) (by rw [ownK_len]; omega) h hn)
  simp -implicitDefEqProofs only [co, cg, resG, neqE0, not_bool, ZS, ZT, Nat.reduceAdd]
  unfold lastFc
  cases hg : t.get (ownK a) with
  | none =>
    simp -implicitDefEqProofs only [Option.isSome_none, ZS, ZT, Nat.reduceAdd]
    exact endB_good rfl
  | some v =>
    have hv := get_sml _ h.sml hg
    simp -implicitDefEqProofs only [Option.isSome_some, Option.getD_some, ZS, ZT, Nat.reduceAdd]
    rw [newRK v (by omega)]
    simp -implicitDefEqProofs only [ZS, ZT, Nat.reduceAdd]
    rw [cnumK (l := 1) (s := ⟨v, false⟩) rfl (by simp only; omega)]
    have l1 := numP_len ⟨v, false⟩
    simp only at l1
    simp -implicitDefEqProofs only [ZS, ZT, Nat.reduceAdd]
    rw [byteK (l := 1) rfl (by omega)]
    simp -implicitDefEqProofs only [cv_i64, ZS, ZT, Nat.reduceAdd]
    rw [cendK (l := 1) rfl]
    simp -implicitDefEqProofs only [eqlE0, ZS, ZT, Nat.reduceAdd]
    unfold lastV
    by_cases e : endRd (byteP (numP ⟨v, false⟩).2).2 = 0
    · rw [if_pos e]
      by_cases c1 : 1 ≤ (byteP (numP ⟨v, false⟩).2).1.toNat
      · have c1' : (1 : Int) ≤ ((byteP (numP ⟨v, false⟩).2).1.toNat : Int) := by omega
        rw [if_pos c1']
        refine (endB_good rfl).trans ?_
        have : decide (((byteP (numP ⟨v, false⟩).2).1.toNat : Int) ≤ 4) = decide ((byteP (numP ⟨v, false⟩).2).1.toNat ≤ 4) := by congr 1; exact propext ⟨fun h => by omega, fun h => by omega⟩
        simp [resL, e, c1, this]
      · have c1' : ¬ (1 : Int) ≤ ((byteP (numP ⟨v, false⟩).2).1.toNat : Int) := by omega
        rw [if_neg c1']
        refine (endB_good rfl).trans ?_
        simp [resL, c1]
    · rw [if_neg e]
      refine (endB_good rfl).trans ?_
      simp [resL, e]
end Go.Pm
namespace Go.Pm
open Go.Proofs
set_option linter.unusedVariables false
set_option linter.unusedSimpArgs false
def resA3 (t : Tre) (r e : Int) : AV := .tup [t.av, .int .i64 r, errA e]
@[simp] theorem good_resA3 (t : Tre) (r e : Int) : (resA3 t r e).good = true := by simp [resA3, AV.good, goodL]
theorem change_ok (c : Cmd) (hm : c.may = true) {t : Bt} {n : Nat} (h : BInv t n) (hn : n < 2^20) : EV C n_command_change [t.tre.av, c.av] [] = some (resA3 (opF t c).1.tre (opF t c).2 0, [], []) := by
  refine command_change_of ?_
  obtain ⟨k1, k2, k3⟩ := may_parts hm
  have hu := userK_len hm
  have h1 : ∀ o0 T, (o0 :: AObj.row 5 [c.av] :: T)[1]? = some (.row 5 [c.av]) := fun _ _ => rfl
  simp -implicitDefEqProofs only [new_z, new_cmd, cm_key (h1 _ _), ZS, ZT, Nat.reduceAdd]
  rw [callK_ok (by simp) (key_ok c.key (by omega))]
  simp -implicitDefEqProofs only [cm_op (h1 _ _), ZS, ZT, Nat.reduceAdd]
  unfold opF
  rcases k3 with o | ⟨o, ov⟩
  · have o2 : ¬ c.op = 2 := by omega
    rw [if_neg o2, if_pos o]
    rw [callK_ok (by simp) (aGet_ok (userK c.key) hu h hn)]
    simp -implicitDefEqProofs only [resG, neqE0, cm_value (h1 _ _), ZS, ZT, Nat.reduceAdd]
    rw [callK_ok (by simp) (aPutK_ok (userK c.key) c.value hu k2 h hn)]
    simp -implicitDefEqProofs only [new_z, ZS, ZT, Nat.reduceAdd]
    rw [sto_t (b := 3) rfl rfl]
    cases hg : (t.get (userK c.key)).isSome with
    | true =>
      simp -implicitDefEqProofs only [ld_tr3, ZS, ZT, Nat.reduceAdd]
      rw [sto_t (b := 2) rfl rfl]
      simp -implicitDefEqProofs only [ZS, ZT, Nat.reduceAdd]
      exact endB_good (v := resA3 _ 2 0) (good_resA3 _ _ _)
    | false =>
      simp -implicitDefEqProofs only [Bool.false_eq_true, ld_tr3, ZS, ZT, Nat.reduceAdd]
      rw [sto_t (b := 2) rfl rfl]
      simp -implicitDefEqProofs only [ZS, ZT, Nat.reduceAdd]
      exact endB_good (v := resA3 _ 1 0) (good_resA3 _ _ _)
  · have o1 : ¬ c.op = 1 := by omega
    rw [if_pos o, if_neg o1]
    rw [callK_ok (by simp) (aDel_ok (userK c.key) hu h hn)]
    simp -implicitDefEqProofs only [new_z, ZS, ZT, Nat.reduceAdd]
    rw [sto_t (b := 3) rfl rfl]
    unfold delF
    cases hg : (t.get (userK c.key)).isSome with
    | true =>
      simp -implicitDefEqProofs only [ld_tr3, ZS, ZT, Nat.reduceAdd]
      rw [sto_t (b := 2) rfl rfl]
      simp -implicitDefEqProofs only [ZS, ZT, Nat.reduceAdd]
      exact endB_good (v := resA3 _ 3 0) (good_resA3 _ _ _)
    | false =>
      simp -implicitDefEqProofs only [Bool.false_eq_true, ld_tr3, ZS, ZT, Nat.reduceAdd]
      rw [sto_t (b := 2) rfl rfl]
      simp -implicitDefEqProofs only [ZS, ZT, Nat.reduceAdd]
      exact endB_good (v := resA3 _ 4 0) (good_resA3 _ _ _)
theorem apply_S11 (c : Cmd) (hm : c.may = true) (hw : c.w64) {t : Bt} {n : Nat} (h : BInv t n) (hn : n + 1 < 2^20) (E : List Nat) :
    command_Apply_S11 0 (.ptr 0 1 0 0) (.ptr 1 1 0 0) (.ptr 2 1 0 0) [.row 5 [t.tre.av], .row 5 [zTre], .row 5 [c.av]] E = some (resA3 (doC t c).1.tre (doC t c).2 0, [], []) := by
  refine command_Apply_S11_of ?_
  have h2 : ∀ o0 o1 T, (o0 :: o1 :: AObj.row 5 [c.av] :: T)[2]? = some (.row 5 [c.av]) := fun _ _ _ => rfl
  have hr := op_res t c
  have ov := own_val c (opF t c).2
  have nl := numF_len c.seq
  rw [ld_box (b := 0) rfl, Option.bind_some, cm_all (h2 _ _ _), Option.bind_some, callK_ok (by simp) (change_ok c hm h (by omega))]
  simp -implicitDefEqProofs only [resA3, new_z, ZS, ZT, Nat.reduceAdd]
  rw [sto_t (b := 3) rfl rfl]
  have co : ∀ H, callD (EV C) n_command_own [.int .u64 (c.client : Int)] H = some (bys (ownK c.client)) := fun H => callD_ok rfl (own_ok c.client hw.1)
  have cu : cvI .u8 (.int .i64 (opF t c).2) = some (u8 (resB8 (opF t c).2)) := by
    have : (opF t c).2 = (((opF t c).2.toNat : Nat) : Int) := by omega
    rw [this, cvI_int, wrap_u8, ← u8_nat]; rfl
  have l1 : ∀ (x : UInt8) H, litD 1 1 (.int .u8 0) [(0, u8 x)] H = some (bys [x]) := fun x H => Eq.trans rfl rfl
  simp -implicitDefEqProofs only [neqE0, ld_tr3, cm_client (h2 _ _ _), cm_seq (h2 _ _ _), co, ZS, ZT, Nat.reduceAdd]
  rw [callK_raw (cNumberR_ok c.seq hw.2 _)]
  simp -implicitDefEqProofs only [ld_tr3, cu, l1, drawK_eq, drawK_T, eq_self, ZS, ZT, Nat.reduceAdd]
  rw [appB (n := (numF c.seq).length) (es := numF c.seq) (ys := [resB8 (opF t c).2]) (elemsA_bys _ _) rfl rfl (by simp; omega)]
  simp -implicitDefEqProofs only [ZS, ZT, Nat.reduceAdd]
  rw [frzK_ok (u := bys (numF c.seq ++ [resB8 (opF t c).2])) ((frz_row (z := 1) (es := (numF c.seq ++ [resB8 (opF t c).2]).map u8) rfl (by simp) (goodL_u8 _)).trans rfl)]
  have kl : killAll [AObj.row 5 [t.tre.av], .row 5 [zTre], .row 5 [c.av], .row 5 [(opF t c).1.tre.av], .row 1 ((numF c.seq ++ [resB8 (opF t c).2]).map u8)] (kills (.slc 4 0 ((numF c.seq).length + 1) ((numF c.seq).length + 1))) = [AObj.row 5 [t.tre.av], .row 5 [zTre], .row 5 [c.av], .row 5 [(opF t c).1.tre.av], .dead] := rfl
  rw [kl]
  have P : ∀ H, callD (EV C) n_avl_Put [(opF t c).1.tre.av, bys (ownK c.client), bys (numF c.seq ++ [resB8 (opF t c).2])] H = some (.tup [(doC t c).1.tre.av, .nili]) := fun H => callD_ok (by simp) (aPutK_ok (ownK c.client) _ (by rw [ownK_len]; omega) ov (h.op hm) (by omega))
  simp -implicitDefEqProofs only [ld_tr3, P, drawK_eq, drawK_T, eq_self, ZS, ZT, Nat.reduceAdd]
  rw [sto_t2 (b := 3) rfl]
  simp -implicitDefEqProofs only [neq_nil1, ld_tr3, ZS, ZT, Nat.reduceAdd]
  rw [sto_t (b := 1) rfl rfl]
  simp -implicitDefEqProofs only [ZS, ZT, Nat.reduceAdd]
  exact endB_good (v := resA3 (doC t c).1.tre (opF t c).2 0) (good_resA3 _ _ _)
theorem cApply_ok (b : Bs) (hb : b.length ≤ 2 ^ 46) {t : Bt} {n : Nat} (h : BInv t n) (hn : n + 1 < 2^20) : EV C n_command_Apply [t.tre.av, bys b] [] = some (resA3 (applyF t b).1.tre (applyF t b).2 0, [], []) := by
  refine command_Apply_of ?_
  simp -implicitDefEqProofs only [new_z, ZS, ZT, Nat.reduceAdd]
  rw [callK_ok (by simp) (avlIs_ok t.tre (tre_ok h.sml) (h.nodes (by omega))), h.is' (by omega)]
  simp -implicitDefEqProofs only [not_bool, ZS, ZT, Nat.reduceAdd]
  rw [callK_ok (by simp) (cRead_ok b hb)]
  simp -implicitDefEqProofs only [resCR, new_zc, ZS, ZT, Nat.reduceAdd]
  rw [sto_cmd' (b := 2) rfl rfl]
  simp -implicitDefEqProofs only [neqE0, ZS, ZT, Nat.reduceAdd]
  unfold applyF
  by_cases hr : (readF b).1 = 0
  · obtain ⟨hm, hw⟩ := readF_ok (b := b) (c := (readF b).2) (by rw [← hr])
    generalize hc : (readF b).2 = c at hm hw ⊢
    have h2 : ∀ o0 o1 T, (o0 :: o1 :: AObj.row 5 [c.av] :: T)[2]? = some (.row 5 [c.av]) := fun _ _ _ => rfl
    rw [if_pos hr]
    simp -implicitDefEqProofs only [hr, cm_client (h2 _ _ _), ZS, ZT, Nat.reduceAdd]
    rw [callK_ok (by simp [goodL, AV.good]) (last_ok c.client hw.1 h (by omega))]
    simp -implicitDefEqProofs only [resL, cm_seq (h2 _ _ _), ZS, ZT, Nat.reduceAdd]
    have S := apply_S11 c hm hw h hn
    unfold applyC
    rw [last_sess]
    cases hl : (lastFc t c.client).2.2 with
    | false =>
      simp -implicitDefEqProofs only [Bool.false_eq_true, ZS, ZT, Nat.reduceAdd]
      exact S _
    | true =>
      simp -implicitDefEqProofs only [ZS, ZT, Nat.reduceAdd]
      by_cases c1 : c.seq < (lastFc t c.client).1
      · have c1' : (c.seq : Int) < ((lastFc t c.client).1 : Int) := by omega
        rw [if_pos c1', if_pos c1, sto_t (b := 1) rfl rfl]
        simp -implicitDefEqProofs only [ZS, ZT, Nat.reduceAdd]
        exact endB_good (v := resA3 t.tre 5 0) (good_resA3 _ _ _)
      · have c1' : ¬ (c.seq : Int) < ((lastFc t c.client).1 : Int) := by omega
        rw [if_neg c1', if_neg c1]
        by_cases c2 : (lastFc t c.client).1 = c.seq
        · have c2' : ((lastFc t c.client).1 : Int) = (c.seq : Int) := by omega
          rw [if_pos c2', if_pos c2, sto_t (b := 1) rfl rfl]
          simp -implicitDefEqProofs only [ZS, ZT, Nat.reduceAdd]
          exact endB_good (v := resA3 t.tre (lastFc t c.client).2.1 0) (good_resA3 _ _ _)
        · have c2' : ¬ ((lastFc t c.client).1 : Int) = (c.seq : Int) := by omega
          rw [if_neg c2', if_neg c2]
          exact S _
  · rw [if_neg hr]
    simp -implicitDefEqProofs only [hr, ZS, ZT, Nat.reduceAdd]
    rw [sto_t (b := 1) rfl rfl]
    simp -implicitDefEqProofs only [ZS, ZT, Nat.reduceAdd]
    exact endB_good (v := resA3 t.tre 0 0) (good_resA3 _ _ _)
end Go.Pm
