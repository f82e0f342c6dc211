/- A part of the proof: what the functions of the program answer, as plain lists and numbers. -/
import Derived.Test.YtaoklfecdcakbaaP10
import Derived.Test.YtaoklfecdcakbaaP16
import Derived.Test.YtaoklfecdcakbaaP17
import Derived.Test.YtaoklfecdcakbaaP19
import Derived.Test.YtaoklfecdcakbaaP23
import Derived.Test.YtaoklfecdcakbaaP26
import Derived.Test.YtaoklfecdcakbaaP30
import Derived.Test.YtaoklfecdcakbaaP31
namespace Go.Pm
open Go.Proofs
set_option linter.unusedVariables false
set_option linter.unusedSimpArgs false
theorem own_J3 (v : Nat) (hv : v < 2 ^ 64) : ∀ (m : Nat) (es : Bs) (i : Int), i = 8 * (m : Int) - 8 → m ≤ 8 → es.length + m ≤ 20 →
    command_own_J3 0 (.int .u64 (v : Int)) (.slc 0 0 es.length es.length) (.int .i64 i) [.row 1 (es.map u8)] [] = some (bys (es ++ beF m v), [], [])
  | 0, es, i, hi, hm, hl => by
    refine command_own_J3_of ?_
    have e1 : ¬ ((0 : Int) ≤ i) := by omega
    simp -implicitDefEqProofs only [e1, ZS, Nat.reduceAdd]
    refine (endB_frz (frz_row (z := 1) (l := 0) rfl (by simp) (goodL_u8 _)) (good_bys es)).trans ?_
    simp [beF, bys]
  | m + 1, es, i, hi, hm, hl => by
    refine command_own_J3_of ?_
    have hi2 : i = ((8 * m : Nat) : Int) := by omega
    subst hi2
    have e1 : ((0 : Int) ≤ ((8 * m : Nat) : Int)) := by omega
    have e2 : IntKind.i64.wrap (((8 * m : Nat) : Int) - 8) = 8 * (m : Int) - 8 := by rw [wrap64] <;> omega
    simp -implicitDefEqProofs only [e1, shr_nat _ _ _ .u64 .i64 v (8 * m) (by show 8 * m ≤ 64; omega), pow8, cvI_int, wrap_u8, ← u8_nat, lit1, ZS, Nat.reduceAdd]
    rw [appB (n := es.length) (es := es) (ys := [UInt8.ofNat (v / 256 ^ m)]) (elemsA_bys _ _) rfl rfl (by simp; omega)]
    simp -implicitDefEqProofs only [sub_int, e2, ZS, Nat.reduceAdd]
    have := own_J3 v hv m (es ++ [UInt8.ofNat (v / 256 ^ m)]) (8 * (m : Int) - 8) rfl (by omega) (by simp; omega)
    have hb : UInt8.ofNat (v / 256 ^ m % 256) = UInt8.ofNat (v / 256 ^ m) := by
      apply UInt8.toNat_inj.1; simp
    rw [beF, hb]
    simp only [List.length_append, List.length_singleton, List.append_assoc, List.singleton_append] at this
    exact this
theorem own_ok (v : Nat) (hv : v < 2 ^ 64) : EV C n_command_own [.int .u64 (v : Int)] [] = some (bys (ownK v), [], []) := by
  refine command_own_of ?_
  have r : ∀ (K : AV → List AObj → List Nat → Option R3), rawK 1 1 (.int .u8 0) [(0, (.int .u8 115))] [] K = K (.slc 0 0 1 1) [.row 1 (([115] : Bs).map u8)] [] := fun K => rfl
  dsimp only
  rw [r]
  exact own_J3 v hv 8 [115] 56 (by decide) (by decide) (by simp)
theorem mk9 {β : Type} (K : AV → List AObj → List Nat → Option β) : mkK 1 1 (.int .u8 0) (.int .i64 9) (.int .i64 9) [] K = K (.slc 0 0 9 9) [.row 1 ((List.replicate 9 (0 : UInt8)).map u8)] [] := Eq.trans rfl rfl
theorem rown_J4 (v : Nat) (hv : v < 2 ^ 64) : ∀ (m k : Nat), m + k = 8 →
    ref12_Own_J4 0 (.int .u64 ((v / 256 ^ k : Nat) : Int)) (.slc 0 0 9 9) (.int .i64 (m : Int)) [.row 1 ((115 :: (List.replicate m (0 : UInt8) ++ beF k v)).map u8)] [] = some (bys (ownK v), [], [])
  | 0, k, h => by
    refine ref12_Own_J4_of ?_
    obtain rfl : k = 8 := by omega
    simp -implicitDefEqProofs only [Int.natCast_zero, Int.lt_irrefl, ZS, Nat.reduceAdd]
    refine (endB_frz (frz_row (z := 1) (l := 0) rfl (by simp [beF_len]) (goodL_u8 _)) (good_bys (115 :: (List.replicate 0 (0 : UInt8) ++ beF 8 v)))).trans ?_
    simp [ownK, bys]
  | m + 1, k, h => by
    refine ref12_Own_J4_of ?_
    have e0 : ((0 : Int) < ((m + 1 : Nat) : Int)) := by omega
    have e2 : IntKind.i64.wrap (((m + 1 : Nat) : Int) - 1) = ((m : Nat) : Int) := w64 (by omega) (by omega)
    have hlt : v / 256 ^ k < 2 ^ 64 := Nat.lt_of_le_of_lt (Nat.div_le_self _ _) hv
    have e3 : v / 256 ^ k / 256 = v / 256 ^ (k + 1) := by rw [Nat.div_div_eq_div_mul, Nat.pow_succ]
    have hl9 : ((115 :: (List.replicate (m + 1) (0 : UInt8) ++ beF k v)).map u8).length = 9 := by simp [beF_len]; omega
    have ix : ixA 1 (.slc 0 0 9 9) (.int .i64 ((m + 1 : Nat) : Int)) [.row 1 ((115 :: (List.replicate (m + 1) (0 : UInt8) ++ beF k v)).map u8)] = some (.ptr 0 9 (m + 1) 0) := ix_w rfl hl9 (by omega) _ rfl
    have hg : ((115 :: (List.replicate (m + 1) (0 : UInt8) ++ beF k v)).map u8)[m + 1]? = some (u8 0) := by
      rw [List.map_cons, List.getElem?_cons_succ, List.map_append, List.getElem?_append_left (by simp)]
      simp
    simp -implicitDefEqProofs only [e0, rem256, quo256 _ _ _ _ hlt, e3, cvI_int, wrap_u8, Nat.mod_mod, ← u8_nat, ix, ZS, Nat.reduceAdd]
    rw [sto_w (i := m + 1) rfl hl9 hg (by intro cs h; cases h) rfl rfl rfl]
    simp -implicitDefEqProofs only [quo256 _ _ _ _ hlt, e3, sub_int, e2, ZS, Nat.reduceAdd]
    have hs : ((115 :: (List.replicate (m + 1) (0 : UInt8) ++ beF k v)).map u8).set (m + 1) (u8 (UInt8.ofNat (v / 256 ^ k))) = (115 :: (List.replicate m (0 : UInt8) ++ beF (k + 1) v)).map u8 := by
      have hb : UInt8.ofNat (v / 256 ^ k % 256) = UInt8.ofNat (v / 256 ^ k) := by apply UInt8.toNat_inj.1; simp
      rw [List.map_cons, List.set_cons_succ, List.map_append, List.set_append_left _ _ (by simp), List.replicate_succ', List.map_append, List.set_append_right _ _ (by simp)]
      simp [beF, hb]
    rw [hs]
    exact rown_J4 v hv m (k + 1) (by omega)
theorem rOwn_ok (v : Nat) (hv : v < 2 ^ 64) : EV C n_ref12_Own [.int .u64 (v : Int)] [] = some (bys (ownK v), [], []) := by
  refine ref12_Own_of ?_
  dsimp only
  rw [mk9]
  have ix : ixA 1 (.slc 0 0 9 9) (.int .i64 0) [.row 1 ((List.replicate 9 (0 : UInt8)).map u8)] = some (.ptr 0 9 0 0) := ix_w (n := 9) (i := 0) (es := (List.replicate 9 (0 : UInt8)).map u8) rfl rfl (by decide) _ rfl
  simp -implicitDefEqProofs only [ix, ZS, Nat.reduceAdd]
  have hs : stoK 1 (.ptr 0 9 0 0) (.int .u8 115) [.row 1 ((List.replicate 9 (0 : UInt8)).map u8)] (fun H3 E3 => ref12_Own_J4 0 (.int .u64 (v : Int)) (.slc 0 0 9 9) (.int .i64 8) H3 (E3 ++ ([] ++ []))) = ref12_Own_J4 0 (.int .u64 (v : Int)) (.slc 0 0 9 9) (.int .i64 8) [.row 1 ((115 :: (List.replicate 8 (0 : UInt8) ++ beF 0 v)).map u8)] [] := by
    rw [sto_w (i := 0) (n := 9) (e := u8 0) rfl rfl rfl (by intro cs h; cases h) rfl rfl rfl]
    rfl
  refine Eq.trans ?_ ((rown_J4 v hv 8 0 (by decide)))
  rw [Nat.pow_zero, Nat.div_one]
  exact hs
theorem key_ok (k : Bs) (h : k.length ≤ 2 ^ 40) : EV C n_command_Key [bys k] [] = some (bys (userK k), [], []) := by
  refine command_Key_of ?_
  have r : ∀ (K : AV → List AObj → List Nat → Option R3), rawK 1 1 (.int .u8 0) [(0, (.int .u8 117))] [] K = K (.slc 0 0 1 1) [.row 1 (([117] : Bs).map u8)] [] := fun K => rfl
  dsimp only
  rw [r, appB (n := 1) (es := [117]) (ys := k) (elemsA_bys _ _) rfl rfl (by omega)]
  exact endB_frz (frz_row (z := 1) (es := (117 :: k).map u8) rfl (by simp; omega) (goodL_u8 _)) (good_bys _)
theorem rkey_ok (k : Bs) (h : k.length ≤ 2 ^ 40) : EV C n_ref12_Key [bys k] [] = some (bys (userK k), [], []) := by
  refine ref12_Key_of ?_
  have r : ∀ (K : AV → List AObj → List Nat → Option R3), rawK 1 1 (.int .u8 0) [(0, (.int .u8 117))] [] K = K (.slc 0 0 1 1) [.row 1 (([117] : Bs).map u8)] [] := fun K => rfl
  dsimp only
  rw [r, appB (n := 1) (es := [117]) (ys := k) (elemsA_bys _ _) rfl rfl (by omega)]
  exact endB_frz (frz_row (z := 1) (es := (117 :: k).map u8) rfl (by simp; omega) (goodL_u8 _)) (good_bys _)
theorem get_sml (k : Bs) : ∀ {t : Bt} {v : Bs}, t.sml → t.get k = some v → v.length ≤ 1024
  | .lf, v, _, h => by cases h
  | .nd l k' v' r, v, hs, h => by
    simp only [Bt.sml] at hs
    unfold Bt.get at h
    split at h
    · cases h; exact hs.2.2.2
    · split at h
      · exact get_sml k hs.1 h
      · exact get_sml k hs.2.1 h
def lastV (v : Bs) : Nat × Int × Bool :=
  let n := numP ⟨v, false⟩; let b := byteP n.2
  (n.1, (b.1.toNat : Int), decide (endRd b.2 = 0) && (decide (1 ≤ b.1.toNat) && decide (b.1.toNat ≤ 4)))
def lastF (t : Bt) (client : Nat) : Nat × Int × Bool := match t.get (ownK client) with
  | none => (0, 0, false)
  | some v => lastV v
theorem last_parse (v : Bs) : parseS v = if (lastV v).2.2 = true then some ((lastV v).1, (lastV v).2.1) else none := by
  unfold parseS lastV
  cases h1 : rdN v with
  | none =>
    have b1 := byteP_bad (numP_none h1)
    simp [endRd, b1]
  | some p1 =>
    obtain ⟨sq, r1⟩ := p1
    simp only [numP_some h1]
    cases h2 : rdB r1 with
    | none => simp [byteP_none h2, endRd]
    | some p2 =>
      obtain ⟨x, r2⟩ := p2
      simp only [byteP_some h2]
      by_cases hr : r2 = []
      · subst hr
        by_cases c : 1 ≤ x.toNat ∧ x.toNat ≤ 4
        · simp [endRd, c]
        · rw [if_neg (by simpa using c), if_neg]
          simp [endRd]
          intro h; have := fun h2 => c ⟨h, h2⟩; omega
      · have hl : 0 < r2.length := List.length_pos_iff.2 hr
        simp [endRd, hr, hl]
theorem last_sess (t : Bt) (a : Nat) : sessF t a = if (lastF t a).2.2 = true then some ((lastF t a).1, (lastF t a).2.1) else none := by
  unfold sessF lastF
  cases t.get (ownK a) with
  | none => rfl
  | some v => exact last_parse v
def resL (x : Nat × Int × Bool) : AV := .tup [.int .u64 (x.1 : Int), .int .i64 x.2.1, .bool x.2.2]
@[simp] theorem good_resL (x : Nat × Int × Bool) : (resL x).good = true := rfl
theorem last_ok (a : Nat) (ha : a < 2 ^ 64) {t : Bt} {n : Nat} (h : BInv t n) (hn : n < 2^20) : EV C n_command_last [t.tre.av, .int .u64 (a : Int)] [] = some (resL (lastF t a), [], []) := by
  refine command_last_of ?_
  have co : ∀ H, callD (EV C) n_command_own [.int .u64 (a : Int)] H = some (bys (ownK a)) := fun H => callD_ok rfl (own_ok a ha)
  have cg : ∀ H, callD (EV C) n_avl_Get [t.tre.av, bys (ownK a)] H = some (resG (t.get (ownK a)) 0) := fun H => callD_ok (by simp) (aGet_ok (ownK a) (by rw [ownK_len]; omega) h hn)
  simp -implicitDefEqProofs only [co, cg, resG, neqE0, not_bool, ZS, ZT, Nat.reduceAdd]
  unfold lastF
  cases hg : t.get (ownK a) with
  | none =>
    simp -implicitDefEqProofs only [Option.isSome_none, ZS, ZT, Nat.reduceAdd]
    exact endB_good rfl
  | some v =>
    have hv := get_sml _ h.sml hg
    simp -implicitDefEqProofs only [Option.isSome_some, Option.getD_some, ZS, ZT, Nat.reduceAdd]
    rw [newRK v (by omega)]
    simp -implicitDefEqProofs only [ZS, ZT, Nat.reduceAdd]
    rw [cnumK (l := 1) (s := ⟨v, false⟩) rfl (by simp only; omega)]
    have l1 := numP_len ⟨v, false⟩
    simp only at l1
    simp -implicitDefEqProofs only [ZS, ZT, Nat.reduceAdd]
    rw [byteK (l := 1) rfl (by omega)]
    simp -implicitDefEqProofs only [cv_i64, ZS, ZT, Nat.reduceAdd]
    rw [cendK (l := 1) rfl]
    simp -implicitDefEqProofs only [eqlE0, ZS, ZT, Nat.reduceAdd]
    unfold lastV
    by_cases e : endRd (byteP (numP ⟨v, false⟩).2).2 = 0
    · rw [if_pos e]
      by_cases c1 : 1 ≤ (byteP (numP ⟨v, false⟩).2).1.toNat
      · have c1' : (1 : Int) ≤ ((byteP (numP ⟨v, false⟩).2).1.toNat : Int) := by omega
        rw [if_pos c1']
        refine (endB_good rfl).trans ?_
        have : decide (((byteP (numP ⟨v, false⟩).2).1.toNat : Int) ≤ 4) = decide ((byteP (numP ⟨v, false⟩).2).1.toNat ≤ 4) := by congr 1; exact propext ⟨fun h => by omega, fun h => by omega⟩
        simp [resL, e, c1, this]
      · have c1' : ¬ (1 : Int) ≤ ((byteP (numP ⟨v, false⟩).2).1.toNat : Int) := by omega
        rw [if_neg c1']
        refine (endB_good rfl).trans ?_
        simp [resL, c1]
    · rw [if_neg e]
      refine (endB_good rfl).trans ?_
      simp [resL, e]
end Go.Pm
namespace Go.Pm
open Go.Proofs
set_option linter.unusedVariables false
set_option linter.unusedSimpArgs false
def resA3 (t : Tre) (r e : Int) : AV := .tup [t.av, .int .i64 r, errA e]
@[simp] theorem good_resA3 (t : Tre) (r e : Int) : (resA3 t r e).good = true := by simp [resA3, AV.good, goodL]
theorem change_ok (c : Cmd) (hm : c.may = true) {t : Bt} {n : Nat} (h : BInv t n) (hn : n < 2^20) : EV C n_command_change [t.tre.av, c.av] [] = some (resA3 (opF t c).1.tre (opF t c).2 0, [], []) := by
  refine command_change_of ?_
  obtain ⟨k1, k2, k3⟩ := may_parts hm
  have hu := userK_len hm
  have h1 : ∀ o0 T, (o0 :: AObj.row 5 [c.av] :: T)[1]? = some (.row 5 [c.av]) := fun _ _ => rfl
  simp -implicitDefEqProofs only [new_z, new_cmd, cm_key (h1 _ _), ZS, ZT, Nat.reduceAdd]
  rw [callK_ok (by simp) (key_ok c.key (by omega))]
  simp -implicitDefEqProofs only [cm_op (h1 _ _), ZS, ZT, Nat.reduceAdd]
  unfold opF
  rcases k3 with o | ⟨o, ov⟩
  · have o2 : ¬ c.op = 2 := by omega
    rw [if_neg o2, if_pos o]
    rw [callK_ok (by simp) (aGet_ok (userK c.key) hu h hn)]
    simp -implicitDefEqProofs only [resG, neqE0, cm_value (h1 _ _), ZS, ZT, Nat.reduceAdd]
    rw [callK_ok (by simp) (aPutK_ok (userK c.key) c.value hu k2 h hn)]
    simp -implicitDefEqProofs only [new_z, ZS, ZT, Nat.reduceAdd]
    rw [sto_t (b := 3) rfl rfl]
    cases hg : (t.get (userK c.key)).isSome with
    | true =>
      simp -implicitDefEqProofs only [ld_tr3, ZS, ZT, Nat.reduceAdd]
      rw [sto_t (b := 2) rfl rfl]
      simp -implicitDefEqProofs only [ZS, ZT, Nat.reduceAdd]
      exact endB_good (v := resA3 _ 2 0) (good_resA3 _ _ _)
    | false =>
      simp -implicitDefEqProofs only [Bool.false_eq_true, ld_tr3, ZS, ZT, Nat.reduceAdd]
      rw [sto_t (b := 2) rfl rfl]
      simp -implicitDefEqProofs only [ZS, ZT, Nat.reduceAdd]
      exact endB_good (v := resA3 _ 1 0) (good_resA3 _ _ _)
  · have o1 : ¬ c.op = 1 := by omega
    rw [if_pos o, if_neg o1]
    rw [callK_ok (by simp) (aDel_ok (userK c.key) hu h hn)]
    simp -implicitDefEqProofs only [new_z, ZS, ZT, Nat.reduceAdd]
    rw [sto_t (b := 3) rfl rfl]
    unfold delF
    cases hg : (t.get (userK c.key)).isSome with
    | true =>
      simp -implicitDefEqProofs only [ld_tr3, ZS, ZT, Nat.reduceAdd]
      rw [sto_t (b := 2) rfl rfl]
      simp -implicitDefEqProofs only [ZS, ZT, Nat.reduceAdd]
      exact endB_good (v := resA3 _ 3 0) (good_resA3 _ _ _)
    | false =>
      simp -implicitDefEqProofs only [Bool.false_eq_true, ld_tr3, ZS, ZT, Nat.reduceAdd]
      rw [sto_t (b := 2) rfl rfl]
      simp -implicitDefEqProofs only [ZS, ZT, Nat.reduceAdd]
      exact endB_good (v := resA3 _ 4 0) (good_resA3 _ _ _)
theorem apply_S11 (c : Cmd) (hm : c.may = true) (hw : c.w64) {t : Bt} {n : Nat} (h : BInv t n) (hn : n + 1 < 2^20) (E : List Nat) :
    command_Apply_S11 0 (.ptr 0 1 0 0) (.ptr 1 1 0 0) (.ptr 2 1 0 0) [.row 5 [t.tre.av], .row 5 [zTre], .row 5 [c.av]] E = some (resA3 (doC t c).1.tre (doC t c).2 0, [], []) := by
  refine command_Apply_S11_of ?_
  have h2 : ∀ o0 o1 T, (o0 :: o1 :: AObj.row 5 [c.av] :: T)[2]? = some (.row 5 [c.av]) := fun _ _ _ => rfl
  have hr := op_res t c
  have ov := own_val c (opF t c).2
  have nl := numF_len c.seq
  rw [ld_box (b := 0) rfl, Option.bind_some, cm_all (h2 _ _ _), Option.bind_some, callK_ok (by simp) (change_ok c hm h (by omega))]
  simp -implicitDefEqProofs only [resA3, new_z, ZS, ZT, Nat.reduceAdd]
  rw [sto_t (b := 3) rfl rfl]
  have co : ∀ H, callD (EV C) n_command_own [.int .u64 (c.client : Int)] H = some (bys (ownK c.client)) := fun H => callD_ok rfl (own_ok c.client hw.1)
  have cu : cvI .u8 (.int .i64 (opF t c).2) = some (u8 (resB8 (opF t c).2)) := by
    have : (opF t c).2 = (((opF t c).2.toNat : Nat) : Int) := by omega
    rw [this, cvI_int, wrap_u8, ← u8_nat]; rfl
  have l1 : ∀ (x : UInt8) H, litD 1 1 (.int .u8 0) [(0, u8 x)] H = some (bys [x]) := fun x H => Eq.trans rfl rfl
  simp -implicitDefEqProofs only [neqE0, ld_tr3, cm_client (h2 _ _ _), cm_seq (h2 _ _ _), co, ZS, ZT, Nat.reduceAdd]
  rw [callK_raw (cNumberR_ok c.seq hw.2 _)]
  simp -implicitDefEqProofs only [ld_tr3, cu, l1, drawK_eq, drawK_T, eq_self, ZS, ZT, Nat.reduceAdd]
  rw [appB (n := (numF c.seq).length) (es := numF c.seq) (ys := [resB8 (opF t c).2]) (elemsA_bys _ _) rfl rfl (by simp; omega)]
  simp -implicitDefEqProofs only [ZS, ZT, Nat.reduceAdd]
  rw [frzK_ok (u := bys (numF c.seq ++ [resB8 (opF t c).2])) ((frz_row (z := 1) (es := (numF c.seq ++ [resB8 (opF t c).2]).map u8) rfl (by simp) (goodL_u8 _)).trans rfl)]
  have kl : killAll [AObj.row 5 [t.tre.av], .row 5 [zTre], .row 5 [c.av], .row 5 [(opF t c).1.tre.av], .row 1 ((numF c.seq ++ [resB8 (opF t c).2]).map u8)] (kills (.slc 4 0 ((numF c.seq).length + 1) ((numF c.seq).length + 1))) = [AObj.row 5 [t.tre.av], .row 5 [zTre], .row 5 [c.av], .row 5 [(opF t c).1.tre.av], .dead] := rfl
  rw [kl]
  have P : ∀ H, callD (EV C) n_avl_Put [(opF t c).1.tre.av, bys (ownK c.client), bys (numF c.seq ++ [resB8 (opF t c).2])] H = some (.tup [(doC t c).1.tre.av, .nili]) := fun H => callD_ok (by simp) (aPutK_ok (ownK c.client) _ (by rw [ownK_len]; omega) ov (h.op hm) (by omega))
  simp -implicitDefEqProofs only [ld_tr3, P, drawK_eq, drawK_T, eq_self, ZS, ZT, Nat.reduceAdd]
  rw [sto_t2 (b := 3) rfl]
  simp -implicitDefEqProofs only [neq_nil1, ld_tr3, ZS, ZT, Nat.reduceAdd]
  rw [sto_t (b := 1) rfl rfl]
  simp -implicitDefEqProofs only [ZS, ZT, Nat.reduceAdd]
  exact endB_good (v := resA3 (doC t c).1.tre (opF t c).2 0) (good_resA3 _ _ _)
theorem cApply_ok (b : Bs) (hb : b.length ≤ 2 ^ 46) {t : Bt} {n : Nat} (h : BInv t n) (hn : n + 1 < 2^20) : EV C n_command_Apply [t.tre.av, bys b] [] = some (resA3 (applyF t b).1.tre (applyF t b).2 0, [], []) := by
  refine command_Apply_of ?_
  simp -implicitDefEqProofs only [new_z, ZS, ZT, Nat.reduceAdd]
  rw [callK_ok (by simp) (avlIs_ok t.tre (tre_ok h.sml) (h.nodes (by omega))), h.is' (by omega)]
  simp -implicitDefEqProofs only [not_bool, ZS, ZT, Nat.reduceAdd]
  rw [callK_ok (by simp) (cRead_ok b hb)]
  simp -implicitDefEqProofs only [resCR, new_zc, ZS, ZT, Nat.reduceAdd]
  rw [sto_cmd' (b := 2) rfl rfl]
  simp -implicitDefEqProofs only [neqE0, ZS, ZT, Nat.reduceAdd]
  unfold applyF
  by_cases hr : (readF b).1 = 0
  · obtain ⟨hm, hw⟩ := readF_ok (b := b) (c := (readF b).2) (by rw [← hr])
    generalize hc : (readF b).2 = c at hm hw ⊢
    have h2 : ∀ o0 o1 T, (o0 :: o1 :: AObj.row 5 [c.av] :: T)[2]? = some (.row 5 [c.av]) := fun _ _ _ => rfl
    rw [if_pos hr]
    simp -implicitDefEqProofs only [hr, cm_client (h2 _ _ _), ZS, ZT, Nat.reduceAdd]
    rw [callK_ok (by simp [goodL, AV.good]) (last_ok c.client hw.1 h (by omega))]
    simp -implicitDefEqProofs only [resL, cm_seq (h2 _ _ _), ZS, ZT, Nat.reduceAdd]
    have S := apply_S11 c hm hw h hn
    unfold applyC
    rw [last_sess]
    cases hl : (lastF t c.client).2.2 with
    | false =>
      simp -implicitDefEqProofs only [Bool.false_eq_true, ZS, ZT, Nat.reduceAdd]
      exact S _
    | true =>
      simp -implicitDefEqProofs only [ZS, ZT, Nat.reduceAdd]
      by_cases c1 : c.seq < (lastF t c.client).1
      · have c1' : (c.seq : Int) < ((lastF t c.client).1 : Int) := by omega
        rw [if_pos c1', if_pos c1, sto_t (b := 1) rfl rfl]
        simp -implicitDefEqProofs only [ZS, ZT, Nat.reduceAdd]
        exact endB_good (v := resA3 t.tre 5 0) (good_resA3 _ _ _)
      · have c1' : ¬ (c.seq : Int) < ((lastF t c.client).1 : Int) := by omega
        rw [if_neg c1', if_neg c1]
        by_cases c2 : (lastF t c.client).1 = c.seq
        · have c2' : ((lastF t c.client).1 : Int) = (c.seq : Int) := by omega
          rw [if_pos c2', if_pos c2, sto_t (b := 1) rfl rfl]
          simp -implicitDefEqProofs only [ZS, ZT, Nat.reduceAdd]
          exact endB_good (v := resA3 t.tre (lastF t c.client).2.1 0) (good_resA3 _ _ _)
        · have c2' : ¬ ((lastF t c.client).1 : Int) = (c.seq : Int) := by omega
          rw [if_neg c2', if_neg c2]
          exact S _
  · rw [if_neg hr]
    simp -implicitDefEqProofs only [hr, ZS, ZT, Nat.reduceAdd]
    rw [sto_t (b := 1) rfl rfl]
    simp -implicitDefEqProofs only [ZS, ZT, Nat.reduceAdd]
    exact endB_good (v := resA3 t.tre 0 0) (good_resA3 _ _ _)
def lookF (t : Bt) (key : Bs) : Option Bs := if 64 < key.length then none else t.get (userK key)
theorem look_ok (key : Bs) (hk : key.length ≤ 2 ^ 50) {t : Bt} {n : Nat} (h : BInv t n) (hn : n < 2^20) : EV C n_command_Look [t.tre.av, bys key] [] = some (resG (lookF t key) 0, [], []) := by
  refine command_Look_of ?_
  simp -implicitDefEqProofs only [ZS, ZT, Nat.reduceAdd]
  unfold lookF
  by_cases c : 64 < key.length
  · have c' : (64 : Int) < (key.length : Int) := by omega
    rw [if_pos c', if_pos c, callK_ok (by simp) (avlIs_ok t.tre (tre_ok h.sml) (h.nodes hn)), h.is' hn]
    simp -implicitDefEqProofs only [not_bool, ZS, ZT, Nat.reduceAdd]
    exact endB_frz rfl rfl
  · have c' : ¬ (64 : Int) < (key.length : Int) := by omega
    rw [if_neg c', if_neg c]
    have ck : ∀ H, callD (EV C) n_command_Key [bys key] H = some (bys (userK key)) := fun H => callD_ok (by simp) (key_ok key (by omega))
    have cg : ∀ H, callD (EV C) n_avl_Get [t.tre.av, bys (userK key)] H = some (resG (t.get (userK key)) 0) := fun H => callD_ok (by simp) (aGet_ok (userK key) (by simp [userK]; omega) h hn)
    simp -implicitDefEqProofs only [ck, cg, resG, ZS, ZT, Nat.reduceAdd]
    exact endB_good (v := resG (t.get (userK key)) 0) (good_resG _ _)
end Go.Pm
namespace Go.Pm
open Go.Proofs
set_option linter.unusedVariables false
set_option linter.unusedSimpArgs false
def resG2 (o : Option Bs) : AV := .tup [bys (o.getD []), .bool o.isSome]
@[simp] theorem good_resG2 (o : Option Bs) : (resG2 o).good = true := by simp [resG2, AV.good, goodL]
theorem dr_tr2 (t : Tre) : List.drop 2 t.av.cells = [bys t.value, bys t.digest, kidsA t.kids] := by rw [cells_tr]; rfl
theorem rget_J3 (k : Bs) (o0 : AObj) (l : List Tre) (hl : l.length ≤ 2^40) : ∀ (m i : Nat) (E : List Nat), i + m = l.length →
    ref05_Get_J3 0 (bys k) (kidsA l) (.int .i64 (i : Int)) [o0] E = some (resG2 (findP k ((l.drop i).map pairT)), [], [])
  | 0, i, E, h => by
    refine ref05_Get_J3_of ?_
    have e1 : ¬ ((i : Int) < (l.length : Int)) := by omega
    have e2 : l.drop i = [] := List.drop_eq_nil_of_le (by omega)
    simp -implicitDefEqProofs only [e1, e2, List.map_nil, ZS, ZT, Nat.reduceAdd]
    exact endB_frz rfl rfl
  | m + 1, i, E, h => by
    refine ref05_Get_J3_of ?_
    have hlt : i < l.length := by omega
    have e1 : ((i : Int) < (l.length : Int)) := by omega
    have e2 : l.drop i = l[i] :: l.drop (i + 1) := List.drop_eq_getElem_cons hlt
    have e3 : IntKind.i64.wrap ((i : Int) + 1) = ((i + 1 : Nat) : Int) := w64 (by omega) (by omega)
    simp -implicitDefEqProofs only [e1, ixA_kids (List.getElem?_eq_getElem hlt), dr_tr1, dr_tr2, add_int, e3, ZS, ZT, Nat.reduceAdd]
    rw [e2, List.map_cons]
    by_cases c : l[i].key = k
    · rw [if_pos c]
      have : findP k (pairT l[i] :: (l.drop (i + 1)).map pairT) = some l[i].value := by simp [findP, pairT, c]
      rw [this]
      exact endB_good (v := resG2 (some l[i].value)) (good_resG2 _)
    · rw [if_neg c]
      have : findP k (pairT l[i] :: (l.drop (i + 1)).map pairT) = findP k ((l.drop (i + 1)).map pairT) := by simp [findP, pairT, c]
      rw [this]
      exact rget_J3 k o0 l hl m (i + 1) E (by omega)
theorem rGet_ok (k : Bs) {t : Bt} {n : Nat} (h : BInv t n) (hn : n < 2^20) : EV C n_ref05_Get [t.tre.av, bys k] [] = some (resG2 (t.get k), [], []) := by
  refine ref05_Get_of ?_
  simp -implicitDefEqProofs only [ZS, ZT, Nat.reduceAdd]
  rw [callK_ok (by simp) (rList_ok t.tre (tre_ok h.sml) (tre_formed h.sml) (h.nodes hn))]
  refine (rget_J3 k _ (nodesF t.tre) (h.nodes hn) (nodesF t.tre).length 0 _ (by omega)).trans ?_
  rw [List.drop_zero, (tre_nodes t).1, get_find k h.srt]
theorem head_min {t : Bt} (h : t ≠ .lf) : ∃ x xs, nodesF t.tre = x :: xs ∧ x.key = (t.min [] []).1 ∧ x.value = (t.min [] []).2 := by
  have a := (tre_nodes t).1
  have b := min_cons t [] []
  cases hx : nodesF t.tre with
  | nil =>
    exfalso
    rw [hx] at a
    cases t with
    | lf => exact h rfl
    | nd l k v r => simp [Bt.toL] at a
  | cons x xs =>
    rw [hx, List.map_cons] at a
    rw [← a] at b
    exact ⟨x, xs, rfl, by rw [b]; rfl, by rw [b]; rfl⟩
theorem rDel_ok : ∀ (t : Bt) (k : Bs), t.sml → t.bal → t.dp ≤ 2^20 → (nodesF t.tre).length ≤ 2^40 → EV C n_ref05_Delete [t.tre.av, bys k] [] = some ((t.del k).tre.av, [], [])
  | .lf, k, _, _, _, _ => by
    refine ref05_Delete_of ?_
    simp -implicitDefEqProofs only [new_z, ZS, ZT, Nat.reduceAdd]
    rw [if_pos (show (((Bt.lf).tre.kids.length : Nat) : Int) = 0 from rfl), sto_t (b := 1) rfl rfl]
    simp -implicitDefEqProofs only [ZS, ZT, Nat.reduceAdd]
    exact endB_good (good_tr _)
  | .nd l k' v' r, k, hs, hb, hd, hn => by
    have hnl : (nodesF l.tre).length ≤ 2^40 ∧ (nodesF r.tre).length ≤ 2^40 := by
      rw [nodes_two tre_kids, List.length_append, List.length_cons] at hn; omega
    simp only [Bt.sml] at hs
    simp only [Bt.bal] at hb
    simp only [Bt.dp] at hd
    have ihl := rDel_ok l k hs.1 hb.1 (by omega) hnl.1
    have ihr := fun k => rDel_ok r k hs.2.1 hb.2.1 (by omega) hnl.2
    have hl : ∀ H, callD (EV C) n_ref05_Delete [l.tre.av, bys k] H = some (l.del k).tre.av := fun H => callD_ok (by simp [goodL]) ihl
    have hr : ∀ k H, callD (EV C) n_ref05_Delete [r.tre.av, bys k] H = some (r.del k).tre.av := fun k H => callD_ok (by simp [goodL]) (ihr k)
    have pl := del_bal (t := l) k hb.1
    have pr := fun k => del_bal (t := r) k hb.2.1
    have ll : ∀ H, callD (EV C) n_ref05_level [(ndT (l.del k).tre k' v' r.tre).av] H = some (Bt.lev (l.del k) k' v' r).tre.av := fun H => callD_ok (by simp [goodL]) (rLevel_ok k' v' (sml_del k hs.1) hs.2.1 hs.2.2.1 hs.2.2.2 pl.1 hb.2.1 (by omega) (by omega))
    have lr : ∀ (x v : Bs), x.length ≤ 80 → v.length ≤ 1024 → ∀ k H, callD (EV C) n_ref05_level [(ndT l.tre x v (r.del k).tre).av] H = some (Bt.lev l x v (r.del k)).tre.av := fun x v hx hv k H => callD_ok (by simp [goodL]) (rLevel_ok x v hs.1 (sml_del k hs.2.1) hx hv hb.1 (pr k).1 (by omega) (by have := pr k; omega))
    refine ref05_Delete_of ?_
    simp -implicitDefEqProofs only [new_z, bt_nd, kidsM, keyM, valueM, ZS, ZT, Nat.reduceAdd]
    rw [if_neg (by omega)]
    simp -implicitDefEqProofs only [kidsM, keyM, valueM, ix_l, ix_r, new_z, ZS, ZT, Nat.reduceAdd]
    rw [sto_t (b := 2) rfl rfl]
    simp -implicitDefEqProofs only [kidsM, keyM, valueM, ix_l, ix_r, new_z, ZS, ZT, Nat.reduceAdd]
    rw [sto_t (b := 3) rfl rfl]
    simp -implicitDefEqProofs only [kidsM, keyM, valueM, lss_str, gtr_str, ZS, ZT, Nat.reduceAdd]
    rw [Bt.del]
    cases hc : ltB k k' with
    | true =>
      simp -implicitDefEqProofs only [kidsM, keyM, valueM, ix_l, ix_r, ld_tr3, hl, nodeD, ll, ZS, ZT, Nat.reduceAdd]
      rw [sto_t (b := 1) rfl rfl]
      simp -implicitDefEqProofs only [ZS, ZT, Nat.reduceAdd]
      exact endB_good (good_tr _)
    | false =>
      simp -implicitDefEqProofs only [Bool.false_eq_true, kidsM, keyM, valueM, gtr_str, ZS, ZT, Nat.reduceAdd]
      cases hg : ltB k' k with
      | true =>
        simp -implicitDefEqProofs only [kidsM, keyM, valueM, ix_l, ix_r, ld_tr3, hr, nodeD, lr k' v' hs.2.2.1 hs.2.2.2, ZS, ZT, Nat.reduceAdd]
        rw [sto_t (b := 1) rfl rfl]
        simp -implicitDefEqProofs only [ZS, ZT, Nat.reduceAdd]
        exact endB_good (good_tr _)
      | false =>
        simp -implicitDefEqProofs only [Bool.false_eq_true, ld_tr3_s, ld_tr3, ZS, ZT, Nat.reduceAdd]
        cases l with
        | lf =>
          rw [if_pos (show (((Bt.lf).tre.kids.length : Nat) : Int) = 0 from rfl), sto_t (b := 1) rfl rfl]
          simp -implicitDefEqProofs only [Bt.join, ZS, ZT, Nat.reduceAdd]
          exact endB_good (good_tr _)
        | nd a ka va b =>
          cases r with
          | lf =>
            simp -implicitDefEqProofs only [bt_nd, kidsM, ZS, ZT, Nat.reduceAdd]
            rw [if_neg (by omega), if_pos (show (((Bt.lf).tre.kids.length : Nat) : Int) = 0 from rfl), sto_t (b := 1) rfl rfl]
            simp -implicitDefEqProofs only [Bt.join, bt_nd, ZS, ZT, Nat.reduceAdd]
            exact endB_good (good_tr _)
          | nd c kc vc d =>
            have mm := min_sml (.nd c kc vc d) [] [] hs.2.1 (by simp) (by simp)
            obtain ⟨x, xs, e1, e2, e3⟩ := head_min (t := .nd c kc vc d) (by intro h; cases h)
            have L := rList_ok (Bt.nd c kc vc d).tre (tre_ok hs.2.1) (tre_formed hs.2.1) hnl.2
            rw [e1] at L
            have lm := lr ((Bt.nd c kc vc d).min [] []).1 ((Bt.nd c kc vc d).min [] []).2 mm.1 mm.2 ((Bt.nd c kc vc d).min [] []).1
            simp only [bt_nd] at L lm hr
            simp -implicitDefEqProofs only [bt_nd, kidsM, ZS, ZT, Nat.reduceAdd]
            rw [if_neg (by omega), if_neg (by omega), callK_ok (by simp) L]
            have ix0 : ∀ H, ixA 5 (kidsA (x :: xs)) (.int .i64 0) H = some (.ip x.av.cells) := fun H => ixA_kids (i := 0) rfl
            simp -implicitDefEqProofs only [ix0, new_z, ZS, ZT, Nat.reduceAdd]
            rw [sto_t (b := 4) rfl rfl]
            simp -implicitDefEqProofs only [ld4a, ld4b, ld_tr3, e2, e3, hr, nodeD, lm, Bt.join, ZS, ZT, Nat.reduceAdd]
            rw [sto_t (b := 1) rfl rfl]
            simp -implicitDefEqProofs only [ZS, ZT, Nat.reduceAdd]
            exact endB_good (good_tr _)
def sessR (t : Bt) (a : Nat) : Nat × Int × Bool := match t.get (ownK a) with
  | none => (0, 0, false)
  | some v => let n := numR ⟨v, 0, false⟩; let b := byteR n.2
    (n.1, (b.1.toNat : Int), decide (endR b.2 = 0) && (decide (1 ≤ b.1.toNat) && decide (b.1.toNat ≤ 4)))
theorem sessR_sess (t : Bt) (a : Nat) : sessF t a = if (sessR t a).2.2 = true then some ((sessR t a).1, (sessR t a).2.1) else none := by
  unfold sessF sessR
  cases t.get (ownK a) with
  | none => rfl
  | some v =>
    simp only [Option.bind_some]
    unfold parseS
    cases h1 : rdN v with
    | none =>
      have b1 := byteR_bad (numR_none (B := v) (n := 0) (by rw [List.drop_zero]; exact h1))
      simp [endR, b1]
    | some p1 =>
      obtain ⟨sq, r1⟩ := p1
      obtain ⟨m, e1, d1⟩ := numR_some (B := v) (n := 0) (by rw [List.drop_zero]; exact h1)
      simp only [e1]
      cases h2 : rdB r1 with
      | none =>
        have b1 := byteR_none (B := v) (n := m) (by rw [d1]; exact h2)
        simp [endR, b1]
      | some p2 =>
        obtain ⟨x, r2⟩ := p2
        obtain ⟨e2, d2⟩ := byteR_some (B := v) (n := m) (by rw [d1]; exact h2)
        simp only [e2]
        by_cases hr : r2 = []
        · have hl : ¬ m + 1 < v.length := by rw [hr, List.drop_eq_nil_iff] at d2; omega
          by_cases c : 1 ≤ x.toNat ∧ x.toNat ≤ 4
          · simp [endR, c, hr, hl]
          · rw [if_neg (by simpa [hr] using c), if_neg]
            simp [endR, hl]
            intro h; have := fun h2 => c ⟨h, h2⟩; omega
        · have hl : m + 1 < v.length := by
            apply Nat.lt_of_not_le; intro hn; exact hr (by rw [← d2, List.drop_eq_nil_of_le hn])
          simp [endR, hr, hl]
theorem rSess_ok (a : Nat) (ha : a < 2 ^ 64) {t : Bt} {n : Nat} (h : BInv t n) (hn : n < 2^20) : EV C n_ref12_Session [t.tre.av, .int .u64 (a : Int)] [] = some (resL (sessR t a), [], []) := by
  refine ref12_Session_of ?_
  have co : ∀ H, callD (EV C) n_ref12_Own [.int .u64 (a : Int)] H = some (bys (ownK a)) := fun H => callD_ok rfl (rOwn_ok a ha)
  have cg : ∀ H, callD (EV C) n_ref05_Get [t.tre.av, bys (ownK a)] H = some (resG2 (t.get (ownK a))) := fun H => callD_ok (by simp) (rGet_ok (ownK a) h hn)
  simp -implicitDefEqProofs only [co, cg, resG2, not_bool, ZS, ZT, Nat.reduceAdd]
  unfold sessR
  cases hg : t.get (ownK a) with
  | none =>
    simp -implicitDefEqProofs only [Option.isSome_none, ZS, ZT, Nat.reduceAdd]
    exact endB_good rfl
  | some v =>
    have hv := get_sml _ h.sml hg
    have o0 : RdR.ok ⟨v, 0, false⟩ := ⟨Nat.zero_le _, by simp only; omega⟩
    have o1 := numR_ok o0
    simp -implicitDefEqProofs only [Option.isSome_some, Option.getD_some, new_rr, ZS, ZT, Nat.reduceAdd]
    rw [rnumK (l := 1) (s := ⟨v, 0, false⟩) rfl o0]
    simp -implicitDefEqProofs only [ZS, ZT, Nat.reduceAdd]
    rw [rbyteK (l := 1) rfl o1]
    simp -implicitDefEqProofs only [cv_i64, ZS, ZT, Nat.reduceAdd]
    rw [rendK (l := 1) rfl]
    simp -implicitDefEqProofs only [ZS, ZT, Nat.reduceAdd]
    by_cases e : endR (byteR (numR ⟨v, 0, false⟩).2).2 = 0
    · rw [if_pos e]
      by_cases c1 : 1 ≤ (byteR (numR ⟨v, 0, false⟩).2).1.toNat
      · have c1' : (1 : Int) ≤ ((byteR (numR ⟨v, 0, false⟩).2).1.toNat : Int) := by omega
        rw [if_pos c1']
        refine (endB_good rfl).trans ?_
        have : decide (((byteR (numR ⟨v, 0, false⟩).2).1.toNat : Int) ≤ 4) = decide ((byteR (numR ⟨v, 0, false⟩).2).1.toNat ≤ 4) := by congr 1; exact propext ⟨fun h => by omega, fun h => by omega⟩
        simp [resL, e, c1, this]
      · have c1' : ¬ (1 : Int) ≤ ((byteR (numR ⟨v, 0, false⟩).2).1.toNat : Int) := by omega
        rw [if_neg c1']
        refine (endB_good rfl).trans ?_
        simp [resL, c1]
    · rw [if_neg e]
      refine (endB_good rfl).trans ?_
      simp [resL, e]
end Go.Pm
namespace Go.Pm
open Go.Proofs
set_option linter.unusedVariables false
set_option linter.unusedSimpArgs false
def resA2 (t : Tre) (r : Int) : AV := .tup [t.av, .int .i64 r]
@[simp] theorem good_resA2 (t : Tre) (r : Int) : (resA2 t r).good = true := by simp [resA2, AV.good, goodL]
theorem rApply_ok (b : Bs) (hb : b.length ≤ 2 ^ 46) {t : Bt} {n : Nat} (h : BInv t n) (hn : n + 1 < 2^20) : EV C n_ref12_Apply [t.tre.av, bys b] [] = some (resA2 (applyF t b).1.tre (applyF t b).2, [], []) := by
  refine ref12_Apply_of ?_
  simp -implicitDefEqProofs only [new_z, ZS, ZT, Nat.reduceAdd]
  rw [callK_ok (by simp) (rRead_ok b hb)]
  simp -implicitDefEqProofs only [resRR, new_zc, ZS, ZT, Nat.reduceAdd]
  rw [sto_cmd' (b := 2) rfl rfl]
  simp -implicitDefEqProofs only [ZS, ZT, Nat.reduceAdd]
  unfold applyF
  by_cases hr : (readF b).1 = 0
  · obtain ⟨hm, hw⟩ := readF_ok (b := b) (c := (readF b).2) (by rw [← hr])
    generalize hc : (readF b).2 = c at hm hw ⊢
    obtain ⟨k1, k2, k3⟩ := may_parts hm
    have hu := userK_len hm
    have gd := (h.good (by omega)).dp
    have h2 : ∀ o0 o1 T, (o0 :: o1 :: AObj.row 5 [c.av] :: T)[2]? = some (.row 5 [c.av]) := fun _ _ _ => rfl
    rw [if_pos hr]
    have nl := numF_len c.seq
    have co : ∀ H, callD (EV C) n_ref12_Own [.int .u64 (c.client : Int)] H = some (bys (ownK c.client)) := fun H => callD_ok rfl (rOwn_ok c.client hw.1)
    have ck : ∀ H, callD (EV C) n_ref12_Key [bys c.key] H = some (bys (userK c.key)) := fun H => callD_ok (by simp) (rkey_ok c.key (by omega))
    have cg : ∀ H, callD (EV C) n_ref05_Get [t.tre.av, bys (userK c.key)] H = some (resG2 (t.get (userK c.key))) := fun H => callD_ok (by simp) (rGet_ok (userK c.key) h (by omega))
    have cp : ∀ H, callD (EV C) n_ref05_Put [t.tre.av, bys (userK c.key), bys c.value] H = some (Bt.put (userK c.key) c.value t).tre.av := fun H => callD_ok (by simp) (rPut_ok (userK c.key) c.value hu k2 t h.sml h.bal (by omega))
    have cd : ∀ H, callD (EV C) n_ref05_Delete [t.tre.av, bys (userK c.key)] H = some (t.del (userK c.key)).tre.av := fun H => callD_ok (by simp) (rDel_ok t (userK c.key) h.sml h.bal (by omega) (h.nodes (by omega)))
    have l1 : ∀ (x : UInt8) H, litD 1 1 (.int .u8 0) [(0, u8 x)] H = some (bys [x]) := fun x H => Eq.trans rfl rfl
    have cu1 : cvI .u8 (.int .i64 1) = some (u8 (resB8 1)) := rfl
    have cu2 : cvI .u8 (.int .i64 2) = some (u8 (resB8 2)) := rfl
    have cu3 : cvI .u8 (.int .i64 3) = some (u8 (resB8 3)) := rfl
    have cu4 : cvI .u8 (.int .i64 4) = some (u8 (resB8 4)) := rfl
    have ip := h.put hu k2
    have id := h.del (userK c.key)
    -- what is done when no session says otherwise
    have doit : ∀ E, ((loadA true 5 (.ptr 0 1 0 0) [AObj.row 5 [t.tre.av], .row 5 [zTre], .row 5 [c.av]]).bind fun a31 =>
        (offA (.ptr 2 1 0 0) 3).bind fun a32 =>
        (loadA false 1 a32 [AObj.row 5 [t.tre.av], .row 5 [zTre], .row 5 [c.av]]).bind fun a33 =>
        (callD (EV C) n_ref12_Key [a33] [AObj.row 5 [t.tre.av], .row 5 [zTre], .row 5 [c.av]]).bind fun a34 =>
        (callD (EV C) n_ref05_Get [a31, a34] [AObj.row 5 [t.tre.av], .row 5 [zTre], .row 5 [c.av]]).bind fun a35 =>
        (extA a35 0).bind fun a36 =>
        (extA a35 1).bind fun a37 =>
        (offA (.ptr 2 1 0 0) 2).bind fun a38 =>
        (loadA false 1 a38 [AObj.row 5 [t.tre.av], .row 5 [zTre], .row 5 [c.av]]).bind fun a39 =>
        (binA .eql (Go.TypeDesc.int Go.IntKind.i64) (cmpT Try.prog) true a39 (.int .i64 1)).bind fun a40 =>
        condK a40
        (condK a37
        ((loadA true 5 (.ptr 0 1 0 0) [AObj.row 5 [t.tre.av], .row 5 [zTre], .row 5 [c.av]]).bind fun a41 =>
        (offA (.ptr 2 1 0 0) 3).bind fun a42 =>
        (loadA false 1 a42 [AObj.row 5 [t.tre.av], .row 5 [zTre], .row 5 [c.av]]).bind fun a43 =>
        (callD (EV C) n_ref12_Key [a43] [AObj.row 5 [t.tre.av], .row 5 [zTre], .row 5 [c.av]]).bind fun a44 =>
        (offA (.ptr 2 1 0 0) 4).bind fun a45 =>
        (loadA false 1 a45 [AObj.row 5 [t.tre.av], .row 5 [zTre], .row 5 [c.av]]).bind fun a46 =>
        (callD (EV C) n_ref05_Put [a41, a44, a46] [AObj.row 5 [t.tre.av], .row 5 [zTre], .row 5 [c.av]]).bind fun a47 =>
        stoK 5 (.ptr 0 1 0 0) a47 [AObj.row 5 [t.tre.av], .row 5 [zTre], .row 5 [c.av]] fun H48 E48 =>
        (loadA true 5 (.ptr 0 1 0 0) H48).bind fun a49 =>
        (offA (.ptr 2 1 0 0) 0).bind fun a50 =>
        (loadA false 1 a50 H48).bind fun a51 =>
        (callD (EV C) n_ref12_Own [a51] H48).bind fun a52 =>
        (offA (.ptr 2 1 0 0) 1).bind fun a53 =>
        (loadA false 1 a53 H48).bind fun a54 =>
        callK (EV C) true n_ref02_Number_r [a54] H48 fun a55 H55 E55 =>
        drawK (((loadA true 5 (.ptr 0 1 0 0) H55).bind fun a56 =>
        some a56) = some a49)
        ((cvI .u8 (.int .i64 2)).bind fun a57 =>
        drawK (((cvI .u8 (.int .i64 2)).bind fun a58 =>
        some a58) = some a57)
        ((litD 1 1 (.int .u8 0) [(0, a57)] H55).bind fun a59 =>
        drawK (((litD 1 1 (.int .u8 0) [(0, a57)] H48).bind fun a60 =>
        some a60) = some a59)
        (appK 1 1 a55 a59 H55 fun a61 H61 E61 =>
        frzK a61 H61 fun a62 H62 =>
        drawK (((loadA true 5 (.ptr 0 1 0 0) H62).bind fun a63 =>
        some a63) = some a49)
        ((callD (EV C) n_ref05_Put [a49, a52, a62] H62).bind fun a64 =>
        stoK 5 (.ptr 1 1 0 0) a64 H62 fun H65 E65 =>
        (loadA true 5 (.ptr 1 1 0 0) H65).bind fun a66 =>
        endB false false 0 (.tup [a66, (.int .i64 2)]) H65 (E65 ++ (E61 ++ (E55 ++ (E48 ++ E)))))))))
        ((loadA true 5 (.ptr 0 1 0 0) [AObj.row 5 [t.tre.av], .row 5 [zTre], .row 5 [c.av]]).bind fun a67 =>
        (offA (.ptr 2 1 0 0) 3).bind fun a68 =>
        (loadA false 1 a68 [AObj.row 5 [t.tre.av], .row 5 [zTre], .row 5 [c.av]]).bind fun a69 =>
        (callD (EV C) n_ref12_Key [a69] [AObj.row 5 [t.tre.av], .row 5 [zTre], .row 5 [c.av]]).bind fun a70 =>
        (offA (.ptr 2 1 0 0) 4).bind fun a71 =>
        (loadA false 1 a71 [AObj.row 5 [t.tre.av], .row 5 [zTre], .row 5 [c.av]]).bind fun a72 =>
        (callD (EV C) n_ref05_Put [a67, a70, a72] [AObj.row 5 [t.tre.av], .row 5 [zTre], .row 5 [c.av]]).bind fun a73 =>
        stoK 5 (.ptr 0 1 0 0) a73 [AObj.row 5 [t.tre.av], .row 5 [zTre], .row 5 [c.av]] fun H74 E74 =>
        (loadA true 5 (.ptr 0 1 0 0) H74).bind fun a75 =>
        (offA (.ptr 2 1 0 0) 0).bind fun a76 =>
        (loadA false 1 a76 H74).bind fun a77 =>
        (callD (EV C) n_ref12_Own [a77] H74).bind fun a78 =>
        (offA (.ptr 2 1 0 0) 1).bind fun a79 =>
        (loadA false 1 a79 H74).bind fun a80 =>
        callK (EV C) true n_ref02_Number_r [a80] H74 fun a81 H81 E81 =>
        drawK (((loadA true 5 (.ptr 0 1 0 0) H81).bind fun a82 =>
        some a82) = some a75)
        ((cvI .u8 (.int .i64 1)).bind fun a83 =>
        drawK (((cvI .u8 (.int .i64 1)).bind fun a84 =>
        some a84) = some a83)
        ((litD 1 1 (.int .u8 0) [(0, a83)] H81).bind fun a85 =>
        drawK (((litD 1 1 (.int .u8 0) [(0, a83)] H74).bind fun a86 =>
        some a86) = some a85)
        (appK 1 1 a81 a85 H81 fun a87 H87 E87 =>
        frzK a87 H87 fun a88 H88 =>
        drawK (((loadA true 5 (.ptr 0 1 0 0) H88).bind fun a89 =>
        some a89) = some a75)
        ((callD (EV C) n_ref05_Put [a75, a78, a88] H88).bind fun a90 =>
        stoK 5 (.ptr 1 1 0 0) a90 H88 fun H91 E91 =>
        (loadA true 5 (.ptr 1 1 0 0) H91).bind fun a92 =>
        endB false false 0 (.tup [a92, (.int .i64 1)]) H91 (E91 ++ (E87 ++ (E81 ++ (E74 ++ E))))))))))
        (condK a37
        ((loadA true 5 (.ptr 0 1 0 0) [AObj.row 5 [t.tre.av], .row 5 [zTre], .row 5 [c.av]]).bind fun a93 =>
        (offA (.ptr 2 1 0 0) 3).bind fun a94 =>
        (loadA false 1 a94 [AObj.row 5 [t.tre.av], .row 5 [zTre], .row 5 [c.av]]).bind fun a95 =>
        (callD (EV C) n_ref12_Key [a95] [AObj.row 5 [t.tre.av], .row 5 [zTre], .row 5 [c.av]]).bind fun a96 =>
        (callD (EV C) n_ref05_Delete [a93, a96] [AObj.row 5 [t.tre.av], .row 5 [zTre], .row 5 [c.av]]).bind fun a97 =>
        stoK 5 (.ptr 0 1 0 0) a97 [AObj.row 5 [t.tre.av], .row 5 [zTre], .row 5 [c.av]] fun H98 E98 =>
        (loadA true 5 (.ptr 0 1 0 0) H98).bind fun a99 =>
        (offA (.ptr 2 1 0 0) 0).bind fun a100 =>
        (loadA false 1 a100 H98).bind fun a101 =>
        (callD (EV C) n_ref12_Own [a101] H98).bind fun a102 =>
        (offA (.ptr 2 1 0 0) 1).bind fun a103 =>
        (loadA false 1 a103 H98).bind fun a104 =>
        callK (EV C) true n_ref02_Number_r [a104] H98 fun a105 H105 E105 =>
        drawK (((loadA true 5 (.ptr 0 1 0 0) H105).bind fun a106 =>
        some a106) = some a99)
        ((cvI .u8 (.int .i64 3)).bind fun a107 =>
        drawK (((cvI .u8 (.int .i64 3)).bind fun a108 =>
        some a108) = some a107)
        ((litD 1 1 (.int .u8 0) [(0, a107)] H105).bind fun a109 =>
        drawK (((litD 1 1 (.int .u8 0) [(0, a107)] H98).bind fun a110 =>
        some a110) = some a109)
        (appK 1 1 a105 a109 H105 fun a111 H111 E111 =>
        frzK a111 H111 fun a112 H112 =>
        drawK (((loadA true 5 (.ptr 0 1 0 0) H112).bind fun a113 =>
        some a113) = some a99)
        ((callD (EV C) n_ref05_Put [a99, a102, a112] H112).bind fun a114 =>
        stoK 5 (.ptr 1 1 0 0) a114 H112 fun H115 E115 =>
        (loadA true 5 (.ptr 1 1 0 0) H115).bind fun a116 =>
        endB false false 0 (.tup [a116, (.int .i64 3)]) H115 (E115 ++ (E111 ++ (E105 ++ (E98 ++ E)))))))))
        ((loadA true 5 (.ptr 0 1 0 0) [AObj.row 5 [t.tre.av], .row 5 [zTre], .row 5 [c.av]]).bind fun a117 =>
        (offA (.ptr 2 1 0 0) 0).bind fun a118 =>
        (loadA false 1 a118 [AObj.row 5 [t.tre.av], .row 5 [zTre], .row 5 [c.av]]).bind fun a119 =>
        (callD (EV C) n_ref12_Own [a119] [AObj.row 5 [t.tre.av], .row 5 [zTre], .row 5 [c.av]]).bind fun a120 =>
        (offA (.ptr 2 1 0 0) 1).bind fun a121 =>
        (loadA false 1 a121 [AObj.row 5 [t.tre.av], .row 5 [zTre], .row 5 [c.av]]).bind fun a122 =>
        callK (EV C) true n_ref02_Number_r [a122] [AObj.row 5 [t.tre.av], .row 5 [zTre], .row 5 [c.av]] fun a123 H123 E123 =>
        drawK (((loadA true 5 (.ptr 0 1 0 0) H123).bind fun a124 =>
        some a124) = some a117)
        ((cvI .u8 (.int .i64 4)).bind fun a125 =>
        drawK (((cvI .u8 (.int .i64 4)).bind fun a126 =>
        some a126) = some a125)
        ((litD 1 1 (.int .u8 0) [(0, a125)] H123).bind fun a127 =>
        drawK (((litD 1 1 (.int .u8 0) [(0, a125)] [AObj.row 5 [t.tre.av], .row 5 [zTre], .row 5 [c.av]]).bind fun a128 =>
        some a128) = some a127)
        (appK 1 1 a123 a127 H123 fun a129 H129 E129 =>
        frzK a129 H129 fun a130 H130 =>
        drawK (((loadA true 5 (.ptr 0 1 0 0) H130).bind fun a131 =>
        some a131) = some a117)
        ((callD (EV C) n_ref05_Put [a117, a120, a130] H130).bind fun a132 =>
        stoK 5 (.ptr 1 1 0 0) a132 H130 fun H133 E133 =>
        (loadA true 5 (.ptr 1 1 0 0) H133).bind fun a134 =>
        endB false false 0 (.tup [a134, (.int .i64 4)]) H133 (E133 ++ (E129 ++ (E123 ++ E)))))))))) = some (resA2 (doC t c).1.tre (doC t c).2, [], []) := fun E => by
      simp -implicitDefEqProofs only [cm_key (h2 _ _ _), cm_op (h2 _ _ _), cm_value (h2 _ _ _), ck, cg, resG2, ZS, ZT, Nat.reduceAdd]
      unfold doC opF
      by_cases o : c.op = 1
      · rw [if_pos o, if_pos o]
        cases hg : (t.get (userK c.key)).isSome with
        | true =>
          simp -implicitDefEqProofs only [cm_key (h2 _ _ _), cm_op (h2 _ _ _), cm_value (h2 _ _ _), ck, cp, ZS, ZT, Nat.reduceAdd]
          rw [sto_t2 (b := 0) rfl]
          simp -implicitDefEqProofs only [cm_client (h2 _ _ _), cm_seq (h2 _ _ _), co, ZS, ZT, Nat.reduceAdd]
          rw [callK_raw (rNumberR_ok c.seq hw.2 _)]
          simp -implicitDefEqProofs only [ld_tr3, cu2, l1, drawK_eq, drawK_T, eq_self, ZS, ZT, Nat.reduceAdd]
          rw [appB (n := (numF c.seq).length) (es := numF c.seq) (ys := [resB8 2]) (elemsA_bys _ _) rfl rfl (by simp; omega)]
          simp -implicitDefEqProofs only [ZS, ZT, Nat.reduceAdd]
          rw [frzK_ok (u := bys (numF c.seq ++ [resB8 2])) ((frz_row (z := 1) (es := (numF c.seq ++ [resB8 2]).map u8) rfl (by simp) (goodL_u8 _)).trans rfl)]
          rw [show killAll [AObj.row 5 [(Bt.put (userK c.key) c.value t).tre.av], .row 5 [zTre], .row 5 [c.av], .row 1 ((numF c.seq ++ [resB8 2]).map u8)] (kills (.slc 3 0 ((numF c.seq).length + 1) ((numF c.seq).length + 1))) = [AObj.row 5 [(Bt.put (userK c.key) c.value t).tre.av], .row 5 [zTre], .row 5 [c.av], .dead] from rfl]
          have P : ∀ H, callD (EV C) n_ref05_Put [(Bt.put (userK c.key) c.value t).tre.av, bys (ownK c.client), bys (numF c.seq ++ [resB8 2])] H = some (Bt.put (ownK c.client) (numF c.seq ++ [resB8 2]) (Bt.put (userK c.key) c.value t)).tre.av := fun H => callD_ok (by simp) (rPut_ok (ownK c.client) _ (by rw [ownK_len]; omega) (by have := numF_len c.seq; simp; omega) _ (ip).sml (ip).bal (by have := ((ip).good (by omega)).dp; omega))
          simp -implicitDefEqProofs only [P, drawK_eq, drawK_T, eq_self, ZS, ZT, Nat.reduceAdd]
          rw [sto_t (b := 1) rfl rfl]
          simp -implicitDefEqProofs only [ZS, ZT, Nat.reduceAdd]
          exact endB_good (v := resA2 _ 2) (good_resA2 _ _)
        | false =>
          simp -implicitDefEqProofs only [Bool.false_eq_true, cm_key (h2 _ _ _), cm_op (h2 _ _ _), cm_value (h2 _ _ _), ck, cp, ZS, ZT, Nat.reduceAdd]
          rw [sto_t2 (b := 0) rfl]
          simp -implicitDefEqProofs only [cm_client (h2 _ _ _), cm_seq (h2 _ _ _), co, ZS, ZT, Nat.reduceAdd]
          rw [callK_raw (rNumberR_ok c.seq hw.2 _)]
          simp -implicitDefEqProofs only [ld_tr3, cu1, l1, drawK_eq, drawK_T, eq_self, ZS, ZT, Nat.reduceAdd]
          rw [appB (n := (numF c.seq).length) (es := numF c.seq) (ys := [resB8 1]) (elemsA_bys _ _) rfl rfl (by simp; omega)]
          simp -implicitDefEqProofs only [ZS, ZT, Nat.reduceAdd]
          rw [frzK_ok (u := bys (numF c.seq ++ [resB8 1])) ((frz_row (z := 1) (es := (numF c.seq ++ [resB8 1]).map u8) rfl (by simp) (goodL_u8 _)).trans rfl)]
          rw [show killAll [AObj.row 5 [(Bt.put (userK c.key) c.value t).tre.av], .row 5 [zTre], .row 5 [c.av], .row 1 ((numF c.seq ++ [resB8 1]).map u8)] (kills (.slc 3 0 ((numF c.seq).length + 1) ((numF c.seq).length + 1))) = [AObj.row 5 [(Bt.put (userK c.key) c.value t).tre.av], .row 5 [zTre], .row 5 [c.av], .dead] from rfl]
          have P : ∀ H, callD (EV C) n_ref05_Put [(Bt.put (userK c.key) c.value t).tre.av, bys (ownK c.client), bys (numF c.seq ++ [resB8 1])] H = some (Bt.put (ownK c.client) (numF c.seq ++ [resB8 1]) (Bt.put (userK c.key) c.value t)).tre.av := fun H => callD_ok (by simp) (rPut_ok (ownK c.client) _ (by rw [ownK_len]; omega) (by have := numF_len c.seq; simp; omega) _ (ip).sml (ip).bal (by have := ((ip).good (by omega)).dp; omega))
          simp -implicitDefEqProofs only [P, drawK_eq, drawK_T, eq_self, ZS, ZT, Nat.reduceAdd]
          rw [sto_t (b := 1) rfl rfl]
          simp -implicitDefEqProofs only [ZS, ZT, Nat.reduceAdd]
          exact endB_good (v := resA2 _ 1) (good_resA2 _ _)
      · rw [if_neg o, if_neg o]
        cases hg : (t.get (userK c.key)).isSome with
        | true =>
          simp -implicitDefEqProofs only [cm_key (h2 _ _ _), cm_op (h2 _ _ _), cm_value (h2 _ _ _), ck, cd, ZS, ZT, Nat.reduceAdd]
          rw [sto_t2 (b := 0) rfl]
          simp -implicitDefEqProofs only [cm_client (h2 _ _ _), cm_seq (h2 _ _ _), co, ZS, ZT, Nat.reduceAdd]
          rw [callK_raw (rNumberR_ok c.seq hw.2 _)]
          simp -implicitDefEqProofs only [ld_tr3, cu3, l1, drawK_eq, drawK_T, eq_self, ZS, ZT, Nat.reduceAdd]
          rw [appB (n := (numF c.seq).length) (es := numF c.seq) (ys := [resB8 3]) (elemsA_bys _ _) rfl rfl (by simp; omega)]
          simp -implicitDefEqProofs only [ZS, ZT, Nat.reduceAdd]
          rw [frzK_ok (u := bys (numF c.seq ++ [resB8 3])) ((frz_row (z := 1) (es := (numF c.seq ++ [resB8 3]).map u8) rfl (by simp) (goodL_u8 _)).trans rfl)]
          rw [show killAll [AObj.row 5 [(t.del (userK c.key)).tre.av], .row 5 [zTre], .row 5 [c.av], .row 1 ((numF c.seq ++ [resB8 3]).map u8)] (kills (.slc 3 0 ((numF c.seq).length + 1) ((numF c.seq).length + 1))) = [AObj.row 5 [(t.del (userK c.key)).tre.av], .row 5 [zTre], .row 5 [c.av], .dead] from rfl]
          have P : ∀ H, callD (EV C) n_ref05_Put [(t.del (userK c.key)).tre.av, bys (ownK c.client), bys (numF c.seq ++ [resB8 3])] H = some (Bt.put (ownK c.client) (numF c.seq ++ [resB8 3]) (t.del (userK c.key))).tre.av := fun H => callD_ok (by simp) (rPut_ok (ownK c.client) _ (by rw [ownK_len]; omega) (by have := numF_len c.seq; simp; omega) _ (id).sml (id).bal (by have := ((id).good (by omega)).dp; omega))
          simp -implicitDefEqProofs only [P, drawK_eq, drawK_T, eq_self, ZS, ZT, Nat.reduceAdd]
          rw [sto_t (b := 1) rfl rfl]
          simp -implicitDefEqProofs only [ZS, ZT, Nat.reduceAdd]
          exact endB_good (v := resA2 _ 3) (good_resA2 _ _)
        | false =>
          simp -implicitDefEqProofs only [Bool.false_eq_true, cm_client (h2 _ _ _), cm_seq (h2 _ _ _), co, ZS, ZT, Nat.reduceAdd]
          rw [callK_raw (rNumberR_ok c.seq hw.2 _)]
          simp -implicitDefEqProofs only [ld_tr3, cu4, l1, drawK_eq, drawK_T, eq_self, ZS, ZT, Nat.reduceAdd]
          rw [appB (n := (numF c.seq).length) (es := numF c.seq) (ys := [resB8 4]) (elemsA_bys _ _) rfl rfl (by simp; omega)]
          simp -implicitDefEqProofs only [ZS, ZT, Nat.reduceAdd]
          rw [frzK_ok (u := bys (numF c.seq ++ [resB8 4])) ((frz_row (z := 1) (es := (numF c.seq ++ [resB8 4]).map u8) rfl (by simp) (goodL_u8 _)).trans rfl)]
          rw [show killAll [AObj.row 5 [(t).tre.av], .row 5 [zTre], .row 5 [c.av], .row 1 ((numF c.seq ++ [resB8 4]).map u8)] (kills (.slc 3 0 ((numF c.seq).length + 1) ((numF c.seq).length + 1))) = [AObj.row 5 [(t).tre.av], .row 5 [zTre], .row 5 [c.av], .dead] from rfl]
          have P : ∀ H, callD (EV C) n_ref05_Put [(t).tre.av, bys (ownK c.client), bys (numF c.seq ++ [resB8 4])] H = some (Bt.put (ownK c.client) (numF c.seq ++ [resB8 4]) (t)).tre.av := fun H => callD_ok (by simp) (rPut_ok (ownK c.client) _ (by rw [ownK_len]; omega) (by have := numF_len c.seq; simp; omega) _ (h).sml (h).bal (by have := ((h).good (by omega)).dp; omega))
          simp -implicitDefEqProofs only [P, drawK_eq, drawK_T, eq_self, ZS, ZT, Nat.reduceAdd]
          rw [sto_t (b := 1) rfl rfl]
          simp -implicitDefEqProofs only [ZS, ZT, Nat.reduceAdd]
          exact endB_good (v := resA2 _ 4) (good_resA2 _ _)
    simp -implicitDefEqProofs only [hr, ne_eq, not_true_eq_false, cm_client (h2 _ _ _), ZS, ZT, Nat.reduceAdd]
    rw [callK_ok (by simp [goodL, AV.good]) (rSess_ok c.client hw.1 h (by omega))]
    simp -implicitDefEqProofs only [resL, extA_0, extA_1, extA_2, Option.bind_some]
    unfold applyC
    rw [sessR_sess]
    cases hl : (sessR t c.client).2.2 with
    | false =>
      simp -implicitDefEqProofs only [Bool.false_eq_true, if_false, splitK_f]
      exact doit _
    | true =>
      simp -implicitDefEqProofs only [splitK_t, cm_seq (h2 _ _ _), offA_ptr, Option.bind_some, Nat.zero_add, gtr_int, eql_int, condK_dec, if_true]
      by_cases c1 : c.seq < (sessR t c.client).1
      · have c1' : (c.seq : Int) < ((sessR t c.client).1 : Int) := by omega
        rw [if_pos c1', if_pos c1, ld_box (b := 0) rfl, Option.bind_some, sto_t (b := 1) rfl rfl]
        simp -implicitDefEqProofs only [ZS, ZT, Nat.reduceAdd]
        exact endB_good (v := resA2 t.tre 5) (good_resA2 _ _)
      · have c1' : ¬ (c.seq : Int) < ((sessR t c.client).1 : Int) := by omega
        rw [if_neg c1', if_neg c1]
        by_cases c2 : (sessR t c.client).1 = c.seq
        · have c2' : ((sessR t c.client).1 : Int) = (c.seq : Int) := by omega
          rw [if_pos c2', if_pos c2, ld_box (b := 0) rfl, Option.bind_some, sto_t (b := 1) rfl rfl]
          simp -implicitDefEqProofs only [ZS, ZT, Nat.reduceAdd]
          exact endB_good (v := resA2 t.tre (sessR t c.client).2.1) (good_resA2 _ _)
        · have c2' : ¬ ((sessR t c.client).1 : Int) = (c.seq : Int) := by omega
          rw [if_neg c2', if_neg c2]
          exact doit _
  · rw [if_neg hr]
    simp -implicitDefEqProofs only [hr, ne_eq, not_false_eq_true, Bool.not_false, ZS, ZT, Nat.reduceAdd]
    rw [sto_t (b := 1) rfl rfl]
    simp -implicitDefEqProofs only [ZS, ZT, Nat.reduceAdd]
    exact endB_good (v := resA2 t.tre 0) (good_resA2 _ _)
end Go.Pm
