/- A part of the proof: what the functions of the program answer, as plain lists and numbers. -/
import Derived.Test.YtaoklfecdcakbaaP28
import Derived.Test.YtaoklfecdcakbaaP29
namespace Go.Pm
open Go.Proofs
set_option linter.unusedVariables false
set_option linter.unusedSimpArgs false
theorem get_app {α : Type} {H : List α} {l : Nat} {x : α} (h : H[l]? = some x) (T : List α) : (H ++ T)[l]? = some x := by rw [List.getElem?_append_left (lt_get h)]; exact h
theorem set_app {α : Type} {H : List α} {l : Nat} {x : α} (h : H[l]? = some x) (T : List α) (y : α) : (H ++ T).set l y = H.set l y ++ T := by rw [List.set_append_left _ _ (lt_get h)]
theorem numR_lt (s : RdR) (ho : s.ok) : (numR s).1 < 2 ^ 64 := by
  unfold numR
  have hc := (byteR s).1.toNat_lt
  split
  · simp only; omega
  · split
    · simp
    · split
      · simp
      · have hv := valF_lt ((byteR s).2.rest.take ((byteR s).1.toNat - 247))
        have hl : ((byteR s).2.rest.take ((byteR s).1.toNat - 247)).length ≤ 8 := by rw [List.length_take]; omega
        have h8 : 256 ^ ((byteR s).2.rest.take ((byteR s).1.toNat - 247)).length ≤ 256 ^ 8 := Nat.pow_le_pow_right (by decide) hl
        simp only; omega
theorem bytesR_ok {m : Nat} {s : RdR} (h : s.ok) : (bytesR m s).2.ok := by
  have b := numR_ok h
  have bB := numR_B s
  have bl := RdR.rest_len b
  have b1 := b.1
  rw [bB] at b1 bl
  unfold bytesR
  by_cases c : (numR s).2.bad = true ∨ m < (numR s).1 ∨ (numR s).2.rest.length < (numR s).1
  · rw [if_pos c]; exact ⟨b1, h.2⟩
  · rw [if_neg c]; exact ⟨by simp only; omega, h.2⟩
theorem bytesR_len {m : Nat} {s : RdR} : (bytesR m s).1.length ≤ m := by
  unfold bytesR
  by_cases c : (numR s).2.bad = true ∨ m < (numR s).1 ∨ (numR s).2.rest.length < (numR s).1
  · rw [if_pos c]; simp
  · rw [if_neg c]; simp only [List.length_take]; omega
theorem rbytes_ok {H : List AObj} {l most : Nat} {s : RdR} (h : H[l]? = some s.row) (ho : s.ok) (hm : most ≤ 2 ^ 30) : EV C n_ref02_Reader_Bytes [.ptr l 1 0 0, .int .i64 (most : Int)] H = some (bys (bytesR most s).1, H.set l (bytesR most s).2.row, []) := by
  refine ref02_Reader_Bytes_of ?_
  dsimp only
  rw [rnumK h ho]
  have h1 := set_get (y := (numR s).2.row) h
  have hb := numR_ok ho
  have hB := numR_B s
  have rl := RdR.rest_len hb
  have hb1 := hb.1; have hb2 := hb.2
  have hlt := numR_lt s ho
  have e0 : ¬ ((most : Int) < 0) := by omega
  have e1 : IntKind.i64.wrap (((numR s).2.B.length : Int) - ((numR s).2.at_ : Int)) = (((numR s).2.rest.length : Nat) : Int) := w64 (by omega) (by omega)
  simp -implicitDefEqProofs only [nilA_ptr, rr_bad h1, rr_b h1, rr_at h1, rr_sto_bad h1, e0, cv_u64i (show most < 2 ^ 64 by omega), sub_int, e1, cv_u64i (show (numR s).2.rest.length < 2 ^ 64 by omega), ZS, Nat.reduceAdd]
  unfold bytesR
  cases hbad : (numR s).2.bad with
  | true =>
    simp -implicitDefEqProofs only [ZS, Nat.reduceAdd]
    rw [if_pos (.inl trivial), List.set_set, hB]
    exact endB_at rfl rfl rfl rfl (by simp)
  | false =>
    simp -implicitDefEqProofs only [ZS, Nat.reduceAdd]
    by_cases c1 : most < (numR s).1
    · have c1' : (most : Int) < ((numR s).1 : Int) := by omega
      rw [if_pos c1', if_pos (.inr (.inl c1)), List.set_set, hB]
      exact endB_at rfl rfl rfl rfl (by simp)
    · have c1' : ¬ (most : Int) < ((numR s).1 : Int) := by omega
      rw [if_neg c1']
      by_cases c2 : (numR s).2.rest.length < (numR s).1
      · have c2' : ((numR s).2.rest.length : Int) < ((numR s).1 : Int) := by omega
        rw [if_pos c2', if_pos (.inr (.inr c2)), List.set_set, hB]
        exact endB_at rfl rfl rfl rfl (by simp)
      · have c2' : ¬ ((numR s).2.rest.length : Int) < ((numR s).1 : Int) := by omega
        rw [if_neg c2', if_neg (by simp; omega), raw0]
        have h2 := get_app h1 [.row 1 (([] : Bs).map u8)]
        have e2 : IntKind.i64.wrap (((numR s).2.at_ : Int) + ((numR s).1 : Int)) = (((numR s).2.at_ + (numR s).1 : Nat) : Int) := w64 (by omega) (by omega)
        have ct : ∀ H, cutA 1 (bys (numR s).2.B) (some (.int .i64 ((numR s).2.at_ : Int))) (some (.int .i64 (((numR s).2.at_ + (numR s).1 : Nat) : Int))) none H = some (bys ((numR s).2.rest.take (numR s).1)) := fun H => by
          rw [cutA_bys (i := (numR s).2.at_) (j := (numR s).2.at_ + (numR s).1) rfl rfl (by omega) (by omega), List.drop_take, Nat.add_sub_cancel_left]
          rfl
        simp -implicitDefEqProofs only [nilA_ptr, rr_b h1, rr_at h1, rr_b h2, rr_at h2, drawK_eq, drawK_T, eq_self, cv_64u (show (numR s).1 < 2 ^ 63 by omega), add_int, e2, ct, ZS, Nat.reduceAdd]
        rw [appB (n := 0) (es := []) (ys := (numR s).2.rest.take (numR s).1) (elemsA_bys _ _) (get_last _ _) rfl (by simp; omega), set_last]
        have h3 := get_app h1 [.row 1 (((numR s).2.rest.take (numR s).1).map u8)]
        simp -implicitDefEqProofs only [nilA_ptr, rr_at h3, add_int, e2, rr_sto_at h3, ZS, Nat.reduceAdd]
        rw [set_app h1, List.set_set]
        have tl : ((numR s).2.rest.take (numR s).1).length = (numR s).1 := by rw [List.length_take]; omega
        rw [hbad, hB]
        refine endB_take (u := bys ((numR s).2.rest.take (numR s).1)) ((frz_row (z := 1) (es := ((numR s).2.rest.take (numR s).1).map u8) (by simp) (by simp) (goodL_u8 _)).trans rfl) (good_bys _) rfl ?_
        simp [kills, killAll]
theorem rbytesK {β : Type} {H : List AObj} {l most : Nat} {s : RdR} (h : H[l]? = some s.row) (ho : s.ok) (hm : most ≤ 2 ^ 30) {K : AV → List AObj → List Nat → Option β} : callK (EV C) false n_ref02_Reader_Bytes [.ptr l 1 0 0, .int .i64 (most : Int)] H K = K (bys (bytesR most s).1) (H.set l (bytesR most s).2.row) [] := callM (by simp [goodL, AV.good]) (rbytes_ok h ho hm)
def endR (s : RdR) : Int := if s.bad = true then 3 else if s.at_ < s.B.length then 4 else 0
theorem rend_ok {H : List AObj} {l : Nat} {s : RdR} (h : H[l]? = some s.row) : EV C n_ref02_Reader_End [.ptr l 1 0 0] H = some (.int .i64 (endR s), H, []) := by
  refine ref02_Reader_End_of ?_
  simp -implicitDefEqProofs only [nilA_ptr, rr_bad h, rr_b h, rr_at h, ZS, Nat.reduceAdd]
  unfold endR
  cases hbad : s.bad with
  | true =>
    simp -implicitDefEqProofs only [ZS, Nat.reduceAdd]
    exact endB_at rfl rfl rfl rfl rfl
  | false =>
    simp -implicitDefEqProofs only [Bool.false_eq_true, ZS, Nat.reduceAdd]
    by_cases c : s.at_ < s.B.length
    · have c' : (s.at_ : Int) < (s.B.length : Int) := by omega
      rw [if_pos c', if_pos c]
      exact endB_at rfl rfl rfl rfl rfl
    · have c' : ¬ (s.at_ : Int) < (s.B.length : Int) := by omega
      rw [if_neg c', if_neg c]
      exact endB_at rfl rfl rfl rfl rfl
theorem rendK {β : Type} {H : List AObj} {l : Nat} {s : RdR} (h : H[l]? = some s.row) {K : AV → List AObj → List Nat → Option β} : callK (EV C) false n_ref02_Reader_End [.ptr l 1 0 0] H K = K (.int .i64 (endR s)) H [] := callM rfl (rend_ok h)
def Cmd.cs (c : Cmd) : List AV := [.int .u64 (c.client : Int), .int .u64 (c.seq : Int), .int .i64 c.op, bys c.key, bys c.value]
def Cmd.av (c : Cmd) : AV := .agg c.cs
@[simp] theorem good_cmd (c : Cmd) : c.av.good = true := by simp [Cmd.av, Cmd.cs, AV.good, goodL]
theorem new_cmd {β : Type} (c : Cmd) (H : List AObj) (K : AV → List AObj → List Nat → Option β) : newK c.av H K = K (.ptr H.length 1 0 0) (H ++ [.row 5 [c.av]]) [] := new_agg (by simp [Cmd.cs]) (by simp [Cmd.cs, AV.one, bys]) H K
theorem cm_client {H : List AObj} {l : Nat} {c : Cmd} (h : H[l]? = some (.row 5 [c.av])) : loadA false 1 (.ptr l 1 0 0) H = some (.int .u64 (c.client : Int)) := ld_fld h rfl
theorem cm_seq {H : List AObj} {l : Nat} {c : Cmd} (h : H[l]? = some (.row 5 [c.av])) : loadA false 1 (.ptr l 1 0 1) H = some (.int .u64 (c.seq : Int)) := ld_fld h rfl
theorem cm_op {H : List AObj} {l : Nat} {c : Cmd} (h : H[l]? = some (.row 5 [c.av])) : loadA false 1 (.ptr l 1 0 2) H = some (.int .i64 c.op) := ld_fld h rfl
theorem cm_key {H : List AObj} {l : Nat} {c : Cmd} (h : H[l]? = some (.row 5 [c.av])) : loadA false 1 (.ptr l 1 0 3) H = some (bys c.key) := ld_fld h rfl
theorem cm_value {H : List AObj} {l : Nat} {c : Cmd} (h : H[l]? = some (.row 5 [c.av])) : loadA false 1 (.ptr l 1 0 4) H = some (bys c.value) := ld_fld h rfl
theorem cm_all {H : List AObj} {l : Nat} {c : Cmd} (h : H[l]? = some (.row 5 [c.av])) : loadA true 5 (.ptr l 1 0 0) H = some c.av := ld_agg h rfl
def resW (c : Cmd) : AV := if c.may = true then .tup [bys (cmdB c), .nili] else .tup [bys [], errA 1]
theorem endW (H : List AObj) (E : List Nat) : endB false false 0 (.tup [.nils, (.ifc t_api_Code (.int .i64 1))]) H E = some (.tup [bys [], errA 1], [], []) := endB_frz rfl rfl
theorem Write_ok (c : Cmd) (hw : c.w64) (hk : c.key.length ≤ 2 ^ 50) (hv : c.value.length ≤ 2 ^ 50) : EV C n_command_Write [c.av] [] = some (resW c, [], []) := by
  refine command_Write_of ?_
  have h0 : ([] ++ [AObj.row 5 [c.av]])[0]? = some (.row 5 [c.av]) := rfl
  dsimp only
  rw [new_cmd]
  simp -implicitDefEqProofs only [cm_op h0, cm_value h0, cm_key h0, cm_client h0, cm_seq h0, not_bool, List.length_nil, offA_ptr, Nat.zero_add, Option.bind_some, eql_int, neq_int, lenV_bys, gtr_int]
  unfold resW
  -- what is written when it may be
  have fin : c.may = true → (c.op = 1 ∨ c.op = 2) → (List.length c.key ≤ 64) → (List.length c.value ≤ 1024) → ∀ E, ((callD (EV C) n_coder_Number [.int .u64 (c.client : Int)] ([] ++ [AObj.row 5 [c.av]])).bind fun a49 =>
        (callD (EV C) n_coder_Number [.int .u64 (c.seq : Int)] ([] ++ [AObj.row 5 [c.av]])).bind fun a52 =>
        (cvI .u8 (.int .i64 c.op)).bind fun a55 =>
        (litD 1 1 (.int .u8 0) [(0, a55)] ([] ++ [AObj.row 5 [c.av]])).bind fun a56 =>
        (callD (EV C) n_coder_Bytes [bys c.key] ([] ++ [AObj.row 5 [c.av]])).bind fun a59 =>
        (callD (EV C) n_coder_Bytes [bys c.value] ([] ++ [AObj.row 5 [c.av]])).bind fun a62 =>
        (litD 1 5 .nils [(0, a49), (1, a52), (2, a56), (3, a59), (4, a62)] ([] ++ [AObj.row 5 [c.av]])).bind fun a63 =>
        (callD (EV C) n_Concat_byte [a63] ([] ++ [AObj.row 5 [c.av]])).bind fun a64 =>
        endB false false 0 (.tup [a64, .nili]) ([] ++ [AObj.row 5 [c.av]]) E) = some (.tup [bys (cmdB c), .nili], [], []) := fun hm hop hk hv E => by
    have cu : cvI .u8 (.int .i64 c.op) = some (u8 (UInt8.ofNat c.op.toNat)) := by rcases hop with h | h <;> rw [h] <;> rfl
    have l1 : ∀ (x : UInt8) H, litD 1 1 (.int .u8 0) [(0, u8 x)] H = some (bys [x]) := fun x H => Eq.trans rfl rfl
    have l5 : ∀ (a b c d e : Bs) H, litD 1 5 .nils [(0, bys a), (1, bys b), (2, bys c), (3, bys d), (4, bys e)] H = some (.lst ([a, b, c, d, e].map bys)) := fun a b c d e H => by
      have g : frzL H [bys a, bys b, bys c, bys d, bys e] = some [bys a, bys b, bys c, bys d, bys e] := frzL_good _ _ (by simp [goodL])
      have k : killsL [bys a, bys b, bys c, bys d, bys e] = [] := killsL_good _ (by simp [goodL])
      unfold litD
      simp only [List.map_cons, List.map_nil]
      rw [if_pos (by rw [k]; rfl), g]
      rfl
    have n1 := numF_len c.client
    have n2 := numF_len c.seq
    have n3 := numF_len c.key.length
    have n4 := numF_len c.value.length
    rw [callD_ok (by simp [goodL, AV.good]) (cNumber_ok c.client hw.1), callD_ok (by simp [goodL, AV.good]) (cNumber_ok c.seq hw.2), cu, callD_ok (by simp) (cBytes_ok c.key (by omega)), callD_ok (by simp) (cBytes_ok c.value (by omega))]
    simp only [Option.bind_some, l1, l5]
    rw [callD_ok (by simp [goodL, AV.good]) (Concat_byte_ok _ (by simp) (by simp [bytesB]; omega))]
    refine (endB_good (by simp [AV.good, goodL])).trans ?_
    simp [cmdB]
  by_cases o1 : c.op = 1
  · rw [o1]
    simp -implicitDefEqProofs only [ZS, Nat.reduceAdd]
    by_cases k1 : c.key.length ≤ 64
    · have k1' : ¬ ((64 : Int) < (c.key.length : Int)) := by omega
      rw [if_neg k1']
      by_cases v1 : c.value.length ≤ 1024
      · have v1' : ¬ ((1024 : Int) < (c.value.length : Int)) := by omega
        have hm : c.may = true := by simp [Cmd.may, k1, v1, o1]
        rw [if_neg v1', if_pos hm]
        have := fin hm (.inl o1) k1 v1
        rw [o1] at this
        exact this _
      · have v1' : ((1024 : Int) < (c.value.length : Int)) := by omega
        have hm : ¬ c.may = true := by simp [Cmd.may, v1]
        rw [if_pos v1', if_neg hm]; exact endW _ _
    · have k1' : ((64 : Int) < (c.key.length : Int)) := by omega
      have hm : ¬ c.may = true := by simp [Cmd.may, k1]
      rw [if_pos k1', if_neg hm]; exact endW _ _
  · have o1' : decide (c.op = 1) = false := by simp [o1]
    simp -implicitDefEqProofs only [o1', ZS, Nat.reduceAdd]
    by_cases o2 : c.op = 2
    · simp -implicitDefEqProofs only [o2, ZS, Nat.reduceAdd]
      by_cases v0 : c.value = []
      · have v0' : ¬ ((0 : Int) < (c.value.length : Int)) := by rw [v0]; simp
        have v1' : ¬ ((1024 : Int) < (c.value.length : Int)) := by rw [v0]; simp
        rw [if_neg v0']
        by_cases k1 : c.key.length ≤ 64
        · have k1' : ¬ ((64 : Int) < (c.key.length : Int)) := by omega
          have hm : c.may = true := by simp [Cmd.may, k1, o2, v0]
          rw [if_neg k1', if_neg v1', if_pos hm]
          have := fin hm (.inr o2) k1 (by rw [v0]; simp)
          rw [o2] at this
          exact this _
        · have k1' : ((64 : Int) < (c.key.length : Int)) := by omega
          have hm : ¬ c.may = true := by simp [Cmd.may, k1]
          rw [if_pos k1', if_neg hm]; exact endW _ _
      · have v0' : ((0 : Int) < (c.value.length : Int)) := by
          have := List.length_pos_iff.2 v0; omega
        have hm : ¬ c.may = true := by simp [Cmd.may, o2, v0]
        rw [if_pos v0', if_neg hm]; exact endW _ _
    · have o2' : (!decide (c.op = 2)) = true := by simp [o2]
      have hm : ¬ c.may = true := by simp [Cmd.may, o1, o2]
      simp -implicitDefEqProofs only [o2', ZS, Nat.reduceAdd]
      rw [if_neg hm]; exact endW _ _
theorem May_ok (c : Cmd) (hk : c.key.length ≤ 2 ^ 50) (hv : c.value.length ≤ 2 ^ 50) : EV C n_ref12_May [c.av] [] = some (.bool c.may, [], []) := by
  refine ref12_May_of ?_
  have h0 : ([] ++ [AObj.row 5 [c.av]])[0]? = some (.row 5 [c.av]) := rfl
  dsimp only
  rw [new_cmd]
  simp -implicitDefEqProofs only [cm_op h0, cm_value h0, cm_key h0, cm_client h0, cm_seq h0, not_bool, List.length_nil, offA_ptr, Nat.zero_add, Option.bind_some, eql_int, neq_int, lenV_bys, gtr_int]
  unfold Cmd.may
  by_cases k1 : c.key.length ≤ 64
  · have k1' : ¬ ((64 : Int) < (c.key.length : Int)) := by omega
    by_cases v1 : c.value.length ≤ 1024
    · have v1' : ¬ ((1024 : Int) < (c.value.length : Int)) := by omega
      by_cases o1 : c.op = 1
      · simp -implicitDefEqProofs only [k1, v1, k1', v1', o1, Bool.true_and, Bool.true_or, ZS, Nat.reduceAdd]; exact endB_good rfl
      · by_cases o2 : c.op = 2
        · by_cases v0 : c.value = []
          · have v0' : ((c.value.length : Int) = 0) := by rw [v0]; rfl
            have e12 : ¬ ((2 : Int) = 1) := by decide
            simp -implicitDefEqProofs only [k1, v1, k1', v1', o2, e12, v0', v0, Bool.true_and, Bool.false_or, ZS, Nat.reduceAdd]; exact endB_good rfl
          · have v0' : ¬ ((c.value.length : Int) = 0) := by
              have := List.length_pos_iff.2 v0; omega
            have e12 : ¬ ((2 : Int) = 1) := by decide
            simp -implicitDefEqProofs only [k1, v1, k1', v1', o2, e12, v0', v0, Bool.true_and, Bool.false_or, ZS, Nat.reduceAdd]; exact endB_good rfl
        · simp -implicitDefEqProofs only [k1, v1, k1', v1', o1, o2, Bool.true_and, Bool.false_and, Bool.false_or, ZS, Nat.reduceAdd]; exact endB_good rfl
    · have v1' : ((1024 : Int) < (c.value.length : Int)) := by omega
      simp -implicitDefEqProofs only [k1, v1, k1', v1', Bool.true_and, Bool.false_and, ZS, Nat.reduceAdd]; exact endB_good rfl
  · have k1' : ((64 : Int) < (c.key.length : Int)) := by omega
    simp -implicitDefEqProofs only [k1, k1', Bool.false_and, ZS, Nat.reduceAdd]; exact endB_good rfl
end Go.Pm
namespace Go.Pm
open Go.Proofs
set_option linter.unusedVariables false
set_option linter.unusedSimpArgs false
abbrev zC : List AV := [(.int .u64 0), (.int .u64 0), (.int .i64 0), .nils, .nils]
theorem new_zc {β : Type} (H : List AObj) (K : AV → List AObj → List Nat → Option β) : newK (.agg [(.int .u64 0), (.int .u64 0), (.int .i64 0), .nils, .nils]) H K = K (.ptr H.length 1 0 0) (H ++ [.row 5 [.agg zC]]) [] := new_agg (by simp) rfl H K
theorem fill_zc {β : Type} (K : List AV → Option β) : (fillB (AV.cells (.agg [(.int .u64 0), (.int .u64 0), (.int .i64 0), .nils, .nils])) []).bind K = K zC := rfl
theorem fill_cmd {β : Type} (c : Cmd) (K : List AV → Option β) : (fillB (AV.cells (.agg [(.int .u64 0), (.int .u64 0), (.int .i64 0), .nils, .nils])) [(0, 1, .int .u64 (c.client : Int)), (1, 1, .int .u64 (c.seq : Int)), (2, 1, .int .i64 c.op), (3, 1, bys c.key), (4, 1, bys c.value)]).bind K = K c.cs := by
  simp [fillB, AV.cells, AV.isBad, bys, Cmd.cs]
theorem sto_cmd {β : Type} {H : List AObj} {b : Nat} {cs : List AV} {c : Cmd} {K : List AObj → List Nat → Option β} (h : H[b]? = some (.row 5 [.agg cs])) (hc : cs.length = 5) : stoK 5 (.ptr b 1 0 0) (.agg c.cs) H K = K (H.set b (.row 5 [c.av])) [] := by
  rw [sto_agg h hc (by simp [Cmd.cs]) (by simp [Cmd.cs, AV.one, bys]), escs_good (by simp [Cmd.cs, goodL, AV.good])]; rfl
theorem sto_cmd' {β : Type} {H : List AObj} {b : Nat} {cs : List AV} {c : Cmd} {K : List AObj → List Nat → Option β} (h : H[b]? = some (.row 5 [.agg cs])) (hc : cs.length = 5) : stoK 5 (.ptr b 1 0 0) c.av H K = K (H.set b (.row 5 [c.av])) [] := sto_cmd h hc
theorem sto_zc {β : Type} {H : List AObj} {b : Nat} {cs : List AV} {K : List AObj → List Nat → Option β} (h : H[b]? = some (.row 5 [.agg cs])) (hc : cs.length = 5) : stoK 5 (.ptr b 1 0 0) (.agg zC) H K = K (H.set b (.row 5 [.agg zC])) [] := by
  rw [sto_agg h hc rfl rfl]; rfl
theorem frz_zc (H : List AObj) : frz H (.agg zC) = some Cmd.zero.av := rfl
def resCR (p : Int × Cmd) : AV := .tup [p.2.av, errA p.1]
def resRR (p : Int × Cmd) : AV := .tup [p.2.av, .int .i64 p.1]
@[simp] theorem good_resCR (p : Int × Cmd) : (resCR p).good = true := by simp [resCR, AV.good, goodL]
@[simp] theorem good_resRR (p : Int × Cmd) : (resRR p).good = true := by simp [resRR, AV.good, goodL]
theorem endCR (n : Int) (H : List AObj) (E : List Nat) : endB false false 0 (.tup [.agg zC, errA n]) H E = some (resCR (n, Cmd.zero), [], []) :=
  endB_frz (frz_tup (frzL_cons (frz_zc H) (frzL_cons (frz_good _ _ (good_err n)) rfl))) (good_resCR _)
theorem endRR (n : Int) (H : List AObj) (E : List Nat) : endB false false 0 (.tup [.agg zC, .int .i64 n]) H E = some (resRR (n, Cmd.zero), [], []) :=
  endB_frz (frz_tup (frzL_cons (frz_zc H) rfl)) (good_resRR _)
theorem runP_facts (b : Bs) : (runP b).c.w64 ∧ (runP b).c.key.length ≤ 64 ∧ (runP b).c.value.length ≤ 1024 :=
  ⟨⟨numP_lt _, numP_lt _⟩, (bytesP_len 64 _).1, (bytesP_len 1024 _).1⟩
theorem neqEc (ms : Array (String × TypeId)) (n m : Int) (hm : m ≠ 0) : binA .neq (.interface ms) (cmpT Try.prog) false (errA n) (.ifc t_api_Code (.int .i64 m)) = some (.bool (!decide (n = m))) := by
  unfold errA
  split
  · rename_i h; subst h
    have : decide ((0 : Int) = m) = false := by simp; omega
    rw [this]; rfl
  · simp [codeA, binA, eqA, cmpE]
theorem endRd_range (s : Rd) : endRd s = 0 ∨ endRd s = 3 ∨ endRd s = 4 := by unfold endRd; split <;> (try split) <;> simp
theorem cRead_ok (b : Bs) (hb : b.length ≤ 2 ^ 46) : EV C n_command_Read [bys b] [] = some (resCR (readF b), [], []) := by
  rw [← readP_eq]
  refine command_Read_of ?_
  have f := runP_facts b
  have l0 : b.length ≤ 2 ^ 50 := by omega
  have l1 := numP_len ⟨b, false⟩
  have l2 := numP_len (numP ⟨b, false⟩).2
  have l3 := byteP_len (numP (numP ⟨b, false⟩).2).2
  have l4 := (bytesP_len 64 (byteP (numP (numP ⟨b, false⟩).2).2).2).2
  have hc : Cmd.mk (numP ⟨b, false⟩).1 (numP (numP ⟨b, false⟩).2).1 ((byteP (numP (numP ⟨b, false⟩).2).2).1.toNat : Int) (bytesP 64 (byteP (numP (numP ⟨b, false⟩).2).2).2).1 (bytesP 1024 (bytesP 64 (byteP (numP (numP ⟨b, false⟩).2).2).2).2).1 = (runP b).c := rfl
  have hs : (bytesP 1024 (bytesP 64 (byteP (numP (numP ⟨b, false⟩).2).2).2).2).2 = (runP b).s := rfl
  simp only at l1
  dsimp only
  rw [new_zc, newRK b hb]
  simp only [List.length_nil, List.nil_append, List.cons_append, List.length_singleton]
  rw [cnumK (l := 1) (s := ⟨b, false⟩) rfl l0]
  simp only [List.set_cons_succ, List.set_cons_zero]
  rw [cnumK (l := 1) rfl (by omega)]
  simp only [List.set_cons_succ, List.set_cons_zero]
  rw [byteK (l := 1) rfl (by omega)]
  simp only [List.set_cons_succ, List.set_cons_zero, cv_i64, Option.bind_some]
  rw [show (64 : Int) = ((64 : Nat) : Int) from rfl, cbytesK (l := 1) rfl (by omega) (by decide)]
  simp only [List.set_cons_succ, List.set_cons_zero]
  rw [show (1024 : Int) = ((1024 : Nat) : Int) from rfl, cbytesK (l := 1) rfl (by omega) (by decide)]
  simp only [List.set_cons_succ, List.set_cons_zero]
  have F := fill_cmd (β := R3) (runP b).c
  rw [← hc] at F
  simp only at F
  rw [F, hs, hc, new_zc]
  simp only [List.length_cons, List.length_nil, List.cons_append, List.nil_append, Nat.zero_add, Nat.reduceAdd]
  rw [sto_cmd (b := 2) rfl rfl]
  simp only [List.set_cons_succ, List.set_cons_zero]
  rw [cendK (l := 1) rfl, cm_all (l := 2) rfl, Option.bind_some, callK_ok (by simp [goodL]) (Write_ok _ f.1 (by omega) (by omega))]
  have bad : ∀ (n : Int) (E : List Nat), ((fillB (AV.cells (.agg [(.int .u64 0), (.int .u64 0), (.int .i64 0), .nils, .nils])) []).bind fun c20 =>
      stoK 5 (.ptr 0 1 0 0) (.agg c20) [AObj.row 5 [.agg zC], (runP b).s.row, .row 5 [(runP b).c.av]] fun H21 E21 =>
      (loadA true 5 (.ptr 0 1 0 0) H21).bind fun a22 => endB false false 0 (.tup [a22, errA n]) H21 (E21 ++ E)) = some (resCR (n, Cmd.zero), [], []) := fun n E => by
    rw [fill_zc, sto_zc (b := 0) rfl rfl]
    simp only [List.set_cons_zero]
    rw [ld_agg (l := 0) (z := 5) rfl rfl]
    exact endCR n _ _
  have good : ∀ (E : List Nat), ((loadA true 5 (.ptr 2 1 0 0) [AObj.row 5 [.agg zC], (runP b).s.row, .row 5 [(runP b).c.av]]).bind fun a23 =>
      stoK 5 (.ptr 0 1 0 0) a23 [AObj.row 5 [.agg zC], (runP b).s.row, .row 5 [(runP b).c.av]] fun H24 E24 =>
      (loadA true 5 (.ptr 0 1 0 0) H24).bind fun a25 => endB false false 0 (.tup [a25, .nili]) H24 (E24 ++ E)) = some (resCR (0, (runP b).c), [], []) := fun E => by
    rw [cm_all (l := 2) rfl, Option.bind_some, sto_cmd' (b := 0) rfl rfl]
    simp only [List.set_cons_zero]
    rw [cm_all (l := 0) rfl]
    exact endB_good (v := resCR (0, (runP b).c)) (good_resCR _)
  have b3 := bad 3
  rw [show errA 3 = AV.ifc t_api_Code (.int .i64 3) from rfl] at b3
  unfold readP resW
  dsimp only
  have er := endRd_range (runP b).s
  cases hm : (runP b).c.may with
  | true =>
    simp -implicitDefEqProofs only [neq_nil1, neqE0, Bool.true_eq_false, false_and, ZS, Nat.reduceAdd]
    rcases er with e | e | e
    · simp -implicitDefEqProofs only [e, ZS, Nat.reduceAdd]
      exact good _
    · have e3 : ¬ ((3 : Int) = 0) := by decide
      simp -implicitDefEqProofs only [e, e3, ZS, Nat.reduceAdd]
      exact bad 3 _
    · have e3 : ¬ ((4 : Int) = 0) := by decide
      simp -implicitDefEqProofs only [e, e3, ZS, Nat.reduceAdd]
      exact bad 4 _
  | false =>
    have e3 : ¬ ((3 : Int) = 0) := by decide
    have w1 : ∀ ms c, binA .neq (.interface ms) c true (errA 1) .nili = some (.bool true) := fun ms c => rfl
    have w3 : ∀ ms c, binA .neq (.interface ms) c true (.ifc t_api_Code (.int .i64 3)) .nili = some (.bool true) := fun ms c => rfl
    simp -implicitDefEqProofs only [w1, w3, neqE0, neqEc _ _ _ e3, Bool.false_eq_true, ZS, Nat.reduceAdd]
    rcases er with e | e | e
    · have e4 : ¬ ((0 : Int) = 3) := by decide
      simp -implicitDefEqProofs only [e, e3, e4, ne_eq, not_false_eq_true, and_self, ZS, Nat.reduceAdd]
      exact b3 _
    · simp -implicitDefEqProofs only [e, e3, ne_eq, not_true_eq_false, and_false, ZS, Nat.reduceAdd]
      exact bad 3 _
    · have e4 : ¬ ((4 : Int) = 3) := by decide
      simp -implicitDefEqProofs only [e, e3, e4, ne_eq, not_false_eq_true, and_self, ZS, Nat.reduceAdd]
      exact b3 _
end Go.Pm
namespace Go.Pm
open Go.Proofs
set_option linter.unusedVariables false
set_option linter.unusedSimpArgs false
theorem new_rr {β : Type} (b : Bs) (H : List AObj) (K : AV → List AObj → List Nat → Option β) : (fillB (AV.cells (.agg [.nils, (.int .i64 0), (.bool false)])) [(0, 1, bys b)]).bind (fun c2 => newK (.agg c2) H K) = K (.ptr H.length 1 0 0) (H ++ [RdR.row ⟨b, 0, false⟩]) [] := by
  have fl : ∀ (K : List AV → Option β), (fillB (AV.cells (.agg [.nils, (.int .i64 0), (.bool false)])) [(0, 1, bys b)]).bind K = K [bys b, .int .i64 0, .bool false] := fun K => by simp [fillB, AV.cells, AV.isBad, bys]
  rw [fl, new_agg (by simp) (by simp [AV.one, bys])]
  rfl
theorem runR_facts (b : Bs) (hb : b.length ≤ 2 ^ 50) : (runR b).c.w64 ∧ (runR b).c.key.length ≤ 64 ∧ (runR b).c.value.length ≤ 1024 ∧ (runR b).s.B = b := by
  have o0 : RdR.ok ⟨b, 0, false⟩ := ⟨Nat.zero_le _, hb⟩
  have o1 := numR_ok o0
  refine ⟨⟨numR_lt _ o0, numR_lt _ o1⟩, bytesR_len, bytesR_len, ?_⟩
  show (bytesR 1024 (bytesR 64 (byteR (numR (numR ⟨b, 0, false⟩).2).2).2).2).2.B = b
  rw [bytesR_B, bytesR_B, byteR_B, numR_B, numR_B]
/-- a field is stored -/
theorem sto_f {β : Type} {H : List AObj} {l j : Nat} {cs : List AV} {v : AV} {K : List AObj → List Nat → Option β} (h : H[l]? = some (.row 5 [.agg cs])) (hj : j < cs.length) (hv : v.cells = [v]) (h1 : v.one = true) (hg : v.good = true) :
    stoK 1 (.ptr l 1 0 j) v H K = K (H.set l (.row 5 [.agg (cs.set j v)])) [] := by
  rw [sto_fld h hj hv h1, escs_good (by simp [goodL, hg])]
theorem rRead_ok (b : Bs) (hb : b.length ≤ 2 ^ 46) : EV C n_ref12_Read [bys b] [] = some (resRR (readF b), [], []) := by
  rw [← readR_eq]
  refine ref12_Read_of ?_
  have f := runR_facts b (by omega)
  have o0 : RdR.ok ⟨b, 0, false⟩ := ⟨Nat.zero_le _, by simp only; omega⟩
  have o1 := numR_ok o0
  have o2 := numR_ok o1
  have o3 := byteR_ok o2
  have o4 := bytesR_ok (m := 64) o3
  have hs : (bytesR 1024 (bytesR 64 (byteR (numR (numR ⟨b, 0, false⟩).2).2).2).2).2 = (runR b).s := rfl
  dsimp only
  rw [new_zc, new_rr]
  simp only [List.length_nil, List.nil_append, List.cons_append, List.length_singleton]
  rw [fill_zc, new_zc]
  simp only [List.length_cons, List.length_nil, List.cons_append, List.nil_append, Nat.zero_add, Nat.reduceAdd]
  rw [sto_zc (b := 2) rfl rfl]
  simp only [List.set_cons_succ, List.set_cons_zero]
  rw [rnumK (l := 1) (s := ⟨b, 0, false⟩) rfl o0]
  simp only [List.set_cons_succ, List.set_cons_zero, offA_ptr, Option.bind_some, Nat.zero_add]
  rw [sto_f (l := 2) rfl (by simp) rfl rfl rfl]
  simp only [List.set_cons_succ, List.set_cons_zero]
  rw [rnumK (l := 1) rfl o1]
  simp only [List.set_cons_succ, List.set_cons_zero, offA_ptr, Option.bind_some, Nat.zero_add]
  rw [sto_f (l := 2) rfl (by simp) rfl rfl rfl]
  simp only [List.set_cons_succ, List.set_cons_zero]
  rw [rbyteK (l := 1) rfl o2]
  simp only [List.set_cons_succ, List.set_cons_zero, cv_i64, offA_ptr, Option.bind_some, Nat.zero_add]
  rw [sto_f (l := 2) rfl (by simp) rfl rfl rfl]
  simp only [List.set_cons_succ, List.set_cons_zero]
  rw [show (64 : Int) = ((64 : Nat) : Int) from rfl, rbytesK (l := 1) rfl o3 (by decide)]
  simp only [List.set_cons_succ, List.set_cons_zero, offA_ptr, Option.bind_some, Nat.zero_add]
  rw [sto_f (l := 2) rfl (by simp) rfl rfl (good_bys _)]
  simp only [List.set_cons_succ, List.set_cons_zero]
  rw [show (1024 : Int) = ((1024 : Nat) : Int) from rfl, rbytesK (l := 1) rfl o4 (by decide)]
  simp only [List.set_cons_succ, List.set_cons_zero, offA_ptr, Option.bind_some, Nat.zero_add]
  rw [sto_f (l := 2) rfl (by simp) rfl rfl (good_bys _), hs]
  simp only [List.set_cons_succ, List.set_cons_zero]
  rw [show AV.agg [.int .u64 ((numR ⟨b, 0, false⟩).1 : Int), .int .u64 ((numR (numR ⟨b, 0, false⟩).2).1 : Int), .int .i64 ((byteR (numR (numR ⟨b, 0, false⟩).2).2).1.toNat : Int), bys (bytesR 64 (byteR (numR (numR ⟨b, 0, false⟩).2).2).2).1, bys (bytesR 1024 (bytesR 64 (byteR (numR (numR ⟨b, 0, false⟩).2).2).2).2).1] = (runR b).c.av from rfl]
  rw [cm_all (l := 2) rfl, Option.bind_some, callK_ok (by simp [goodL]) (May_ok _ (by omega) (by omega))]
  have bad : ∀ (n : Int) (E : List Nat), ((fillB (AV.cells (.agg [(.int .u64 0), (.int .u64 0), (.int .i64 0), .nils, .nils])) []).bind fun c20 =>
      stoK 5 (.ptr 0 1 0 0) (.agg c20) [AObj.row 5 [.agg zC], (runR b).s.row, .row 5 [(runR b).c.av]] fun H21 E21 =>
      (loadA true 5 (.ptr 0 1 0 0) H21).bind fun a22 => endB false false 0 (.tup [a22, .int .i64 n]) H21 (E21 ++ E)) = some (resRR (n, Cmd.zero), [], []) := fun n E => by
    rw [fill_zc, sto_zc (b := 0) rfl rfl]
    simp only [List.set_cons_zero]
    rw [ld_agg (l := 0) (z := 5) rfl rfl]
    exact endRR n _ _
  have good : ∀ (E : List Nat), ((loadA true 5 (.ptr 2 1 0 0) [AObj.row 5 [.agg zC], (runR b).s.row, .row 5 [(runR b).c.av]]).bind fun a23 =>
      stoK 5 (.ptr 0 1 0 0) a23 [AObj.row 5 [.agg zC], (runR b).s.row, .row 5 [(runR b).c.av]] fun H24 E24 =>
      (loadA true 5 (.ptr 0 1 0 0) H24).bind fun a25 => endB false false 0 (.tup [a25, .int .i64 0]) H24 (E24 ++ E)) = some (resRR (0, (runR b).c), [], []) := fun E => by
    rw [cm_all (l := 2) rfl, Option.bind_some, sto_cmd' (b := 0) rfl rfl]
    simp only [List.set_cons_zero]
    rw [cm_all (l := 0) rfl]
    exact endB_good (v := resRR (0, (runR b).c)) (good_resRR _)
  have h1 : [AObj.row 5 [.agg zC], (runR b).s.row, .row 5 [(runR b).c.av]][1]? = some (runR b).s.row := rfl
  simp -implicitDefEqProofs only [nilA_ptr, rr_bad h1, rr_at h1, not_bool, ZS, Nat.reduceAdd]
  unfold readR
  cases hbad : (runR b).s.bad with
  | true =>
    simp -implicitDefEqProofs only [true_or, ZS, Nat.reduceAdd]
    exact bad 3 _
  | false =>
    simp -implicitDefEqProofs only [Bool.false_eq_true, false_or, ZS, Nat.reduceAdd]
    cases hm : (runR b).c.may with
    | false =>
      simp -implicitDefEqProofs only [ZS, Nat.reduceAdd]
      exact bad 3 _
    | true =>
      simp -implicitDefEqProofs only [Bool.true_eq_false, ZS, Nat.reduceAdd]
      by_cases c : (runR b).s.at_ < b.length
      · have c' : ((runR b).s.at_ : Int) < (b.length : Int) := by omega
        rw [if_pos c', if_pos c]
        exact bad 4 _
      · have c' : ¬ ((runR b).s.at_ : Int) < (b.length : Int) := by omega
        rw [if_neg c', if_neg c]
        exact good _
end Go.Pm
