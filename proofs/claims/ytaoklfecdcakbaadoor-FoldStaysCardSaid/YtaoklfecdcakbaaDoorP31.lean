/- A part of the proof: what the functions of the program answer, as plain lists and numbers. -/
import Derived.Test.YtaoklfecdcakbaaDoorP10
import Derived.Test.YtaoklfecdcakbaaDoorP30
namespace Go.Pm
open Go.Proofs
set_option linter.unusedVariables false
set_option linter.unusedSimpArgs false
def Cmd.cs (c : Cmd) : List AV := [.int .u64 (c.client : Int), .int .u64 (c.seq : Int), .int .i64 c.op, bys c.key, bys c.value]
def Cmd.av (c : Cmd) : AV := .agg c.cs
@[simp] theorem good_cmd (c : Cmd) : c.av.good = true := by simp [Cmd.av, Cmd.cs, AV.good, goodL]
theorem new_cmd {β : Type} (c : Cmd) (H : List AObj) (K : AV → List AObj → List Nat → Option β) : newK c.av H K = K (.ptr H.length 1 0 0) (H ++ [.row 5 [c.av]]) [] := new_agg (by simp [Cmd.cs]) (by simp [Cmd.cs, AV.one, bys]) H K
theorem cm_client {H : List AObj} {l : Nat} {c : Cmd} (h : H[l]? = some (.row 5 [c.av])) : loadA false 1 (.ptr l 1 0 0) H = some (.int .u64 (c.client : Int)) := ld_fld h rfl
theorem cm_seq {H : List AObj} {l : Nat} {c : Cmd} (h : H[l]? = some (.row 5 [c.av])) : loadA false 1 (.ptr l 1 0 1) H = some (.int .u64 (c.seq : Int)) := ld_fld h rfl
theorem cm_op {H : List AObj} {l : Nat} {c : Cmd} (h : H[l]? = some (.row 5 [c.av])) : loadA false 1 (.ptr l 1 0 2) H = some (.int .i64 c.op) := ld_fld h rfl
theorem cm_key {H : List AObj} {l : Nat} {c : Cmd} (h : H[l]? = some (.row 5 [c.av])) : loadA false 1 (.ptr l 1 0 3) H = some (bys c.key) := ld_fld h rfl
theorem cm_value {H : List AObj} {l : Nat} {c : Cmd} (h : H[l]? = some (.row 5 [c.av])) : loadA false 1 (.ptr l 1 0 4) H = some (bys c.value) := ld_fld h rfl
theorem cm_all {H : List AObj} {l : Nat} {c : Cmd} (h : H[l]? = some (.row 5 [c.av])) : loadA true 5 (.ptr l 1 0 0) H = some c.av := ld_agg h rfl
def resW (c : Cmd) : AV := if c.may = true then .tup [bys (cmdB c), .nili] else .tup [bys [], errA 1]
theorem endW (H : List AObj) (E : List Nat) : endB false false 0 (.tup [.nils, (.ifc t_api_Code (.int .i64 1))]) H E = some (.tup [bys [], errA 1], [], []) := endB_frz rfl rfl
theorem Write_ok (c : Cmd) (hw : c.w64) (hk : c.key.length ≤ 2 ^ 50) (hv : c.value.length ≤ 2 ^ 50) : EV C n_command_Write [c.av] [] = some (resW c, [], []) := by
  refine command_Write_of ?_
  have h0 : ([] ++ [AObj.row 5 [c.av]])[0]? = some (.row 5 [c.av]) := rfl
  dsimp only
  rw [new_cmd]
  simp -implicitDefEqProofs only [cm_op h0, cm_value h0, cm_key h0, cm_client h0, cm_seq h0, not_bool, List.length_nil, offA_ptr, Nat.zero_add, Option.bind_some, eql_int, neq_int, lenV_bys, gtr_int]
  unfold resW
  -- what is written when it may be
  have fin : c.may = true → (c.op = 1 ∨ c.op = 2) → (List.length c.key ≤ 64) → (List.length c.value ≤ 1024) → ∀ E, ((callD (EV C) n_coder_Number [.int .u64 (c.client : Int)] ([] ++ [AObj.row 5 [c.av]])).bind fun a49 =>
        (callD (EV C) n_coder_Number [.int .u64 (c.seq : Int)] ([] ++ [AObj.row 5 [c.av]])).bind fun a52 =>
        (cvI .u8 (.int .i64 c.op)).bind fun a55 =>
        (litD 1 1 (.int .u8 0) [(0, a55)] ([] ++ [AObj.row 5 [c.av]])).bind fun a56 =>
        (callD (EV C) n_coder_Bytes [bys c.key] ([] ++ [AObj.row 5 [c.av]])).bind fun a59 =>
        (callD (EV C) n_coder_Bytes [bys c.value] ([] ++ [AObj.row 5 [c.av]])).bind fun a62 =>
        (litD 1 5 .nils [(0, a49), (1, a52), (2, a56), (3, a59), (4, a62)] ([] ++ [AObj.row 5 [c.av]])).bind fun a63 =>
        (callD (EV C) n_Concat_byte [a63] ([] ++ [AObj.row 5 [c.av]])).bind fun a64 =>
        endB false false 0 (.tup [a64, .nili]) ([] ++ [AObj.row 5 [c.av]]) E) = some (.tup [bys (cmdB c), .nili], [], []) := fun hm hop hk hv E => by
    have cu : cvI .u8 (.int .i64 c.op) = some (u8 (UInt8.ofNat c.op.toNat)) := by rcases hop with h | h <;> rw [h] <;> rfl
    have l1 : ∀ (x : UInt8) H, litD 1 1 (.int .u8 0) [(0, u8 x)] H = some (bys [x]) := fun x H => Eq.trans rfl rfl
    have l5 : ∀ (a b c d e : Bs) H, litD 1 5 .nils [(0, bys a), (1, bys b), (2, bys c), (3, bys d), (4, bys e)] H = some (.lst ([a, b, c, d, e].map bys)) := fun a b c d e H => by
      have g : frzL H [bys a, bys b, bys c, bys d, bys e] = some [bys a, bys b, bys c, bys d, bys e] := frzL_good _ _ (by simp [goodL])
      have k : killsL [bys a, bys b, bys c, bys d, bys e] = [] := killsL_good _ (by simp [goodL])
      unfold litD
      simp only [List.map_cons, List.map_nil]
      rw [if_pos (by rw [k]; rfl), g]
      rfl
    have n1 := numF_len c.client
    have n2 := numF_len c.seq
    have n3 := numF_len c.key.length
    have n4 := numF_len c.value.length
    rw [callD_ok (by simp [goodL, AV.good]) (cNumber_ok c.client hw.1), callD_ok (by simp [goodL, AV.good]) (cNumber_ok c.seq hw.2), cu, callD_ok (by simp) (cBytes_ok c.key (by omega)), callD_ok (by simp) (cBytes_ok c.value (by omega))]
    simp only [Option.bind_some, l1, l5]
    rw [callD_ok (by simp [goodL, AV.good]) (Concat_byte_ok _ (by simp) (by simp [bytesB]; omega))]
    refine (endB_good (by simp [AV.good, goodL])).trans ?_
    simp [cmdB]
  by_cases o1 : c.op = 1
  · rw [o1]
    simp -implicitDefEqProofs only [ZS, Nat.reduceAdd]
    by_cases k1 : c.key.length ≤ 64
    · have k1' : ¬ ((64 : Int) < (c.key.length : Int)) := by omega
      rw [if_neg k1']
      by_cases v1 : c.value.length ≤ 1024
      · have v1' : ¬ ((1024 : Int) < (c.value.length : Int)) := by omega
        have hm : c.may = true := by simp [Cmd.may, k1, v1, o1]
        rw [if_neg v1', if_pos hm]
        have := fin hm (.inl o1) k1 v1
        rw [o1] at this
        exact this _
      · have v1' : ((1024 : Int) < (c.value.length : Int)) := by omega
        have hm : ¬ c.may = true := by simp [Cmd.may, v1]
        rw [if_pos v1', if_neg hm]; exact endW _ _
    · have k1' : ((64 : Int) < (c.key.length : Int)) := by omega
      have hm : ¬ c.may = true := by simp [Cmd.may, k1]
      rw [if_pos k1', if_neg hm]; exact endW _ _
  · have o1' : decide (c.op = 1) = false := by simp [o1]
    simp -implicitDefEqProofs only [o1', ZS, Nat.reduceAdd]
    by_cases o2 : c.op = 2
    · simp -implicitDefEqProofs only [o2, ZS, Nat.reduceAdd]
      by_cases v0 : c.value = []
      · have v0' : ¬ ((0 : Int) < (c.value.length : Int)) := by rw [v0]; simp
        have v1' : ¬ ((1024 : Int) < (c.value.length : Int)) := by rw [v0]; simp
        rw [if_neg v0']
        by_cases k1 : c.key.length ≤ 64
        · have k1' : ¬ ((64 : Int) < (c.key.length : Int)) := by omega
          have hm : c.may = true := by simp [Cmd.may, k1, o2, v0]
          rw [if_neg k1', if_neg v1', if_pos hm]
          have := fin hm (.inr o2) k1 (by rw [v0]; simp)
          rw [o2] at this
          exact this _
        · have k1' : ((64 : Int) < (c.key.length : Int)) := by omega
          have hm : ¬ c.may = true := by simp [Cmd.may, k1]
          rw [if_pos k1', if_neg hm]; exact endW _ _
      · have v0' : ((0 : Int) < (c.value.length : Int)) := by
          have := List.length_pos_iff.2 v0; omega
        have hm : ¬ c.may = true := by simp [Cmd.may, o2, v0]
        rw [if_pos v0', if_neg hm]; exact endW _ _
    · have o2' : (!decide (c.op = 2)) = true := by simp [o2]
      have hm : ¬ c.may = true := by simp [Cmd.may, o1, o2]
      simp -implicitDefEqProofs only [o2', ZS, Nat.reduceAdd]
      rw [if_neg hm]; exact endW _ _
end Go.Pm
