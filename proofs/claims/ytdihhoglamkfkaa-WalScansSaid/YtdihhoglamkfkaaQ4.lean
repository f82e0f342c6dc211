/- A part of the proof: what the functions of the program answer, as plain lists and numbers. -/
import Derived.Test.YtdihhoglamkfkaaQ3
namespace Go.Pm
open Go.Proofs
set_option linter.unusedVariables false
set_option linter.unusedSimpArgs false
theorem wal_check_ok (a b : List UInt8) (h : a.length + b.length ≤ 2^46) : EV C n_wal_check [bys a, bys b] [] = some (.int .u32 (crc (a ++ b)), [], []) := by
  refine wal_check_of ?_
  have e1 : ∀ (H : List AObj) (K : AV → List AObj → List Nat → Option R3), litK 1 2 .nils [(0, bys a), (1, bys b)] H K = K (.lst ([a, b].map bys)) H [] := fun H K => rfl
  simp only [e1]
  rw [callK_ok (by simp) (Concat_byte_ok [a, b] (by simp) (by simpa using h))]
  rw [show [a, b].flatten = a ++ b by simp]
  rw [callK_ok (by simp) (wal_Sum_ok (a ++ b) (by rw [List.length_append]; omega))]
  exact endB_good rfl
theorem Clone_byte_ok (l : List UInt8) (h : l.length ≤ 2^46) : EV C n_Clone_byte [bys l] [] = some (bys l, [], []) := by
  cases l with
  | nil =>
    refine clone_nil (C0 := C0) (l := [n_Clone_byte]) rfl rfl ?_ ?_
    · refine Clone_byte_of ?_
      show endB false false 0 .nils [] [] = _
      exact endB_frz (u := .lst []) rfl rfl
    · refine Clone_byte_of ?_
      show endB false false 0 (.slc 0 0 0 0) [.row 1 []] [] = _
      exact endB_frz (u := .lst []) rfl rfl
  | cons x l =>
    rw [show bys (x :: l) = .lst (u8 x :: l.map u8) from rfl, clone_cons (C0 := C0) (l := [n_Clone_byte]) rfl rfl]
    refine Clone_byte_of ?_
    have e1 : binA .eql (.slice 5) (cmpT Try.prog) true (.lst (u8 x :: l.map u8)) .nils = some (.bool false) := rfl
    have e2 : ∀ (K : AV → List AObj → List Nat → Option R3), rawK 1 0 (.int .u8 0) [] [] K = K (.slc 0 0 0 0) [.row 1 []] [] := fun K => rfl
    simp only [e1, e2, Option.bind_some, condK_f]
    rw [appK_row (n := 0) (es := []) (ys := u8 x :: l.map u8) rfl rfl rfl rfl (by decide) (by decide) (by decide) (by simp at h ⊢; omega)]
    exact endB_frz (frz_row (z := 1) (es := u8 x :: l.map u8) rfl (by simp) (goodL_u8 (x :: l))) (good_bys (x :: l))
/-- a record's frame -/
def frame (l : List UInt8) : List UInt8 := fourL l.length ++ (fourL (crc (fourL l.length ++ l)) ++ l)
theorem wal_Frame_ok (l : List UInt8) (h : l.length ≤ 2097152) : EV C n_wal_Frame [bys l] [] = some (.tup [bys (frame l), .nili], [], []) := by
  refine wal_Frame_of ?_
  have e1 : ¬ ((2097152 : Int) < (l.length : Int)) := by omega
  simp only [lenV_bys, Option.bind_some, gtr_int, e1, decide_false, condK_f, cvI_int, wrap_u32 (show l.length < 2^32 by omega)]
  rw [callK_ok (by simp) (wal_four_ok l.length (by omega))]
  rw [callK_ok (by simp) (wal_check_ok (fourL l.length) l (by simp [fourL]; omega))]
  rw [callK_ok (by simp) (wal_four_ok _ (crc_lt _))]
  have e2 : ∀ (a b c : List UInt8) (H : List AObj) (K : AV → List AObj → List Nat → Option R3), litK 1 3 .nils [(0, bys a), (1, bys b), (2, bys c)] H K = K (.lst ([a, b, c].map bys)) H [] := fun a b c H K => rfl
  rw [e2]
  rw [callK_ok (by simp) (Concat_byte_ok _ (by simp) (by simp [fourL]; omega))]
  refine endB_good (by simp) |>.trans ?_
  simp [frame]
theorem ref16_Frame_ok (l : List UInt8) (h : l.length ≤ 2097152) : EV C n_ref16_Frame [bys l] [] = some (bys (frame l), [], []) := by
  refine ref16_Frame_of ?_
  simp only [lenV_bys, Option.bind_some, cvI_int, wrap_u32 (show l.length < 2^32 by omega)]
  rw [callK_raw (ref16_four_ok l.length (by omega) [])]
  have e2 : ∀ (H : List AObj) (K : AV → List AObj → List Nat → Option R3), rawK 1 0 (.int .u8 0) [] H K = K (.slc H.length 0 0 0) (H ++ [.row 1 []]) [] := fun H K => rfl
  simp only [e2, List.length_nil, List.nil_append, List.length_singleton, List.singleton_append]
  have f4 : ∀ v, (fourL v).length = 4 := fun v => rfl
  rw [appK_row (n := 0) (es := []) (ys := (fourL l.length).map u8) (elemsA_row (n := 4) rfl rfl) rfl rfl (lz_u8 _) (by decide) (by decide) (by decide) (by simp [f4])]
  rw [appK_row (n := 0 + ((fourL l.length).map u8).length) (es := [] ++ (fourL l.length).map u8) (ys := l.map u8) rfl rfl rfl (lz_u8 _) (by decide) (by decide) (by decide) (by simp [f4]; omega)]
  rw [callK_frz (bs := [bys (fourL l.length ++ l)]) (by
    simp only [frzL]
    rw [frz_row (z := 1) (es := (fourL l.length ++ l).map u8) (by simp) (by simp) (goodL_u8 _)]; rfl) (by simp) (ref16_Sum_ok _ (by simp [f4]; omega))]
  rw [callK_raw (ref16_four_ok _ (crc_lt _) _)]
  simp only [killsL, kills, List.append_nil, killAll, List.set_cons_succ, List.set_cons_zero, List.length_cons, List.length_nil, List.cons_append, List.nil_append, Nat.reduceAdd]
  rw [appK_row (es := (fourL l.length).map u8) (n := 4) (ys := (fourL (crc (fourL l.length ++ l))).map u8) (elemsA_row (n := 4) rfl rfl) rfl rfl (lz_u8 _) (by decide) (by decide) (by decide) (by simp [f4])]
  rw [appK_row (n := 4 + ((fourL (crc (fourL l.length ++ l))).map u8).length) (es := (fourL l.length).map u8 ++ (fourL (crc (fourL l.length ++ l))).map u8) (ys := l.map u8) rfl rfl rfl (lz_u8 _) (by decide) (by decide) (by decide) (by simp [f4]; omega)]
  refine (endB_frz (frz_row (z := 1) (es := (frame l).map u8) (by simp [frame]) (by simp [frame, f4]; omega) (goodL_u8 _)) (good_bys _)).trans rfl
end Go.Pm
