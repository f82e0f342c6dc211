/- A part of the proof: what the functions of the program answer, as plain lists and numbers. -/
import Derived.Test.YtahipmiaknbkoaaP18
namespace Go.Pm
open Go.Proofs
set_option linter.unusedVariables false
set_option linter.unusedSimpArgs false
theorem wal_check_ok (a b : List UInt8) (h : a.length + b.length ≤ 2^46) : EV C n_wal_check [bys a, bys b] [] = some (.int .u32 (crc (a ++ b)), [], []) := by
  refine wal_check_of ?_
  have e1 : ∀ (H : List AObj) (K : AV → List AObj → List Nat → Option R3), litK 1 2 .nils [(0, bys a), (1, bys b)] H K = K (.lst ([a, b].map bys)) H [] := fun H K => rfl
  simp only [e1]
  rw [callK_ok (by simp) (Concat_byte_ok [a, b] (by simp) (by simpa using h))]
  rw [show [a, b].flatten = a ++ b by simp]
  rw [callK_ok (by simp) (wal_Sum_ok (a ++ b) (by rw [List.length_append]; omega))]
  exact endB_good rfl
theorem appD_fresh {z by_ : Nat} {x y : AV} {ys : List AV} {H : List AObj} (hx : freshA x = true) (hy : elemsA y H = some ys) (hg : goodL ys = true) (hz : lz z ys = true) (h1 : 0 < z) (h2 : 0 < by_) (h3 : by_ ≤ 1048576) (h4 : ys.length * by_ ≤ 140737489400832) :
    appD z by_ x y H = some (.lst ys) := by
  unfold appD appF
  rw [hy, Option.bind_some, if_pos ⟨hx, hg, fun _ => ⟨hz, h1, h2, h3, h4⟩⟩]
theorem appDb (l : List UInt8) (h : l.length ≤ 2^46) (H : List AObj) : appD 1 1 (AV.emp none) (bys l) H = some (bys l) := appD_fresh rfl rfl (goodL_u8 l) (lz_u8 l) (by decide) (by decide) (by decide) (by simp; omega)
theorem Clone_byte_ok (l : List UInt8) (h : l.length ≤ 2^46) : EV C n_Clone_byte [bys l] [] = some (bys l, [], []) := by
  cases l with
  | nil =>
    refine clone_nil (C0 := C0) (l := [n_Clone_byte, n_Clone_byte_r]) rfl rfl ?_ ?_
    · refine Clone_byte_of ?_
      show endB false false 0 .nils [] [] = _
      exact endB_frz (u := .lst []) rfl rfl
    · refine Clone_byte_of ?_
      show ((appD 1 1 (AV.emp none) (.emp (some false)) []).bind fun a2 => endB false false 0 a2 [] []) = _
      rw [show appD 1 1 (AV.emp none) (.emp (some false)) [] = some (.lst []) from rfl, Option.bind_some]
      exact endB_good rfl
  | cons x l =>
    rw [show bys (x :: l) = .lst (u8 x :: l.map u8) from rfl, clone_cons (C0 := C0) (l := [n_Clone_byte, n_Clone_byte_r]) rfl rfl]
    refine Clone_byte_of ?_
    have e1 : binA .eql (.slice 5) (cmpT Try.prog) true (.lst (u8 x :: l.map u8)) .nils = some (.bool false) := rfl
    simp only [e1, Option.bind_some, condK_f]
    rw [show AV.lst (u8 x :: l.map u8) = bys (x :: l) from rfl, appDb (x :: l) h, Option.bind_some]
    exact endB_good (good_bys (x :: l))
/-- a record's frame -/
def frame (l : List UInt8) : List UInt8 := fourL l.length ++ (fourL (crc (fourL l.length ++ l)) ++ l)
theorem wal_Frame_ok (l : List UInt8) (h : l.length ≤ 2097152) : EV C n_wal_Frame [bys l] [] = some (.tup [bys (frame l), .nili], [], []) := by
  refine wal_Frame_of ?_
  have e1 : ¬ ((2097152 : Int) < (l.length : Int)) := by omega
  simp only [lenV_bys, Option.bind_some, gtr_int, e1, decide_false, condK_f, cvI_int, wrap_u32 (show l.length < 2^32 by omega)]
  rw [callK_ok (by simp) (wal_four_ok l.length (by omega))]
  rw [callK_ok (by simp) (wal_check_ok (fourL l.length) l (by simp [fourL]; omega))]
  rw [callK_ok (by simp) (wal_four_ok _ (crc_lt _))]
  have e2 : ∀ (a b c : List UInt8) (H : List AObj) (K : AV → List AObj → List Nat → Option R3), litK 1 3 .nils [(0, bys a), (1, bys b), (2, bys c)] H K = K (.lst ([a, b, c].map bys)) H [] := fun a b c H K => rfl
  rw [e2]
  rw [callK_ok (by simp) (Concat_byte_ok _ (by simp) (by simp [fourL]; omega))]
  refine endB_good (by simp) |>.trans ?_
  simp [frame]
end Go.Pm
