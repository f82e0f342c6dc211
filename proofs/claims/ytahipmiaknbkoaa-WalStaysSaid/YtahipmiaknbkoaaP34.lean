/- A part of the proof: what the functions of the program answer, as plain lists and numbers. -/
import Derived.Test.YtahipmiaknbkoaaP33
namespace Go.Pm
open Go.Proofs
set_option linter.unusedVariables false
set_option linter.unusedSimpArgs false
theorem ref16_same_loop (a b : List (List UInt8)) (hl : a.length < 2^62) (hab : a.length = b.length) : ∀ (m i : Nat) (E : List Nat), i + m = a.length →
    ref16_Same_J4 0 (.lst (a.map bys)) (.lst (b.map bys)) (.int .i64 i) [] E = some (.bool (decide (a.drop i = b.drop i)), [], [])
  | 0, i, E, h => by
    refine ref16_Same_J4_of ?_
    have hlen : ∀ H, lenV (.lst (a.map bys)) H = some (.int .i64 a.length) := fun H => by simp
    simp only [hlen, Option.bind_some, lss_int, condK_dec]
    rw [if_neg (by omega), List.drop_eq_nil_of_le (by omega), List.drop_eq_nil_of_le (by omega)]
    exact endB_good rfl
  | m + 1, i, E, h => by
    refine ref16_Same_J4_of ?_
    have hlen : ∀ H, lenV (.lst (a.map bys)) H = some (.int .i64 a.length) := fun H => by simp
    have hi : i < a.length := by omega
    have hj : i < b.length := by omega
    have e3 : IntKind.i64.wrap ((i : Int) + 1) = ((i + 1 : Nat) : Int) := w64 (by omega) (by omega)
    simp only [hlen, Option.bind_some, lss_int, condK_dec]
    rw [if_pos (by omega)]
    simp only [ixA_map (f := bys) (fun _ => rfl) (List.getElem?_eq_getElem hi), ixA_map (f := bys) (fun _ => rfl) (List.getElem?_eq_getElem hj), Option.bind_some, loadA_ip1, cvL_bys, neq_str]
    have e5 : ∀ l : List UInt8, bl ⟨l.toArray⟩ = l := fun l => rfl
    rw [e5, e5]
    rw [List.drop_eq_getElem_cons hi, List.drop_eq_getElem_cons hj]
    by_cases he : a[i] = b[i]
    · rw [decide_eq_true he]
      simp only [Bool.not_true, condK_f, add_int, Option.bind_some, e3]
      rw [ref16_same_loop a b hl hab m (i + 1) E (by omega)]
      congr 3
      rw [Bool.eq_iff_iff]; simp only [decide_eq_true_eq, List.cons.injEq, he, true_and]
    · rw [decide_eq_false he]
      simp only [Bool.not_false, condK_t]
      refine (endB_good rfl).trans ?_
      congr 3
      symm
      apply decide_eq_false
      intro hc
      injection hc with h1 h2
      exact he h1
theorem Same_ok (a b : List (List UInt8)) (hl : a.length < 2^62) : EV C n_ref16_Same [.lst (a.map bys), .lst (b.map bys)] [] = some (.bool (decide (a = b)), [], []) := by
  refine ref16_Same_of ?_
  have hlen : ∀ (a : List (List UInt8)) H, lenV (.lst (a.map bys)) H = some (.int .i64 a.length) := fun a H => by simp
  simp only [hlen, Option.bind_some, neq_int]
  by_cases h : (a.length : Int) = (b.length : Int)
  · rw [decide_eq_true h]
    simp only [Bool.not_true, condK_f]
    have := ref16_same_loop a b hl (by omega) a.length 0 [] (by omega)
    rw [List.drop_zero, List.drop_zero] at this
    exact this
  · rw [decide_eq_false h]
    simp only [Bool.not_false, condK_t]
    refine (endB_good rfl).trans ?_
    congr 3
    symm
    apply decide_eq_false
    intro hc
    exact h (by rw [hc])
theorem law16_up_ok : EV C n_law16_up [] [] = some (.bool true, [], []) := by
  refine law16_up_of ?_
  simp only [List.length_nil]
  rw [callK_nil (bs := [bys []]) rfl rfl rfl (wal_Frame_ok [] (by decide))]
  have e1 : ∀ (K : AV → List AObj → List Nat → Option R3), rawK 1 9 (.int .u8 0) [(0, (.int .u8 49)), (1, (.int .u8 50)), (2, (.int .u8 51)), (3, (.int .u8 52)), (4, (.int .u8 53)), (5, (.int .u8 54)), (6, (.int .u8 55)), (7, (.int .u8 56)), (8, (.int .u8 57))] [] K = K (.slc 0 0 9 9) [.row 1 (([49, 50, 51, 52, 53, 54, 55, 56, 57] : List UInt8).map u8)] [] := fun K => rfl
  have e2 : cvR (.slc 0 0 9 9) [.row 1 (([49, 50, 51, 52, 53, 54, 55, 56, 57] : List UInt8).map u8)] = some (.slc 0 0 9 9) := rfl
  simp only [extA_0, extA_1, Option.bind_some, killsL, kills, List.append_nil, killAll, e1, e2]
  rw [callK_flat (bs := [bys [49, 50, 51, 52, 53, 54, 55, 56, 57]]) rfl (by simp) (wal_Sum_ok _ (by decide)) rfl]
  have e3 : crc [49, 50, 51, 52, 53, 54, 55, 56, 57] = 3808858755 := by kernel_rfl
  rw [e3]
  have e4 : decide (((3808858755 : Nat) : Int) = 3808858755) = true := by decide
  have e5 : decide (((8 + ([] : List UInt8).length : Nat) : Int) = 8) = true := by decide
  simp only [eql_int, Option.bind_some, nili_eq, lenV_bys, frame_len, e4, e5, splitK_t]
  exact endB_good rfl
end Go.Pm
