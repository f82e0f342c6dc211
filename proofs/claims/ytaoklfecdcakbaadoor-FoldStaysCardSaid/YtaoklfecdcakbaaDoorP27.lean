/- A part of the proof: what the functions of the program answer, as plain lists and numbers. -/
import Derived.Test.YtaoklfecdcakbaaDoorP10
import Derived.Test.YtaoklfecdcakbaaDoorP15
import Derived.Test.YtaoklfecdcakbaaDoorP26
namespace Go.Pm
open Go.Proofs
set_option linter.unusedVariables false
set_option linter.unusedSimpArgs false
theorem lenB_below {v : Nat} (h : lenB v < 8) : v < 256 ^ lenB v := by
  unfold lenB at h ⊢; repeat' split <;> try assumption
  all_goals simp_all
theorem lenB_gt {v n : Nat} (h1 : 1 ≤ n) (h : n < lenB v) : 256 ^ n ≤ v := by
  have lr := lenB_range v
  apply Nat.le_of_not_lt
  intro hv
  have key : lenB v ≤ n := by
    have hn : n = 1 ∨ n = 2 ∨ n = 3 ∨ n = 4 ∨ n = 5 ∨ n = 6 ∨ n = 7 := by omega
    unfold lenB
    rcases hn with rfl | rfl | rfl | rfl | rfl | rfl | rfl <;> (repeat' split) <;> omega
  omega
theorem or_u64 {x y : Nat} (hx : x < 2^64) (hy : y < 2^64) : bitsA .or .u64 x y = ((x ||| y : Nat) : Int) := by
  have : x ||| y < 2^64 := Nat.or_lt_two_pow hx hy
  show IntKind.u64.wrap ((BitVec.ofInt 64 (x : Int) ||| BitVec.ofInt 64 (y : Int)).toNat : Int) = _
  rw [BitVec.ofInt_natCast, BitVec.ofInt_natCast, BitVec.toNat_or, BitVec.toNat_ofNat, BitVec.toNat_ofNat, Nat.mod_eq_of_lt hx, Nat.mod_eq_of_lt hy]
  exact wrap_u64 this
theorem pow8 (n : Nat) : 2 ^ (8 * n) = 256 ^ n := by rw [show (256 : Nat) = 2 ^ 8 from rfl, ← Nat.pow_mul]
theorem set_last {α : Type} (H : List α) (a b : α) : (H ++ [a]).set H.length b = H ++ [b] := by
  rw [List.set_append_right _ _ (Nat.le_refl _), Nat.sub_self]; rfl
theorem get_last {α : Type} (H : List α) (a : α) : (H ++ [a])[H.length]? = some a := by simp
theorem num_J8 (v n : Nat) (hn : n ≤ 8) (hv : v < 2 ^ 64) (H0 : List AObj) : ∀ (m i : Nat) (es : Bs), i + m = n → es.length + m ≤ 20 →
    coder_Number_J8 0 (.int .u64 (v : Int)) (.int .i64 (n : Int)) (.slc 0 0 es.length es.length) (.int .i64 (n : Int)) (.int .i64 (i : Int)) [.row 1 (es.map u8)] [] = some (bys (es ++ beF m v), [], [])
  | 0, i, es, h, he => by
    refine coder_Number_J8_of ?_
    have e1 : ¬ ((i : Int) < (n : Int)) := by omega
    simp -implicitDefEqProofs only [e1, ZS, Nat.reduceAdd]
    refine (endB_frz (frz_row (z := 1) (l := 0) rfl (by simp) (goodL_u8 _)) (good_bys es)).trans ?_
    simp [beF, bys]
  | m + 1, i, es, h, he => by
    refine coder_Number_J8_of ?_
    have e1 : ((i : Int) < (n : Int)) := by omega
    have e2 : IntKind.i64.wrap ((n : Int) - 1) = ((n - 1 : Nat) : Int) := w64 (by omega) (by omega)
    have e3 : IntKind.i64.wrap (((n - 1 : Nat) : Int) - (i : Int)) = ((m : Nat) : Int) := w64 (by omega) (by omega)
    have e4 : IntKind.i64.wrap (8 * (m : Int)) = ((8 * m : Nat) : Int) := w64 (by omega) (by omega)
    have e5 : IntKind.i64.wrap ((i : Int) + 1) = ((i + 1 : Nat) : Int) := w64 (by omega) (by omega)
    simp -implicitDefEqProofs only [e1, sub_int, mul_int, add_int, e2, e3, e4, e5, shr_nat _ _ _ .u64 .i64 v (8 * m) (by show 8 * m ≤ 64; omega), pow8, cvI_int, wrap_u8, ← u8_nat, lit1, ZS, Nat.reduceAdd]
    rw [appB (n := es.length) (es := es) (ys := [UInt8.ofNat (v / 256 ^ m)]) (elemsA_bys _ _) rfl rfl (by simp; omega)]
    simp -implicitDefEqProofs only [add_int, e5, ZS, Nat.reduceAdd]
    have := num_J8 v n hn hv H0 m (i + 1) (es ++ [UInt8.ofNat (v / 256 ^ m)]) (by omega) (by simp; omega)
    have hb : UInt8.ofNat (v / 256 ^ m % 256) = UInt8.ofNat (v / 256 ^ m) := by
      apply UInt8.toNat_inj.1; simp
    rw [beF, hb]
    simp only [List.length_append, List.length_singleton, List.append_assoc, List.singleton_append] at this
    exact this
theorem num_J8r (v n : Nat) (hn : n ≤ 8) (hv : v < 2 ^ 64) (H0 : List AObj) (k : Nat) : ∀ (m i : Nat) (es : Bs), i + m = n → es.length + m ≤ 20 →
    coder_Number_r_J8 k (.int .u64 (v : Int)) (.int .i64 (n : Int)) (.slc H0.length 0 es.length es.length) (.int .i64 (n : Int)) (.int .i64 (i : Int)) (H0 ++ [.row 1 (es.map u8)]) [] = some (.slc H0.length 0 (es ++ beF m v).length (es ++ beF m v).length, H0 ++ [.row 1 ((es ++ beF m v).map u8)], [])
  | 0, i, es, h, he => by
    refine coder_Number_r_J8_of ?_
    have e1 : ¬ ((i : Int) < (n : Int)) := by omega
    simp -implicitDefEqProofs only [e1, beF, List.append_nil, ZS]
    exact endB_raw
  | m + 1, i, es, h, he => by
    refine coder_Number_r_J8_of ?_
    have e1 : ((i : Int) < (n : Int)) := by omega
    have e2 : IntKind.i64.wrap ((n : Int) - 1) = ((n - 1 : Nat) : Int) := w64 (by omega) (by omega)
    have e3 : IntKind.i64.wrap (((n - 1 : Nat) : Int) - (i : Int)) = ((m : Nat) : Int) := w64 (by omega) (by omega)
    have e4 : IntKind.i64.wrap (8 * (m : Int)) = ((8 * m : Nat) : Int) := w64 (by omega) (by omega)
    have e5 : IntKind.i64.wrap ((i : Int) + 1) = ((i + 1 : Nat) : Int) := w64 (by omega) (by omega)
    simp -implicitDefEqProofs only [e1, sub_int, mul_int, add_int, e2, e3, e4, e5, shr_nat _ _ _ .u64 .i64 v (8 * m) (by show 8 * m ≤ 64; omega), pow8, cvI_int, wrap_u8, ← u8_nat, lit1, ZS, Nat.reduceAdd]
    rw [appB (n := es.length) (es := es) (ys := [UInt8.ofNat (v / 256 ^ m)]) (elemsA_bys _ _) (get_last _ _) rfl (by simp; omega)]
    simp -implicitDefEqProofs only [add_int, e5, set_last, ZS, Nat.reduceAdd]
    have := num_J8r v n hn hv H0 k m (i + 1) (es ++ [UInt8.ofNat (v / 256 ^ m)]) (by omega) (by simp; omega)
    have hb : UInt8.ofNat (v / 256 ^ m % 256) = UInt8.ofNat (v / 256 ^ m) := by
      apply UInt8.toNat_inj.1; simp
    rw [beF, hb]
    simp only [List.length_append, List.length_singleton, List.append_assoc, List.singleton_append, List.length_cons] at this ⊢
    exact this
theorem shr_pos {v n : Nat} (h1 : 1 ≤ n) (h8 : n < 8) (hv : v < 2 ^ 64) : (0 < v / 256 ^ n) ↔ 256 ^ n ≤ v := by
  rw [Nat.div_pos_iff]; constructor
  · exact fun h => h.2
  · exact fun h => ⟨Nat.pow_pos (by decide), h⟩
theorem num_J4 (v : Nat) (hv : v < 2 ^ 64) : ∀ (m n : Nat), n + m = lenB v → 1 ≤ n →
    coder_Number_J4 0 (.int .u64 (v : Int)) (.int .i64 (n : Int)) [] [] = some (bys (UInt8.ofNat (247 + lenB v) :: beF (lenB v) v), [], [])
  | 0, n, h, h1 => by
    have lr := lenB_range v
    refine coder_Number_J4_of ?_
    obtain rfl : n = lenB v := by omega
    have e2 : IntKind.i64.wrap (247 + (lenB v : Int)) = ((247 + lenB v : Nat) : Int) := w64 (by omega) (by omega)
    have fin := (num_J8 v (lenB v) lr.2 hv [] (lenB v) 0 [UInt8.ofNat (247 + lenB v)] (by omega) (by simp; omega))
    by_cases c : lenB v < 8
    · have e1 : ((lenB v : Int) < 8) := by omega
      have e4 : IntKind.i64.wrap (8 * (lenB v : Int)) = ((8 * lenB v : Nat) : Int) := w64 (by omega) (by omega)
      have hb := lenB_below c
      have e3 : ¬ ((0 : Int) < ((v / 256 ^ lenB v : Nat) : Int)) := by
        have := fun h => (shr_pos h1 c hv).1 h
        omega
      simp -implicitDefEqProofs only [e1, mul_int, add_int, e2, e4, shr_nat _ _ _ .u64 .i64 v (8 * lenB v) (by show 8 * lenB v ≤ 64; omega), pow8, gtr_int, e3, cvI_int, wrap_u8, ← u8_nat, raw1, ZS, Nat.reduceAdd]
      exact fin
    · have e1 : ¬ ((lenB v : Int) < 8) := by omega
      simp -implicitDefEqProofs only [e1, add_int, e2, cvI_int, wrap_u8, ← u8_nat, raw1, ZS, Nat.reduceAdd]
      exact fin
  | m + 1, n, h, h1 => by
    have lr := lenB_range v
    refine coder_Number_J4_of ?_
    have e1 : ((n : Int) < 8) := by omega
    have e4 : IntKind.i64.wrap (8 * (n : Int)) = ((8 * n : Nat) : Int) := w64 (by omega) (by omega)
    have e5 : IntKind.i64.wrap ((n : Int) + 1) = ((n + 1 : Nat) : Int) := w64 (by omega) (by omega)
    have e3 : ((0 : Int) < ((v / 256 ^ n : Nat) : Int)) := by
      have := (shr_pos h1 (by omega) hv).2 (lenB_gt h1 (by omega))
      omega
    simp -implicitDefEqProofs only [e1, mul_int, add_int, e4, e5, shr_nat _ _ _ .u64 .i64 v (8 * n) (by show 8 * n ≤ 64; omega), pow8, gtr_int, e3, ZS, Nat.reduceAdd]
    exact num_J4 v hv m (n + 1) (by omega) (by omega)
theorem num_J4_r (v : Nat) (hv : v < 2 ^ 64) (H : List AObj) (k : Nat) : ∀ (m n : Nat), n + m = lenB v → 1 ≤ n →
    coder_Number_r_J4 k (.int .u64 (v : Int)) (.int .i64 (n : Int)) H [] = some (.slc H.length 0 (UInt8.ofNat (247 + lenB v) :: beF (lenB v) v).length (UInt8.ofNat (247 + lenB v) :: beF (lenB v) v).length, H ++ [.row 1 ((UInt8.ofNat (247 + lenB v) :: beF (lenB v) v).map u8)], [])
  | 0, n, h, h1 => by
    have lr := lenB_range v
    refine coder_Number_r_J4_of ?_
    obtain rfl : n = lenB v := by omega
    have e2 : IntKind.i64.wrap (247 + (lenB v : Int)) = ((247 + lenB v : Nat) : Int) := w64 (by omega) (by omega)
    have fin := (num_J8r v (lenB v) lr.2 hv H k (lenB v) 0 [UInt8.ofNat (247 + lenB v)] (by omega) (by simp; omega))
    by_cases c : lenB v < 8
    · have e1 : ((lenB v : Int) < 8) := by omega
      have e4 : IntKind.i64.wrap (8 * (lenB v : Int)) = ((8 * lenB v : Nat) : Int) := w64 (by omega) (by omega)
      have hb := lenB_below c
      have e3 : ¬ ((0 : Int) < ((v / 256 ^ lenB v : Nat) : Int)) := by
        have := fun h => (shr_pos h1 c hv).1 h
        omega
      simp -implicitDefEqProofs only [e1, mul_int, add_int, e2, e4, shr_nat _ _ _ .u64 .i64 v (8 * lenB v) (by show 8 * lenB v ≤ 64; omega), pow8, gtr_int, e3, cvI_int, wrap_u8, ← u8_nat, raw1, ZS, Nat.reduceAdd]
      exact fin
    · have e1 : ¬ ((lenB v : Int) < 8) := by omega
      simp -implicitDefEqProofs only [e1, add_int, e2, cvI_int, wrap_u8, ← u8_nat, raw1, ZS, Nat.reduceAdd]
      exact fin
  | m + 1, n, h, h1 => by
    have lr := lenB_range v
    refine coder_Number_r_J4_of ?_
    have e1 : ((n : Int) < 8) := by omega
    have e4 : IntKind.i64.wrap (8 * (n : Int)) = ((8 * n : Nat) : Int) := w64 (by omega) (by omega)
    have e5 : IntKind.i64.wrap ((n : Int) + 1) = ((n + 1 : Nat) : Int) := w64 (by omega) (by omega)
    have e3 : ((0 : Int) < ((v / 256 ^ n : Nat) : Int)) := by
      have := (shr_pos h1 (by omega) hv).2 (lenB_gt h1 (by omega))
      omega
    simp -implicitDefEqProofs only [e1, mul_int, add_int, e4, e5, shr_nat _ _ _ .u64 .i64 v (8 * n) (by show 8 * n ≤ 64; omega), pow8, gtr_int, e3, ZS, Nat.reduceAdd]
    exact num_J4_r v hv H k m (n + 1) (by omega) (by omega)
theorem cNumber_ok (v : Nat) (hv : v < 2 ^ 64) : EV C n_coder_Number [.int .u64 (v : Int)] [] = some (bys (numF v), [], []) := by
  refine coder_Number_of ?_
  unfold numF
  by_cases h : v < 248
  · have e1 : (v : Int) ≤ 247 := by omega
    simp -implicitDefEqProofs only [e1, h, cvI_int, wrap_u8, ← u8_nat, raw1, ZS, Nat.reduceAdd]
    exact endB_frz (frz_row (z := 1) (l := 0) rfl rfl (goodL_u8 _)) (good_bys _)
  · have e1 : ¬ (v : Int) ≤ 247 := by omega
    simp -implicitDefEqProofs only [e1, h, ZS, Nat.reduceAdd]
    exact num_J4 v hv (lenB v - 1) 1 (by have := lenB_range v; omega) (by omega)
theorem cNumberR_ok (v : Nat) (hv : v < 2 ^ 64) (H : List AObj) : EV C n_coder_Number_r [.int .u64 (v : Int)] H = some (.slc H.length 0 (numF v).length (numF v).length, H ++ [.row 1 ((numF v).map u8)], []) := by
  refine coder_Number_r_of ?_
  unfold numF
  by_cases h : v < 248
  · have e1 : (v : Int) ≤ 247 := by omega
    simp -implicitDefEqProofs only [e1, h, cvI_int, wrap_u8, ← u8_nat, raw1, ZS, Nat.reduceAdd]
    exact endB_raw
  · have e1 : ¬ (v : Int) ≤ 247 := by omega
    simp -implicitDefEqProofs only [e1, h, ZS, Nat.reduceAdd]
    exact num_J4_r v hv H H.length (lenB v - 1) 1 (by have := lenB_range v; omega) (by omega)
theorem cBytes_ok (l : Bs) (h : l.length ≤ 2 ^ 40) : EV C n_coder_Bytes [bys l] [] = some (bys (bytesB l), [], []) := by
  refine coder_Bytes_of ?_
  have nl := numF_len l.length
  simp only [lenV_bys, Option.bind_some, cvI_int, wrap_u64 (show l.length < 2^64 by omega)]
  rw [callK_raw (cNumberR_ok l.length (by omega) [])]
  simp only [List.length_nil, List.nil_append]
  rw [appB (n := (numF l.length).length) (es := numF l.length) (ys := l) (elemsA_bys _ _) rfl rfl (by omega)]
  exact endB_frz (frz_row (z := 1) (es := (numF l.length ++ l).map u8) rfl (by simp) (goodL_u8 _)) (good_bys _)
end Go.Pm
