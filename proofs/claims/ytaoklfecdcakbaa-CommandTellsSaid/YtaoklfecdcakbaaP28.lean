/- A part of the proof: what the functions of the program answer, as plain lists and numbers. -/
import Derived.Test.YtaoklfecdcakbaaP14
import Derived.Test.YtaoklfecdcakbaaP24
import Derived.Test.YtaoklfecdcakbaaP27
namespace Go.Pm
open Go.Proofs
set_option linter.unusedVariables false
set_option linter.unusedSimpArgs false
theorem lenB_below {v : Nat} (h : lenB v < 8) : v < 256 ^ lenB v := by
  unfold lenB at h ⊢; repeat' split <;> try assumption
  all_goals simp_all
theorem lenB_gt {v n : Nat} (h1 : 1 ≤ n) (h : n < lenB v) : 256 ^ n ≤ v := by
  have lr := lenB_range v
  apply Nat.le_of_not_lt
  intro hv
  have key : lenB v ≤ n := by
    have hn : n = 1 ∨ n = 2 ∨ n = 3 ∨ n = 4 ∨ n = 5 ∨ n = 6 ∨ n = 7 := by omega
    unfold lenB
    rcases hn with rfl | rfl | rfl | rfl | rfl | rfl | rfl <;> (repeat' split) <;> omega
  omega
theorem or_u64 {x y : Nat} (hx : x < 2^64) (hy : y < 2^64) : bitsA .or .u64 x y = ((x ||| y : Nat) : Int) := by
  have : x ||| y < 2^64 := Nat.or_lt_two_pow hx hy
  show IntKind.u64.wrap ((BitVec.ofInt 64 (x : Int) ||| BitVec.ofInt 64 (y : Int)).toNat : Int) = _
  rw [BitVec.ofInt_natCast, BitVec.ofInt_natCast, BitVec.toNat_or, BitVec.toNat_ofNat, BitVec.toNat_ofNat, Nat.mod_eq_of_lt hx, Nat.mod_eq_of_lt hy]
  exact wrap_u64 this
theorem pow8 (n : Nat) : 2 ^ (8 * n) = 256 ^ n := by rw [show (256 : Nat) = 2 ^ 8 from rfl, ← Nat.pow_mul]
theorem set_last {α : Type} (H : List α) (a b : α) : (H ++ [a]).set H.length b = H ++ [b] := by
  rw [List.set_append_right _ _ (Nat.le_refl _), Nat.sub_self]; rfl
theorem get_last {α : Type} (H : List α) (a : α) : (H ++ [a])[H.length]? = some a := by simp
theorem num_J8 (v n : Nat) (hn : n ≤ 8) (hv : v < 2 ^ 64) (H0 : List AObj) : ∀ (m i : Nat) (es : Bs), i + m = n → es.length + m ≤ 20 →
    coder_Number_J8 0 (.int .u64 (v : Int)) (.int .i64 (n : Int)) (.slc 0 0 es.length es.length) (.int .i64 (n : Int)) (.int .i64 (i : Int)) [.row 1 (es.map u8)] [] = some (bys (es ++ beF m v), [], [])
  | 0, i, es, h, he => by
    refine coder_Number_J8_of ?_
    have e1 : ¬ ((i : Int) < (n : Int)) := by omega
    simp -implicitDefEqProofs only [e1, ZS, Nat.reduceAdd]
    refine (endB_frz (frz_row (z := 1) (l := 0) rfl (by simp) (goodL_u8 _)) (good_bys es)).trans ?_
    simp [beF, bys]
  | m + 1, i, es, h, he => by
    refine coder_Number_J8_of ?_
    have e1 : ((i : Int) < (n : Int)) := by omega
    have e2 : IntKind.i64.wrap ((n : Int) - 1) = ((n - 1 : Nat) : Int) := w64 (by omega) (by omega)
    have e3 : IntKind.i64.wrap (((n - 1 : Nat) : Int) - (i : Int)) = ((m : Nat) : Int) := w64 (by omega) (by omega)
    have e4 : IntKind.i64.wrap (8 * (m : Int)) = ((8 * m : Nat) : Int) := w64 (by omega) (by omega)
    have e5 : IntKind.i64.wrap ((i : Int) + 1) = ((i + 1 : Nat) : Int) := w64 (by omega) (by omega)
    simp -implicitDefEqProofs only [e1, sub_int, mul_int, add_int, e2, e3, e4, e5, shr_nat _ _ _ .u64 .i64 v (8 * m) (by show 8 * m ≤ 64; omega), pow8, cvI_int, wrap_u8, ← u8_nat, lit1, ZS, Nat.reduceAdd]
    rw [appB (n := es.length) (es := es) (ys := [UInt8.ofNat (v / 256 ^ m)]) (elemsA_bys _ _) rfl rfl (by simp; omega)]
    simp -implicitDefEqProofs only [add_int, e5, ZS, Nat.reduceAdd]
    have := num_J8 v n hn hv H0 m (i + 1) (es ++ [UInt8.ofNat (v / 256 ^ m)]) (by omega) (by simp; omega)
    have hb : UInt8.ofNat (v / 256 ^ m % 256) = UInt8.ofNat (v / 256 ^ m) := by
      apply UInt8.toNat_inj.1; simp
    rw [beF, hb]
    simp only [List.length_append, List.length_singleton, List.append_assoc, List.singleton_append] at this
    exact this
theorem num_J8r (v n : Nat) (hn : n ≤ 8) (hv : v < 2 ^ 64) (H0 : List AObj) (k : Nat) : ∀ (m i : Nat) (es : Bs), i + m = n → es.length + m ≤ 20 →
    coder_Number_r_J8 k (.int .u64 (v : Int)) (.int .i64 (n : Int)) (.slc H0.length 0 es.length es.length) (.int .i64 (n : Int)) (.int .i64 (i : Int)) (H0 ++ [.row 1 (es.map u8)]) [] = some (.slc H0.length 0 (es ++ beF m v).length (es ++ beF m v).length, H0 ++ [.row 1 ((es ++ beF m v).map u8)], [])
  | 0, i, es, h, he => by
    refine coder_Number_r_J8_of ?_
    have e1 : ¬ ((i : Int) < (n : Int)) := by omega
    simp -implicitDefEqProofs only [e1, beF, List.append_nil, ZS]
    exact endB_raw
  | m + 1, i, es, h, he => by
    refine coder_Number_r_J8_of ?_
    have e1 : ((i : Int) < (n : Int)) := by omega
    have e2 : IntKind.i64.wrap ((n : Int) - 1) = ((n - 1 : Nat) : Int) := w64 (by omega) (by omega)
    have e3 : IntKind.i64.wrap (((n - 1 : Nat) : Int) - (i : Int)) = ((m : Nat) : Int) := w64 (by omega) (by omega)
    have e4 : IntKind.i64.wrap (8 * (m : Int)) = ((8 * m : Nat) : Int) := w64 (by omega) (by omega)
    have e5 : IntKind.i64.wrap ((i : Int) + 1) = ((i + 1 : Nat) : Int) := w64 (by omega) (by omega)
    simp -implicitDefEqProofs only [e1, sub_int, mul_int, add_int, e2, e3, e4, e5, shr_nat _ _ _ .u64 .i64 v (8 * m) (by show 8 * m ≤ 64; omega), pow8, cvI_int, wrap_u8, ← u8_nat, lit1, ZS, Nat.reduceAdd]
    rw [appB (n := es.length) (es := es) (ys := [UInt8.ofNat (v / 256 ^ m)]) (elemsA_bys _ _) (get_last _ _) rfl (by simp; omega)]
    simp -implicitDefEqProofs only [add_int, e5, set_last, ZS, Nat.reduceAdd]
    have := num_J8r v n hn hv H0 k m (i + 1) (es ++ [UInt8.ofNat (v / 256 ^ m)]) (by omega) (by simp; omega)
    have hb : UInt8.ofNat (v / 256 ^ m % 256) = UInt8.ofNat (v / 256 ^ m) := by
      apply UInt8.toNat_inj.1; simp
    rw [beF, hb]
    simp only [List.length_append, List.length_singleton, List.append_assoc, List.singleton_append, List.length_cons] at this ⊢
    exact this
theorem shr_pos {v n : Nat} (h1 : 1 ≤ n) (h8 : n < 8) (hv : v < 2 ^ 64) : (0 < v / 256 ^ n) ↔ 256 ^ n ≤ v := by
  rw [Nat.div_pos_iff]; constructor
  · exact fun h => h.2
  · exact fun h => ⟨Nat.pow_pos (by decide), h⟩
theorem num_J4 (v : Nat) (hv : v < 2 ^ 64) : ∀ (m n : Nat), n + m = lenB v → 1 ≤ n →
    coder_Number_J4 0 (.int .u64 (v : Int)) (.int .i64 (n : Int)) [] [] = some (bys (UInt8.ofNat (247 + lenB v) :: beF (lenB v) v), [], [])
  | 0, n, h, h1 => by
    have lr := lenB_range v
    refine coder_Number_J4_of ?_
    obtain rfl : n = lenB v := by omega
    have e2 : IntKind.i64.wrap (247 + (lenB v : Int)) = ((247 + lenB v : Nat) : Int) := w64 (by omega) (by omega)
    have fin := (num_J8 v (lenB v) lr.2 hv [] (lenB v) 0 [UInt8.ofNat (247 + lenB v)] (by omega) (by simp; omega))
    by_cases c : lenB v < 8
    · have e1 : ((lenB v : Int) < 8) := by omega
      have e4 : IntKind.i64.wrap (8 * (lenB v : Int)) = ((8 * lenB v : Nat) : Int) := w64 (by omega) (by omega)
      have hb := lenB_below c
      have e3 : ¬ ((0 : Int) < ((v / 256 ^ lenB v : Nat) : Int)) := by
        have := fun h => (shr_pos h1 c hv).1 h
        omega
      simp -implicitDefEqProofs only [e1, mul_int, add_int, e2, e4, shr_nat _ _ _ .u64 .i64 v (8 * lenB v) (by show 8 * lenB v ≤ 64; omega), pow8, gtr_int, e3, cvI_int, wrap_u8, ← u8_nat, raw1, ZS, Nat.reduceAdd]
      exact fin
    · have e1 : ¬ ((lenB v : Int) < 8) := by omega
      simp -implicitDefEqProofs only [e1, add_int, e2, cvI_int, wrap_u8, ← u8_nat, raw1, ZS, Nat.reduceAdd]
      exact fin
  | m + 1, n, h, h1 => by
    have lr := lenB_range v
    refine coder_Number_J4_of ?_
    have e1 : ((n : Int) < 8) := by omega
    have e4 : IntKind.i64.wrap (8 * (n : Int)) = ((8 * n : Nat) : Int) := w64 (by omega) (by omega)
    have e5 : IntKind.i64.wrap ((n : Int) + 1) = ((n + 1 : Nat) : Int) := w64 (by omega) (by omega)
    have e3 : ((0 : Int) < ((v / 256 ^ n : Nat) : Int)) := by
      have := (shr_pos h1 (by omega) hv).2 (lenB_gt h1 (by omega))
      omega
    simp -implicitDefEqProofs only [e1, mul_int, add_int, e4, e5, shr_nat _ _ _ .u64 .i64 v (8 * n) (by show 8 * n ≤ 64; omega), pow8, gtr_int, e3, ZS, Nat.reduceAdd]
    exact num_J4 v hv m (n + 1) (by omega) (by omega)
theorem num_J4_r (v : Nat) (hv : v < 2 ^ 64) (H : List AObj) (k : Nat) : ∀ (m n : Nat), n + m = lenB v → 1 ≤ n →
    coder_Number_r_J4 k (.int .u64 (v : Int)) (.int .i64 (n : Int)) H [] = some (.slc H.length 0 (UInt8.ofNat (247 + lenB v) :: beF (lenB v) v).length (UInt8.ofNat (247 + lenB v) :: beF (lenB v) v).length, H ++ [.row 1 ((UInt8.ofNat (247 + lenB v) :: beF (lenB v) v).map u8)], [])
  | 0, n, h, h1 => by
    have lr := lenB_range v
    refine coder_Number_r_J4_of ?_
    obtain rfl : n = lenB v := by omega
    have e2 : IntKind.i64.wrap (247 + (lenB v : Int)) = ((247 + lenB v : Nat) : Int) := w64 (by omega) (by omega)
    have fin := (num_J8r v (lenB v) lr.2 hv H k (lenB v) 0 [UInt8.ofNat (247 + lenB v)] (by omega) (by simp; omega))
    by_cases c : lenB v < 8
    · have e1 : ((lenB v : Int) < 8) := by omega
      have e4 : IntKind.i64.wrap (8 * (lenB v : Int)) = ((8 * lenB v : Nat) : Int) := w64 (by omega) (by omega)
      have hb := lenB_below c
      have e3 : ¬ ((0 : Int) < ((v / 256 ^ lenB v : Nat) : Int)) := by
        have := fun h => (shr_pos h1 c hv).1 h
        omega
      simp -implicitDefEqProofs only [e1, mul_int, add_int, e2, e4, shr_nat _ _ _ .u64 .i64 v (8 * lenB v) (by show 8 * lenB v ≤ 64; omega), pow8, gtr_int, e3, cvI_int, wrap_u8, ← u8_nat, raw1, ZS, Nat.reduceAdd]
      exact fin
    · have e1 : ¬ ((lenB v : Int) < 8) := by omega
      simp -implicitDefEqProofs only [e1, add_int, e2, cvI_int, wrap_u8, ← u8_nat, raw1, ZS, Nat.reduceAdd]
      exact fin
  | m + 1, n, h, h1 => by
    have lr := lenB_range v
    refine coder_Number_r_J4_of ?_
    have e1 : ((n : Int) < 8) := by omega
    have e4 : IntKind.i64.wrap (8 * (n : Int)) = ((8 * n : Nat) : Int) := w64 (by omega) (by omega)
    have e5 : IntKind.i64.wrap ((n : Int) + 1) = ((n + 1 : Nat) : Int) := w64 (by omega) (by omega)
    have e3 : ((0 : Int) < ((v / 256 ^ n : Nat) : Int)) := by
      have := (shr_pos h1 (by omega) hv).2 (lenB_gt h1 (by omega))
      omega
    simp -implicitDefEqProofs only [e1, mul_int, add_int, e4, e5, shr_nat _ _ _ .u64 .i64 v (8 * n) (by show 8 * n ≤ 64; omega), pow8, gtr_int, e3, ZS, Nat.reduceAdd]
    exact num_J4_r v hv H k m (n + 1) (by omega) (by omega)
theorem cNumber_ok (v : Nat) (hv : v < 2 ^ 64) : EV C n_coder_Number [.int .u64 (v : Int)] [] = some (bys (numF v), [], []) := by
  refine coder_Number_of ?_
  unfold numF
  by_cases h : v < 248
  · have e1 : (v : Int) ≤ 247 := by omega
    simp -implicitDefEqProofs only [e1, h, cvI_int, wrap_u8, ← u8_nat, raw1, ZS, Nat.reduceAdd]
    exact endB_frz (frz_row (z := 1) (l := 0) rfl rfl (goodL_u8 _)) (good_bys _)
  · have e1 : ¬ (v : Int) ≤ 247 := by omega
    simp -implicitDefEqProofs only [e1, h, ZS, Nat.reduceAdd]
    exact num_J4 v hv (lenB v - 1) 1 (by have := lenB_range v; omega) (by omega)
theorem cNumberR_ok (v : Nat) (hv : v < 2 ^ 64) (H : List AObj) : EV C n_coder_Number_r [.int .u64 (v : Int)] H = some (.slc H.length 0 (numF v).length (numF v).length, H ++ [.row 1 ((numF v).map u8)], []) := by
  refine coder_Number_r_of ?_
  unfold numF
  by_cases h : v < 248
  · have e1 : (v : Int) ≤ 247 := by omega
    simp -implicitDefEqProofs only [e1, h, cvI_int, wrap_u8, ← u8_nat, raw1, ZS, Nat.reduceAdd]
    exact endB_raw
  · have e1 : ¬ (v : Int) ≤ 247 := by omega
    simp -implicitDefEqProofs only [e1, h, ZS, Nat.reduceAdd]
    exact num_J4_r v hv H H.length (lenB v - 1) 1 (by have := lenB_range v; omega) (by omega)
theorem cBytes_ok (l : Bs) (h : l.length ≤ 2 ^ 40) : EV C n_coder_Bytes [bys l] [] = some (bys (bytesB l), [], []) := by
  refine coder_Bytes_of ?_
  have nl := numF_len l.length
  simp only [lenV_bys, Option.bind_some, cvI_int, wrap_u64 (show l.length < 2^64 by omega)]
  rw [callK_raw (cNumberR_ok l.length (by omega) [])]
  simp only [List.length_nil, List.nil_append]
  rw [appB (n := (numF l.length).length) (es := numF l.length) (ys := l) (elemsA_bys _ _) rfl rfl (by omega)]
  exact endB_frz (frz_row (z := 1) (es := (numF l.length ++ l).map u8) rfl (by simp) (goodL_u8 _)) (good_bys _)
end Go.Pm
namespace Go.Pm
open Go.Proofs
set_option linter.unusedVariables false
set_option linter.unusedSimpArgs false
/-- bytes in a variable: nil at first -/
def isB (v : AV) (k : Bs) : Prop := v = bys k ∨ (v = .nils ∧ k = [])
theorem isB_el {v : AV} {k : Bs} (h : isB v k) (H : List AObj) : elemsA v H = some (k.map u8) := by
  rcases h with rfl | ⟨rfl, rfl⟩ <;> rfl
theorem isB_len {v : AV} {k : Bs} (h : isB v k) (H : List AObj) : lenV v H = some (.int .i64 (k.length : Int)) := by
  rcases h with rfl | ⟨rfl, rfl⟩
  · simp
  · rfl
theorem frzK_ok {β : Type} {v u : AV} {H : List AObj} {K : AV → List AObj → Option β} (h : frz H v = some u) : frzK v H K = K u (killAll H (kills v)) := by unfold frzK; rw [h]; rfl
theorem take_kill (H : List AObj) (x : AObj) (off n tot : Nat) : List.take H.length (killAll (H ++ [x]) (kills (.slc H.length off n tot))) = H := by
  simp [kills, killAll]
theorem rem256 (d : TypeDesc) (c : TypeId → Bool) (b : Bool) (x : Nat) : binA .rem d c b (.int .u64 (x : Int)) (.int .u64 256) = some (.int .u64 ((x % 256 : Nat) : Int)) := rem_int d c b .u64 x 256 (by omega)
theorem quo256 (d : TypeDesc) (c : TypeId → Bool) (b : Bool) (x : Nat) (h : x < 2 ^ 64) : binA .quo d c b (.int .u64 (x : Int)) (.int .u64 256) = some (.int .u64 ((x / 256 : Nat) : Int)) := by
  have := quo_int d c b .u64 x 256 (by omega)
  rw [wrap_u64 (by omega)] at this; exact this
/-- how many times a number may be parted by 256 until nothing is left -/
theorem len_zero {v : Nat} (h : 248 ≤ v) (h2 : v < 2 ^ 64) {k : Nat} (hk : v / 256 ^ k = 0) (h0 : k = 0 ∨ v / 256 ^ (k - 1) ≠ 0) : k = lenB v := by
  have lr := lenB_range v
  have hlt : v < 256 ^ k := by
    rw [Nat.div_eq_zero_iff] at hk
    rcases hk with h | h
    · exact absurd h (Nat.ne_of_gt (Nat.pow_pos (by decide)))
    · exact h
  have hv := lenB_lt h2
  have a : lenB v ≤ k := by
    apply Nat.le_of_not_lt; intro hc
    have h1 : 1 ≤ k := by
      rcases Nat.eq_zero_or_pos k with rfl | h
      · simp at hlt; omega
      · exact h
    have := lenB_gt h1 hc; omega
  have b : k ≤ lenB v := by
    apply Nat.le_of_not_lt; intro hc
    rcases h0 with h0 | h0
    · omega
    · apply h0
      apply Nat.div_eq_of_lt
      exact Nat.lt_of_lt_of_le hv (Nat.pow_le_pow_right (by decide) (by omega))
  omega
theorem rnum_J4_r (v : Nat) (h248 : 248 ≤ v) (hv : v < 2 ^ 64) (H : List AObj) (k0 : Nat) : ∀ (m k : Nat) (x : AV), k + m = 8 → isB x (beF k v) → (k = 0 ∨ v / 256 ^ (k - 1) ≠ 0) →
    ref02_Number_r_J4 k0 (.int .u64 ((v / 256 ^ k : Nat) : Int)) x H [] = some (.slc H.length 0 (UInt8.ofNat (247 + lenB v) :: beF (lenB v) v).length (UInt8.ofNat (247 + lenB v) :: beF (lenB v) v).length, H ++ [.row 1 ((UInt8.ofNat (247 + lenB v) :: beF (lenB v) v).map u8)], []) := by
  have fin : ∀ (k : Nat) (x : AV), k ≤ 8 → isB x (beF k v) → (k = 0 ∨ v / 256 ^ (k - 1) ≠ 0) → v / 256 ^ k = 0 → ref02_Number_r_J4 k0 (.int .u64 ((v / 256 ^ k : Nat) : Int)) x H [] = some (.slc H.length 0 (UInt8.ofNat (247 + lenB v) :: beF (lenB v) v).length (UInt8.ofNat (247 + lenB v) :: beF (lenB v) v).length, H ++ [.row 1 ((UInt8.ofNat (247 + lenB v) :: beF (lenB v) v).map u8)], []) := fun k x hk8 hx h0 hz => by
    refine ref02_Number_r_J4_of ?_
    have hk := len_zero h248 hv hz h0
    have e1 : ¬ ((0 : Int) < ((v / 256 ^ k : Nat) : Int)) := by omega
    have e2 : IntKind.i64.wrap (247 + ((beF k v).length : Int)) = ((247 + k : Nat) : Int) := w64 (by rw [beF_len]; omega) (by omega)
    simp -implicitDefEqProofs only [e1, isB_len hx, add_int, e2, cvI_int, wrap_u8, ← u8_nat, raw1, ZS, Nat.reduceAdd]
    rw [appB (n := 1) (es := [UInt8.ofNat (247 + k)]) (ys := beF k v) (isB_el hx _) (get_last _ _) rfl (by rw [beF_len]; omega)]
    rw [hk]
    rw [set_last]; exact endB_raw.trans (by simp [Nat.add_comm])
  intro m
  induction m with
  | zero =>
    intro k x hk hx h0
    obtain rfl : k = 8 := by omega
    refine fin 8 x (by omega) hx h0 (Nat.div_eq_of_lt (by omega))
  | succ m ih =>
    intro k x hk hx h0
    by_cases hz : v / 256 ^ k = 0
    · exact fin k x (by omega) hx h0 hz
    · refine ref02_Number_r_J4_of ?_
      have e1 : ((0 : Int) < ((v / 256 ^ k : Nat) : Int)) := Int.natCast_pos.2 (Nat.pos_of_ne_zero hz)
      have hb : UInt8.ofNat (v / 256 ^ k % 256) = UInt8.ofNat (v / 256 ^ k) := by apply UInt8.toNat_inj.1; simp
      have hbe : UInt8.ofNat (v / 256 ^ k) :: beF k v = beF (k + 1) v := by rw [beF, hb]
      have hlt : v / 256 ^ k < 2 ^ 64 := Nat.lt_of_le_of_lt (Nat.div_le_self _ _) hv
      have e3 : v / 256 ^ k / 256 = v / 256 ^ (k + 1) := by rw [Nat.div_div_eq_div_mul, Nat.pow_succ]
      have e4 : v / 256 ^ k % 256 % 256 = v / 256 ^ k % 256 := Nat.mod_mod _ _
      simp -implicitDefEqProofs only [e1, rem256, quo256 _ _ _ _ hlt, e3, e4, cvI_int, wrap_u8, ← u8_nat, raw1, ZS, Nat.reduceAdd]
      rw [appB (n := 1) (es := [UInt8.ofNat (v / 256 ^ k)]) (ys := beF k v) (isB_el hx _) (get_last _ _) rfl (by rw [beF_len]; omega)]
      rw [frzK_ok (u := bys (beF (k + 1) v)) ((frz_row (z := 1) (es := (UInt8.ofNat (v / 256 ^ k) :: beF k v).map u8) (by rw [set_last]; simp) (by simp [Nat.add_comm]) (goodL_u8 _)).trans (by rw [hbe]; rfl))]
      simp -implicitDefEqProofs only [rem256, quo256 _ _ _ _ hlt, e3, ZS, Nat.reduceAdd]
      rw [condB_t (by simp [AV.bel, bel_good _ _ (good_bys _)])]
      simp only [set_last, take_kill]
      have := ih (k + 1) (bys (beF (k + 1) v)) (by omega) (.inl rfl) (.inr (by rw [Nat.add_sub_cancel]; exact hz))
      simpa using this
theorem rNumberR_ok (v : Nat) (hv : v < 2 ^ 64) (H : List AObj) : EV C n_ref02_Number_r [.int .u64 (v : Int)] H = some (.slc H.length 0 (numF v).length (numF v).length, H ++ [.row 1 ((numF v).map u8)], []) := by
  refine ref02_Number_r_of ?_
  unfold numF
  by_cases h : v < 248
  · have e1 : (v : Int) < 248 := by omega
    simp -implicitDefEqProofs only [e1, h, cvI_int, wrap_u8, ← u8_nat, raw1, ZS, Nat.reduceAdd]
    exact endB_raw
  · have e1 : ¬ (v : Int) < 248 := by omega
    simp -implicitDefEqProofs only [e1, h, ZS, Nat.reduceAdd]
    have := rnum_J4_r v (by omega) hv H H.length 8 0 .nils (by omega) (.inr ⟨rfl, rfl⟩) (.inl rfl)
    rw [Nat.pow_zero, Nat.div_one] at this
    exact this
end Go.Pm
namespace Go.Pm
open Go.Proofs
set_option linter.unusedVariables false
set_option linter.unusedSimpArgs false
theorem endB_take {n : Nat} {v u : AV} {H H' : List AObj} {E : List Nat} (h0 : frz H v = some u) (h1 : u.good = true) (hE : E = []) (hH : (killAll H (kills v)).take n = H') : endB false false n v H E = some (u, H', []) := by
  subst hE
  simp [endB, endA, h0, bel_good n u h1, hH]
theorem endB_at {v u : AV} {H H0 : List AObj} {E : List Nat} (h0 : frz H v = some u) (h1 : u.good = true) (hk : kills v = []) (hE : E = []) (hn : H.length = H0.length) : endB false false H0.length v H E = some (u, H, []) :=
  endB_take h0 h1 hE (by rw [hk]; simp [killAll, ← hn])
theorem nilA_ptr (l tot i off : Nat) : nilA (.ptr l tot i off) = some (.ptr l tot i off) := rfl
def Rd.cs (s : Rd) : List AV := [bys s.b, .bool s.bad]
def Rd.row (s : Rd) : AObj := .row 2 [.agg s.cs]
theorem rd_b {H : List AObj} {l : Nat} {s : Rd} (h : H[l]? = some s.row) : loadA false 1 (.ptr l 1 0 0) H = some (bys s.b) := ld_fld h rfl
theorem rd_bad {H : List AObj} {l : Nat} {s : Rd} (h : H[l]? = some s.row) : loadA false 1 (.ptr l 1 0 1) H = some (.bool s.bad) := ld_fld h rfl
theorem rd_sto_bad {β : Type} {H : List AObj} {l : Nat} {s : Rd} {x : Bool} {K : List AObj → List Nat → Option β} (h : H[l]? = some s.row) : stoK 1 (.ptr l 1 0 1) (.bool x) H K = K (H.set l (Rd.row ⟨s.b, x⟩)) [] := by
  rw [sto_fld h (by simp [Rd.cs]) rfl rfl, escs_good (by simp [goodL, AV.good])]; rfl
theorem rd_sto_b {β : Type} {H : List AObj} {l : Nat} {s : Rd} {x : Bs} {K : List AObj → List Nat → Option β} (h : H[l]? = some s.row) : stoK 1 (.ptr l 1 0 0) (bys x) H K = K (H.set l (Rd.row ⟨x, s.bad⟩)) [] := by
  rw [sto_fld h (by simp [Rd.cs]) rfl rfl, escs_good (by simp [goodL])]; rfl
theorem lt_get {α : Type} {H : List α} {l : Nat} {x : α} (h : H[l]? = some x) : l < H.length := (List.getElem?_eq_some_iff.1 h).1
theorem set_get {α : Type} {H : List α} {l : Nat} {x y : α} (h : H[l]? = some x) : (H.set l y)[l]? = some y := by rw [List.getElem?_set_self (lt_get h)]
theorem set_same {α : Type} {H : List α} {l : Nat} {x : α} (h : H[l]? = some x) : H.set l x = H := by
  apply List.ext_getElem?
  intro i
  rw [List.getElem?_set]
  split
  · rename_i e; subst e; rw [if_pos (lt_get h), h]
  · rfl
theorem take_ok {H : List AObj} {l n : Nat} {s : Rd} (h : H[l]? = some s.row) (hb : s.b.length ≤ 2 ^ 50) (hn : n ≤ 2 ^ 50) : EV C n_coder_Reader_take [.ptr l 1 0 0, .int .i64 (n : Int)] H = some (bys (takeP n s).1, H.set l (takeP n s).2.row, []) := by
  refine coder_Reader_take_of ?_
  simp -implicitDefEqProofs only [nilA_ptr, offA_ptr, Nat.zero_add, Option.bind_some, rd_bad h, rd_b h, rd_sto_bad h, lenV_bys, gtr_int]
  unfold takeP
  cases hbad : s.bad with
  | true =>
    rw [if_pos (.inl rfl)]
    simp only [splitK_t]
    exact endB_at rfl rfl rfl rfl (by simp)
  | false =>
    simp only [splitK_f, condK_dec]
    by_cases hl : s.b.length < n
    · have hl' : ((s.b.length : Int) < (n : Int)) := by omega
      rw [if_pos hl', if_pos (.inr hl)]
      exact endB_at rfl rfl rfl rfl (by simp)
    · have hl' : ¬ ((s.b.length : Int) < (n : Int)) := by omega
      have c1 : cutA 1 (bys s.b) none (some (.int .i64 (n : Int))) (some (.int .i64 (n : Int))) H = some (bys (s.b.take n)) := by
        unfold bys
        simp only [cutA, lenA, Option.bind_some, boundA, List.length_map, Option.isSome_some, lz_u8, if_true]
        rw [if_pos ⟨by omega, by omega, by omega, by omega, fun _ => trivial⟩]
        simp
      have c2 : cutA 1 (bys s.b) (some (.int .i64 (n : Int))) none none H = some (bys (s.b.drop n)) := by
        rw [cutA_bys (i := n) (j := s.b.length) rfl rfl (by omega) (by omega), List.take_length]
      rw [if_neg hl', if_neg (by simp; omega)]
      simp -implicitDefEqProofs only [c1, c2, Option.bind_some, rd_sto_b h]
      rw [hbad]
      exact endB_at (frz_good _ _ (good_bys _)) (good_bys _) (kills_good _ (good_bys _)) rfl (by simp)
/-- a call of a method -/
theorem callM {β : Type} {g : FuncId} {l : Nat} {bs : List AV} {H H' : List AObj} {K : AV → List AObj → List Nat → Option β} {v : AV} (ha : goodL bs = true) (h3 : EV C g (.ptr l 1 0 0 :: bs) H = some (v, H', [])) :
    callK (EV C) false g (.ptr l 1 0 0 :: bs) H K = K v H' [] := by
  have hf : frzL H (.ptr l 1 0 0 :: bs) = some (.ptr l 1 0 0 :: bs) := frzL_cons rfl (frzL_good _ _ ha)
  have hk : killsL (.ptr l 1 0 0 :: bs) = [] := by simp [killsL, kills, killsL_good _ ha]
  exact callK_ptr hf (by simp [belL, AV.bel]) hk h3
theorem takeK {β : Type} {H : List AObj} {l n : Nat} {s : Rd} (h : H[l]? = some s.row) (hb : s.b.length ≤ 2 ^ 50) (hn : n ≤ 2 ^ 50) {K : AV → List AObj → List Nat → Option β} : callK (EV C) false n_coder_Reader_take [.ptr l 1 0 0, .int .i64 (n : Int)] H K = K (bys (takeP n s).1) (H.set l (takeP n s).2.row) [] := callM (by simp [goodL, AV.good]) (take_ok h hb hn)
theorem byte_ok {H : List AObj} {l : Nat} {s : Rd} (h : H[l]? = some s.row) (hb : s.b.length ≤ 2 ^ 50) : EV C n_coder_Reader_Byte [.ptr l 1 0 0] H = some (u8 (byteP s).1, H.set l (byteP s).2.row, []) := by
  refine coder_Reader_Byte_of ?_
  have := takeK (n := 1) h hb (by decide) (K := fun a1 H1 E1 =>
    (lenV a1 H1).bind fun a2 =>
    (binA .eql (Go.TypeDesc.int Go.IntKind.i64) (cmpT Try.prog) true a2 (.int .i64 0)).bind fun a3 =>
    condK a3
      (endB false false H.length (.int .u8 0) H1 (E1 ++ []))
      ((ixA 1 a1 (.int .i64 0) H1).bind fun a4 =>
      (loadA false 1 a4 H1).bind fun a5 =>
      endB false false H.length a5 H1 (E1 ++ [])))
  refine this.trans ?_
  unfold byteP
  generalize hx : takeP 1 s = x
  obtain ⟨t, s'⟩ := x
  cases t with
  | nil =>
    simp -implicitDefEqProofs only [ZS, Nat.reduceAdd]
    exact endB_at rfl rfl rfl rfl (by simp)
  | cons c t =>
    have e0 : ¬ (((c :: t).length : Int) = 0) := by simp; omega
    have ix : ∀ H, ixA 1 (bys (c :: t)) (.int .i64 0) H = some (.ip [u8 c]) := fun H => ixA_bys (i := 0) rfl
    simp -implicitDefEqProofs only [lenV_bys, Option.bind_some, eql_int, condK_dec]
    rw [if_neg e0]
    simp -implicitDefEqProofs only [ix, ZS, Nat.reduceAdd]
    exact endB_at rfl rfl rfl rfl (by simp)
theorem byteK {β : Type} {H : List AObj} {l : Nat} {s : Rd} (h : H[l]? = some s.row) (hb : s.b.length ≤ 2 ^ 50) {K : AV → List AObj → List Nat → Option β} : callK (EV C) false n_coder_Reader_Byte [.ptr l 1 0 0] H K = K (u8 (byteP s).1) (H.set l (byteP s).2.row) [] := callM rfl (byte_ok h hb)
theorem or_byte {a : Nat} (h : a < 2 ^ 56) (x : UInt8) : bitsA .or .u64 ((a * 2 ^ 8 : Nat) : Int) (x.toNat : Int) = ((a * 256 + x.toNat : Nat) : Int) := by
  have hx := x.toNat_lt
  rw [or_u64 (by omega) (by omega), Nat.mul_comm a, ← Nat.two_pow_add_eq_or_of_lt (by omega)]
theorem num_J7 (l : Nat) (t : Bs) (ht : t.length ≤ 8) (s : Rd) (H0 H : List AObj) (h : H[l]? = some s.row) (hn : H.length = H0.length) : ∀ (m i : Nat), i + m = t.length →
    coder_Reader_Number_J7 H0.length (.ptr l 1 0 0) (bys t) (.int .u64 (valF (t.take i) : Int)) (bys t) (.int .i64 (t.length : Int)) (.int .i64 (i : Int)) H [] = some (.int .u64 ((numL t s).1 : Int), H.set l (numL t s).2.row, [])
  | 0, i, hi => by
    refine coder_Reader_Number_J7_of ?_
    obtain rfl : i = t.length := by omega
    simp -implicitDefEqProofs only [Int.lt_irrefl, nilA_ptr, rd_sto_bad h, List.take_length, ZS, Nat.reduceAdd]
    unfold numL
    cases t with
    | nil =>
      rw [if_pos (show (((([] : Bs).length : Nat) : Int) = 0) from rfl), if_pos (.inl rfl)]
      exact endB_at rfl rfl rfl rfl (by simp [hn])
    | cons c t =>
      have e0 : ¬ (((c :: t).length : Int) = 0) := by simp; omega
      have ix : ∀ H, ixA 1 (bys (c :: t)) (.int .i64 0) H = some (.ip [u8 c]) := fun H => ixA_bys (i := 0) rfl
      rw [if_neg e0]
      have eu : ∀ d c' b, binA .eql d c' b (u8 c) (.int .u8 0) = some (.bool (decide ((c.toNat : Int) = 0))) := fun _ _ _ => rfl
      simp -implicitDefEqProofs only [ix, eu, nilA_ptr, rd_sto_bad h, ZS, Nat.reduceAdd]
      by_cases hc : c.toNat = 0
      · have hc' : (c.toNat : Int) = 0 := by omega
        rw [if_pos hc', if_pos (.inr (.inl hc))]
        exact endB_at rfl rfl rfl rfl (by simp [hn])
      · have hc' : ¬ (c.toNat : Int) = 0 := by omega
        rw [if_neg hc']
        by_cases hv : valF (c :: t) < 248
        · have hv' : (valF (c :: t) : Int) ≤ 247 := by omega
          rw [if_pos hv', if_pos (.inr (.inr hv))]
          exact endB_at rfl rfl rfl rfl (by simp [hn])
        · have hv' : ¬ (valF (c :: t) : Int) ≤ 247 := by omega
          rw [if_neg hv', if_neg (by simp [hc]; omega), set_same h]
          exact endB_at rfl rfl rfl rfl hn
  | m + 1, i, hi => by
    refine coder_Reader_Number_J7_of ?_
    have hlt : i < t.length := by omega
    have e1 : ((i : Int) < (t.length : Int)) := by omega
    have e3 : IntKind.i64.wrap ((i : Int) + 1) = ((i + 1 : Nat) : Int) := w64 (by omega) (by omega)
    have vl := valF_lt (t.take i)
    rw [List.length_take, Nat.min_eq_left (by omega)] at vl
    have v7 : valF (t.take i) < 2 ^ 56 := Nat.lt_of_lt_of_le vl (by
      have : 256 ^ i ≤ 256 ^ 7 := Nat.pow_le_pow_right (by decide) (by omega)
      omega)
    have c8 : ∀ x : UInt8, cvI .u64 (u8 x) = some (.int .u64 (x.toNat : Int)) := fun x => by
      have := x.toNat_lt
      show some (AV.int .u64 (IntKind.u64.wrap (x.toNat : Int))) = _
      rw [wrap_u64 (by omega)]
    have sh : ∀ d c b, binA .shl d c b (.int .u64 (valF (t.take i) : Int)) (.int .u64 8) = some (.int .u64 ((valF (t.take i) * 2 ^ 8 : Nat) : Int)) := fun d c b => by
      have := shl_nat d c b .u64 .u64 (valF (t.take i)) 8 (by decide)
      rw [wrap_u64 (by omega)] at this; exact this
    have tk : t.take (i + 1) = t.take i ++ [t[i]] := by rw [List.take_succ_eq_append_getElem hlt]
    simp -implicitDefEqProofs only [e1, ixA_bys (List.getElem?_eq_getElem hlt), sh, c8, or_int, or_byte v7, add_int, e3, ZS, Nat.reduceAdd]
    have := num_J7 l t ht s H0 H h hn m (i + 1) (by omega)
    rw [tk, valF_snoc] at this
    exact this
end Go.Pm
namespace Go.Pm
open Go.Proofs
set_option linter.unusedVariables false
set_option linter.unusedSimpArgs false
theorem leq_u8 (d : TypeDesc) (c : TypeId → Bool) (b : Bool) (x : UInt8) (n : Int) : binA .leq d c b (u8 x) (.int .u8 n) = some (.bool (decide ((x.toNat : Int) ≤ n))) := rfl
theorem lss_u8 (d : TypeDesc) (c : TypeId → Bool) (b : Bool) (x : UInt8) (n : Int) : binA .lss d c b (u8 x) (.int .u8 n) = some (.bool (decide ((x.toNat : Int) < n))) := rfl
theorem eql_u8 (d : TypeDesc) (c : TypeId → Bool) (b : Bool) (x : UInt8) (n : Int) : binA .eql d c b (u8 x) (.int .u8 n) = some (.bool (decide ((x.toNat : Int) = n))) := rfl
theorem cv_u64 (x : UInt8) : cvI .u64 (u8 x) = some (.int .u64 (x.toNat : Int)) := by
  have := x.toNat_lt
  show some (AV.int .u64 (IntKind.u64.wrap (x.toNat : Int))) = _
  rw [wrap_u64 (by omega)]
theorem cv_i64 (x : UInt8) : cvI .i64 (u8 x) = some (.int .i64 (x.toNat : Int)) := by
  have := x.toNat_lt
  show some (AV.int .i64 (IntKind.i64.wrap (x.toNat : Int))) = _
  rw [wrap64] <;> omega
theorem cv_64u {n : Nat} (h : n < 2 ^ 63) : cvI .i64 (.int .u64 (n : Int)) = some (.int .i64 (n : Int)) := by
  show some (AV.int .i64 (IntKind.i64.wrap (n : Int))) = _
  rw [wrap64] <;> omega
theorem cv_u64i {n : Nat} (h : n < 2 ^ 64) : cvI .u64 (.int .i64 (n : Int)) = some (.int .u64 (n : Int)) := by
  show some (AV.int .u64 (IntKind.u64.wrap (n : Int))) = _
  rw [wrap_u64 h]
theorem cnum_ok {H : List AObj} {l : Nat} {s : Rd} (h : H[l]? = some s.row) (hb : s.b.length ≤ 2 ^ 50) : EV C n_coder_Reader_Number [.ptr l 1 0 0] H = some (.int .u64 ((numP s).1 : Int), H.set l (numP s).2.row, []) := by
  refine coder_Reader_Number_of ?_
  dsimp only
  rw [byteK h hb]
  have h1 := set_get (y := (byteP s).2.row) h
  have hl := byteP_len s
  have hc := (byteP s).1.toNat_lt
  unfold numP
  simp -implicitDefEqProofs only [leq_u8, ZS, Nat.reduceAdd]
  by_cases c : (byteP s).1.toNat < 248
  · have c' : ((byteP s).1.toNat : Int) ≤ 247 := by omega
    rw [if_pos c', if_pos c]
    simp -implicitDefEqProofs only [cv_u64, ZS, Nat.reduceAdd]
    exact endB_at rfl rfl rfl rfl (by simp)
  · have c' : ¬ ((byteP s).1.toNat : Int) ≤ 247 := by omega
    have e1 : IntKind.i64.wrap (((byteP s).1.toNat : Int) - 247) = (((byteP s).1.toNat - 247 : Nat) : Int) := w64 (by omega) (by omega)
    rw [if_neg c', if_neg c]
    simp -implicitDefEqProofs only [cv_i64, sub_int, e1, ZS, Nat.reduceAdd]
    rw [takeK h1 (by omega) (by omega)]
    have h2 := set_get (y := (takeP ((byteP s).1.toNat - 247) (byteP s).2).2.row) h1
    simp -implicitDefEqProofs only [ZS, Nat.reduceAdd]
    have := num_J7 l (takeP ((byteP s).1.toNat - 247) (byteP s).2).1 (by have := (takeP_len ((byteP s).1.toNat - 247) (byteP s).2).1; omega) _ H _ h2 (by simp) (takeP ((byteP s).1.toNat - 247) (byteP s).2).1.length 0 (by omega)
    rw [List.take_zero] at this
    refine this.trans ?_
    rw [List.set_set, List.set_set]
theorem cnumK {β : Type} {H : List AObj} {l : Nat} {s : Rd} (h : H[l]? = some s.row) (hb : s.b.length ≤ 2 ^ 50) {K : AV → List AObj → List Nat → Option β} : callK (EV C) false n_coder_Reader_Number [.ptr l 1 0 0] H K = K (.int .u64 ((numP s).1 : Int)) (H.set l (numP s).2.row) [] := callM rfl (cnum_ok h hb)
theorem numP_lt (s : Rd) : (numP s).1 < 2 ^ 64 := by
  unfold numP
  have hc := (byteP s).1.toNat_lt
  split
  · simp only; omega
  · unfold numL
    split
    · simp
    · have hv := valF_lt (takeP ((byteP s).1.toNat - 247) (byteP s).2).1
      have hl := (takeP_len ((byteP s).1.toNat - 247) (byteP s).2).1
      have h8 : 256 ^ (takeP ((byteP s).1.toNat - 247) (byteP s).2).1.length ≤ 256 ^ 8 := Nat.pow_le_pow_right (by decide) (by omega)
      simp only; omega
theorem cbytes_ok {H : List AObj} {l most : Nat} {s : Rd} (h : H[l]? = some s.row) (hb : s.b.length ≤ 2 ^ 50) (hm : most ≤ 2 ^ 50) : EV C n_coder_Reader_Bytes [.ptr l 1 0 0, .int .i64 (most : Int)] H = some (bys (bytesP most s).1, H.set l (bytesP most s).2.row, []) := by
  refine coder_Reader_Bytes_of ?_
  dsimp only
  rw [cnumK h hb]
  have h1 := set_get (y := (numP s).2.row) h
  have hl := numP_len s
  have hlt := numP_lt s
  have e0 : ¬ ((most : Int) < 0) := by omega
  simp -implicitDefEqProofs only [nilA_ptr, rd_bad h1, rd_b h1, rd_sto_bad h1, e0, cv_u64i (show most < 2 ^ 64 by omega), cv_u64i (show (numP s).2.b.length < 2 ^ 64 by omega), ZS, Nat.reduceAdd]
  unfold bytesP
  cases hbad : (numP s).2.bad with
  | true =>
    simp -implicitDefEqProofs only [ZS, Nat.reduceAdd]
    rw [if_pos (.inl trivial), List.set_set]
    exact endB_at rfl rfl rfl rfl (by simp)
  | false =>
    simp -implicitDefEqProofs only [ZS, Nat.reduceAdd]
    by_cases c1 : most < (numP s).1
    · have c1' : (most : Int) < ((numP s).1 : Int) := by omega
      rw [if_pos c1', if_pos (.inr (.inl c1)), List.set_set]
      exact endB_at rfl rfl rfl rfl (by simp)
    · have c1' : ¬ (most : Int) < ((numP s).1 : Int) := by omega
      rw [if_neg c1']
      by_cases c2 : (numP s).2.b.length < (numP s).1
      · have c2' : ((numP s).2.b.length : Int) < ((numP s).1 : Int) := by omega
        rw [if_pos c2', if_pos (.inr (.inr c2)), List.set_set]
        exact endB_at rfl rfl rfl rfl (by simp)
      · have c2' : ¬ ((numP s).2.b.length : Int) < ((numP s).1 : Int) := by omega
        rw [if_neg c2', if_neg (by simp; omega), cv_64u (by omega), Option.bind_some, takeK h1 (by omega) (by omega), List.set_set]
        exact endB_at (frz_good _ _ (good_bys _)) (good_bys _) (kills_good _ (good_bys _)) rfl (by simp)
theorem cbytesK {β : Type} {H : List AObj} {l most : Nat} {s : Rd} (h : H[l]? = some s.row) (hb : s.b.length ≤ 2 ^ 50) (hm : most ≤ 2 ^ 50) {K : AV → List AObj → List Nat → Option β} : callK (EV C) false n_coder_Reader_Bytes [.ptr l 1 0 0, .int .i64 (most : Int)] H K = K (bys (bytesP most s).1) (H.set l (bytesP most s).2.row) [] := callM (by simp [goodL, AV.good]) (cbytes_ok h hb hm)
theorem cend_ok {H : List AObj} {l : Nat} {s : Rd} (h : H[l]? = some s.row) : EV C n_coder_Reader_End [.ptr l 1 0 0] H = some (errA (endRd s), H, []) := by
  refine coder_Reader_End_of ?_
  simp -implicitDefEqProofs only [nilA_ptr, rd_bad h, rd_b h, ZS, Nat.reduceAdd]
  unfold endRd
  cases hbad : s.bad with
  | true =>
    simp -implicitDefEqProofs only [ZS, Nat.reduceAdd]
    exact endB_at rfl rfl rfl rfl rfl
  | false =>
    simp -implicitDefEqProofs only [Bool.false_eq_true, ZS, Nat.reduceAdd]
    by_cases c : 0 < s.b.length
    · have c' : (0 : Int) < (s.b.length : Int) := by omega
      rw [if_pos c', if_pos c]
      exact endB_at rfl rfl rfl rfl rfl
    · have c' : ¬ (0 : Int) < (s.b.length : Int) := by omega
      rw [if_neg c', if_neg c]
      exact endB_at rfl rfl rfl rfl rfl
theorem cendK {β : Type} {H : List AObj} {l : Nat} {s : Rd} (h : H[l]? = some s.row) {K : AV → List AObj → List Nat → Option β} : callK (EV C) false n_coder_Reader_End [.ptr l 1 0 0] H K = K (errA (endRd s)) H [] := callM rfl (cend_ok h)
theorem newR_ok (b : Bs) (hb : b.length ≤ 2 ^ 46) (H : List AObj) : EV C n_coder_NewReader [bys b] H = some (.ptr H.length 1 0 0, H ++ [Rd.row ⟨b, false⟩], []) := by
  refine coder_NewReader_of ?_
  dsimp only
  rw [callK_ok (by simp) (Clone_byte_ok b (by omega))]
  have fl : ∀ (K : List AV → Option R3), (fillB (AV.cells (.agg [.nils, (.bool false)])) [(0, 1, bys b)]).bind K = K [bys b, .bool false] := fun K => by simp [fillB, AV.cells, AV.isBad, bys]
  rw [fl, new_agg (by simp) (by simp [AV.one, bys])]
  exact endB_raw
theorem newRK {β : Type} (b : Bs) (hb : b.length ≤ 2 ^ 46) (H : List AObj) {K : AV → List AObj → List Nat → Option β} : callK (EV C) true n_coder_NewReader [bys b] H K = K (.ptr H.length 1 0 0) (H ++ [Rd.row ⟨b, false⟩]) [] := callK_raw (newR_ok b hb H)
end Go.Pm
namespace Go.Pm
open Go.Proofs
set_option linter.unusedVariables false
set_option linter.unusedSimpArgs false
def RdR.cs (s : RdR) : List AV := [bys s.B, .int .i64 (s.at_ : Int), .bool s.bad]
def RdR.row (s : RdR) : AObj := .row 3 [.agg s.cs]
theorem rr_b {H : List AObj} {l : Nat} {s : RdR} (h : H[l]? = some s.row) : loadA false 1 (.ptr l 1 0 0) H = some (bys s.B) := ld_fld h rfl
theorem rr_at {H : List AObj} {l : Nat} {s : RdR} (h : H[l]? = some s.row) : loadA false 1 (.ptr l 1 0 1) H = some (.int .i64 (s.at_ : Int)) := ld_fld h rfl
theorem rr_bad {H : List AObj} {l : Nat} {s : RdR} (h : H[l]? = some s.row) : loadA false 1 (.ptr l 1 0 2) H = some (.bool s.bad) := ld_fld h rfl
theorem rr_sto_bad {β : Type} {H : List AObj} {l : Nat} {s : RdR} {x : Bool} {K : List AObj → List Nat → Option β} (h : H[l]? = some s.row) : stoK 1 (.ptr l 1 0 2) (.bool x) H K = K (H.set l (RdR.row ⟨s.B, s.at_, x⟩)) [] := by
  rw [sto_fld h (by simp [RdR.cs]) rfl rfl, escs_good (by simp [goodL, AV.good])]; rfl
theorem rr_sto_at {β : Type} {H : List AObj} {l : Nat} {s : RdR} {x : Nat} {K : List AObj → List Nat → Option β} (h : H[l]? = some s.row) : stoK 1 (.ptr l 1 0 1) (.int .i64 (x : Int)) H K = K (H.set l (RdR.row ⟨s.B, x, s.bad⟩)) [] := by
  rw [sto_fld h (by simp [RdR.cs]) rfl rfl, escs_good (by simp [goodL, AV.good])]; rfl
/-- a place that may be -/
def RdR.ok (s : RdR) : Prop := s.at_ ≤ s.B.length ∧ s.B.length ≤ 2 ^ 50
theorem RdR.rest_len {s : RdR} (h : s.ok) : s.rest.length = s.B.length - s.at_ := by simp [RdR.rest]
theorem byteR_ok {s : RdR} (h : s.ok) : (byteR s).2.ok := by
  unfold byteR; split
  · exact h
  · rename_i hc; exact ⟨by simp only; omega, h.2⟩
theorem numR_ok {s : RdR} (h : s.ok) : (numR s).2.ok := by
  have b := byteR_ok h
  have bB := byteR_B s
  have bl := RdR.rest_len b
  have b1 := b.1
  rw [bB] at b1 bl
  unfold numR
  by_cases c1 : (byteR s).2.bad = true ∨ (byteR s).1.toNat < 248
  · rw [if_pos c1]; exact b
  · rw [if_neg c1]
    by_cases c2 : (byteR s).2.rest.length < (byteR s).1.toNat - 247
    · rw [if_pos c2]; exact ⟨b1, h.2⟩
    · rw [if_neg c2]
      split
      · exact ⟨b1, h.2⟩
      · exact ⟨by simp only; omega, h.2⟩
theorem rbyte_ok {H : List AObj} {l : Nat} {s : RdR} (h : H[l]? = some s.row) (ho : s.ok) : EV C n_ref02_Reader_Byte [.ptr l 1 0 0] H = some (u8 (byteR s).1, H.set l (byteR s).2.row, []) := by
  refine ref02_Reader_Byte_of ?_
  unfold RdR.ok at ho
  simp -implicitDefEqProofs only [nilA_ptr, rr_b h, rr_at h, rr_bad h, rr_sto_bad h, ZS, Nat.reduceAdd]
  unfold byteR
  cases hbad : s.bad with
  | true =>
    simp -implicitDefEqProofs only [ZS, Nat.reduceAdd]
    rw [if_pos (.inl trivial)]
    exact endB_at rfl rfl rfl rfl (by simp)
  | false =>
    simp -implicitDefEqProofs only [ZS, Nat.reduceAdd]
    by_cases c : s.B.length ≤ s.at_
    · have c' : (s.B.length : Int) ≤ (s.at_ : Int) := by omega
      rw [if_pos c', if_pos (.inr c)]
      exact endB_at rfl rfl rfl rfl (by simp)
    · have c' : ¬ (s.B.length : Int) ≤ (s.at_ : Int) := by omega
      have e1 : IntKind.i64.wrap ((s.at_ : Int) + 1) = ((s.at_ + 1 : Nat) : Int) := w64 (by omega) (by omega)
      have e2 : IntKind.i64.wrap (((s.at_ + 1 : Nat) : Int) - 1) = ((s.at_ : Nat) : Int) := w64 (by omega) (by omega)
      rw [if_neg c', if_neg (by simp; omega)]
      have hlt : s.at_ < s.B.length := by omega
      have h1 := set_get (y := RdR.row ⟨s.B, s.at_ + 1, s.bad⟩) h
      have hh : s.rest.headD 0 = s.B[s.at_] := by unfold RdR.rest; rw [List.drop_eq_getElem_cons hlt]; rfl
      simp -implicitDefEqProofs only [add_int, e1, rr_sto_at h, nilA_ptr, rr_b h1, rr_at h1, sub_int, e2, ixA_bys (List.getElem?_eq_getElem hlt), ZS, Nat.reduceAdd]
      rw [hh, hbad]
      exact endB_at rfl rfl rfl rfl (by simp)
theorem rbyteK {β : Type} {H : List AObj} {l : Nat} {s : RdR} (h : H[l]? = some s.row) (ho : s.ok) {K : AV → List AObj → List Nat → Option β} : callK (EV C) false n_ref02_Reader_Byte [.ptr l 1 0 0] H K = K (u8 (byteR s).1) (H.set l (byteR s).2.row) [] := callM rfl (rbyte_ok h ho)
theorem mul256 (d : TypeDesc) (c : TypeId → Bool) (b : Bool) {x : Nat} (h : x < 2 ^ 56) : binA .mul d c b (.int .u64 256) (.int .u64 (x : Int)) = some (.int .u64 ((256 * x : Nat) : Int)) := by
  have := mul_int d c b .u64 256 (x : Int)
  rw [this]
  have e : (256 : Int) * (x : Int) = ((256 * x : Nat) : Int) := by omega
  rw [e, wrap_u64 (by omega)]
/-- what comes behind the loop of the document's Number -/
def numE (n : Nat) (s : RdR) : Nat × RdR := if (s.rest.headD 0).toNat = 0 ∨ valF (s.rest.take n) < 248 then (0, ⟨s.B, s.at_, true⟩) else (valF (s.rest.take n), ⟨s.B, s.at_ + n, s.bad⟩)
theorem rnum_J10 (l n : Nat) (h1 : 1 ≤ n) (h8 : n ≤ 8) (s : RdR) (ho : s.ok) (hr : n ≤ s.rest.length) (H0 H : List AObj) (h : H[l]? = some s.row) (hn : H.length = H0.length) : ∀ (m i : Nat), i + m = n →
    ref02_Reader_Number_J10 H0.length (.ptr l 1 0 0) (.int .i64 (n : Int)) (.int .u64 (valF (s.rest.take i) : Int)) (.int .i64 (i : Int)) H [] = some (.int .u64 ((numE n s).1 : Int), H.set l (numE n s).2.row, [])
  | 0, i, hi => by
    refine ref02_Reader_Number_J10_of ?_
    obtain rfl : i = n := by omega
    have rl := RdR.rest_len ho
    have hlt : s.at_ < s.B.length := by omega
    have hh : s.rest.headD 0 = s.B[s.at_] := by unfold RdR.rest; rw [List.drop_eq_getElem_cons hlt]; rfl
    have e1 : IntKind.i64.wrap ((s.at_ : Int) + (i : Int)) = ((s.at_ + i : Nat) : Int) := w64 (by omega) (by have := ho.2; omega)
    simp -implicitDefEqProofs only [Int.lt_irrefl, nilA_ptr, rr_b h, rr_at h, rr_sto_bad h, rr_sto_at h, ixA_bys (List.getElem?_eq_getElem hlt), eql_u8, add_int, e1, ZS, Nat.reduceAdd]
    unfold numE
    rw [hh]
    by_cases hc : s.B[s.at_].toNat = 0
    · have hc' : (s.B[s.at_].toNat : Int) = 0 := by omega
      rw [if_pos hc', if_pos (.inl hc)]
      exact endB_at rfl rfl rfl rfl (by simp [hn])
    · have hc' : ¬ (s.B[s.at_].toNat : Int) = 0 := by omega
      rw [if_neg hc']
      by_cases hv : valF (s.rest.take i) < 248
      · have hv' : (valF (s.rest.take i) : Int) < 248 := by omega
        rw [if_pos hv', if_pos (.inr hv)]
        exact endB_at rfl rfl rfl rfl (by simp [hn])
      · have hv' : ¬ (valF (s.rest.take i) : Int) < 248 := by omega
        rw [if_neg hv', if_neg (by simp [hc]; omega)]
        exact endB_at rfl rfl rfl rfl (by simp [hn])
  | m + 1, i, hi => by
    refine ref02_Reader_Number_J10_of ?_
    have rl := RdR.rest_len ho
    have hB := ho.2
    have hlt : i < s.rest.length := by omega
    have hlt2 : s.at_ + i < s.B.length := by omega
    have e0 : ((i : Int) < (n : Int)) := by omega
    have e1 : IntKind.i64.wrap ((s.at_ : Int) + (i : Int)) = ((s.at_ + i : Nat) : Int) := w64 (by omega) (by omega)
    have e3 : IntKind.i64.wrap ((i : Int) + 1) = ((i + 1 : Nat) : Int) := w64 (by omega) (by omega)
    have vl := valF_lt (s.rest.take i)
    rw [List.length_take, Nat.min_eq_left (by omega)] at vl
    have v7 : valF (s.rest.take i) < 2 ^ 56 := Nat.lt_of_lt_of_le vl (by
      have : 256 ^ i ≤ 256 ^ 7 := Nat.pow_le_pow_right (by decide) (by omega)
      omega)
    have ge : s.B[s.at_ + i] = s.rest[i] := by simp [RdR.rest]
    have hx := s.rest[i].toNat_lt
    have tk : s.rest.take (i + 1) = s.rest.take i ++ [s.rest[i]] := by rw [List.take_succ_eq_append_getElem hlt]
    simp -implicitDefEqProofs only [e0, mul256 _ _ _ v7, nilA_ptr, rr_b h, rr_at h, add_int .., e1, ixA_bys (List.getElem?_eq_getElem hlt2), ge, cv_u64, e3, ZS, Nat.reduceAdd]
    have e4 : IntKind.u64.wrap (((256 * valF (s.rest.take i) : Nat) : Int) + (s.rest[i].toNat : Int)) = ((valF (s.rest.take i) * 256 + s.rest[i].toNat : Nat) : Int) := by
      rw [← Int.natCast_add, wrap_u64 (by omega), Nat.mul_comm]
    rw [e4]
    have := rnum_J10 l n h1 h8 s ho hr H0 H h hn m (i + 1) (by omega)
    rw [tk, valF_snoc] at this
    exact this
theorem rnum_ok {H : List AObj} {l : Nat} {s : RdR} (h : H[l]? = some s.row) (ho : s.ok) : EV C n_ref02_Reader_Number [.ptr l 1 0 0] H = some (.int .u64 ((numR s).1 : Int), H.set l (numR s).2.row, []) := by
  refine ref02_Reader_Number_of ?_
  dsimp only
  rw [rbyteK h ho]
  have h1 := set_get (y := (byteR s).2.row) h
  have hb := byteR_ok ho
  have hB := byteR_B s
  have hc := (byteR s).1.toNat_lt
  have rl := RdR.rest_len hb
  have hb1 := hb.1; have hb2 := hb.2
  unfold numR
  simp -implicitDefEqProofs only [nilA_ptr, rr_bad h1, rr_b h1, rr_at h1, rr_sto_bad h1, lss_u8, ZS, Nat.reduceAdd]
  cases hbad : (byteR s).2.bad with
  | true =>
    simp -implicitDefEqProofs only [cv_u64, ZS, Nat.reduceAdd]
    rw [if_pos (.inl trivial)]
    exact endB_at rfl rfl rfl rfl (by simp)
  | false =>
    simp -implicitDefEqProofs only [ZS, Nat.reduceAdd]
    by_cases c : (byteR s).1.toNat < 248
    · have c' : ((byteR s).1.toNat : Int) < 248 := by omega
      rw [if_pos c', if_pos (.inr c)]
      simp -implicitDefEqProofs only [cv_u64, ZS, Nat.reduceAdd]
      exact endB_at rfl rfl rfl rfl (by simp)
    · have c' : ¬ ((byteR s).1.toNat : Int) < 248 := by omega
      have e1 : IntKind.i64.wrap (((byteR s).1.toNat : Int) - 247) = (((byteR s).1.toNat - 247 : Nat) : Int) := w64 (by omega) (by omega)
      have e2 : IntKind.i64.wrap (((byteR s).2.B.length : Int) - ((byteR s).2.at_ : Int)) = (((byteR s).2.rest.length : Nat) : Int) := w64 (by omega) (by omega)
      rw [if_neg c', if_neg (by simp; omega)]
      simp -implicitDefEqProofs only [cv_i64, sub_int, e1, e2, nilA_ptr, rr_bad h1, rr_b h1, rr_at h1, rr_sto_bad h1, ZS, Nat.reduceAdd]
      by_cases c2 : (byteR s).2.rest.length < (byteR s).1.toNat - 247
      · have c2' : ((byteR s).2.rest.length : Int) < (((byteR s).1.toNat - 247 : Nat) : Int) := by omega
        rw [if_pos c2', if_pos c2, List.set_set, hB]
        exact endB_at rfl rfl rfl rfl (by simp)
      · have c2' : ¬ ((byteR s).2.rest.length : Int) < (((byteR s).1.toNat - 247 : Nat) : Int) := by omega
        rw [if_neg c2', if_neg c2]
        have := rnum_J10 l ((byteR s).1.toNat - 247) (by omega) (by omega) (byteR s).2 hb (by omega) H _ h1 (by simp) ((byteR s).1.toNat - 247) 0 (by omega)
        rw [List.take_zero] at this
        refine this.trans ?_
        unfold numE
        rw [List.set_set, hB, hbad]
theorem rnumK {β : Type} {H : List AObj} {l : Nat} {s : RdR} (h : H[l]? = some s.row) (ho : s.ok) {K : AV → List AObj → List Nat → Option β} : callK (EV C) false n_ref02_Reader_Number [.ptr l 1 0 0] H K = K (.int .u64 ((numR s).1 : Int)) (H.set l (numR s).2.row) [] := callM rfl (rnum_ok h ho)
end Go.Pm
