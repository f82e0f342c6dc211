/- A part of the proof: what the functions of the program answer, as plain lists and numbers. -/
import Derived.Test.YtahipmiaknbkoaaP9
import Derived.Test.YtahipmiaknbkoaaP10
import Derived.Test.YtahipmiaknbkoaaP11
import Derived.Test.YtahipmiaknbkoaaP12
import Derived.Test.YtahipmiaknbkoaaP13
import Derived.Test.YtahipmiaknbkoaaP14
import Derived.Test.YtahipmiaknbkoaaP15
import Derived.Test.YtahipmiaknbkoaaP16
namespace Go.Pm
open Go.Proofs
set_option linter.unusedVariables false
set_option linter.unusedSimpArgs false
def stepN (c : Nat) : Nat := if c % 2 = 1 then (c / 2) ^^^ 2197175160 else c / 2
def stepsN : Nat → Nat → Nat
  | 0, c => c
  | n + 1, c => stepsN n (stepN c)
def crcL : List UInt8 → Nat → Nat
  | [], c => c
  | b :: l, c => crcL l (stepsN 8 (c ^^^ b.toNat))
def crc (l : List UInt8) : Nat := crcL l 4294967295 ^^^ 4294967295
theorem stepN_lt {c : Nat} (h : c < 2^32) : stepN c < 2^32 := by
  unfold stepN
  split
  · exact Nat.xor_lt_two_pow (by omega) (by decide)
  · omega
theorem stepsN_lt : ∀ (n : Nat) {c : Nat}, c < 2^32 → stepsN n c < 2^32
  | 0, c, h => h
  | n + 1, c, h => stepsN_lt n (stepN_lt h)
theorem u8_lt (b : UInt8) : b.toNat < 2^32 := by have := b.toNat_lt; omega
theorem byte_lt {c : Nat} (b : UInt8) (h : c < 2^32) : c ^^^ b.toNat < 2^32 := Nat.xor_lt_two_pow h (u8_lt b)
theorem crcL_lt : ∀ (l : List UInt8) {c : Nat}, c < 2^32 → crcL l c < 2^32
  | [], c, h => h
  | b :: l, c, h => crcL_lt l (stepsN_lt 8 (byte_lt b h))
theorem crc_lt (l : List UInt8) : crc l < 2^32 := Nat.xor_lt_two_pow (crcL_lt l (by decide)) (by decide)

theorem wal_bits {r : R3} {n : Nat} {Ha H : List AObj} {Ea E : List Nat} {t7 t8 t9 : AV} : ∀ (m : Nat) (c : Nat), c < 2^32 → m ≤ 8 →
    (binA .add (Go.TypeDesc.int Go.IntKind.i64) (cmpT Try.prog) true t9 (.int .i64 1)).bind (fun a => wal_Sum_J3 n (.int .u32 (stepsN m c : Nat)) t7 t8 a H (E ++ Ea)) = some r →
    wal_Sum_J7 n Ha Ea (.int .u32 (c : Nat)) t7 t8 t9 (.int .i64 (8 - m : Int)) H E = some r
  | 0, c, hc, _, h => by
    refine wal_Sum_J7_of ?_
    simpa [stepsN] using h
  | m + 1, c, hc, hm, h => by
    refine wal_Sum_J7_of ?_
    have e1 : ((8 : Int) - ((m + 1 : Nat) : Int) < 8) := by omega
    have e2 : IntKind.i64.wrap ((8 : Int) - ((m + 1 : Nat) : Int) + 1) = 8 - (m : Int) := by rw [wrap64] <;> omega
    have ih := wal_bits (r := r) (n := n) (Ha := Ha) (H := H) (Ea := Ea) (E := E) (t7 := t7) (t8 := t8) (t9 := t9) m (stepN c) (stepN_lt hc) (by omega) h
    have e3 : bitsA .and .u32 (c : Int) 1 = ((c % 2 : Nat) : Int) := by
      have := and_u32 hc (show 1 < 2^32 by decide); rw [Nat.and_one_is_mod] at this; exact this
    have e4 : bitsA .xor .u32 ((c / 2 : Nat) : Int) 2197175160 = ((c / 2 ^^^ 2197175160 : Nat) : Int) := xor_u32 (show c / 2 < 2^32 by omega) (show 2197175160 < 2^32 by decide)
    have e5 : binA .shr (.int .u32) (cmpT Try.prog) true (.int .u32 (c : Int)) (.int .u64 1) = some (.int .u32 ((c / 2 : Nat) : Int)) := by
      have := shr_nat (.int .u32) (cmpT Try.prog) true .u32 .u64 c 1 (by decide); rw [Nat.pow_one] at this; exact this
    simp only [lss_int, Option.bind_some, e1, decide_true, condK_t, and_int, e3, e5, eql_int, condK_dec, add_int, e2, xor_int, e4]
    unfold stepN at ih
    split
    · rename_i hb
      rw [if_pos (by omega)] at ih
      exact ih
    · rename_i hb
      rw [if_neg (by omega)] at ih
      exact ih
theorem wal_sum_loop (l : List UInt8) (hl : l.length < 2^62) : ∀ (m i : Nat) (c : Nat), c < 2^32 → i + m = l.length →
    wal_Sum_J3 0 (.int .u32 (c : Nat)) (bys l) (.int .i64 l.length) (.int .i64 i) [] [] = some (.int .u32 ((crcL (l.drop i) c ^^^ 4294967295 : Nat) : Int), [], [])
  | 0, i, c, hc, h => by
    refine wal_Sum_J3_of ?_
    have e1 : ¬ ((i : Int) < (l.length : Int)) := by omega
    have e2 : l.drop i = [] := List.drop_eq_nil_of_le (by omega)
    have e3 : bitsA .xor .u32 IntKind.u32.max (c : Int) = ((c ^^^ 4294967295 : Nat) : Int) := by
      rw [Nat.xor_comm]; exact xor_u32 (show 4294967295 < 2^32 by decide) hc
    simp only [lss_int, Option.bind_some, e1, decide_false, condK_f, e2, crcL]
    rw [show unA .xor (.int .u32 (c : Int)) = some (.int .u32 (bitsA .xor .u32 IntKind.u32.max (c : Int))) from rfl, e3]
    exact endB_good rfl
  | m + 1, i, c, hc, h => by
    refine wal_Sum_J3_of ?_
    have hi : i < l.length := by omega
    have e1 : ((i : Int) < (l.length : Int)) := by omega
    have e2 : l.drop i = l[i] :: l.drop (i + 1) := List.drop_eq_getElem_cons hi
    have e3 : IntKind.i64.wrap ((i : Int) + 1) = ((i + 1 : Nat) : Int) := by rw [wrap64] <;> omega
    have e4 := xor_u32 hc (u8_lt l[i])
    simp only [lss_int, Option.bind_some, e1, decide_true, condK_t, e2, crcL, ixA_bys (List.getElem?_eq_getElem hi), loadA_ip1, u8, cvI_int, xor_int, wrap_u32 (u8_lt l[i]), e4]
    exact wal_bits (n := 0) (Ha := []) (H := []) (Ea := []) (E := []) (t7 := bys l) (t8 := .int .i64 l.length) (t9 := .int .i64 i) 8 (c ^^^ l[i].toNat) (byte_lt _ hc) (by omega) (by
      simp only [add_int, Option.bind_some, e3]
      exact wal_sum_loop l hl m (i + 1) _ (stepsN_lt 8 (byte_lt _ hc)) (by omega))
theorem wal_Sum_ok (l : List UInt8) (hl : l.length < 2^62) : EV C n_wal_Sum [bys l] [] = some (.int .u32 (crc l), [], []) := by
  refine wal_Sum_of ?_
  simp only [lenV_bys, Option.bind_some]
  exact wal_sum_loop l hl l.length 0 4294967295 (by decide) (by omega)

end Go.Pm
