/- A part of the proof: what the functions of the program answer, as plain lists and numbers. -/
import Derived.Test.YtahipmiaknbkoaaP17
namespace Go.Pm
open Go.Proofs
set_option linter.unusedVariables false
set_option linter.unusedSimpArgs false
def numL : List UInt8 → Nat
  | a :: b :: c :: d :: _ => a.toNat * 2^24 + b.toNat * 2^16 + c.toNat * 2^8 + d.toNat
  | _ => 0
def fourL (v : Nat) : List UInt8 := [UInt8.ofNat (v / 2^24), UInt8.ofNat (v / 2^16), UInt8.ofNat (v / 2^8), UInt8.ofNat v]
theorem numL_lt (l : List UInt8) : numL l < 2^32 := by
  unfold numL
  split
  · rename_i a b c d _
    have := a.toNat_lt; have := b.toNat_lt; have := c.toNat_lt; have := d.toNat_lt
    omega
  · decide
theorem or_add {a b i : Nat} (h : b < 2^i) : a * 2^i ||| b = a * 2^i + b := by
  rw [Nat.mul_comm, ← Nat.two_pow_add_eq_or_of_lt h]
theorem ix0 (a : UInt8) (l : List UInt8) (H : List AObj) : ixA 1 (bys (a :: l)) (.int .i64 0) H = some (.ip [u8 a]) := ixA_bys (i := 0) rfl
theorem ix1 (a b : UInt8) (l : List UInt8) (H : List AObj) : ixA 1 (bys (a :: b :: l)) (.int .i64 1) H = some (.ip [u8 b]) := ixA_bys (i := 1) rfl
theorem ix2 (a b c : UInt8) (l : List UInt8) (H : List AObj) : ixA 1 (bys (a :: b :: c :: l)) (.int .i64 2) H = some (.ip [u8 c]) := ixA_bys (i := 2) rfl
theorem ix3 (a b c d : UInt8) (l : List UInt8) (H : List AObj) : ixA 1 (bys (a :: b :: c :: d :: l)) (.int .i64 3) H = some (.ip [u8 d]) := ixA_bys (i := 3) rfl
theorem shl32 {x s : Nat} (h : x * 2^s < 2^32) (h1 : s ≤ 32) : binA .shl (.int .u32) (cmpT Try.prog) true (.int .u32 (x : Int)) (.int .u64 (s : Int)) = some (.int .u32 ((x * 2^s : Nat) : Int)) := by
  rw [shl_nat _ _ _ _ _ _ _ h1, wrap_u32 h]
theorem wal_number_ok (l : List UInt8) (hl : 4 ≤ l.length) : EV C n_wal_number [bys l] [] = some (.int .u32 (numL l), [], []) := by
  rcases l with _ | ⟨a, _ | ⟨b, _ | ⟨c, _ | ⟨d, t⟩⟩⟩⟩ <;> try (simp at hl; done)
  refine wal_number_of ?_
  have ha := a.toNat_lt; have hb := b.toNat_lt; have hc := c.toNat_lt; have hd := d.toNat_lt
  have s1 := shl32 (x := a.toNat) (s := 24) (by omega) (by decide)
  have s2 := shl32 (x := b.toNat) (s := 16) (by omega) (by decide)
  have s3 := shl32 (x := c.toNat) (s := 8) (by omega) (by decide)
  have o1 : bitsA .or .u32 ((a.toNat * 2^24 : Nat) : Int) ((b.toNat * 2^16 : Nat) : Int) = ((a.toNat * 2^24 + b.toNat * 2^16 : Nat) : Int) := by
    rw [or_u32 (by omega) (by omega), or_add (by omega)]
  have o2 : bitsA .or .u32 ((a.toNat * 2^24 + b.toNat * 2^16 : Nat) : Int) ((c.toNat * 2^8 : Nat) : Int) = ((a.toNat * 2^24 + b.toNat * 2^16 + c.toNat * 2^8 : Nat) : Int) := by
    rw [or_u32 (by omega) (by omega), show a.toNat * 2^24 + b.toNat * 2^16 = (a.toNat * 2^8 + b.toNat) * 2^16 by omega, or_add (by omega)]
  have o3 : bitsA .or .u32 ((a.toNat * 2^24 + b.toNat * 2^16 + c.toNat * 2^8 : Nat) : Int) (d.toNat : Int) = ((a.toNat * 2^24 + b.toNat * 2^16 + c.toNat * 2^8 + d.toNat : Nat) : Int) := by
    rw [or_u32 (by omega) (by omega), show a.toNat * 2^24 + b.toNat * 2^16 + c.toNat * 2^8 = (a.toNat * 2^16 + b.toNat * 2^8 + c.toNat) * 2^8 by omega, or_add (by omega)]
  simp only [ix0, ix1, ix2, ix3, Option.bind_some, loadA_ip1, u8, cvI_int, wrap_u32 (u8_lt a), wrap_u32 (u8_lt b), wrap_u32 (u8_lt c), wrap_u32 (u8_lt d)]
  rw [show (.int .u64 24 : AV) = .int .u64 ((24 : Nat) : Int) from rfl, show (.int .u64 16 : AV) = .int .u64 ((16 : Nat) : Int) from rfl, show (.int .u64 8 : AV) = .int .u64 ((8 : Nat) : Int) from rfl, s1, s2, s3]
  simp only [Option.bind_some, or_int, o1, o2, o3]
  exact endB_good rfl
theorem wal_four_ok (v : Nat) (hv : v < 2^32) : EV C n_wal_four [.int .u32 v] [] = some (bys (fourL v), [], []) := by
  refine wal_four_of ?_
  have s1 := shr_nat (.int .u32) (cmpT Try.prog) true .u32 .u64 v 24 (by decide)
  have s2 := shr_nat (.int .u32) (cmpT Try.prog) true .u32 .u64 v 16 (by decide)
  have s3 := shr_nat (.int .u32) (cmpT Try.prog) true .u32 .u64 v 8 (by decide)
  rw [show (.int .u64 24 : AV) = .int .u64 ((24 : Nat) : Int) from rfl, show (.int .u64 16 : AV) = .int .u64 ((16 : Nat) : Int) from rfl, show (.int .u64 8 : AV) = .int .u64 ((8 : Nat) : Int) from rfl, s1, s2, s3]
  simp only [Option.bind_some, cvI_int, wrap_u8]
  rw [← u8_nat, ← u8_nat, ← u8_nat, ← u8_nat]
  show endB false false 0 (bys (fourL v)) [] [] = _
  exact endB_good (good_bys _)
theorem ixA_map {α : Type} {f : α → AV} (hf : ∀ a, (f a).cells = [f a]) {l : List α} {k : IntKind} {i : Nat} {a : α} {H : List AObj} (h : l[i]? = some a) : ixA 1 (.lst (l.map f)) (.int k i) H = some (.ip [f a]) := by
  rw [ixA_lst (e := f a) (by omega) (by simp [h]) (by simp [hf]), hf]
theorem Grow_byte_ok (n : Nat) (h0 : 0 < n) (h1 : n ≤ 2^46) (H : List AObj) : EV C n_Grow_byte [.nils, .int .i64 n] H = some (.slc (H.length + 1) 0 0 0, H ++ [.dead, .row 1 []], []) := by
  refine Grow_byte_of ?_
  have e0 : ¬ ((n : Int) < 0) := by omega
  have e1 : (0 : Int) < (n : Int) := by omega
  have w0 : IntKind.i64.wrap ((0 : Int) - 0) = 0 := by decide
  have w1 : IntKind.i64.wrap ((n : Int) - 0) = n := by rw [wrap64] <;> omega
  have l0 : ∀ H, lenV .nils H = some (.int .i64 0) := fun H => rfl
  have c1 : cutA 1 .nils none (some (.int .i64 0)) none H = some .nils := rfl
  simp only [lss_int, Option.bind_some, e0, decide_false, condK_f, capA, l0, sub_int, w0, w1, gtr_int, e1, decide_true, condK_t, c1]
  have z1 : appZ 1 1 (.int .u8 0) .nils (.int .i64 n) H = some (.slc H.length 0 n n, H ++ [.row 1 (List.replicate n (.int .u8 0))], []) := by
    have : (n : Int) ≤ 140737489400832 := by omega
    simp [appZ, e1, this, AV.cells, AV.one]
    omega
  simp only [zapK, z1, Option.bind_some, l0]
  have c2 : cutA 1 (.slc H.length 0 n n) none (some (.int .i64 0)) none (H ++ [.row 1 (List.replicate n (.int .u8 0))]) = some (.slc H.length 0 0 n) := by
    simp [cutA, lenA, lenOf, boundA]
  simp only [c2, Option.bind_some, trmK, trimA]
  simp [endB_raw]
theorem grow0 (H : List AObj) : EV C n_Grow_byte [.nils, .int .i64 ((0 : Nat) : Int)] H = some (.nils, H, []) := by
  show EV C n_Grow_byte [.nils, .int .i64 0] H = _
  refine Grow_byte_of ?_
  have w0 : IntKind.i64.wrap ((0 : Int) - 0) = 0 := by decide
  have l0 : ∀ H, lenV .nils H = some (.int .i64 0) := fun H => rfl
  simp only [lss_int, Option.bind_some, Int.lt_irrefl, decide_false, condK_f, capA, l0, sub_int, w0, gtr_int]
  exact endB_raw
theorem take_flat {ls : List (List UInt8)} {i : Nat} (h : i < ls.length) : (ls.take (i + 1)).flatten = (ls.take i).flatten ++ ls[i] := by
  rw [List.take_add_one, List.getElem?_eq_getElem h, List.flatten_append]; simp only [Option.toList, List.flatten_cons, List.flatten_nil, List.append_nil]
theorem flat_le {ls : List (List UInt8)} {i : Nat} : (ls.take i).flatten.length ≤ ls.flatten.length := by
  conv => rhs; rw [← List.take_append_drop i ls]
  rw [List.flatten_append, List.length_append]; omega
theorem concat_rows {ls : List (List UInt8)} (hl : ls.length < 2^62) (ht : ls.flatten.length ≤ 2^46) : ∀ (m i : Nat) (E : List Nat), i + m = ls.length →
    Concat_byte_J11 0 (.slc 1 0 (ls.take i).flatten.length (ls.take i).flatten.length) (.lst (ls.map bys)) (.int .i64 ls.length) (.int .i64 i) [.dead, .row 1 ((ls.take i).flatten.map u8)] E = some (bys ls.flatten, [], [])
  | 0, i, E, h => by
    refine Concat_byte_J11_of ?_
    have e1 : ¬ ((i : Int) < (ls.length : Int)) := by omega
    simp only [lss_int, Option.bind_some, e1, decide_false, condK_f]
    have e2 : ls.take i = ls := List.take_of_length_le (by omega)
    rw [e2]
    exact endB_frz (frz_row (z := 1) rfl (List.length_map _).symm (goodL_u8 _)) (good_bys _)
  | m + 1, i, E, h => by
    refine Concat_byte_J11_of ?_
    have hi : i < ls.length := by omega
    have e1 : ((i : Int) < (ls.length : Int)) := by omega
    have e3 : IntKind.i64.wrap ((i : Int) + 1) = ((i + 1 : Nat) : Int) := by rw [wrap64] <;> omega
    have hf := flat_le (ls := ls) (i := i + 1)
    have ht' := take_flat hi
    rw [ht', List.length_append] at hf
    simp only [lss_int, Option.bind_some, e1, decide_true, condK_t, ixA_map (f := bys) (fun _ => rfl) (List.getElem?_eq_getElem hi), loadA_ip1]
    rw [appK_row (es := (ls.take i).flatten.map u8) (ys := ls[i].map u8) rfl rfl (List.length_map _).symm (lz_u8 _) (by decide) (by decide) (by decide) (by rw [List.length_map]; omega), esc_good (goodL_u8 _)]
    simp only [add_int, Option.bind_some, e3]
    have := concat_rows hl ht m (i + 1) (([] ++ []) ++ E) (by omega)
    rw [ht', List.map_append, List.length_append] at this
    rw [List.length_map]
    exact this
theorem concat_nils {ls : List (List UInt8)} (hl : ls.length < 2^62) (ht : ls.flatten = []) : ∀ (m i : Nat) (E : List Nat), i + m = ls.length →
    Concat_byte_J11 0 .nils (.lst (ls.map bys)) (.int .i64 ls.length) (.int .i64 i) [] E = some (bys [], [], [])
  | 0, i, E, h => by
    refine Concat_byte_J11_of ?_
    have e1 : ¬ ((i : Int) < (ls.length : Int)) := by omega
    simp only [lss_int, Option.bind_some, e1, decide_false, condK_f]
    exact endB_frz rfl (by simp)
  | m + 1, i, E, h => by
    refine Concat_byte_J11_of ?_
    have hi : i < ls.length := by omega
    have e1 : ((i : Int) < (ls.length : Int)) := by omega
    have e3 : IntKind.i64.wrap ((i : Int) + 1) = ((i + 1 : Nat) : Int) := by rw [wrap64] <;> omega
    have e4 : ls[i] = [] := by
      have := List.flatten_eq_nil_iff.1 ht ls[i] (List.getElem_mem hi)
      exact this
    simp only [lss_int, Option.bind_some, e1, decide_true, condK_t, ixA_map (f := bys) (fun _ => rfl) (List.getElem?_eq_getElem hi), loadA_ip1, e4]
    have e5 : ∀ (K : AV → List AObj → List Nat → Option R3), appK 1 1 .nils (bys []) [] K = K .nils [] [] := fun K => rfl
    rw [e5]
    simp only [add_int, Option.bind_some, e3]
    exact concat_nils hl ht m (i + 1) _ (by omega)
theorem concat_sum {ls : List (List UInt8)} (hl : ls.length < 2^62) (ht : ls.flatten.length ≤ 2^46) : ∀ (m i : Nat), i + m = ls.length →
    Concat_byte_J3 0 (.lst (ls.map bys)) (.int .i64 (ls.take i).flatten.length) (.lst (ls.map bys)) (.int .i64 ls.length) (.int .i64 i) [] [] = some (bys ls.flatten, [], [])
  | 0, i, h => by
    refine Concat_byte_J3_of ?_
    have e1 : ¬ ((i : Int) < (ls.length : Int)) := by omega
    simp only [lss_int, Option.bind_some, e1, decide_false, condK_f]
    have e2 : ls.take i = ls := List.take_of_length_le (by omega)
    rw [e2]
    have hlen : ∀ H, lenV (.lst (ls.map bys)) H = some (.int .i64 ls.length) := fun H => by simp
    rcases Nat.eq_zero_or_pos ls.flatten.length with h0 | h0
    · rw [h0, callK_raw (grow0 [])]
      simp only [hlen, Option.bind_some]
      rw [List.length_eq_zero_iff.1 h0]
      exact concat_nils hl (List.length_eq_zero_iff.1 h0) ls.length 0 _ (by omega)
    · rw [callK_raw (Grow_byte_ok _ h0 ht [])]
      simp only [hlen, Option.bind_some]
      exact concat_rows hl ht ls.length 0 _ (by omega)
  | m + 1, i, h => by
    refine Concat_byte_J3_of ?_
    have hi : i < ls.length := by omega
    have e1 : ((i : Int) < (ls.length : Int)) := by omega
    have e3 : IntKind.i64.wrap ((i : Int) + 1) = ((i + 1 : Nat) : Int) := by rw [wrap64] <;> omega
    have hf := flat_le (ls := ls) (i := i + 1)
    have ht' := take_flat hi
    have e4 : IntKind.i64.wrap (((ls.take i).flatten.length : Int) + (ls[i].length : Int)) = ((ls.take (i + 1)).flatten.length : Int) := by
      rw [ht', List.length_append] at hf ⊢
      rw [wrap64] <;> omega
    have e5 : ¬ (((ls.take (i + 1)).flatten.length : Int) < 0) := by omega
    simp only [lss_int, Option.bind_some, e1, decide_true, condK_t, ixA_map (f := bys) (fun _ => rfl) (List.getElem?_eq_getElem hi), loadA_ip1, lenV_bys, add_int, e4, e5, decide_false, condK_f, e3]
    exact concat_sum hl ht m (i + 1) (by omega)
theorem Concat_byte_ok (ls : List (List UInt8)) (hl : ls.length < 2^62) (ht : ls.flatten.length ≤ 2^46) : EV C n_Concat_byte [.lst (ls.map bys)] [] = some (bys ls.flatten, [], []) := by
  refine Concat_byte_of ?_
  have hlen : ∀ H, lenV (.lst (ls.map bys)) H = some (.int .i64 ls.length) := fun H => by simp
  simp only [hlen, Option.bind_some]
  exact concat_sum hl ht ls.length 0 (by omega)
end Go.Pm
