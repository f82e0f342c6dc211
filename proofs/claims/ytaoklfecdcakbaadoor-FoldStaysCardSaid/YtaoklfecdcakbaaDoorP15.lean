/- A part of the proof: what the functions of the program answer, as plain lists and numbers. -/
import Derived.Test.YtaoklfecdcakbaaDoorP10
import Derived.Test.YtaoklfecdcakbaaDoorP14
namespace Go.Pm
open Go.Proofs
set_option linter.unusedVariables false
set_option linter.unusedSimpArgs false
theorem ixA_map {α : Type} {f : α → AV} (hf : ∀ a, (f a).cells = [f a]) {l : List α} {k : IntKind} {i : Nat} {a : α} {H : List AObj} (h : l[i]? = some a) : ixA 1 (.lst (l.map f)) (.int k i) H = some (.ip [f a]) := by
  rw [ixA_lst (e := f a) (by omega) (by simp [h]) (by simp [hf]), hf]
theorem Grow_byte_ok (n : Nat) (h0 : 0 < n) (h1 : n ≤ 2^46) (H : List AObj) : EV C n_Grow_byte [.nils, .int .i64 n] H = some (.slc (H.length + 1) 0 0 0, H ++ [.dead, .row 1 []], []) := by
  refine Grow_byte_of ?_
  have e0 : ¬ ((n : Int) < 0) := by omega
  have e1 : (0 : Int) < (n : Int) := by omega
  have w0 : IntKind.i64.wrap ((0 : Int) - 0) = 0 := by decide
  have w1 : IntKind.i64.wrap ((n : Int) - 0) = n := by rw [wrap64] <;> omega
  have l0 : ∀ H, lenV .nils H = some (.int .i64 0) := fun H => rfl
  have c1 : cutA 1 .nils none (some (.int .i64 0)) none H = some .nils := rfl
  simp only [lss_int, Option.bind_some, e0, decide_false, condK_f, capA, l0, sub_int, w0, w1, gtr_int, e1, decide_true, condK_t, c1]
  have z1 : appZ 1 1 (.int .u8 0) .nils (.int .i64 n) H = some (.slc H.length 0 n n, H ++ [.row 1 (List.replicate n (.int .u8 0))], []) := by
    have : (n : Int) ≤ 140737489400832 := by omega
    simp [appZ, e1, this, AV.cells, AV.one]
    omega
  simp only [zapK, z1, Option.bind_some, l0]
  have c2 : cutA 1 (.slc H.length 0 n n) none (some (.int .i64 0)) none (H ++ [.row 1 (List.replicate n (.int .u8 0))]) = some (.slc H.length 0 0 n) := by
    simp [cutA, lenA, lenOf, boundA]
  simp only [c2, Option.bind_some, trmK, trimA]
  simp [endB_raw]
theorem grow0 (H : List AObj) : EV C n_Grow_byte [.nils, .int .i64 ((0 : Nat) : Int)] H = some (.nils, H, []) := by
  show EV C n_Grow_byte [.nils, .int .i64 0] H = _
  refine Grow_byte_of ?_
  have w0 : IntKind.i64.wrap ((0 : Int) - 0) = 0 := by decide
  have l0 : ∀ H, lenV .nils H = some (.int .i64 0) := fun H => rfl
  simp only [lss_int, Option.bind_some, Int.lt_irrefl, decide_false, condK_f, capA, l0, sub_int, w0, gtr_int]
  exact endB_raw
theorem take_flat {ls : List (List UInt8)} {i : Nat} (h : i < ls.length) : (ls.take (i + 1)).flatten = (ls.take i).flatten ++ ls[i] := by
  rw [List.take_add_one, List.getElem?_eq_getElem h, List.flatten_append]; simp only [Option.toList, List.flatten_cons, List.flatten_nil, List.append_nil]
theorem flat_le {ls : List (List UInt8)} {i : Nat} : (ls.take i).flatten.length ≤ ls.flatten.length := by
  conv => rhs; rw [← List.take_append_drop i ls]
  rw [List.flatten_append, List.length_append]; omega
theorem concat_rows {ls : List (List UInt8)} (hl : ls.length < 2^62) (ht : ls.flatten.length ≤ 2^46) : ∀ (m i : Nat) (E : List Nat), i + m = ls.length →
    Concat_byte_J11 0 (.slc 1 0 (ls.take i).flatten.length (ls.take i).flatten.length) (.lst (ls.map bys)) (.int .i64 ls.length) (.int .i64 i) [.dead, .row 1 ((ls.take i).flatten.map u8)] E = some (bys ls.flatten, [], [])
  | 0, i, E, h => by
    refine Concat_byte_J11_of ?_
    have e1 : ¬ ((i : Int) < (ls.length : Int)) := by omega
    simp only [lss_int, Option.bind_some, e1, decide_false, condK_f]
    have e2 : ls.take i = ls := List.take_of_length_le (by omega)
    rw [e2]
    exact endB_frz (frz_row (z := 1) rfl (List.length_map _).symm (goodL_u8 _)) (good_bys _)
  | m + 1, i, E, h => by
    refine Concat_byte_J11_of ?_
    have hi : i < ls.length := by omega
    have e1 : ((i : Int) < (ls.length : Int)) := by omega
    have e3 : IntKind.i64.wrap ((i : Int) + 1) = ((i + 1 : Nat) : Int) := by rw [wrap64] <;> omega
    have hf := flat_le (ls := ls) (i := i + 1)
    have ht' := take_flat hi
    rw [ht', List.length_append] at hf
    simp only [lss_int, Option.bind_some, e1, decide_true, condK_t, ixA_map (f := bys) (fun _ => rfl) (List.getElem?_eq_getElem hi), loadA_ip1]
    rw [appK_row (es := (ls.take i).flatten.map u8) (ys := ls[i].map u8) rfl rfl (List.length_map _).symm (lz_u8 _) (by decide) (by decide) (by decide) (by rw [List.length_map]; omega), esc_good (goodL_u8 _)]
    simp only [add_int, Option.bind_some, e3]
    have := concat_rows hl ht m (i + 1) (([] ++ []) ++ E) (by omega)
    rw [ht', List.map_append, List.length_append] at this
    rw [List.length_map]
    exact this
theorem concat_nils {ls : List (List UInt8)} (hl : ls.length < 2^62) (ht : ls.flatten = []) : ∀ (m i : Nat) (E : List Nat), i + m = ls.length →
    Concat_byte_J11 0 .nils (.lst (ls.map bys)) (.int .i64 ls.length) (.int .i64 i) [] E = some (bys [], [], [])
  | 0, i, E, h => by
    refine Concat_byte_J11_of ?_
    have e1 : ¬ ((i : Int) < (ls.length : Int)) := by omega
    simp only [lss_int, Option.bind_some, e1, decide_false, condK_f]
    exact endB_frz rfl (by simp)
  | m + 1, i, E, h => by
    refine Concat_byte_J11_of ?_
    have hi : i < ls.length := by omega
    have e1 : ((i : Int) < (ls.length : Int)) := by omega
    have e3 : IntKind.i64.wrap ((i : Int) + 1) = ((i + 1 : Nat) : Int) := by rw [wrap64] <;> omega
    have e4 : ls[i] = [] := by
      have := List.flatten_eq_nil_iff.1 ht ls[i] (List.getElem_mem hi)
      exact this
    simp only [lss_int, Option.bind_some, e1, decide_true, condK_t, ixA_map (f := bys) (fun _ => rfl) (List.getElem?_eq_getElem hi), loadA_ip1, e4]
    have e5 : ∀ (K : AV → List AObj → List Nat → Option R3), appK 1 1 .nils (bys []) [] K = K .nils [] [] := fun K => rfl
    rw [e5]
    simp only [add_int, Option.bind_some, e3]
    exact concat_nils hl ht m (i + 1) _ (by omega)
theorem concat_sum {ls : List (List UInt8)} (hl : ls.length < 2^62) (ht : ls.flatten.length ≤ 2^46) : ∀ (m i : Nat), i + m = ls.length →
    Concat_byte_J3 0 (.lst (ls.map bys)) (.int .i64 (ls.take i).flatten.length) (.lst (ls.map bys)) (.int .i64 ls.length) (.int .i64 i) [] [] = some (bys ls.flatten, [], [])
  | 0, i, h => by
    refine Concat_byte_J3_of ?_
    have e1 : ¬ ((i : Int) < (ls.length : Int)) := by omega
    simp only [lss_int, Option.bind_some, e1, decide_false, condK_f]
    have e2 : ls.take i = ls := List.take_of_length_le (by omega)
    rw [e2]
    have hlen : ∀ H, lenV (.lst (ls.map bys)) H = some (.int .i64 ls.length) := fun H => by simp
    rcases Nat.eq_zero_or_pos ls.flatten.length with h0 | h0
    · rw [h0, callK_raw (grow0 [])]
      simp only [hlen, Option.bind_some]
      rw [List.length_eq_zero_iff.1 h0]
      exact concat_nils hl (List.length_eq_zero_iff.1 h0) ls.length 0 _ (by omega)
    · rw [callK_raw (Grow_byte_ok _ h0 ht [])]
      simp only [hlen, Option.bind_some]
      exact concat_rows hl ht ls.length 0 _ (by omega)
  | m + 1, i, h => by
    refine Concat_byte_J3_of ?_
    have hi : i < ls.length := by omega
    have e1 : ((i : Int) < (ls.length : Int)) := by omega
    have e3 : IntKind.i64.wrap ((i : Int) + 1) = ((i + 1 : Nat) : Int) := by rw [wrap64] <;> omega
    have hf := flat_le (ls := ls) (i := i + 1)
    have ht' := take_flat hi
    have e4 : IntKind.i64.wrap (((ls.take i).flatten.length : Int) + (ls[i].length : Int)) = ((ls.take (i + 1)).flatten.length : Int) := by
      rw [ht', List.length_append] at hf ⊢
      rw [wrap64] <;> omega
    have e5 : ¬ (((ls.take (i + 1)).flatten.length : Int) < 0) := by omega
    simp only [lss_int, Option.bind_some, e1, decide_true, condK_t, ixA_map (f := bys) (fun _ => rfl) (List.getElem?_eq_getElem hi), loadA_ip1, lenV_bys, add_int, e4, e5, decide_false, condK_f, e3]
    exact concat_sum hl ht m (i + 1) (by omega)
theorem Concat_byte_ok (ls : List (List UInt8)) (hl : ls.length < 2^62) (ht : ls.flatten.length ≤ 2^46) : EV C n_Concat_byte [.lst (ls.map bys)] [] = some (bys ls.flatten, [], []) := by
  refine Concat_byte_of ?_
  have hlen : ∀ H, lenV (.lst (ls.map bys)) H = some (.int .i64 ls.length) := fun H => by simp
  simp only [hlen, Option.bind_some]
  exact concat_sum hl ht ls.length 0 (by omega)
theorem Clone_byte_ok (l : List UInt8) (h : l.length ≤ 140737489400000) : EV C n_Clone_byte [bys l] [] = some (bys l, [], []) := by
  cases l with
  | nil =>
    refine clone_nil (C0 := C0) (l := [n_Clone_byte]) rfl rfl ?_ ?_
    · refine Clone_byte_of ?_
      show endB false false 0 .nils [] [] = _
      exact endB_frz (u := .lst []) rfl rfl
    · refine Clone_byte_of ?_
      show endB false false 0 (.slc 0 0 0 0) [.row 1 []] [] = _
      exact endB_frz (u := .lst []) rfl rfl
  | cons x l =>
    rw [show bys (x :: l) = .lst (u8 x :: l.map u8) from rfl, clone_cons (C0 := C0) (l := [n_Clone_byte]) rfl rfl]
    refine Clone_byte_of ?_
    have e1 : binA .eql (.slice 5) (cmpT Tryd.prog) true (.lst (u8 x :: l.map u8)) .nils = some (.bool false) := rfl
    have e2 : ∀ (K : AV → List AObj → List Nat → Option R3), rawK 1 0 (.int .u8 0) [] [] K = K (.slc 0 0 0 0) [.row 1 []] [] := fun K => rfl
    simp only [e1, e2, Option.bind_some, condK_f]
    rw [appK_row (n := 0) (es := []) (ys := u8 x :: l.map u8) rfl rfl rfl rfl (by decide) (by decide) (by decide) (by simp at h ⊢; omega)]
    exact endB_frz (frz_row (z := 1) (es := u8 x :: l.map u8) rfl (by simp) (goodL_u8 (x :: l))) (good_bys (x :: l))

theorem not_bool (b : Bool) : unA .not (.bool b) = some (.bool (!b)) := rfl
/-- an error's code -/
def codeA (n : Int) : AV := .ifc t_api_Code (.int .i64 n)
@[simp] theorem good_code (n : Int) : (codeA n).good = true := rfl
theorem neq_nil1 (ms : Array (String × TypeId)) (c : TypeId → Bool) : binA .neq (.interface ms) c true .nili .nili = some (.bool false) := rfl
theorem neq_nil2 (ms : Array (String × TypeId)) (c : TypeId → Bool) (t : TypeId) (v : AV) : binA .neq (.interface ms) c true (.ifc t v) .nili = some (.bool true) := rfl
theorem u8_int {b : UInt8} {n : Int} (h : n = b.toNat) : AV.int .u8 n = u8 b := by subst h; rfl
theorem lit0 {β : Type} (b : UInt8) (n : Int) (h : n = b.toNat) (H : List AObj) (K : AV → List AObj → List Nat → Option β) : litK 1 1 (.int .u8 0) [(0, .int .u8 n)] H K = K (bys [b]) H [] := by
  rw [u8_int h, lit1]
theorem width_ok (w : Int) : EV C n_digest_width [.int .i64 w] [] = some (.bool (decide (1 ≤ w ∧ w ≤ 32)), [], []) := by
  refine digest_width_of ?_
  simp only [geq_int, leq_int, Option.bind_some, splitK_dec, condK_dec]
  split
  · refine (endB_good rfl).trans ?_
    rename_i h
    simp [h]
  · refine (endB_good rfl).trans ?_
    rename_i h
    simp [h]
theorem None_ok : EV C n_digest_None [] [] = some (bys [3], [], []) := by
  refine digest_None_of ?_
  simp only []
  rw [lit0 3 3 rfl]
  exact endB_good rfl
theorem raw0' {β : Type} (b : UInt8) (n : Int) (h : n = b.toNat) (H : List AObj) (K : AV → List AObj → List Nat → Option β) : rawK 1 1 (.int .u8 0) [(0, .int .u8 n)] H K = K (.slc H.length 0 1 1) (H ++ [.row 1 ([b].map u8)]) [] := by
  rw [u8_int h, raw1]
theorem Value_ok (v : List UInt8) (h : v.length ≤ 2^45) : EV C n_digest_Value [bys v] [] = some (bys (0 :: v), [], []) := by
  refine digest_Value_of ?_
  simp only []
  rw [raw0' 0 0 rfl, List.length_nil, List.nil_append, appB (n := 1) (es := [0]) (ys := v) (elemsA_bys _ _) rfl rfl (by omega)]
  exact endB_frz (frz_row (z := 1) (es := (0 :: v).map u8) rfl (by simp; omega) (goodL_u8 _)) (good_bys _)
theorem Number_ok (n : Nat) (h : n ≤ 247) (H : List AObj) : EV C n_coder_Number_r [.int .u64 (n : Int)] H = some (.slc H.length 0 1 1, H ++ [.row 1 ([UInt8.ofNat n].map u8)], []) := by
  refine coder_Number_r_of ?_
  have e1 : (n : Int) ≤ 247 := by omega
  simp only [leq_int, e1, decide_true, Option.bind_some, condK_t, cvI_int, wrap_u8, ← u8_nat, raw1]
  exact endB_raw
theorem Bytes_ok (l : List UInt8) (h : l.length ≤ 247) : EV C n_coder_Bytes [bys l] [] = some (bys (UInt8.ofNat l.length :: l), [], []) := by
  refine coder_Bytes_of ?_
  simp only [lenV_bys, Option.bind_some, cvI_int, wrap_u64 (show l.length < 2^64 by omega)]
  rw [callK_raw (Number_ok l.length h [])]
  simp only [List.length_nil, List.nil_append]
  rw [appB (n := 1) (es := [UInt8.ofNat l.length]) (ys := l) (elemsA_bys _ _) rfl rfl (by omega)]
  exact endB_frz (frz_row (z := 1) (es := (UInt8.ofNat l.length :: l).map u8) rfl (by simp; omega) (goodL_u8 _)) (good_bys _)
def wOk (w : Int) : Bool := decide (1 ≤ w ∧ w ≤ 32)
/-- the first w bytes of what sha.Sum tells -/
def ofF (w : Int) (b : List UInt8) : List UInt8 := (sumF b).take w.toNat
theorem ofF_len {w : Int} (hw : wOk w = true) (b : List UInt8) : ((ofF w b).length : Int) = w := by
  simp only [wOk, decide_eq_true_eq] at hw
  rw [ofF, List.length_take, sumF_len]; omega
theorem Of_ok (w : Int) (hw : wOk w = true) (b : List UInt8) (hb : b.length ≤ 2^45) : EV C n_digest_Of [.int .i64 w, bys b] [] = some (.tup [bys (ofF w b), .nili], [], []) := by
  refine digest_Of_of ?_
  simp only []
  have hw' := hw
  simp only [wOk, decide_eq_true_eq] at hw
  rw [callK_ok (by rfl) (width_ok w)]
  simp only [hw, and_self, decide_true, not_bool, Bool.not_true, Option.bind_some, condK_f]
  rw [callK_ok (by simp) (Sum_ok b hb)]
  have e : w = ((w.toNat : Nat) : Int) := by omega
  rw [cutA_bys (l := sumF b) (i := 0) (j := w.toNat) rfl (by rw [← e]; rfl) (by omega) (by rw [sumF_len]; omega)]
  simp only [Option.bind_some, List.drop_zero]
  rw [callK_ok (by simp) (Clone_byte_ok _ (by simp; omega))]
  exact endB_good (by simp)
def pairF (key v : List UInt8) : List UInt8 := 1 :: (UInt8.ofNat key.length :: (key ++ v))
def nodeF (l p r : List UInt8) : List UInt8 := 2 :: (l ++ (p ++ r))
theorem lit3 {β : Type} (a b c : List UInt8) (H : List AObj) (K : AV → List AObj → List Nat → Option β) : litK 1 3 .nils [(0, bys a), (1, bys b), (2, bys c)] H K = K (.lst ([a, b, c].map bys)) H [] := Eq.trans rfl rfl
theorem lit4b {β : Type} (a b c d : List UInt8) (H : List AObj) (K : AV → List AObj → List Nat → Option β) : litK 1 4 .nils [(0, bys a), (1, bys b), (2, bys c), (3, bys d)] H K = K (.lst ([a, b, c, d].map bys)) H [] := Eq.trans rfl rfl
theorem Pair_ok (w : Int) (hw : wOk w = true) (key v : List UInt8) (hk : key.length ≤ 247) (hv : (v.length : Int) = w) : EV C n_digest_Pair [.int .i64 w, bys key, bys v] [] = some (.tup [bys (pairF key v), .nili], [], []) := by
  refine digest_Pair_of ?_
  simp only []
  have hw2 : decide (1 ≤ w ∧ w ≤ 32) = true := hw
  simp only [wOk, decide_eq_true_eq] at hw
  rw [callK_ok (by rfl) (width_ok w)]
  simp only [hw2, not_bool, Bool.not_true, Option.bind_some, splitK_f, lenV_bys, neq_int, hv, decide_true, condK_f]
  rw [lit0 1 1 rfl, callK_ok (by simp) (Bytes_ok key hk), lit3]
  rw [callK_ok (by simp) (Concat_byte_ok _ (by simp) (by simp; omega))]
  refine (endB_good (by simp)).trans ?_
  simp [pairF]
theorem Pair_bad (w : Int) (key : AV) (v : List UInt8) (hv : (v.length : Int) ≠ w) : EV C n_digest_Pair [.int .i64 w, key, bys v] [] = some (.tup [.lst [], codeA 1], [], []) := by
  refine digest_Pair_of ?_
  simp only []
  rw [callK_ok (by rfl) (width_ok w)]
  cases hd : decide (1 ≤ w ∧ w ≤ 32) with
  | false =>
    simp only [not_bool, Bool.not_false, Option.bind_some, splitK_t]
    exact endB_frz rfl rfl
  | true =>
    simp only [not_bool, Bool.not_true, Option.bind_some, splitK_f, lenV_bys, neq_int, hv, decide_false, Bool.not_false, condK_t]
    exact endB_frz rfl rfl
theorem Node_ok (w : Int) (hw : wOk w = true) (l p r : List UInt8) (hl : (l.length : Int) = w) (hp : (p.length : Int) = w) (hr : (r.length : Int) = w) : EV C n_digest_Node [.int .i64 w, bys l, bys p, bys r] [] = some (.tup [bys (nodeF l p r), .nili], [], []) := by
  refine digest_Node_of ?_
  simp only []
  have hw2 : decide (1 ≤ w ∧ w ≤ 32) = true := hw
  simp only [wOk, decide_eq_true_eq] at hw
  rw [callK_ok (by rfl) (width_ok w)]
  simp only [hw2, not_bool, Bool.not_true, Option.bind_some, splitK_f, lenV_bys, neq_int, hl, hp, hr, decide_true, condK_f]
  rw [lit0 2 2 rfl, lit4b]
  rw [callK_ok (by simp) (Concat_byte_ok _ (by simp) (by simp; omega))]
  refine (endB_good (by simp)).trans ?_
  simp [nodeF]
end Go.Pm
