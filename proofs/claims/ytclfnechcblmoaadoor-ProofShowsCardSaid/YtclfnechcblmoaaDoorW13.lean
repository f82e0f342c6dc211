/- The document's tables of SHA-256: products of digits, roots. -/
import Derived.Test.YtclfnechcblmoaaDoorT5
import Derived.Test.YtclfnechcblmoaaDoorW5
namespace Go.Pm
open Go.Proofs
set_option linter.unusedVariables false
set_option linter.unusedSimpArgs false
def n64 (x : Nat) : AV := .int .u64 (x : Int)
@[simp] theorem good_n64 (x : Nat) : (n64 x).good = true := rfl
@[simp] theorem goodL_n64 (l : List Nat) : goodL (l.map n64) = true := goodL_map good_n64 l
@[simp] theorem lz_n64 (l : List Nat) : lz 1 (l.map n64) = true := by cases l <;> rfl
theorem wrap_u64m (n : Nat) : IntKind.u64.wrap (n : Int) = ((n % 2^64 : Nat) : Int) := by
  simp [IntKind.wrap, IntKind.bits, IntKind.signed]
section
variable (d : TypeDesc) (c : TypeId → Bool) (b : Bool)
theorem add_n (x y : Nat) : binA .add d c b (n64 x) (n64 y) = some (n64 ((x + y) % 2^64)) := by
  simp only [n64, add_int, ← Int.natCast_add, wrap_u64m]
theorem mul_n (x y : Nat) : binA .mul d c b (n64 x) (n64 y) = some (n64 ((x * y) % 2^64)) := by
  simp only [n64, mul_int, ← Int.natCast_mul, wrap_u64m]
theorem add_nl (x n : Nat) : binA .add d c b (n64 x) (.int .u64 (OfNat.ofNat n)) = some (n64 ((x + n) % 2^64)) := add_n d c b x n
theorem quo_n (x n : Nat) (h : n ≠ 0) : binA .quo d c b (n64 x) (.int .u64 (OfNat.ofNat n)) = some (n64 (x / n % 2^64)) := by
  have := quo_int d c b .u64 x n h
  rw [wrap_u64m] at this
  exact this
theorem rem_n (x n : Nat) (h : n ≠ 0) : binA .rem d c b (n64 x) (.int .u64 (OfNat.ofNat n)) = some (n64 (x % n)) := rem_int d c b .u64 x n h
theorem rem_nn (x n : Nat) (h : n ≠ 0) : binA .rem d c b (n64 x) (n64 n) = some (n64 (x % n)) := rem_int d c b .u64 x n h
theorem neq_n (x y : Nat) : binA .neq d c b (n64 x) (n64 y) = some (.bool (!decide (x = y))) := by
  simp only [n64, neq_int, Int.ofNat_inj]
theorem lss_n (x y : Nat) : binA .lss d c b (n64 x) (n64 y) = some (.bool (decide (x < y))) := by
  simp only [n64, lss_int, Int.ofNat_lt]
theorem gtr_n0 (x : Nat) : binA .gtr d c b (n64 x) (.int .u64 0) = some (.bool (decide (0 < x))) := by
  simp only [n64, gtr_int]
  congr 2; simp
theorem neq_n0 (x : Nat) : binA .neq d c b (n64 x) (.int .u64 0) = some (.bool (!decide (x = 0))) := by
  simp only [n64, neq_int]
  congr 3; simp
end
theorem mapn {l : List Nat} {i : Nat} (h : i < l.length) : (l.map n64)[i]? = some (n64 (l.getD i 0)) := by
  simp [List.getElem?_eq_getElem h, List.getD_eq_getElem?_getD]
theorem setn (l : List Nat) (i x : Nat) : (l.map n64).set i (n64 x) = (l.set i x).map n64 := by simp
theorem mkn {β : Type} {n : Nat} {k : Int} (hk : k = n) (h : n ≤ 1000) (H : List AObj) (K : AV → List AObj → List Nat → Option β) : mkK 1 8 (.int .u64 0) (.int .i64 k) (.int .i64 k) H K = K (.slc H.length 0 n n) (H ++ [.row 1 ((List.replicate n 0).map n64)]) [] := by
  subst hk
  have : makeA 1 8 (.int .u64 0) (.int .i64 (n : Int)) (.int .i64 (n : Int)) H = some (.slc H.length 0 n n, H ++ [.row 1 ((List.replicate n 0).map n64)], []) := by
    have : (n : Int) * 8 ≤ 281474976710656 := by omega
    simp [makeA, n64, AV.cells, AV.one, this]
  unfold mkK; rw [this]; rfl
/-! ### rows of numbers -/
theorem ix_n {l n i : Nat} {H : List AObj} {es : List Nat} {j : Int} {k : IntKind} (h : H[l]? = some (.row 1 (es.map n64))) (hn : es.length = n) (hi : i < n) (hj : j = i) : ixA 1 (.slc l 0 n n) (.int k j) H = some (.ptr l n i 0) :=
  ix_w h (by simpa using hn) hi j hj
theorem ld_n {l n i : Nat} {H : List AObj} {es : List Nat} (h : H[l]? = some (.row 1 (es.map n64))) (hn : es.length = n) (hi : i < n) : loadA false 1 (.ptr l n i 0) H = some (n64 (es.getD i 0)) :=
  ld_w h (by simpa using hn) (mapn (by omega)) rfl
theorem sto_n {β : Type} {H : List AObj} {l n i x : Nat} {es : List Nat} {K : List AObj → List Nat → Option β} (h : H[l]? = some (.row 1 (es.map n64))) (hn : es.length = n) (hi : i < n) :
    stoK 1 (.ptr l n i 0) (n64 x) H K = K (H.set l (.row 1 ((es.set i x).map n64))) [] := by
  rw [sto_w h (by simpa using hn) (mapn (by omega)) (fun cs h => by simp [n64] at h) rfl rfl rfl, setn]
/-! ### times -/
def mulIn (b : List Nat) (ai i : Nat) : Nat → Nat → List Nat → List Nat
  | 0, _, out => out
  | m + 1, k, out => mulIn b ai i m (k + 1) (out.set (i + k) ((out.getD (i + k) 0 + ai * b.getD k 0 % 2^64) % 2^64))
def mulOut (a b : List Nat) : Nat → Nat → List Nat → List Nat
  | 0, _, out => out
  | m + 1, i, out => mulOut a b m (i + 1) (mulIn b (a.getD i 0) i b.length 0 out)
def carryF : Nat → Nat → List Nat → List Nat
  | 0, _, out => out
  | m + 1, i, out =>
    carryF m (i + 1) ((out.set (i + 1) ((out.getD (i + 1) 0 + out.getD i 0 / 65536 % 2^64) % 2^64)).set i ((out.set (i + 1) ((out.getD (i + 1) 0 + out.getD i 0 / 65536 % 2^64) % 2^64)).getD i 0 % 65536))
def timesF (a b : List Nat) : List Nat := carryF (a.length + b.length) 0 (mulOut a b a.length 0 (List.replicate (a.length + b.length + 1) 0))
theorem mulIn_len (b : List Nat) (ai i : Nat) : ∀ (m k : Nat) (out : List Nat), (mulIn b ai i m k out).length = out.length
  | 0, _, _ => rfl
  | m + 1, k, out => by rw [mulIn, mulIn_len b ai i m]; simp
theorem mulOut_len (a b : List Nat) : ∀ (m i : Nat) (out : List Nat), (mulOut a b m i out).length = out.length
  | 0, _, _ => rfl
  | m + 1, i, out => by rw [mulOut, mulOut_len a b m, mulIn_len]
theorem carryF_len : ∀ (m i : Nat) (out : List Nat), (carryF m i out).length = out.length
  | 0, _, _ => rfl
  | m + 1, i, out => by rw [carryF, carryF_len m]; simp
theorem timesF_len (a b : List Nat) : (timesF a b).length = a.length + b.length + 1 := by rw [timesF, carryF_len, mulOut_len]; simp
def nums (l : List Nat) : AV := .lst (l.map n64)
@[simp] theorem good_nums (l : List Nat) : (nums l).good = true := goodL_n64 l
theorem lenV_nums (l : List Nat) (H : List AObj) : lenV (nums l) H = some (.int .i64 (l.length : Int)) := by unfold nums; simp
theorem ix_nums {l : List Nat} {k : IntKind} {i : Nat} {H : List AObj} (h : i < l.length) : ixA 1 (nums l) (.int k (i : Int)) H = some (.ip [n64 (l.getD i 0)]) := by
  have := ixA_map (f := n64) (fun _ => rfl) (l := l) (k := k) (i := i) (a := l.getD i 0) (H := H) (by simp [List.getElem?_eq_getElem h, List.getD_eq_getElem?_getD])
  exact this
theorem times_j6 (a b : List Nat) (n : Nat) (hn : n = a.length + b.length + 1) (ha : a.length ≤ 100) (hb : b.length ≤ 100) (i : Nat) (hi : i < a.length) (r : R3) : ∀ (m k : Nat) (out : List Nat) (Ha : List AObj) (Ea E : List Nat), out.length = n → k + m = b.length →
    (∀ E, ref01_times_J3 0 (nums a) (nums b) (.slc 0 0 n n) (.int .i64 ((i + 1 : Nat) : Int)) [.row 1 ((mulIn b (a.getD i 0) i m k out).map n64)] E = some r) →
    ref01_times_J6 0 Ha Ea (nums a) (nums b) (.slc 0 0 n n) (.int .i64 (i : Int)) (.int .i64 (k : Int)) [.row 1 (out.map n64)] E = some r
  | 0, k, out, Ha, Ea, E, ho, hk, h => by
    refine ref01_times_J6_of ?_
    have e1 : ¬ ((k : Int) < (b.length : Int)) := by omega
    have e3 : IntKind.i64.wrap ((i : Int) + 1) = ((i + 1 : Nat) : Int) := w64 (by omega) (by omega)
    simp only [lenV_nums, lss_int, e1, decide_false, Option.bind_some, condK_f, add_int, e3]
    exact h _
  | m + 1, k, out, Ha, Ea, E, ho, hk, h => by
    refine ref01_times_J6_of ?_
    have e1 : ((k : Int) < (b.length : Int)) := by omega
    have e3 : IntKind.i64.wrap ((k : Int) + 1) = ((k + 1 : Nat) : Int) := w64 (by omega) (by omega)
    have e4 : IntKind.i64.wrap ((i : Int) + (k : Int)) = ((i + k : Nat) : Int) := w64 (by omega) (by omega)
    have hik : i + k < n := by omega
    simp only [lenV_nums, lss_int, e1, decide_true, Option.bind_some, condK_t, add_int, e3, e4, ix_n (H := [.row 1 (out.map n64)]) (l := 0) rfl ho hik rfl, ld_n (H := [.row 1 (out.map n64)]) (l := 0) rfl ho hik, ix_nums hi, ix_nums (show k < b.length by omega), loadA_ip1, mul_n, add_n, sto_n (H := [.row 1 (out.map n64)]) (l := 0) rfl ho hik, List.set_cons_zero]
    exact times_j6 a b n hn ha hb i hi r m (k + 1) _ _ _ _ (by simpa using ho) (by omega) h
theorem times_j10 (n : Nat) (hs : n ≤ 1000) : ∀ (m i : Nat) (out : List Nat) (E : List Nat), out.length = n → i + m + 1 = n →
    ref01_times_J10 0 (.slc 0 0 n n) (.int .i64 (i : Int)) [.row 1 (out.map n64)] E = some (nums (carryF m i out), [], [])
  | 0, i, out, E, ho, hi => by
    refine ref01_times_J10_of ?_
    have e3 : IntKind.i64.wrap ((i : Int) + 1) = ((i + 1 : Nat) : Int) := w64 (by omega) (by omega)
    have e1 : ¬ (((i + 1 : Nat) : Int) < (n : Int)) := by omega
    simp only [add_int, e3, lenV_slc (H := [.row 1 (out.map n64)]) (l := 0) rfl (show n = (out.map n64).length by simp [ho]), lss_int, e1, decide_false, Option.bind_some, condK_f, carryF]
    exact endB_frz (frz_row rfl (by simp [ho]) (goodL_n64 _)) (good_nums _)
  | m + 1, i, out, E, ho, hi => by
    refine ref01_times_J10_of ?_
    have e3 : IntKind.i64.wrap ((i : Int) + 1) = ((i + 1 : Nat) : Int) := w64 (by omega) (by omega)
    have e1 : (((i + 1 : Nat) : Int) < (n : Int)) := by omega
    have h0 : i < n := by omega
    have h1 : i + 1 < n := by omega
    simp only [add_int, e3, lenV_slc (H := [.row 1 (out.map n64)]) (l := 0) rfl (show n = (out.map n64).length by simp [ho]), lss_int, e1, decide_true, Option.bind_some, condK_t,
      ix_n (H := [.row 1 (out.map n64)]) (l := 0) rfl ho h0 rfl, ix_n (H := [.row 1 (out.map n64)]) (l := 0) rfl ho h1 rfl, ld_n (H := [.row 1 (out.map n64)]) (l := 0) rfl ho h0, ld_n (H := [.row 1 (out.map n64)]) (l := 0) rfl ho h1, quo_n _ _ _ _ 65536 (by decide), add_n, sto_n (H := [.row 1 (out.map n64)]) (l := 0) rfl ho h1, List.set_cons_zero]
    have ho1 : (out.set (i + 1) ((out.getD (i + 1) 0 + out.getD i 0 / 65536 % 2^64) % 2^64)).length = n := by simpa using ho
    rw [carryF]
    generalize out.set (i + 1) ((out.getD (i + 1) 0 + out.getD i 0 / 65536 % 2^64) % 2^64) = o1 at ho1 ⊢
    simp only [ix_n (H := [.row 1 (o1.map n64)]) (l := 0) rfl ho1 h0 rfl, ld_n (H := [.row 1 (o1.map n64)]) (l := 0) rfl ho1 h0, Option.bind_some, rem_n _ _ _ _ 65536 (by decide), sto_n (H := [.row 1 (o1.map n64)]) (l := 0) rfl ho1 h0, List.set_cons_zero]
    exact times_j10 n hs m (i + 1) _ _ (by simpa using ho1) (by omega)
theorem times_j3 (a b : List Nat) (n : Nat) (hn : n = a.length + b.length + 1) (ha : a.length ≤ 100) (hb : b.length ≤ 100) : ∀ (m i : Nat) (out : List Nat) (E : List Nat), out.length = n → i + m = a.length →
    ref01_times_J3 0 (nums a) (nums b) (.slc 0 0 n n) (.int .i64 (i : Int)) [.row 1 (out.map n64)] E = some (nums (carryF (n - 1) 0 (mulOut a b m i out)), [], [])
  | 0, i, out, E, ho, hi => by
    refine ref01_times_J3_of ?_
    have e1 : ¬ ((i : Int) < (a.length : Int)) := by omega
    simp only [lenV_nums, lss_int, e1, decide_false, Option.bind_some, condK_f, mulOut]
    exact times_j10 n (by omega) (n - 1) 0 out E ho (by omega)
  | m + 1, i, out, E, ho, hi => by
    refine ref01_times_J3_of ?_
    have e1 : ((i : Int) < (a.length : Int)) := by omega
    simp only [lenV_nums, lss_int, e1, decide_true, Option.bind_some, condK_t, mulOut]
    exact times_j6 a b n hn ha hb i (by omega) _ b.length 0 out _ _ _ ho (by omega) fun E => times_j3 a b n hn ha hb m (i + 1) _ E (by rw [mulIn_len, ho]) (by omega)
theorem times_ok (a b : List Nat) (ha : a.length ≤ 100) (hb : b.length ≤ 100) : EV C n_ref01_times [nums a, nums b] [] = some (nums (timesF a b), [], []) := by
  refine ref01_times_of ?_
  have e1 : IntKind.i64.wrap ((a.length : Int) + (b.length : Int)) = ((a.length + b.length : Nat) : Int) := w64 (by omega) (by omega)
  have e2 : IntKind.i64.wrap (((a.length + b.length : Nat) : Int) + 1) = ((a.length + b.length + 1 : Nat) : Int) := w64 (by omega) (by omega)
  simp only [lenV_nums, Option.bind_some, add_int, e1, e2, mkn rfl (show a.length + b.length + 1 ≤ 1000 by omega), List.length_nil, List.nil_append]
  exact times_j3 a b _ rfl ha hb a.length 0 _ _ (by simp) (by omega)
/-! ### below, root -/
def cmpDown (z l : List Nat) : Nat → Bool
  | 0 => true
  | m + 1 => if z.getD m 0 = l.getD m 0 then cmpDown z l m else decide (z.getD m 0 < l.getD m 0)
def digitsF (y : Nat) : List Nat := [y % 65536, y / 65536 % 2^64 % 65536, y / 4294967296 % 2^64]
def prodF (y : Nat) (cube : Bool) : List Nat := if cube = true then timesF (timesF (digitsF y) (digitsF y)) (digitsF y) else timesF (digitsF y) (digitsF y)
def belowF (y p : Nat) (cube : Bool) : Bool := cmpDown (prodF y cube) ((List.replicate (prodF y cube).length 0).set (if cube = true then 6 else 4) p) (prodF y cube).length
theorem below_j10 (z l : List Nat) (n : Nat) (hz : z.length = n) (hl : l.length = n) (hn : n ≤ 1000) : ∀ (m : Nat) (E : List Nat), m ≤ n →
    ref01_below_J10 0 (nums z) (.slc 0 0 n n) (.int .i64 ((m : Int) - 1)) [.row 1 (l.map n64)] E = some (.bool (cmpDown z l m), [], [])
  | 0, E, hm => by
    refine ref01_below_J10_of ?_
    have e1 : ¬ ((0 : Int) ≤ ((0 : Nat) : Int) - 1) := by omega
    simp only [geq_int, e1, decide_false, Option.bind_some, condK_f, cmpDown]
    exact endB_good rfl
  | m + 1, E, hm => by
    refine ref01_below_J10_of ?_
    have e1 : ((0 : Int) ≤ ((m + 1 : Nat) : Int) - 1) := by omega
    have e2 : ((m + 1 : Nat) : Int) - 1 = (m : Int) := by omega
    have e3 : IntKind.i64.wrap ((m : Int) - 1) = (m : Int) - 1 := by rw [wrap64] <;> omega
    have h0 : m < n := by omega
    simp only [e2, geq_int, show ((0 : Int) ≤ (m : Int)) from by omega, decide_true, Option.bind_some, condK_t, ix_nums (show m < z.length by omega), loadA_ip1, ix_n (H := [.row 1 (l.map n64)]) (l := 0) rfl hl h0 rfl, ld_n (H := [.row 1 (l.map n64)]) (l := 0) rfl hl h0, neq_n, lss_n, sub_int, e3, cmpDown]
    by_cases hc : z.getD m 0 = l.getD m 0
    · simp only [hc, decide_true, Bool.not_true, condK_f, if_true]
      exact below_j10 z l n hz hl hn m E (by omega)
    · simp only [hc, decide_false, Bool.not_false, condK_t, if_false]
      exact endB_good rfl
theorem lit3n {β : Type} (a b c : Nat) (H : List AObj) (K : AV → List AObj → List Nat → Option β) : litK 1 3 (.int .u64 0) [(0, n64 a), (1, n64 b), (2, n64 c)] H K = K (nums [a, b, c]) H [] := Eq.trans rfl rfl
theorem below_ok (y p : Nat) (cube : Bool) : EV C n_ref01_below [n64 y, n64 p, .bool cube] [] = some (.bool (belowF y p cube), [], []) := by
  refine ref01_below_of ?_
  simp only [rem_n _ _ _ _ 65536 (by decide), quo_n _ _ _ _ 65536 (by decide), quo_n _ _ _ _ 4294967296 (by decide), Option.bind_some, lit3n]
  have d3 : (digitsF y).length = 3 := rfl
  rw [show [y % 65536, y / 65536 % 2^64 % 65536, y / 4294967296 % 2^64] = digitsF y from rfl]
  rw [callK_ok (by simp) (times_ok (digitsF y) (digitsF y) (by omega) (by omega))]
  have l1 := timesF_len (digitsF y) (digitsF y)
  have fin : ∀ (z : List Nat) (pl : Nat) (pi : Int) (E : List Nat), z.length ≤ 1000 → pl < z.length → pi = pl →
      ((ixA 1 (.slc 0 0 z.length z.length) (.int .i64 pi) [.row 1 ((List.replicate z.length 0).map n64)]).bind fun a16 =>
        stoK 1 a16 (n64 p) [.row 1 ((List.replicate z.length 0).map n64)] fun H17 E17 =>
        (binA .sub (Go.TypeDesc.int Go.IntKind.i64) (cmpT Tryd.prog) true (.int .i64 (z.length : Int)) (.int .i64 1)).bind fun a19 =>
        ref01_below_J10 0 (nums z) (.slc 0 0 z.length z.length) a19 H17 (E17 ++ E)) = some (.bool (cmpDown z ((List.replicate z.length 0).set pl p) z.length), [], []) := fun z pl pi E hn hp hpi => by
    have e3 : IntKind.i64.wrap ((z.length : Int) - 1) = (z.length : Int) - 1 := by rw [wrap64] <;> omega
    rw [ix_n (H := [.row 1 ((List.replicate z.length 0).map n64)]) (l := 0) rfl (List.length_replicate) hp hpi]
    simp only [Option.bind_some, sto_n (H := [.row 1 ((List.replicate z.length 0).map n64)]) (l := 0) rfl (List.length_replicate) hp, sub_int, e3, List.set_cons_zero]
    exact below_j10 z _ _ rfl (by simp) hn z.length _ (Nat.le_refl _)
  cases cube with
  | true =>
    simp only [condK_t]
    rw [callK_ok (by simp) (times_ok (timesF (digitsF y) (digitsF y)) (digitsF y) (by omega) (by omega))]
    have l2 := timesF_len (timesF (digitsF y) (digitsF y)) (digitsF y)
    have e : belowF y p true = cmpDown (timesF (timesF (digitsF y) (digitsF y)) (digitsF y)) ((List.replicate (timesF (timesF (digitsF y) (digitsF y)) (digitsF y)).length 0).set 6 p) (timesF (timesF (digitsF y) (digitsF y)) (digitsF y)).length := by
      simp only [belowF, prodF, if_true]
    rw [e]
    generalize timesF (timesF (digitsF y) (digitsF y)) (digitsF y) = z at l2 ⊢
    simp only [lenV_nums, Option.bind_some, mkn rfl (show z.length ≤ 1000 by omega), List.length_nil, List.nil_append]
    exact fin z 6 6 _ (by omega) (by omega) rfl
  | false =>
    simp only [condK_f]
    have e : belowF y p false = cmpDown (timesF (digitsF y) (digitsF y)) ((List.replicate (timesF (digitsF y) (digitsF y)).length 0).set 4 p) (timesF (digitsF y) (digitsF y)).length := by
      simp only [belowF, prodF, Bool.false_eq_true, if_false]
    rw [e]
    generalize timesF (digitsF y) (digitsF y) = z at l1 ⊢
    simp only [lenV_nums, Option.bind_some, mkn rfl (show z.length ≤ 1000 by omega), List.length_nil, List.nil_append]
    exact fin z 4 4 _ (by omega) (by omega) rfl
def rootF (p : Nat) (cube : Bool) : Nat → Nat → Nat → Nat
  | 0, _, x => x
  | n + 1, bit, x => if 0 < bit then rootF p cube n (bit / 2 % 2^64) (if belowF ((x + bit) % 2^64) p cube = true then (x + bit) % 2^64 else x) else x
theorem root_j3 (p : Nat) (cube : Bool) : ∀ (m bit x : Nat) (E : List Nat), bit < 2^m → ref01_root_J3 0 (n64 p) (.bool cube) (n64 x) (n64 bit) [] E = some (u32 (UInt32.ofNat (rootF p cube m bit x)), [], [])
  | 0, bit, x, E, h => by
    obtain rfl : bit = 0 := by omega
    refine ref01_root_J3_of ?_
    have cv : cvI .u32 (n64 (x % 4294967296)) = some (u32 (UInt32.ofNat x)) := by
      simp only [n64, cvI_int, wrap_w, u32]; congr 2; simp
    simp only [gtr_n0, Nat.lt_irrefl, decide_false, Option.bind_some, condK_f, rem_n _ _ _ _ 4294967296 (by decide), cv, rootF]
    exact endB_good rfl
  | m + 1, bit, x, E, h => by
    refine ref01_root_J3_of ?_
    rw [rootF]
    by_cases hb : 0 < bit
    · have h2 : bit / 2 % 2^64 < 2^m := Nat.lt_of_le_of_lt (Nat.mod_le _ _) (by rw [Nat.pow_succ] at h; omega)
      simp only [gtr_n0, hb, decide_true, Option.bind_some, condK_t, add_n, if_true]
      rw [callK_ok (by simp [goodL, AV.good]) (below_ok _ p cube)]
      cases hc : belowF ((x + bit) % 2^64) p cube with
      | true =>
        simp only [condK_t, quo_n _ _ _ _ 2 (by decide), Option.bind_some, if_true]
        exact root_j3 p cube m _ _ _ h2
      | false =>
        simp only [condK_f, quo_n _ _ _ _ 2 (by decide), Option.bind_some, Bool.false_eq_true, if_false]
        exact root_j3 p cube m _ _ _ h2
    · obtain rfl : bit = 0 := by omega
      have := root_j3 p cube m 0 x E (Nat.two_pow_pos m)
      simp only [Nat.lt_irrefl, if_false]
      have e : rootF p cube m 0 x = x := by cases m <;> simp [rootF]
      rw [e] at this
      have cv : cvI .u32 (n64 (x % 4294967296)) = some (u32 (UInt32.ofNat x)) := by
        simp only [n64, cvI_int, wrap_w, u32]; congr 2; simp
      simp only [gtr_n0, Nat.lt_irrefl, decide_false, Option.bind_some, condK_f, rem_n _ _ _ _ 4294967296 (by decide), cv]
      exact endB_good rfl
def rootW (p : Nat) (cube : Bool) : UInt32 := UInt32.ofNat (rootF p cube 36 (2^35) 0)
theorem root_ok (p : Nat) (cube : Bool) : EV C n_ref01_root [n64 p, .bool cube] [] = some (u32 (rootW p cube), [], []) := by
  refine ref01_root_of ?_
  exact root_j3 p cube 36 (2^35) 0 [] (by decide)
end Go.Pm
