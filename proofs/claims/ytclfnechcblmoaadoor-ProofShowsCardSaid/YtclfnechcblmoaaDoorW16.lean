/- The document's SHA-256: Tail, Sum. -/
import Derived.Test.YtclfnechcblmoaaDoorW15
namespace Go.Pm
open Go.Proofs
set_option linter.unusedVariables false
set_option linter.unusedSimpArgs false
theorem be8_ix (n : Nat) : ∀ m, m < 8 → (be8 n)[m]? = some (UInt8.ofNat (8 * n / 2^(8 * (7 - m)))) := by
  intro m h
  rcases (by omega : m = 0 ∨ m = 1 ∨ m = 2 ∨ m = 3 ∨ m = 4 ∨ m = 5 ∨ m = 6 ∨ m = 7) with rfl | rfl | rfl | rfl | rfl | rfl | rfl | rfl <;> rfl
theorem mapb {bs : List UInt8} {i : Nat} {b : UInt8} (h : bs[i]? = some b) : (bs.map u8)[i]? = some (u8 b) := by simp [h]
theorem setb (bs : List UInt8) (i : Nat) (y : UInt8) : (bs.map u8).set i (u8 y) = (bs.set i y).map u8 := by simp
theorem sto_b {β : Type} {H : List AObj} {l n i : Nat} {bs : List UInt8} {x : UInt8} {K : List AObj → List Nat → Option β} (h : H[l]? = some (.row 1 (bs.map u8))) (hn : bs.length = n) (hi : i < n) :
    stoK 1 (.ptr l n i 0) (u8 x) H K = K (H.set l (.row 1 ((bs.set i x).map u8))) [] := by
  rw [sto_w h (by simpa using hn) (mapb (List.getElem?_eq_getElem (by omega))) (fun cs h => by simp [u8] at h) rfl rfl rfl, setb]
theorem mkb {β : Type} (n : Nat) (h : n ≤ 1000000) (H : List AObj) (K : AV → List AObj → List Nat → Option β) : mkK 1 1 (.int .u8 0) (.int .i64 (n : Int)) (.int .i64 (n : Int)) H K = K (.slc H.length 0 n n) (H ++ [.row 1 ((List.replicate n (0 : UInt8)).map u8)]) [] := by
  have : makeA 1 1 (.int .u8 0) (.int .i64 (n : Int)) (.int .i64 (n : Int)) H = some (.slc H.length 0 n n, H ++ [.row 1 ((List.replicate n (0 : UInt8)).map u8)], []) := by
    have : (n : Int) ≤ 281474976710656 := by omega
    simp [makeA, u8, AV.cells, AV.one, this]
  unfold mkK; rw [this]; rfl
theorem cv8_n (v : Nat) : cvI .u8 (n64 (v % 256)) = some (u8 (UInt8.ofNat v)) := by
  simp only [n64, cvI_int, wrap_u8, u8_nat]; congr 3; omega
theorem rt7 (n : Nat) (hn : n ≤ 2^46) (es : List UInt8) (he : es.length ≤ 1000) : ∀ (m : Nat) (bs : List UInt8) (E : List Nat), m ≤ 8 → bs.length = 8 → bs.drop m = (be8 n).drop m →
    ref01_Tail_J7 0 (.slc 0 0 es.length es.length) (.slc 1 0 8 8) (n64 (8 * n / 2^(8 * (8 - m)))) (.int .i64 ((m : Int) - 1)) [.row 1 (es.map u8), .row 1 (bs.map u8)] E = some (bys (es ++ be8 n), [], [])
  | 0, bs, E, hm, hb, hd => by
    refine ref01_Tail_J7_of ?_
    have hd' : bs = be8 n := by simpa using hd
    subst hd'
    simp only [geq_int, show ¬ ((0 : Int) ≤ ((0 : Nat) : Int) - 1) from by decide, decide_false, Option.bind_some, condK_f]
    have hy : elemsA (.slc 1 0 8 8) [.row 1 (es.map u8), .row 1 ((be8 n).map u8)] = some ((be8 n).map u8) := elemsA_row (l := 1) (z := 1) rfl (by simp [hb])
    rw [appB (l := 0) (es := es) (ys := be8 n) hy rfl rfl (by rw [hb]; omega)]
    exact endB_frz (frz_row rfl (by simp) (goodL_u8 _)) (good_bys _)
  | m + 1, bs, E, hm, hb, hd => by
    refine ref01_Tail_J7_of ?_
    have e2 : ((m + 1 : Nat) : Int) - 1 = (m : Int) := by omega
    have e3 : IntKind.i64.wrap ((m : Int) - 1) = (m : Int) - 1 := by rw [wrap64] <;> omega
    have q : 8 * n / 2^(8 * (8 - (m + 1))) / 256 % 2^64 = 8 * n / 2^(8 * (8 - m)) := by
      rw [Nat.div_div_eq_div_mul, show 8 * (8 - m) = 8 * (8 - (m + 1)) + 8 by omega, Nat.pow_add]
      have h1 : 8 * n / (2^(8 * (8 - (m + 1))) * 256) ≤ 8 * n := Nat.div_le_self _ _
      rw [show (256 : Nat) = 2^8 from rfl] at h1 ⊢
      exact Nat.mod_eq_of_lt (by omega)
    simp only [e2, geq_int, show ((0 : Int) ≤ (m : Int)) from by omega, decide_true, Option.bind_some, condK_t, rem_n _ _ _ _ 256 (by decide), cv8_n,
      ix_w (H := [.row 1 (es.map u8), .row 1 (bs.map u8)]) (l := 1) (n := 8) rfl (by simpa using hb) (show m < 8 by omega) _ rfl,
      sto_b (H := [.row 1 (es.map u8), .row 1 (bs.map u8)]) (l := 1) rfl hb (show m < 8 by omega), List.set_cons_succ, List.set_cons_zero, quo_n _ _ _ _ 256 (by decide), q, sub_int, e3]
    refine rt7 n hn es he m _ _ (by omega) (by simpa using hb) ?_
    have hlt : m < bs.length := by omega
    have hlt' : m < (be8 n).length := by show m < 8; omega
    rw [List.drop_eq_getElem_cons (by simpa using hlt), List.drop_eq_getElem_cons hlt', List.getElem_set_self, List.drop_set_of_lt (by omega), hd]
    congr 1
    have := be8_ix n m (by omega)
    rw [List.getElem?_eq_getElem hlt', Option.some.injEq] at this
    rw [this, show 8 - (m + 1) = 7 - m by omega]
theorem rt2 (n : Nat) (hn : n ≤ 2^46) : ∀ (m k : Nat) (E : List Nat), k + m = zerosF n →
    ref01_Tail_J2 0 (.int .i64 (n : Int)) (.slc 0 0 (k + 1) (k + 1)) [.row 1 ((128 :: List.replicate k 0).map u8)] E = some (bys (tailF n), [], [])
  | 0, k, E, h => by
    refine ref01_Tail_J2_of ?_
    have hk : k < 64 := by have := zerosF_lt n; omega
    have e1 : IntKind.i64.wrap ((n : Int) + ((k + 1 : Nat) : Int)) = ((n + (k + 1) : Nat) : Int) := w64 (by omega) (by omega)
    have e2 : ((((n + (k + 1)) % 64 : Nat) : Int) = 56) := by unfold zerosF at h; omega
    have e3 : cvI .u64 (.int .i64 (n : Int)) = some (n64 n) := by simp only [cvI_int, wrap_u64 (show n < 2^64 by omega)]; rfl
    have e4 : ∀ d c b, binA .mul d c b (.int .u64 8) (n64 n) = some (n64 (8 * n)) := fun d c b => by
      have := mul_n d c b 8 n
      rw [Nat.mod_eq_of_lt (by omega)] at this
      exact this
    rw [lenV_slc (H := [.row 1 ((128 :: List.replicate k 0).map u8)]) (l := 0) rfl (by simp)]
    simp only [Option.bind_some, add_int, e1, rem64, neq_int, e2, decide_true, Bool.not_true, condK_f]
    rw [show (.int .i64 8 : AV) = .int .i64 ((8 : Nat) : Int) from rfl, mkb 8 (by omega)]
    simp only [List.length_singleton, List.cons_append, List.nil_append, e3, e4, Option.bind_some]
    have := rt7 n hn (128 :: List.replicate k 0) (by simp; omega) 8 (List.replicate 8 0) ([] ++ E) (by omega) rfl rfl
    rw [show 8 * n / 2^(8 * (8 - 8)) = 8 * n by simp] at this
    have hk2 : k = zerosF n := by omega
    rw [List.length_cons, List.length_replicate] at this
    subst hk2
    exact this
  | m + 1, k, E, h => by
    refine ref01_Tail_J2_of ?_
    have hk : k < 64 := by have := zerosF_lt n; omega
    have e1 : IntKind.i64.wrap ((n : Int) + ((k + 1 : Nat) : Int)) = ((n + (k + 1) : Nat) : Int) := w64 (by omega) (by omega)
    have e2 : ¬ ((((n + (k + 1)) % 64 : Nat) : Int) = 56) := by unfold zerosF at h; omega
    rw [lenV_slc (H := [.row 1 ((128 :: List.replicate k 0).map u8)]) (l := 0) rfl (by simp)]
    simp only [Option.bind_some, add_int, e1, rem64, neq_int, e2, decide_false, Bool.not_false, condK_t]
    rw [lit0 0 0 rfl]
    rw [appB (es := 128 :: List.replicate k 0) (ys := [0]) (elemsA_bys _ _) rfl (by simp) (by simp; omega)]
    simp only [List.set_cons_zero, List.length_singleton, List.nil_append, List.append_nil, List.cons_append, ← List.replicate_succ']
    exact rt2 n hn m (k + 1) _ (by omega)
theorem rTail_ok (n : Nat) (hn : n ≤ 2^46) : EV C n_ref01_Tail [.int .i64 (n : Int)] [] = some (bys (tailF n), [], []) := by
  refine ref01_Tail_of ?_
  simp only [List.length_nil]
  rw [raw0' 128 128 rfl]
  exact rt2 n hn (zerosF n) 0 _ (by omega)
/-! ### Sum -/
theorem be_ix (v : V8) : ∀ i, i < 32 → (v.ws.flatMap be4)[i]? = some (((v.ws.getD (i / 4) 0) >>> UInt32.ofNat (24 - 8 * (i % 4))).toUInt8) := by
  intro i h
  rcases (by omega : i = 0 ∨ i = 1 ∨ i = 2 ∨ i = 3 ∨ i = 4 ∨ i = 5 ∨ i = 6 ∨ i = 7 ∨ i = 8 ∨ i = 9 ∨ i = 10 ∨ i = 11 ∨ i = 12 ∨ i = 13 ∨ i = 14 ∨ i = 15 ∨ i = 16 ∨ i = 17 ∨ i = 18 ∨ i = 19 ∨ i = 20 ∨ i = 21 ∨ i = 22 ∨ i = 23 ∨ i = 24 ∨ i = 25 ∨ i = 26 ∨ i = 27 ∨ i = 28 ∨ i = 29 ∨ i = 30 ∨ i = 31) with
    rfl | rfl | rfl | rfl | rfl | rfl | rfl | rfl | rfl | rfl | rfl | rfl | rfl | rfl | rfl | rfl | rfl | rfl | rfl | rfl | rfl | rfl | rfl | rfl | rfl | rfl | rfl | rfl | rfl | rfl | rfl | rfl <;> simp [V8.ws, be4]
theorem rsum_j10 (o0 o1 : AObj) (v : V8) : ∀ (m i : Nat) (bs : List UInt8) (E : List Nat), i + m = 32 → bs.length = 32 → bs.take i = (v.ws.flatMap be4).take i →
    ref01_Tables_Sum_J10 0 (.ptr 2 1 0 0) (.slc 3 0 32 32) (.int .i64 (i : Int)) [o0, o1, .row 8 [v.av], .row 1 (bs.map u8)] E = some (bys (v.ws.flatMap be4), [], [])
  | 0, i, bs, E, hi, hb, ht => by
    refine ref01_Tables_Sum_J10_of ?_
    have e1 : ¬ ((i : Int) < 32) := by omega
    have l32 : (v.ws.flatMap be4).length = 32 := by simp [V8.ws, be4]
    have hd : bs = v.ws.flatMap be4 := by rwa [List.take_of_length_le (by omega), List.take_of_length_le (by omega)] at ht
    simp only [lss_int, e1, decide_false, Option.bind_some, condK_f]
    subst hd
    exact endB_frz (frz_row rfl (by simp [l32]) (goodL_u8 _)) (good_bys _)
  | m + 1, i, bs, E, hi, hb, ht => by
    refine ref01_Tables_Sum_J10_of ?_
    have hi32 : i < 32 := by omega
    have e1 : ((i : Int) < 32) := by omega
    have e3 : IntKind.i64.wrap ((i : Int) + 1) = ((i + 1 : Nat) : Int) := w64 (by omega) (by omega)
    have r4 : ∀ d c b, binA .rem d c b (.int .i64 (i : Int)) (.int .i64 4) = some (.int .i64 ((i % 4 : Nat) : Int)) := fun d c b => rem_int d c b .i64 i 4 (by omega)
    have e4 : IntKind.i64.wrap (8 * ((i % 4 : Nat) : Int)) = ((8 * (i % 4) : Nat) : Int) := w64 (by omega) (by omega)
    have e5 : IntKind.i64.wrap (24 - ((8 * (i % 4) : Nat) : Int)) = ((24 - 8 * (i % 4) : Nat) : Int) := w64 (by omega) (by omega)
    have A : arA 8 1 (.ptr 2 1 0 0) (.int .i64 ((i / 4 : Nat) : Int)) = some (.ptr 2 1 0 (i / 4)) := arr 8 1 2 .i64 (i / 4) (by omega) _ rfl
    have L : loadA false 1 (.ptr 2 1 0 (i / 4)) [o0, o1, .row 8 [v.av], .row 1 (bs.map u8)] = some (u32 (v.ws.getD (i / 4) 0)) := ld_w8 (xs := v.ws) rfl (by show i / 4 < 8; omega)
    simp only [lss_int, e1, decide_true, Option.bind_some, condK_t, quo4 _ _ _ i (by omega), A, L, r4, mul_int, e4, sub_int, e5, shr_w _ _ _ _ _ (24 - 8 * (i % 4)) (show 24 - 8 * (i % 4) < 32 by omega), cv_u8w,
      ix_w (H := [o0, o1, .row 8 [v.av], .row 1 (bs.map u8)]) (l := 3) (n := 32) rfl (by simpa using hb) hi32 _ rfl, sto_b (H := [o0, o1, .row 8 [v.av], .row 1 (bs.map u8)]) (l := 3) rfl hb hi32, List.set_cons_succ, List.set_cons_zero, add_int, e3]
    refine rsum_j10 o0 o1 v m (i + 1) _ _ (by omega) (by simpa using hb) ?_
    have l32 : (v.ws.flatMap be4).length = 32 := by simp [V8.ws, be4]
    rw [List.take_add_one, List.take_set_of_le (Nat.le_refl _), ht, List.getElem?_set_self (by omega), List.take_add_one, be_ix v i hi32]
theorem rsum_j5 (es : List UInt8) (hes : es.length ≤ 2^46) : ∀ (m i : Nat) (v : V8) (E : List Nat), es.length = i + 64 * m →
    ref01_Tables_Sum_J5 0 (.ptr 0 1 0 0) (.slc 1 0 es.length es.length) (.ptr 2 1 0 0) (.int .i64 (i : Int)) [.row 9 [tabF], .row 1 (es.map u8), .row 8 [v.av]] E = some (bys ((stepsF v m (es.drop i)).ws.flatMap be4), [], [])
  | 0, i, v, E, h => by
    refine ref01_Tables_Sum_J5_of ?_
    have e1 : ¬ ((i : Int) < (es.length : Int)) := by omega
    rw [lenV_slc (l := 1) (z := 1) (es := es.map u8) rfl (by simp)]
    simp only [lss_int, e1, decide_false, Option.bind_some, condK_f]
    rw [show (.int .i64 32 : AV) = .int .i64 ((32 : Nat) : Int) from rfl, mkb 32 (by omega)]
    simp only [stepsF]
    exact rsum_j10 _ _ v 32 0 _ _ rfl (by simp) rfl
  | m + 1, i, v, E, h => by
    refine ref01_Tables_Sum_J5_of ?_
    have e1 : ((i : Int) < (es.length : Int)) := by omega
    have e3 : IntKind.i64.wrap ((i : Int) + 64) = ((i + 64 : Nat) : Int) := w64 (by omega) (by omega)
    have n1 : ∀ T, loadA true 9 (.ptr 0 1 0 0) (.row 9 [tabF] :: T) = some tabF := fun T => ld_agg (cs := tabL (.lst (kCst.map u32)) hCst) rfl rfl
    have c1 : cutA 1 (.slc 1 0 es.length es.length) (some (.int .i64 (i : Int))) (some (.int .i64 ((i + 64 : Nat) : Int))) none [.row 9 [tabF], .row 1 (es.map u8), .row 8 [v.av]] = some (.slc 1 i 64 es.length) := by
      have l1 : lenA (.slc 1 0 es.length es.length) [.row 9 [tabF], .row 1 (es.map u8), .row 8 [v.av]] = some es.length := by simp [lenA, lenOf]
      simp only [cutA, l1, Option.bind_some, boundA]
      rw [if_pos ⟨by omega, by omega, by omega, by omega, by simp⟩]
      simp
      omega
    have hf : frz [.row 9 [tabF], .row 1 (es.map u8), .row 8 [v.av]] (.slc 1 i 64 es.length) = some (bys ((es.drop i).take 64)) := by
      simp [frz, bys]
    rw [lenV_slc (l := 1) (z := 1) (es := es.map u8) rfl (by simp)]
    simp only [lss_int, e1, decide_true, Option.bind_some, condK_t, n1, ld_v8 (H := [.row 9 [tabF], .row 1 (es.map u8), .row 8 [v.av]]) (l := 2) rfl, add_int, e3, c1]
    rw [callD_flat (env := EV C) (bs := [tabF, v.av, bys ((es.drop i).take 64)]) (frzL_cons (frz_good _ _ rfl) (frzL_cons (frz_good _ _ rfl) (frzL_cons hf rfl))) (by simp [show tabF.good = true from rfl]) (rStep_ok v ((es.drop i).take 64) (by simp; omega)) rfl]
    simp only [Option.bind_some, sto_v8 (H := [.row 9 [tabF], .row 1 (es.map u8), .row 8 [v.av]]) (l := 2) rfl, List.set_cons_succ, List.set_cons_zero]
    rw [rsum_j5 es hes m (i + 64) _ _ (by omega), stepsF, List.drop_drop]
theorem rSum_ok (b : List UInt8) (hb : b.length ≤ 2^45) : EV C n_ref01_Tables_Sum [tabF, bys b] [] = some (bys (sumF b), [], []) := by
  refine ref01_Tables_Sum_of ?_
  have hz := zerosF_lt b.length
  have n1 : ∀ (H : List AObj) (K : AV → List AObj → List Nat → Option R3), newK tabF H K = K (.ptr H.length 1 0 0) (H ++ [.row 9 [tabF]]) [] := fun H K => new_agg (by simp [tabL]) rfl H K
  have n2 : ∀ T, loadA true 8 (.ptr 0 1 0 1) (.row 9 [tabF] :: T) = some hV.av := fun T => Eq.trans rfl rfl
  simp only [n1, raw0, List.length_nil, List.nil_append, List.length_singleton, List.cons_append]
  rw [appB (l := 1) (n := 0) (es := []) (ys := b) (elemsA_bys _ _) rfl rfl (by omega)]
  simp only [lenV_bys, Option.bind_some, List.set_cons_succ, List.set_cons_zero, List.nil_append]
  rw [callK_ok (by simp) (rTail_ok b.length (by omega))]
  simp only [Nat.zero_add]
  rw [appB (l := 1) (es := b) (ys := tailF b.length) (elemsA_bys _ _) rfl rfl (by rw [tailF_len]; omega)]
  simp only [List.set_cons_succ, List.set_cons_zero, offA_ptr, Nat.zero_add, n2, Option.bind_some, new_v80, List.length_cons, List.length_nil, Nat.reduceAdd, List.cons_append, List.nil_append]
  rw [sto_v8 (v := V8.zero) (l := 2) rfl]
  simp only [List.set_cons_succ, List.set_cons_zero]
  have hlen : (b ++ tailF b.length).length = 64 * ((b ++ tailF b.length).length / 64) := by
    simp only [List.length_append, tailF_len]; unfold zerosF; omega
  have := rsum_j5 (b ++ tailF b.length) (by rw [List.length_append, tailF_len]; omega) ((b ++ tailF b.length).length / 64) 0 hV
  rw [← List.length_append]
  rw [show (.int .i64 0 : AV) = .int .i64 ((0 : Nat) : Int) from rfl, this _ (by omega), List.drop_zero]
  rfl
end Go.Pm
