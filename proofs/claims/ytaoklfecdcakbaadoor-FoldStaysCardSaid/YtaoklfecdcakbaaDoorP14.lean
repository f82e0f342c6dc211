/- A part of the proof: what the functions of the program answer, as plain lists and numbers. -/
import Derived.Test.YtaoklfecdcakbaaDoorP13
namespace Go.Pm
open Go.Proofs
set_option linter.unusedVariables false
set_option linter.unusedSimpArgs false
theorem appB {β : Type} {H : List AObj} {l n : Nat} {es ys : List UInt8} {y : AV} {K : AV → List AObj → List Nat → Option β} (hy : elemsA y H = some (ys.map u8)) (h : H[l]? = some (.row 1 (es.map u8))) (hn : n = es.length) (h5 : n + ys.length ≤ 140737489400832) :
    appK 1 1 (.slc l 0 n n) y H K = K (.slc l 0 (n + ys.length) (n + ys.length)) (H.set l (.row 1 ((es ++ ys).map u8))) [] := by
  rw [appK_row hy h (by simpa using hn) (lz_u8 _) (by decide) (by decide) (by decide) (by simp; omega), esc_good (by simp)]
  simp
theorem lit1 {β : Type} (b : UInt8) (H : List AObj) (K : AV → List AObj → List Nat → Option β) : litK 1 1 (.int .u8 0) [(0, u8 b)] H K = K (bys [b]) H [] := Eq.trans rfl rfl
theorem raw1 {β : Type} (b : UInt8) (H : List AObj) (K : AV → List AObj → List Nat → Option β) : rawK 1 1 (.int .u8 0) [(0, u8 b)] H K = K (.slc H.length 0 1 1) (H ++ [.row 1 ([b].map u8)]) [] := Eq.trans rfl rfl
theorem raw0 {β : Type} (H : List AObj) (K : AV → List AObj → List Nat → Option β) : rawK 1 0 (.int .u8 0) [] H K = K (.slc H.length 0 0 0) (H ++ [.row 1 (([] : List UInt8).map u8)]) [] := Eq.trans rfl rfl
theorem rem64 (d : TypeDesc) (c : TypeId → Bool) (b : Bool) (x : Nat) : binA .rem d c b (.int .i64 (x : Int)) (.int .i64 64) = some (.int .i64 ((x % 64 : Nat) : Int)) := rem_int d c b .i64 x 64 (by omega)
theorem lenV_slc {H : List AObj} {l z n : Nat} {es : List AV} (h : H[l]? = some (.row z es)) (hn : n = es.length) : lenV (.slc l 0 n n) H = some (.int .i64 n) := by
  have : lenOf H l = some n := by unfold lenOf; simp [h, hn]
  simp [lenV, lenA, this]
theorem t7_step {r : R3} {n j c : Nat} {es : List UInt8} {E : List Nat} (hj : j ≤ 7) (hn : n ≤ 2^46) (hc : es.length = c) (hc2 : c ≤ 1000)
    (h : sha_Tail_J7 0 (.int .i64 (n : Int)) (.slc 0 0 (c + 1) (c + 1)) (.int .i64 (8 * (j : Int) - 8)) [.row 1 ((es ++ [UInt8.ofNat (8 * n / 2 ^ (8 * j))]).map u8)] E = some r) :
    sha_Tail_J7 0 (.int .i64 (n : Int)) (.slc 0 0 c c) (.int .i64 (8 * (j : Int))) [.row 1 (es.map u8)] E = some r := by
  refine sha_Tail_J7_of ?_
  have e1 : (0 : Int) ≤ 8 * (j : Int) := by omega
  have e2 : IntKind.u64.wrap (n : Int) = (n : Int) := wrap_u64 (by omega)
  have e3 : IntKind.u64.wrap (8 * (n : Int)) = ((8 * n : Nat) : Int) := by
    have : (8 * (n : Int)) = ((8 * n : Nat) : Int) := by omega
    rw [this, wrap_u64 (by omega)]
  have e4 : ∀ d c b, binA .shr d c b (.int .u64 ((8 * n : Nat) : Int)) (.int .i64 (8 * (j : Int))) = some (.int .u64 ((8 * n / 2 ^ (8 * j) : Nat) : Int)) := fun d c b => by
    have := shr_nat d c b .u64 .i64 (8 * n) (8 * j) (by show 8 * j ≤ 64; omega)
    rw [← this]; simp
  have e5 : IntKind.i64.wrap (8 * (j : Int) - 8) = 8 * (j : Int) - 8 := by rw [wrap64] <;> omega
  simp only [geq_int, e1, decide_true, Option.bind_some, condK_t, cvI_int, e2, mul_int, e3, e4, wrap_u8, ← u8_nat, lit1]
  rw [appB (ys := [UInt8.ofNat (8 * n / 2 ^ (8 * j))]) (elemsA_bys _ _) rfl hc.symm (by simp; omega)]
  simp only [List.set_cons_zero, List.length_singleton, sub_int, e5, Option.bind_some, List.nil_append, List.append_nil]
  exact h
theorem zerosF_lt (n : Nat) : zerosF n < 64 := by unfold zerosF; omega
theorem t4_loop (n : Nat) (hn : n ≤ 2^46) : ∀ (m k : Nat) (E : List Nat), k + m = zerosF n →
    sha_Tail_J4 0 (.int .i64 (n : Int)) (.slc 0 0 (k + 1) (k + 1)) [.row 1 ((128 :: List.replicate k 0).map u8)] E = some (.tup [bys (tailF n), .nili], [], [])
  | 0, k, E, h => by
    refine sha_Tail_J4_of ?_
    have hk : k < 64 := by have := zerosF_lt n; omega
    have e1 : IntKind.i64.wrap ((n : Int) + ((k + 1 : Nat) : Int)) = ((n + (k + 1) : Nat) : Int) := w64 (by omega) (by omega)
    have e2 : ((((n + (k + 1)) % 64 : Nat) : Int) = 56) := by unfold zerosF at h; omega
    rw [lenV_slc (H := [.row 1 ((128 :: List.replicate k 0).map u8)]) (l := 0) rfl (by simp)]
    simp only [Option.bind_some, add_int, e1, rem64, neq_int, e2, decide_true, Bool.not_true, condK_f]
    refine (show _ from fun h => t7_step (j := 7) (by omega) hn (by simp) (by omega) h) ?_
    refine (show _ from fun h => t7_step (j := 6) (by omega) hn (by simp) (by omega) h) ?_
    refine (show _ from fun h => t7_step (j := 5) (by omega) hn (by simp) (by omega) h) ?_
    refine (show _ from fun h => t7_step (j := 4) (by omega) hn (by simp) (by omega) h) ?_
    refine (show _ from fun h => t7_step (j := 3) (by omega) hn (by simp) (by omega) h) ?_
    refine (show _ from fun h => t7_step (j := 2) (by omega) hn (by simp) (by omega) h) ?_
    refine (show _ from fun h => t7_step (j := 1) (by omega) hn (by simp) (by omega) h) ?_
    refine (show _ from fun h => t7_step (j := 0) (by omega) hn (by simp) (by omega) h) ?_
    refine sha_Tail_J7_of ?_
    simp only [geq_int, show ¬ ((0 : Int) ≤ 8 * ((0 : Nat) : Int) - 8) from by decide, decide_false, Option.bind_some, condK_f]
    have hk2 : k = zerosF n := by omega
    refine endB_frz (u := .tup [bys (tailF n), .nili]) (frz_tup (frzL_cons ((frz_row rfl (by simp) (goodL_u8 _)).trans ?_) (frzL_cons rfl rfl))) (by simp)
    subst hk2
    simp [bys, tailF, be8]
  | m + 1, k, E, h => by
    refine sha_Tail_J4_of ?_
    have hk : k < 64 := by have := zerosF_lt n; omega
    have e1 : IntKind.i64.wrap ((n : Int) + ((k + 1 : Nat) : Int)) = ((n + (k + 1) : Nat) : Int) := w64 (by omega) (by omega)
    have e2 : ¬ ((((n + (k + 1)) % 64 : Nat) : Int) = 56) := by unfold zerosF at h; omega
    rw [lenV_slc (H := [.row 1 ((128 :: List.replicate k 0).map u8)]) (l := 0) rfl (by simp)]
    simp only [Option.bind_some, add_int, e1, rem64, neq_int, e2, decide_false, Bool.not_false, condK_t]
    rw [show (.int .u8 0 : AV) = u8 0 from rfl, show litK 1 1 (u8 0) [(0, u8 0)] = litK (β := R3) 1 1 (.int .u8 0) [(0, u8 0)] from rfl, lit1]
    rw [appB (es := 128 :: List.replicate k 0) (ys := [0]) (elemsA_bys _ _) rfl (by simp) (by simp; omega)]
    simp only [List.set_cons_zero, List.length_singleton, List.nil_append, List.append_nil, List.cons_append, ← List.replicate_succ']
    exact t4_loop n hn m (k + 1) E (by omega)
theorem Tail_ok (n : Nat) (hn : n ≤ 2^46) : EV C n_sha_Tail [.int .i64 (n : Int)] [] = some (.tup [bys (tailF n), .nili], [], []) := by
  refine sha_Tail_of ?_
  have e1 : ¬ ((n : Int) < 0) := by omega
  have e2 : ¬ ((1125899906842624 : Int) < (n : Int)) := by omega
  simp only [lss_int, gtr_int, e1, e2, decide_false, Option.bind_some, splitK_f, condK_f]
  rw [show (.int .u8 128 : AV) = u8 128 from rfl, raw1]
  exact t4_loop n hn (zerosF n) 0 _ (by omega)
theorem neqE (ms : Array (String × TypeId)) (c : TypeId → Bool) : binA .neq (.interface ms) c true .nili .nili = some (.bool false) := rfl
theorem j10_bys (t37 : AV) (o : AObj) (i : Nat) (hi : i < 2) (r : R3) (m : Nat) : ∀ (l : List UInt8) (v : V8) (Ha : List AObj) (Ea E : List Nat), l.length = 64 * m →
    (∀ E, sha_Sum_J8 0 (.ptr 1 1 0 0) t37 (.int .i64 ((i + 1 : Nat) : Int)) [o, .row 8 [(stepsF v m l).av]] E = some r) →
    sha_Sum_J10 0 Ha Ea (.ptr 1 1 0 0) (bys l) t37 (.int .i64 (i : Int)) [o, .row 8 [v.av]] E = some r := by
  induction m with
  | zero =>
    intro l v Ha Ea E hl h
    refine sha_Sum_J10_of ?_
    have e1 : ¬ ((0 : Int) < (l.length : Int)) := by omega
    have e3 : IntKind.i64.wrap ((i : Int) + 1) = ((i + 1 : Nat) : Int) := w64 (by omega) (by omega)
    simp only [lenV_bys, gtr_int, e1, decide_false, Option.bind_some, condK_f, add_int, e3]
    exact h _
  | succ m ih =>
    intro l v Ha Ea E hl h
    refine sha_Sum_J10_of ?_
    have e1 : ((0 : Int) < (l.length : Int)) := by omega
    have c1 : cutA 1 (bys l) none (some (.int .i64 64)) none [o, .row 8 [v.av]] = some (bys (l.take 64)) := by
      have := cutA_bys (l := l) (lo := none) (hi := some (.int .i64 64)) (H := [o, .row 8 [v.av]]) (i := 0) (j := 64) rfl rfl (by omega) (by omega)
      simpa using this
    have c2 : ∀ H, cutA 1 (bys l) (some (.int .i64 64)) none none H = some (bys (l.drop 64)) := fun H => by
      have := cutA_bys (l := l) (lo := some (.int .i64 64)) (hi := none) (H := H) (i := 64) (j := l.length) rfl rfl (by omega) (by omega)
      simpa using this
    simp only [lenV_bys, gtr_int, e1, decide_true, Option.bind_some, condK_t, ld_v8 (H := [o, .row 8 [v.av]]) (l := 1) rfl, c1]
    rw [callD_ok (env := EV C) (by simp) (Step_ok v (l.take 64) (by simp; omega))]
    simp only [Option.bind_some, extA_0, extA_1, sto_v8 (H := [o, .row 8 [v.av]]) (l := 1) rfl, List.set_cons_succ, List.set_cons_zero, neqE, condK_f, c2]
    refine ih (l.drop 64) _ _ _ _ (by simp; omega) fun E => ?_
    have := h E
    rw [stepsF] at this
    exact this
theorem j10_slc (t37 : AV) (es : List UInt8) (i : Nat) (hi : i < 2) (r : R3) (m : Nat) : ∀ (off n : Nat) (v : V8) (Ha : List AObj) (Ea E : List Nat), n = 64 * m → off + n = es.length →
    (∀ E, sha_Sum_J8 0 (.ptr 1 1 0 0) t37 (.int .i64 ((i + 1 : Nat) : Int)) [.row 1 (es.map u8), .row 8 [(stepsF v m (es.drop off)).av]] E = some r) →
    sha_Sum_J10 0 Ha Ea (.ptr 1 1 0 0) (.slc 0 off n es.length) t37 (.int .i64 (i : Int)) [.row 1 (es.map u8), .row 8 [v.av]] E = some r := by
  induction m with
  | zero =>
    intro off n v Ha Ea E hl ho h
    refine sha_Sum_J10_of ?_
    have e1 : ¬ ((0 : Int) < (n : Int)) := by omega
    have e3 : IntKind.i64.wrap ((i : Int) + 1) = ((i + 1 : Nat) : Int) := w64 (by omega) (by omega)
    have lv : lenV (.slc 0 off n es.length) [.row 1 (es.map u8), .row 8 [v.av]] = some (.int .i64 n) := by simp [lenV, lenA, lenOf]
    simp only [lv, gtr_int, e1, decide_false, Option.bind_some, condK_f, add_int, e3]
    exact h _
  | succ m ih =>
    intro off n v Ha Ea E hl ho h
    refine sha_Sum_J10_of ?_
    have e1 : ((0 : Int) < (n : Int)) := by omega
    have lv : ∀ x : V8, lenV (.slc 0 off n es.length) [.row 1 (es.map u8), .row 8 [x.av]] = some (.int .i64 n) := fun x => by simp [lenV, lenA, lenOf]
    have c1 : cutA 1 (.slc 0 off n es.length) none (some (.int .i64 64)) none [.row 1 (es.map u8), .row 8 [v.av]] = some (.slc 0 off 64 es.length) := by
      simp [cutA, lenA, lenOf, boundA]; omega
    have c2 : ∀ x : V8, cutA 1 (.slc 0 off n es.length) (some (.int .i64 64)) none none [.row 1 (es.map u8), .row 8 [x.av]] = some (.slc 0 (off + 64) (n - 64) es.length) := fun x => by
      simp [cutA, lenA, lenOf, boundA]; omega
    have hf : frz [.row 1 (es.map u8), .row 8 [v.av]] (.slc 0 off 64 es.length) = some (bys ((es.drop off).take 64)) := by
      simp [frz, bys]
    simp only [lv, gtr_int, e1, decide_true, Option.bind_some, condK_t, ld_v8 (H := [.row 1 (es.map u8), .row 8 [v.av]]) (l := 1) rfl, c1]
    rw [callD_flat (env := EV C) (bs := [v.av, bys ((es.drop off).take 64)]) (frzL_cons (frz_good _ _ rfl) (frzL_cons hf rfl)) (by simp) (Step_ok v ((es.drop off).take 64) (by simp; omega)) rfl]
    simp only [Option.bind_some, extA_0, extA_1, sto_v8 (H := [.row 1 (es.map u8), .row 8 [v.av]]) (l := 1) rfl, List.set_cons_succ, List.set_cons_zero, neqE, condK_f, c2]
    refine ih (off + 64) (n - 64) _ _ _ _ (by omega) (by omega) fun E => ?_
    have := h E
    rw [stepsF, List.drop_drop] at this
    exact this
theorem lit4 {β : Type} (a b c d : UInt8) (H : List AObj) (K : AV → List AObj → List Nat → Option β) : litK 1 4 (.int .u8 0) [(0, u8 a), (1, u8 b), (2, u8 c), (3, u8 d)] H K = K (bys [a, b, c, d]) H [] := Eq.trans rfl rfl
theorem shr24 (d : TypeDesc) (c : TypeId → Bool) (b : Bool) (x : UInt32) : binA .shr d c b (u32 x) (.int .u64 24) = some (u32 (x >>> 24)) := shr_w d c b .u64 x 24 (by omega)
theorem shr16 (d : TypeDesc) (c : TypeId → Bool) (b : Bool) (x : UInt32) : binA .shr d c b (u32 x) (.int .u64 16) = some (u32 (x >>> 16)) := shr_w d c b .u64 x 16 (by omega)
theorem shr8' (d : TypeDesc) (c : TypeId → Bool) (b : Bool) (x : UInt32) : binA .shr d c b (u32 x) (.int .u64 8) = some (u32 (x >>> 8)) := shr_w d c b .u64 x 8 (by omega)
theorem ixV8 (v : V8) (j : Nat) (x : UInt32) (hj : v.ws[j]? = some x) : ixV 8 false 1 v.av (.int .i64 (j : Int)) = some (u32 x) := by
  have hlt : j < 8 := (List.getElem?_eq_some_iff.1 hj).1
  have e : v.av = .agg (v.ws.map u32) := rfl
  rw [e]
  simp only [ixV]
  rw [if_pos ⟨by omega, by omega⟩]
  simp only [ldv, Int.toNat_natCast, Nat.mul_one]
  simp [hj]
theorem j18 (v : V8) (o1 o2 : AObj) : ∀ (m j : Nat) (E : List Nat), j + m = 8 →
    sha_Sum_J18 0 (.slc 2 0 (4 * j) (4 * j)) v.av (.int .i64 (j : Int)) [o1, o2, vro 1 (((v.ws.take j).flatMap be4).map u8)] E = some (bys (v.ws.flatMap be4), [], [])
  | 0, j, E, h => by
    obtain rfl : j = 8 := by omega
    refine sha_Sum_J18_of ?_
    simp only [lss_int, show ¬ (((8 : Nat) : Int) < 8) from by decide, decide_false, Option.bind_some, condK_f]
    refine endB_frz (frz_vro (z := 1) rfl (by simp [V8.ws, be4]) (goodL_u8 _)) (good_bys _)
  | m + 1, j, E, h => by
    refine sha_Sum_J18_of ?_
    have e1 : ((j : Int) < 8) := by omega
    have e3 : IntKind.i64.wrap ((j : Int) + 1) = ((j + 1 : Nat) : Int) := w64 (by omega) (by omega)
    have hx : v.ws[j]? = some (v.ws[j]'(by simp [V8.ws]; omega)) := List.getElem?_eq_getElem _
    generalize (v.ws[j]'(by simp [V8.ws]; omega)) = x at hx
    have ht : (v.ws.take (j + 1)).flatMap be4 = (v.ws.take j).flatMap be4 ++ be4 x := by
      rw [List.take_add_one, hx]; simp
    have hlen : (((v.ws.take j).flatMap be4).map u8).length = 4 * j := by
      have : ∀ l : List UInt32, (l.flatMap be4).length = 4 * l.length := fun l => by
        induction l with
        | nil => rfl
        | cons a l ih => simp [be4, ih]; omega
      rw [List.length_map, this]; simp [V8.ws]; omega
    simp only [lss_int, e1, decide_true, Option.bind_some, condK_t, ixV8 v j x hx, shr24, shr16, shr8', cv_u8w, lit4]
    rw [appK_vro (n := 4 * j) (es := ((v.ws.take j).flatMap be4).map u8) (ys := (be4 x).map u8) rfl rfl hlen.symm (lz_u8 _) (by decide) (by decide) (by decide) (by simp [be4]; omega), esc_good (by simp)]
    simp only [add_int, e3, Option.bind_some, List.set_cons_succ, List.set_cons_zero, List.nil_append, List.append_nil, ← List.map_append, ← ht, List.length_map, show (be4 x).length = 4 from rfl, show 4 * j + 4 = 4 * (j + 1) from by omega]
    exact j18 v o1 o2 m (j + 1) E (by omega)
theorem stepsF_app : ∀ (a : Nat) (v : V8) (x y : List UInt8) (b : Nat), x.length = 64 * a → stepsF v (a + b) (x ++ y) = stepsF (stepsF v a x) b y
  | 0, v, x, y, b, h => by
    obtain rfl : x = [] := by cases x <;> simp at h ⊢
    simp [stepsF]
  | a + 1, v, x, y, b, h => by
    rw [show a + 1 + b = (a + b) + 1 by omega, stepsF, stepsF]
    rw [List.take_append_of_le_length (by omega), List.drop_append_of_le_length (by omega)]
    exact stepsF_app a _ _ y b (by simp; omega)
theorem tailF_len (n : Nat) : (tailF n).length = zerosF n + 9 := by simp [tailF, be8]
theorem Sum_ok (b : List UInt8) (hb : b.length ≤ 2^45) : EV C n_sha_Sum [bys b] [] = some (bys (sumF b), [], []) := by
  refine sha_Sum_of ?_
  have hz := zerosF_lt b.length
  simp only [lenV_bys, Option.bind_some]
  rw [callK_ok (by simp) (Tail_ok b.length (by omega))]
  obtain ⟨q, hq⟩ : ∃ q, q = b.length / 64 := ⟨_, rfl⟩
  have e1 : ∀ d c x, binA .quo d c x (.int .i64 (b.length : Int)) (.int .i64 64) = some (.int .i64 (q : Int)) := fun d c x => by
    have := quo_int d c x .i64 b.length 64 (by omega)
    rw [w64 rfl (by omega)] at this
    rw [hq]; exact this
  have e2 : IntKind.i64.wrap ((q : Int) * 64) = ((64 * q : Nat) : Int) := w64 (by omega) (by omega)
  simp only [extA_0, extA_1, Option.bind_some, neqE, condK_f, e1, mul_int, e2, raw0, List.length_nil, List.nil_append, List.append_nil]
  rw [cutA_bys (l := b) (i := 64 * q) (j := b.length) rfl rfl (by omega) (by omega)]
  simp only [Option.bind_some, List.take_length]
  rw [appB (n := 0) (es := []) (ys := b.drop (64 * q)) (elemsA_bys _ _) rfl rfl (by simp; omega)]
  simp only [List.set_cons_zero, List.nil_append, List.append_nil, Nat.zero_add]
  rw [appB (es := b.drop (64 * q)) (ys := tailF b.length) (elemsA_bys _ _) rfl rfl (by simp [tailF_len]; omega)]
  have hld : ∀ H, loadA true 8 (.ip gl_first) H = some hV.av := fun H => Eq.trans rfl rfl
  simp only [List.set_cons_zero, List.nil_append, List.append_nil, hld, Option.bind_some, new_v80, List.length_singleton, List.cons_append]
  rw [sto_v8 (v := V8.zero) (l := 1) rfl]
  rw [cutA_bys (l := b) (i := 0) (j := 64 * q) rfl rfl (by omega) (by omega)]
  simp only [List.set_cons_succ, List.set_cons_zero, Option.bind_some, List.drop_zero, List.nil_append]
  rw [← List.length_append]
  have fl : ∀ (x : List UInt8) (l o n t : Nat) (K : List AV → Option R3), (fillB (AV.cells (.agg [.nils, .nils])) [(0, 1, bys x), (1, 1, .slc l o n t)]).bind K = K [bys x, .slc l o n t] := fun x l o n t K => by
    simp [fillB, AV.cells, bys, AV.isBad]
  rw [fl]
  have hlen : (b.drop (64 * q) ++ tailF b.length).length = 64 * ((b.length - 64 * q + zerosF b.length + 9) / 64) := by
    simp only [List.length_append, List.length_drop, tailF_len]
    unfold zerosF; omega
  refine sha_Sum_J8_of ?_
  simp only [lss_int, show ((0 : Int) < 2) from by decide, decide_true, Option.bind_some, condK_t]
  rw [show ∀ (x y : AV), ixV 2 false 1 (.agg [x, y]) (.int .i64 0) = some x from fun x y => rfl, Option.bind_some]
  refine j10_bys _ _ 0 (by omega) _ q (b.take (64 * q)) _ _ _ _ (by simp; omega) fun E => ?_
  refine sha_Sum_J8_of ?_
  simp only [lss_int, show (((0 + 1 : Nat) : Int) < 2) from by decide, decide_true, Option.bind_some, condK_t]
  rw [show ∀ (x y : AV), ixV 2 false 1 (.agg [x, y]) (.int .i64 ((0 + 1 : Nat) : Int)) = some y from fun x y => rfl, Option.bind_some]
  refine j10_slc _ (b.drop (64 * q) ++ tailF b.length) 1 (by omega) _ _ 0 _ _ _ _ _ hlen (by omega) fun E => ?_
  refine sha_Sum_J8_of ?_
  simp only [lss_int, show ¬ (((1 + 1 : Nat) : Int) < 2) from by decide, decide_false, Option.bind_some, condK_f]
  rw [List.cons_append, List.cons_append, List.nil_append, ld_v8 (l := 1) rfl]
  simp only [Option.bind_some]
  refine (j18 _ _ _ 8 0 E rfl).trans ?_
  rw [List.drop_zero, ← stepsF_app q hV _ _ _ (by simp; omega), ← List.append_assoc, List.take_append_drop]
  have : q + (b.length - 64 * q + zerosF b.length + 9) / 64 = (b ++ tailF b.length).length / 64 := by
    rw [List.length_append, tailF_len]; omega
  rw [this]
  rfl
theorem sumF_len (b : List UInt8) : (sumF b).length = 32 := by simp [sumF, V8.ws, be4]
end Go.Pm
