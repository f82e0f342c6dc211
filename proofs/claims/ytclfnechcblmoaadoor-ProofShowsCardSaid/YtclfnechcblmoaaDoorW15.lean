/- The document's SHA-256 is the program's. -/
import Derived.Test.YtclfnechcblmoaaDoorW14
namespace Go.Pm
open Go.Proofs
set_option linter.unusedVariables false
set_option linter.unusedSimpArgs false
theorem turn_ok (x : UInt32) (s : Nat) (hs : 0 < s ∧ s < 32) : EV C n_ref01_turn [u32 x, .int .i64 (s : Int)] [] = some (u32 (rotr x s), [], []) := by
  refine ref01_turn_of ?_
  have e3 : IntKind.i64.wrap (32 - (s : Int)) = ((32 - s : Nat) : Int) := w64 (by omega) (by omega)
  simp only [shr_w _ _ _ _ x s (by omega), Option.bind_some, sub_int, e3, shl_w _ _ _ _ x (32 - s) (by omega), or_w]
  exact endB_good rfl
theorem turn_D (x : UInt32) (s : Nat) (hs : 0 < s ∧ s < 32) (H : List AObj) : callD (EV C) n_ref01_turn [u32 x, .int .i64 (s : Int)] H = some (u32 (rotr x s)) := callD_ok rfl (turn_ok x s hs)
theorem turnD6 (x : UInt32) (H : List AObj) : callD (EV C) n_ref01_turn [u32 x, .int .i64 6] H = some (u32 (rotr x 6)) := turn_D x 6 (by decide) H
theorem turnD11 (x : UInt32) (H : List AObj) : callD (EV C) n_ref01_turn [u32 x, .int .i64 11] H = some (u32 (rotr x 11)) := turn_D x 11 (by decide) H
theorem turnD25 (x : UInt32) (H : List AObj) : callD (EV C) n_ref01_turn [u32 x, .int .i64 25] H = some (u32 (rotr x 25)) := turn_D x 25 (by decide) H
theorem turnD2 (x : UInt32) (H : List AObj) : callD (EV C) n_ref01_turn [u32 x, .int .i64 2] H = some (u32 (rotr x 2)) := turn_D x 2 (by decide) H
theorem turnD13 (x : UInt32) (H : List AObj) : callD (EV C) n_ref01_turn [u32 x, .int .i64 13] H = some (u32 (rotr x 13)) := turn_D x 13 (by decide) H
theorem turnD22 (x : UInt32) (H : List AObj) : callD (EV C) n_ref01_turn [u32 x, .int .i64 22] H = some (u32 (rotr x 22)) := turn_D x 22 (by decide) H
theorem turnD7 (x : UInt32) (H : List AObj) : callD (EV C) n_ref01_turn [u32 x, .int .i64 7] H = some (u32 (rotr x 7)) := turn_D x 7 (by decide) H
theorem turnD18 (x : UInt32) (H : List AObj) : callD (EV C) n_ref01_turn [u32 x, .int .i64 18] H = some (u32 (rotr x 18)) := turn_D x 18 (by decide) H
theorem turnD17 (x : UInt32) (H : List AObj) : callD (EV C) n_ref01_turn [u32 x, .int .i64 17] H = some (u32 (rotr x 17)) := turn_D x 17 (by decide) H
theorem turnD19 (x : UInt32) (H : List AObj) : callD (EV C) n_ref01_turn [u32 x, .int .i64 19] H = some (u32 (rotr x 19)) := turn_D x 19 (by decide) H
/-! ### Round -/
theorem bst {α β : Type} {a : Option α} {x : α} {f : α → Option β} {r : Option β} (h : a = some x) (h2 : f x = r) : a.bind f = r := by rw [h, Option.bind_some, h2]
theorem rRound_ok (v : V8) (k w : UInt32) : EV C n_ref01_Round [v.av, u32 k, u32 w] [] = some ((roundF v k w).av, [], []) := by
  refine ref01_Round_of ?_
  have a0 := arr 8 1 0 .i64 0 (by decide) 0 rfl
  have a1 := arr 8 1 0 .i64 1 (by decide) 1 rfl
  have a2 := arr 8 1 0 .i64 2 (by decide) 2 rfl
  have a3 := arr 8 1 0 .i64 3 (by decide) 3 rfl
  have a4 := arr 8 1 0 .i64 4 (by decide) 4 rfl
  have a5 := arr 8 1 0 .i64 5 (by decide) 5 rfl
  have a6 := arr 8 1 0 .i64 6 (by decide) 6 rfl
  have a7 := arr 8 1 0 .i64 7 (by decide) 7 rfl
  have l0 : ∀ T, loadA false 1 (.ptr 0 1 0 0) (.row 8 [v.av] :: T) = some (u32 v.a) := fun T => Eq.trans rfl rfl
  have l1 : ∀ T, loadA false 1 (.ptr 0 1 0 1) (.row 8 [v.av] :: T) = some (u32 v.b) := fun T => Eq.trans rfl rfl
  have l2 : ∀ T, loadA false 1 (.ptr 0 1 0 2) (.row 8 [v.av] :: T) = some (u32 v.c) := fun T => Eq.trans rfl rfl
  have l3 : ∀ T, loadA false 1 (.ptr 0 1 0 3) (.row 8 [v.av] :: T) = some (u32 v.d) := fun T => Eq.trans rfl rfl
  have l4 : ∀ T, loadA false 1 (.ptr 0 1 0 4) (.row 8 [v.av] :: T) = some (u32 v.e) := fun T => Eq.trans rfl rfl
  have l5 : ∀ T, loadA false 1 (.ptr 0 1 0 5) (.row 8 [v.av] :: T) = some (u32 v.f) := fun T => Eq.trans rfl rfl
  have l6 : ∀ T, loadA false 1 (.ptr 0 1 0 6) (.row 8 [v.av] :: T) = some (u32 v.g) := fun T => Eq.trans rfl rfl
  have l7 : ∀ T, loadA false 1 (.ptr 0 1 0 7) (.row 8 [v.av] :: T) = some (u32 v.h) := fun T => Eq.trans rfl rfl
  rw [List.length_nil]
  refine (new_v8 v _ _).trans ?_
  refine (new_v80 _ _).trans ?_
  rw [List.nil_append, List.singleton_append, List.length_nil, List.length_singleton]
  repeat first
    | with_reducible refine bst (add_w _ _ _ _ _) ?_
    | with_reducible refine bst (xor_w _ _ _ _ _) ?_
    | with_reducible refine bst (and_w _ _ _ _ _) ?_
    | with_reducible refine bst (not_w _) ?_
    | with_reducible refine bst (turnD6 _ _) ?_
    | with_reducible refine bst (turnD11 _ _) ?_
    | with_reducible refine bst (turnD25 _ _) ?_
    | with_reducible refine bst (turnD2 _ _) ?_
    | with_reducible refine bst (turnD13 _ _) ?_
    | with_reducible refine bst (turnD22 _ _) ?_
    | with_reducible refine bst a0 ?_
    | with_reducible refine bst (l0 _) ?_
    | with_reducible refine bst a1 ?_
    | with_reducible refine bst (l1 _) ?_
    | with_reducible refine bst a2 ?_
    | with_reducible refine bst (l2 _) ?_
    | with_reducible refine bst a3 ?_
    | with_reducible refine bst (l3 _) ?_
    | with_reducible refine bst a4 ?_
    | with_reducible refine bst (l4 _) ?_
    | with_reducible refine bst a5 ?_
    | with_reducible refine bst (l5 _) ?_
    | with_reducible refine bst a6 ?_
    | with_reducible refine bst (l6 _) ?_
    | with_reducible refine bst a7 ?_
    | with_reducible refine bst (l7 _) ?_
  refine (fill8 _ _ _ _ _ _ _ _ _).trans ?_
  refine (sto_v8 (v := V8.zero) (x := roundF v k w) (l := 1) rfl).trans ?_
  refine bst (ld_v8 (l := 1) (v := roundF v k w) rfl) ?_
  exact endB_good rfl
/-! ### Words -/
theorem shl_or (x : UInt32) (b : UInt8) : (256 : UInt32) * x + b.toUInt32 = x <<< 8 ||| b.toUInt32 := by
  apply UInt32.toNat.inj
  have hb := b.toNat_lt
  have hx := x.toNat_lt
  rw [UInt32.toNat_add, UInt32.toNat_mul, UInt32.toNat_or, UInt32.toNat_shiftLeft, UInt8.toNat_toUInt32]
  have e1 : (256 : UInt32).toNat = 256 := rfl
  have e2 : (8 : UInt32).toNat % 32 = 8 := rfl
  rw [e1, e2]
  have e3 : x.toNat <<< 8 % 2^32 = (x.toNat % 2^24) <<< 8 := by
    rw [Nat.shiftLeft_eq, Nat.shiftLeft_eq]; omega
  rw [e3, ← Nat.shiftLeft_add_eq_or_of_lt (by omega), Nat.shiftLeft_eq]
  omega
theorem mul_256 (d : TypeDesc) (c : TypeId → Bool) (b : Bool) (y : UInt32) : binA .mul d c b (.int .u32 256) (u32 y) = some (u32 ((256 : UInt32) * y)) := by
  have : (256 : Int) * (y.toNat : Int) = ((256 * y.toNat : Nat) : Int) := by omega
  simp only [u32, mul_int, this, wrap_w, UInt32.toNat_mul]
  rfl
theorem rw7_step {r : R3} {b : List UInt8} {t3 : AV} {H Ha : List AObj} {Ea E : List Nat} {i k : Nat} {x : UInt8} {y : UInt32} (hi : i < 16) (hk : k < 4) (hb : b[4 * i + k]? = some x)
    (h : ref01_Words_J7 0 Ha Ea (bys b) t3 (.int .i64 (i : Int)) (u32 (y <<< 8 ||| x.toUInt32)) (.int .i64 ((k + 1 : Nat) : Int)) H E = some r) :
    ref01_Words_J7 0 Ha Ea (bys b) t3 (.int .i64 (i : Int)) (u32 y) (.int .i64 (k : Int)) H E = some r := by
  refine ref01_Words_J7_of ?_
  have e1 : ((k : Int) < 4) := by omega
  have e2 : IntKind.i64.wrap (4 * (i : Int)) = ((4 * i : Nat) : Int) := w64 (by omega) (by omega)
  have e3 : IntKind.i64.wrap (((4 * i : Nat) : Int) + (k : Int)) = ((4 * i + k : Nat) : Int) := w64 (by omega) (by omega)
  have e4 : IntKind.i64.wrap ((k : Int) + 1) = ((k + 1 : Nat) : Int) := w64 (by omega) (by omega)
  simp only [lss_int, e1, decide_true, Option.bind_some, condK_t, mul_256, mul_int, e2, add_int, e3, ixA_bys hb, loadA_ip1, cv_w8, add_w, shl_or, e4]
  exact h
theorem litw {β : Type} (a : UInt32) (H : List AObj) (K : AV → List AObj → List Nat → Option β) : litK 1 1 (.int .u32 0) [(0, u32 a)] H K = K (.lst ([a].map u32)) H [] := Eq.trans rfl rfl
theorem vro_w {l : List UInt32} (h : 0 < l.length) : vro 1 (l.map u32) = .row 1 (l.map u32) := vro_cons (by cases l <;> simp at h ⊢)
theorem rw3_step {r : R3} {b : List UInt8} {ws : List UInt32} {E : List Nat} {i : Nat} {b0 b1 b2 b3 : UInt8} {tl : List UInt8} (hi : i < 16) (hw : ws.length = i) (hb : b.drop (4 * i) = b0 :: b1 :: b2 :: b3 :: tl)
    (h : ∀ E, ref01_Words_J3 0 (bys b) (.slc 0 0 (i + 1) (i + 1)) (.int .i64 ((i + 1 : Nat) : Int)) [vro 1 ((ws ++ [word b0 b1 b2 b3]).map u32)] E = some r) :
    ref01_Words_J3 0 (bys b) (.slc 0 0 i i) (.int .i64 (i : Int)) [vro 1 (ws.map u32)] E = some r := by
  have d : ∀ j, b[4 * i + j]? = (b0 :: b1 :: b2 :: b3 :: tl)[j]? := fun j => by rw [← hb, List.getElem?_drop]
  refine ref01_Words_J3_of ?_
  have e1 : ((i : Int) < 16) := by omega
  simp only [lss_int, e1, decide_true, Option.bind_some, condK_t]
  refine rw7_step (i := i) (k := 0) (y := 0) hi (by omega) (d 0) ?_
  refine rw7_step (i := i) (k := 1) hi (by omega) (d 1) ?_
  refine rw7_step (i := i) (k := 2) hi (by omega) (d 2) ?_
  refine rw7_step (i := i) (k := 3) hi (by omega) (d 3) ?_
  refine ref01_Words_J7_of ?_
  have e4 : IntKind.i64.wrap ((i : Int) + 1) = ((i + 1 : Nat) : Int) := w64 (by omega) (by omega)
  simp only [lss_int, show ¬ (((3 + 1 : Nat) : Int) < 4) from by decide, decide_false, Option.bind_some, condK_f, litw]
  rw [appK_vro (l := 0) (es := ws.map u32) (ys := [word b0 b1 b2 b3].map u32) rfl rfl (by simp [hw]) (lz_u32 _) (by decide) (by decide) (by decide) (by simp; omega)]
  simp only [List.length_map, List.length_singleton, List.set_cons_zero, ← List.map_append, add_int, Option.bind_some, e4]
  exact h _
theorem rw12_loop : ∀ (m i : Nat) (ws : List UInt32) (E : List Nat), ws.length = i → i + m = 64 → 16 ≤ i →
    ref01_Words_J12 0 (.slc 0 0 i i) (.int .i64 (i : Int)) [.row 1 (ws.map u32)] E = some (.lst ((extF m i ws).map u32), [], [])
  | 0, i, ws, E, hl, hm, h16 => by
    refine ref01_Words_J12_of ?_
    have e1 : ¬ ((i : Int) < 64) := by omega
    simp only [lss_int, e1, decide_false, Option.bind_some, condK_f, extF]
    exact endB_frz (frz_row rfl (by simp [hl]) (by simp)) (by simp [AV.good])
  | m + 1, i, ws, E, hl, hm, h16 => by
    refine ref01_Words_J12_of ?_
    have e1 : ((i : Int) < 64) := by omega
    have hl' : (ws.map u32).length = i := by simpa using hl
    have w15 : IntKind.i64.wrap ((i : Int) - 15) = ((i - 15 : Nat) : Int) := w64 (by omega) (by omega)
    have w2 : IntKind.i64.wrap ((i : Int) - 2) = ((i - 2 : Nat) : Int) := w64 (by omega) (by omega)
    have w16 : IntKind.i64.wrap ((i : Int) - 16) = ((i - 16 : Nat) : Int) := w64 (by omega) (by omega)
    have w7 : IntKind.i64.wrap ((i : Int) - 7) = ((i - 7 : Nat) : Int) := w64 (by omega) (by omega)
    have e3 : IntKind.i64.wrap ((i : Int) + 1) = ((i + 1 : Nat) : Int) := w64 (by omega) (by omega)
    have X : ∀ j : Nat, j < i → ixA 1 (.slc 0 0 i i) (.int .i64 (j : Int)) [.row 1 (ws.map u32)] = some (.ptr 0 i j 0) := fun j hj => ix_w rfl hl' hj _ rfl
    have L : ∀ j : Nat, j < i → loadA false 1 (.ptr 0 i j 0) [.row 1 (ws.map u32)] = some (u32 (ws.getD j 0)) := fun j hj => ld_w rfl hl' (mapu _ _ _ (getD_some (by omega))) rfl
    simp only [lss_int, e1, decide_true, Option.bind_some, condK_t, sub_int, w15, w2, w16, w7,
      X (i - 15) (by omega), X (i - 2) (by omega), X (i - 16) (by omega), X (i - 7) (by omega), L (i - 15) (by omega), L (i - 2) (by omega), L (i - 16) (by omega), L (i - 7) (by omega), turnD7, turnD18, turnD17, turnD19, xor_w, shr3, shr10, add_w, litD1w]
    rw [appK_row (l := 0) (es := ws.map u32) (ys := [nextW ws i].map u32) rfl rfl (by simp [hl]) (lz_u32 _) (by decide) (by decide) (by decide) (by simp; omega)]
    simp only [List.length_map, List.length_singleton, List.set_cons_zero, ← List.map_append, add_int, Option.bind_some, e3]
    rw [extF]
    exact rw12_loop m (i + 1) (ws ++ [nextW ws i]) _ (by simp [hl]) (by omega) (by omega)
theorem rw3_loop {b : List UInt8} (hb : b.length = 64) : ∀ (m i : Nat) (ws : List UInt32) (E : List Nat), i + m = 16 → ws.length = i → ws ++ words16 (b.drop (4 * i)) = words16 b →
    ref01_Words_J3 0 (bys b) (.slc 0 0 i i) (.int .i64 (i : Int)) [vro 1 (ws.map u32)] E = some (.lst ((wordsF b).map u32), [], [])
  | 0, i, ws, E, hi, hw, he => by
    refine ref01_Words_J3_of ?_
    obtain rfl : i = 16 := by omega
    rw [List.drop_eq_nil_of_le (by omega), words16, List.append_nil] at he
    · simp only [lss_int, show ¬ (((16 : Nat) : Int) < 16) from by decide, decide_false, Option.bind_some, condK_f]
      rw [vro_w (by omega)]
      subst he
      exact rw12_loop 48 16 (words16 b) E hw rfl (by omega)
    · intros; contradiction
  | m + 1, i, ws, E, hi, hw, he => by
    have hlen : (b.drop (4 * i)).length = 64 - 4 * i := by simp [hb]
    obtain ⟨b0, b1, b2, b3, tl, hc⟩ : ∃ b0 b1 b2 b3 tl, b.drop (4 * i) = b0 :: b1 :: b2 :: b3 :: tl := by
      rcases hx : b.drop (4 * i) with _ | ⟨b0, _ | ⟨b1, _ | ⟨b2, _ | ⟨b3, tl⟩⟩⟩⟩ <;> rw [hx] at hlen <;> simp at hlen
      · omega
      · omega
      · omega
      · omega
      · exact ⟨_, _, _, _, _, rfl⟩
    have ht : b.drop (4 * (i + 1)) = tl := by
      rw [show 4 * (i + 1) = 4 * i + 4 by omega, ← List.drop_drop, hc]; rfl
    refine rw3_step (by omega) hw hc fun E => ?_
    refine rw3_loop hb m (i + 1) _ E (by omega) (by simp [hw]) ?_
    rw [ht, ← he, hc, words16]; simp
theorem rWords_ok (b : List UInt8) (hb : b.length = 64) : EV C n_ref01_Words [bys b] [] = some (.lst ((wordsF b).map u32), [], []) := by
  refine ref01_Words_of ?_
  exact rw3_loop hb 16 0 [] [] rfl rfl (by simp)
/-! ### Step -/
def addFrom (vs : List UInt32) : Nat → Nat → List UInt32 → List UInt32
  | 0, _, xs => xs
  | m + 1, i, xs => addFrom vs m (i + 1) (xs.set i (xs.getD i 0 + vs.getD i 0))
theorem addFrom_eq (v x : V8) : addFrom v.ws 8 0 x.ws = (v.add x).ws := by
  simp [addFrom, V8.ws, V8.add, UInt32.add_comm]
theorem ld_w8 {H : List AObj} {l j : Nat} {xs : List UInt32} (h : H[l]? = some (.row 8 [.agg (xs.map u32)])) (hj : j < xs.length) : loadA false 1 (.ptr l 1 0 j) H = some (u32 (xs.getD j 0)) :=
  ld_fld h (mapu _ _ _ (getD_some hj))
theorem rs_j8 (o0 : AObj) (vs : List UInt32) (hv : vs.length = 8) : ∀ (m i : Nat) (xs : List UInt32) (E : List Nat), xs.length = 8 → i + m = 8 →
    ref01_Tables_Step_J8 0 (.ptr 1 1 0 0) (.ptr 2 1 0 0) (.ptr 3 1 0 0) (.int .i64 (i : Int)) [o0, .row 8 [.agg (vs.map u32)], .row 8 [V8.zero.av], .row 8 [.agg (xs.map u32)]] E = some (.agg ((addFrom vs m i xs).map u32), [], [])
  | 0, i, xs, E, hx, hi => by
    refine ref01_Tables_Step_J8_of ?_
    have e1 : ¬ ((i : Int) < 8) := by omega
    have l8 : (xs.map u32).length = 8 := by simpa using hx
    simp only [lss_int, e1, decide_false, Option.bind_some, condK_f, addFrom]
    rw [ld_agg (l := 3) (cs := xs.map u32) rfl l8]
    simp only [Option.bind_some]
    rw [show V8.zero.av = .agg (V8.zero.ws.map u32) from rfl, sto_agg (z := 8) (l := 2) (cs := V8.zero.ws.map u32) rfl rfl l8 (one_u32 xs)]
    rw [List.set_cons_succ, List.set_cons_succ, List.set_cons_zero, ld_agg (l := 2) (cs := xs.map u32) rfl l8]
    simp only [Option.bind_some]
    exact endB_good (by simp [AV.good])
  | m + 1, i, xs, E, hx, hi => by
    refine ref01_Tables_Step_J8_of ?_
    have e1 : ((i : Int) < 8) := by omega
    have e3 : IntKind.i64.wrap ((i : Int) + 1) = ((i + 1 : Nat) : Int) := w64 (by omega) (by omega)
    have A : ∀ l, arA 8 1 (.ptr l 1 0 0) (.int .i64 (i : Int)) = some (.ptr l 1 0 i) := fun l => by simp [arA]; omega
    have L3 := ld_w8 (H := [o0, .row 8 [.agg (vs.map u32)], .row 8 [V8.zero.av], .row 8 [.agg (xs.map u32)]]) (l := 3) (j := i) rfl (by omega)
    have L1 := ld_w8 (H := [o0, .row 8 [.agg (vs.map u32)], .row 8 [V8.zero.av], .row 8 [.agg (xs.map u32)]]) (l := 1) (j := i) rfl (by omega)
    simp only [lss_int, e1, decide_true, Option.bind_some, condK_t, A, L3, L1, add_w, add_int, e3]
    rw [sto_fld (l := 3) (cs := xs.map u32) rfl (by simp; omega) rfl rfl]
    simp only [List.set_cons_succ, List.set_cons_zero, setu, addFrom]
    exact rs_j8 o0 vs hv m (i + 1) _ _ (by simpa using hx) (by omega)
theorem rs_j4 (v0 : V8) (ws : List UInt32) (hl : ws.length = 64) : ∀ (m i : Nat) (v : V8) (E : List Nat), i + m = 64 →
    ref01_Tables_Step_J4 0 (.ptr 0 1 0 0) (.ptr 1 1 0 0) (.ptr 2 1 0 0) (.lst (ws.map u32)) (.ptr 3 1 0 0) (.int .i64 (i : Int)) [.row 9 [tabF], .row 8 [v0.av], .row 8 [V8.zero.av], .row 8 [v.av]] E = some ((v0.add (roundsF v (kCst.drop i) (ws.drop i))).av, [], [])
  | 0, i, v, E, hm => by
    refine ref01_Tables_Step_J4_of ?_
    have e1 : ¬ ((i : Int) < 64) := by omega
    simp only [lss_int, e1, decide_false, Option.bind_some, condK_f]
    have e : kCst.drop i = [] := List.drop_eq_nil_of_le (by rw [kl]; omega)
    have e' : roundsF v (kCst.drop i) (ws.drop i) = v := by rw [e]; cases ws.drop i <;> rfl
    rw [e']
    have := rs_j8 (.row 9 [tabF]) v0.ws rfl 8 0 v.ws E rfl rfl
    rw [addFrom_eq] at this
    exact this
  | m + 1, i, v, E, hm => by
    refine ref01_Tables_Step_J4_of ?_
    have e1 : ((i : Int) < 64) := by omega
    have e3 : IntKind.i64.wrap ((i : Int) + 1) = ((i + 1 : Nat) : Int) := w64 (by omega) (by omega)
    have hik : i < kCst.length := by rw [kl]; omega
    have hiw : i < ws.length := by omega
    have hk : kCst[i]? = some kCst[i] := List.getElem?_eq_getElem hik
    have hw : ws[i]? = some ws[i] := List.getElem?_eq_getElem hiw
    have dk : kCst.drop i = kCst[i] :: kCst.drop (i + 1) := List.drop_eq_getElem_cons hik
    have dw : ws.drop i = ws[i] :: ws.drop (i + 1) := List.drop_eq_getElem_cons hiw
    have L0 : ∀ T, loadA false 1 (.ptr 0 1 0 0) (.row 9 [tabF] :: T) = some (.lst (kCst.map u32)) := fun T => Eq.trans rfl rfl
    simp only [lss_int, e1, decide_true, Option.bind_some, condK_t, ld_v8 (H := [.row 9 [tabF], .row 8 [v0.av], .row 8 [V8.zero.av], .row 8 [v.av]]) (l := 3) rfl, offA_ptr, Nat.zero_add, L0, ixA_us hw, ixA_us hk, loadA_ip1,
      callD_ok (env := EV C) (g := n_ref01_Round) (args := [v.av, u32 kCst[i], u32 ws[i]]) rfl (rRound_ok v kCst[i] ws[i]),
      sto_v8 (H := [.row 9 [tabF], .row 8 [v0.av], .row 8 [V8.zero.av], .row 8 [v.av]]) (l := 3) rfl, List.set_cons_succ, List.set_cons_zero, add_int, e3]
    rw [dk, dw, roundsF]
    exact rs_j4 v0 ws hl m (i + 1) _ _ (by omega)
theorem rStep_ok (v : V8) (b : List UInt8) (hb : b.length = 64) : EV C n_ref01_Tables_Step [tabF, v.av, bys b] [] = some ((stepF v b).av, [], []) := by
  refine ref01_Tables_Step_of ?_
  have n1 : ∀ (H : List AObj) (K : AV → List AObj → List Nat → Option R3), newK tabF H K = K (.ptr H.length 1 0 0) (H ++ [.row 9 [tabF]]) [] := fun H K => new_agg (by simp [tabL]) rfl H K
  simp only [n1, new_v8, new_v80, List.length_nil, List.nil_append, List.length_singleton, List.cons_append, List.length_cons, Nat.reduceAdd]
  rw [callK_ok (by simp) (rWords_ok b hb)]
  rw [ld_v8 (H := [.row 9 [tabF], .row 8 [v.av], .row 8 [V8.zero.av]]) (l := 1) rfl]
  simp only [Option.bind_some, new_v80, List.length_cons, List.length_nil, Nat.reduceAdd, List.cons_append, List.nil_append]
  rw [sto_v8 (v := V8.zero) (l := 3) rfl]
  simp only [List.set_cons_succ, List.set_cons_zero]
  exact rs_j4 v (wordsF b) (Words_len b hb) 64 0 v _ rfl
end Go.Pm
