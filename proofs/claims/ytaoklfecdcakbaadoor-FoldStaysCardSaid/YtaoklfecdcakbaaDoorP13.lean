/- A part of the proof: what the functions of the program answer, as plain lists and numbers. -/
import Derived.Test.YtaoklfecdcakbaaDoorP12
namespace Go.Pm
open Go.Proofs
set_option linter.unusedVariables false
set_option linter.unusedSimpArgs false
theorem mk64 {β : Type} (H : List AObj) (K : AV → List AObj → List Nat → Option β) : mkK 1 4 (.int .u32 0) (.int .i64 64) (.int .i64 64) H K = K (.slc H.length 0 64 64) (H ++ [.row 1 ((List.replicate 64 (0 : UInt32)).map u32)]) [] := by
  have : makeA 1 4 (.int .u32 0) (.int .i64 64) (.int .i64 64) H = some (.slc H.length 0 64 64, H ++ [.row 1 ((List.replicate 64 (0 : UInt32)).map u32)], []) := by
    simp [makeA, u32, AV.cells, AV.one]
  unfold mkK; rw [this]; rfl
theorem ix_w {H : List AObj} {l n i : Nat} {k : IntKind} {es : List AV} (h : H[l]? = some (.row 1 es)) (hn : es.length = n) (hi : i < n) (j : Int) (hj : j = i) : ixA 1 (.slc l 0 n n) (.int k j) H = some (.ptr l n i 0) := by
  subst hj
  simp only [ixA, indexA, h]
  rw [if_pos ⟨by omega, by omega, hn, trivial⟩]
  simp
theorem ld_w {H : List AObj} {l n i : Nat} {es : List AV} {e : AV} (h : H[l]? = some (.row 1 es)) (hn : es.length = n) (hi : es[i]? = some e) (he : e.cells = [e]) : loadA false 1 (.ptr l n i 0) H = some e := by
  simp only [loadA, h, hi]
  rw [if_pos hn]
  simp [he, ldv]
theorem sto_w {β : Type} {H : List AObj} {l n i : Nat} {es : List AV} {e v : AV} {K : List AObj → List Nat → Option β} (h : H[l]? = some (.row 1 es)) (hn : es.length = n) (hi : es[i]? = some e) (he : ∀ cs, e ≠ .agg cs) (hv : v.cells = [v]) (h1 : v.one = true) (hg : v.good = true) :
    stoK 1 (.ptr l n i 0) v H K = K (H.set l (.row 1 (es.set i v))) [] := by
  have h2 : storeA 1 (.ptr l n i 0) v H = some (H.set l (.row 1 (es.set i v)), []) := by
    unfold storeA
    simp only [h, hi, hv]
    rw [if_pos ⟨hn, rfl, by simp [h1]⟩]
    have h3 : setC e 0 [v] = some v := by
      unfold setC
      split
      · exact absurd rfl (he _)
      · rfl
    simp only [Option.bind_some, h3, Option.map_some]
    rw [escs_good (by simp [hg])]
  unfold stoK; rw [h2]; rfl
theorem shl8 (d : TypeDesc) (c : TypeId → Bool) (b : Bool) (x : UInt32) : binA .shl d c b (u32 x) (.int .u64 8) = some (u32 (x <<< 8)) := shl_w d c b .u64 x 8 (by omega)
theorem shr3 (d : TypeDesc) (c : TypeId → Bool) (b : Bool) (x : UInt32) : binA .shr d c b (u32 x) (.int .u64 3) = some (u32 (x >>> 3)) := shr_w d c b .u64 x 3 (by omega)
theorem shr10 (d : TypeDesc) (c : TypeId → Bool) (b : Bool) (x : UInt32) : binA .shr d c b (u32 x) (.int .u64 10) = some (u32 (x >>> 10)) := shr_w d c b .u64 x 10 (by omega)
theorem quo4 (d : TypeDesc) (c : TypeId → Bool) (b : Bool) (i : Nat) (h : i < 2^62) : binA .quo d c b (.int .i64 (i : Int)) (.int .i64 4) = some (.int .i64 ((i / 4 : Nat) : Int)) := by
  have := quo_int d c b .i64 i 4 (by omega)
  rw [w64 rfl (by omega)] at this
  exact this
theorem mapu (ws : List UInt32) (i : Nat) (y : UInt32) (h : ws[i]? = some y) : (ws.map u32)[i]? = some (u32 y) := by simp [h]
theorem setu (ws : List UInt32) (i : Nat) (y : UInt32) : (ws.map u32).set i (u32 y) = (ws.set i y).map u32 := by simp
theorem w5_step {r : R3} {b : List UInt8} {ws : List UInt32} {i : Nat} {x : UInt8} {y : UInt32} {E : List Nat} (hi : i < 64) (hb : b[i]? = some x) (hw : ws[i / 4]? = some y) (hl : ws.length = 64)
    (h : sha_Words_J5 0 (.slc 0 0 64 64) (bys b) (.int .i64 64) (.int .i64 ((i + 1 : Nat) : Int)) [.row 1 ((ws.set (i / 4) (y <<< 8 ||| x.toUInt32)).map u32)] E = some r) :
    sha_Words_J5 0 (.slc 0 0 64 64) (bys b) (.int .i64 64) (.int .i64 (i : Int)) [.row 1 (ws.map u32)] E = some r := by
  refine sha_Words_J5_of ?_
  have e1 : ((i : Int) < 64) := by omega
  have e3 : IntKind.i64.wrap ((i : Int) + 1) = ((i + 1 : Nat) : Int) := w64 (by omega) (by omega)
  have hl' : (ws.map u32).length = 64 := by simpa using hl
  simp only [lss_int, e1, decide_true, Option.bind_some, condK_t, ixA_bys hb, loadA_ip1, quo4 _ _ _ i (by omega), ix_w (H := [.row 1 (ws.map u32)]) (l := 0) rfl hl' (show i / 4 < 64 by omega) _ rfl,
    ld_w (H := [.row 1 (ws.map u32)]) (l := 0) (e := u32 y) rfl hl' (mapu _ _ _ hw) rfl, shl8, cv_w8, or_w,
    sto_w (H := [.row 1 (ws.map u32)]) (l := 0) (e := u32 y) (v := u32 (y <<< 8 ||| x.toUInt32)) rfl hl' (mapu _ _ _ hw) (fun cs h => by simp [u32] at h) rfl rfl rfl, List.set_cons_zero, setu, add_int, e3, List.append_nil, List.nil_append]
  exact h
theorem w5_four {r : R3} {b : List UInt8} {done rest : List UInt32} {k : Nat} {b0 b1 b2 b3 : UInt8} {tl : List UInt8} {E : List Nat} (hk : k < 16) (hb : b.drop (4 * k) = b0 :: b1 :: b2 :: b3 :: tl) (hd : done.length = k) (hr : rest.length = 63 - k)
    (h : sha_Words_J5 0 (.slc 0 0 64 64) (bys b) (.int .i64 64) (.int .i64 ((4 * (k + 1) : Nat) : Int)) [.row 1 ((done ++ word b0 b1 b2 b3 :: rest).map u32)] E = some r) :
    sha_Words_J5 0 (.slc 0 0 64 64) (bys b) (.int .i64 64) (.int .i64 ((4 * k : Nat) : Int)) [.row 1 ((done ++ 0 :: rest).map u32)] E = some r := by
  have g : ∀ (y : UInt32), (done ++ y :: rest)[k]? = some y := fun y => by subst hd; simp
  have s : ∀ (y z : UInt32), (done ++ y :: rest).set k z = done ++ z :: rest := fun y z => by subst hd; simp
  have l : ∀ (y : UInt32), (done ++ y :: rest).length = 64 := fun y => by simp; omega
  have d : ∀ j, b[4 * k + j]? = (b0 :: b1 :: b2 :: b3 :: tl)[j]? := fun j => by rw [← hb, List.getElem?_drop]
  have q0 : (4 * k) / 4 = k := by omega
  have q1 : (4 * k + 1) / 4 = k := by omega
  have q2 : (4 * k + 2) / 4 = k := by omega
  have q3 : (4 * k + 3) / 4 = k := by omega
  refine w5_step (i := 4 * k) (x := b0) (y := 0) (by omega) (d 0) (by rw [q0]; exact g _) (l _) ?_
  rw [q0, s]
  refine w5_step (i := 4 * k + 1) (x := b1) (by omega) (d 1) (by rw [q1]; exact g _) (l _) ?_
  rw [q1, s]
  refine w5_step (i := 4 * k + 2) (x := b2) (by omega) (d 2) (by rw [q2]; exact g _) (l _) ?_
  rw [q2, s]
  refine w5_step (i := 4 * k + 3) (x := b3) (by omega) (d 3) (by rw [q3]; exact g _) (l _) ?_
  rw [q3, s]
  exact h
theorem words16_drop {b : List UInt8} (hb : b.length = 64) : ∀ (m k : Nat), k + m = 16 → ∃ l, l.length = m ∧ words16 (b.drop (4 * k)) = l ∧ (∀ r E done, done.length = k →
    sha_Words_J5 0 (.slc 0 0 64 64) (bys b) (.int .i64 64) (.int .i64 64) [.row 1 ((done ++ l ++ List.replicate 48 0).map u32)] E = some r →
    sha_Words_J5 0 (.slc 0 0 64 64) (bys b) (.int .i64 64) (.int .i64 ((4 * k : Nat) : Int)) [.row 1 ((done ++ List.replicate (64 - k) 0).map u32)] E = some r)
  | 0, k, h => by
    obtain rfl : k = 16 := by omega
    refine ⟨[], rfl, ?_, fun r E done hd hh => ?_⟩
    · rw [List.drop_eq_nil_of_le (by omega)]; rfl
    · simpa using hh
  | m + 1, k, h => by
    obtain ⟨l, h1, h2, h3⟩ := words16_drop hb m (k + 1) (by omega)
    have hlen : (b.drop (4 * k)).length = 64 - 4 * k := by simp [hb]
    obtain ⟨b0, b1, b2, b3, tl, hc⟩ : ∃ b0 b1 b2 b3 tl, b.drop (4 * k) = b0 :: b1 :: b2 :: b3 :: tl := by
      cases hx : b.drop (4 * k) with
      | nil => rw [hx] at hlen; simp at hlen; omega
      | cons b0 t => cases t with
        | nil => rw [hx] at hlen; simp at hlen; omega
        | cons b1 t => cases t with
          | nil => rw [hx] at hlen; simp at hlen; omega
          | cons b2 t => cases t with
            | nil => rw [hx] at hlen; simp at hlen; omega
            | cons b3 t => exact ⟨_, _, _, _, _, rfl⟩
    have ht : b.drop (4 * (k + 1)) = tl := by
      rw [show 4 * (k + 1) = 4 * k + 4 by omega, ← List.drop_drop, hc]; rfl
    refine ⟨word b0 b1 b2 b3 :: l, by simp [h1], by rw [hc, words16, ← ht, h2], fun r E done hd hh => ?_⟩
    rw [show 64 - k = (63 - k) + 1 by omega, List.replicate_succ]
    refine w5_four (by omega) hc hd (by simp) ?_
    have := h3 r E (done ++ [word b0 b1 b2 b3]) (by simp [hd]) (by simpa using hh)
    rw [show 63 - k = 64 - (k + 1) by omega]
    simpa using this
theorem words16_len {b : List UInt8} (hb : b.length = 64) : (words16 b).length = 16 := by
  obtain ⟨l, h1, h2, _⟩ := words16_drop hb 16 0 rfl
  simp only [Nat.mul_zero, List.drop_zero] at h2
  rw [h2, h1]
theorem getD_some {ws : List UInt32} {i : Nat} (h : i < ws.length) : ws[i]? = some (ws.getD i 0) := by
  simp [List.getElem?_eq_getElem h, List.getD_eq_getElem?_getD]
theorem w10_loop : ∀ (m i : Nat) (ws : List UInt32) (E : List Nat), ws.length = i → i + m = 64 → 16 ≤ i →
    sha_Words_J10 0 (.slc 0 0 64 64) (.int .i64 (i : Int)) [.row 1 ((ws ++ List.replicate m 0).map u32)] E = some (.tup [.lst ((extF m i ws).map u32), .nili], [], [])
  | 0, i, ws, E, hl, hm, h16 => by
    refine sha_Words_J10_of ?_
    have e1 : ¬ ((i : Int) < 64) := by omega
    simp only [lss_int, e1, decide_false, Option.bind_some, condK_f, List.replicate_zero, List.append_nil, extF]
    refine endB_frz (u := .tup [.lst (ws.map u32), .nili]) (frz_tup (frzL_cons (frz_row rfl (by simp; omega) (by simp)) (frzL_cons rfl rfl))) (by simp)
  | m + 1, i, ws, E, hl, hm, h16 => by
    refine sha_Words_J10_of ?_
    have e1 : ((i : Int) < 64) := by omega
    have g : ∀ j, j < i → ((ws ++ List.replicate (m + 1) 0).map u32)[j]? = some (u32 (ws.getD j 0)) := fun j hj => by
      refine mapu _ _ _ ?_
      rw [List.getElem?_append_left (by omega)]
      exact getD_some (by omega)
    have hl' : ((ws ++ List.replicate (m + 1) (0 : UInt32)).map u32).length = 64 := by simp; omega
    have w15 : IntKind.i64.wrap ((i : Int) - 15) = ((i - 15 : Nat) : Int) := w64 (by omega) (by omega)
    have w2 : IntKind.i64.wrap ((i : Int) - 2) = ((i - 2 : Nat) : Int) := w64 (by omega) (by omega)
    have w16 : IntKind.i64.wrap ((i : Int) - 16) = ((i - 16 : Nat) : Int) := w64 (by omega) (by omega)
    have w7 : IntKind.i64.wrap ((i : Int) - 7) = ((i - 7 : Nat) : Int) := w64 (by omega) (by omega)
    have e3 : IntKind.i64.wrap ((i : Int) + 1) = ((i + 1 : Nat) : Int) := w64 (by omega) (by omega)
    have X : ∀ j : Nat, j < 64 → ixA 1 (.slc 0 0 64 64) (.int .i64 (j : Int)) [.row 1 ((ws ++ List.replicate (m + 1) 0).map u32)] = some (.ptr 0 64 j 0) := fun j hj => ix_w rfl hl' hj _ rfl
    have L : ∀ j : Nat, j < i → loadA false 1 (.ptr 0 64 j 0) [.row 1 ((ws ++ List.replicate (m + 1) 0).map u32)] = some (u32 (ws.getD j 0)) := fun j hj => ld_w rfl hl' (g j hj) rfl
    have hz : ((ws ++ List.replicate (m + 1) 0).map u32)[i]? = some (u32 0) := mapu _ _ _ (by subst hl; simp)
    have S : ∀ (v : UInt32) (K : List AObj → List Nat → Option R3), stoK 1 (.ptr 0 64 i 0) (u32 v) [.row 1 ((ws ++ List.replicate (m + 1) 0).map u32)] K = K [.row 1 (((ws ++ [v]) ++ List.replicate m 0).map u32)] [] := fun v K => by
      rw [sto_w rfl hl' hz (fun cs h => by simp [u32] at h) rfl rfl rfl, setu]
      have : (ws ++ List.replicate (m + 1) 0).set i v = (ws ++ [v]) ++ List.replicate m 0 := by subst hl; simp [List.replicate_succ]
      rw [this]; rfl
    simp only [lss_int, e1, decide_true, Option.bind_some, condK_t, sub_int, w15, w2, w16, w7,
      X (i - 15) (by omega), X (i - 2) (by omega), X (i - 16) (by omega), X (i - 7) (by omega), X i (by omega), L (i - 15) (by omega), L (i - 2) (by omega), L (i - 16) (by omega), L (i - 7) (by omega), rotK7, rotK18, rotK17, rotK19, xor_w, shr3, shr10, add_w, S, add_int, e3, List.nil_append, List.append_nil]
    have := w10_loop m (i + 1) (ws ++ [nextW ws i]) E (by simp [hl]) (by omega) (by omega)
    rw [extF]
    exact this
theorem Words_ok (b : List UInt8) (hb : b.length = 64) : EV C n_sha_Words [bys b] [] = some (.tup [.lst ((wordsF b).map u32), .nili], [], []) := by
  refine sha_Words_of ?_
  have h64 : ((64 : Nat) : Int) = 64 := rfl
  simp only [lenV_bys, hb, h64, Option.bind_some, neq_int, decide_true, Bool.not_true, condK_f, mk64, List.length_nil, List.nil_append, List.append_nil]
  obtain ⟨l, h1, h2, h3⟩ := words16_drop hb 16 0 rfl
  refine h3 _ [] [] rfl ?_
  simp only [Nat.mul_zero, List.drop_zero] at h2
  subst h2
  refine sha_Words_J5_of ?_
  simp only [lss_int, Int.lt_irrefl, decide_false, Option.bind_some, condK_f, List.nil_append]
  exact w10_loop 48 16 (words16 b) [] h1 rfl (by omega)
theorem Words_len (b : List UInt8) (hb : b.length = 64) : (wordsF b).length = 64 := by
  have : ∀ (n i : Nat) (ws : List UInt32), (extF n i ws).length = ws.length + n := fun n => by
    induction n with
    | zero => intro i ws; simp [extF]
    | succ n ih => intro i ws; rw [extF, ih]; simp; omega
  rw [wordsF, this, words16_len hb]
theorem ip_cst {k : IntKind} {i : Nat} {x : UInt32} (h : kCst[i]? = some x) : ∃ r, arA 64 1 (.ip gl_constants) (.int k (i : Int)) = some (.ip (u32 x :: r)) := by
  have hi : i < 64 := (List.getElem?_eq_some_iff.1 h).1
  have e : gl_constants.drop i = u32 x :: gl_constants.drop (i + 1) := by
    have hi' : i < gl_constants.length := hi
    rw [List.drop_eq_getElem_cons hi']
    have : gl_constants[i]? = some (u32 x) := mapu kCst i x h
    rw [List.getElem?_eq_getElem hi', Option.some.injEq] at this
    rw [this]
  refine ⟨gl_constants.drop (i + 1), ?_⟩
  simp only [arA]
  rw [if_pos ⟨by omega, by omega⟩]
  simp only [Int.toNat_natCast, Nat.mul_one, offA_ip, e]
theorem lenV_us (l : List UInt32) (H : List AObj) : lenV (.lst (l.map u32)) H = some (.int .i64 l.length) := by simp
theorem ixA_us {l : List UInt32} {k : IntKind} {i : Nat} {a : UInt32} {H : List AObj} (h : l[i]? = some a) : ixA 1 (.lst (l.map u32)) (.int k i) H = some (.ip [u32 a]) :=
  ixA_lst (e := u32 a) (by omega) (by simp [h]) rfl
theorem kl : kCst.length = 64 := rfl
theorem s6_loop (v0 : V8) (ws : List UInt32) (hl : ws.length = 64) (r : R3) : ∀ (m i : Nat) (v : V8) (E : List Nat), i + m = 64 →
    (∀ E, sha_Step_J11 0 (.ptr 0 1 0 0) (.ptr 1 1 0 0) (.ptr 2 1 0 0) (.int .i64 0) [.row 8 [v0.av], .row 8 [V8.zero.av], .row 8 [(roundsF v (kCst.drop i) (ws.drop i)).av]] E = some r) →
    sha_Step_J6 0 (.ptr 0 1 0 0) (.ptr 1 1 0 0) (.ptr 2 1 0 0) (.lst (ws.map u32)) (.int .i64 64) (.int .i64 (i : Int)) [.row 8 [v0.av], .row 8 [V8.zero.av], .row 8 [v.av]] E = some r
  | 0, i, v, E, hm, h => by
    refine sha_Step_J6_of ?_
    have e1 : ¬ ((i : Int) < 64) := by omega
    simp only [lss_int, e1, decide_false, Option.bind_some, condK_f]
    have := h E
    have e : kCst.drop i = [] := List.drop_eq_nil_of_le (by rw [kl]; omega)
    rw [e] at this
    exact this
  | m + 1, i, v, E, hm, h => by
    refine sha_Step_J6_of ?_
    have e1 : ((i : Int) < 64) := by omega
    have e3 : IntKind.i64.wrap ((i : Int) + 1) = ((i + 1 : Nat) : Int) := w64 (by omega) (by omega)
    have hik : i < kCst.length := by rw [kl]; omega
    have hiw : i < ws.length := by omega
    have hk : kCst[i]? = some kCst[i] := List.getElem?_eq_getElem hik
    have hw : ws[i]? = some ws[i] := List.getElem?_eq_getElem hiw
    have dk : kCst.drop i = kCst[i] :: kCst.drop (i + 1) := List.drop_eq_getElem_cons hik
    have dw : ws.drop i = ws[i] :: ws.drop (i + 1) := List.drop_eq_getElem_cons hiw
    obtain ⟨rr, hr⟩ := ip_cst (k := .i64) hk
    simp only [lss_int, e1, decide_true, Option.bind_some, condK_t, ixA_us hw, loadA_ip1, hr, loadA_ipc, ld_v8 (H := [.row 8 [v0.av], .row 8 [V8.zero.av], .row 8 [v.av]]) (l := 2) rfl, callD_ok (env := EV C) (g := n_sha_Round) (args := [v.av, u32 kCst[i], u32 ws[i]]) rfl (Round_ok v kCst[i] ws[i]),
      sto_v8 (H := [.row 8 [v0.av], .row 8 [V8.zero.av], .row 8 [v.av]]) (l := 2) rfl, List.set_cons_succ, List.set_cons_zero, add_int, e3, List.nil_append, List.append_nil]
    refine s6_loop v0 ws hl r m (i + 1) _ E (by omega) fun E => ?_
    have := h E
    rw [dk, dw, roundsF] at this
    exact this
theorem ldc (cs : List AV) (T : List AObj) (j : Nat) : loadA false 1 (.ptr 0 1 0 j) (.row 8 [.agg cs] :: T) = ldv false 1 (cs.drop j) := Eq.trans rfl rfl
theorem ldc2 (o1 o2 : AObj) (cs : List AV) (T : List AObj) (j : Nat) : loadA false 1 (.ptr 2 1 0 j) (o1 :: o2 :: .row 8 [.agg cs] :: T) = ldv false 1 (cs.drop j) := Eq.trans rfl rfl
theorem ldg (cs : List AV) (T : List AObj) (h : cs.length = 8) : loadA true 8 (.ptr 0 1 0 0) (.row 8 [.agg cs] :: T) = some (.agg cs) := by
  have : loadA true 8 (.ptr 0 1 0 0) (.row 8 [.agg cs] :: T) = ldv true 8 cs := Eq.trans rfl rfl
  rw [this]; simp [ldv, h, List.take_of_length_le (Nat.le_of_eq h)]
theorem st8 {β : Type} {cs : List AV} (h : cs.length = 8) {j : Nat} (hj : j < 8) (x : UInt32) (T : List AObj) (K : List AObj → List Nat → Option β) : stoK 1 (.ptr 0 1 0 j) (u32 x) (.row 8 [.agg cs] :: T) K = K (.row 8 [.agg (cs.set j (u32 x))] :: T) [] := by
  have h2 : storeA 1 (.ptr 0 1 0 j) (u32 x) (.row 8 [.agg cs] :: T) = some (.row 8 [.agg (cs.set j (u32 x))] :: T, []) := by
    have e : (u32 x).cells = [u32 x] := rfl
    unfold storeA
    simp only [List.getElem?_cons_zero, List.length_singleton, e]
    rw [if_pos ⟨trivial, trivial, rfl⟩]
    have h3 : setC (.agg cs) j [u32 x] = some (.agg (cs.set j (u32 x))) := by
      simp only [setC, List.length_singleton]
      rw [if_pos (by omega), List.set_eq_take_append_cons_drop, if_pos (by omega)]
      simp
    simp only [Option.bind_some, h3, Option.map_some]
    rw [escs_good (by simp)]; rfl
  unfold stoK; rw [h2]; rfl
theorem j11 (v x : V8) (E : List Nat) : sha_Step_J11 0 (.ptr 0 1 0 0) (.ptr 1 1 0 0) (.ptr 2 1 0 0) (.int .i64 0) [.row 8 [v.av], .row 8 [V8.zero.av], .row 8 [x.av]] E = some (.tup [(v.add x).av, .nili], [], []) := by
  unfold V8.av
  refine sha_Step_J11_of ?_
  have a0 := fun (l : Nat) => arr 8 1 l .i64 0 (by decide) 0 rfl
  have w0 : IntKind.i64.wrap (0 + 1) = 1 := by decide
  simp only [lss_int, show ((0 : Int) < 8) from by decide, decide_true, Option.bind_some, condK_t, a0, ldc, ldc2, List.drop_succ_cons, List.drop_zero, ldv1, add_w, add_int, w0, List.nil_append, List.append_nil]
  rw [st8 rfl (by decide)]
  simp only [List.set_cons_succ, List.set_cons_zero, List.nil_append]
  refine sha_Step_J11_of ?_
  have a1 := fun (l : Nat) => arr 8 1 l .i64 1 (by decide) 1 rfl
  have w1 : IntKind.i64.wrap (1 + 1) = 2 := by decide
  simp only [lss_int, show ((1 : Int) < 8) from by decide, decide_true, Option.bind_some, condK_t, a1, ldc, ldc2, List.drop_succ_cons, List.drop_zero, ldv1, add_w, add_int, w1, List.nil_append, List.append_nil]
  rw [st8 rfl (by decide)]
  simp only [List.set_cons_succ, List.set_cons_zero, List.nil_append]
  refine sha_Step_J11_of ?_
  have a2 := fun (l : Nat) => arr 8 1 l .i64 2 (by decide) 2 rfl
  have w2 : IntKind.i64.wrap (2 + 1) = 3 := by decide
  simp only [lss_int, show ((2 : Int) < 8) from by decide, decide_true, Option.bind_some, condK_t, a2, ldc, ldc2, List.drop_succ_cons, List.drop_zero, ldv1, add_w, add_int, w2, List.nil_append, List.append_nil]
  rw [st8 rfl (by decide)]
  simp only [List.set_cons_succ, List.set_cons_zero, List.nil_append]
  refine sha_Step_J11_of ?_
  have a3 := fun (l : Nat) => arr 8 1 l .i64 3 (by decide) 3 rfl
  have w3 : IntKind.i64.wrap (3 + 1) = 4 := by decide
  simp only [lss_int, show ((3 : Int) < 8) from by decide, decide_true, Option.bind_some, condK_t, a3, ldc, ldc2, List.drop_succ_cons, List.drop_zero, ldv1, add_w, add_int, w3, List.nil_append, List.append_nil]
  rw [st8 rfl (by decide)]
  simp only [List.set_cons_succ, List.set_cons_zero, List.nil_append]
  refine sha_Step_J11_of ?_
  have a4 := fun (l : Nat) => arr 8 1 l .i64 4 (by decide) 4 rfl
  have w4 : IntKind.i64.wrap (4 + 1) = 5 := by decide
  simp only [lss_int, show ((4 : Int) < 8) from by decide, decide_true, Option.bind_some, condK_t, a4, ldc, ldc2, List.drop_succ_cons, List.drop_zero, ldv1, add_w, add_int, w4, List.nil_append, List.append_nil]
  rw [st8 rfl (by decide)]
  simp only [List.set_cons_succ, List.set_cons_zero, List.nil_append]
  refine sha_Step_J11_of ?_
  have a5 := fun (l : Nat) => arr 8 1 l .i64 5 (by decide) 5 rfl
  have w5 : IntKind.i64.wrap (5 + 1) = 6 := by decide
  simp only [lss_int, show ((5 : Int) < 8) from by decide, decide_true, Option.bind_some, condK_t, a5, ldc, ldc2, List.drop_succ_cons, List.drop_zero, ldv1, add_w, add_int, w5, List.nil_append, List.append_nil]
  rw [st8 rfl (by decide)]
  simp only [List.set_cons_succ, List.set_cons_zero, List.nil_append]
  refine sha_Step_J11_of ?_
  have a6 := fun (l : Nat) => arr 8 1 l .i64 6 (by decide) 6 rfl
  have w6 : IntKind.i64.wrap (6 + 1) = 7 := by decide
  simp only [lss_int, show ((6 : Int) < 8) from by decide, decide_true, Option.bind_some, condK_t, a6, ldc, ldc2, List.drop_succ_cons, List.drop_zero, ldv1, add_w, add_int, w6, List.nil_append, List.append_nil]
  rw [st8 rfl (by decide)]
  simp only [List.set_cons_succ, List.set_cons_zero, List.nil_append]
  refine sha_Step_J11_of ?_
  have a7 := fun (l : Nat) => arr 8 1 l .i64 7 (by decide) 7 rfl
  have w7 : IntKind.i64.wrap (7 + 1) = 8 := by decide
  simp only [lss_int, show ((7 : Int) < 8) from by decide, decide_true, Option.bind_some, condK_t, a7, ldc, ldc2, List.drop_succ_cons, List.drop_zero, ldv1, add_w, add_int, w7, List.nil_append, List.append_nil]
  rw [st8 rfl (by decide)]
  simp only [List.set_cons_succ, List.set_cons_zero, List.nil_append]
  refine sha_Step_J11_of ?_
  simp only [lss_int, Int.lt_irrefl, decide_false, Option.bind_some, condK_f]
  rw [ldg _ _ rfl]
  simp only [Option.bind_some]
  have e := agg8 (v.a + x.a) (v.b + x.b) (v.c + x.c) (v.d + x.d) (v.e + x.e) (v.f + x.f) (v.g + x.g) (v.h + x.h)
  rw [e, sto_v8 (l := 1) rfl]
  rw [ld_v8 (l := 1) rfl]
  exact endB_good rfl
theorem Step_ok (v : V8) (b : List UInt8) (hb : b.length = 64) : EV C n_sha_Step [v.av, bys b] [] = some (.tup [(stepF v b).av, .nili], [], []) := by
  refine sha_Step_of ?_
  simp only [List.length_nil, new_v8, new_v80, List.nil_append, List.cons_append, List.length_singleton, List.append_nil]
  rw [callK_ok (by simp) (Words_ok b hb)]
  simp only [extA_0, extA_1, Option.bind_some]
  rw [show ∀ c, binA .neq (Go.TypeDesc.interface #[("Error", 202)]) c true .nili .nili = some (.bool false) from fun c => rfl]
  simp only [Option.bind_some, condK_f]
  rw [ld_v8 (l := 0) rfl]
  simp only [Option.bind_some, List.length_cons, List.length_nil, Nat.reduceAdd]
  rw [sto_v8 (v := V8.zero) (l := 2) rfl]
  simp only [List.set_cons_succ, List.set_cons_zero, lenV_us, Words_len b hb, Option.bind_some, List.nil_append]
  exact s6_loop v (wordsF b) (Words_len b hb) _ 64 0 v [] rfl fun E => j11 v _ E
end Go.Pm
