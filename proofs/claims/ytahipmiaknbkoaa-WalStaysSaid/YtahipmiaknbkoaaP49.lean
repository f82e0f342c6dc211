/- A part of the proof: what the functions of the program answer, as plain lists and numbers. -/
import Derived.Test.YtahipmiaknbkoaaP7
import Derived.Test.YtahipmiaknbkoaaP21
import Derived.Test.YtahipmiaknbkoaaP32
import Derived.Test.YtahipmiaknbkoaaP41
import Derived.Test.YtahipmiaknbkoaaP42
import Derived.Test.YtahipmiaknbkoaaP44
import Derived.Test.YtahipmiaknbkoaaP46
import Derived.Test.YtahipmiaknbkoaaP48
namespace Go.Pm
open Go.Proofs
set_option linter.unusedVariables false
set_option linter.unusedSimpArgs false
theorem Wt.app {H : List AObj} {L D W : Nat} {d : Dk} (h : Wt H L D W d) (X : List AObj) : Wt (H ++ X) L D W d :=
  ⟨h.a.app X, by rw [List.getElem?_append_left (List.getElem?_eq_some_iff.1 h.w).1]; exact h.w, h.lt⟩
theorem cv_row {H : List AObj} {m n : Nat} {l : List UInt8} (h : H[m]? = some (.row 1 (l.map u8))) (hn : n = l.length) : cvL (.slc m 0 n n) H = some (.str ⟨l.toArray⟩) := by
  subst hn
  have e : elemsA (.slc m 0 l.length l.length) H = some (l.map u8) := by
    simp only [elemsA, h, List.length_map, if_true, List.drop_zero]; rw [List.take_of_length_le (by simp)]
  unfold cvL
  dsimp only
  rw [e, Option.bind_some, toBytes_u8]; rfl
theorem scan_short (b : List UInt8) : (scanF b b.length 0).1.length ≤ b.length := by
  obtain ⟨_, h2, _, h4⟩ := scan_len b b.length 0 (by omega)
  omega
variable {L D : Nat} {d : Dk} {r b : List UInt8}
theorem walStays_end {H : List AObj} {m : Nat} {E : List Nat} {t15 : AV} {k : Nat} (hb : b.length ≤ 3000) (ha : At H L D d) (ho : d.ok) (hon : d.off = false) (h0 : (openF d).1 = 0) (h1 : (openF d).2.1 = [r]) (hl : lenV t15 H = some (.int .i64 (k : Int))) :
    law16_WalStays_J18 0 (bys r) (bys b) (.bool true) (.ptr D 1 0 0) .nili (.bool true) t15 (.lst ((scanF b b.length 0).1.map bys)) (.int .i64 ((scanF b b.length 0).2 : Nat)) (.int .i64 (k : Int)) H E = some (.bool true, [], []) := by
  refine law16_WalStays_J18_of ?_
  rw [hl, Option.bind_some, lss_int, Option.bind_some, condK_dec, if_neg (by omega)]
  rw [callK_ok (by simp) (wal_Scan_ok b (by omega))]
  obtain ⟨H', W, g, k8⟩ := Open_K ho hon ha
  simp -implicitDefEqProofs only [extA_0, extA_1, Option.bind_some]
  rw [k8]
  unfold openV
  rw [if_pos h0, h1]
  simp -implicitDefEqProofs only [extA_0, extA_1, extA_2, Option.bind_some, splitK_t, nil_eql]
  rw [callD_ok (good_b2 _ _) (Same_ok _ _ (by have := scan_short b; omega))]
  simp -implicitDefEqProofs only [Option.bind_some, decide_true, splitK_t, eql_int]
  rw [show lenV (.lst ([r].map bys)) H' = some (.int .i64 1) from rfl, Option.bind_some]
  simp -implicitDefEqProofs only [Option.bind_some, decide_true, splitK_t, eql_int]
  rw [show ixA 1 (.lst ([r].map bys)) (.int .i64 0) H' = some (.ip [bys r]) from rfl, Option.bind_some, loadA_ip1, Option.bind_some, cvL_bys, Option.bind_some, Option.bind_some, eql_str, Option.bind_some, decide_eq_true rfl]
  exact endB_good rfl
theorem walStays_J18 (hb : b.length ≤ 3000) (ho : d.ok) (hon : d.off = false) (h0 : (openF d).1 = 0) (h1 : (openF d).2.1 = [r]) {N m : Nat} (hN : N < 2^40) : ∀ (k i : Nat) (H : List AObj) (E : List Nat) (es : List UInt8), i + k = N → es.length = N → Dt H L D m d es →
    law16_WalStays_J18 0 (bys r) (bys b) (.bool true) (.ptr D 1 0 0) .nili (.bool true) (.slc m 0 N N) (.lst ((scanF b b.length 0).1.map bys)) (.int .i64 ((scanF b b.length 0).2 : Nat)) (.int .i64 (i : Int)) H E = some (.bool true, [], [])
  | 0, i, H, E, es, hi, hes, hD => by
    obtain rfl : i = N := by omega
    exact walStays_end (m := m) hb hD.a ho hon h0 h1 (by simp [lenV, lenA, lenOf, hD.r, hes])
  | k + 1, i, H, E, es, hi, hes, hD => by
    refine law16_WalStays_J18_of ?_
    have e3 : IntKind.i64.wrap ((i : Int) + 1) = ((i + 1 : Nat) : Int) := w64 (by omega) (by omega)
    rw [show lenV (.slc m 0 N N) H = some (.int .i64 (N : Int)) from by simp [lenV, lenA, lenOf, hD.r, hes], Option.bind_some, lss_int, Option.bind_some, condK_dec, if_pos (by omega)]
    have hil : i < es.length := by omega
    obtain ⟨v, hv⟩ := add_u8 es[i]
    rw [ix_row hD.r (by rw [List.length_map]; exact hes) (by omega), Option.bind_some, ld_row hD.r hes hil, Option.bind_some, hv, Option.bind_some, Option.bind_some, sto_u8 hD.r hes hil, add_int, Option.bind_some, e3]
    exact walStays_J18 hb ho hon h0 h1 hN k (i + 1) _ _ (es.set i v) (by omega) (by rw [List.length_set]; exact hes) (hD.st i v)
theorem walStays_J12 (hb : b.length ≤ 3000) (ho : d.ok) (hon : d.off = false) (h0 : (openF d).1 = 0) (h1 : (openF d).2.1 = [r]) {N m : Nat} (hN : N < 2^40) : ∀ (k i : Nat) (H : List AObj) (E : List Nat) (es : List UInt8), i + k = N → es.length = N → Dt H L D m d es →
    law16_WalStays_J12 0 (bys r) (bys b) (.bool true) (.ptr D 1 0 0) (.slc m 0 N N) .nili (.bool true) (.int .i64 (i : Int)) H E = some (.bool true, [], [])
  | 0, i, H, E, es, hi, hes, hD => by
    refine law16_WalStays_J12_of ?_
    rw [show lenV (.slc m 0 N N) H = some (.int .i64 (N : Int)) from by simp [lenV, lenA, lenOf, hD.r, hes], Option.bind_some, lss_int, Option.bind_some, condK_dec, if_neg (by omega)]
    rw [show ∀ K : AV → List AObj → List Nat → Option R3, rawK 1 0 (.int .u8 0) [] H K = K (.slc H.length 0 0 0) (H ++ [.row 1 ([] : List AV)]) [] from fun _ => rfl]
    rw [appK_row (n := 0) (es := []) (ys := b.map u8) rfl (last_row H _) rfl (lz_u8 b) (by decide) (by decide) (by decide) (by rw [List.length_map]; simp; omega), esc_good (goodL_u8 b)]
    rw [set_last, List.nil_append, List.length_map, Nat.zero_add]
    have hl : lndWL (lnd (H ++ [.row 1 (b.map u8)]) 3) (H ++ [.row 1 (b.map u8)]) [.slc H.length 0 b.length b.length] = some [lbys b] := by
      simp only [lndWL, lnd_row (last_row H (.row 1 (b.map u8))) (goodL_u8 b) (List.length_map _).symm, Option.bind_some, Option.map_some]; rfl
    rw [calXK_13 hl (belL_good 0 _ (by simp [goodL])) (wal_Scan_l_ok b (by omega)) (by
      have : noLL ((scanF b b.length 0).1.map bys) = true := noLL_map noL_bys _
      simp only [AV.noL, noLL, this, Bool.and_self])]
    simp -implicitDefEqProofs only [extA_0, extA_1, Option.bind_some]
    have hD2 : Dt (H ++ [.row 1 (b.map u8)]) L D H.length d b := by
      have := hD.a.dl; have := hD.a.lt
      exact ⟨hD.a.app _, by simp, by omega, by omega⟩
    exact walStays_J18 hb ho hon h0 h1 (by omega) b.length 0 _ _ b (by omega) rfl hD2
  | k + 1, i, H, E, es, hi, hes, hD => by
    refine law16_WalStays_J12_of ?_
    have e3 : IntKind.i64.wrap ((i : Int) + 1) = ((i + 1 : Nat) : Int) := w64 (by omega) (by omega)
    rw [show lenV (.slc m 0 N N) H = some (.int .i64 (N : Int)) from by simp [lenV, lenA, lenOf, hD.r, hes], Option.bind_some, lss_int, Option.bind_some, condK_dec, if_pos (by omega)]
    have hil : i < es.length := by omega
    obtain ⟨v, hv⟩ := add_u8 es[i]
    rw [ix_row hD.r (by rw [List.length_map]; exact hes) (by omega), Option.bind_some, ld_row hD.r hes hil, Option.bind_some, hv, Option.bind_some, Option.bind_some, sto_u8 hD.r hes hil, add_int, Option.bind_some, e3]
    exact walStays_J12 hb ho hon h0 h1 hN k (i + 1) _ _ (es.set i v) (by omega) (by rw [List.length_set]; exact hes) (hD.st i v)
set_option maxHeartbeats 1000000 in
theorem WalStays_ok (r b : List UInt8) : EV C n_law16_WalStays [bys r, bys b] [] = some (.bool true, [], []) := by
  refine law16_WalStays_of ?_
  dsimp only
  have o0 := newD_ok (sz := 1048576) (by decide) (by decide)
  rw [callK_ok rfl law16_up_ok]
  simp -implicitDefEqProofs only [lenV_bys, Option.bind_some, gtr_int, splitK_dec, condK_dec]
  by_cases h1 : (3000 : Int) < (r.length : Int)
  · rw [if_pos h1]; exact endB_good rfl
  rw [if_neg h1]
  by_cases h2 : (3000 : Int) < (b.length : Int)
  · rw [if_pos h2]; exact endB_good rfl
  rw [if_neg h2]
  obtain ⟨H1, g1, k1⟩ := New_K 1048576 (by decide) (by decide) []
  obtain ⟨H2, W, g2, k2⟩ := Open_K o0 rfl g1
  rw [open_new] at g2 k2
  rw [k1]
  simp -implicitDefEqProofs only [extA_0, extA_1, extA_2, Option.bind_some, List.length_nil, Nat.zero_add] at k2 g2 ⊢
  rw [k2]
  unfold openV
  simp -implicitDefEqProofs only [extA_0, extA_1, extA_2, Option.bind_some, ptr_nil, nil_neq, splitK_f, condK_f, if_true, List.map_nil]
  rw [show ∀ H, lenV (.lst []) H = some (.int .i64 0) from fun _ => rfl, Option.bind_some, neq_int, Option.bind_some, show (!decide ((0 : Int) = 0)) = false from rfl, condK_f]
  rw [show ∀ K : AV → List AObj → List Nat → Option R3, rawK 1 0 (.int .u8 0) [] H2 K = K (.slc H2.length 0 0 0) (H2 ++ [.row 1 ([] : List AV)]) [] from fun _ => rfl]
  rw [appK_row (n := 0) (es := []) (ys := r.map u8) rfl (last_row H2 _) rfl (lz_u8 r) (by decide) (by decide) (by decide) (by rw [List.length_map]; simp; omega), esc_good (goodL_u8 r)]
  rw [set_last, List.nil_append, List.length_map, Nat.zero_add]
  rw [show ∀ (H : List AObj) (K : AV → List AObj → List Nat → Option R3), rawK 1 1 .nils [(0, .slc H2.length 0 r.length r.length)] H K = K (.slc H.length 0 1 1) (H ++ [.row 1 [.slc H2.length 0 r.length r.length]]) [] from fun _ _ => rfl]
  have g3 := (g2.app [.row 1 (r.map u8)]).app [.row 1 [.slc H2.length 0 r.length r.length]]
  have hm : ((H2 ++ [AObj.row 1 (r.map u8)]) ++ [AObj.row 1 [.slc H2.length 0 r.length r.length]])[H2.length]? = some (.row 1 (r.map u8)) := by
    rw [List.getElem?_append_left (by simp)]; exact last_row H2 _
  rw [callK_raw (Write_r o0 r (by omega) g3 (last_row _ _) hm rfl)]
  have q := write_first (d := newD 1048576) (ls := [r]) (n := 1) (new_free _ _) (by decide) rfl (by
    unfold longs; rw [List.any_eq_false]; intro x hx; simp at hx; subst hx
    rw [show longL x = false from decide_eq_false (by omega)]; simp) (by
    rw [show framesF [r] = frame r by simp [framesF], frame_len]; show _ ≤ (1048576 : Int); omega)
  obtain ⟨w1, w2, w3, w4⟩ := q
  have o1 := writeF_ok o0 [r]
  have hop := open_whole (a := [r]) w2 (by rw [w4, get_log1]) rfl (fun x hx => by simp at hx; subst hx; omega)
  have g4 := g3.pt (writeF (newD 1048576) [r]).2
  have hm4 : (pt ((H2 ++ [AObj.row 1 (r.map u8)]) ++ [AObj.row 1 [.slc H2.length 0 r.length r.length]]) 0 1 (writeF (newD 1048576) [r]).2)[H2.length]? = some (.row 1 (r.map u8)) := by
    have := g2.a.dl
    unfold pt
    rw [List.getElem?_set_ne (by omega), List.getElem?_set_ne (by omega)]
    exact hm
  have hne : H2.length ≠ 0 ∧ H2.length ≠ 1 := by have := g2.a.dl; omega
  generalize (writeF (newD 1048576) [r]).2 = d1 at *
  generalize pt ((H2 ++ [AObj.row 1 (r.map u8)]) ++ [AObj.row 1 [.slc H2.length 0 r.length r.length]]) 0 1 d1 = H4 at *
  simp -implicitDefEqProofs only [cv_row hm4 rfl, Option.bind_some, cvL_bys, eql_str, w1, er0]
  simp -implicitDefEqProofs only [decide_true]
  exact walStays_J12 (by omega) o1 w2.1 hop.1 hop.2 (by omega) r.length 0 _ _ r (by omega) rfl ⟨g4.a, hm4, hne.1, hne.2⟩
end Go.Pm
namespace Go.Pm
open Go.Proofs
set_option linter.unusedVariables false
set_option linter.unusedSimpArgs false
theorem C_I : ∀ f F a H r, C.I f = some F → F a H = some r → SpecR C.P C.G f a H r :=
  addI_ok roomF_ok (addI_ok sortF_ok (addI_ok isF_ok (clone_ok (C0 := C0) (fun f => rfl))))
theorem choose_map {α β : Type} {f : β → AV} {g : α → AV} : ∀ {l : List α}, (∀ a ∈ l, ∃ b, g a = f b) → ∃ l' : List β, l'.length = l.length ∧ l.map g = l'.map f
  | [], _ => ⟨[], rfl, rfl⟩
  | a :: l, h => by
    obtain ⟨b, hb⟩ := h a (by simp)
    obtain ⟨l', h1, h2⟩ := choose_map (l := l) fun x hx => h x (List.mem_cons_of_mem _ hx)
    exact ⟨b :: l', by simp [h1], by simp [hb, h2]⟩
theorem ty_int {B : Nat} {P : Program} {k : IntKind} {f : Nat} {cs : List AV} {t : TypeId} (ht : P.underlying t = some (.int k)) (h : tyC P B f t cs) : ∃ n, cs = [.int k n] ∧ k.min ≤ n ∧ n ≤ k.max := by
  cases f with
  | zero => simp [tyC] at h
  | succ f =>
    simp only [tyC, ht] at h
    obtain ⟨n, h1, h2, h3⟩ := h
    exact ⟨n, h1, h2, h3⟩
theorem ty_u8 {B : Nat} {P : Program} {f : Nat} {cs : List AV} {t : TypeId} (ht : P.underlying t = some (.int .u8)) (h : tyC P B f t cs) : ∃ b : UInt8, cs = [u8 b] := by
  obtain ⟨n, rfl, h1, h2⟩ := ty_int ht h
  refine ⟨UInt8.ofNat n.toNat, ?_⟩
  have a1 : IntKind.u8.min = 0 := rfl
  have a2 : IntKind.u8.max = 255 := rfl
  rw [a1] at h1; rw [a2] at h2
  rw [u8_nat]
  congr 2
  omega
theorem ty_slice {B : Nat} {P : Program} {α : Type} {g : α → AV} {f : Nat} {cs : List AV} {t e : TypeId} (ht : P.underlying t = some (.slice e)) (h : tyC P B f t cs) (hel : ∀ f cs, tyC P B f e cs → ∃ a, mkE (agT P e) cs = g a) :
    ∃ l : List α, cs = [.lst (l.map g)] ∧ l.length * P.bytesOf e ≤ B := by
  cases f with
  | zero => simp [tyC] at h
  | succ f =>
    simp only [tyC, ht] at h
    obtain ⟨ess, rfl, h1, h2⟩ := h
    obtain ⟨l, h3, h4⟩ := choose_map (f := g) (g := mkE (agT P e)) (l := ess) fun a ha => hel f a (h2 a ha).1
    exact ⟨l, by rw [h4], by rw [h3]; exact h1⟩
theorem agT_f {P : Program} {t : TypeId} {d : TypeDesc} (h : P.underlying t = some d) (hd : (match d with | .struct _ => true | .array _ _ => true | _ => false) = false) : agT P t = false := by
  unfold agT; rw [h]; cases d <;> simp at hd ⊢
variable {B : Nat} {f : Nat} {cs : List AV}
theorem ty_bytes (h : tyC Try.prog B f 22 cs) : ∃ l : List UInt8, cs = [bys l] ∧ l.length ≤ B := by
  obtain ⟨l, h1, h2⟩ := ty_slice (g := u8) Try.underlying22 h fun f cs h => by
    obtain ⟨b, rfl⟩ := ty_u8 Try.underlying5 h
    exact ⟨b, by rw [agT_f Try.underlying5 rfl]; rfl⟩
  rw [show Try.prog.bytesOf 5 = 1 from by kernel_rfl] at h2
  exact ⟨l, h1, by omega⟩
theorem ty_b {a : AV} (e : a = mkE (agT Try.prog 22) cs) (h : tyC Try.prog B f 22 cs) : ∃ l, a = bys l := by
  obtain ⟨l, rfl, _⟩ := ty_bytes h
  exact ⟨l, by rw [e, agT_f Try.underlying22 rfl]; rfl⟩
theorem walStays_law {B0 B1 : Nat} {a0 a1 : AV} {u0 u1 : Nat} {l0 l1 : List AV} (e0 : a0 = mkE (agT Try.prog 22) l0) (y0 : tyC Try.prog B0 u0 22 l0) (e1 : a1 = mkE (agT Try.prog 22) l1) (y1 : tyC Try.prog B1 u1 22 l1) : EV C n_law16_WalStays [a0, a1] [] = some (.bool true, [], []) := by
  obtain ⟨r, rfl⟩ := ty_b e0 y0
  obtain ⟨b, rfl⟩ := ty_b e1 y1
  exact WalStays_ok r b
end Go.Pm
