/- A part of the proof: what the functions of the program answer, as plain lists and numbers. -/
import Derived.Test.YtdihhoglamkfkaaQ6
import Derived.Test.YtdihhoglamkfkaaPm32
namespace Go.Pm
open Go.Proofs
set_option linter.unusedVariables false
set_option linter.unusedSimpArgs false
theorem ref16_same_loop (ls : List (List UInt8)) (hl : ls.length < 2^62) : ∀ (m i : Nat) (E : List Nat), i + m = ls.length →
    ref16_Same_J4 0 (.lst (ls.map bys)) (.lst (ls.map bys)) (.int .i64 i) [] E = some (.bool true, [], []) := by
  intro m
  have hlen : ∀ H, lenV (.lst (ls.map bys)) H = some (.int .i64 ls.length) := fun H => by simp
  induction m with
  | zero =>
    intro i E h
    refine ref16_Same_J4_of ?_
    have e1 : ¬ ((i : Int) < (ls.length : Int)) := by omega
    simp only [hlen, Option.bind_some, lss_int, e1, decide_false, condK_f]
    exact endB_good rfl
  | succ m ih =>
    intro i E h
    refine ref16_Same_J4_of ?_
    have hi : i < ls.length := by omega
    have e1 : ((i : Int) < (ls.length : Int)) := by omega
    have e3 : IntKind.i64.wrap ((i : Int) + 1) = ((i + 1 : Nat) : Int) := w64 (by omega) (by omega)
    simp only [hlen, Option.bind_some, lss_int, e1, decide_true, condK_t, ixA_map (f := bys) (fun _ => rfl) (List.getElem?_eq_getElem hi), loadA_ip1, cvL_bys, neq_str, Bool.not_true, condK_f, add_int, e3]
    exact ih (i + 1) E (by omega)
theorem ref16_Same_ok (ls : List (List UInt8)) (hl : ls.length < 2^62) : EV C n_ref16_Same [.lst (ls.map bys), .lst (ls.map bys)] [] = some (.bool true, [], []) := by
  refine ref16_Same_of ?_
  have hlen : ∀ H, lenV (.lst (ls.map bys)) H = some (.int .i64 ls.length) := fun H => by simp
  simp only [hlen, Option.bind_some, neq_int, decide_true, Bool.not_true, condK_f]
  exact ref16_same_loop ls hl ls.length 0 [] (by omega)
theorem frame_len (l : List UInt8) : (frame l).length = 8 + l.length := by simp [frame, fourL]; omega
theorem law16_up_ok : EV C n_law16_up [] [] = some (.bool true, [], []) := by
  refine law16_up_of ?_
  simp only [List.length_nil]
  rw [callK_frz (bs := [bys []]) rfl rfl (wal_Frame_ok [] (by decide))]
  have e1 : ∀ (K : AV → List AObj → List Nat → Option R3), rawK 1 9 (.int .u8 0) [(0, (.int .u8 49)), (1, (.int .u8 50)), (2, (.int .u8 51)), (3, (.int .u8 52)), (4, (.int .u8 53)), (5, (.int .u8 54)), (6, (.int .u8 55)), (7, (.int .u8 56)), (8, (.int .u8 57))] [] K = K (.slc 0 0 9 9) [.row 1 (([49, 50, 51, 52, 53, 54, 55, 56, 57] : List UInt8).map u8)] [] := fun K => rfl
  have e2 : cvR (.slc 0 0 9 9) [.row 1 (([49, 50, 51, 52, 53, 54, 55, 56, 57] : List UInt8).map u8)] = some (.slc 0 0 9 9) := rfl
  simp only [extA_0, extA_1, Option.bind_some, killsL, kills, List.append_nil, killAll, e1, e2]
  rw [callK_frz (bs := [bys [49, 50, 51, 52, 53, 54, 55, 56, 57]]) rfl (by simp) (wal_Sum_ok _ (by decide))]
  have e3 : crc [49, 50, 51, 52, 53, 54, 55, 56, 57] = 3808858755 := by kernel_rfl
  rw [e3]
  have e4 : decide (((3808858755 : Nat) : Int) = 3808858755) = true := by decide
  have e5 : decide (((8 + ([] : List UInt8).length : Nat) : Int) = 8) = true := by decide
  simp only [eql_int, Option.bind_some, nili_eq, lenV_bys, frame_len, e4, e5, splitK_t]
  exact endB_good rfl
theorem scans_ok (l : List UInt8) : EV C n_law16_WalScans [bys l] [] = some (.bool true, [], []) := by
  refine law16_WalScans_of ?_
  simp only [List.length_nil]
  rw [callK_ok rfl law16_up_ok]
  simp only [lenV_bys, Option.bind_some, gtr_int, condK_dec]
  have main : ∀ (b : List UInt8), b.length ≤ 20000 → (callK (EV C) false n_wal_Scan [bys b] [] fun a5 H5 E5 =>
      (extA a5 0).bind fun a6 => (extA a5 1).bind fun a7 => callK (EV C) false n_ref16_Scan [bys b] H5 fun a8 H8 E8 =>
      (extA a8 0).bind fun a9 => (extA a8 1).bind fun a10 => callK (EV C) false n_wal_Frame [bys b] H8 fun a11 H11 E11 =>
      (extA a11 0).bind fun a12 => (extA a11 1).bind fun a13 => splitK (.bool true)
      ((callD (EV C) n_wal_Sum [bys b] H11).bind fun a14 =>
      (callD (EV C) n_ref16_Sum [bys b] H11).bind fun a15 =>
      (binA .eql (Go.TypeDesc.int Go.IntKind.u32) (cmpT Try.prog) false a14 a15).bind fun a16 =>
      splitK a16
        ((callD (EV C) n_ref16_Same [a6, a9] H11).bind fun a17 =>
        splitK a17
          ((binA .eql (Go.TypeDesc.int Go.IntKind.i64) (cmpT Try.prog) false a7 a10).bind fun a18 =>
          splitK a18
            ((binA .eql (Go.TypeDesc.interface #[("Error", 88)]) (cmpT Try.prog) true a13 .nili).bind fun a19 =>
            splitK a19
              ((cvL a12 H11).bind fun a20 =>
              (callD (EV C) n_ref16_Frame [bys b] H11).bind fun a21 =>
              (cvL a21 H11).bind fun a22 =>
              (binA .eql Go.TypeDesc.string (cmpT Try.prog) false a20 a22).bind fun a23 =>
              endB false false 0 a23 H11 (E11 ++ (E8 ++ (E5 ++ ([] ++ [])))))
              (endB false false 0 (.bool false) H11 (E11 ++ (E8 ++ (E5 ++ ([] ++ []))))))
            (endB false false 0 (.bool false) H11 (E11 ++ (E8 ++ (E5 ++ ([] ++ []))))))
          (endB false false 0 (.bool false) H11 (E11 ++ (E8 ++ (E5 ++ ([] ++ []))))))
        (endB false false 0 (.bool false) H11 (E11 ++ (E8 ++ (E5 ++ ([] ++ []))))))
      (endB false false 0 (.bool false) H11 (E11 ++ (E8 ++ (E5 ++ ([] ++ [])))))) = some (.bool true, [], []) := fun b hb => by
    rw [callK_ok (by simp) (wal_Scan_ok b (by omega))]
    simp only [extA_0, extA_1, Option.bind_some]
    rw [callK_ok (by simp) (ref16_Scan_ok b (by omega))]
    simp only [extA_0, extA_1, Option.bind_some]
    rw [callK_ok (by simp) (wal_Frame_ok b (by omega))]
    simp only [extA_0, extA_1, Option.bind_some, splitK_t]
    have hlen : ∀ (m p : Nat), (scanF b m p).1.length ≤ m := fun m => by
      induction m with
      | zero => intro p; simp [scanF]
      | succ m ih =>
        intro p
        simp only [scanF]
        split
        · simp
        · have := ih (p + 8 + (by assumption : List UInt8).length)
          simp only [List.length_cons]; omega
    rw [callD_ok (by simp) (wal_Sum_ok b (by omega)), callD_ok (by simp) (ref16_Sum_ok b (by omega)), callD_ok (by simp) (ref16_Same_ok _ (by have := hlen b.length 0; omega)), callD_ok (by simp) (ref16_Frame_ok b (by omega))]
    simp only [Option.bind_some, eql_int, decide_true, splitK_t, nili_eq, cvL_bys, eql_str]
    exact endB_good rfl
  split
  · rename_i h
    have hc : cutA 1 (bys l) none (some (.int .i64 20000)) none [] = some (bys (sub l 0 20000)) := cutA_bys (i := 0) (j := 20000) rfl rfl (by omega) (by omega)
    rw [hc]
    exact main _ (by rw [sub_len (by omega)]; omega)
  · rename_i h
    exact main _ (by omega)
theorem C_I : ∀ f F a H r, C.I f = some F → F a H = some r → SpecR C.P C.G f a H r := clone_ok (C0 := C0) (fun f => rfl)
/-- cells of bytes -/
theorem ty_u8 {f : Nat} {cs : List AV} {t : TypeId} (ht : Try.prog.underlying t = some (.int .u8)) (h : tyC Try.prog f t cs) : ∃ b : UInt8, mkE false cs = u8 b := by
  cases f with
  | zero => simp [tyC] at h
  | succ f =>
    simp only [tyC, ht] at h
    obtain ⟨n, rfl, h1, h2⟩ := h
    refine ⟨UInt8.ofNat n.toNat, ?_⟩
    have a1 : IntKind.u8.min = 0 := rfl
    have a2 : IntKind.u8.max = 255 := rfl
    rw [a1] at h1; rw [a2] at h2
    rw [u8_nat]
    simp only [mkE, Bool.false_eq_true, if_false, List.headD_cons]
    congr 1
    omega
theorem choose_map {α β : Type} {f : β → AV} {g : α → AV} : ∀ {l : List α}, (∀ a ∈ l, ∃ b, g a = f b) → ∃ l' : List β, l'.length = l.length ∧ l.map g = l'.map f
  | [], _ => ⟨[], rfl, rfl⟩
  | a :: l, h => by
    obtain ⟨b, hb⟩ := h a (by simp)
    obtain ⟨l', h1, h2⟩ := choose_map (l := l) fun x hx => h x (List.mem_cons_of_mem _ hx)
    exact ⟨b :: l', by simp [h1], by simp [hb, h2]⟩
theorem ty_bytes {f : Nat} {cs : List AV} {t e : TypeId} (ht : Try.prog.underlying t = some (.slice e)) (he : Try.prog.underlying e = some (.int .u8)) (h : tyC Try.prog f t cs) : ∃ l : List UInt8, cs = [bys l] ∧ l.length ≤ maxLen := by
  cases f with
  | zero => simp [tyC] at h
  | succ f =>
    simp only [tyC, ht] at h
    obtain ⟨ess, rfl, h1, h2⟩ := h
    have ha : agT Try.prog e = false := by unfold agT; rw [he]
    obtain ⟨l, h3, h4⟩ := choose_map (f := u8) (g := mkE (agT Try.prog e)) (l := ess) fun a ha' => by rw [ha]; exact ty_u8 he (h2 a ha').1
    exact ⟨l, by rw [h4]; rfl, by rw [h3]; exact h1⟩
theorem scans_law {a : AV} {f : Nat} {l : List AV} (e : a = mkE (agT Try.prog 22) l) (h : tyC Try.prog f 22 l) : EV C n_law16_WalScans [a] [] = some (.bool true, [], []) := by
  obtain ⟨b, rfl, _⟩ := ty_bytes Try.underlying22 Try.underlying5 h
  subst e
  have : agT Try.prog 22 = false := by unfold agT; rw [Try.underlying22]
  rw [this]
  exact scans_ok b
end Go.Pm
