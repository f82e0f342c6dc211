/- A part of the proof: what the functions of the program answer, as plain lists and numbers. -/
import Derived.Test.YtahipmiaknbkoaaP7
import Derived.Test.YtahipmiaknbkoaaP20
namespace Go.Pm
open Go.Proofs
set_option linter.unusedVariables false
set_option linter.unusedSimpArgs false
theorem cutl_sub {b : List UInt8} {H : List AObj} {i j : Nat} (h1 : i ≤ j) (h2 : j ≤ b.length) : cutA 1 (lbys b) (some (.int .i64 (i : Int))) (some (.int .i64 (j : Int))) none H = some (lbys (sub b i j)) := cutA_lbys rfl rfl h1 h2
theorem cutl_from {b : List UInt8} {H : List AObj} {i : Nat} (h1 : i ≤ b.length) : cutA 1 (lbys b) (some (.int .i64 (i : Int))) none none H = some (lbys (sub b i b.length)) := cutA_lbys rfl rfl h1 (Nat.le_refl _)
theorem num_l (s : List UInt8) (h : 4 ≤ s.length) {H : List AObj} {K : AV → List AObj → List Nat → Option R3} : calXK (EV C) 12 n_wal_number [lbys s] H K = K (.int .u32 (numL s : Nat)) H [] :=
  calXK_12g (by simp [goodL]) (by simp only [erL, er_lbys]; exact wal_number_ok s h) rfl
theorem chk_l (a b : List UInt8) (h : a.length + b.length ≤ 2^46) {H : List AObj} {K : AV → List AObj → List Nat → Option R3} : calXK (EV C) 12 n_wal_check [lbys a, lbys b] H K = K (.int .u32 (crc (a ++ b))) H [] :=
  calXK_12g (by simp [goodL]) (by simp only [erL, er_lbys]; exact wal_check_ok a b h) rfl
theorem appDl (l : List UInt8) (h : l.length ≤ 2^46) (H : List AObj) : appD 1 1 (AV.emp none) (lbys l) H = some (bys l) := appD_fresh rfl (elemsA_lbys l H) (goodL_u8 l) (lz_u8 l) (by decide) (by decide) (by decide) (by simp; omega)
theorem Clone_byte_l (l : List UInt8) (h : l.length ≤ 2^46) : EV C n_Clone_byte [lbys l] [] = some (bys l, [], []) := by
  cases l with
  | nil =>
    refine clone_nilL (C0 := C0) (l := [n_Clone_byte, n_Clone_byte_r]) rfl rfl ?_ ?_
    · refine Clone_byte_of ?_
      show endB false false 0 .nils [] [] = _
      exact endB_frz (u := .lst []) rfl rfl
    · refine Clone_byte_of ?_
      show ((appD 1 1 (AV.emp none) (.emp (some false)) []).bind fun a2 => endB false false 0 a2 [] []) = _
      rw [show appD 1 1 (AV.emp none) (.emp (some false)) [] = some (.lst []) from rfl, Option.bind_some]
      exact endB_good rfl
  | cons x l =>
    rw [show lbys (x :: l) = .lnt (.lst (u8 x :: l.map u8)) from rfl, clone_consL (C0 := C0) (l := [n_Clone_byte, n_Clone_byte_r]) rfl rfl]
    refine Clone_byte_of ?_
    have e1 : binA .eql (.slice 5) (cmpT Try.prog) true (.lnt (.lst (u8 x :: l.map u8))) .nils = some (.bool false) := rfl
    simp only [e1, Option.bind_some, condK_f]
    rw [show AV.lnt (.lst (u8 x :: l.map u8)) = lbys (x :: l) from rfl, appDl (x :: l) h, Option.bind_some]
    exact endB_good (good_bys (x :: l))
theorem wal_scanl_loop (b : List UInt8) (hb : b.length < 2^40) : ∀ (m p : Nat) (out : List (List UInt8)) (E : List Nat), p ≤ b.length → b.length ≤ p + m → out.length ≤ p →
    wal_Scan_l_J3 0 (lbys b) (.slc 0 0 out.length out.length) (.int .i64 p) [vro 1 (out.map bys)] E = some (.tup [.lst ((out ++ (scanF b m p).1).map bys), .int .i64 ((scanF b m p).2 : Nat)], [], []) := by
  intro m
  induction m with
  | zero =>
    intro p out E h1 h2 h3
    refine wal_Scan_l_J3_of ?_
    have e1 : IntKind.i64.wrap ((b.length : Int) - (p : Int)) = ((b.length - p : Nat) : Int) := w64 (by omega) (by omega)
    have e2 : ¬ ((8 : Int) ≤ ((b.length - p : Nat) : Int)) := by omega
    simp only [lenV_lbys, Option.bind_some, sub_int, e1, geq_int, e2, decide_false, condK_f, scanF]
    rw [List.append_nil]
    exact endB_frz (frz_tup (frzL_cons (frz_vro (z := 1) rfl (List.length_map _).symm (goodL_bys _)) (frzL_cons rfl rfl))) (by simp)
  | succ m ih =>
    intro p out E h1 h2 h3
    have fin : ∀ (H : List AObj) (E : List Nat), H = [vro 1 (out.map bys)] → recAt b p = none → endB false false 0 (.tup [.slc 0 0 out.length out.length, .int .i64 p]) H E = some (.tup [.lst ((out ++ (scanF b (m + 1) p).1).map bys), .int .i64 ((scanF b (m + 1) p).2 : Nat)], [], []) := fun H E hH hr => by
      subst hH
      simp only [scanF, hr]
      rw [List.append_nil]
      exact endB_frz (frz_tup (frzL_cons (frz_vro (z := 1) rfl (List.length_map _).symm (goodL_bys _)) (frzL_cons rfl rfl))) (by simp)
    refine wal_Scan_l_J3_of ?_
    have e1 : IntKind.i64.wrap ((b.length : Int) - (p : Int)) = ((b.length - p : Nat) : Int) := w64 (by omega) (by omega)
    simp only [lenV_lbys, Option.bind_some, sub_int, e1, geq_int]
    rcases Nat.lt_or_ge b.length (p + 8) with hs | hs
    · have e2 : ¬ ((8 : Int) ≤ ((b.length - p : Nat) : Int)) := by omega
      simp only [e2, decide_false, condK_f]
      exact fin _ _ rfl (by unfold recAt; rw [if_neg (by omega)])
    · have e2 : ((8 : Int) ≤ ((b.length - p : Nat) : Int)) := by omega
      have a4 : IntKind.i64.wrap ((p : Int) + 4) = ((p + 4 : Nat) : Int) := w64 (by omega) (by omega)
      have a8 : IntKind.i64.wrap ((p : Int) + 8) = ((p + 8 : Nat) : Int) := w64 (by omega) (by omega)
      simp only [e2, decide_true, condK_t, add_int, a4, a8, Option.bind_some, cutl_sub (show p ≤ p + 4 by omega) (show p + 4 ≤ b.length by omega)]
      rw [num_l _ (by rw [sub_len (by omega)]; omega)]
      have hn32 := numL_lt (sub b p (p + 4))
      generalize hn : numL (sub b p (p + 4)) = n at hn32
      simp only [gtr_int, Option.bind_some, splitK_dec]
      split
      · rename_i hc
        refine fin _ _ rfl ?_
        unfold recAt
        rw [if_pos hs]; simp only [hn]; rw [if_neg (by omega)]
      · rename_i hc
        have c1 : IntKind.i64.wrap (n : Int) = (n : Int) := w64 rfl (by omega)
        have c2 : IntKind.i64.wrap (((b.length - p : Nat) : Int) - 8) = ((b.length - p - 8 : Nat) : Int) := w64 (by omega) (by omega)
        simp only [cvI_int, c1, lenV_lbys, Option.bind_some, sub_int, e1, c2, gtr_int, condK_dec]
        split
        · rename_i hd
          refine fin _ _ rfl ?_
          unfold recAt
          rw [if_pos hs]; simp only [hn]; rw [if_neg (by omega)]
        · rename_i hd
          have a8n : IntKind.i64.wrap (((p + 8 : Nat) : Int) + (n : Int)) = ((p + 8 + n : Nat) : Int) := w64 (by omega) (by omega)
          have s8n : IntKind.i64.wrap ((8 : Int) + (n : Int)) = ((8 + n : Nat) : Int) := w64 (by omega) (by omega)
          have s8m : IntKind.i64.wrap ((p : Int) + ((8 + n : Nat) : Int)) = ((p + 8 + n : Nat) : Int) := w64 (by omega) (by omega)
          have hrl : (sub b (p + 8) (p + 8 + n)).length = n := by rw [sub_len (by omega)]; omega
          simp only [add_int, a8, a8n, Option.bind_some, cutl_sub (show p + 8 ≤ p + 8 + n by omega) (show p + 8 + n ≤ b.length by omega), a4, cutl_from (show p + 4 ≤ b.length by omega)]
          rw [chk_l _ _ (by rw [hrl, sub_len (by omega)]; omega)]
          rw [num_l _ (by rw [sub_len (by omega)]; omega)]
          have hns : numL (sub b (p + 4) b.length) = numL (sub b (p + 4) (p + 8)) := numL_sub (by omega) (by omega)
          simp only [Option.bind_some, neq_int, hns]
          by_cases hq : crc (sub b p (p + 4) ++ sub b (p + 8) (p + 8 + n)) = numL (sub b (p + 4) (p + 8))
          · have hr : recAt b p = some (sub b (p + 8) (p + 8 + n)) := by
              unfold recAt
              rw [if_pos hs]; simp only [hn]; rw [if_pos (by omega), if_pos hq]
            have hq' : decide ((crc (sub b p (p + 4) ++ sub b (p + 8) (p + 8 + n)) : Int) = ((numL (sub b (p + 4) (p + 8)) : Nat) : Int)) = true := by simp [hq]
            simp only [hq', Bool.not_true, condK_f]
            rw [callK_ok (by simp [goodL]) (Clone_byte_l _ (by rw [hrl]; omega))]
            have hl : ∀ (v : AV) (H : List AObj) (K : AV → List AObj → List Nat → Option R3), litK 1 1 .nils [(0, bys (sub b (p + 8) (p + 8 + n)))] H K = K (.lst ([sub b (p + 8) (p + 8 + n)].map bys)) H [] := fun v H K => rfl
            rw [hl .bad]
            rw [appK_vro (n := out.length) (es := out.map bys) (ys := [sub b (p + 8) (p + 8 + n)].map bys) rfl rfl (List.length_map _).symm rfl (by decide) (by decide) (by decide) (by simp; omega)]
            simp only [cvI_int, c1, Option.bind_some, add_int, s8n, s8m]
            have := ih (p + 8 + n) (out ++ [sub b (p + 8) (p + 8 + n)]) ((if ([sub b (p + 8) (p + 8 + n)].map bys).isEmpty = true then [] else escs 0 ([sub b (p + 8) (p + 8 + n)].map bys)) ++ ([] ++ ([] ++ ([] ++ []))) ++ E) (by omega) (by omega) (by simp; omega)
            simp only [scanF, hr, hrl]
            rw [List.map_append, List.length_append] at this
            rw [show out ++ (sub b (p + 8) (p + 8 + n) :: (scanF b m (p + 8 + n)).1) = out ++ [sub b (p + 8) (p + 8 + n)] ++ (scanF b m (p + 8 + n)).1 by simp]
            exact this
          · have hq' : decide ((crc (sub b p (p + 4) ++ sub b (p + 8) (p + 8 + n)) : Int) = ((numL (sub b (p + 4) (p + 8)) : Nat) : Int)) = false := by simp; omega
            simp only [hq', Bool.not_false, condK_t]
            refine fin _ _ rfl ?_
            unfold recAt
            rw [if_pos hs]; simp only [hn]; rw [if_pos (by omega), if_neg hq]
theorem wal_Scan_l_ok (b : List UInt8) (hb : b.length < 2^40) : EV C n_wal_Scan_l [lbys b] [] = some (.tup [.lst ((scanF b b.length 0).1.map bys), .int .i64 ((scanF b b.length 0).2 : Nat)], [], []) := by
  refine wal_Scan_l_of ?_
  exact wal_scanl_loop b hb b.length 0 [] [] (by omega) (by omega) (by simp)
end Go.Pm
