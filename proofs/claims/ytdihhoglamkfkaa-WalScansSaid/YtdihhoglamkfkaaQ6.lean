/- A part of the proof: what the functions of the program answer, as plain lists and numbers. -/
import Derived.Test.YtdihhoglamkfkaaQ5
namespace Go.Pm
open Go.Proofs
set_option linter.unusedVariables false
set_option linter.unusedSimpArgs false
theorem frzK_ok {β : Type} {v u : AV} {H : List AObj} {K : AV → List AObj → Option β} (h : frz H v = some u) : frzK v H K = K u (killAll H (kills v)) := by unfold frzK; rw [h]; rfl
theorem condB_t {β : Type} {b : Bool} {x : Option β} (h : b = true) : condB b x = x := by subst h; rfl
theorem ref_scan_loop (b : List UInt8) (hb : b.length < 2^40) : ∀ (m p : Nat) (out : List (List UInt8)) (E : List Nat), p ≤ b.length → b.length ≤ p + m → out.length ≤ p →
    ref16_Scan_J3 0 (bys b) (.slc 0 0 out.length out.length) (.int .i64 p) [vro 1 (out.map bys)] E = some (.tup [.lst ((out ++ (scanF b m p).1).map bys), .int .i64 ((scanF b m p).2 : Nat)], [], []) := by
  intro m
  induction m with
  | zero =>
    intro p out E h1 h2 h3
    refine ref16_Scan_J3_of ?_
    have e1 : IntKind.i64.wrap ((p : Int) + 8) = ((p + 8 : Nat) : Int) := w64 (by omega) (by omega)
    have e2 : ¬ (((p + 8 : Nat) : Int) ≤ (b.length : Int)) := by omega
    simp only [lenV_bys, Option.bind_some, add_int, e1, leq_int, e2, decide_false, condK_f, scanF]
    rw [List.append_nil]
    exact endB_frz (frz_tup (frzL_cons (frz_vro (z := 1) rfl (List.length_map _).symm (goodL_bys _)) (frzL_cons rfl rfl))) (by simp)
  | succ m ih =>
    intro p out E h1 h2 h3
    have fin : ∀ (H H' : List AObj) (E : List Nat), H = vro 1 (out.map bys) :: H' → recAt b p = none → endB false false 0 (.tup [.slc 0 0 out.length out.length, .int .i64 p]) H E = some (.tup [.lst ((out ++ (scanF b (m + 1) p).1).map bys), .int .i64 ((scanF b (m + 1) p).2 : Nat)], [], []) := fun H H' E hH hr => by
      subst hH
      simp only [scanF, hr]
      rw [List.append_nil]
      exact endB_frz (frz_tup (frzL_cons (frz_vro (z := 1) rfl (List.length_map _).symm (goodL_bys _)) (frzL_cons rfl rfl))) (by simp)
    refine ref16_Scan_J3_of ?_
    have a4 : IntKind.i64.wrap ((p : Int) + 4) = ((p + 4 : Nat) : Int) := w64 (by omega) (by omega)
    have a8 : IntKind.i64.wrap ((p : Int) + 8) = ((p + 8 : Nat) : Int) := w64 (by omega) (by omega)
    simp only [lenV_bys, Option.bind_some, add_int, a8, leq_int]
    rcases Nat.lt_or_ge b.length (p + 8) with hs | hs
    · have e2 : ¬ (((p + 8 : Nat) : Int) ≤ (b.length : Int)) := by omega
      simp only [e2, decide_false, condK_f]
      exact fin _ _ _ rfl (by unfold recAt; rw [if_neg (by omega)])
    · have e2 : (((p + 8 : Nat) : Int) ≤ (b.length : Int)) := by omega
      simp only [e2, decide_true, condK_t, add_int, a4, a8, Option.bind_some, cut_sub (show p ≤ p + 4 by omega) (show p + 4 ≤ b.length by omega)]
      rw [callK_ok (by simp) (ref16_number_ok _ (by rw [sub_len (by omega)]; omega))]
      have hn32 := numL_lt (sub b p (p + 4))
      generalize hn : numL (sub b p (p + 4)) = n at hn32
      have c1 : IntKind.i64.wrap (n : Int) = (n : Int) := w64 rfl (by omega)
      simp only [cvI_int, c1, gtr_int, Option.bind_some, splitK_dec]
      split
      · rename_i hc
        refine fin _ _ _ rfl ?_
        unfold recAt
        rw [if_pos hs]; simp only [hn]; rw [if_neg (by omega)]
      · rename_i hc
        have a8n : IntKind.i64.wrap (((p + 8 : Nat) : Int) + (n : Int)) = ((p + 8 + n : Nat) : Int) := w64 (by omega) (by omega)
        simp only [add_int, a8, a8n, Option.bind_some, gtr_int, condK_dec]
        split
        · rename_i hd
          refine fin _ _ _ rfl ?_
          unfold recAt
          rw [if_pos hs]; simp only [hn]; rw [if_neg (by omega)]
        · rename_i hd
          have hrl : (sub b (p + 8) (p + 8 + n)).length = n := by rw [sub_len (by omega)]; omega
          have hsl : (sub b p (p + 4)).length = 4 := by rw [sub_len (by omega)]; omega
          have hR : ∀ (H : List AObj) (K : AV → List AObj → List Nat → Option R3), rawK 1 0 (.int .u8 0) [] H K = K (.slc H.length 0 0 0) (H ++ [.row 1 []]) [] := fun H K => rfl
          simp only [hR, add_int, a4, a8, a8n, Option.bind_some, cut_sub (show p ≤ p + 4 by omega) (show p + 4 ≤ b.length by omega), cut_sub (show p + 8 ≤ p + 8 + n by omega) (show p + 8 + n ≤ b.length by omega), cut_sub (show p + 4 ≤ p + 8 by omega) (show p + 8 ≤ b.length by omega), drawK_t]
          simp only [List.length_singleton, List.singleton_append]
          rw [appK_row (n := 0) (es := []) (ys := (sub b p (p + 4)).map u8) rfl rfl rfl (lz_u8 _) (by decide) (by decide) (by decide) (by rw [List.length_map, hsl]; decide), esc_good (goodL_u8 _)]
          rw [appK_row (n := 0 + ((sub b p (p + 4)).map u8).length) (es := [] ++ (sub b p (p + 4)).map u8) (ys := (sub b (p + 8) (p + 8 + n)).map u8) rfl rfl (by simp) (lz_u8 _) (by decide) (by decide) (by decide) (by rw [List.length_map, List.length_map, hsl, hrl]; omega), esc_good (goodL_u8 _)]
          rw [frzK_ok (u := bys (sub b p (p + 4) ++ sub b (p + 8) (p + 8 + n))) ((frz_row (z := 1) (es := (sub b p (p + 4) ++ sub b (p + 8) (p + 8 + n)).map u8) (by simp) (by simp) (goodL_u8 _)).trans rfl)]
          rw [callD_ok (by simp) (ref16_Sum_ok _ (by rw [List.length_append, hsl, hrl]; omega)), callD_ok (by simp) (ref16_number_ok _ (by rw [sub_len (by omega)]; omega))]
          simp only [Option.bind_some, neq_int]
          by_cases hq : crc (sub b p (p + 4) ++ sub b (p + 8) (p + 8 + n)) = numL (sub b (p + 4) (p + 8))
          · have hr : recAt b p = some (sub b (p + 8) (p + 8 + n)) := by
              unfold recAt
              rw [if_pos hs]; simp only [hn]; rw [if_pos (by omega), if_pos hq]
            have hq' : decide ((crc (sub b p (p + 4) ++ sub b (p + 8) (p + 8 + n)) : Int) = ((numL (sub b (p + 4) (p + 8)) : Nat) : Int)) = true := by simp [hq]
            simp only [hq', Bool.not_true, condK_f]
            have hc4 : ∀ H, cutA 1 (bys (sub b p (p + 4) ++ sub b (p + 8) (p + 8 + n))) (some (.int .i64 4)) none none H = some (bys (sub b (p + 8) (p + 8 + n))) := fun H => by
              have := cut_from (b := sub b p (p + 4) ++ sub b (p + 8) (p + 8 + n)) (H := H) (i := 4) (by rw [List.length_append]; omega)
              refine this.trans ?_
              unfold sub
              rw [List.take_length]
              congr 2
              exact List.drop_left' hsl
            have hl : ∀ (v : AV) (H : List AObj) (K : AV → List AObj → List Nat → Option R3), litK 1 1 .nils [(0, bys (sub b (p + 8) (p + 8 + n)))] H K = K (.lst ([sub b (p + 8) (p + 8 + n)].map bys)) H [] := fun v H K => rfl
            simp only [hc4, Option.bind_some, hl .bad]
            rw [appK_vro (n := out.length) (es := out.map bys) (ys := [sub b (p + 8) (p + 8 + n)].map bys) rfl rfl (List.length_map _).symm rfl (by decide) (by decide) (by decide) (by simp; omega), esc_good (goodL_bys _)]
            rw [condB_t (by simp [AV.bel, bel_good 1 (bys b) (good_bys b)])]
            have := ih (p + 8 + n) (out ++ [sub b (p + 8) (p + 8 + n)]) E (by omega) (by omega) (by simp; omega)
            simp only [scanF, hr, hrl]
            rw [List.map_append, List.length_append] at this
            rw [show out ++ (sub b (p + 8) (p + 8 + n) :: (scanF b m (p + 8 + n)).1) = out ++ [sub b (p + 8) (p + 8 + n)] ++ (scanF b m (p + 8 + n)).1 by simp]
            exact this
          · have hq' : decide ((crc (sub b p (p + 4) ++ sub b (p + 8) (p + 8 + n)) : Int) = ((numL (sub b (p + 4) (p + 8)) : Nat) : Int)) = false := by simp; omega
            simp only [hq', Bool.not_false, condK_t]
            refine fin _ _ _ rfl ?_
            unfold recAt
            rw [if_pos hs]; simp only [hn]; rw [if_pos (by omega), if_neg hq]
theorem ref16_Scan_ok (b : List UInt8) (hb : b.length < 2^40) : EV C n_ref16_Scan [bys b] [] = some (.tup [.lst ((scanF b b.length 0).1.map bys), .int .i64 ((scanF b b.length 0).2 : Nat)], [], []) := by
  refine ref16_Scan_of ?_
  exact ref_scan_loop b hb b.length 0 [] [] (by omega) (by omega) (by simp)
end Go.Pm
