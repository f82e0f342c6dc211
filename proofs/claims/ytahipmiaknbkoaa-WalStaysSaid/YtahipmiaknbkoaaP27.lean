/- A part of the proof: what the functions of the program answer, as plain lists and numbers. -/
import Derived.Test.YtahipmiaknbkoaaP16
import Derived.Test.YtahipmiaknbkoaaP20
import Derived.Test.YtahipmiaknbkoaaP26
namespace Go.Pm
open Go.Proofs
set_option linter.unusedVariables false
set_option linter.unusedSimpArgs false
theorem Frame_r_ok {H : List AObj} {m n : Nat} (l : List UInt8) (h : l.length ≤ 2097152) (hm : H[m]? = some (.row 1 (l.map u8))) (hn : n = l.length) : EV C n_wal_Frame_r [.slc m 0 n n] H = some (.tup [bys (frame l), .nili], H, []) := by
  subst hn
  refine wal_Frame_r_of ?_
  dsimp only
  have lm : lenV (.slc m 0 l.length l.length) H = some (.int .i64 l.length) := by simp [lenV, lenA, lenOf, hm]
  have fm : frz H (.slc m 0 l.length l.length) = some (bys l) := frz_row (z := 1) hm (List.length_map _).symm (goodL_u8 l)
  rw [lm, Option.bind_some, gtr_int, Option.bind_some, condK_dec, if_neg (by omega), Option.bind_some, cvI_int, wrap_u32 (show l.length < 2^32 by omega), Option.bind_some]
  rw [callK_ok (by simp) (wal_four_ok l.length (by omega))]
  rw [callK_flat (bs := [bys (fourL l.length), bys l]) (frzL_cons (frz_good _ _ (good_bys _)) (frzL_cons fm rfl)) (by simp) (wal_check_ok (fourL l.length) l (by simp [fourL]; omega)) rfl]
  rw [callK_ok (by simp) (wal_four_ok _ (crc_lt _))]
  have hraw : ∀ K : KR, rawK 1 3 .nils [(0, bys (fourL l.length)), (1, bys (fourL (crc (fourL l.length ++ l)))), (2, .slc m 0 l.length l.length)] H K = K (.slc H.length 0 3 3) (H ++ [.row 1 [bys (fourL l.length), bys (fourL (crc (fourL l.length ++ l))), .slc m 0 l.length l.length]]) [] := fun K => rfl
  rw [hraw]
  have hm2 : ∀ X : List AObj, (H ++ X)[m]? = some (.row 1 (l.map u8)) := fun X => by
    rw [List.getElem?_append_left (List.getElem?_eq_some_iff.1 hm).1]; exact hm
  rw [callK_raw (Concat_r3_ok (m := m) (n := l.length) (fourL l.length) (fourL (crc (fourL l.length ++ l))) l (by simp [fourL]) (by simp) (hm2 _) rfl (by simp [fourL]; omega))]
  dsimp only
  have e : fourL l.length ++ fourL (crc (fourL l.length ++ l)) ++ l = frame l := by simp [frame]
  rw [e]
  unfold endB endA
  have g : (AV.tup [bys (frame l), .nili]).good = true := by simp
  rw [if_neg (by decide), frz_good _ _ g]
  simp only [Option.map_some, Option.bind_some, kills_good _ g, killAll, Bool.false_eq_true, if_false, bel_good _ _ g, List.append_nil, List.all_nil, and_self, if_true]
  rw [List.take_left]
end Go.Pm
