/- A part of the proof: what the functions of the program answer, as plain lists and numbers. -/
import Derived.Test.YtahipmiaknbkoaaP28
import Derived.Test.YtahipmiaknbkoaaP31
namespace Go.Pm
open Go.Proofs
set_option linter.unusedVariables false
set_option linter.unusedSimpArgs false
theorem Write_r {d : Dk} (ho : d.ok) (l : List UInt8) (h : l.length ≤ 2097152) {H : List AObj} {L D W k m n : Nat} (ha : Wt H L D W d) (hk : H[k]? = some (.row 1 [.slc m 0 n n])) (hm : H[m]? = some (.row 1 (l.map u8))) (hn : n = l.length) :
    EV C n_wal_Wal_Write_r [.ptr W 1 0 0, .slc k 0 1 1] H = some (erA (writeF d [l]).1, pt H L D (writeF d [l]).2, []) := by
  refine wal_Wal_Write_r_of ?_
  dsimp only
  rw [callK_raw (frames_r_ok l h hk hm hn)]
  have hl : longs [l] = false := by simp only [longs, List.any_cons, List.any_nil, longL, decide_eq_false (show ¬ 2097152 < l.length by omega), Bool.or_self]
  have hf : framesF [l] = frame l := by simp [framesF]
  have e0 : ∀ ms c, binA .neq (.interface ms) c true .nili .nili = some (.bool false) := fun _ _ => rfl
  have hfl := frame_len l
  unfold writeF
  rw [hl, hf]
  simp -implicitDefEqProofs only [Bool.false_eq_true, if_false, extA_0, extA_1, Option.bind_some, e0, condK_f, nP, oP, ha.ld]
  rw [show (AV.str { data := #[108, 111, 103] }) = sv nLog from rfl, (Append_m ho nLog (frame l) (by omega)).call (by simp [goodL, sv, AV.good]) ha.a]
  simp -implicitDefEqProofs only [er_neq, Option.bind_some, condK_dec]
  by_cases h0 : (appendF d nLog (frame l)).1 = 0
  · rw [if_neg (fun q => q h0), if_pos h0]
    simp -implicitDefEqProofs only [nP, oP, Option.bind_some, (ha.pt _).ld]
    rw [(Sync_m (append_ok' ho nLog _) nLog).callP rfl ha.a]
    exact DM.fin0 ha.a (er_good _)
  · rw [if_pos h0, if_neg h0]
    exact DM.fin0 ha.a (er_good _)
end Go.Pm
