/- A part of the proof: what the functions of the program answer, as plain lists and numbers. -/
import Derived.Test.YtahipmiaknbkoaaP31
namespace Go.Pm
open Go.Proofs
set_option linter.unusedVariables false
set_option linter.unusedSimpArgs false
theorem recAt_some {b : List UInt8} {p : Nat} {r : List UInt8} (h : recAt b p = some r) : p + 8 + r.length ≤ b.length ∧ r.length ≤ 2097152 := by
  unfold recAt at h
  split at h
  · dsimp only at h
    split at h
    · rename_i h1 h2
      split at h
      · injection h with h
        subst h
        rw [sub_len (by omega)]
        omega
      · cases h
    · cases h
  · cases h
theorem scan_len (b : List UInt8) : ∀ m p, p ≤ b.length → (framesF (scanF b m p).1).length + p = (scanF b m p).2 ∧ (scanF b m p).2 ≤ b.length ∧ (∀ r ∈ (scanF b m p).1, r.length ≤ 2097152) ∧ (scanF b m p).1.length + p ≤ (scanF b m p).2
  | 0, p, h => ⟨by simp [scanF, framesF], h, (fun r hr => by cases hr), by simp [scanF]⟩
  | m + 1, p, h => by
    unfold scanF
    cases hr : recAt b p with
    | none => exact ⟨by simp [framesF], h, (fun r hr => by cases hr), by simp⟩
    | some r =>
      obtain ⟨h1, h2⟩ := recAt_some hr
      obtain ⟨h3, h4, h5, h6⟩ := scan_len b m (p + 8 + r.length) (by omega)
      dsimp only
      refine ⟨?_, h4, ?_, ?_⟩
      · rw [framesF_cons, List.length_append, frame_len]; omega
      · intro x hx
        rcases List.mem_cons.1 hx with rfl | hx
        · exact h2
        · exact h5 x hx
      · rw [List.length_cons]; omega
theorem step_on {d : Dk} (h : d.off = false) : (stepF d).1 = !(stepF d).2.off := by
  unfold stepF
  split
  · split
    · rfl
    · show true = !d.off; rw [h]; rfl
  · show true = !d.off; rw [h]; rfl
theorem remove_on {d : Dk} {nm : List UInt8} (h : d.off = false) (h0 : (removeF d nm).1 = 0) : (removeF d nm).2.off = false := by
  unfold removeF at h0 ⊢
  have hs := step_on h
  split at h0
  · split at h0
    · rename_i h1 h2
      rw [if_pos h1, if_pos h2]
      show (stepF d).2.off = false
      rw [h2] at hs; simpa using hs.symm
    · cases h0
  · rename_i h1; exact absurd h0 h1
theorem clean_on {d : Dk} (h : d.off = false) (h0 : (cleanF d).1 = 0) : (cleanF d).2.off = false := by
  unfold cleanF at h0 ⊢
  split
  · rename_i hg; rw [if_pos hg] at h0; exact remove_on h h0
  · exact h
def logF (d : Dk) : List UInt8 := readF d nLog
def scanD (d : Dk) : List (List UInt8) × Nat := scanF (logF d) (logF d).length 0
def openX (d : Dk) : Int × List (List UInt8) × Dk :=
  if (scanD d).2 < (logF d).length then
    (if (replaceF d (scanD d).1).1 = 0 then (0, (scanD d).1, (replaceF d (scanD d).1).2) else ((replaceF d (scanD d).1).1, [], (replaceF d (scanD d).1).2))
  else (0, (scanD d).1, d)
def openF (d : Dk) : Int × List (List UInt8) × Dk := if (cleanF d).1 = 0 then openX (cleanF d).2 else ((cleanF d).1, [], (cleanF d).2)
theorem log_len {d : Dk} (h : d.ok) : (logF d).length < 2^40 := by
  unfold logF readF
  split
  · rename_i ht
    obtain ⟨f, hf, _⟩ := there_some ht
    have := ok_fil h hf
    rw [show (fileOf nLog d).b = f.b from by unfold fileOf; rw [hf]; rfl]
    have h1 := h.s1; have h2 := h.t; have h3 := tot_get hf
    omega
  · simp
def openV (W : Nat) (r : Int × List (List UInt8) × Dk) : AV := if r.1 = 0 then .tup [.ptr W 1 0 0, .lst (r.2.1.map bys), .nili] else .tup [.nilp, .nils, erA r.1]
theorem isF_9 (H : List AObj) : isF 44 [.ifc t_api_Code (.int .i64 9), .ifc t_api_Code (.int .i64 9)] H = some (.bool true, H, []) := rfl
theorem Is_9 (H : List AObj) : EV C n_errors_Is [.ifc t_api_Code (.int .i64 9), .ifc t_api_Code (.int .i64 9)] H = some (.bool true, H, []) := by
  rw [EV_I C (F := isF 44) rfl]; exact isF_9 H
theorem raw_end {n : Nat} {v : AV} {H : List AObj} : endB true true n v H [] = some (v, H, []) := by simp [endB_raw]
/-- what comes after the log has been read -/
theorem open_rest {d : Dk} (ho : d.ok) {H : List AObj} {L D W n : Nat} (ha : Wt H L D W d) :
    (callK (EV C) false n_wal_Scan [bys (logF d)] H fun a21 H21 E21 =>
      (extA a21 0).bind fun a22 =>
      (extA a21 1).bind fun a23 =>
      (lenV (bys (logF d)) H21).bind fun a24 =>
      (binA .lss (Go.TypeDesc.int Go.IntKind.i64) (cmpT Try.prog) false a23 a24).bind fun a25 =>
      condK a25
        (callK (EV C) false n_wal_Wal_Replace [.ptr W 1 0 0, a22] H21 fun a26 H26 E26 =>
        (binA .neq (Go.TypeDesc.interface #[("Error", 123)]) (cmpT Try.prog) true a26 .nili).bind fun a27 =>
        condK a27
          (endB true true n (.tup [.nilp, .nils, a26]) H26 (E26 ++ (E21 ++ [])))
          (endB true true n (.tup [.ptr W 1 0 0, a22, .nili]) H26 (E26 ++ (E21 ++ []))))
        (endB true true n (.tup [.ptr W 1 0 0, a22, .nili]) H21 (E21 ++ []))) =
    some (openV W (openX d), pt H L D (openX d).2.2, []) := by
  unfold openX
  have hl := log_len ho
  obtain ⟨s1, s2, s3, s4⟩ := scan_len (logF d) (logF d).length 0 (Nat.zero_le _)
  rw [callK_ok (by simp) (wal_Scan_ok (logF d) hl)]
  rw [show scanF (logF d) (logF d).length 0 = scanD d from rfl] at s1 s2 s3 s4 ⊢
  simp -implicitDefEqProofs only [extA_0, extA_1, Option.bind_some, lenV_bys, lss_int, condK_dec]
  by_cases h : (scanD d).2 < (logF d).length
  · rw [if_pos (by omega), if_pos h]
    rw [(Replace_m ho (scanD d).1 (by omega) (fun l hl' => by have := s3 l hl'; omega) (by omega)).call (by simp) ha]
    simp -implicitDefEqProofs only [er_neq, Option.bind_some, condK_dec]
    by_cases h0 : (replaceF d (scanD d).1).1 = 0
    · rw [if_neg (fun q => q h0), if_pos h0]; exact raw_end
    · rw [if_pos h0, if_neg h0]; unfold openV; rw [if_neg h0]; exact raw_end
  · rw [if_neg (by omega), if_neg h, pt_self ha.a]
    exact raw_end
theorem Open_ok {d : Dk} (ho : d.ok) (hon : d.off = false) {H : List AObj} {L D : Nat} (ha : At H L D d) :
    EV C n_wal_Open [.ptr D 1 0 0] H = some (openV H.length (openF d), pt H L D (openF d).2.2 ++ [wrow D], []) := by
  refine wal_Open_of ?_
  have e0 : binA .eql (Go.TypeDesc.pointer 57) (cmpT Try.prog) true (.ptr D 1 0 0) .nilp = some (.bool false) := rfl
  dsimp only
  rw [e0, Option.bind_some, condK_f, (On_m d).callS rfl ha, hon]
  simp -implicitDefEqProofs only [unA, Option.bind_some, Bool.not_false, Bool.not_true, condK_f]
  refine (congrArg (fun x => Option.bind x _) (show fillB _ _ = some [.ptr D 1 0 0] from rfl)).trans ?_
  rw [Option.bind_some, new_agg (by simp) rfl]
  have hw : Wt (H ++ [wrow D]) L D H.length d := ⟨ha.app _, by simp, ha.dl⟩
  rw [show AObj.row [AV.ptr D 1 0 0].length [.agg [AV.ptr D 1 0 0]] = wrow D from rfl, (clean_m ho).call rfl hw]
  simp -implicitDefEqProofs only [er_neq, Option.bind_some, condK_dec]
  unfold openF
  have hc := clean_ok ho
  by_cases h0 : (cleanF d).1 = 0
  · have hc0 := clean_on hon h0
    rw [if_neg (fun q => q h0), if_pos h0]
    generalize hC : (cleanF d).2 = c at hc hc0 ⊢
    have hw1 := hw.pt c
    rw [show (AV.str { data := #[108, 111, 103] }) = sv nLog from rfl, (Read_m hc nLog).callS rfl hw1.a]
    simp -implicitDefEqProofs only [extA_0, extA_1, er_neq, Option.bind_some, splitK_dec]
    have key := open_rest hc (n := H.length) hw1
    rw [pt_pt _ _ ha.lt, pt_app ha (d := (openX c).2.2)] at key
    by_cases ht : thereF c nLog = 0
    · rw [if_neg (fun q => q ht)]
      exact key
    · rw [if_pos ht]
      have h9 : thereF c nLog = 9 := by unfold thereF at ht ⊢; rw [hc0] at ht ⊢; simp at ht ⊢; exact ht
      rw [h9, er_ne 9 (by decide)]
      rw [callK_ok rfl (Is_9 [])]
      simp -implicitDefEqProofs only [unA, Option.bind_some, Bool.not_true, condK_f]
      exact key
  · rw [if_pos h0, if_neg h0]
    rw [pt_app ha]
    unfold openV
    rw [if_neg h0]
    exact raw_end
end Go.Pm
