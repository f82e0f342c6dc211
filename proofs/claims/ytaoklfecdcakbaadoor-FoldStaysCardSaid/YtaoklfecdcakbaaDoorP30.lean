/- A part of the proof: what the functions of the program answer, as plain lists and numbers. -/
import Derived.Test.YtaoklfecdcakbaaDoorP29
namespace Go.Pm
open Go.Proofs
set_option linter.unusedVariables false
set_option linter.unusedSimpArgs false
theorem leq_u8 (d : TypeDesc) (c : TypeId → Bool) (b : Bool) (x : UInt8) (n : Int) : binA .leq d c b (u8 x) (.int .u8 n) = some (.bool (decide ((x.toNat : Int) ≤ n))) := rfl
theorem cv_u64 (x : UInt8) : cvI .u64 (u8 x) = some (.int .u64 (x.toNat : Int)) := by
  have := x.toNat_lt
  show some (AV.int .u64 (IntKind.u64.wrap (x.toNat : Int))) = _
  rw [wrap_u64 (by omega)]
theorem cv_i64 (x : UInt8) : cvI .i64 (u8 x) = some (.int .i64 (x.toNat : Int)) := by
  have := x.toNat_lt
  show some (AV.int .i64 (IntKind.i64.wrap (x.toNat : Int))) = _
  rw [wrap64] <;> omega
theorem cv_64u {n : Nat} (h : n < 2 ^ 63) : cvI .i64 (.int .u64 (n : Int)) = some (.int .i64 (n : Int)) := by
  show some (AV.int .i64 (IntKind.i64.wrap (n : Int))) = _
  rw [wrap64] <;> omega
theorem cv_u64i {n : Nat} (h : n < 2 ^ 64) : cvI .u64 (.int .i64 (n : Int)) = some (.int .u64 (n : Int)) := by
  show some (AV.int .u64 (IntKind.u64.wrap (n : Int))) = _
  rw [wrap_u64 h]
theorem cnum_ok {H : List AObj} {l : Nat} {s : Rd} (h : H[l]? = some s.row) (hb : s.b.length ≤ 2 ^ 50) : EV C n_coder_Reader_Number [.ptr l 1 0 0] H = some (.int .u64 ((numP s).1 : Int), H.set l (numP s).2.row, []) := by
  refine coder_Reader_Number_of ?_
  dsimp only
  rw [byteK h hb]
  have h1 := set_get (y := (byteP s).2.row) h
  have hl := byteP_len s
  have hc := (byteP s).1.toNat_lt
  unfold numP
  simp -implicitDefEqProofs only [leq_u8, ZS, Nat.reduceAdd]
  by_cases c : (byteP s).1.toNat < 248
  · have c' : ((byteP s).1.toNat : Int) ≤ 247 := by omega
    rw [if_pos c', if_pos c]
    simp -implicitDefEqProofs only [cv_u64, ZS, Nat.reduceAdd]
    exact endB_at rfl rfl rfl rfl (by simp)
  · have c' : ¬ ((byteP s).1.toNat : Int) ≤ 247 := by omega
    have e1 : IntKind.i64.wrap (((byteP s).1.toNat : Int) - 247) = (((byteP s).1.toNat - 247 : Nat) : Int) := w64 (by omega) (by omega)
    rw [if_neg c', if_neg c]
    simp -implicitDefEqProofs only [cv_i64, sub_int, e1, ZS, Nat.reduceAdd]
    rw [takeK h1 (by omega) (by omega)]
    have h2 := set_get (y := (takeP ((byteP s).1.toNat - 247) (byteP s).2).2.row) h1
    simp -implicitDefEqProofs only [ZS, Nat.reduceAdd]
    have := num_J7 l (takeP ((byteP s).1.toNat - 247) (byteP s).2).1 (by have := (takeP_len ((byteP s).1.toNat - 247) (byteP s).2).1; omega) _ H _ h2 (by simp) (takeP ((byteP s).1.toNat - 247) (byteP s).2).1.length 0 (by omega)
    rw [List.take_zero] at this
    refine this.trans ?_
    rw [List.set_set, List.set_set]
theorem cnumK {β : Type} {H : List AObj} {l : Nat} {s : Rd} (h : H[l]? = some s.row) (hb : s.b.length ≤ 2 ^ 50) {K : AV → List AObj → List Nat → Option β} : callK (EV C) false n_coder_Reader_Number [.ptr l 1 0 0] H K = K (.int .u64 ((numP s).1 : Int)) (H.set l (numP s).2.row) [] := callM rfl (cnum_ok h hb)
theorem numP_lt (s : Rd) : (numP s).1 < 2 ^ 64 := by
  unfold numP
  have hc := (byteP s).1.toNat_lt
  split
  · simp only; omega
  · unfold numL
    split
    · simp
    · have hv := valF_lt (takeP ((byteP s).1.toNat - 247) (byteP s).2).1
      have hl := (takeP_len ((byteP s).1.toNat - 247) (byteP s).2).1
      have h8 : 256 ^ (takeP ((byteP s).1.toNat - 247) (byteP s).2).1.length ≤ 256 ^ 8 := Nat.pow_le_pow_right (by decide) (by omega)
      simp only; omega
theorem cbytes_ok {H : List AObj} {l most : Nat} {s : Rd} (h : H[l]? = some s.row) (hb : s.b.length ≤ 2 ^ 50) (hm : most ≤ 2 ^ 50) : EV C n_coder_Reader_Bytes [.ptr l 1 0 0, .int .i64 (most : Int)] H = some (bys (bytesP most s).1, H.set l (bytesP most s).2.row, []) := by
  refine coder_Reader_Bytes_of ?_
  dsimp only
  rw [cnumK h hb]
  have h1 := set_get (y := (numP s).2.row) h
  have hl := numP_len s
  have hlt := numP_lt s
  have e0 : ¬ ((most : Int) < 0) := by omega
  simp -implicitDefEqProofs only [nilA_ptr, rd_bad h1, rd_b h1, rd_sto_bad h1, e0, cv_u64i (show most < 2 ^ 64 by omega), cv_u64i (show (numP s).2.b.length < 2 ^ 64 by omega), ZS, Nat.reduceAdd]
  unfold bytesP
  cases hbad : (numP s).2.bad with
  | true =>
    simp -implicitDefEqProofs only [ZS, Nat.reduceAdd]
    rw [if_pos (.inl trivial), List.set_set]
    exact endB_at rfl rfl rfl rfl (by simp)
  | false =>
    simp -implicitDefEqProofs only [ZS, Nat.reduceAdd]
    by_cases c1 : most < (numP s).1
    · have c1' : (most : Int) < ((numP s).1 : Int) := by omega
      rw [if_pos c1', if_pos (.inr (.inl c1)), List.set_set]
      exact endB_at rfl rfl rfl rfl (by simp)
    · have c1' : ¬ (most : Int) < ((numP s).1 : Int) := by omega
      rw [if_neg c1']
      by_cases c2 : (numP s).2.b.length < (numP s).1
      · have c2' : ((numP s).2.b.length : Int) < ((numP s).1 : Int) := by omega
        rw [if_pos c2', if_pos (.inr (.inr c2)), List.set_set]
        exact endB_at rfl rfl rfl rfl (by simp)
      · have c2' : ¬ ((numP s).2.b.length : Int) < ((numP s).1 : Int) := by omega
        rw [if_neg c2', if_neg (by simp; omega), cv_64u (by omega), Option.bind_some, takeK h1 (by omega) (by omega), List.set_set]
        exact endB_at (frz_good _ _ (good_bys _)) (good_bys _) (kills_good _ (good_bys _)) rfl (by simp)
theorem cbytesK {β : Type} {H : List AObj} {l most : Nat} {s : Rd} (h : H[l]? = some s.row) (hb : s.b.length ≤ 2 ^ 50) (hm : most ≤ 2 ^ 50) {K : AV → List AObj → List Nat → Option β} : callK (EV C) false n_coder_Reader_Bytes [.ptr l 1 0 0, .int .i64 (most : Int)] H K = K (bys (bytesP most s).1) (H.set l (bytesP most s).2.row) [] := callM (by simp [goodL, AV.good]) (cbytes_ok h hb hm)
theorem cend_ok {H : List AObj} {l : Nat} {s : Rd} (h : H[l]? = some s.row) : EV C n_coder_Reader_End [.ptr l 1 0 0] H = some (errA (endRd s), H, []) := by
  refine coder_Reader_End_of ?_
  simp -implicitDefEqProofs only [nilA_ptr, rd_bad h, rd_b h, ZS, Nat.reduceAdd]
  unfold endRd
  cases hbad : s.bad with
  | true =>
    simp -implicitDefEqProofs only [ZS, Nat.reduceAdd]
    exact endB_at rfl rfl rfl rfl rfl
  | false =>
    simp -implicitDefEqProofs only [Bool.false_eq_true, ZS, Nat.reduceAdd]
    by_cases c : 0 < s.b.length
    · have c' : (0 : Int) < (s.b.length : Int) := by omega
      rw [if_pos c', if_pos c]
      exact endB_at rfl rfl rfl rfl rfl
    · have c' : ¬ (0 : Int) < (s.b.length : Int) := by omega
      rw [if_neg c', if_neg c]
      exact endB_at rfl rfl rfl rfl rfl
theorem cendK {β : Type} {H : List AObj} {l : Nat} {s : Rd} (h : H[l]? = some s.row) {K : AV → List AObj → List Nat → Option β} : callK (EV C) false n_coder_Reader_End [.ptr l 1 0 0] H K = K (errA (endRd s)) H [] := callM rfl (cend_ok h)
theorem newR_ok (b : Bs) (hb : b.length ≤ 2 ^ 46) (H : List AObj) : EV C n_coder_NewReader [bys b] H = some (.ptr H.length 1 0 0, H ++ [Rd.row ⟨b, false⟩], []) := by
  refine coder_NewReader_of ?_
  dsimp only
  rw [callK_ok (by simp) (Clone_byte_ok b (by omega))]
  have fl : ∀ (K : List AV → Option R3), (fillB (AV.cells (.agg [.nils, (.bool false)])) [(0, 1, bys b)]).bind K = K [bys b, .bool false] := fun K => by simp [fillB, AV.cells, AV.isBad, bys]
  rw [fl, new_agg (by simp) (by simp [AV.one, bys])]
  exact endB_raw
theorem newRK {β : Type} (b : Bs) (hb : b.length ≤ 2 ^ 46) (H : List AObj) {K : AV → List AObj → List Nat → Option β} : callK (EV C) true n_coder_NewReader [bys b] H K = K (.ptr H.length 1 0 0) (H ++ [Rd.row ⟨b, false⟩]) [] := callK_raw (newR_ok b hb H)
end Go.Pm
