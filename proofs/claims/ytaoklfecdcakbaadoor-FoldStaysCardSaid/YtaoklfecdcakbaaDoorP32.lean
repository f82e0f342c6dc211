/- A part of the proof: what the functions of the program answer, as plain lists and numbers. -/
import Derived.Test.YtaoklfecdcakbaaDoorP31
namespace Go.Pm
open Go.Proofs
set_option linter.unusedVariables false
set_option linter.unusedSimpArgs false
abbrev zC : List AV := [(.int .u64 0), (.int .u64 0), (.int .i64 0), .nils, .nils]
theorem new_zc {β : Type} (H : List AObj) (K : AV → List AObj → List Nat → Option β) : newK (.agg [(.int .u64 0), (.int .u64 0), (.int .i64 0), .nils, .nils]) H K = K (.ptr H.length 1 0 0) (H ++ [.row 5 [.agg zC]]) [] := new_agg (by simp) rfl H K
theorem fill_zc {β : Type} (K : List AV → Option β) : (fillB (AV.cells (.agg [(.int .u64 0), (.int .u64 0), (.int .i64 0), .nils, .nils])) []).bind K = K zC := rfl
theorem fill_cmd {β : Type} (c : Cmd) (K : List AV → Option β) : (fillB (AV.cells (.agg [(.int .u64 0), (.int .u64 0), (.int .i64 0), .nils, .nils])) [(0, 1, .int .u64 (c.client : Int)), (1, 1, .int .u64 (c.seq : Int)), (2, 1, .int .i64 c.op), (3, 1, bys c.key), (4, 1, bys c.value)]).bind K = K c.cs := by
  simp [fillB, AV.cells, AV.isBad, bys, Cmd.cs]
theorem sto_cmd {β : Type} {H : List AObj} {b : Nat} {cs : List AV} {c : Cmd} {K : List AObj → List Nat → Option β} (h : H[b]? = some (.row 5 [.agg cs])) (hc : cs.length = 5) : stoK 5 (.ptr b 1 0 0) (.agg c.cs) H K = K (H.set b (.row 5 [c.av])) [] := by
  rw [sto_agg h hc (by simp [Cmd.cs]) (by simp [Cmd.cs, AV.one, bys]), escs_good (by simp [Cmd.cs, goodL, AV.good])]; rfl
theorem sto_cmd' {β : Type} {H : List AObj} {b : Nat} {cs : List AV} {c : Cmd} {K : List AObj → List Nat → Option β} (h : H[b]? = some (.row 5 [.agg cs])) (hc : cs.length = 5) : stoK 5 (.ptr b 1 0 0) c.av H K = K (H.set b (.row 5 [c.av])) [] := sto_cmd h hc
theorem sto_zc {β : Type} {H : List AObj} {b : Nat} {cs : List AV} {K : List AObj → List Nat → Option β} (h : H[b]? = some (.row 5 [.agg cs])) (hc : cs.length = 5) : stoK 5 (.ptr b 1 0 0) (.agg zC) H K = K (H.set b (.row 5 [.agg zC])) [] := by
  rw [sto_agg h hc rfl rfl]; rfl
theorem frz_zc (H : List AObj) : frz H (.agg zC) = some Cmd.zero.av := rfl
def resCR (p : Int × Cmd) : AV := .tup [p.2.av, errA p.1]
@[simp] theorem good_resCR (p : Int × Cmd) : (resCR p).good = true := by simp [resCR, AV.good, goodL]
theorem endCR (n : Int) (H : List AObj) (E : List Nat) : endB false false 0 (.tup [.agg zC, errA n]) H E = some (resCR (n, Cmd.zero), [], []) :=
  endB_frz (frz_tup (frzL_cons (frz_zc H) (frzL_cons (frz_good _ _ (good_err n)) rfl))) (good_resCR _)
theorem runP_facts (b : Bs) : (runP b).c.w64 ∧ (runP b).c.key.length ≤ 64 ∧ (runP b).c.value.length ≤ 1024 :=
  ⟨⟨numP_lt _, numP_lt _⟩, (bytesP_len 64 _).1, (bytesP_len 1024 _).1⟩
theorem neqEc (ms : Array (String × TypeId)) (n m : Int) (hm : m ≠ 0) : binA .neq (.interface ms) (cmpT Tryd.prog) false (errA n) (.ifc t_api_Code (.int .i64 m)) = some (.bool (!decide (n = m))) := by
  unfold errA
  split
  · rename_i h; subst h
    have : decide ((0 : Int) = m) = false := by simp; omega
    rw [this]; rfl
  · simp [codeA, binA, eqA, cmpE]
theorem endRd_range (s : Rd) : endRd s = 0 ∨ endRd s = 3 ∨ endRd s = 4 := by unfold endRd; split <;> (try split) <;> simp
theorem cRead_ok (b : Bs) (hb : b.length ≤ 2 ^ 46) : EV C n_command_Read [bys b] [] = some (resCR (readF b), [], []) := by
  rw [← readP_eq]
  refine command_Read_of ?_
  have f := runP_facts b
  have l0 : b.length ≤ 2 ^ 50 := by omega
  have l1 := numP_len ⟨b, false⟩
  have l2 := numP_len (numP ⟨b, false⟩).2
  have l3 := byteP_len (numP (numP ⟨b, false⟩).2).2
  have l4 := (bytesP_len 64 (byteP (numP (numP ⟨b, false⟩).2).2).2).2
  have hc : Cmd.mk (numP ⟨b, false⟩).1 (numP (numP ⟨b, false⟩).2).1 ((byteP (numP (numP ⟨b, false⟩).2).2).1.toNat : Int) (bytesP 64 (byteP (numP (numP ⟨b, false⟩).2).2).2).1 (bytesP 1024 (bytesP 64 (byteP (numP (numP ⟨b, false⟩).2).2).2).2).1 = (runP b).c := rfl
  have hs : (bytesP 1024 (bytesP 64 (byteP (numP (numP ⟨b, false⟩).2).2).2).2).2 = (runP b).s := rfl
  simp only at l1
  dsimp only
  rw [new_zc, newRK b hb]
  simp only [List.length_nil, List.nil_append, List.cons_append, List.length_singleton]
  rw [cnumK (l := 1) (s := ⟨b, false⟩) rfl l0]
  simp only [List.set_cons_succ, List.set_cons_zero]
  rw [cnumK (l := 1) rfl (by omega)]
  simp only [List.set_cons_succ, List.set_cons_zero]
  rw [byteK (l := 1) rfl (by omega)]
  simp only [List.set_cons_succ, List.set_cons_zero, cv_i64, Option.bind_some]
  rw [show (64 : Int) = ((64 : Nat) : Int) from rfl, cbytesK (l := 1) rfl (by omega) (by decide)]
  simp only [List.set_cons_succ, List.set_cons_zero]
  rw [show (1024 : Int) = ((1024 : Nat) : Int) from rfl, cbytesK (l := 1) rfl (by omega) (by decide)]
  simp only [List.set_cons_succ, List.set_cons_zero]
  have F := fill_cmd (β := R3) (runP b).c
  rw [← hc] at F
  simp only at F
  rw [F, hs, hc, new_zc]
  simp only [List.length_cons, List.length_nil, List.cons_append, List.nil_append, Nat.zero_add, Nat.reduceAdd]
  rw [sto_cmd (b := 2) rfl rfl]
  simp only [List.set_cons_succ, List.set_cons_zero]
  rw [cendK (l := 1) rfl, cm_all (l := 2) rfl, Option.bind_some, callK_ok (by simp [goodL]) (Write_ok _ f.1 (by omega) (by omega))]
  have bad : ∀ (n : Int) (E : List Nat), ((fillB (AV.cells (.agg [(.int .u64 0), (.int .u64 0), (.int .i64 0), .nils, .nils])) []).bind fun c20 =>
      stoK 5 (.ptr 0 1 0 0) (.agg c20) [AObj.row 5 [.agg zC], (runP b).s.row, .row 5 [(runP b).c.av]] fun H21 E21 =>
      (loadA true 5 (.ptr 0 1 0 0) H21).bind fun a22 => endB false false 0 (.tup [a22, errA n]) H21 (E21 ++ E)) = some (resCR (n, Cmd.zero), [], []) := fun n E => by
    rw [fill_zc, sto_zc (b := 0) rfl rfl]
    simp only [List.set_cons_zero]
    rw [ld_agg (l := 0) (z := 5) rfl rfl]
    exact endCR n _ _
  have good : ∀ (E : List Nat), ((loadA true 5 (.ptr 2 1 0 0) [AObj.row 5 [.agg zC], (runP b).s.row, .row 5 [(runP b).c.av]]).bind fun a23 =>
      stoK 5 (.ptr 0 1 0 0) a23 [AObj.row 5 [.agg zC], (runP b).s.row, .row 5 [(runP b).c.av]] fun H24 E24 =>
      (loadA true 5 (.ptr 0 1 0 0) H24).bind fun a25 => endB false false 0 (.tup [a25, .nili]) H24 (E24 ++ E)) = some (resCR (0, (runP b).c), [], []) := fun E => by
    rw [cm_all (l := 2) rfl, Option.bind_some, sto_cmd' (b := 0) rfl rfl]
    simp only [List.set_cons_zero]
    rw [cm_all (l := 0) rfl]
    exact endB_good (v := resCR (0, (runP b).c)) (good_resCR _)
  have b3 := bad 3
  rw [show errA 3 = AV.ifc t_api_Code (.int .i64 3) from rfl] at b3
  unfold readP resW
  dsimp only
  have er := endRd_range (runP b).s
  cases hm : (runP b).c.may with
  | true =>
    simp -implicitDefEqProofs only [neq_nil1, neqE0, Bool.true_eq_false, false_and, ZS, Nat.reduceAdd]
    rcases er with e | e | e
    · simp -implicitDefEqProofs only [e, ZS, Nat.reduceAdd]
      exact good _
    · have e3 : ¬ ((3 : Int) = 0) := by decide
      simp -implicitDefEqProofs only [e, e3, ZS, Nat.reduceAdd]
      exact bad 3 _
    · have e3 : ¬ ((4 : Int) = 0) := by decide
      simp -implicitDefEqProofs only [e, e3, ZS, Nat.reduceAdd]
      exact bad 4 _
  | false =>
    have e3 : ¬ ((3 : Int) = 0) := by decide
    have w1 : ∀ ms c, binA .neq (.interface ms) c true (errA 1) .nili = some (.bool true) := fun ms c => rfl
    have w3 : ∀ ms c, binA .neq (.interface ms) c true (.ifc t_api_Code (.int .i64 3)) .nili = some (.bool true) := fun ms c => rfl
    simp -implicitDefEqProofs only [w1, w3, neqE0, neqEc _ _ _ e3, Bool.false_eq_true, ZS, Nat.reduceAdd]
    rcases er with e | e | e
    · have e4 : ¬ ((0 : Int) = 3) := by decide
      simp -implicitDefEqProofs only [e, e3, e4, ne_eq, not_false_eq_true, and_self, ZS, Nat.reduceAdd]
      exact b3 _
    · simp -implicitDefEqProofs only [e, e3, ne_eq, not_true_eq_false, and_false, ZS, Nat.reduceAdd]
      exact bad 3 _
    · have e4 : ¬ ((4 : Int) = 3) := by decide
      simp -implicitDefEqProofs only [e, e3, e4, ne_eq, not_false_eq_true, and_self, ZS, Nat.reduceAdd]
      exact b3 _
end Go.Pm
