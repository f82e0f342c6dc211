/- A part of the proof: what the functions of the program answer, as plain lists and numbers. -/
import Derived.Test.YtaoklfecdcakbaaDoorP7
import Derived.Test.YtaoklfecdcakbaaDoorP10
import Derived.Test.YtaoklfecdcakbaaDoorP17
import Derived.Test.YtaoklfecdcakbaaDoorP26
import Derived.Test.YtaoklfecdcakbaaDoorP33
import Derived.Test.YtaoklfecdcakbaaDoorP34
namespace Go.Pm
open Go.Proofs
set_option linter.unusedVariables false
set_option linter.unusedSimpArgs false
@[simp] theorem goodL_cmd (l : List Cmd) : goodL (l.map Cmd.av) = true := goodL_map good_cmd l
end Go.Pm
namespace Go.Pm
open Go.Proofs
set_option linter.unusedVariables false
set_option linter.unusedSimpArgs false
theorem get_end {α : Type} (H : List α) (x : α) : (H ++ [x])[H.length]? = some x := by simp
theorem fill_ver {β : Type} {cs : List AV} (hc : cs.length = 5) (K : List AV → Option β) : (fillB (AV.cells (.agg [(.int .i64 0), .nils, .nils, .nils, .nils, .nils])) [(0, 5, .agg cs)]).bind K = K (cs ++ [.nils]) := by
  have e : fillB (AV.cells (.agg [(.int .i64 0), .nils, .nils, .nils, .nils, .nils])) [(0, 5, .agg cs)] = some (cs ++ [.nils]) := by
    simp [fillB, AV.cells, AV.isBad, hc]
  rw [e]; rfl
theorem raw_ver {β : Type} {cs : List AV} (hc : cs.length = 6) (h1 : cs.all AV.one = true) (H : List AObj) (K : AV → List AObj → List Nat → Option β) : rawK 6 1 (.agg [(.int .i64 0), .nils, .nils, .nils, .nils, .nils]) [(0, .agg cs)] H K = K (.slc H.length 0 1 1) (H ++ [.row 6 [.agg cs]]) [] := by
  unfold rawK
  simp [setS, AV.cells, hc, h1, List.replicate]
theorem fill_fold {β : Type} (i : Int) (r : Nat) (K : List AV → Option β) : (fillB (AV.cells (.agg [(.int .i64 0), .nils])) [(0, 1, .int .i64 i), (1, 1, .slc r 0 1 1)]).bind K = K [.int .i64 i, .slc r 0 1 1] := Eq.trans rfl rfl
/-- what a fold's row holds -/
def foldV (i : Int) (r n : Nat) : AObj := .row 2 [.agg [.int .i64 i, .slc r 0 n n]]
structure TArg (cs : List AV) (t : Tre) : Prop where
  len : cs.length = 5
  one : cs.all AV.one = true
  frz : ∀ H, frz H (.agg cs) = some t.av
  kil : kills (.agg cs) = []
theorem TArg.new {β : Type} {cs : List AV} {t : Tre} (h : TArg cs t) (H : List AObj) (K : AV → List AObj → List Nat → Option β) : newK (.agg cs) H K = K (.ptr H.length 1 0 0) (H ++ [.row 5 [.agg cs]]) [] := by
  rw [new_agg (by intro e; have := h.len; simp [e] at this) h.one, h.len]
theorem targ_t (t : Tre) : TArg [.int .i64 t.kind, bys t.key, bys t.value, bys t.digest, kidsA t.kids] t where
  len := rfl
  one := by simp [AV.one, bys, kidsA]
  frz H := by rw [← av_eq]; exact frz_good _ _ (good_tr t)
  kil := by rw [← av_eq]; exact kills_good _ (good_tr t)
theorem New_ok (i : Int) (h0 : 0 ≤ i) (h1 : i ≤ 1152921504606846976) {cs : List AV} {t : Tre} (h : TArg cs t) (ht : t.ok) (hm : (nodesF t).length ≤ 2^40) (hi : isF t = true) (H : List AObj) : EV C n_fold_New [.int .i64 i, .agg cs] H = some (.tup [.ptr (H.length + 2) 1 0 0, .nili], H ++ [.row 5 [.agg cs], .row 6 [.agg (cs ++ [.nils])], foldV i (H.length + 1) 1], []) := by
  refine fold_New_of ?_
  dsimp only
  rw [h.new]
  simp -implicitDefEqProofs only [ZS, ZT, Nat.reduceAdd]
  rw [if_neg (by omega), if_neg (by omega), ld_agg (get_end H _) h.len, Option.bind_some, callK_nil (bs := [t.av]) (by simp [killsL, h.kil]) (frzL_cons (h.frz _) rfl) (by simp [goodL]) (avlIs_ok t ht hm), hi]
  simp -implicitDefEqProofs only [not_bool, ZS, ZT, Nat.reduceAdd]
  rw [ld_agg (get_end H _) h.len, Option.bind_some, fill_ver h.len, raw_ver (by simp [h.len]) (by rw [List.all_append, h.one]; rfl), fill_fold, new_agg (by simp) rfl, endB_raw]
  simp [foldV]
theorem First_ok {H : List AObj} {l r n : Nat} {i : Int} (h : H[l]? = some (foldV i r n)) : EV C n_fold_Fold_First [.ptr l 1 0 0] H = some (.int .i64 i, H, []) := by
  refine fold_Fold_First_of ?_
  simp -implicitDefEqProofs only [nilA_ptr, offA_ptr, Nat.zero_add, Option.bind_some, ld_fld (j := 0) (v := .int .i64 i) h rfl]
  exact endB_at rfl rfl rfl rfl rfl
theorem Last_ok {H : List AObj} {l r n : Nat} {i : Int} {es : List AV} (h : H[l]? = some (foldV i r n)) (hr : H[r]? = some (.row 6 es)) (hn : es.length = n) (h0 : 0 ≤ i) (h1 : i ≤ 2^60) (h2 : n ≤ 2^60) : EV C n_fold_Fold_Last [.ptr l 1 0 0] H = some (.int .i64 (i + n - 1), H, []) := by
  refine fold_Fold_Last_of ?_
  simp -implicitDefEqProofs only [nilA_ptr, offA_ptr, Nat.zero_add, Option.bind_some, ld_fld (j := 0) (v := .int .i64 i) h rfl, ld_fld (j := 1) (v := .slc r 0 n n) h rfl, lenV_slc hr hn.symm]
  rw [add_int, Option.bind_some, sub_int, Option.bind_some, wrap64 (n := i + (n : Int)) (by omega) (by omega), wrap64 (by omega) (by omega)]
  exact endB_at rfl rfl rfl rfl rfl
theorem callK_ptrF {β : Type} {env : Env} {g : FuncId} {args bs : List AV} {H H' : List AObj} {K : AV → List AObj → List Nat → Option β} {v : AV} (h0 : frzL H args = some bs) (h1 : belL 0 bs = false) (h2 : killsL args = []) (h3 : env g bs H = some (v, H', [])) :
    callK env false g args H K = K v H' [] := by
  simp [callK, callA, h0, h1, h2, h3, killAll]
end Go.Pm
namespace Go.Pm
open Go.Proofs
set_option linter.unusedVariables false
set_option linter.unusedSimpArgs false
theorem ga {H T : List AObj} {l : Nat} {x : AObj} (h : H[l]? = some x) : (H ++ T)[l]? = some x := by
  rw [List.getElem?_append_left (lt_get h), h]
theorem g0 (H T : List AObj) (x : AObj) : (H ++ x :: T)[H.length]? = some x := by simp
theorem g1 (H T : List AObj) (x y : AObj) : (H ++ x :: y :: T)[H.length + 1]? = some y := by simp
theorem g2 (H T : List AObj) (x y z : AObj) : (H ++ x :: y :: z :: T)[H.length + 2]? = some z := by simp
theorem s1 (H T : List AObj) (x y v : AObj) : (H ++ x :: y :: T).set (H.length + 1) v = H ++ x :: v :: T := by simp
theorem s2 (H T : List AObj) (x y z v : AObj) : (H ++ x :: y :: z :: T).set (H.length + 2) v = H ++ x :: y :: v :: T := by simp
theorem sa {H T : List AObj} {l : Nat} {x v : AObj} (h : H[l]? = some x) : (H ++ T).set l v = H.set l v ++ T := by
  rw [List.set_append_left _ _ (lt_get h)]
structure Ver where
  t : Tre
  d : Option Bs
def Ver.rt (v : Ver) : AV := match v.d with | none => .nils | some d => bys d
def treC (t : Tre) : List AV := [.int .i64 t.kind, bys t.key, bys t.value, bys t.digest, kidsA t.kids]
theorem av_C (t : Tre) : t.av = .agg (treC t) := av_eq t
def Ver.cs (v : Ver) : List AV := treC v.t ++ [v.rt]
def Ver.av (v : Ver) : AV := .agg v.cs
theorem rt_one (v : Ver) : v.rt.one = true := by unfold Ver.rt; cases v.d <;> rfl
theorem ver_len (v : Ver) : v.cs.length = 6 := rfl
theorem ver_one (v : Ver) : v.cs.all AV.one = true := by
  unfold Ver.cs; rw [List.all_append, show (treC v.t).all AV.one = true from (targ_t v.t).one]; simp [rt_one]
theorem bel_C (t : Tre) (m : Nat) : belL m (treC t) = true := by
  have : goodL (treC t) = true := by have := good_tr t; rw [av_C] at this; simpa [AV.good] using this
  exact belL_good _ _ this
theorem bel_app (m : Nat) : ∀ a b : List AV, belL m (a ++ b) = (belL m a && belL m b)
  | [], b => rfl
  | x :: a, b => by simp only [List.cons_append, belL, bel_app m a b, Bool.and_assoc]
theorem ver_bel (v : Ver) (m : Nat) : belL m v.cs = true := by
  unfold Ver.cs; rw [bel_app, bel_C]
  unfold Ver.rt; cases v.d with
  | none => rfl
  | some d => exact belL_good _ _ (by simp [goodL])
def versO (vs : List Ver) : AObj := .row 6 (vs.map Ver.av)
theorem ld_ver {H : List AObj} {r n i : Nat} {vs : List Ver} {v : Ver} (h : H[r]? = some (versO vs)) (hn : vs.length = n) (hi : vs[i]? = some v) : loadA true 6 (.ptr r n i 0) H = some v.av := by
  unfold loadA versO at *
  simp only [h, List.length_map, hn, if_true, List.getElem?_map, hi, Option.map_some, Option.bind_some]
  rfl
theorem ld_verT {H : List AObj} {r n i : Nat} {vs : List Ver} {v : Ver} (h : H[r]? = some (versO vs)) (hn : vs.length = n) (hi : vs[i]? = some v) : loadA true 5 (.ptr r n i 0) H = some v.t.av := by
  unfold loadA versO at *
  simp only [h, List.length_map, hn, if_true, List.getElem?_map, hi, Option.map_some, Option.bind_some]
  rw [av_C]; rfl
theorem ld_verD {H : List AObj} {r n i : Nat} {vs : List Ver} {v : Ver} (h : H[r]? = some (versO vs)) (hn : vs.length = n) (hi : vs[i]? = some v) : loadA false 1 (.ptr r n i 5) H = some v.rt := by
  unfold loadA versO at *
  simp only [h, List.length_map, hn, if_true, List.getElem?_map, hi, Option.map_some, Option.bind_some]
  rfl
theorem sto_verD {β : Type} {H : List AObj} {r n i : Nat} {vs : List Ver} {v : Ver} {d : Bs} {K : List AObj → List Nat → Option β} (h : H[r]? = some (versO vs)) (hn : vs.length = n) (hi : vs[i]? = some v) :
    stoK 1 (.ptr r n i 5) (bys d) H K = K (H.set r (versO (vs.set i ⟨v.t, some d⟩))) [] := by
  have h2 : storeA 1 (.ptr r n i 5) (bys d) H = some (H.set r (versO (vs.set i ⟨v.t, some d⟩)), []) := by
    unfold storeA versO at *
    have e : setC v.av 5 (bys d).cells = some (Ver.av ⟨v.t, some d⟩) := rfl
    have e2 : escs r (bys d).cells = [] := escs_good (by simp [goodL, bys, AV.cells])
    simp only [h, List.length_map, hn, List.getElem?_map, hi, Option.map_some, Option.bind_some, e, e2]
    rw [if_pos ⟨trivial, rfl, rfl⟩, List.map_set]
  unfold stoK; rw [h2]; rfl
end Go.Pm
namespace Go.Pm
open Go.Proofs
set_option linter.unusedVariables false
set_option linter.unusedSimpArgs false
theorem Clone_l (l : List UInt8) (h : l.length ≤ 140737489400000) : EV C n_Clone_byte [lbys l] [] = some (bys l, [], []) := by
  cases l with
  | nil =>
    refine clone_nilL (C0 := C0) (l := [n_Clone_byte]) rfl rfl ?_ ?_
    · refine Clone_byte_of ?_
      show endB false false 0 .nils [] [] = _
      exact endB_frz (u := .lst []) rfl rfl
    · refine Clone_byte_of ?_
      show endB false false 0 (.slc 0 0 0 0) [.row 1 []] [] = _
      exact endB_frz (u := .lst []) rfl rfl
  | cons x l =>
    rw [show lbys (x :: l) = .lnt (.lst (u8 x :: l.map u8)) from rfl, clone_consL (C0 := C0) (l := [n_Clone_byte]) rfl rfl]
    refine Clone_byte_of ?_
    have e1 : binA .eql (.slice 5) (cmpT Tryd.prog) true (.lnt (.lst (u8 x :: l.map u8))) .nils = some (.bool false) := rfl
    have e2 : ∀ (K : AV → List AObj → List Nat → Option R3), rawK 1 0 (.int .u8 0) [] [] K = K (.slc 0 0 0 0) [.row 1 []] [] := fun K => rfl
    simp only [e1, e2, Option.bind_some, condK_f]
    rw [show AV.lnt (.lst (u8 x :: l.map u8)) = lbys (x :: l) from rfl, appK_row (n := 0) (es := []) (ys := u8 x :: l.map u8) (elemsA_lbys (x :: l) _) rfl rfl rfl (by decide) (by decide) (by decide) (by simp at h ⊢; omega)]
    exact endB_frz (frz_row (z := 1) (es := u8 x :: l.map u8) rfl (by simp) (goodL_u8 (x :: l))) (good_bys (x :: l))
theorem newR_l (b : Bs) (hb : b.length ≤ 2 ^ 46) (H : List AObj) : EV C n_coder_NewReader [lbys b] H = some (.ptr H.length 1 0 0, H ++ [Rd.row ⟨b, false⟩], []) := by
  refine coder_NewReader_of ?_
  dsimp only
  rw [callK_ok (by simp) (Clone_l b (by omega))]
  have fl : ∀ (K : List AV → Option R3), (fillB (AV.cells (.agg [.nils, (.bool false)])) [(0, 1, bys b)]).bind K = K [bys b, .bool false] := fun K => by simp [fillB, AV.cells, AV.isBad, bys]
  rw [fl, new_agg (by simp) (by simp [AV.one, bys])]
  exact endB_raw
theorem newRK_l {β : Type} (b : Bs) (hb : b.length ≤ 2 ^ 46) (H : List AObj) {K : AV → List AObj → List Nat → Option β} : callK (EV C) true n_coder_NewReader [lbys b] H K = K (.ptr H.length 1 0 0) (H ++ [Rd.row ⟨b, false⟩]) [] := callK_raw (newR_l b hb H)
theorem cRead_l (b : Bs) (hb : b.length ≤ 2 ^ 46) : EV C n_command_Read [lbys b] [] = some (resCR (readF b), [], []) := by
  rw [← readP_eq]
  refine command_Read_of ?_
  have f := runP_facts b
  have l0 : b.length ≤ 2 ^ 50 := by omega
  have l1 := numP_len ⟨b, false⟩
  have l2 := numP_len (numP ⟨b, false⟩).2
  have l3 := byteP_len (numP (numP ⟨b, false⟩).2).2
  have l4 := (bytesP_len 64 (byteP (numP (numP ⟨b, false⟩).2).2).2).2
  have hc : Cmd.mk (numP ⟨b, false⟩).1 (numP (numP ⟨b, false⟩).2).1 ((byteP (numP (numP ⟨b, false⟩).2).2).1.toNat : Int) (bytesP 64 (byteP (numP (numP ⟨b, false⟩).2).2).2).1 (bytesP 1024 (bytesP 64 (byteP (numP (numP ⟨b, false⟩).2).2).2).2).1 = (runP b).c := rfl
  have hs : (bytesP 1024 (bytesP 64 (byteP (numP (numP ⟨b, false⟩).2).2).2).2).2 = (runP b).s := rfl
  simp only at l1
  dsimp only
  rw [new_zc, newRK_l b hb]
  simp only [List.length_nil, List.nil_append, List.cons_append, List.length_singleton]
  rw [cnumK (l := 1) (s := ⟨b, false⟩) rfl l0]
  simp only [List.set_cons_succ, List.set_cons_zero]
  rw [cnumK (l := 1) rfl (by omega)]
  simp only [List.set_cons_succ, List.set_cons_zero]
  rw [byteK (l := 1) rfl (by omega)]
  simp only [List.set_cons_succ, List.set_cons_zero, cv_i64, Option.bind_some]
  rw [show (64 : Int) = ((64 : Nat) : Int) from rfl, cbytesK (l := 1) rfl (by omega) (by decide)]
  simp only [List.set_cons_succ, List.set_cons_zero]
  rw [show (1024 : Int) = ((1024 : Nat) : Int) from rfl, cbytesK (l := 1) rfl (by omega) (by decide)]
  simp only [List.set_cons_succ, List.set_cons_zero]
  have F := fill_cmd (β := R3) (runP b).c
  rw [← hc] at F
  simp only at F
  rw [F, hs, hc, new_zc]
  simp only [List.length_cons, List.length_nil, List.cons_append, List.nil_append, Nat.zero_add, Nat.reduceAdd]
  rw [sto_cmd (b := 2) rfl rfl]
  simp only [List.set_cons_succ, List.set_cons_zero]
  rw [cendK (l := 1) rfl, cm_all (l := 2) rfl, Option.bind_some, callK_ok (by simp [goodL]) (Write_ok _ f.1 (by omega) (by omega))]
  have bad : ∀ (n : Int) (E : List Nat), ((fillB (AV.cells (.agg [(.int .u64 0), (.int .u64 0), (.int .i64 0), .nils, .nils])) []).bind fun c20 =>
      stoK 5 (.ptr 0 1 0 0) (.agg c20) [AObj.row 5 [.agg zC], (runP b).s.row, .row 5 [(runP b).c.av]] fun H21 E21 =>
      (loadA true 5 (.ptr 0 1 0 0) H21).bind fun a22 => endB false false 0 (.tup [a22, errA n]) H21 (E21 ++ E)) = some (resCR (n, Cmd.zero), [], []) := fun n E => by
    rw [fill_zc, sto_zc (b := 0) rfl rfl]
    simp only [List.set_cons_zero]
    rw [ld_agg (l := 0) (z := 5) rfl rfl]
    exact endCR n _ _
  have good : ∀ (E : List Nat), ((loadA true 5 (.ptr 2 1 0 0) [AObj.row 5 [.agg zC], (runP b).s.row, .row 5 [(runP b).c.av]]).bind fun a23 =>
      stoK 5 (.ptr 0 1 0 0) a23 [AObj.row 5 [.agg zC], (runP b).s.row, .row 5 [(runP b).c.av]] fun H24 E24 =>
      (loadA true 5 (.ptr 0 1 0 0) H24).bind fun a25 => endB false false 0 (.tup [a25, .nili]) H24 (E24 ++ E)) = some (resCR (0, (runP b).c), [], []) := fun E => by
    rw [cm_all (l := 2) rfl, Option.bind_some, sto_cmd' (b := 0) rfl rfl]
    simp only [List.set_cons_zero]
    rw [cm_all (l := 0) rfl]
    exact endB_good (v := resCR (0, (runP b).c)) (good_resCR _)
  have b3 := bad 3
  rw [show errA 3 = AV.ifc t_api_Code (.int .i64 3) from rfl] at b3
  unfold readP resW
  dsimp only
  have er := endRd_range (runP b).s
  cases hm : (runP b).c.may with
  | true =>
    simp -implicitDefEqProofs only [neq_nil1, neqE0, Bool.true_eq_false, false_and, ZS, Nat.reduceAdd]
    rcases er with e | e | e
    · simp -implicitDefEqProofs only [e, ZS, Nat.reduceAdd]
      exact good _
    · have e3 : ¬ ((3 : Int) = 0) := by decide
      simp -implicitDefEqProofs only [e, e3, ZS, Nat.reduceAdd]
      exact bad 3 _
    · have e3 : ¬ ((4 : Int) = 0) := by decide
      simp -implicitDefEqProofs only [e, e3, ZS, Nat.reduceAdd]
      exact bad 4 _
  | false =>
    have e3 : ¬ ((3 : Int) = 0) := by decide
    have w1 : ∀ ms c, binA .neq (.interface ms) c true (errA 1) .nili = some (.bool true) := fun ms c => rfl
    have w3 : ∀ ms c, binA .neq (.interface ms) c true (.ifc t_api_Code (.int .i64 3)) .nili = some (.bool true) := fun ms c => rfl
    simp -implicitDefEqProofs only [w1, w3, neqE0, neqEc _ _ _ e3, Bool.false_eq_true, ZS, Nat.reduceAdd]
    rcases er with e | e | e
    · have e4 : ¬ ((0 : Int) = 3) := by decide
      simp -implicitDefEqProofs only [e, e3, e4, ne_eq, not_false_eq_true, and_self, ZS, Nat.reduceAdd]
      exact b3 _
    · simp -implicitDefEqProofs only [e, e3, ne_eq, not_true_eq_false, and_false, ZS, Nat.reduceAdd]
      exact bad 3 _
    · have e4 : ¬ ((4 : Int) = 3) := by decide
      simp -implicitDefEqProofs only [e, e3, e4, ne_eq, not_false_eq_true, and_self, ZS, Nat.reduceAdd]
      exact b3 _
theorem cApply_l (b : Bs) (hb : b.length ≤ 2 ^ 46) {t : Bt} {n : Nat} (h : BInv t n) (hn : n + 1 < 2^20) : EV C n_command_Apply [t.tre.av, lbys b] [] = some (resA3 (applyF t b).1.tre (applyF t b).2 0, [], []) := by
  refine command_Apply_of ?_
  simp -implicitDefEqProofs only [new_z, ZS, ZT, Nat.reduceAdd]
  rw [callK_ok (by simp) (avlIs_ok t.tre (tre_ok h.sml) (h.nodes (by omega))), h.is' (by omega)]
  simp -implicitDefEqProofs only [not_bool, ZS, ZT, Nat.reduceAdd]
  rw [callK_ok (by simp) (cRead_l b hb)]
  simp -implicitDefEqProofs only [resCR, new_zc, ZS, ZT, Nat.reduceAdd]
  rw [sto_cmd' (b := 2) rfl rfl]
  simp -implicitDefEqProofs only [neqE0, ZS, ZT, Nat.reduceAdd]
  unfold applyF
  by_cases hr : (readF b).1 = 0
  · obtain ⟨hm, hw⟩ := readF_ok (b := b) (c := (readF b).2) (by rw [← hr])
    generalize hc : (readF b).2 = c at hm hw ⊢
    have h2 : ∀ o0 o1 T, (o0 :: o1 :: AObj.row 5 [c.av] :: T)[2]? = some (.row 5 [c.av]) := fun _ _ _ => rfl
    rw [if_pos hr]
    simp -implicitDefEqProofs only [hr, cm_client (h2 _ _ _), ZS, ZT, Nat.reduceAdd]
    rw [callK_ok (by simp [goodL, AV.good]) (last_ok c.client hw.1 h (by omega))]
    simp -implicitDefEqProofs only [resL, cm_seq (h2 _ _ _), ZS, ZT, Nat.reduceAdd]
    have S := apply_S11 c hm hw h hn
    unfold applyC
    rw [last_sess]
    cases hl : (lastFc t c.client).2.2 with
    | false =>
      simp -implicitDefEqProofs only [Bool.false_eq_true, ZS, ZT, Nat.reduceAdd]
      exact S _
    | true =>
      simp -implicitDefEqProofs only [ZS, ZT, Nat.reduceAdd]
      by_cases c1 : c.seq < (lastFc t c.client).1
      · have c1' : (c.seq : Int) < ((lastFc t c.client).1 : Int) := by omega
        rw [if_pos c1', if_pos c1, sto_t (b := 1) rfl rfl]
        simp -implicitDefEqProofs only [ZS, ZT, Nat.reduceAdd]
        exact endB_good (v := resA3 t.tre 5 0) (good_resA3 _ _ _)
      · have c1' : ¬ (c.seq : Int) < ((lastFc t c.client).1 : Int) := by omega
        rw [if_neg c1', if_neg c1]
        by_cases c2 : (lastFc t c.client).1 = c.seq
        · have c2' : ((lastFc t c.client).1 : Int) = (c.seq : Int) := by omega
          rw [if_pos c2', if_pos c2, sto_t (b := 1) rfl rfl]
          simp -implicitDefEqProofs only [ZS, ZT, Nat.reduceAdd]
          exact endB_good (v := resA3 t.tre (lastFc t c.client).2.1 0) (good_resA3 _ _ _)
        · have c2' : ¬ ((lastFc t c.client).1 : Int) = (c.seq : Int) := by omega
          rw [if_neg c2', if_neg c2]
          exact S _
  · rw [if_neg hr]
    simp -implicitDefEqProofs only [hr, ZS, ZT, Nat.reduceAdd]
    rw [sto_t (b := 1) rfl rfl]
    simp -implicitDefEqProofs only [ZS, ZT, Nat.reduceAdd]
    exact endB_good (v := resA3 t.tre 0 0) (good_resA3 _ _ _)
theorem noL_trav (t : Tre) : t.av.noL = true := by
  induction t using Tre.ind with
  | h t ih =>
    rw [av_eq]
    simp only [AV.noL, noLL, noL_bys, Bool.true_and, kidsA, Bool.and_true]
    exact noLL_all.2 fun v hv => by
      obtain ⟨k, hk, rfl⟩ := List.mem_map.1 hv
      exact ih k hk
theorem noL_errc (n : Int) : (errA n).noL = true := by unfold errA; split <;> rfl
theorem noL_A3 (t : Tre) (x : Int) (n : Int) : (resA3 t x n).noL = true := by simp [resA3, AV.noL, noLL, noL_trav, noL_errc]
end Go.Pm
namespace Go.Pm
open Go.Proofs
set_option linter.unusedVariables false
set_option linter.unusedSimpArgs false
structure Ent where
  term : Int
  kind : Int
  data : Bs
def Ent.cs (e : Ent) : List AV := [.int .i64 e.term, .int .i64 e.kind, bys e.data]
def Ent.av (e : Ent) : AV := .agg e.cs
def stepE (t : Bt) (e : Ent) : Bt × Int := if e.kind = 1 then applyF t e.data else (t, 0)
/-- a fold in the heap -/
structure FoldH (H : List AObj) (l r : Nat) (i0 : Int) (vs : List Ver) : Prop where
  hl : H[l]? = some (foldV i0 r vs.length)
  hr : H[r]? = some (versO vs)
  lt : r < l
def appH (H : List AObj) (l r : Nat) (i0 : Int) (vs : List Ver) : List AObj := (H.set r (versO vs)).set l (foldV i0 r vs.length)
theorem appH_fold {H : List AObj} {l r : Nat} {i0 : Int} {vs ws : List Ver} (h : FoldH H l r i0 vs) : FoldH (appH H l r i0 ws) l r i0 ws := by
  have a := lt_get h.hl
  have b := lt_get h.hr
  refine ⟨?_, ?_, h.lt⟩
  · unfold appH; rw [List.getElem?_set_self (by simpa using a)]
  · unfold appH; rw [List.getElem?_set_ne (by have := h.lt; omega), List.getElem?_set_self b]
theorem app_tail {H T : List AObj} {l r : Nat} {i0 : Int} {vs : List Ver} {nv : Ver} {res : Int} {E : List Nat} (h : FoldH H l r i0 vs) (hn : vs.length ≤ 2^20) (hE : E = []) :
    (rawK 6 1 (.agg [(.int .i64 0), .nils, .nils, .nils, .nils, .nils]) [(0, nv.av)] (H ++ T) fun a60 H60 E60 =>
      drawK (((loadA false 1 (.ptr l 1 0 1) H60).bind fun a61 =>
      some a61) = some (.slc r 0 vs.length vs.length))
      (appK 6 128 (.slc r 0 vs.length vs.length) a60 H60 fun a62 H62 E62 =>
      (nilA (.ptr l 1 0 0)).bind fun a63 =>
      (offA a63 1).bind fun a64 =>
      stoK 1 a64 a62 H62 fun H65 E65 =>
      endB false false H.length (.int .i64 res) H65 (E65 ++ (E62 ++ (E60 ++ E))))) = some (.int .i64 res, appH H l r i0 (vs ++ [nv]), []) := by
  subst hE
  unfold Ver.av
  rw [raw_ver (ver_len nv) (ver_one nv)]
  have hl : (H ++ T ++ [AObj.row 6 [.agg nv.cs]])[l]? = some (foldV i0 r vs.length) := ga (ga h.hl)
  have hr : (H ++ T ++ [AObj.row 6 [.agg nv.cs]])[r]? = some (versO vs) := ga (ga h.hr)
  have hy : elemsA (.slc (H ++ T).length 0 1 1) (H ++ T ++ [AObj.row 6 [.agg nv.cs]]) = some [.agg nv.cs] := elemsA_row (get_end _ _) rfl
  have ne : r ≠ l := by have := h.lt; omega
  have es0 : (if ([AV.agg nv.cs] : List AV).isEmpty then [] else escs r [.agg nv.cs]) = [] := by
    simp [escs, belL, AV.bel, ver_bel]
  have es1 : escs l [.slc r 0 (vs.length + 1) (vs.length + 1)] = [] := by
    have := h.lt
    simp [escs, belL, AV.bel]; omega
  rw [drawK_t (by rw [ld_fld (j := 1) (v := .slc r 0 vs.length vs.length) hl rfl]; rfl), appK_row (es := vs.map Ver.av) (ys := [.agg nv.cs]) hy hr (by simp) rfl (by decide) (by decide) (by decide) (by simp; omega), es0]
  simp -implicitDefEqProofs only [nilA_ptr, offA_ptr, Option.bind_some, Nat.zero_add, List.length_singleton]
  rw [sto_fld (z := 2) (cs := [.int .i64 i0, .slc r 0 vs.length vs.length]) (by rw [List.getElem?_set_ne ne]; exact hl) (by simp) rfl rfl, es1]
  refine endB_take rfl rfl rfl ?_
  have e1 : AObj.row 6 (vs.map Ver.av ++ [.agg nv.cs]) = versO (vs ++ [nv]) := by simp [versO, Ver.av]
  have e2 : AObj.row 2 [.agg (([.int .i64 i0, .slc r 0 vs.length vs.length] : List AV).set 1 (.slc r 0 (vs.length + 1) (vs.length + 1)))] = foldV i0 r (vs ++ [nv]).length := by simp [foldV]
  rw [e1, e2, List.append_assoc, sa h.hr, sa (x := foldV i0 r vs.length) (by rw [List.getElem?_set_ne ne]; exact h.hl)]
  unfold appH
  simp [kills, killAll, List.take_append]
abbrev EX (e : Ent) (x : AV) : AV := .agg [.int .i64 e.term, .int .i64 e.kind, x]
theorem Apply_x {x : AV} (hx1 : x.one = true) {H : List AObj} {l r : Nat} {i0 : Int} {vs : List Ver} {v : Ver} {b : Bt} {m : Nat} (h : FoldH H l r i0 vs) (hn : vs.length ≤ 2^20) (hv : vs[vs.length - 1]? = some v) (hb : v.t = b.tre) (inv : BInv b m) (hm : m + 1 < 2^20) (e : Ent) (hA : ∀ T (K : AV → List AObj → List Nat → Option R3), calXK (EV C) 14 n_command_Apply [b.tre.av, x] (H ++ T) K = K (resA3 (applyF b e.data).1.tre (applyF b e.data).2 0) (H ++ T) []) :
    EV C n_fold_Fold_Apply [.ptr l 1 0 0, (EX e x)] H = some (.int .i64 (stepE b e).2, appH H l r i0 (vs ++ [if e.kind = 1 then ⟨(stepE b e).1.tre, none⟩ else v]), []) := by
  have hlen : 0 < vs.length := by
    cases vs with
    | nil => simp at hv
    | cons => simp
  refine fold_Fold_Apply_of ?_
  dsimp only
  have n1 : ∀ (K : AV → List AObj → List Nat → Option R3), newK (EX e x) H K = K (.ptr H.length 1 0 0) (H ++ [.row 3 [(EX e x)]]) [] := fun K => by
    rw [new_agg (by simp) (by simp [AV.one, hx1])]; rfl
  have l1 : ∀ T, loadA false 1 (.ptr l 1 0 1) (H ++ T) = some (.slc r 0 vs.length vs.length) := fun T => ld_fld (ga h.hl) rfl
  have le : ∀ T, lenV (.slc r 0 vs.length vs.length) (H ++ T) = some (.int .i64 vs.length) := fun T => lenV_slc (es := vs.map Ver.av) (ga h.hr) (by simp)
  have sb : binA .sub (Go.TypeDesc.int Go.IntKind.i64) (cmpT Tryd.prog) true (.int .i64 (vs.length : Int)) (.int .i64 1) = some (.int .i64 ((vs.length - 1 : Nat) : Int)) := by
    rw [sub_int, w64 (n := vs.length - 1) (by omega) (by omega)]
  have x1 : ∀ T, ixA 6 (.slc r 0 vs.length vs.length) (.int .i64 ((vs.length - 1 : Nat) : Int)) (H ++ T) = some (.ptr r vs.length (vs.length - 1) 0) := fun T => ix_row (es := vs.map Ver.av) (ga h.hr) (by simp) (by omega)
  have l2 : ∀ T, loadA true 6 (.ptr r vs.length (vs.length - 1) 0) (H ++ T) = some v.av := fun T => ld_ver (ga h.hr) rfl hv
  have n2 : ∀ o (K : AV → List AObj → List Nat → Option R3), newK (.agg [(.int .i64 0), .nils, .nils, .nils, .nils, .nils]) (H ++ [o]) K = K (.ptr (H.length + 1) 1 0 0) (H ++ [o, .row 6 [.agg [(.int .i64 0), .nils, .nils, .nils, .nils, .nils]]]) [] := fun o K => by
    rw [new_agg (by simp) rfl]; simp
  have st : ∀ (o : AObj) (cs ds : List AV) (T : List AObj) (K : List AObj → List Nat → Option R3), cs.length = 6 → ds.length = 6 → ds.all AV.one = true → belL (H.length + 2) ds = true → stoK 6 (.ptr (H.length + 1) 1 0 0) (.agg ds) (H ++ o :: .row 6 [.agg cs] :: T) K = K (H ++ o :: .row 6 [.agg ds] :: T) [] := fun o cs ds T K h1 h2 h3 h4 => by
    rw [sto_agg (g1 _ _ _ _) h1 h2 h3, s1]
    simp [escs, h4]
  have l3 : ∀ T, loadA false 1 (.ptr H.length 1 0 1) (H ++ .row 3 [(EX e x)] :: T) = some (.int .i64 e.kind) := fun T => ld_fld (g0 _ _ _) rfl
  have l3' : ∀ T, loadA false 1 (.ptr H.length 1 0 2) (H ++ .row 3 [(EX e x)] :: T) = some x := fun T => ld_fld (g0 _ _ _) rfl
  have l4 : ∀ o (w : Ver) T, loadA true 6 (.ptr (H.length + 1) 1 0 0) (H ++ o :: .row 6 [.agg w.cs] :: T) = some w.av := fun o w T => ld_agg (g1 _ _ _ _) rfl
  have l5 : ∀ o (w : Ver) T, loadA true 5 (.ptr (H.length + 1) 1 0 0) (H ++ o :: .row 6 [.agg w.cs] :: T) = some w.t.av := fun o w T => by
    unfold loadA; simp only [g1]; rw [av_C]; rfl
  rw [n1]
  simp -implicitDefEqProofs only [nilA_ptr, offA_ptr, Nat.zero_add, Option.bind_some, l1, le, sb, x1, l2, n2, drawK_T, drawK_eq]
  rw [show v.av = .agg v.cs from rfl, st _ _ _ _ _ rfl rfl (ver_one v) (ver_bel v _)]
  simp -implicitDefEqProofs only [offA_ptr, Nat.zero_add, Option.bind_some, l3, eql_int, condK_dec]
  by_cases hk : e.kind = 1
  · rw [if_pos hk, if_pos hk]
    simp -implicitDefEqProofs only [offA_ptr, Nat.zero_add, Nat.add_zero, Option.bind_some, l5, l3', hb]
    rw [hA]
    have hs : stepE b e = applyF b e.data := by unfold stepE; rw [if_pos hk]
    rw [hs]
    have n3 : ∀ o p (K : AV → List AObj → List Nat → Option R3), newK (.agg [(.int .i64 0), .nils, .nils, .nils, .nils]) (H ++ [o, p]) K = K (.ptr (H.length + 2) 1 0 0) (H ++ [o, p, .row 5 [.agg [(.int .i64 0), .nils, .nils, .nils, .nils]]]) [] := fun o p K => by
      rw [new_z]; simp
    have s3 : ∀ o p (t : Tre) (cs : List AV) (K : List AObj → List Nat → Option R3), cs.length = 5 → stoK 5 (.ptr (H.length + 2) 1 0 0) t.av (H ++ [o, p, .row 5 [.agg cs]]) K = K (H ++ [o, p, .row 5 [t.av]]) [] := fun o p t cs K hc => by
      rw [sto_t (g2 _ _ _ _ _) hc, s2]
    have l6 : ∀ o p (t : Tre), loadA true 5 (.ptr (H.length + 2) 1 0 0) (H ++ [o, p, .row 5 [t.av]]) = some t.av := fun o p t => ld_box (g2 _ _ _ _ _)
    simp -implicitDefEqProofs only [resA3, extA_0, extA_1, extA_2, Option.bind_some, n3]
    rw [s3 _ _ _ _ _ rfl]
    simp -implicitDefEqProofs only [eqlE0, Option.bind_some, condK_dec, condK_t, if_true, l6]
    rw [av_C, fill_ver rfl, show treC (applyF b e.data).1.tre ++ [AV.nils] = Ver.cs ⟨(applyF b e.data).1.tre, none⟩ from rfl, st _ _ _ _ _ rfl rfl (ver_one ⟨(applyF b e.data).1.tre, none⟩) (ver_bel ⟨(applyF b e.data).1.tre, none⟩ _)]
    simp -implicitDefEqProofs only [nilA_ptr, offA_ptr, Nat.zero_add, Option.bind_some, l1]
    rw [l4, Option.bind_some]
    exact app_tail h hn rfl
  · rw [if_neg hk, if_neg hk]
    simp -implicitDefEqProofs only [nilA_ptr, offA_ptr, Nat.zero_add, Option.bind_some, l1, l4]
    have hs : (stepE b e).2 = 0 := by unfold stepE; rw [if_neg hk]
    rw [hs]
    exact app_tail h hn rfl
end Go.Pm
namespace Go.Pm
open Go.Proofs
set_option linter.unusedVariables false
set_option linter.unusedSimpArgs false
theorem FoldH.app {H : List AObj} {l r : Nat} {i0 : Int} {vs : List Ver} (h : FoldH H l r i0 vs) (T : List AObj) : FoldH (H ++ T) l r i0 vs := ⟨ga h.hl, ga h.hr, h.lt⟩
theorem Last_fold {H : List AObj} {l r : Nat} {i0 : Int} {vs : List Ver} (h : FoldH H l r i0 vs) (h0 : 0 ≤ i0) (h1 : i0 ≤ 2^60) (hn : vs.length ≤ 2^20) : EV C n_fold_Fold_Last [.ptr l 1 0 0] H = some (.int .i64 (i0 + vs.length - 1), H, []) :=
  Last_ok (es := vs.map Ver.av) h.hl h.hr (by simp) h0 h1 (by omega)
theorem at_ok {H : List AObj} {l r : Nat} {i0 : Int} {vs : List Ver} (h : FoldH H l r i0 vs) (h0 : 0 ≤ i0) (h1 : i0 ≤ 2^60) (hn : vs.length ≤ 2^20) (j : Nat) (hj : j < vs.length) : EV C n_fold_Fold_at [.ptr l 1 0 0, .int .i64 (i0 + j)] H = some (.tup [.ptr r vs.length j 0, .nili], H, []) := by
  refine fold_Fold_at_of ?_
  simp -implicitDefEqProofs only [nilA_ptr, offA_ptr, Nat.zero_add, Option.bind_some, ld_fld (j := 0) (v := .int .i64 i0) h.hl rfl, ld_fld (j := 1) (v := .slc r 0 vs.length vs.length) h.hl rfl, lss_int, splitK_dec]
  rw [if_neg (by omega), callK_ptrF (bs := [.ptr l 1 0 0]) rfl rfl rfl (Last_fold h h0 h1 hn)]
  simp -implicitDefEqProofs only [nilA_ptr, offA_ptr, Nat.zero_add, Option.bind_some, ld_fld (j := 0) (v := .int .i64 i0) h.hl rfl, ld_fld (j := 1) (v := .slc r 0 vs.length vs.length) h.hl rfl, gtr_int, condK_dec]
  rw [if_neg (by omega), sub_int, Option.bind_some, w64 (n := j) (by omega) (by omega), ix_row (es := vs.map Ver.av) h.hr (by simp) hj, Option.bind_some]
  have lr := lt_get h.hr
  refine (show endB false false H.length (.tup [.ptr r vs.length j 0, .nili]) H ([] ++ []) = _ from ?_)
  simp [endB, endA, frz, frzL, kills, killsL, killAll, AV.bel, belL, lr]
theorem atK {β : Type} {H : List AObj} {l r : Nat} {i0 : Int} {vs : List Ver} (h : FoldH H l r i0 vs) (h0 : 0 ≤ i0) (h1 : i0 ≤ 2^60) (hn : vs.length ≤ 2^20) (j : Nat) (hj : j < vs.length) {K : AV → List AObj → List Nat → Option β} :
    callK (EV C) false n_fold_Fold_at [.ptr l 1 0 0, .int .i64 (i0 + j)] H K = K (.tup [.ptr r vs.length j 0, .nili]) H [] := callM (by simp [goodL, AV.good]) (at_ok h h0 h1 hn j hj)
theorem dig32 {b : Bt} {m : Nat} (inv : BInv b m) (hm : m < 2^20) : digF 32 b.tre = (0, dg 32 b.tre) ∧ (dg 32 b.tre).length = 32 ∧ Gd 32 b.tre ∧ fullF b.tre = true := by
  have g := is_gd (w := 32) rfl (tre_ok inv.sml) (inv.is' hm)
  have hd := g.1.dgs
  have hl := told_len (w := 32) rfl _ g.1.formed hd
  refine ⟨?_, by omega, g.1, g.2⟩
  have hc : checkF b.tre = 0 := by unfold checkF; rw [g.1.formed, g.1.deep]; rfl
  unfold digF
  rw [if_neg (by decide), if_pos hc, hd]
def dgB (b : Bt) : Bs := dg 32 b.tre
theorem Root_ok {H : List AObj} {l r : Nat} {i0 : Int} {vs : List Ver} {v : Ver} {b : Bt} {m : Nat} (h : FoldH H l r i0 vs) (h0 : 0 ≤ i0) (h1 : i0 ≤ 2^60) (hn : vs.length ≤ 2^20) (j : Nat) (hj : vs[j]? = some v) (hb : v.t = b.tre) (inv : BInv b m) (hm : m < 2^20) (hd : v.d = none ∨ v.d = some (dgB b)) :
    EV C n_fold_Fold_Root [.ptr l 1 0 0, .int .i64 (i0 + j)] H = some (.tup [bys (dgB b), .nili], H.set r (versO (vs.set j ⟨v.t, some (dgB b)⟩)), []) := by
  have lj := lt_get hj
  have D := dig32 inv hm
  have L : (dgB b).length = 32 := D.2.1
  refine fold_Fold_Root_of ?_
  dsimp only
  rw [atK h h0 h1 hn j lj]
  simp -implicitDefEqProofs only [extA_0, extA_1, Option.bind_some, neq_nil1, condK_f, nilA_ptr, offA_ptr, Nat.zero_add, ld_verD h.hr rfl hj]
  have q1 : binA .eql (Go.TypeDesc.slice 5) (cmpT Tryd.prog) true .nils .nils = some (.bool true) := by kernel_rfl
  rcases hd with hd | hd
  · rw [show v.rt = .nils from by unfold Ver.rt; rw [hd], q1]
    simp -implicitDefEqProofs only [Option.bind_some, condK_t, nilA_ptr, offA_ptr, Nat.zero_add, ld_verT h.hr rfl hj]
    have DD := Digest_ok 32 v.t (by rw [hb]; exact tre_ok inv.sml)
    have DD' : EV C n_tree_Digest [.int .i64 32, v.t.av] [] = some (resD (0, dgB b), [], []) := by
      rw [hb, D.1] at DD; rw [hb]; exact DD
    rw [callK_ok (by simp [goodL]) DD']
    simp -implicitDefEqProofs only [resD, extA_0, extA_1, Option.bind_some, nilA_ptr, offA_ptr, Nat.zero_add]
    rw [sto_verD h.hr rfl hj]
    have hr' : (H.set r (versO (vs.set j ⟨v.t, some (dgB b)⟩)))[r]? = some (versO (vs.set j ⟨v.t, some (dgB b)⟩)) := set_get h.hr
    have ld : loadA false 1 (.ptr r vs.length j 5) (H.set r (versO (vs.set j ⟨v.t, some (dgB b)⟩))) = some (bys (dgB b)) := by
      rw [ld_verD hr' (by simp) (v := ⟨v.t, some (dgB b)⟩) (by rw [List.getElem?_set_self lj])]; rfl
    have ne0 : binA .neq (Go.TypeDesc.interface #[("Error", 202)]) (cmpT Tryd.prog) true (errA 0) .nili = some (.bool false) := by kernel_rfl
    simp -implicitDefEqProofs only [ne0, Option.bind_some, condK_f, ld]
    rw [callK_ok (by simp [goodL]) (Clone_byte_ok _ (by omega))]
    have fz : ∀ H, frz H (.tup [bys (dgB b), .nili]) = some (.tup [bys (dgB b), .nili]) := fun H => frz_tup (frzL_cons (frz_good _ _ (good_bys _)) rfl)
    refine endB_at (H0 := H) (fz _) (by simp [goodL]) (by simp [kills, killsL, kills_good _ (good_bys _)]) rfl ?_
    exact List.length_set
  · have e : H.set r (versO (vs.set j ⟨v.t, some (dgB b)⟩)) = H := by
      have e1 : vs.set j ⟨v.t, some (dgB b)⟩ = vs := by
        apply set_same; rw [hj]; rw [← hd]
      rw [e1, set_same h.hr]
    have q2 : binA .eql (Go.TypeDesc.slice 5) (cmpT Tryd.prog) true (bys (dgB b)) .nils = some (.bool false) := by
      have : ∀ x : Bs, x.length = 32 → binA .eql (Go.TypeDesc.slice 5) (cmpT Tryd.prog) true (bys x) .nils = some (.bool false) := fun x hx => by
        cases x with
        | nil => simp at hx
        | cons a x => rfl
      exact this _ L
    rw [show v.rt = bys (dgB b) from by unfold Ver.rt; rw [hd], q2, e]
    simp -implicitDefEqProofs only [Option.bind_some, condK_f]
    rw [callK_ok (by simp [goodL]) (Clone_byte_ok _ (by omega))]
    have fz : ∀ H, frz H (.tup [bys (dgB b), .nili]) = some (.tup [bys (dgB b), .nili]) := fun H => frz_tup (frzL_cons (frz_good _ _ (good_bys _)) rfl)
    exact endB_at (H0 := H) (fz _) (by simp [goodL]) (by simp [kills, killsL, kills_good _ (good_bys _)]) rfl (by simp)
end Go.Pm
namespace Go.Pm
open Go.Proofs
set_option linter.unusedVariables false
set_option linter.unusedSimpArgs false
theorem targ_z : TArg [.int .i64 0, .nils, .nils, .nils, .nils] Tre.nil where
  len := rfl
  one := rfl
  frz := frz_nil0
  kil := rfl
theorem New_lo (i : Int) (hi : i < 0) {cs : List AV} {t : Tre} (h : TArg cs t) (H : List AObj) : EV C n_fold_New [.int .i64 i, .agg cs] H = some (.tup [.nilp, .ifc t_api_Code (.int .i64 1)], H ++ [.row 5 [.agg cs]], []) := by
  refine fold_New_of ?_
  dsimp only
  rw [h.new]
  simp -implicitDefEqProofs only [ZS, ZT, Nat.reduceAdd]
  rw [if_pos hi]
  exact endB_raw
def z5 : AObj := .row 5 [.agg [.int .i64 0, .nils, .nils, .nils, .nils]]
def v6 : AObj := .row 6 [.agg [.int .i64 0, .nils, .nils, .nils, .nils, .nils]]
def v6' : AObj := .row 6 [.agg [.int .i64 0, .nils, .nils, .nils, .nils, .nils], .agg [.int .i64 0, .nils, .nils, .nils, .nils, .nils]]
def zEnt : AV := .agg [.int .i64 0, .int .i64 0, .lst []]
theorem Apply0_ok : EV C n_fold_Fold_Apply [.ptr 2 1 0 0, zEnt] [z5, v6, foldV 3 1 1, z5] = some (.int .i64 0, [z5, v6', foldV 3 1 2, z5], []) := by
  refine fold_Fold_Apply_of ?_
  have n1 : ∀ (K : AV → List AObj → List Nat → Option R3), newK zEnt [z5, v6, foldV 3 1 1, z5] K = K (.ptr 4 1 0 0) [z5, v6, foldV 3 1 1, z5, .row 3 [zEnt]] [] := fun K => rfl
  have l1 : ∀ T, loadA false 1 (.ptr 2 1 0 1) (z5 :: v6 :: foldV 3 1 1 :: z5 :: T) = some (.slc 1 0 1 1) := fun T => rfl
  have le : ∀ T, lenV (.slc 1 0 1 1) (z5 :: v6 :: foldV 3 1 1 :: z5 :: T) = some (.int .i64 1) := fun T => rfl
  have s1 : binA .sub (Go.TypeDesc.int Go.IntKind.i64) (cmpT Tryd.prog) true (.int .i64 1) (.int .i64 1) = some (.int .i64 0) := by kernel_rfl
  have x1 : ∀ T, ixA 6 (.slc 1 0 1 1) (.int .i64 0) (z5 :: v6 :: foldV 3 1 1 :: z5 :: T) = some (.ptr 1 1 0 0) := fun T => rfl
  have l2 : ∀ T, loadA true 6 (.ptr 1 1 0 0) (z5 :: v6 :: foldV 3 1 1 :: z5 :: T) = some (.agg [.int .i64 0, .nils, .nils, .nils, .nils, .nils]) := fun T => rfl
  have n2 : ∀ o (K : AV → List AObj → List Nat → Option R3), newK (.agg [(.int .i64 0), .nils, .nils, .nils, .nils, .nils]) (z5 :: v6 :: foldV 3 1 1 :: z5 :: [o]) K = K (.ptr 5 1 0 0) (z5 :: v6 :: foldV 3 1 1 :: z5 :: [o, v6]) [] := fun o K => rfl
  have st : ∀ o T (K : List AObj → List Nat → Option R3), stoK 6 (.ptr 5 1 0 0) (.agg [.int .i64 0, .nils, .nils, .nils, .nils, .nils]) (z5 :: v6 :: foldV 3 1 1 :: z5 :: o :: v6 :: T) K = K (z5 :: v6 :: foldV 3 1 1 :: z5 :: o :: v6 :: T) [] := fun o T K => rfl
  have l3 : ∀ T, loadA false 1 (.ptr 4 1 0 1) (z5 :: v6 :: foldV 3 1 1 :: z5 :: .row 3 [zEnt] :: T) = some (.int .i64 0) := fun T => rfl
  have q1 : binA .eql (Go.TypeDesc.int Go.IntKind.i64) (cmpT Tryd.prog) true (.int .i64 0) (.int .i64 1) = some (.bool false) := by kernel_rfl
  have l4 : ∀ o T, loadA true 6 (.ptr 5 1 0 0) (z5 :: v6 :: foldV 3 1 1 :: z5 :: o :: v6 :: T) = some (.agg [.int .i64 0, .nils, .nils, .nils, .nils, .nils]) := fun o T => rfl
  have d1 : ∀ o (K : AV → List AObj → List Nat → Option R3), rawK 6 1 (.agg [(.int .i64 0), .nils, .nils, .nils, .nils, .nils]) [(0, .agg [.int .i64 0, .nils, .nils, .nils, .nils, .nils])] [z5, v6, foldV 3 1 1, z5, o, v6] K = K (.slc 6 0 1 1) [z5, v6, foldV 3 1 1, z5, o, v6, v6] [] := fun o K => rfl
  dsimp only
  rw [n1]
  simp -implicitDefEqProofs only [nilA_ptr, offA_ptr, Nat.zero_add, Option.bind_some, l1, le, s1, x1, l2, n2, List.cons_append, List.nil_append, drawK_T, drawK_t, st, l3, q1, condK_f, l4]
  rw [d1]
  simp -implicitDefEqProofs only [l1, Option.bind_some, drawK_T, drawK_t]
  exact Eq.trans (b := endB false false 4 (.int .i64 0) [z5, v6', foldV 3 1 2, z5, .row 3 [zEnt], v6, v6] []) rfl rfl
theorem up13_ok : EV C n_law13_up [] [] = some (.bool true, [], []) := by
  refine law13_up_of ?_
  have e1 : EV C n_fold_New [.int .i64 3, .agg [.int .i64 0, .nils, .nils, .nils, .nils]] [] = some (.tup [.ptr 2 1 0 0, .nili], [z5, v6, foldV 3 1 1], []) := New_ok 3 (by decide) (by decide) targ_z nil_ok (by decide) rfl []
  have e2 : EV C n_fold_New [.int .i64 (-1), .agg [.int .i64 0, .nils, .nils, .nils, .nils]] [z5, v6, foldV 3 1 1] = some (.tup [.nilp, .ifc t_api_Code (.int .i64 1)], [z5, v6, foldV 3 1 1, z5], []) := New_lo (-1) (by decide) targ_z _
  have q1 : binA .eql (Go.TypeDesc.pointer 124) (cmpT Tryd.prog) true (.ptr 2 1 0 0) .nilp = some (.bool false) := by kernel_rfl
  have q2 : binA .neq (Go.TypeDesc.interface #[("Error", 202)]) (cmpT Tryd.prog) true .nili .nili = some (.bool false) := by kernel_rfl
  have q3 : binA .neq (Go.TypeDesc.interface #[("Error", 202)]) (cmpT Tryd.prog) false (.ifc t_api_Code (.int .i64 1)) (.ifc t_api_Code (.int .i64 1)) = some (.bool false) := by kernel_rfl
  have f1 : ∀ (K : List AV → Option R3), (fillB (AV.cells (.agg [(.int .i64 0), (.int .i64 0), .nils])) []).bind K = K [.int .i64 0, .int .i64 0, .nils] := fun K => rfl
  have a1 : ∀ (K : AV → List AObj → List Nat → Option R3), callK (EV C) false n_fold_Fold_Apply [.ptr 2 1 0 0, .agg [.int .i64 0, .int .i64 0, .nils]] [z5, v6, foldV 3 1 1, z5] K = K (.int .i64 0) [z5, v6', foldV 3 1 2, z5] [] := fun K => callK_ptrF (bs := [.ptr 2 1 0 0, zEnt]) rfl rfl rfl Apply0_ok
  have a2 : ∀ (K : AV → List AObj → List Nat → Option R3), callK (EV C) false n_fold_Fold_First [.ptr 2 1 0 0] [z5, v6', foldV 3 1 2, z5] K = K (.int .i64 3) [z5, v6', foldV 3 1 2, z5] [] := fun K => callK_ptrF (bs := [.ptr 2 1 0 0]) rfl rfl rfl (First_ok rfl)
  have a3 : ∀ (K : AV → List AObj → List Nat → Option R3), callK (EV C) false n_fold_Fold_Last [.ptr 2 1 0 0] [z5, v6', foldV 3 1 2, z5] K = K (.int .i64 4) [z5, v6', foldV 3 1 2, z5] [] := fun K => callK_ptrF (bs := [.ptr 2 1 0 0]) rfl rfl rfl (Last_ok (i := 3) (n := 2) rfl rfl rfl (by decide) (by decide) (by decide))
  dsimp only
  rw [fill_nil, callK_raw e1]
  simp -implicitDefEqProofs only [ZS, ZT, Nat.reduceAdd]
  rw [fill_nil, callK_raw e2]
  simp -implicitDefEqProofs only [q1, q2, q3, ZS, ZT, Nat.reduceAdd]
  rw [f1, a1, a2]
  simp -implicitDefEqProofs only [a3, ZS, ZT, Nat.reduceAdd]
  exact endB_good rfl
end Go.Pm
namespace Go.Pm
open Go.Proofs
set_option linter.unusedVariables false
set_option linter.unusedSimpArgs false
theorem stepE_inv {t : Bt} {n : Nat} (h : BInv t n) (e : Ent) : BInv (stepE t e).1 (n + 2) := by
  unfold stepE; split
  · exact h.applyF e.data
  · exact h.mono (by omega)
theorem FoldH.root {H : List AObj} {l r : Nat} {i0 : Int} {vs ws : List Ver} (h : FoldH H l r i0 vs) (hw : ws.length = vs.length) : FoldH (H.set r (versO ws)) l r i0 ws := by
  have := h.lt
  exact ⟨by rw [List.getElem?_set_ne (by omega), hw]; exact h.hl, set_get h.hr, h.lt⟩
end Go.Pm
namespace Go.Pm
open Go.Proofs
set_option linter.unusedVariables false
theorem ty_ent {B f : Nat} {cs : List AV} (h : tyC Tryd.prog B f 65 cs) : ∃ e : Ent, mkE (agT Tryd.prog 65) cs = e.av := by
  obtain ⟨f', css, rfl, h2⟩ := ty_struct Tryd.underlying65 h
  obtain ⟨c1, _, rfl, ⟨k1, _⟩, h2⟩ := forall2_1 h2
  obtain ⟨c2, _, rfl, ⟨k2, _⟩, h2⟩ := forall2_1 h2
  obtain ⟨c3, _, rfl, ⟨k3, _⟩, h2⟩ := forall2_1 h2
  obtain rfl := forall2_0 h2
  obtain ⟨a, rfl⟩ := ty_i64 k1
  obtain ⟨o, rfl⟩ := ty_i64 k2
  obtain ⟨x, rfl, hx⟩ := ty_bytesB k3
  have e : agT Tryd.prog 65 = true := by unfold agT; rw [Tryd.underlying65]
  exact ⟨⟨a, o, x⟩, by rw [e]; rfl⟩
end Go.Pm
namespace Go.Pm
open Go.Proofs
set_option linter.unusedVariables false
set_option linter.unusedSimpArgs false
/-- bytes in a row of one's own, from place m on; or a fresh empty slice -/
def CelB (m : Nat) (G : List AObj) (bs : Bs) (c : AV) : Prop := (c = .emp none ∧ bs = []) ∨ ∃ l, m ≤ l ∧ c = .slc l 0 bs.length bs.length ∧ G[l]? = some (.row 1 (bs.map u8)) ∧ bs.length ≤ 2^40
theorem celB_one {m : Nat} {G : List AObj} {bs : Bs} {c : AV} (h : CelB m G bs c) : c.cells = [c] ∧ c.one = true ∧ c.isBad = false ∧ isNils c = false ∧ big G c = false ∧ c.bel G.length = true := by
  rcases h with ⟨rfl, _⟩ | ⟨l, _, rfl, h, _⟩
  · exact ⟨rfl, rfl, rfl, rfl, rfl, rfl⟩
  · refine ⟨rfl, rfl, rfl, rfl, ?_, ?_⟩
    · simp [big, h]
    · have := (List.getElem?_eq_some_iff.1 h).1
      simpa [AV.bel] using this
theorem appK_fresh {β : Type} {z by_ : Nat} {x y : AV} {ys : List AV} {H : List AObj} {K : AV → List AObj → List Nat → Option β} (hx : x = .emp none ∨ x = .nils) (hy : elemsA y H = some ys) (hne : ys.isEmpty = false) (hz : lz z ys = true) (h1 : 0 < z) (h2 : 0 < by_) (h3 : by_ ≤ 1048576) (h4 : ys.length * by_ ≤ 140737489400832) :
    appK z by_ x y H K = K (.slc H.length 0 ys.length ys.length) (H ++ [.row z ys]) [] := by
  unfold appK appendA
  rw [hy, Option.bind_some]
  rcases hx with rfl | rfl <;> simp [hne, hz, h1, h2, h3, h4]
theorem app_emp {β : Type} (bs : Bs) (hb : bs.length ≤ 2^40) (m : Nat) (G : List AObj) (hm : m ≤ G.length) : ∃ c Y, CelB m (G ++ Y) bs c ∧ ∀ K : AV → List AObj → List Nat → Option β, appK 1 1 (.emp none) (bys bs) G K = K c (G ++ Y) [] := by
  cases bs with
  | nil => exact ⟨.emp none, [], .inl ⟨rfl, rfl⟩, fun K => by rw [List.append_nil]; rfl⟩
  | cons x xs =>
    refine ⟨.slc G.length 0 (x :: xs).length (x :: xs).length, [.row 1 ((x :: xs).map u8)], .inr ⟨G.length, hm, rfl, by simp, hb⟩, fun K => ?_⟩
    rw [appK_fresh (ys := (x :: xs).map u8) (.inl rfl) rfl rfl (lz_u8 _) (by decide) (by decide) (by decide) (by rw [List.length_map]; omega), List.length_map]
/-- such bytes: none, or a row -/
def CelN (G : List AObj) (c : AV) (N : Nat) : Prop := (c = .emp none ∧ N = 0) ∨ ∃ l bs, c = .slc l 0 N N ∧ G[l]? = some (.row 1 ((bs : Bs).map u8)) ∧ bs.length = N
theorem lenV_sl1 {H : List AObj} {m n : Nat} {es : List AV} (h : H[m]? = some (.row 1 es)) (hn : es.length = n) : lenV (.slc m 0 n n) H = some (.int .i64 (n : Int)) := by simp [lenV, lenA, lenOf, h, hn]
theorem CelN.len {G : List AObj} {c : AV} {N : Nat} (hc : CelN G c N) : lenV c G = some (.int .i64 (N : Int)) := by
  rcases hc with ⟨rfl, rfl⟩ | ⟨l, bs, rfl, h1, h2⟩
  · rfl
  · exact lenV_sl1 h1 (by simpa using h2)
theorem set_ne1 {G : List AObj} {l o z : Nat} {es bs : List AV} {X : AObj} (hl : G[l]? = some (.row 1 bs)) (ho : G[o]? = some (.row z es)) (hz : z ≠ 1) : (G.set l X)[o]? = some (.row z es) := by
  rw [List.getElem?_set_ne]
  · exact ho
  · intro e; subst e; rw [hl] at ho; simp at ho; exact hz ho.1.symm
theorem ix_row1 {H : List AObj} {m n i : Nat} {es : List AV} (h : H[m]? = some (.row 1 es)) (hn : es.length = n) (hi : i < n) : ixA 1 (.slc m 0 n n) (.int .i64 (i : Int)) H = some (.ptr m n i 0) := by
  simp [ixA, indexA, h, hn]; omega
theorem ld_row1 {H : List AObj} {m n i : Nat} {l : List UInt8} (h : H[m]? = some (.row 1 (l.map u8))) (hn : l.length = n) (hi : i < l.length) : loadA false 1 (.ptr m n i 0) H = some (u8 l[i]) := by
  simp [loadA, h, hn, ldv, List.getElem?_eq_getElem hi, AV.cells, u8]
theorem sto_u8 {H : List AObj} {m n i : Nat} {l : List UInt8} {v : UInt8} {K : List AObj → List Nat → Option R3} (h : H[m]? = some (.row 1 (l.map u8))) (hn : l.length = n) (hi : i < l.length) : stoK 1 (.ptr m n i 0) (u8 v) H K = K (H.set m (.row 1 ((l.set i v).map u8))) [] := by
  have h2 : storeA 1 (.ptr m n i 0) (u8 v) H = some (H.set m (.row 1 ((l.set i v).map u8)), []) := by
    simp [storeA, h, hn, List.getElem?_eq_getElem hi, AV.cells, u8, setC, set1, AV.one, escs, belL, AV.bel, List.map_set]
  unfold stoK; rw [h2]; rfl
theorem add_u8 (x : UInt8) : ∃ v : UInt8, binA .add (Go.TypeDesc.int Go.IntKind.u8) (cmpT Tryd.prog) true (u8 x) (.int .u8 1) = some (u8 v) := by
  refine ⟨UInt8.ofNat (x.toNat + 1), ?_⟩
  rw [show u8 x = .int .u8 (x.toNat : Int) from rfl, add_int]
  congr 1
theorem CelB.lnt {m k : Nat} {G : List AObj} {bs : Bs} {c : AV} (h : CelB m G bs c) : lndW (lnd G k) G c = some (lbys bs) := by
  rcases h with ⟨rfl, rfl⟩ | ⟨l, _, rfl, h, _⟩
  · rfl
  · have := lnd_row (k := k) (n := bs.length) h (goodL_u8 bs) (by simp)
    exact this
theorem cloneR_ok (l : Bs) (hl : l.length = 32) (H : List AObj) : EV C n_Clone_byte_r [bys l] H = some (.slc H.length 0 32 32, H ++ [.row 1 (l.map u8)], []) := by
  cases l with
  | nil => cases hl
  | cons x l =>
    refine Clone_byte_r_of ?_
    have e1 : binA .eql (.slice 5) (cmpT Tryd.prog) true (bys (x :: l)) .nils = some (.bool false) := rfl
    have e2 : ∀ (K : AV → List AObj → List Nat → Option R3), rawK 1 0 (.int .u8 0) [] H K = K (.slc H.length 0 0 0) (H ++ [.row 1 []]) [] := fun K => rfl
    simp only [e1, e2, Option.bind_some, condK_f]
    rw [appK_row (n := 0) (l := H.length) (es := []) (ys := (x :: l).map u8) (elemsA_bys _ _) (get_end _ _) rfl (lz_u8 _) (by decide) (by decide) (by decide) (by rw [List.length_map]; omega), esc_good (goodL_u8 _)]
    rw [List.length_map, hl, Nat.zero_add, show (H ++ [AObj.row 1 []]).set H.length (.row 1 ([] ++ (x :: l).map u8)) = H ++ [.row 1 ((x :: l).map u8)] from by simp]
    exact endB_raw
theorem Rootr_ok {H : List AObj} {l r : Nat} {i0 : Int} {vs : List Ver} {v : Ver} {b : Bt} {m : Nat} (h : FoldH H l r i0 vs) (h0 : 0 ≤ i0) (h1 : i0 ≤ 2^60) (hn : vs.length ≤ 2^20) (j : Nat) (hj : vs[j]? = some v) (hb : v.t = b.tre) (inv : BInv b m) (hm : m < 2^20) (hd : v.d = none ∨ v.d = some (dgB b)) :
    EV C n_fold_Fold_Root_r [.ptr l 1 0 0, .int .i64 (i0 + j)] H = some (.tup [.slc H.length 0 32 32, .nili], H.set r (versO (vs.set j ⟨v.t, some (dgB b)⟩)) ++ [.row 1 ((dgB b).map u8)], []) := by
  have lj := lt_get hj
  have D := dig32 inv hm
  have L : (dgB b).length = 32 := D.2.1
  refine fold_Fold_Root_r_of ?_
  dsimp only
  rw [atK h h0 h1 hn j lj]
  simp -implicitDefEqProofs only [extA_0, extA_1, Option.bind_some, neq_nil1, condK_f, nilA_ptr, offA_ptr, Nat.zero_add, ld_verD h.hr rfl hj]
  have q1 : binA .eql (Go.TypeDesc.slice 5) (cmpT Tryd.prog) true .nils .nils = some (.bool true) := by kernel_rfl
  rcases hd with hd | hd
  · rw [show v.rt = .nils from by unfold Ver.rt; rw [hd], q1]
    simp -implicitDefEqProofs only [Option.bind_some, condK_t, nilA_ptr, offA_ptr, Nat.zero_add, ld_verT h.hr rfl hj]
    have DD := Digest_ok 32 v.t (by rw [hb]; exact tre_ok inv.sml)
    have DD' : EV C n_tree_Digest [.int .i64 32, v.t.av] [] = some (resD (0, dgB b), [], []) := by
      rw [hb, D.1] at DD; rw [hb]; exact DD
    rw [callK_ok (by simp [goodL]) DD']
    simp -implicitDefEqProofs only [resD, extA_0, extA_1, Option.bind_some, nilA_ptr, offA_ptr, Nat.zero_add]
    rw [sto_verD h.hr rfl hj]
    have hr' : (H.set r (versO (vs.set j ⟨v.t, some (dgB b)⟩)))[r]? = some (versO (vs.set j ⟨v.t, some (dgB b)⟩)) := set_get h.hr
    have ld : loadA false 1 (.ptr r vs.length j 5) (H.set r (versO (vs.set j ⟨v.t, some (dgB b)⟩))) = some (bys (dgB b)) := by
      rw [ld_verD hr' (by simp) (v := ⟨v.t, some (dgB b)⟩) (by rw [List.getElem?_set_self lj])]; rfl
    have ne0 : binA .neq (Go.TypeDesc.interface #[("Error", 202)]) (cmpT Tryd.prog) true (errA 0) .nili = some (.bool false) := by kernel_rfl
    simp -implicitDefEqProofs only [ne0, Option.bind_some, condK_f, ld]
    rw [callK_raw (cloneR_ok _ L _)]
    simp -implicitDefEqProofs only [List.length_set]
    exact endB_raw
  · have e : H.set r (versO (vs.set j ⟨v.t, some (dgB b)⟩)) = H := by
      have e1 : vs.set j ⟨v.t, some (dgB b)⟩ = vs := by
        apply set_same; rw [hj]; rw [← hd]
      rw [e1, set_same h.hr]
    have q2 : binA .eql (Go.TypeDesc.slice 5) (cmpT Tryd.prog) true (bys (dgB b)) .nils = some (.bool false) := by
      have : ∀ x : Bs, x.length = 32 → binA .eql (Go.TypeDesc.slice 5) (cmpT Tryd.prog) true (bys x) .nils = some (.bool false) := fun x hx => by
        cases x with
        | nil => simp at hx
        | cons a x => rfl
      exact this _ L
    rw [show v.rt = bys (dgB b) from by unfold Ver.rt; rw [hd], q2, e]
    simp -implicitDefEqProofs only [Option.bind_some, condK_f]
    rw [callK_raw (cloneR_ok _ L _)]
    simp -implicitDefEqProofs only [List.length_set]
    exact endB_raw
end Go.Pm
