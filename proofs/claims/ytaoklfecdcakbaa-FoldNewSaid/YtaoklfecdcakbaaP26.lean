/- A part of the proof: what the functions of the program answer, as plain lists and numbers. -/
import Derived.Test.YtaoklfecdcakbaaP9
import Derived.Test.YtaoklfecdcakbaaP10
import Derived.Test.YtaoklfecdcakbaaP20
import Derived.Test.YtaoklfecdcakbaaP23
import Derived.Test.YtaoklfecdcakbaaP24
import Derived.Test.YtaoklfecdcakbaaP25
namespace Go.Pm
open Go.Proofs
set_option linter.unusedVariables false
set_option linter.unusedSimpArgs false
theorem get_end {α : Type} (H : List α) (x : α) : (H ++ [x])[H.length]? = some x := by simp
theorem fill_ver {β : Type} {cs : List AV} (hc : cs.length = 5) (K : List AV → Option β) : (fillB (AV.cells (.agg [(.int .i64 0), .nils, .nils, .nils, .nils, .nils])) [(0, 5, .agg cs)]).bind K = K (cs ++ [.nils]) := by
  have e : fillB (AV.cells (.agg [(.int .i64 0), .nils, .nils, .nils, .nils, .nils])) [(0, 5, .agg cs)] = some (cs ++ [.nils]) := by
    simp [fillB, AV.cells, AV.isBad, hc]
  rw [e]; rfl
theorem raw_ver {β : Type} {cs : List AV} (hc : cs.length = 6) (h1 : cs.all AV.one = true) (H : List AObj) (K : AV → List AObj → List Nat → Option β) : rawK 6 1 (.agg [(.int .i64 0), .nils, .nils, .nils, .nils, .nils]) [(0, .agg cs)] H K = K (.slc H.length 0 1 1) (H ++ [.row 6 [.agg cs]]) [] := by
  unfold rawK
  simp [setS, AV.cells, hc, h1, List.replicate]
theorem fill_fold {β : Type} (i : Int) (r : Nat) (K : List AV → Option β) : (fillB (AV.cells (.agg [(.int .i64 0), .nils])) [(0, 1, .int .i64 i), (1, 1, .slc r 0 1 1)]).bind K = K [.int .i64 i, .slc r 0 1 1] := Eq.trans rfl rfl
/-- what a fold's row holds -/
def foldV (i : Int) (r n : Nat) : AObj := .row 2 [.agg [.int .i64 i, .slc r 0 n n]]
structure TArg (cs : List AV) (t : Tre) : Prop where
  len : cs.length = 5
  one : cs.all AV.one = true
  frz : ∀ H, frz H (.agg cs) = some t.av
  kil : kills (.agg cs) = []
theorem TArg.new {β : Type} {cs : List AV} {t : Tre} (h : TArg cs t) (H : List AObj) (K : AV → List AObj → List Nat → Option β) : newK (.agg cs) H K = K (.ptr H.length 1 0 0) (H ++ [.row 5 [.agg cs]]) [] := by
  rw [new_agg (by intro e; have := h.len; simp [e] at this) h.one, h.len]
theorem targ_t (t : Tre) : TArg [.int .i64 t.kind, bys t.key, bys t.value, bys t.digest, kidsA t.kids] t where
  len := rfl
  one := by simp [AV.one, bys, kidsA]
  frz H := by rw [← av_eq]; exact frz_good _ _ (good_tr t)
  kil := by rw [← av_eq]; exact kills_good _ (good_tr t)
theorem targ_z : TArg [.int .i64 0, .nils, .nils, .nils, .nils] Tre.nil where
  len := rfl
  one := rfl
  frz := frz_nil0
  kil := rfl
theorem New_lo (i : Int) (hi : i < 0) {cs : List AV} {t : Tre} (h : TArg cs t) (H : List AObj) : EV C n_fold_New [.int .i64 i, .agg cs] H = some (.tup [.nilp, .ifc t_api_Code (.int .i64 1)], H ++ [.row 5 [.agg cs]], []) := by
  refine fold_New_of ?_
  dsimp only
  rw [h.new]
  simp -implicitDefEqProofs only [ZS, ZT, Nat.reduceAdd]
  rw [if_pos hi]
  exact endB_raw
theorem New_hi (i : Int) (hi : 1152921504606846976 < i) {cs : List AV} {t : Tre} (h : TArg cs t) (H : List AObj) : EV C n_fold_New [.int .i64 i, .agg cs] H = some (.tup [.nilp, .ifc t_api_Code (.int .i64 1)], H ++ [.row 5 [.agg cs]], []) := by
  refine fold_New_of ?_
  dsimp only
  rw [h.new]
  simp -implicitDefEqProofs only [ZS, ZT, Nat.reduceAdd]
  rw [if_neg (by omega), if_pos hi]
  exact endB_raw
theorem New_bad (i : Int) (h0 : 0 ≤ i) (h1 : i ≤ 1152921504606846976) {cs : List AV} {t : Tre} (h : TArg cs t) (ht : t.ok) (hm : (nodesF t).length ≤ 2^40) (hi : isF t = false) (H : List AObj) : EV C n_fold_New [.int .i64 i, .agg cs] H = some (.tup [.nilp, .ifc t_api_Code (.int .i64 3)], H ++ [.row 5 [.agg cs]], []) := by
  refine fold_New_of ?_
  dsimp only
  rw [h.new]
  simp -implicitDefEqProofs only [ZS, ZT, Nat.reduceAdd]
  rw [if_neg (by omega), if_neg (by omega), ld_agg (get_end H _) h.len, Option.bind_some, callK_nil (bs := [t.av]) (by simp [killsL, h.kil]) (frzL_cons (h.frz _) rfl) (by simp [goodL]) (avlIs_ok t ht hm), hi]
  simp -implicitDefEqProofs only [not_bool, ZS, ZT, Nat.reduceAdd]
  exact endB_raw
theorem New_ok (i : Int) (h0 : 0 ≤ i) (h1 : i ≤ 1152921504606846976) {cs : List AV} {t : Tre} (h : TArg cs t) (ht : t.ok) (hm : (nodesF t).length ≤ 2^40) (hi : isF t = true) (H : List AObj) : EV C n_fold_New [.int .i64 i, .agg cs] H = some (.tup [.ptr (H.length + 2) 1 0 0, .nili], H ++ [.row 5 [.agg cs], .row 6 [.agg (cs ++ [.nils])], foldV i (H.length + 1) 1], []) := by
  refine fold_New_of ?_
  dsimp only
  rw [h.new]
  simp -implicitDefEqProofs only [ZS, ZT, Nat.reduceAdd]
  rw [if_neg (by omega), if_neg (by omega), ld_agg (get_end H _) h.len, Option.bind_some, callK_nil (bs := [t.av]) (by simp [killsL, h.kil]) (frzL_cons (h.frz _) rfl) (by simp [goodL]) (avlIs_ok t ht hm), hi]
  simp -implicitDefEqProofs only [not_bool, ZS, ZT, Nat.reduceAdd]
  rw [ld_agg (get_end H _) h.len, Option.bind_some, fill_ver h.len, raw_ver (by simp [h.len]) (by rw [List.all_append, h.one]; rfl), fill_fold, new_agg (by simp) rfl, endB_raw]
  simp [foldV]
theorem First_ok {H : List AObj} {l r n : Nat} {i : Int} (h : H[l]? = some (foldV i r n)) : EV C n_fold_Fold_First [.ptr l 1 0 0] H = some (.int .i64 i, H, []) := by
  refine fold_Fold_First_of ?_
  simp -implicitDefEqProofs only [nilA_ptr, offA_ptr, Nat.zero_add, Option.bind_some, ld_fld (j := 0) (v := .int .i64 i) h rfl]
  exact endB_at rfl rfl rfl rfl rfl
theorem Last_ok {H : List AObj} {l r n : Nat} {i : Int} {es : List AV} (h : H[l]? = some (foldV i r n)) (hr : H[r]? = some (.row 6 es)) (hn : es.length = n) (h0 : 0 ≤ i) (h1 : i ≤ 2^60) (h2 : n ≤ 2^60) : EV C n_fold_Fold_Last [.ptr l 1 0 0] H = some (.int .i64 (i + n - 1), H, []) := by
  refine fold_Fold_Last_of ?_
  simp -implicitDefEqProofs only [nilA_ptr, offA_ptr, Nat.zero_add, Option.bind_some, ld_fld (j := 0) (v := .int .i64 i) h rfl, ld_fld (j := 1) (v := .slc r 0 n n) h rfl, lenV_slc hr hn.symm]
  rw [add_int, Option.bind_some, sub_int, Option.bind_some, wrap64 (n := i + (n : Int)) (by omega) (by omega), wrap64 (by omega) (by omega)]
  exact endB_at rfl rfl rfl rfl rfl
theorem callK_ptrF {β : Type} {env : Env} {g : FuncId} {args bs : List AV} {H H' : List AObj} {K : AV → List AObj → List Nat → Option β} {v : AV} (h0 : frzL H args = some bs) (h1 : belL 0 bs = false) (h2 : killsL args = []) (h3 : env g bs H = some (v, H', [])) :
    callK env false g args H K = K v H' [] := by
  simp [callK, callA, h0, h1, h2, h3, killAll]
def z5 : AObj := .row 5 [.agg [.int .i64 0, .nils, .nils, .nils, .nils]]
def v6 : AObj := .row 6 [.agg [.int .i64 0, .nils, .nils, .nils, .nils, .nils]]
def v6' : AObj := .row 6 [.agg [.int .i64 0, .nils, .nils, .nils, .nils, .nils], .agg [.int .i64 0, .lst [], .lst [], .lst [], .lst [], .lst []]]
def zEnt : AV := .agg [.int .i64 0, .int .i64 0, .lst []]
theorem Apply0_ok : EV C n_fold_Fold_Apply [.ptr 2 1 0 0, zEnt] [z5, v6, foldV 3 1 1, z5] = some (.int .i64 0, [z5, v6', foldV 3 1 2, z5], []) := by
  refine fold_Fold_Apply_of ?_
  have n1 : ∀ (K : AV → List AObj → List Nat → Option R3), newK zEnt [z5, v6, foldV 3 1 1, z5] K = K (.ptr 4 1 0 0) [z5, v6, foldV 3 1 1, z5, .row 3 [zEnt]] [] := fun K => rfl
  have l1 : ∀ T, loadA false 1 (.ptr 2 1 0 1) (z5 :: v6 :: foldV 3 1 1 :: z5 :: T) = some (.slc 1 0 1 1) := fun T => rfl
  have le : ∀ T, lenV (.slc 1 0 1 1) (z5 :: v6 :: foldV 3 1 1 :: z5 :: T) = some (.int .i64 1) := fun T => rfl
  have s1 : binA .sub (Go.TypeDesc.int Go.IntKind.i64) (cmpT Try.prog) true (.int .i64 1) (.int .i64 1) = some (.int .i64 0) := by kernel_rfl
  have x1 : ∀ T, ixA 6 (.slc 1 0 1 1) (.int .i64 0) (z5 :: v6 :: foldV 3 1 1 :: z5 :: T) = some (.ptr 1 1 0 0) := fun T => rfl
  have l2 : ∀ T, loadA true 6 (.ptr 1 1 0 0) (z5 :: v6 :: foldV 3 1 1 :: z5 :: T) = some (.agg [.int .i64 0, .nils, .nils, .nils, .nils, .nils]) := fun T => rfl
  have n2 : ∀ o (K : AV → List AObj → List Nat → Option R3), newK (.agg [(.int .i64 0), .nils, .nils, .nils, .nils, .nils]) (z5 :: v6 :: foldV 3 1 1 :: z5 :: [o]) K = K (.ptr 5 1 0 0) (z5 :: v6 :: foldV 3 1 1 :: z5 :: [o, v6]) [] := fun o K => rfl
  have st : ∀ o T (K : List AObj → List Nat → Option R3), stoK 6 (.ptr 5 1 0 0) (.agg [.int .i64 0, .nils, .nils, .nils, .nils, .nils]) (z5 :: v6 :: foldV 3 1 1 :: z5 :: o :: v6 :: T) K = K (z5 :: v6 :: foldV 3 1 1 :: z5 :: o :: v6 :: T) [] := fun o T K => rfl
  have l3 : ∀ T, loadA false 1 (.ptr 4 1 0 1) (z5 :: v6 :: foldV 3 1 1 :: z5 :: .row 3 [zEnt] :: T) = some (.int .i64 0) := fun T => rfl
  have q1 : binA .eql (Go.TypeDesc.int Go.IntKind.i64) (cmpT Try.prog) true (.int .i64 0) (.int .i64 1) = some (.bool false) := by kernel_rfl
  have l4 : ∀ o T, loadA true 6 (.ptr 5 1 0 0) (z5 :: v6 :: foldV 3 1 1 :: z5 :: o :: v6 :: T) = some (.agg [.int .i64 0, .nils, .nils, .nils, .nils, .nils]) := fun o T => rfl
  have d1 : ∀ H, litD 6 1 (.agg [(.int .i64 0), .nils, .nils, .nils, .nils, .nils]) [(0, .agg [.int .i64 0, .nils, .nils, .nils, .nils, .nils])] H = some (.lst [.agg [.int .i64 0, .lst [], .lst [], .lst [], .lst [], .lst []]]) := fun H => rfl
  dsimp only
  rw [n1]
  simp -implicitDefEqProofs only [nilA_ptr, offA_ptr, Nat.zero_add, Option.bind_some, l1, le, s1, x1, l2, n2, List.cons_append, List.nil_append, drawK_T, drawK_t, st, l3, q1, condK_f, l4, d1]
  exact Eq.trans (b := endB false false 4 (.int .i64 0) [z5, v6', foldV 3 1 2, z5, .row 3 [zEnt], v6] []) rfl rfl
theorem up13_ok : EV C n_law13_up [] [] = some (.bool true, [], []) := by
  refine law13_up_of ?_
  have e1 : EV C n_fold_New [.int .i64 3, .agg [.int .i64 0, .nils, .nils, .nils, .nils]] [] = some (.tup [.ptr 2 1 0 0, .nili], [z5, v6, foldV 3 1 1], []) := New_ok 3 (by decide) (by decide) targ_z nil_ok (by decide) rfl []
  have e2 : EV C n_fold_New [.int .i64 (-1), .agg [.int .i64 0, .nils, .nils, .nils, .nils]] [z5, v6, foldV 3 1 1] = some (.tup [.nilp, .ifc t_api_Code (.int .i64 1)], [z5, v6, foldV 3 1 1, z5], []) := New_lo (-1) (by decide) targ_z _
  have q1 : binA .eql (Go.TypeDesc.pointer 102) (cmpT Try.prog) true (.ptr 2 1 0 0) .nilp = some (.bool false) := by kernel_rfl
  have q2 : binA .neq (Go.TypeDesc.interface #[("Error", 118)]) (cmpT Try.prog) true .nili .nili = some (.bool false) := by kernel_rfl
  have q3 : binA .neq (Go.TypeDesc.interface #[("Error", 118)]) (cmpT Try.prog) false (.ifc t_api_Code (.int .i64 1)) (.ifc t_api_Code (.int .i64 1)) = some (.bool false) := by kernel_rfl
  have f1 : ∀ (K : List AV → Option R3), (fillB (AV.cells (.agg [(.int .i64 0), (.int .i64 0), .nils])) []).bind K = K [.int .i64 0, .int .i64 0, .nils] := fun K => rfl
  have a1 : ∀ (K : AV → List AObj → List Nat → Option R3), callK (EV C) false n_fold_Fold_Apply [.ptr 2 1 0 0, .agg [.int .i64 0, .int .i64 0, .nils]] [z5, v6, foldV 3 1 1, z5] K = K (.int .i64 0) [z5, v6', foldV 3 1 2, z5] [] := fun K => callK_ptrF (bs := [.ptr 2 1 0 0, zEnt]) rfl rfl rfl Apply0_ok
  have a2 : ∀ (K : AV → List AObj → List Nat → Option R3), callK (EV C) false n_fold_Fold_First [.ptr 2 1 0 0] [z5, v6', foldV 3 1 2, z5] K = K (.int .i64 3) [z5, v6', foldV 3 1 2, z5] [] := fun K => callK_ptrF (bs := [.ptr 2 1 0 0]) rfl rfl rfl (First_ok rfl)
  have a3 : ∀ (K : AV → List AObj → List Nat → Option R3), callK (EV C) false n_fold_Fold_Last [.ptr 2 1 0 0] [z5, v6', foldV 3 1 2, z5] K = K (.int .i64 4) [z5, v6', foldV 3 1 2, z5] [] := fun K => callK_ptrF (bs := [.ptr 2 1 0 0]) rfl rfl rfl (Last_ok (i := 3) (n := 2) rfl rfl rfl (by decide) (by decide) (by decide))
  dsimp only
  rw [fill_nil, callK_raw e1]
  simp -implicitDefEqProofs only [ZS, ZT, Nat.reduceAdd]
  rw [fill_nil, callK_raw e2]
  simp -implicitDefEqProofs only [q1, q2, q3, ZS, ZT, Nat.reduceAdd]
  rw [f1, a1, a2]
  simp -implicitDefEqProofs only [a3, ZS, ZT, Nat.reduceAdd]
  exact endB_good rfl
theorem FoldNew_ok (i : Int) (t : Tre) (ht : t.ok) : EV C n_law13_FoldNew [.int .i64 i, t.av] [] = some (.bool true, [], []) := by
  refine law13_FoldNew_of ?_
  simp -implicitDefEqProofs only [ZS, ZT, Nat.reduceAdd]
  rw [callK_ok rfl up13_ok]
  simp -implicitDefEqProofs only [ZS, ZT, Nat.reduceAdd]
  rw [callK_ok (by simp [goodL]) (Light_ok t ht 300 100 (by decide) (by decide) (by decide) (by decide))]
  simp -implicitDefEqProofs only [ZS, ZT, Nat.reduceAdd]
  by_cases c : lightF t 300 100 < 0
  · rw [if_pos c]; exact endB_good rfl
  · rw [if_neg c]
    have hm : (nodesF t).length ≤ 2 ^ 40 := by
      have hp := lightF_parts t 300 100 (by omega)
      have hn := nodes_parts t
      omega
    have T := targ_t t
    have q1 : binA .eql (Go.TypeDesc.pointer 102) (cmpT Try.prog) true .nilp .nilp = some (.bool true) := by kernel_rfl
    have q2 : binA .eql (Go.TypeDesc.interface #[("Error", 118)]) (cmpT Try.prog) false (.ifc t_api_Code (.int .i64 1)) (.ifc t_api_Code (.int .i64 1)) = some (.bool true) := by kernel_rfl
    have q3 : binA .eql (Go.TypeDesc.interface #[("Error", 118)]) (cmpT Try.prog) false (.ifc t_api_Code (.int .i64 3)) (.ifc t_api_Code (.int .i64 3)) = some (.bool true) := by kernel_rfl
    by_cases c1 : i < 0
    · have e := New_lo i c1 T [AObj.row 5 [t.av]]
      rw [← av_eq] at e
      rw [callK_raw e]
      simp -implicitDefEqProofs only [q1, q2, ZS, ZT, Nat.reduceAdd]
      rw [if_pos c1]; exact endB_good rfl
    · by_cases c2 : 1152921504606846976 < i
      · have e := New_hi i c2 T [AObj.row 5 [t.av]]
        rw [← av_eq] at e
        rw [callK_raw e]
        simp -implicitDefEqProofs only [q1, q2, ZS, ZT, Nat.reduceAdd]
        rw [if_neg c1, if_pos c2]; exact endB_good rfl
      · cases hi : isF t with
        | false =>
          have e := New_bad i (by omega) (by omega) T ht hm hi [AObj.row 5 [t.av]]
          rw [← av_eq] at e
          rw [callK_raw e]
          simp -implicitDefEqProofs only [q1, q3, ZS, ZT, Nat.reduceAdd]
          rw [if_neg c1, if_neg c2, callK_ok (by simp [goodL]) (refIs_ok t ht hm), hi]
          simp -implicitDefEqProofs only [not_bool, ZS, ZT, Nat.reduceAdd]
          exact endB_good rfl
        | true =>
          have e := New_ok i (by omega) (by omega) T ht hm hi [AObj.row 5 [t.av]]
          rw [← av_eq] at e
          have q4 : binA .neq (Go.TypeDesc.pointer 102) (cmpT Try.prog) true (.ptr 3 1 0 0) .nilp = some (.bool true) := by kernel_rfl
          have h3 : ∀ a b c, ([a, b, c, foldV i 2 1] : List AObj)[3]? = some (foldV i 2 1) := fun a b c => rfl
          rw [callK_raw e]
          simp -implicitDefEqProofs only [ZS, ZT, Nat.reduceAdd]
          rw [if_neg c1, if_neg c2, callK_ok (by simp [goodL]) (refIs_ok t ht hm), hi]
          simp -implicitDefEqProofs only [not_bool, q4, eql_nil1, ZS, ZT, Nat.reduceAdd]
          rw [callK_ptrF (bs := [.ptr 3 1 0 0]) rfl rfl rfl (First_ok (h3 _ _ _))]
          simp -implicitDefEqProofs only [eq_self, ZS, ZT, Nat.reduceAdd]
          rw [callK_ptrF (bs := [.ptr 3 1 0 0]) rfl rfl rfl (Last_ok (n := 1) (h3 _ _ _) rfl rfl (by omega) (by omega) (by decide))]
          have e4 : i + ((1 : Nat) : Int) - 1 = i := by omega
          rw [e4]
          simp -implicitDefEqProofs only [eq_self, ZS, ZT, Nat.reduceAdd]
          exact endB_good rfl
theorem foldNew_law {a b : AV} {f f1 : Nat} {l l1 : List AV} (e : a = mkE (agT Try.prog 3) l) (h : tyC Try.prog reachBytes f 3 l) (e1 : b = mkE (agT Try.prog 43) l1) (h1 : tyC Try.prog reachBytes f1 43 l1) : EV C n_law13_FoldNew [a, b] [] = some (.bool true, [], []) := by
  obtain ⟨i, rfl⟩ := ty_i64' e h
  obtain ⟨t, rfl, ht⟩ := ty_tre' (by decide) e1 h1
  exact FoldNew_ok i t ht
end Go.Pm
