/- A part of the proof: what the functions of the program answer, as plain lists and numbers. -/
import Derived.Test.YtaoklfecdcakbaaDoorP10
import Derived.Test.YtaoklfecdcakbaaDoorP17
import Derived.Test.YtaoklfecdcakbaaDoorP26
import Derived.Test.YtaoklfecdcakbaaDoorP33
import Derived.Test.YtaoklfecdcakbaaDoorP34
namespace Go.Pm
open Go.Proofs
set_option linter.unusedVariables false
set_option linter.unusedSimpArgs false
@[simp] theorem goodL_cmd (l : List Cmd) : goodL (l.map Cmd.av) = true := goodL_map good_cmd l
end Go.Pm
namespace Go.Pm
open Go.Proofs
set_option linter.unusedVariables false
set_option linter.unusedSimpArgs false
theorem get_end {α : Type} (H : List α) (x : α) : (H ++ [x])[H.length]? = some x := by simp
theorem fill_ver {β : Type} {cs : List AV} (hc : cs.length = 5) (K : List AV → Option β) : (fillB (AV.cells (.agg [(.int .i64 0), .nils, .nils, .nils, .nils, .nils])) [(0, 5, .agg cs)]).bind K = K (cs ++ [.nils]) := by
  have e : fillB (AV.cells (.agg [(.int .i64 0), .nils, .nils, .nils, .nils, .nils])) [(0, 5, .agg cs)] = some (cs ++ [.nils]) := by
    simp [fillB, AV.cells, AV.isBad, hc]
  rw [e]; rfl
theorem raw_ver {β : Type} {cs : List AV} (hc : cs.length = 6) (h1 : cs.all AV.one = true) (H : List AObj) (K : AV → List AObj → List Nat → Option β) : rawK 6 1 (.agg [(.int .i64 0), .nils, .nils, .nils, .nils, .nils]) [(0, .agg cs)] H K = K (.slc H.length 0 1 1) (H ++ [.row 6 [.agg cs]]) [] := by
  unfold rawK
  simp [setS, AV.cells, hc, h1, List.replicate]
theorem fill_fold {β : Type} (i : Int) (r : Nat) (K : List AV → Option β) : (fillB (AV.cells (.agg [(.int .i64 0), .nils])) [(0, 1, .int .i64 i), (1, 1, .slc r 0 1 1)]).bind K = K [.int .i64 i, .slc r 0 1 1] := Eq.trans rfl rfl
/-- what a fold's row holds -/
def foldV (i : Int) (r n : Nat) : AObj := .row 2 [.agg [.int .i64 i, .slc r 0 n n]]
structure TArg (cs : List AV) (t : Tre) : Prop where
  len : cs.length = 5
  one : cs.all AV.one = true
  frz : ∀ H, frz H (.agg cs) = some t.av
  kil : kills (.agg cs) = []
theorem TArg.new {β : Type} {cs : List AV} {t : Tre} (h : TArg cs t) (H : List AObj) (K : AV → List AObj → List Nat → Option β) : newK (.agg cs) H K = K (.ptr H.length 1 0 0) (H ++ [.row 5 [.agg cs]]) [] := by
  rw [new_agg (by intro e; have := h.len; simp [e] at this) h.one, h.len]
theorem targ_t (t : Tre) : TArg [.int .i64 t.kind, bys t.key, bys t.value, bys t.digest, kidsA t.kids] t where
  len := rfl
  one := by simp [AV.one, bys, kidsA]
  frz H := by rw [← av_eq]; exact frz_good _ _ (good_tr t)
  kil := by rw [← av_eq]; exact kills_good _ (good_tr t)
theorem New_ok (i : Int) (h0 : 0 ≤ i) (h1 : i ≤ 1152921504606846976) {cs : List AV} {t : Tre} (h : TArg cs t) (ht : t.ok) (hm : (nodesF t).length ≤ 2^40) (hi : isF t = true) (H : List AObj) : EV C n_fold_New [.int .i64 i, .agg cs] H = some (.tup [.ptr (H.length + 2) 1 0 0, .nili], H ++ [.row 5 [.agg cs], .row 6 [.agg (cs ++ [.nils])], foldV i (H.length + 1) 1], []) := by
  refine fold_New_of ?_
  dsimp only
  rw [h.new]
  simp -implicitDefEqProofs only [ZS, ZT, Nat.reduceAdd]
  rw [if_neg (by omega), if_neg (by omega), ld_agg (get_end H _) h.len, Option.bind_some, callK_nil (bs := [t.av]) (by simp [killsL, h.kil]) (frzL_cons (h.frz _) rfl) (by simp [goodL]) (avlIs_ok t ht hm), hi]
  simp -implicitDefEqProofs only [not_bool, ZS, ZT, Nat.reduceAdd]
  rw [ld_agg (get_end H _) h.len, Option.bind_some, fill_ver h.len, raw_ver (by simp [h.len]) (by rw [List.all_append, h.one]; rfl), fill_fold, new_agg (by simp) rfl, endB_raw]
  simp [foldV]
theorem First_ok {H : List AObj} {l r n : Nat} {i : Int} (h : H[l]? = some (foldV i r n)) : EV C n_fold_Fold_First [.ptr l 1 0 0] H = some (.int .i64 i, H, []) := by
  refine fold_Fold_First_of ?_
  simp -implicitDefEqProofs only [nilA_ptr, offA_ptr, Nat.zero_add, Option.bind_some, ld_fld (j := 0) (v := .int .i64 i) h rfl]
  exact endB_at rfl rfl rfl rfl rfl
theorem Last_ok {H : List AObj} {l r n : Nat} {i : Int} {es : List AV} (h : H[l]? = some (foldV i r n)) (hr : H[r]? = some (.row 6 es)) (hn : es.length = n) (h0 : 0 ≤ i) (h1 : i ≤ 2^60) (h2 : n ≤ 2^60) : EV C n_fold_Fold_Last [.ptr l 1 0 0] H = some (.int .i64 (i + n - 1), H, []) := by
  refine fold_Fold_Last_of ?_
  simp -implicitDefEqProofs only [nilA_ptr, offA_ptr, Nat.zero_add, Option.bind_some, ld_fld (j := 0) (v := .int .i64 i) h rfl, ld_fld (j := 1) (v := .slc r 0 n n) h rfl, lenV_slc hr hn.symm]
  rw [add_int, Option.bind_some, sub_int, Option.bind_some, wrap64 (n := i + (n : Int)) (by omega) (by omega), wrap64 (by omega) (by omega)]
  exact endB_at rfl rfl rfl rfl rfl
theorem callK_ptrF {β : Type} {env : Env} {g : FuncId} {args bs : List AV} {H H' : List AObj} {K : AV → List AObj → List Nat → Option β} {v : AV} (h0 : frzL H args = some bs) (h1 : belL 0 bs = false) (h2 : killsL args = []) (h3 : env g bs H = some (v, H', [])) :
    callK env false g args H K = K v H' [] := by
  simp [callK, callA, h0, h1, h2, h3, killAll]
end Go.Pm
namespace Go.Pm
open Go.Proofs
set_option linter.unusedVariables false
set_option linter.unusedSimpArgs false
theorem ga {H T : List AObj} {l : Nat} {x : AObj} (h : H[l]? = some x) : (H ++ T)[l]? = some x := by
  rw [List.getElem?_append_left (lt_get h), h]
theorem g0 (H T : List AObj) (x : AObj) : (H ++ x :: T)[H.length]? = some x := by simp
theorem g1 (H T : List AObj) (x y : AObj) : (H ++ x :: y :: T)[H.length + 1]? = some y := by simp
theorem g2 (H T : List AObj) (x y z : AObj) : (H ++ x :: y :: z :: T)[H.length + 2]? = some z := by simp
theorem s1 (H T : List AObj) (x y v : AObj) : (H ++ x :: y :: T).set (H.length + 1) v = H ++ x :: v :: T := by simp
theorem s2 (H T : List AObj) (x y z v : AObj) : (H ++ x :: y :: z :: T).set (H.length + 2) v = H ++ x :: y :: v :: T := by simp
theorem sa {H T : List AObj} {l : Nat} {x v : AObj} (h : H[l]? = some x) : (H ++ T).set l v = H.set l v ++ T := by
  rw [List.set_append_left _ _ (lt_get h)]
structure Ver where
  t : Tre
  d : Option Bs
def Ver.rt (v : Ver) : AV := match v.d with | none => .nils | some d => bys d
def treC (t : Tre) : List AV := [.int .i64 t.kind, bys t.key, bys t.value, bys t.digest, kidsA t.kids]
theorem av_C (t : Tre) : t.av = .agg (treC t) := av_eq t
def Ver.cs (v : Ver) : List AV := treC v.t ++ [v.rt]
def Ver.av (v : Ver) : AV := .agg v.cs
theorem rt_one (v : Ver) : v.rt.one = true := by unfold Ver.rt; cases v.d <;> rfl
theorem ver_len (v : Ver) : v.cs.length = 6 := rfl
theorem ver_one (v : Ver) : v.cs.all AV.one = true := by
  unfold Ver.cs; rw [List.all_append, show (treC v.t).all AV.one = true from (targ_t v.t).one]; simp [rt_one]
theorem bel_C (t : Tre) (m : Nat) : belL m (treC t) = true := by
  have : goodL (treC t) = true := by have := good_tr t; rw [av_C] at this; simpa [AV.good] using this
  exact belL_good _ _ this
theorem bel_app (m : Nat) : ∀ a b : List AV, belL m (a ++ b) = (belL m a && belL m b)
  | [], b => rfl
  | x :: a, b => by simp only [List.cons_append, belL, bel_app m a b, Bool.and_assoc]
theorem ver_bel (v : Ver) (m : Nat) : belL m v.cs = true := by
  unfold Ver.cs; rw [bel_app, bel_C]
  unfold Ver.rt; cases v.d with
  | none => rfl
  | some d => exact belL_good _ _ (by simp [goodL])
def versO (vs : List Ver) : AObj := .row 6 (vs.map Ver.av)
theorem ld_ver {H : List AObj} {r n i : Nat} {vs : List Ver} {v : Ver} (h : H[r]? = some (versO vs)) (hn : vs.length = n) (hi : vs[i]? = some v) : loadA true 6 (.ptr r n i 0) H = some v.av := by
  unfold loadA versO at *
  simp only [h, List.length_map, hn, if_true, List.getElem?_map, hi, Option.map_some, Option.bind_some]
  rfl
theorem ld_verT {H : List AObj} {r n i : Nat} {vs : List Ver} {v : Ver} (h : H[r]? = some (versO vs)) (hn : vs.length = n) (hi : vs[i]? = some v) : loadA true 5 (.ptr r n i 0) H = some v.t.av := by
  unfold loadA versO at *
  simp only [h, List.length_map, hn, if_true, List.getElem?_map, hi, Option.map_some, Option.bind_some]
  rw [av_C]; rfl
theorem ld_verD {H : List AObj} {r n i : Nat} {vs : List Ver} {v : Ver} (h : H[r]? = some (versO vs)) (hn : vs.length = n) (hi : vs[i]? = some v) : loadA false 1 (.ptr r n i 5) H = some v.rt := by
  unfold loadA versO at *
  simp only [h, List.length_map, hn, if_true, List.getElem?_map, hi, Option.map_some, Option.bind_some]
  rfl
theorem sto_verD {β : Type} {H : List AObj} {r n i : Nat} {vs : List Ver} {v : Ver} {d : Bs} {K : List AObj → List Nat → Option β} (h : H[r]? = some (versO vs)) (hn : vs.length = n) (hi : vs[i]? = some v) :
    stoK 1 (.ptr r n i 5) (bys d) H K = K (H.set r (versO (vs.set i ⟨v.t, some d⟩))) [] := by
  have h2 : storeA 1 (.ptr r n i 5) (bys d) H = some (H.set r (versO (vs.set i ⟨v.t, some d⟩)), []) := by
    unfold storeA versO at *
    have e : setC v.av 5 (bys d).cells = some (Ver.av ⟨v.t, some d⟩) := rfl
    have e2 : escs r (bys d).cells = [] := escs_good (by simp [goodL, bys, AV.cells])
    simp only [h, List.length_map, hn, List.getElem?_map, hi, Option.map_some, Option.bind_some, e, e2]
    rw [if_pos ⟨trivial, rfl, rfl⟩, List.map_set]
  unfold stoK; rw [h2]; rfl
end Go.Pm
namespace Go.Pm
open Go.Proofs
set_option linter.unusedVariables false
set_option linter.unusedSimpArgs false
structure Ent where
  term : Int
  kind : Int
  data : Bs
def Ent.cs (e : Ent) : List AV := [.int .i64 e.term, .int .i64 e.kind, bys e.data]
def Ent.av (e : Ent) : AV := .agg e.cs
def stepE (t : Bt) (e : Ent) : Bt × Int := if e.kind = 1 then applyF t e.data else (t, 0)
/-- a fold in the heap -/
structure FoldH (H : List AObj) (l r : Nat) (i0 : Int) (vs : List Ver) : Prop where
  hl : H[l]? = some (foldV i0 r vs.length)
  hr : H[r]? = some (versO vs)
  lt : r < l
def appH (H : List AObj) (l r : Nat) (i0 : Int) (vs : List Ver) : List AObj := (H.set r (versO vs)).set l (foldV i0 r vs.length)
theorem appH_fold {H : List AObj} {l r : Nat} {i0 : Int} {vs ws : List Ver} (h : FoldH H l r i0 vs) : FoldH (appH H l r i0 ws) l r i0 ws := by
  have a := lt_get h.hl
  have b := lt_get h.hr
  refine ⟨?_, ?_, h.lt⟩
  · unfold appH; rw [List.getElem?_set_self (by simpa using a)]
  · unfold appH; rw [List.getElem?_set_ne (by have := h.lt; omega), List.getElem?_set_self b]
theorem app_tail {H T : List AObj} {l r : Nat} {i0 : Int} {vs : List Ver} {nv : Ver} {res : Int} {E : List Nat} (h : FoldH H l r i0 vs) (hn : vs.length ≤ 2^20) (hE : E = []) :
    (rawK 6 1 (.agg [(.int .i64 0), .nils, .nils, .nils, .nils, .nils]) [(0, nv.av)] (H ++ T) fun a60 H60 E60 =>
      drawK (((loadA false 1 (.ptr l 1 0 1) H60).bind fun a61 =>
      some a61) = some (.slc r 0 vs.length vs.length))
      (appK 6 128 (.slc r 0 vs.length vs.length) a60 H60 fun a62 H62 E62 =>
      (nilA (.ptr l 1 0 0)).bind fun a63 =>
      (offA a63 1).bind fun a64 =>
      stoK 1 a64 a62 H62 fun H65 E65 =>
      endB false false H.length (.int .i64 res) H65 (E65 ++ (E62 ++ (E60 ++ E))))) = some (.int .i64 res, appH H l r i0 (vs ++ [nv]), []) := by
  subst hE
  unfold Ver.av
  rw [raw_ver (ver_len nv) (ver_one nv)]
  have hl : (H ++ T ++ [AObj.row 6 [.agg nv.cs]])[l]? = some (foldV i0 r vs.length) := ga (ga h.hl)
  have hr : (H ++ T ++ [AObj.row 6 [.agg nv.cs]])[r]? = some (versO vs) := ga (ga h.hr)
  have hy : elemsA (.slc (H ++ T).length 0 1 1) (H ++ T ++ [AObj.row 6 [.agg nv.cs]]) = some [.agg nv.cs] := elemsA_row (get_end _ _) rfl
  have ne : r ≠ l := by have := h.lt; omega
  have es0 : (if ([AV.agg nv.cs] : List AV).isEmpty then [] else escs r [.agg nv.cs]) = [] := by
    simp [escs, belL, AV.bel, ver_bel]
  have es1 : escs l [.slc r 0 (vs.length + 1) (vs.length + 1)] = [] := by
    have := h.lt
    simp [escs, belL, AV.bel]; omega
  rw [drawK_t (by rw [ld_fld (j := 1) (v := .slc r 0 vs.length vs.length) hl rfl]; rfl), appK_row (es := vs.map Ver.av) (ys := [.agg nv.cs]) hy hr (by simp) rfl (by decide) (by decide) (by decide) (by simp; omega), es0]
  simp -implicitDefEqProofs only [nilA_ptr, offA_ptr, Option.bind_some, Nat.zero_add, List.length_singleton]
  rw [sto_fld (z := 2) (cs := [.int .i64 i0, .slc r 0 vs.length vs.length]) (by rw [List.getElem?_set_ne ne]; exact hl) (by simp) rfl rfl, es1]
  refine endB_take rfl rfl rfl ?_
  have e1 : AObj.row 6 (vs.map Ver.av ++ [.agg nv.cs]) = versO (vs ++ [nv]) := by simp [versO, Ver.av]
  have e2 : AObj.row 2 [.agg (([.int .i64 i0, .slc r 0 vs.length vs.length] : List AV).set 1 (.slc r 0 (vs.length + 1) (vs.length + 1)))] = foldV i0 r (vs ++ [nv]).length := by simp [foldV]
  rw [e1, e2, List.append_assoc, sa h.hr, sa (x := foldV i0 r vs.length) (by rw [List.getElem?_set_ne ne]; exact h.hl)]
  unfold appH
  simp [kills, killAll, List.take_append]
theorem Apply_ok {H : List AObj} {l r : Nat} {i0 : Int} {vs : List Ver} {v : Ver} {b : Bt} {m : Nat} (h : FoldH H l r i0 vs) (hn : vs.length ≤ 2^20) (hv : vs[vs.length - 1]? = some v) (hb : v.t = b.tre) (inv : BInv b m) (hm : m + 1 < 2^20) (e : Ent) (he : e.data.length ≤ 2^46) :
    EV C n_fold_Fold_Apply [.ptr l 1 0 0, e.av] H = some (.int .i64 (stepE b e).2, appH H l r i0 (vs ++ [if e.kind = 1 then ⟨(stepE b e).1.tre, none⟩ else v]), []) := by
  have hlen : 0 < vs.length := by
    cases vs with
    | nil => simp at hv
    | cons => simp
  refine fold_Fold_Apply_of ?_
  dsimp only
  have n1 : ∀ (K : AV → List AObj → List Nat → Option R3), newK e.av H K = K (.ptr H.length 1 0 0) (H ++ [.row 3 [e.av]]) [] := fun K => by
    unfold Ent.av; rw [new_agg (by simp [Ent.cs]) rfl]; rfl
  have l1 : ∀ T, loadA false 1 (.ptr l 1 0 1) (H ++ T) = some (.slc r 0 vs.length vs.length) := fun T => ld_fld (ga h.hl) rfl
  have le : ∀ T, lenV (.slc r 0 vs.length vs.length) (H ++ T) = some (.int .i64 vs.length) := fun T => lenV_slc (es := vs.map Ver.av) (ga h.hr) (by simp)
  have sb : binA .sub (Go.TypeDesc.int Go.IntKind.i64) (cmpT Tryd.prog) true (.int .i64 (vs.length : Int)) (.int .i64 1) = some (.int .i64 ((vs.length - 1 : Nat) : Int)) := by
    rw [sub_int, w64 (n := vs.length - 1) (by omega) (by omega)]
  have x1 : ∀ T, ixA 6 (.slc r 0 vs.length vs.length) (.int .i64 ((vs.length - 1 : Nat) : Int)) (H ++ T) = some (.ptr r vs.length (vs.length - 1) 0) := fun T => ix_row (es := vs.map Ver.av) (ga h.hr) (by simp) (by omega)
  have l2 : ∀ T, loadA true 6 (.ptr r vs.length (vs.length - 1) 0) (H ++ T) = some v.av := fun T => ld_ver (ga h.hr) rfl hv
  have n2 : ∀ o (K : AV → List AObj → List Nat → Option R3), newK (.agg [(.int .i64 0), .nils, .nils, .nils, .nils, .nils]) (H ++ [o]) K = K (.ptr (H.length + 1) 1 0 0) (H ++ [o, .row 6 [.agg [(.int .i64 0), .nils, .nils, .nils, .nils, .nils]]]) [] := fun o K => by
    rw [new_agg (by simp) rfl]; simp
  have st : ∀ (o : AObj) (cs ds : List AV) (T : List AObj) (K : List AObj → List Nat → Option R3), cs.length = 6 → ds.length = 6 → ds.all AV.one = true → belL (H.length + 2) ds = true → stoK 6 (.ptr (H.length + 1) 1 0 0) (.agg ds) (H ++ o :: .row 6 [.agg cs] :: T) K = K (H ++ o :: .row 6 [.agg ds] :: T) [] := fun o cs ds T K h1 h2 h3 h4 => by
    rw [sto_agg (g1 _ _ _ _) h1 h2 h3, s1]
    simp [escs, h4]
  have l3 : ∀ T, loadA false 1 (.ptr H.length 1 0 1) (H ++ .row 3 [e.av] :: T) = some (.int .i64 e.kind) := fun T => ld_fld (g0 _ _ _) rfl
  have l3' : ∀ T, loadA false 1 (.ptr H.length 1 0 2) (H ++ .row 3 [e.av] :: T) = some (bys e.data) := fun T => ld_fld (g0 _ _ _) rfl
  have l4 : ∀ o (w : Ver) T, loadA true 6 (.ptr (H.length + 1) 1 0 0) (H ++ o :: .row 6 [.agg w.cs] :: T) = some w.av := fun o w T => ld_agg (g1 _ _ _ _) rfl
  have l5 : ∀ o (w : Ver) T, loadA true 5 (.ptr (H.length + 1) 1 0 0) (H ++ o :: .row 6 [.agg w.cs] :: T) = some w.t.av := fun o w T => by
    unfold loadA; simp only [g1]; rw [av_C]; rfl
  rw [n1]
  simp -implicitDefEqProofs only [nilA_ptr, offA_ptr, Nat.zero_add, Option.bind_some, l1, le, sb, x1, l2, n2, drawK_T, drawK_eq]
  rw [show v.av = .agg v.cs from rfl, st _ _ _ _ _ rfl rfl (ver_one v) (ver_bel v _)]
  simp -implicitDefEqProofs only [offA_ptr, Nat.zero_add, Option.bind_some, l3, eql_int, condK_dec]
  by_cases hk : e.kind = 1
  · rw [if_pos hk, if_pos hk]
    simp -implicitDefEqProofs only [offA_ptr, Nat.zero_add, Nat.add_zero, Option.bind_some, l5, l3', hb]
    rw [callK_ok (by simp) (cApply_ok e.data he inv hm)]
    have hs : stepE b e = applyF b e.data := by unfold stepE; rw [if_pos hk]
    rw [hs]
    have n3 : ∀ o p (K : AV → List AObj → List Nat → Option R3), newK (.agg [(.int .i64 0), .nils, .nils, .nils, .nils]) (H ++ [o, p]) K = K (.ptr (H.length + 2) 1 0 0) (H ++ [o, p, .row 5 [.agg [(.int .i64 0), .nils, .nils, .nils, .nils]]]) [] := fun o p K => by
      rw [new_z]; simp
    have s3 : ∀ o p (t : Tre) (cs : List AV) (K : List AObj → List Nat → Option R3), cs.length = 5 → stoK 5 (.ptr (H.length + 2) 1 0 0) t.av (H ++ [o, p, .row 5 [.agg cs]]) K = K (H ++ [o, p, .row 5 [t.av]]) [] := fun o p t cs K hc => by
      rw [sto_t (g2 _ _ _ _ _) hc, s2]
    have l6 : ∀ o p (t : Tre), loadA true 5 (.ptr (H.length + 2) 1 0 0) (H ++ [o, p, .row 5 [t.av]]) = some t.av := fun o p t => ld_box (g2 _ _ _ _ _)
    simp -implicitDefEqProofs only [resA3, extA_0, extA_1, extA_2, Option.bind_some, n3]
    rw [s3 _ _ _ _ _ rfl]
    simp -implicitDefEqProofs only [eqlE0, Option.bind_some, condK_dec, condK_t, if_true, l6]
    rw [av_C, fill_ver rfl, show treC (applyF b e.data).1.tre ++ [AV.nils] = Ver.cs ⟨(applyF b e.data).1.tre, none⟩ from rfl, st _ _ _ _ _ rfl rfl (ver_one ⟨(applyF b e.data).1.tre, none⟩) (ver_bel ⟨(applyF b e.data).1.tre, none⟩ _)]
    simp -implicitDefEqProofs only [nilA_ptr, offA_ptr, Nat.zero_add, Option.bind_some, l1]
    rw [l4, Option.bind_some]
    exact app_tail h hn rfl
  · rw [if_neg hk, if_neg hk]
    simp -implicitDefEqProofs only [nilA_ptr, offA_ptr, Nat.zero_add, Option.bind_some, l1, l4]
    have hs : (stepE b e).2 = 0 := by unfold stepE; rw [if_neg hk]
    rw [hs]
    exact app_tail h hn rfl
end Go.Pm
namespace Go.Pm
open Go.Proofs
set_option linter.unusedVariables false
set_option linter.unusedSimpArgs false
theorem FoldH.app {H : List AObj} {l r : Nat} {i0 : Int} {vs : List Ver} (h : FoldH H l r i0 vs) (T : List AObj) : FoldH (H ++ T) l r i0 vs := ⟨ga h.hl, ga h.hr, h.lt⟩
theorem Last_fold {H : List AObj} {l r : Nat} {i0 : Int} {vs : List Ver} (h : FoldH H l r i0 vs) (h0 : 0 ≤ i0) (h1 : i0 ≤ 2^60) (hn : vs.length ≤ 2^20) : EV C n_fold_Fold_Last [.ptr l 1 0 0] H = some (.int .i64 (i0 + vs.length - 1), H, []) :=
  Last_ok (es := vs.map Ver.av) h.hl h.hr (by simp) h0 h1 (by omega)
theorem at_ok {H : List AObj} {l r : Nat} {i0 : Int} {vs : List Ver} (h : FoldH H l r i0 vs) (h0 : 0 ≤ i0) (h1 : i0 ≤ 2^60) (hn : vs.length ≤ 2^20) (j : Nat) (hj : j < vs.length) : EV C n_fold_Fold_at [.ptr l 1 0 0, .int .i64 (i0 + j)] H = some (.tup [.ptr r vs.length j 0, .nili], H, []) := by
  refine fold_Fold_at_of ?_
  simp -implicitDefEqProofs only [nilA_ptr, offA_ptr, Nat.zero_add, Option.bind_some, ld_fld (j := 0) (v := .int .i64 i0) h.hl rfl, ld_fld (j := 1) (v := .slc r 0 vs.length vs.length) h.hl rfl, lss_int, splitK_dec]
  rw [if_neg (by omega), callK_ptrF (bs := [.ptr l 1 0 0]) rfl rfl rfl (Last_fold h h0 h1 hn)]
  simp -implicitDefEqProofs only [nilA_ptr, offA_ptr, Nat.zero_add, Option.bind_some, ld_fld (j := 0) (v := .int .i64 i0) h.hl rfl, ld_fld (j := 1) (v := .slc r 0 vs.length vs.length) h.hl rfl, gtr_int, condK_dec]
  rw [if_neg (by omega), sub_int, Option.bind_some, w64 (n := j) (by omega) (by omega), ix_row (es := vs.map Ver.av) h.hr (by simp) hj, Option.bind_some]
  have lr := lt_get h.hr
  refine (show endB false false H.length (.tup [.ptr r vs.length j 0, .nili]) H ([] ++ []) = _ from ?_)
  simp [endB, endA, frz, frzL, kills, killsL, killAll, AV.bel, belL, lr]
theorem atK {β : Type} {H : List AObj} {l r : Nat} {i0 : Int} {vs : List Ver} (h : FoldH H l r i0 vs) (h0 : 0 ≤ i0) (h1 : i0 ≤ 2^60) (hn : vs.length ≤ 2^20) (j : Nat) (hj : j < vs.length) {K : AV → List AObj → List Nat → Option β} :
    callK (EV C) false n_fold_Fold_at [.ptr l 1 0 0, .int .i64 (i0 + j)] H K = K (.tup [.ptr r vs.length j 0, .nili]) H [] := callM (by simp [goodL, AV.good]) (at_ok h h0 h1 hn j hj)
theorem Tree_ok {H : List AObj} {l r : Nat} {i0 : Int} {vs : List Ver} {v : Ver} (h : FoldH H l r i0 vs) (h0 : 0 ≤ i0) (h1 : i0 ≤ 2^60) (hn : vs.length ≤ 2^20) (j : Nat) (hj : vs[j]? = some v) : EV C n_fold_Fold_Tree [.ptr l 1 0 0, .int .i64 (i0 + j)] H = some (.tup [v.t.av, .nili], H, []) := by
  have lj := lt_get hj
  have lv : ∀ T, loadA true 5 (.ptr r vs.length j 0) (H ++ T) = some v.t.av := fun T => ld_verT (ga h.hr) rfl hj
  have ln : loadA true 5 (.ptr H.length 1 0 0) (H ++ [.row 5 [v.t.av]]) = some v.t.av := ld_box (g0 _ _ _)
  refine fold_Fold_Tree_of ?_
  dsimp only
  rw [new_z, atK (h.app _) h0 h1 hn j lj]
  simp -implicitDefEqProofs only [extA_0, extA_1, Option.bind_some, neq_nil1, condK_f, nilA_ptr, offA_ptr, Nat.zero_add, lv]
  rw [sto_t (g0 _ _ _) rfl]
  have e : (H ++ [AObj.row 5 [.agg [(.int .i64 0), .nils, .nils, .nils, .nils]]]).set H.length (.row 5 [v.t.av]) = H ++ [.row 5 [v.t.av]] := by simp
  rw [e, ln, Option.bind_some]
  have fz : frz (H ++ [.row 5 [v.t.av]]) (.tup [v.t.av, .nili]) = some (.tup [v.t.av, .nili]) := frz_tup (frzL_cons (frz_good _ _ (good_tr _)) rfl)
  refine endB_take fz (by simp [goodL]) rfl ?_
  simp [kills, killsL, kills_good _ (good_tr _), killAll]
theorem dig32 {b : Bt} {m : Nat} (inv : BInv b m) (hm : m < 2^20) : digF 32 b.tre = (0, dg 32 b.tre) ∧ (dg 32 b.tre).length = 32 ∧ Gd 32 b.tre ∧ fullF b.tre = true := by
  have g := is_gd (w := 32) rfl (tre_ok inv.sml) (inv.is' hm)
  have hd := g.1.dgs
  have hl := told_len (w := 32) rfl _ g.1.formed hd
  refine ⟨?_, by omega, g.1, g.2⟩
  have hc : checkF b.tre = 0 := by unfold checkF; rw [g.1.formed, g.1.deep]; rfl
  unfold digF
  rw [if_neg (by decide), if_pos hc, hd]
def dgB (b : Bt) : Bs := dg 32 b.tre
theorem Root_ok {H : List AObj} {l r : Nat} {i0 : Int} {vs : List Ver} {v : Ver} {b : Bt} {m : Nat} (h : FoldH H l r i0 vs) (h0 : 0 ≤ i0) (h1 : i0 ≤ 2^60) (hn : vs.length ≤ 2^20) (j : Nat) (hj : vs[j]? = some v) (hb : v.t = b.tre) (inv : BInv b m) (hm : m < 2^20) (hd : v.d = none ∨ v.d = some (dgB b)) :
    EV C n_fold_Fold_Root [.ptr l 1 0 0, .int .i64 (i0 + j)] H = some (.tup [bys (dgB b), .nili], H.set r (versO (vs.set j ⟨v.t, some (dgB b)⟩)), []) := by
  have lj := lt_get hj
  have D := dig32 inv hm
  have L : (dgB b).length = 32 := D.2.1
  refine fold_Fold_Root_of ?_
  dsimp only
  rw [atK h h0 h1 hn j lj]
  simp -implicitDefEqProofs only [extA_0, extA_1, Option.bind_some, neq_nil1, condK_f, nilA_ptr, offA_ptr, Nat.zero_add, ld_verD h.hr rfl hj]
  have q1 : binA .eql (Go.TypeDesc.slice 5) (cmpT Tryd.prog) true .nils .nils = some (.bool true) := by kernel_rfl
  rcases hd with hd | hd
  · rw [show v.rt = .nils from by unfold Ver.rt; rw [hd], q1]
    simp -implicitDefEqProofs only [Option.bind_some, condK_t, nilA_ptr, offA_ptr, Nat.zero_add, ld_verT h.hr rfl hj]
    have DD := Digest_ok 32 v.t (by rw [hb]; exact tre_ok inv.sml)
    have DD' : EV C n_tree_Digest [.int .i64 32, v.t.av] [] = some (resD (0, dgB b), [], []) := by
      rw [hb, D.1] at DD; rw [hb]; exact DD
    rw [callK_ok (by simp [goodL]) DD']
    simp -implicitDefEqProofs only [resD, extA_0, extA_1, Option.bind_some, nilA_ptr, offA_ptr, Nat.zero_add]
    rw [sto_verD h.hr rfl hj]
    have hr' : (H.set r (versO (vs.set j ⟨v.t, some (dgB b)⟩)))[r]? = some (versO (vs.set j ⟨v.t, some (dgB b)⟩)) := set_get h.hr
    have ld : loadA false 1 (.ptr r vs.length j 5) (H.set r (versO (vs.set j ⟨v.t, some (dgB b)⟩))) = some (bys (dgB b)) := by
      rw [ld_verD hr' (by simp) (v := ⟨v.t, some (dgB b)⟩) (by rw [List.getElem?_set_self lj])]; rfl
    have ne0 : binA .neq (Go.TypeDesc.interface #[("Error", 202)]) (cmpT Tryd.prog) true (errA 0) .nili = some (.bool false) := by kernel_rfl
    simp -implicitDefEqProofs only [ne0, Option.bind_some, condK_f, ld]
    rw [callK_ok (by simp [goodL]) (Clone_byte_ok _ (by omega))]
    have fz : ∀ H, frz H (.tup [bys (dgB b), .nili]) = some (.tup [bys (dgB b), .nili]) := fun H => frz_tup (frzL_cons (frz_good _ _ (good_bys _)) rfl)
    refine endB_at (H0 := H) (fz _) (by simp [goodL]) (by simp [kills, killsL, kills_good _ (good_bys _)]) rfl ?_
    exact List.length_set
  · have e : H.set r (versO (vs.set j ⟨v.t, some (dgB b)⟩)) = H := by
      have e1 : vs.set j ⟨v.t, some (dgB b)⟩ = vs := by
        apply set_same; rw [hj]; rw [← hd]
      rw [e1, set_same h.hr]
    have q2 : binA .eql (Go.TypeDesc.slice 5) (cmpT Tryd.prog) true (bys (dgB b)) .nils = some (.bool false) := by
      have : ∀ x : Bs, x.length = 32 → binA .eql (Go.TypeDesc.slice 5) (cmpT Tryd.prog) true (bys x) .nils = some (.bool false) := fun x hx => by
        cases x with
        | nil => simp at hx
        | cons a x => rfl
      exact this _ L
    rw [show v.rt = bys (dgB b) from by unfold Ver.rt; rw [hd], q2, e]
    simp -implicitDefEqProofs only [Option.bind_some, condK_f]
    rw [callK_ok (by simp [goodL]) (Clone_byte_ok _ (by omega))]
    have fz : ∀ H, frz H (.tup [bys (dgB b), .nili]) = some (.tup [bys (dgB b), .nili]) := fun H => frz_tup (frzL_cons (frz_good _ _ (good_bys _)) rfl)
    exact endB_at (H0 := H) (fz _) (by simp [goodL]) (by simp [kills, killsL, kills_good _ (good_bys _)]) rfl (by simp)
end Go.Pm
namespace Go.Pm
open Go.Proofs
set_option linter.unusedVariables false
set_option linter.unusedSimpArgs false
theorem targ_z : TArg [.int .i64 0, .nils, .nils, .nils, .nils] Tre.nil where
  len := rfl
  one := rfl
  frz := frz_nil0
  kil := rfl
theorem New_lo (i : Int) (hi : i < 0) {cs : List AV} {t : Tre} (h : TArg cs t) (H : List AObj) : EV C n_fold_New [.int .i64 i, .agg cs] H = some (.tup [.nilp, .ifc t_api_Code (.int .i64 1)], H ++ [.row 5 [.agg cs]], []) := by
  refine fold_New_of ?_
  dsimp only
  rw [h.new]
  simp -implicitDefEqProofs only [ZS, ZT, Nat.reduceAdd]
  rw [if_pos hi]
  exact endB_raw
def z5 : AObj := .row 5 [.agg [.int .i64 0, .nils, .nils, .nils, .nils]]
def v6 : AObj := .row 6 [.agg [.int .i64 0, .nils, .nils, .nils, .nils, .nils]]
def v6' : AObj := .row 6 [.agg [.int .i64 0, .nils, .nils, .nils, .nils, .nils], .agg [.int .i64 0, .nils, .nils, .nils, .nils, .nils]]
def zEnt : AV := .agg [.int .i64 0, .int .i64 0, .lst []]
theorem Apply0_ok : EV C n_fold_Fold_Apply [.ptr 2 1 0 0, zEnt] [z5, v6, foldV 3 1 1, z5] = some (.int .i64 0, [z5, v6', foldV 3 1 2, z5], []) := by
  refine fold_Fold_Apply_of ?_
  have n1 : ∀ (K : AV → List AObj → List Nat → Option R3), newK zEnt [z5, v6, foldV 3 1 1, z5] K = K (.ptr 4 1 0 0) [z5, v6, foldV 3 1 1, z5, .row 3 [zEnt]] [] := fun K => rfl
  have l1 : ∀ T, loadA false 1 (.ptr 2 1 0 1) (z5 :: v6 :: foldV 3 1 1 :: z5 :: T) = some (.slc 1 0 1 1) := fun T => rfl
  have le : ∀ T, lenV (.slc 1 0 1 1) (z5 :: v6 :: foldV 3 1 1 :: z5 :: T) = some (.int .i64 1) := fun T => rfl
  have s1 : binA .sub (Go.TypeDesc.int Go.IntKind.i64) (cmpT Tryd.prog) true (.int .i64 1) (.int .i64 1) = some (.int .i64 0) := by kernel_rfl
  have x1 : ∀ T, ixA 6 (.slc 1 0 1 1) (.int .i64 0) (z5 :: v6 :: foldV 3 1 1 :: z5 :: T) = some (.ptr 1 1 0 0) := fun T => rfl
  have l2 : ∀ T, loadA true 6 (.ptr 1 1 0 0) (z5 :: v6 :: foldV 3 1 1 :: z5 :: T) = some (.agg [.int .i64 0, .nils, .nils, .nils, .nils, .nils]) := fun T => rfl
  have n2 : ∀ o (K : AV → List AObj → List Nat → Option R3), newK (.agg [(.int .i64 0), .nils, .nils, .nils, .nils, .nils]) (z5 :: v6 :: foldV 3 1 1 :: z5 :: [o]) K = K (.ptr 5 1 0 0) (z5 :: v6 :: foldV 3 1 1 :: z5 :: [o, v6]) [] := fun o K => rfl
  have st : ∀ o T (K : List AObj → List Nat → Option R3), stoK 6 (.ptr 5 1 0 0) (.agg [.int .i64 0, .nils, .nils, .nils, .nils, .nils]) (z5 :: v6 :: foldV 3 1 1 :: z5 :: o :: v6 :: T) K = K (z5 :: v6 :: foldV 3 1 1 :: z5 :: o :: v6 :: T) [] := fun o T K => rfl
  have l3 : ∀ T, loadA false 1 (.ptr 4 1 0 1) (z5 :: v6 :: foldV 3 1 1 :: z5 :: .row 3 [zEnt] :: T) = some (.int .i64 0) := fun T => rfl
  have q1 : binA .eql (Go.TypeDesc.int Go.IntKind.i64) (cmpT Tryd.prog) true (.int .i64 0) (.int .i64 1) = some (.bool false) := by kernel_rfl
  have l4 : ∀ o T, loadA true 6 (.ptr 5 1 0 0) (z5 :: v6 :: foldV 3 1 1 :: z5 :: o :: v6 :: T) = some (.agg [.int .i64 0, .nils, .nils, .nils, .nils, .nils]) := fun o T => rfl
  have d1 : ∀ o (K : AV → List AObj → List Nat → Option R3), rawK 6 1 (.agg [(.int .i64 0), .nils, .nils, .nils, .nils, .nils]) [(0, .agg [.int .i64 0, .nils, .nils, .nils, .nils, .nils])] [z5, v6, foldV 3 1 1, z5, o, v6] K = K (.slc 6 0 1 1) [z5, v6, foldV 3 1 1, z5, o, v6, v6] [] := fun o K => rfl
  dsimp only
  rw [n1]
  simp -implicitDefEqProofs only [nilA_ptr, offA_ptr, Nat.zero_add, Option.bind_some, l1, le, s1, x1, l2, n2, List.cons_append, List.nil_append, drawK_T, drawK_t, st, l3, q1, condK_f, l4]
  rw [d1]
  simp -implicitDefEqProofs only [l1, Option.bind_some, drawK_T, drawK_t]
  exact Eq.trans (b := endB false false 4 (.int .i64 0) [z5, v6', foldV 3 1 2, z5, .row 3 [zEnt], v6, v6] []) rfl rfl
theorem up13_ok : EV C n_law13_up [] [] = some (.bool true, [], []) := by
  refine law13_up_of ?_
  have e1 : EV C n_fold_New [.int .i64 3, .agg [.int .i64 0, .nils, .nils, .nils, .nils]] [] = some (.tup [.ptr 2 1 0 0, .nili], [z5, v6, foldV 3 1 1], []) := New_ok 3 (by decide) (by decide) targ_z nil_ok (by decide) rfl []
  have e2 : EV C n_fold_New [.int .i64 (-1), .agg [.int .i64 0, .nils, .nils, .nils, .nils]] [z5, v6, foldV 3 1 1] = some (.tup [.nilp, .ifc t_api_Code (.int .i64 1)], [z5, v6, foldV 3 1 1, z5], []) := New_lo (-1) (by decide) targ_z _
  have q1 : binA .eql (Go.TypeDesc.pointer 124) (cmpT Tryd.prog) true (.ptr 2 1 0 0) .nilp = some (.bool false) := by kernel_rfl
  have q2 : binA .neq (Go.TypeDesc.interface #[("Error", 202)]) (cmpT Tryd.prog) true .nili .nili = some (.bool false) := by kernel_rfl
  have q3 : binA .neq (Go.TypeDesc.interface #[("Error", 202)]) (cmpT Tryd.prog) false (.ifc t_api_Code (.int .i64 1)) (.ifc t_api_Code (.int .i64 1)) = some (.bool false) := by kernel_rfl
  have f1 : ∀ (K : List AV → Option R3), (fillB (AV.cells (.agg [(.int .i64 0), (.int .i64 0), .nils])) []).bind K = K [.int .i64 0, .int .i64 0, .nils] := fun K => rfl
  have a1 : ∀ (K : AV → List AObj → List Nat → Option R3), callK (EV C) false n_fold_Fold_Apply [.ptr 2 1 0 0, .agg [.int .i64 0, .int .i64 0, .nils]] [z5, v6, foldV 3 1 1, z5] K = K (.int .i64 0) [z5, v6', foldV 3 1 2, z5] [] := fun K => callK_ptrF (bs := [.ptr 2 1 0 0, zEnt]) rfl rfl rfl Apply0_ok
  have a2 : ∀ (K : AV → List AObj → List Nat → Option R3), callK (EV C) false n_fold_Fold_First [.ptr 2 1 0 0] [z5, v6', foldV 3 1 2, z5] K = K (.int .i64 3) [z5, v6', foldV 3 1 2, z5] [] := fun K => callK_ptrF (bs := [.ptr 2 1 0 0]) rfl rfl rfl (First_ok rfl)
  have a3 : ∀ (K : AV → List AObj → List Nat → Option R3), callK (EV C) false n_fold_Fold_Last [.ptr 2 1 0 0] [z5, v6', foldV 3 1 2, z5] K = K (.int .i64 4) [z5, v6', foldV 3 1 2, z5] [] := fun K => callK_ptrF (bs := [.ptr 2 1 0 0]) rfl rfl rfl (Last_ok (i := 3) (n := 2) rfl rfl rfl (by decide) (by decide) (by decide))
  dsimp only
  rw [fill_nil, callK_raw e1]
  simp -implicitDefEqProofs only [ZS, ZT, Nat.reduceAdd]
  rw [fill_nil, callK_raw e2]
  simp -implicitDefEqProofs only [q1, q2, q3, ZS, ZT, Nat.reduceAdd]
  rw [f1, a1, a2]
  simp -implicitDefEqProofs only [a3, ZS, ZT, Nat.reduceAdd]
  exact endB_good rfl
theorem pick_ok (c : Int) (hc : -2^63 ≤ c) (hc2 : c < 2^63) (n : Nat) (hn : n ≤ 2^40) (h0 : 0 < n) : ∃ k : Nat, k < n ∧ EV C n_law13_pick [.int .i64 c, .int .i64 (n : Int)] [] = some (.int .i64 (k : Int), [], []) := by
  have key : ∀ x : Nat, x < 2^63 → ∀ d cc bb, binA .rem d cc bb (.int .i64 (x : Int)) (.int .i64 (n : Int)) = some (.int .i64 ((x % n : Nat) : Int)) := fun x hx d cc bb => by
    rw [rem_int d cc bb .i64 x n (by omega)]
  by_cases h : c < 0
  · refine ⟨(-(c + 1)).toNat % n, Nat.mod_lt _ h0, law13_pick_of ?_⟩
    simp -implicitDefEqProofs only [lss_int, Option.bind_some, condK_dec, add_int, if_pos h]
    rw [wrap64 (n := c + 1) (by omega) (by omega)]
    have e : unA .neg (.int .i64 (c + 1)) = some (.int .i64 (((-(c + 1)).toNat : Nat) : Int)) := by
      have : unA .neg (.int .i64 (c + 1)) = some (.int .i64 (IntKind.i64.wrap (0 - (c + 1)))) := rfl
      rw [this, wrap64 (by omega) (by omega), Int.toNat_of_nonneg (by omega), Int.zero_sub]
    rw [e, Option.bind_some, key _ (by omega), Option.bind_some]
    exact endB_good rfl
  · refine ⟨c.toNat % n, Nat.mod_lt _ h0, law13_pick_of ?_⟩
    have e : c = ((c.toNat : Nat) : Int) := by omega
    simp -implicitDefEqProofs only [lss_int, Option.bind_some, condK_dec, if_neg h]
    rw [e, key _ (by omega), Option.bind_some, Int.toNat_natCast]
    exact endB_good rfl
end Go.Pm
namespace Go.Pm
open Go.Proofs
set_option linter.unusedVariables false
set_option linter.unusedSimpArgs false
def runE (t : Bt) (l : List Ent) : Bt := l.foldl (fun t e => (stepE t e).1) t
def Tv (b : Bt) (l : List Ent) (i : Nat) : Bt := runE b (l.take i)
theorem stepE_inv {t : Bt} {n : Nat} (h : BInv t n) (e : Ent) : BInv (stepE t e).1 (n + 2) := by
  unfold stepE; split
  · exact h.applyF e.data
  · exact h.mono (by omega)
theorem runE_inv : ∀ (l : List Ent) {t : Bt} {n : Nat}, BInv t n → BInv (runE t l) (n + 2 * l.length)
  | [], t, n, h => h.mono (by simp)
  | e :: l, t, n, h => by
    have := runE_inv l (stepE_inv h e)
    exact this.mono (by simp; omega)
theorem Tv_inv {b : Bt} {n : Nat} (h : BInv b n) (l : List Ent) (i : Nat) : BInv (Tv b l i) (n + 2 * i) :=
  (runE_inv (l.take i) h).mono (by simp only [List.length_take]; omega)
theorem Tv_succ (b : Bt) (l : List Ent) {i : Nat} (h : i < l.length) : Tv b l (i + 1) = (stepE (Tv b l i) l[i]).1 := by
  unfold Tv runE
  rw [List.take_succ_eq_append_getElem h, List.foldl_append]; rfl
def vsT (T : Nat → Bt) (a k : Nat) : List Ver := (List.range (k + 1)).map fun j => ⟨(T (a + j)).tre, none⟩
theorem vsT_len (T : Nat → Bt) (a k : Nat) : (vsT T a k).length = k + 1 := by simp [vsT]
theorem vsT_get (T : Nat → Bt) (a : Nat) {k j : Nat} (h : j ≤ k) : (vsT T a k)[j]? = some ⟨(T (a + j)).tre, none⟩ := by
  simp [vsT, List.getElem?_map, List.getElem?_range (show j < k + 1 by omega)]
theorem vsT_succ (T : Nat → Bt) (a k : Nat) : vsT T a (k + 1) = vsT T a k ++ [⟨(T (a + (k + 1))).tre, none⟩] := by
  unfold vsT; rw [List.range_succ (n := k + 1), List.map_append]; rfl
theorem Apply_T {H : List AObj} {l r : Nat} {i0 : Int} {T : Nat → Bt} {a k m : Nat} (h : FoldH H l r i0 (vsT T a k)) (hk : k ≤ 1000) (inv : BInv (T (a + k)) m) (hm : m ≤ 10000) (e : Ent) (he : e.data.length ≤ 2^46) (hs : T (a + (k + 1)) = (stepE (T (a + k)) e).1) :
    EV C n_fold_Fold_Apply [.ptr l 1 0 0, e.av] H = some (.int .i64 (stepE (T (a + k)) e).2, appH H l r i0 (vsT T a (k + 1)), []) := by
  have A := Apply_ok (v := ⟨(T (a + k)).tre, none⟩) h (by rw [vsT_len]; omega) (by rw [vsT_len]; exact vsT_get T a (by omega)) rfl inv (by omega) e he
  have E : (if e.kind = 1 then ⟨(stepE (T (a + k)) e).1.tre, none⟩ else (⟨(T (a + k)).tre, none⟩ : Ver)) = ⟨(T (a + (k + 1))).tre, none⟩ := by
    rw [hs]
    split
    · rfl
    · rename_i hk; unfold stepE; rw [if_neg hk]
  rw [A, E, ← vsT_succ]
/-- what does not lie in the fold's two rows stays -/
theorem FoldH.other {H : List AObj} {l r : Nat} {i0 : Int} {vs : List Ver} (h : FoldH H l r i0 vs) {x : Nat} {v : AObj} (h1 : x ≠ l) (h2 : x ≠ r) : FoldH (H.set x v) l r i0 vs :=
  ⟨by rw [List.getElem?_set_ne h1]; exact h.hl, by rw [List.getElem?_set_ne h2]; exact h.hr, h.lt⟩
theorem FoldH.root {H : List AObj} {l r : Nat} {i0 : Int} {vs ws : List Ver} (h : FoldH H l r i0 vs) (hw : ws.length = vs.length) : FoldH (H.set r (versO ws)) l r i0 ws := by
  have := h.lt
  exact ⟨by rw [List.getElem?_set_ne (by omega), hw]; exact h.hl, set_get h.hr, h.lt⟩
/-- the versions from i on have no root yet -/
def Fresh (T : Nat → Bt) (a i n : Nat) (vs : List Ver) : Prop := vs.length = n - a + 1 ∧ ∀ j, i ≤ j → j ≤ n → vs[j - a]? = some ⟨(T j).tre, none⟩
theorem fresh_vsT (T : Nat → Bt) {a n i : Nat} (h : a ≤ n) (hi : a ≤ i) : Fresh T a i n (vsT T a (n - a)) :=
  ⟨vsT_len _ _ _, fun j h1 h2 => by rw [vsT_get T a (by omega), show a + (j - a) = j by omega]⟩
theorem Fresh.next {T : Nat → Bt} {a i n : Nat} {vs : List Ver} (h : Fresh T a i n vs) (hi : a ≤ i) (v : Ver) : Fresh T a (i + 1) n (vs.set (i - a) v) :=
  ⟨by rw [List.length_set]; exact h.1, fun j h1 h2 => by rw [List.getElem?_set_ne (by omega)]; exact h.2 j (by omega) h2⟩
theorem Root_T {H : List AObj} {l r : Nat} {T : Nat → Bt} {a i n m : Nat} {vs : List Ver} (h : FoldH H l r (a : Int) vs) (hf : Fresh T a i n vs) (ha : a ≤ i) (hi : i ≤ n) (hn : n ≤ 1000) (inv : BInv (T i) m) (hm : m ≤ 10000) :
    EV C n_fold_Fold_Root [.ptr l 1 0 0, .int .i64 (i : Int)] H = some (.tup [bys (dgB (T i)), .nili], H.set r (versO (vs.set (i - a) ⟨(T i).tre, some (dgB (T i))⟩)), []) := by
  have R := Root_ok (v := ⟨(T i).tre, none⟩) h (by omega) (by omega) (by rw [hf.1]; omega) (i - a) (hf.2 i (Nat.le_refl _) hi) rfl inv (by omega) (Or.inl rfl)
  rw [show (a : Int) + ((i - a : Nat) : Int) = (i : Int) by omega] at R
  exact R
theorem same_J23 {T : Nat → Bt} {n a lh rh : Nat} (hn : n ≤ 100) (ha : a ≤ n) (inv : ∀ i, i ≤ n → BInv (T i) 1000) (hr : 2 < rh) : ∀ (m i : Nat) (vf vh : List Ver) (H : List AObj) (E : List Nat), i + m = n + 1 → a ≤ i →
    FoldH H 2 1 0 vf → FoldH H lh rh (a : Int) vh → Fresh T 0 i n vf → Fresh T a i n vh →
    law13_FoldSame_J23 0 (.bool true) (.ptr 2 1 0 0) (.int .i64 (n : Int)) (.ptr lh 1 0 0) (.int .i64 (i : Int)) H E = some (.bool true, [], [])
  | 0, i, vf, vh, H, E, hi, hai, hf, hh, ff, fh => by
    refine law13_FoldSame_J23_of ?_
    simp -implicitDefEqProofs only [leq_int, Option.bind_some, condK_dec, splitK_t]
    rw [if_neg (by omega), callK_ptrF (bs := [.ptr lh 1 0 0]) rfl rfl rfl (Last_fold hh (by omega) (by omega) (by rw [fh.1]; omega)), fh.1, show (a : Int) + ((n - a + 1 : Nat) : Int) - 1 = (n : Int) by omega]
    simp -implicitDefEqProofs only [eql_int, Option.bind_some, decide_true]
    exact endB_good rfl
  | m + 1, i, vf, vh, H, E, hi, hai, hf, hh, ff, fh => by
    have hlt := hh.lt
    have R1 := Root_T (l := 2) (r := 1) (a := 0) hf ff (by omega) (by omega) (by omega) (inv i (by omega)) (by omega)
    have hh' := hh.other (x := 1) (v := versO (vf.set (i - 0) ⟨(T i).tre, some (dgB (T i))⟩)) (by omega) (by omega)
    have R2 := Root_T hh' fh hai (by omega) (by omega) (inv i (by omega)) (by omega)
    have hf' := (hf.root (ws := vf.set (i - 0) ⟨(T i).tre, some (dgB (T i))⟩) (by simp)).other (x := rh) (v := versO (vh.set (i - a) ⟨(T i).tre, some (dgB (T i))⟩)) (by omega) (by omega)
    have hh2 := hh'.root (ws := vh.set (i - a) ⟨(T i).tre, some (dgB (T i))⟩) (by simp)
    have len : (dgB (T i)).length = 32 := (dig32 (inv i (by omega)) (by omega)).2.1
    refine law13_FoldSame_J23_of ?_
    simp -implicitDefEqProofs only [leq_int, Option.bind_some, condK_dec]
    rw [if_pos (by omega), callM (by simp [goodL, AV.good]) R1]
    simp -implicitDefEqProofs only [extA_0, extA_1, Option.bind_some]
    rw [callM (by simp [goodL, AV.good]) R2]
    simp -implicitDefEqProofs only [extA_0, extA_1, Option.bind_some, neq_nil1, splitK_f, lenV_bys, len, cvL_bys]
    have q1 : binA .neq (Go.TypeDesc.int Go.IntKind.i64) (cmpT Tryd.prog) true (.int .i64 ((32 : Nat) : Int)) (.int .i64 32) = some (.bool false) := by kernel_rfl
    rw [q1]
    simp -implicitDefEqProofs only [Option.bind_some, splitK_f, neq_str, bl_mk, condK_dec, add_int]
    rw [w64 (n := i + 1) (by omega) (by omega)]
    simp -implicitDefEqProofs only [decide_true, Bool.not_true, condK_f]
    exact same_J23 hn ha inv hr m (i + 1) _ _ _ _ (by omega) (by omega) hf' hh2 (ff.next (by omega) _) (fh.next hai _)
theorem appH_other {H : List AObj} {l r l' r' : Nat} {i0 i1 : Int} {vs ws : List Ver} (h : FoldH H l r i0 vs) (h1 : l ≠ l') (h2 : l ≠ r') (h3 : r ≠ l') (h4 : r ≠ r') : FoldH (appH H l' r' i1 ws) l r i0 vs := by
  unfold appH
  exact (h.other (by omega) (by omega)).other (by omega) (by omega)
theorem ent_ip (es : List Ent) {i : Nat} (h : i < es.length) (H : List AObj) : ixA 3 (.lst (es.map Ent.av)) (.int .i64 (i : Int)) H = some (.ip es[i].cs) :=
  ixA_lst (e := es[i].av) (by omega) (by simp [h]) rfl
theorem ld_ent (e : Ent) (H : List AObj) : loadA true 3 (.ip e.cs) H = some e.av := rfl
theorem ld_entD (e : Ent) (H : List AObj) : loadA false 1 (.ip (e.cs.drop 2)) H = some (bys e.data) := rfl
theorem same_J19 {es : List Ent} {b : Bt} (hb : BInv b 60) {n a lh rh : Nat} (hn : n ≤ 10) (hn2 : n ≤ es.length) (ha : a ≤ n) (hd : ∀ e ∈ es.take n, e.data.length ≤ 3000) (hr : 2 < rh) : ∀ (m k : Nat) (H : List AObj) (E : List Nat), a + k + m = n →
    FoldH H 2 1 0 (vsT (Tv b es) 0 n) → FoldH H lh rh (a : Int) (vsT (Tv b es) a k) →
    law13_FoldSame_J19 0 (.lst (es.map Ent.av)) (.int .i64 (a : Int)) (.bool true) (.ptr 2 1 0 0) (.int .i64 (n : Int)) (.ptr lh 1 0 0) (.int .i64 ((a + k : Nat) : Int)) H E = some (.bool true, [], [])
  | 0, k, H, E, hi, hf, hh => by
    refine law13_FoldSame_J19_of ?_
    simp -implicitDefEqProofs only [lss_int, Option.bind_some, condK_dec]
    rw [if_neg (by omega)]
    have fh : Fresh (Tv b es) a a n (vsT (Tv b es) a k) := by
      have := fresh_vsT (Tv b es) (i := a) ha (Nat.le_refl _)
      rw [show n - a = k by omega] at this; exact this
    have ff : Fresh (Tv b es) 0 a n (vsT (Tv b es) 0 n) := fresh_vsT (Tv b es) (Nat.zero_le _) (by omega)
    exact same_J23 (by omega) ha (fun i h => (Tv_inv hb es i).mono (by omega)) hr (n + 1 - a) a _ _ _ _ (by omega) (Nat.le_refl _) hf hh ff fh
  | m + 1, k, H, E, hi, hf, hh => by
    have hlt := hh.lt
    have hl : a + k < es.length := by omega
    have hmem : es[a + k] ∈ es.take n := by
      rw [List.mem_iff_getElem]; exact ⟨a + k, by simp; omega, by simp⟩
    have A := Apply_T hh (by omega) ((Tv_inv hb es (a + k)).mono (show 60 + 2 * (a + k) ≤ 1000 by omega)) (by omega) es[a + k] (by have := hd _ hmem; omega) (Tv_succ b es hl)
    refine law13_FoldSame_J19_of ?_
    simp -implicitDefEqProofs only [lss_int, Option.bind_some, condK_dec]
    rw [if_pos (by omega), ent_ip es hl, Option.bind_some, ld_ent, Option.bind_some, callM (by simp [goodL, AV.good, Ent.av, Ent.cs]) A]
    simp -implicitDefEqProofs only [add_int, Option.bind_some]
    rw [w64 (n := a + (k + 1)) (by omega) (by omega)]
    exact same_J19 hb hn hn2 ha hd hr m (k + 1) _ _ (by omega) (appH_other hf (by omega) (by omega) (by omega) (by omega)) (appH_fold hh)
end Go.Pm
namespace Go.Pm
open Go.Proofs
set_option linter.unusedVariables false
set_option linter.unusedSimpArgs false
theorem same_exit {es : List Ent} {b : Bt} (hb : BInv b 60) {n : Nat} (hn : n ≤ 10) (hn2 : n ≤ es.length) (hd : ∀ e ∈ es.take n, e.data.length ≤ 3000) (c : Int) (hc : -2^63 ≤ c) (hc2 : c < 2^63) {H : List AObj} {E : List Nat} (hf : FoldH H 2 1 0 (vsT (Tv b es) 0 n)) :
    ((binA .add (Go.TypeDesc.int Go.IntKind.i64) (cmpT Tryd.prog) true (.int .i64 (n : Int)) (.int .i64 1)).bind fun a28 =>
    callK (EV C) false n_law13_pick [(.int .i64 c), a28] H fun a29 H29 E29 =>
    callK (EV C) false n_fold_Fold_Tree [(.ptr 2 1 0 0), a29] H29 fun a30 H30 E30 =>
    (extA a30 0).bind fun a31 =>
    (extA a30 1).bind fun a32 =>
    newK (.agg [(.int .i64 0), .nils, .nils, .nils, .nils]) H30 fun a33 H33 E33 =>
    stoK 5 a33 a31 H33 fun H34 E34 =>
    (loadA true 5 a33 H34).bind fun a35 =>
    callK (EV C) true n_fold_New [a29, a35] H34 fun a36 H36 E36 =>
    (extA a36 0).bind fun a37 =>
    (extA a36 1).bind fun a38 =>
    (binA .neq (Go.TypeDesc.interface #[("Error", 202)]) (cmpT Tryd.prog) true a32 .nili).bind fun a39 =>
    splitK a39
      (endB false false 0 (.bool false) H36 (E36 ++ (E34 ++ (E33 ++ (E30 ++ (E29 ++ E))))))
      ((binA .eql (Go.TypeDesc.pointer 124) (cmpT Tryd.prog) true a37 .nilp).bind fun a40 =>
      splitK a40
        (endB false false 0 (.bool false) H36 (E36 ++ (E34 ++ (E33 ++ (E30 ++ (E29 ++ E))))))
        ((binA .neq (Go.TypeDesc.interface #[("Error", 202)]) (cmpT Tryd.prog) true a38 .nili).bind fun a41 =>
        condK a41
          (endB false false 0 (.bool false) H36 (E36 ++ (E34 ++ (E33 ++ (E30 ++ (E29 ++ E))))))
          (law13_FoldSame_J19 0 (.lst (es.map Ent.av)) a29 (.bool true) (.ptr 2 1 0 0) (.int .i64 (n : Int)) a37 a29 H36 (E36 ++ (E34 ++ (E33 ++ (E30 ++ (E29 ++ E))))))))) = some (.bool true, [], []) := by
  obtain ⟨a, ha, pk⟩ := pick_ok c hc hc2 (n + 1) (by omega) (by omega)
  have va : (vsT (Tv b es) 0 n)[a]? = some ⟨(Tv b es (0 + a)).tre, none⟩ := vsT_get _ _ (by omega)
  rw [Nat.zero_add] at va
  have TR := Tree_ok hf (by omega) (by omega) (by rw [vsT_len]; omega) a va
  rw [Int.zero_add] at TR
  have inv := Tv_inv hb es a
  have hlen := lt_get hf.hl
  have H0 := (hf.app [AObj.row 5 [(Tv b es a).tre.av]])
  have N := New_ok (a : Int) (by omega) (by omega) (targ_t (Tv b es a).tre) (tre_ok inv.sml) (inv.nodes (by omega)) (inv.is' (by omega)) (H ++ [AObj.row 5 [(Tv b es a).tre.av]])
  rw [← av_eq] at N
  rw [add_int, Option.bind_some, w64 (n := n + 1) (by omega) (by omega), callK_ok (by simp [goodL, AV.good]) pk, callM (by simp [goodL, AV.good]) TR]
  simp -implicitDefEqProofs only [extA_0, extA_1, Option.bind_some]
  rw [new_z, sto_t (g0 _ _ _) rfl, show (H ++ [AObj.row 5 [.agg [(.int .i64 0), .nils, .nils, .nils, .nils]]]).set H.length (.row 5 [(Tv b es a).tre.av]) = H ++ [.row 5 [(Tv b es a).tre.av]] from by simp, ld_box (g0 _ _ _), Option.bind_some, callK_raw N]
  have q1 : ∀ k, binA .eql (Go.TypeDesc.pointer 124) (cmpT Tryd.prog) true (.ptr k 1 0 0) .nilp = some (.bool false) := fun k => rfl
  simp -implicitDefEqProofs only [extA_0, extA_1, Option.bind_some, neq_nil1, splitK_f, condK_f, q1]
  refine same_J19 hb hn hn2 (by omega) hd (lh := (H ++ [AObj.row 5 [(Tv b es a).tre.av]]).length + 2) (rh := (H ++ [AObj.row 5 [(Tv b es a).tre.av]]).length + 1) (by simp; omega) (n - a) 0 _ _ (by omega) (H0.app _) ⟨?_, ?_, by omega⟩
  · rw [List.getElem?_append_right (by omega)]; simp [vsT_len]
  · rw [List.getElem?_append_right (by omega)]; simp [versO, vsT, Ver.av, Ver.cs, Ver.rt, treC]
theorem same_J7 {es : List Ent} {b : Bt} (hb : BInv b 60) (c : Int) (hc : -2^63 ≤ c) (hc2 : c < 2^63) : ∀ (m i : Nat) (H : List AObj) (E : List Nat), i + m = 10 → i ≤ es.length → (∀ e ∈ es.take i, e.data.length ≤ 3000) →
    FoldH H 2 1 0 (vsT (Tv b es) 0 i) →
    law13_FoldSame_J7 0 (.lst (es.map Ent.av)) (.int .i64 c) (.bool true) (.ptr 2 1 0 0) (.int .i64 (i : Int)) (.int .i64 (i : Int)) H E = some (.bool true, [], []) := by
  intro m
  induction m with
  | zero =>
    intro i H E hi hl hd hf
    refine law13_FoldSame_J7_of ?_
    have le : lenV (.lst (es.map Ent.av)) H = some (.int .i64 (es.length : Int)) := by simp [lenV, lenA]
    simp -implicitDefEqProofs only [le, lss_int, Option.bind_some, splitK_dec, condK_dec]
    split
    · rw [if_neg (by omega)]; exact same_exit hb (by omega) hl hd c hc hc2 hf
    · exact same_exit hb (by omega) hl hd c hc hc2 hf
  | succ m ih =>
    intro i H E hi hl hd hf
    refine law13_FoldSame_J7_of ?_
    have le : lenV (.lst (es.map Ent.av)) H = some (.int .i64 (es.length : Int)) := by simp [lenV, lenA]
    simp -implicitDefEqProofs only [le, lss_int, Option.bind_some, splitK_dec, condK_dec]
    by_cases h : (i : Int) < (es.length : Int)
    · have h' : i < es.length := by omega
      rw [if_pos h, if_pos (by omega), ent_ip es h', Option.bind_some]
      simp -implicitDefEqProofs only [offA_ip, ld_entD, lenV_bys, gtr_int, Option.bind_some, condK_dec]
      split
      · exact endB_good rfl
      · rename_i hs
        have A := Apply_T hf (by omega) ((Tv_inv hb es (0 + i)).mono (show 60 + 2 * (0 + i) ≤ 1000 by omega)) (by omega) es[i] (by omega) (by rw [Nat.zero_add, Nat.zero_add]; exact Tv_succ b es h')
        rw [ld_ent, Option.bind_some, callM (by simp [goodL, AV.good, Ent.av, Ent.cs]) A, add_int, Option.bind_some, w64 (n := i + 1) (by omega) (by omega)]
        refine ih (i + 1) _ _ (by omega) (by omega) ?_ (appH_fold hf)
        rw [List.take_succ_eq_append_getElem h']
        intro e he
        rcases List.mem_append.1 he with he | he
        · exact hd e he
        · simp at he; subst he; omega
    · rw [if_neg h]
      exact same_exit hb (by omega) hl hd c hc hc2 hf
theorem FoldSame_ok (ps : List Pr) (hps : ps.length ≤ 2^50) (es : List Ent) (c : Int) (hc : -2^63 ≤ c) (hc2 : c < 2^63) : EV C n_law13_FoldSame [prsA ps, .lst (es.map Ent.av), .int .i64 c] [] = some (.bool true, [], []) := by
  refine law13_FoldSame_of ?_
  dsimp only
  have inv := binv_grown ps
  have N := New_ok 0 (by omega) (by omega) (targ_t (grownF ps).tre) (tre_ok inv.sml) (inv.nodes (by omega)) (inv.is' (by omega)) []
  rw [← av_eq] at N
  rw [callK_ok rfl up13_ok, callK_ok (by simp [goodL]) (Grown_ok ps hps), callK_raw N]
  have q1 : ∀ k, binA .eql (Go.TypeDesc.pointer 124) (cmpT Tryd.prog) true (.ptr k 1 0 0) .nilp = some (.bool false) := fun k => rfl
  simp -implicitDefEqProofs only [extA_0, extA_1, Option.bind_some, neq_nil1, splitK_f, condK_f, q1]
  refine same_J7 inv c hc hc2 10 0 _ _ rfl (Nat.zero_le _) (by simp) ⟨rfl, ?_, by omega⟩
  simp [versO, vsT, Ver.av, Ver.cs, Ver.rt, treC, Tv, runE]
end Go.Pm
namespace Go.Pm
open Go.Proofs
set_option linter.unusedVariables false
theorem ty_ent {B f : Nat} {cs : List AV} (h : tyC Tryd.prog B f 65 cs) : ∃ e : Ent, mkE (agT Tryd.prog 65) cs = e.av := by
  obtain ⟨f', css, rfl, h2⟩ := ty_struct Tryd.underlying65 h
  obtain ⟨c1, _, rfl, ⟨k1, _⟩, h2⟩ := forall2_1 h2
  obtain ⟨c2, _, rfl, ⟨k2, _⟩, h2⟩ := forall2_1 h2
  obtain ⟨c3, _, rfl, ⟨k3, _⟩, h2⟩ := forall2_1 h2
  obtain rfl := forall2_0 h2
  obtain ⟨a, rfl⟩ := ty_i64 k1
  obtain ⟨o, rfl⟩ := ty_i64 k2
  obtain ⟨x, rfl, hx⟩ := ty_bytesB k3
  have e : agT Tryd.prog 65 = true := by unfold agT; rw [Tryd.underlying65]
  exact ⟨⟨a, o, x⟩, by rw [e]; rfl⟩
theorem ty_i64b {B f : Nat} {cs : List AV} {a : AV} (e : a = mkE (agT Tryd.prog 3) cs) (h : tyC Tryd.prog B f 3 cs) : ∃ n, a = .int .i64 n ∧ -2^63 ≤ n ∧ n < 2^63 := by
  obtain ⟨n, rfl, h1, h2⟩ := ty_int Tryd.underlying3 h
  have a1 : IntKind.i64.min = -9223372036854775808 := rfl
  have a2 : IntKind.i64.max = 9223372036854775807 := rfl
  rw [a1] at h1; rw [a2] at h2
  exact ⟨n, by rw [e, agT_f Tryd.underlying3 rfl]; rfl, by omega, by omega⟩
theorem foldSame_law {a b c : AV} {f f1 f2 : Nat} {l l1 l2 : List AV} (e : a = mkE (agT Tryd.prog 45) l) (h : tyC Tryd.prog reachBytes f 45 l) (e1 : b = mkE (agT Tryd.prog 75) l1) (h1 : tyC Tryd.prog reachBytes f1 75 l1) (e2 : c = mkE (agT Tryd.prog 3) l2) (h2 : tyC Tryd.prog reachBytes f2 3 l2) : EV C n_law13_FoldSame [a, b, c] [] = some (.bool true, [], []) := by
  obtain ⟨ps, rfl, hp⟩ := ty_prs e h
  obtain ⟨es, rfl, _⟩ := ty_slice (g := Ent.av) Tryd.underlying75 h1 fun f cs h => ty_ent h
  obtain ⟨n, rfl, n1, n2⟩ := ty_i64b e2 h2
  rw [e1, agT_f Tryd.underlying75 rfl]
  exact FoldSame_ok ps (prs_len hp) es n n1 n2
end Go.Pm
