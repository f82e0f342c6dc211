/- A part of the proof: what the functions of the program answer, as plain lists and numbers. -/
import Derived.Test.YtndkpoacbheemaaGreatP26
namespace Go.Pm
open Go.Proofs
set_option linter.unusedVariables false
set_option linter.unusedSimpArgs false
def compactL (g : Lg) (i : Int) : Lg := ⟨i, termL g i, membersL g i, g.es.drop (i - g.index).toNat⟩
theorem fill3 (i t : Int) (m : List Int) : fillB (AV.cells (.agg [(.int .i64 0), (.int .i64 0), .nils])) [(0, 1, .int .i64 i), (1, 1, .int .i64 t), (2, 1, ints m)] = some [.int .i64 i, .int .i64 t, ints m] := rfl
theorem fill4 (i t : Int) (m : List Int) (e : List Ent) : fillB (AV.cells (.agg [(.int .i64 0), (.int .i64 0), .nils, .nils])) [(0, 3, .agg [.int .i64 i, .int .i64 t, ints m]), (3, 1, ents e)] = some [.int .i64 i, .int .i64 t, ints m, ents e] := rfl
theorem fill5 (i t : Int) (m : List Int) : fillB (AV.cells (.agg [(.int .i64 0), (.int .i64 0), .nils, .nils])) [(0, 3, .agg [.int .i64 i, .int .i64 t, ints m])] = some [.int .i64 i, .int .i64 t, ints m, .nils] := rfl
def compactA (g : Lg) (i : Int) : AV := if soundL g = true then (if hasL g i = true then .tup [(compactL g i).av, .nili] else .tup [noLog.av, codeA 9]) else .tup [noLog.av, codeA 3]
theorem cut_tail {l : List Ent} {i : Nat} (h : i ≤ l.length) (H : List AObj) : cutA 3 (ents l) (some (.int .i64 (i : Int))) none none H = some (ents (l.drop i)) := by
 rw [cutA_ents (i := i) (j := l.length) rfl rfl h (Nat.le_refl _), List.take_length]
theorem Compact_ok (g : Lg) (i : Int) (hg : LgOk g) : EV C n_log_Compact [g.av, .int .i64 i] [] = some (compactA g i, [], []) := by
 refine log_Compact_of ?_
 simp only [ZL, Nat.reduceAdd, ZM, new_zlog, extA_2, ld_lg1, ld_lg2]
 rw [callK_ok (by simp) (asked_ok g i hg)]
 unfold askedA compactA codeA
 have hst1 : ∀ (o1 : AObj) (K : List AObj → List Nat → Option R3), stoK 4 (.ptr 1 1 0 0) (.agg [(.int .i64 0), (.int .i64 0), .nils, .nils]) [o1, .row 4 [zlog]] K = K [o1, .row 4 [zlog]] [] := fun o1 K => sto_zlog rfl
 by_cases hs : soundL g = true
 · have hsm := sound_small hs
   have h0 := hsm.i0; have h1 := hsm.i1; have hmo : most = 1152921504606846976 := rfl
   by_cases hh : hasL g i = true
   · have hb := hasL_iff.1 hh
     have w1 : IntKind.i64.wrap (i - g.index) = (((i - g.index).toNat : Nat) : Int) := w64 (by omega) (by omega)
     have hle := hg.e
     simp only [hs, hh, ZL, Nat.reduceAdd, ZM, new_zlog, extA_2, ld_lg1, ld_lg2]
     rw [callD_ok (by simp) (term_ok g i hsm hh), callD_ok (by simp) (Members_ok g i hg)]
     simp only [hs, ZL, Nat.reduceAdd, ZM, new_zlog, extA_2, ld_lg1, ld_lg2, fill3, w1, cut_tail (show (i - g.index).toNat ≤ g.es.length by omega)]
     rw [callD_ok (by simp) (Clone_api_Entry_ok _ (by rw [List.length_drop]; omega))]
     have hst : ∀ (o1 : AObj) (K : List AObj → List Nat → Option R3), stoK 4 (.ptr 1 1 0 0) (.agg [.int .i64 i, .int .i64 (termL g i), ints (membersL g i), ents (g.es.drop (i - g.index).toNat)]) [o1, .row 4 [zlog]] K = K [o1, .row 4 [(compactL g i).av]] [] := fun o1 K => sto_lg (compactL g i) rfl
     simp only [ZL, Nat.reduceAdd, ZM, new_zlog, extA_2, ld_lg1, ld_lg2, fill4, hst]
     exact endB_good (by simp)
   · simp only [Bool.not_eq_true] at hh
     simp only [hs, hh, ZL, Nat.reduceAdd, ZM, new_zlog, extA_2, ld_lg1, ld_lg2, fill0, hst1, ld_z1]
     exact (endB_frz (u := .tup [noLog.av, codeA 9]) (frz_tup (frzL_cons (frz_zlog _) (frzL_good _ [codeA 9] (by simp)))) (by simp))
 · simp only [Bool.not_eq_true] at hs
   simp only [hs, ZL, Nat.reduceAdd, ZM, new_zlog, extA_2, ld_lg1, ld_lg2, fill0, hst1, ld_z1]
   exact (endB_frz (u := .tup [noLog.av, codeA 3]) (frz_tup (frzL_cons (frz_zlog _) (frzL_good _ [codeA 3] (by simp)))) (by simp))
/-- a field of a struct is set -/
theorem sto_f {β : Type} {H : List AObj} {l z off : Nat} {cs : List AV} {v : AV} {K : List AObj → List Nat → Option β} (h : H[l]? = some (.row z [.agg cs])) (ho : off < cs.length) (hc : v.cells = [v]) (hv : v.one = true) :
  stoK 1 (.ptr l 1 0 off) v H K = K (H.set l (.row z [.agg (cs.set off v)])) (escs l [v]) := by
 have h2 : storeA 1 (.ptr l 1 0 off) v H = some (H.set l (.row z [.agg (cs.set off v)]), escs l [v]) := by
  unfold storeA; simp only [h, hc, List.length_singleton, List.all_cons, List.all_nil, hv, Bool.and_true]
  rw [if_pos ⟨trivial, trivial, trivial⟩]
  simp only [List.getElem?_cons_zero, Option.bind_some, setC, List.length_singleton]
  rw [if_pos (by omega)]
  simp [List.set_eq_take_append_cons_drop, ho]
 unfold stoK; rw [h2]; rfl
theorem appK_nils {β : Type} {H : List AObj} {z by_ : Nat} {ys : List AV} {y : AV} {K : Kt β} (hy : elemsA y H = some ys) (hne : ys ≠ []) (h1 : lz z ys = true) (h2 : 0 < z) (h3 : 0 < by_) (h4 : by_ ≤ 1048576) (h5 : ys.length * by_ ≤ 140737489400832) :
  appK z by_ .nils y H K = K (.slc H.length 0 ys.length ys.length) (H ++ [.row z ys]) [] := by
 have hb : ys.isEmpty = false := by cases ys <;> simp at hne ⊢
 simp [appK, hy, appendA, hne, h1, h2, h3, h4, h5]
theorem appK_nils0 {β : Type} {H : List AObj} {z by_ : Nat} {y : AV} {K : Kt β} (hy : elemsA y H = some []) : appK z by_ .nils y H K = K .nils H [] := by
 simp [appK, hy, appendA, lenA]
end Go.Pm
