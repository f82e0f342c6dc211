/- A part of the proof: what the functions of the program answer, as plain lists and numbers. -/
import Derived.Test.YtndkpoacbheemaaGreatP25
namespace Go.Pm
open Go.Proofs
set_option linter.unusedVariables false
set_option linter.unusedSimpArgs false
theorem sto_agg' {β : Type} {H : List AObj} {l z : Nat} {cs ds : List AV} {K : List AObj → List Nat → Option β} (h : H[l]? = some (.row z [.agg cs])) (hl : cs.length = ds.length) (h1 : ds.all AV.one = true) :
  stoK ds.length (.ptr l 1 0 0) (.agg ds) H K = K (H.set l (.row z [.agg ds])) (escs l ds) := by
 have h2 : storeA ds.length (.ptr l 1 0 0) (.agg ds) H = some (H.set l (.row z [.agg ds]), escs l ds) := by
  unfold storeA; simp only [h, AV.cells, List.length_singleton]; rw [if_pos ⟨trivial, trivial, h1⟩]; simp [setC, hl, List.drop_eq_nil_of_le (Nat.le_of_eq hl)]
 unfold stoK; rw [h2]; rfl
def zlog : AV := .agg [(.int .i64 0), (.int .i64 0), .nils, .nils]
def noLog : Lg := ⟨0, 0, [], []⟩
theorem frz_zlog (H : List AObj) : frz H zlog = some noLog.av := rfl
theorem new_zlog {β : Type} (H : List AObj) (K : Kt β) : newK (.agg [(.int .i64 0), (.int .i64 0), .nils, .nils]) H K = K (.ptr H.length 1 0 0) (H ++ [.row 4 [zlog]]) [] := rfl
theorem sto_lg {β : Type} {H : List AObj} {l : Nat} (g : Lg) {K : List AObj → List Nat → Option β} (h : H[l]? = some (.row 4 [zlog])) : stoK 4 (.ptr l 1 0 0) g.av H K = K (H.set l (.row 4 [g.av])) [] := by
 refine (sto_agg' (ds := [.int .i64 g.index, .int .i64 g.term, ints g.mems, ents g.es]) h rfl rfl).trans ?_
 rw [escs_good (by simp)]; rfl
theorem sto_zlog {β : Type} {H : List AObj} {l : Nat} {K : List AObj → List Nat → Option β} (h : H[l]? = some (.row 4 [zlog])) : stoK 4 (.ptr l 1 0 0) zlog H K = K (H.set l (.row 4 [zlog])) [] := by
 refine (sto_agg' (ds := [(.int .i64 0), (.int .i64 0), .nils, .nils]) h rfl rfl).trans ?_
 rfl
theorem ld_z1 (o : AObj) (T : List AObj) : loadA true 4 (.ptr 1 1 0 0) (o :: .row 4 [zlog] :: T) = some zlog := rfl
theorem fill0 : fillB (AV.cells (.agg [(.int .i64 0), (.int .i64 0), .nils, .nils])) [] = some [(.int .i64 0), (.int .i64 0), .nils, .nils] := rfl
theorem fill2 (g : Lg) (e : List Ent) : fillB (AV.cells (.agg [(.int .i64 0), (.int .i64 0), .nils, .nils])) [(0, 3, g.base), (3, 1, ents e)] = some [.int .i64 g.index, .int .i64 g.term, ints g.mems, ents e] := rfl
theorem litD2 (a b : List Ent) (H : List AObj) : litD 1 2 .nils [(0, ents a), (1, ents b)] H = some (.lst ([a, b].map ents)) := rfl
def errA (c : Int) : AV := if c = 0 then .nili else codeA c
def mch : List Ent → List Ent → Nat
 | x :: xs, y :: ys => if x.term = y.term then mch xs ys + 1 else 0
 | _, _ => 0
def joinL (g : Lg) (p : Nat) (e : List Ent) (i : Nat) : Lg := ⟨g.index, g.term, g.mems, g.es.take (p + i) ++ e.drop i⟩
def mergeK (g : Lg) (p : Nat) (e : List Ent) (i : Nat) : Lg × Int × Int :=
 if i = e.length then (g, lastL g + 1, 0)
 else if soundL (joinL g p e i) = true then (joinL g p e i, g.index + p + i + 1, 0) else (noLog, 0, 3)
def mergeL (g : Lg) (prev : Int) (e : List Ent) : Lg × Int × Int := mergeK g (prev - g.index).toNat e (mch (g.es.drop (prev - g.index).toNat) e)
def mAV (r : Lg × Int × Int) : AV := .tup [r.1.av, .int .i64 r.2.1, errA r.2.2]
theorem join_ok {g : Lg} (hg : LgOk g) {e : List Ent} (he : e.length < 2^39) (hge : g.es.length < 2^39) (hd : lightP e) (p i : Nat) : LgOk (joinL g p e i) := by
 refine ⟨hg.m, ?_, ?_⟩
 · simp only [joinL, List.length_append, List.length_take, List.length_drop]; omega
 · intro x hx
   simp only [joinL, List.mem_append] at hx
   rcases hx with hx | hx
   · exact hg.d x (List.mem_of_mem_take hx)
   · exact hd x (List.mem_of_mem_drop hx)
theorem merge_tail (g : Lg) (hg : LgOk g) (hge : g.es.length < 2^39) (hs : soundL g = true) (e : List Ent) (he : e.length < 2^39) (hd : lightP e) (p i : Nat) (hp : p + i ≤ g.es.length) (hi : i < e.length) (x : Ent) (E E4 E5 : List Nat) (H5 : List AObj) (hH : H5 = [.row 4 [g.av], .row 4 [zlog], .row 3 [x.av]]) :
   ((offA (.ptr 0 1 0 0) 0).bind fun a49 =>
     (loadA true 3 a49 H5).bind fun a50 =>
     (offA (.ptr 0 1 0 0) 3).bind fun a51 =>
     (loadA false 1 a51 H5).bind fun a52 =>
     (offA (.ptr 0 1 0 0) 0).bind fun a53 =>
     (offA a53 0).bind fun a54 =>
     (loadA false 1 a54 H5).bind fun a55 =>
     (binA .sub (Go.TypeDesc.int Go.IntKind.i64) (cmpT Tryz.prog) false (.int .i64 (g.index + p + i + 1)) a55).bind fun a56 =>
     (binA .sub (Go.TypeDesc.int Go.IntKind.i64) (cmpT Tryz.prog) true a56 (.int .i64 1)).bind fun a57 =>
     (cutA 3 a52 none (some a57) none H5).bind fun a58 =>
     (cutA 3 (ents e) (some (.int .i64 (i : Int))) none none H5).bind fun a59 =>
     (litD 1 2 .nils [(0, a58), (1, a59)] H5).bind fun a60 =>
     (callD (EV C) n_Concat_api_Entry [a60] H5).bind fun a61 =>
     (fillB (AV.cells (.agg [(.int .i64 0), (.int .i64 0), .nils, .nils])) [(0, 3, a50), (3, 1, a61)]).bind fun c62 =>
     newK (.agg [(.int .i64 0), (.int .i64 0), .nils, .nils]) H5 fun a63 H63 E63 =>
     drawK (((loadA true 3 a49 H63).bind fun a64 =>
     some a64) = some a50)
     (drawK (((loadA false 1 a51 H63).bind fun a65 =>
     some a65) = some a52)
     (drawK (((loadA false 1 a54 H63).bind fun a66 =>
     some a66) = some a55)
     (drawK (((cutA 3 a52 none (some a57) none H63).bind fun a67 =>
     some a67) = some a58)
     (drawK (((cutA 3 (ents e) (some (.int .i64 (i : Int))) none none H63).bind fun a68 =>
     some a68) = some a59)
     (drawK (((litD 1 2 .nils [(0, a58), (1, a59)] H63).bind fun a69 =>
     some a69) = some a60)
     (drawK (((callD (EV C) n_Concat_api_Entry [a60] H63).bind fun a70 =>
     some a70) = some a61)
     (stoK 4 a63 (.agg c62) H63 fun H71 E71 =>
     (loadA true 4 a63 H71).bind fun a72 =>
     callK (EV C) false n_log_Check [a72] H71 fun a73 H73 E73 =>
     (binA .neq (Go.TypeDesc.interface #[("Error", 121)]) (cmpT Tryz.prog) true a73 .nili).bind fun a74 =>
     condK a74
      ((fillB (AV.cells (.agg [(.int .i64 0), (.int .i64 0), .nils, .nils])) []).bind fun c75 =>
      stoK 4 (.ptr 1 1 0 0) (.agg c75) H73 fun H76 E76 =>
      (loadA true 4 (.ptr 1 1 0 0) H76).bind fun a77 =>
      endB false false 0 (.tup [a77, (.int .i64 0), a73]) H76 ((E76 ++ (E73 ++ (E71 ++ (E63 ++ (E5 ++ (E4 ++ [])))))) ++ E))
      ((loadA true 4 a63 H73).bind fun a78 =>
      stoK 4 (.ptr 1 1 0 0) a78 H73 fun H79 E79 =>
      (loadA true 4 (.ptr 1 1 0 0) H79).bind fun a80 =>
      endB false false 0 (.tup [a80, (.int .i64 (g.index + p + i + 1)), .nili]) H79 ((E79 ++ (E73 ++ (E71 ++ (E63 ++ (E5 ++ (E4 ++ [])))))) ++ E)))))))))) = some (mAV (mergeK g p e i), [], []) := by
 subst hH
 have hsm := sound_small hs
 have h0 := hsm.i0; have h1 := hsm.i1; have hmo : most = 1152921504606846976 := rfl
 have w1 : IntKind.i64.wrap (g.index + p + i + 1 - g.index) = g.index + p + i + 1 - g.index := by rw [wrap64] <;> omega
 have w2 : IntKind.i64.wrap (g.index + p + i + 1 - g.index - 1) = ((p + i : Nat) : Int) := w64 (by omega) (by omega)
 have c1 : ∀ H, cutA 3 (ents g.es) none (some (.int .i64 ((p + i : Nat) : Int))) none H = some (ents (g.es.take (p + i))) := fun H => by
   rw [cutA_ents (i := 0) (j := p + i) rfl rfl (by omega) hp, List.drop_zero]
 have c2 : ∀ H, cutA 3 (ents e) (some (.int .i64 (i : Int))) none none H = some (ents (e.drop i)) := fun H => by
   rw [cutA_ents (i := i) (j := e.length) rfl rfl (by omega) (Nat.le_refl _), List.take_length]
 have hk : ∀ H, callD (EV C) n_Concat_api_Entry [.lst ([g.es.take (p + i), e.drop i].map ents)] H = some (ents (joinL g p e i).es) := fun H => by
   refine callD_ok (by simp) ((Concat_api_Entry_ok _ (by simp) ?_).trans ?_)
   · simp; omega
   · simp [joinL]
 have hj := join_ok hg he hge hd p i
 have hsto : ∀ (o1 o2 o3 : AObj) (K : List AObj → List Nat → Option R3), stoK 4 (.ptr 3 1 0 0) (.agg [.int .i64 g.index, .int .i64 g.term, ints g.mems, ents (joinL g p e i).es]) [o1, o2, o3, .row 4 [zlog]] K = K [o1, o2, o3, .row 4 [(joinL g p e i).av]] [] := fun o1 o2 o3 K => sto_lg (joinL g p e i) rfl
 simp only [ZL, Nat.reduceAdd, ZM, ld_base0, w1, w2, c1, c2, litD2, hk, fill2, new_zlog, drawK_t, hsto, ld_lg3]
 rw [callK_ok (by simp) (Check_ok' _ hj)]
 unfold mergeK checkA codeA
 have hne : ¬ i = e.length := by omega
 rw [if_neg hne]
 by_cases hsj : soundL (joinL g p e i) = true
 · have hst1 : ∀ (o1 o3 o4 : AObj) (K : List AObj → List Nat → Option R3), stoK 4 (.ptr 1 1 0 0) (joinL g p e i).av [o1, .row 4 [zlog], o3, o4] K = K [o1, .row 4 [(joinL g p e i).av], o3, o4] [] := fun o1 o3 o4 K => sto_lg (joinL g p e i) rfl
   simp only [hsj, ZL, Nat.reduceAdd, ZM, ld_lg3, hst1, ld_lg1]
   exact (endB_good (by simp)).trans rfl
 · have hst1 : ∀ (o1 o3 o4 : AObj) (K : List AObj → List Nat → Option R3), stoK 4 (.ptr 1 1 0 0) (.agg [(.int .i64 0), (.int .i64 0), .nils, .nils]) [o1, .row 4 [zlog], o3, o4] K = K [o1, .row 4 [zlog], o3, o4] [] := fun o1 o3 o4 K => sto_zlog rfl
   simp only [Bool.not_eq_true] at hsj
   simp only [hsj, ZL, Nat.reduceAdd, ZM, fill0, hst1, ld_z1]
   exact (endB_frz (u := .tup [noLog.av, .int .i64 0, codeA 3]) (frz_tup (frzL_cons (frz_zlog _) (frzL_good _ [.int .i64 0, codeA 3] (by simp)))) (by simp)).trans rfl
theorem mch_le : ∀ (a b : List Ent), mch a b ≤ a.length ∧ mch a b ≤ b.length
 | [], b => by simp [mch]
 | x :: xs, [] => by simp [mch]
 | x :: xs, y :: ys => by
  have := mch_le xs ys
  simp only [mch]; split
  · simp; omega
  · simp
theorem merge_loop (g : Lg) (hg : LgOk g) (hge : g.es.length < 2^39) (hs : soundL g = true) (e : List Ent) (he : e.length < 2^39) (hd : lightP e) (p : Nat) (hp : p ≤ g.es.length) : ∀ (m i : Nat) (E : List Nat), i + m = e.length → p + i ≤ g.es.length → mch (g.es.drop p) e = i + mch (g.es.drop (p + i)) (e.drop i) →
  log_Merge_J5 0 (.int .i64 (g.index + p)) (ents e) (.ptr 0 1 0 0) (.ptr 1 1 0 0) (ents e) (.int .i64 e.length) (.int .i64 i) [.row 4 [g.av], .row 4 [zlog]] E = some (mAV (mergeK g p e (mch (g.es.drop p) e)), [], []) := by
 have hsm := sound_small hs
 have h0 := hsm.i0; have h1 := hsm.i1; have hmo : most = 1152921504606846976 := rfl
 intro m
 induction m with
 | zero =>
  intro i E h hpi hm
  refine log_Merge_J5_of ?_
  have e1 : ¬ ((i : Int) < (e.length : Int)) := by omega
  have e2 : e.drop i = [] := List.drop_eq_nil_of_le (by omega)
  have e3 : mch (g.es.drop p) e = e.length := by rw [hm, e2]; have := (mch_le (g.es.drop (p + i)) []).2; simp at this; omega
  have w1 : IntKind.i64.wrap (lastL g + 1) = lastL g + 1 := by unfold lastL; rw [wrap64] <;> omega
  simp -implicitDefEqProofs only [ZL, Nat.reduceAdd, ZM, e1]
  rw [callD_ok (by simp) (last_ok g hsm)]
  simp -implicitDefEqProofs only [ZL, Nat.reduceAdd, ZM, w1]
  rw [sto_lg g rfl]
  simp -implicitDefEqProofs only [List.set_cons_succ, List.set_cons_zero, ZL, Nat.reduceAdd, ZM, ld_lg1]
  rw [e3]; unfold mergeK; rw [if_pos rfl]
  exact endB_good (by simp)
 | succ m ih =>
  intro i E h hpi hm
  refine log_Merge_J5_of ?_
  have hi : i < e.length := by omega
  have e1 : ((i : Int) < (e.length : Int)) := by omega
  have hget := List.getElem?_eq_getElem hi
  have hdr : e.drop i = e[i] :: e.drop (i + 1) := List.drop_eq_getElem_cons hi
  generalize e[i] = x at hget hdr
  have w1 : IntKind.i64.wrap (g.index + p + 1) = g.index + p + 1 := by rw [wrap64] <;> omega
  have w2 : IntKind.i64.wrap (g.index + p + 1 + i) = g.index + p + i + 1 := by rw [wrap64] <;> omega
  have w3 : IntKind.i64.wrap ((i : Int) + 1) = ((i + 1 : Nat) : Int) := w64 (by omega) (by omega)
  simp -implicitDefEqProofs only [ZL, Nat.reduceAdd, ZM, e1, ixA_ents hget, new_ent0, decide_true]
  rw [sto_ent x rfl]
  simp -implicitDefEqProofs only [List.set_cons_succ, List.set_cons_zero, ZL, Nat.reduceAdd, ZM, w1, w2]
  rw [callD_ok (by simp) (last_ok g hsm)]
  simp -implicitDefEqProofs only [ZL, Nat.reduceAdd, ZM]
  split
  · rename_i hle
    unfold lastL at hle
    have hlt : p + i < g.es.length := by omega
    have hh : hasL g (g.index + p + i + 1) = true := hasL_iff.2 (by omega)
    rw [callD_ok (by simp) (term_ok g _ hsm hh)]
    obtain ⟨y, hy1, hy2⟩ := has_get hh (by omega)
    rw [show (g.index + p + i + 1 - g.index - 1).toNat = p + i by omega] at hy1
    have hyd : g.es.drop (p + i) = y :: g.es.drop (p + i + 1) := by
      obtain ⟨hl, he⟩ := List.getElem?_eq_some_iff.1 hy1
      rw [← he]; exact List.drop_eq_getElem_cons hl
    rw [hdr, hyd] at hm
    simp -implicitDefEqProofs only [mch] at hm
    simp -implicitDefEqProofs only [ZL, Nat.reduceAdd, ZM, hy2]
    split
    · rename_i ht
      rw [if_pos ht] at hm
      simp -implicitDefEqProofs only [w3]
      rw [condB_t (by simp [AV.bel, bel_good 2 (ents e) (good_ents e)])]
      exact ih (i + 1) E (by omega) (by omega) (by rw [hm, Nat.add_assoc p i 1]; omega)
    · rename_i ht
      rw [if_neg ht] at hm
      rw [hm]
      exact merge_tail g hg hge hs e he hd p i (by omega) hi x E [] [] _ rfl
  · rename_i hle
    unfold lastL at hle
    have : g.es.drop (p + i) = [] := List.drop_eq_nil_of_le (by omega)
    rw [this] at hm
    simp -implicitDefEqProofs only [mch] at hm
    rw [hm]
    exact merge_tail g hg hge hs e he hd p i (by omega) hi x E [] [] _ rfl
def mergeA (g : Lg) (prev : Int) (e : List Ent) : AV := if soundL g = true then (if hasL g prev = true then mAV (mergeL g prev e) else mAV (noLog, 0, 9)) else mAV (noLog, 0, 3)
theorem Merge_ok (g : Lg) (hg : LgOk g) (hge : g.es.length < 2^39) (prev : Int) (e : List Ent) (he : e.length < 2^39) (hd : lightP e) : EV C n_log_Merge [g.av, .int .i64 prev, ents e] [] = some (mergeA g prev e, [], []) := by
 refine log_Merge_of ?_
 simp -implicitDefEqProofs only [ZL, Nat.reduceAdd, ZM, new_zlog]
 rw [callK_ok (by simp) (asked_ok g prev hg)]
 unfold askedA mergeA codeA
 have hst1 : ∀ (o1 : AObj) (K : List AObj → List Nat → Option R3), stoK 4 (.ptr 1 1 0 0) (.agg [(.int .i64 0), (.int .i64 0), .nils, .nils]) [o1, .row 4 [zlog]] K = K [o1, .row 4 [zlog]] [] := fun o1 K => sto_zlog rfl
 by_cases hs : soundL g = true
 · have hsm := sound_small hs
   by_cases hh : hasL g prev = true
   · have hb := hasL_iff.1 hh
     simp -implicitDefEqProofs only [hs, hh, ZL, Nat.reduceAdd, ZM]
     have := merge_loop g hg hge hs e he hd (prev - g.index).toNat (by omega) e.length 0 [] (by omega) (by omega) (by simp)
     rw [show g.index + (((prev - g.index).toNat : Nat) : Int) = prev by omega] at this
     exact this
   · simp -implicitDefEqProofs only [Bool.not_eq_true] at hh
     simp -implicitDefEqProofs only [hs, hh, ZL, Nat.reduceAdd, ZM, fill0, hst1, ld_z1]
     exact (endB_frz (u := .tup [noLog.av, .int .i64 0, codeA 9]) (frz_tup (frzL_cons (frz_zlog _) (frzL_good _ [.int .i64 0, codeA 9] (by simp)))) (by simp)).trans rfl
 · simp -implicitDefEqProofs only [Bool.not_eq_true] at hs
   simp -implicitDefEqProofs only [hs, ZL, Nat.reduceAdd, ZM, fill0, hst1, ld_z1]
   exact (endB_frz (u := .tup [noLog.av, .int .i64 0, codeA 3]) (frz_tup (frzL_cons (frz_zlog _) (frzL_good _ [.int .i64 0, codeA 3] (by simp)))) (by simp)).trans rfl
end Go.Pm
