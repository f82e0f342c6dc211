/- A part of the proof: what the functions of the program answer, as plain lists and numbers. -/
import Derived.Test.YtaoklfecdcakbaaDoorP10
import Derived.Test.YtaoklfecdcakbaaDoorP17
import Derived.Test.YtaoklfecdcakbaaDoorP18
import Derived.Test.YtaoklfecdcakbaaDoorP21
import Derived.Test.YtaoklfecdcakbaaDoorP22
import Derived.Test.YtaoklfecdcakbaaDoorP25
namespace Go.Pm
open Go.Proofs
set_option linter.unusedVariables false
set_option linter.unusedSimpArgs false
theorem code_loop (n : Int) (hn : n ≤ 13) : ∀ (m : Nat) (c : Int) (E : List Nat), c + m = n → 1 ≤ c → law00_Code_J4 0 (errA n) (.int .i64 c) [] E = some (.int .i64 n, [], [])
  | 0, c, E, h, hc => by
    refine law00_Code_J4_of ?_
    have : c = n := by omega
    subst this
    simp -implicitDefEqProofs only [eqlE _ _ _ (show c ≠ 0 by omega), hn, ZS, Nat.reduceAdd]
    exact endB_good rfl
  | m + 1, c, E, h, hc => by
    refine law00_Code_J4_of ?_
    have h1 : ¬ n = c := by omega
    have h2 : c ≤ 13 := by omega
    have e3 : IntKind.i64.wrap (c + 1) = c + 1 := by rw [wrap64] <;> omega
    simp -implicitDefEqProofs only [eqlE _ _ _ (show c ≠ 0 by omega), h1, h2, add_int, e3, ZS, Nat.reduceAdd]
    exact code_loop n hn m (c + 1) E (by omega) (by omega)
theorem Code_ok (n : Int) (h0 : 0 ≤ n) (h1 : n ≤ 13) : EV C n_law00_Code [errA n] [] = some (.int .i64 n, [], []) := by
  refine law00_Code_of ?_
  simp -implicitDefEqProofs only [eqlE0, ZS, Nat.reduceAdd]
  split
  · rename_i h; subst h; exact endB_good rfl
  · exact code_loop n h1 (n - 1).toNat 1 [] (by omega) (by omega)
end Go.Pm
namespace Go.Pm
open Go.Proofs
set_option linter.unusedVariables false
set_option linter.unusedSimpArgs false
mutual
def nodesF : Tre → List Tre
  | .mk k a b c ks => match nodesL ks with
    | l :: r :: _ => l ++ .mk k a b c ks :: r
    | _ => []
def nodesL : List Tre → List (List Tre)
  | [] => []
  | t :: ts => nodesF t :: nodesL ts
end
theorem nodes_nil {t : Tre} (h : t.kids = []) : nodesF t = [] := by
  cases t with | mk k a b c ks => simp only [Tre.kids] at h; subst h; rw [nodesF]; rfl
theorem nodes_two {t l r : Tre} (h : t.kids = [l, r]) : nodesF t = nodesF l ++ t :: nodesF r := by
  cases t with | mk k a b c ks => simp only [Tre.kids] at h; subst h; rw [nodesF]; rfl
theorem formed_two {t : Tre} (h : formedF t = true) : t.kids = [] ∨ ∃ l r, t.kids = [l, r] := by
  by_cases h0 : t.kind = 0
  · rw [formedF_eq, Bool.and_eq_true] at h
    have h1 := h.1
    simp only [formed1, h0, if_true, decide_eq_true_eq] at h1
    exact .inl (List.length_eq_zero_iff.1 (by omega))
  · by_cases h3 : t.kind = 3
    · rw [formedF_eq, Bool.and_eq_true] at h
      have h1 := h.1
      simp only [formed1] at h1
      rw [if_neg h0, if_neg (by omega), if_neg (by omega), if_pos h3, decide_eq_true_eq] at h1
      exact .inl (List.length_eq_zero_iff.1 (by omega))
    · obtain ⟨_, _, _, l, r, hk⟩ := formed_node h h0 h3
      exact .inr ⟨l, r, hk⟩
theorem ld_cell {H : List AObj} {o : Nat} {v : AV} (h : H[o]? = some (.row 1 [v])) (hv : v.cells = [v]) : loadA false 1 (.ptr o 1 0 0) H = some v := by
  simp [loadA, h, hv, ldv]
theorem sto_cell {β : Type} {H : List AObj} {o : Nat} {v u : AV} {K : List AObj → List Nat → Option β} (h : H[o]? = some (.row 1 [v])) (hv : ∀ cs, v ≠ .agg cs) (hu : u.cells = [u]) (h1 : u.one = true) :
    stoK 1 (.ptr o 1 0 0) u H K = K (H.set o (.row 1 [u])) (escs o [u]) := by
  have h2 : storeA 1 (.ptr o 1 0 0) u H = some (H.set o (.row 1 [u]), escs o [u]) := by
    unfold storeA
    simp only [h, hu]
    rw [if_pos ⟨by simp, by simp, by simp [h1]⟩]
    have h3 : setC v 0 [u] = some u := by
      unfold setC
      split
      · exact absurd rfl (hv _)
      · rfl
    simp only [List.getElem?_cons_zero, Option.bind_some, h3, Option.map_some, List.set_cons_zero]
  unfold stoK; rw [h2]; rfl
theorem ld_box {H : List AObj} {b : Nat} {t : Tre} (h : H[b]? = some (.row 5 [t.av])) : loadA true 5 (.ptr b 1 0 0) H = some t.av := by
  rw [av_eq] at h ⊢; exact ld_agg h rfl
theorem ld_boxs {H : List AObj} {b : Nat} {t : Tre} (h : H[b]? = some (.row 5 [t.av])) : loadA false 1 (.ptr b 1 0 4) H = some (kidsA t.kids) := by
  rw [av_eq] at h; exact ld_fld h rfl
theorem ix_row {H : List AObj} {r z n i : Nat} {es : List AV} {k : IntKind} (h : H[r]? = some (.row z es)) (hn : es.length = n) (hi : i < n) : ixA z (.slc r 0 n n) (.int k (i : Int)) H = some (.ptr r n i 0) := by
  subst hn
  simp only [ixA, indexA, h]
  rw [if_pos ⟨by omega, by omega, trivial, trivial⟩]
  simp
theorem sto_el {β : Type} {H : List AObj} {r n i : Nat} {es : List AV} {t u : Tre} {K : List AObj → List Nat → Option β} (h : H[r]? = some (.row 5 es)) (hn : es.length = n) (hi : es[i]? = some u.av) :
    stoK 5 (.ptr r n i 0) t.av H K = K (H.set r (.row 5 (es.set i t.av))) [] := by
  have h2 : storeA 5 (.ptr r n i 0) t.av H = some (H.set r (.row 5 (es.set i t.av)), []) := by
    unfold storeA
    simp only [h, hi, cells_tr]
    rw [if_pos ⟨hn, rfl, rfl⟩]
    have h3 : setC u.av 0 [.int .i64 t.kind, bys t.key, bys t.value, bys t.digest, kidsA t.kids] = some t.av := by
      rw [av_eq u, av_eq t]; rfl
    simp only [Option.bind_some, h3, Option.map_some]
    rw [escs_good (by simp [goodL, AV.good])]
  unfold stoK; rw [h2]; rfl
def outV (l : List Tre) (r : Nat) : AV := match l with
  | [] => .nils
  | l => .slc r 0 l.length l.length
def OutS (H : List AObj) (o : Nat) (l : List Tre) (r : Nat) : Prop := H[o]? = some (.row 1 [outV l r]) ∧ (l ≠ [] → H[r]? = some (.row 5 (l.map Tre.av)))
def FrS (H H' : List AObj) (o : Nat) (l : List Tre) (r : Nat) : Prop := H.length ≤ H'.length ∧ ∀ i, i < H.length → i ≠ o → (l ≠ [] → i ≠ r) → H'[i]? = H[i]?
theorem outV_cons {l : List Tre} {r : Nat} (h : l ≠ []) : outV l r = .slc r 0 l.length l.length := by cases l <;> simp [outV] at h ⊢
theorem outV_ne (l : List Tre) (r : Nat) : ∀ cs, outV l r ≠ .agg cs := by cases l <;> simp [outV]
theorem outV_cells (l : List Tre) (r : Nat) : (outV l r).cells = [outV l r] := by cases l <;> rfl
theorem OutS.lt {H : List AObj} {o r : Nat} {l : List Tre} (h : OutS H o l r) : o < H.length := (List.getElem?_eq_some_iff.1 h.1).1
theorem OutS.rlt {H : List AObj} {o r : Nat} {l : List Tre} (h : OutS H o l r) (hl : l ≠ []) : r < H.length := (List.getElem?_eq_some_iff.1 (h.2 hl)).1
theorem OutS.ne {H : List AObj} {o r : Nat} {l : List Tre} (h : OutS H o l r) (hl : l ≠ []) : o ≠ r := fun e => by
  have h1 := h.1; have h2 := h.2 hl
  rw [e, h2] at h1; simp at h1
theorem lit_el {β : Type} (H : List AObj) (K : AV → List AObj → List Nat → Option β) : litK 5 1 (.agg [(.int .i64 0), .nils, .nils, .nils, .nils]) [(0, (.agg [(.int .i64 0), .nils, .nils, .nils, .nils]))] H K = K (.lst [Tre.nil.av]) H [] := Eq.trans rfl rfl
theorem litD_el (H : List AObj) : litD 5 1 (.agg [(.int .i64 0), .nils, .nils, .nils, .nils]) [(0, (.agg [(.int .i64 0), .nils, .nils, .nils, .nils]))] H = some (.lst [Tre.nil.av]) := Eq.trans rfl rfl
/-- out = append(out, t) -/
theorem pushT_ok (t : Tre) (x0 x1 a2 a3 a4 a6 a7 a8 a9 a10 a11 : AV) {H : List AObj} {o b r : Nat} {l : List Tre} (E : List Nat) (hO : OutS H o l r) (hb : H[b]? = some (.row 5 [t.av])) (hbo : b ≠ o) (hbr : l ≠ [] → b ≠ r) (hl : l.length < 2^40) :
    ∃ H' E16 E18 E19 r', OutS H' o (l ++ [t]) r' ∧ FrS H H' o l r ∧ (l ≠ [] → r' = r) ∧ (l = [] → H.length ≤ r') ∧ ∀ (K : List AObj → List Nat → List Nat → List Nat → List Nat → Option R3),
      drawK (SwapOk Tryd.prog C.G (EV C) (C.hint 112) 3 (opsOf Tryd.f112 3) ⟨[x0, x1, .ptr o 1 0 0, .ptr b 1 0 0, a2, a3, a4, (.bool false), a6, a7, a8, a9, a10, a11, (.tup []), (.tup []), (.tup []), (.tup []), (.tup []), (.tup []), (.tup []), (.tup []), (.tup []), (.tup []), (.tup []), (.tup [])], H, E⟩)
      ((loadA false 1 (.ptr o 1 0 0) H).bind fun a12 =>
      (loadA true 5 (.ptr b 1 0 0) H).bind fun a13 =>
      (lenV a12 H).bind fun a14 =>
      litK 5 1 (.agg [(.int .i64 0), .nils, .nils, .nils, .nils]) [(0, (.agg [(.int .i64 0), .nils, .nils, .nils, .nils]))] H fun a15 H15 E15 =>
      appK 5 104 a12 a15 H15 fun a16 H16 E16 =>
      (ixA 5 a16 a14 H16).bind fun a17 =>
      stoK 5 a17 a13 H16 fun H18 E18 =>
      stoK 1 (.ptr o 1 0 0) a16 H18 fun H19 E19 => K H19 E19 E18 E16 E15) = K H' E19 E18 E16 [] := by
  have f0 := ld_cell hO.1 (outV_cells l r)
  have f1 := ld_box hb
  have f2 : lenV (outV l r) H = some (.int .i64 (l.length : Int)) := by
    cases l with
    | nil => rfl
    | cons a l => exact lenV_slc (hO.2 (by simp)) (by simp)
  -- the row behind append
  have ⟨r', H16, f4, g1, g2, g3, g4, g5⟩ : ∃ (r' : Nat) (H16 : List AObj), (∀ {β : Type} (K : AV → List AObj → List Nat → Option β), appK 5 104 (outV l r) (.lst [Tre.nil.av]) H K = K (.slc r' 0 (l.length + 1) (l.length + 1)) H16 []) ∧ H16[r']? = some (.row 5 (l.map Tre.av ++ [Tre.nil.av])) ∧ FrS H H16 o l r ∧ H16[o]? = H[o]? ∧ (l ≠ [] → r' = r) ∧ (l = [] → H.length ≤ r') := by
    cases l with
    | nil =>
      refine ⟨H.length, H ++ [.row 5 [Tre.nil.av]], fun K => rfl, by simp, ⟨by simp, fun i hi _ _ => List.getElem?_append_left hi⟩, List.getElem?_append_left hO.lt, by simp, fun _ => Nat.le_refl _⟩
    | cons a l =>
      have hr := hO.2 (by simp)
      have hne := hO.ne (by simp)
      refine ⟨r, H.set r (.row 5 ((a :: l).map Tre.av ++ [Tre.nil.av])), fun K => ?_, ?_, ⟨by simp, fun i hi _ h => ?_⟩, ?_, fun _ => rfl, by simp⟩
      · rw [outV_cons (by simp), appK_row (es := (a :: l).map Tre.av) (ys := [Tre.nil.av]) rfl hr (by simp) rfl (by decide) (by decide) (by decide) (by simp at hl ⊢; omega), esc_good (by simp [goodL])]
        simp
      · rw [List.getElem?_set_self (hO.rlt (by simp))]
      · rw [List.getElem?_set_ne (Ne.symm (h (by simp)))]
      · rw [List.getElem?_set_ne (Ne.symm hne)]
  have hro : r' ≠ o := fun e => by
    rw [e] at g1; rw [g1, hO.1] at g3; simp at g3
  have hel : (l.map Tre.av ++ [Tre.nil.av])[l.length]? = some Tre.nil.av := by simp
  have hlen : (l.map Tre.av ++ [Tre.nil.av]).length = l.length + 1 := by simp
  have hset : (l.map Tre.av ++ [Tre.nil.av]).set l.length t.av = (l ++ [t]).map Tre.av := by
    rw [List.set_append_right _ _ (by simp)]; simp
  have r16 : r' < H16.length := (List.getElem?_eq_some_iff.1 g1).1
  have o16 : o < H16.length := by rw [hO.1] at g3; exact (List.getElem?_eq_some_iff.1 g3).1
  have f5 := ix_row (k := .i64) g1 hlen (show l.length < l.length + 1 by omega)
  have f6 : ∀ {β : Type} (K : List AObj → List Nat → Option β), stoK 5 (.ptr r' (l.length + 1) l.length 0) t.av H16 K = K (H16.set r' (.row 5 ((l ++ [t]).map Tre.av))) [] := fun K => by rw [sto_el g1 hlen hel, hset]
  have h18o : (H16.set r' (.row 5 ((l ++ [t]).map Tre.av)))[o]? = some (.row 1 [outV l r]) := by rw [List.getElem?_set_ne hro, g3, hO.1]
  have f7 : ∀ {β : Type} (K : List AObj → List Nat → Option β), stoK 1 (.ptr o 1 0 0) (.slc r' 0 (l.length + 1) (l.length + 1)) (H16.set r' (.row 5 ((l ++ [t]).map Tre.av))) K = K ((H16.set r' (.row 5 ((l ++ [t]).map Tre.av))).set o (.row 1 [.slc r' 0 (l.length + 1) (l.length + 1)])) (escs o [.slc r' 0 (l.length + 1) (l.length + 1)]) := fun K => sto_cell h18o (outV_ne l r) rfl rfl
  have g7 : ∀ {β : Type} (K : List AObj → List Nat → Option β), stoK 1 (.ptr o 1 0 0) (.slc r' 0 (l.length + 1) (l.length + 1)) H16 K = K (H16.set o (.row 1 [.slc r' 0 (l.length + 1) (l.length + 1)])) (escs o [.slc r' 0 (l.length + 1) (l.length + 1)]) := fun K => sto_cell (g3.trans hO.1) (outV_ne l r) rfl rfl
  have hmr : (H16.set o (.row 1 [.slc r' 0 (l.length + 1) (l.length + 1)]))[r']? = some (.row 5 (l.map Tre.av ++ [Tre.nil.av])) := by rw [List.getElem?_set_ne (Ne.symm hro), g1]
  have h19r : ((H16.set r' (.row 5 ((l ++ [t]).map Tre.av))).set o (.row 1 [.slc r' 0 (l.length + 1) (l.length + 1)]))[r']? = some (.row 5 ((l ++ [t]).map Tre.av)) := by
    rw [List.getElem?_set_ne (Ne.symm hro), List.getElem?_set_self r16]
  have g6 : ∀ {β : Type} (K : List AObj → List Nat → Option β), stoK 5 (.ptr r' (l.length + 1) l.length 0) t.av (H16.set o (.row 1 [.slc r' 0 (l.length + 1) (l.length + 1)])) K = K ((H16.set r' (.row 5 ((l ++ [t]).map Tre.av))).set o (.row 1 [.slc r' 0 (l.length + 1) (l.length + 1)])) [] := fun K => by
    rw [sto_el hmr hlen hel, hset, List.set_comm _ _ (Ne.symm hro)]
  have h19 : OutS ((H16.set r' (.row 5 ((l ++ [t]).map Tre.av))).set o (.row 1 [.slc r' 0 (l.length + 1) (l.length + 1)])) o (l ++ [t]) r' := by
    refine ⟨?_, fun _ => h19r⟩
    rw [List.getElem?_set_self (by simpa using o16), outV_cons (by simp), List.length_append]; rfl
  refine ⟨_, [], [], escs o [.slc r' 0 (l.length + 1) (l.length + 1)], r', h19, ⟨by simpa using g2.1, fun i hi h1 h2 => ?_⟩, g4, g5, fun K => ?_⟩
  · rw [List.getElem?_set_ne (Ne.symm h1)]
    by_cases hir : i = r'
    · exfalso
      by_cases hl0 : l = []
      · have := g5 hl0; omega
      · exact h2 hl0 (by rw [hir, g4 hl0])
    · rw [List.getElem?_set_ne (Ne.symm hir)]; exact g2.2 i hi h1 h2
  · have hsw : SwapOk Tryd.prog C.G (EV C) (C.hint 112) 3 (opsOf Tryd.f112 3) ⟨[x0, x1, .ptr o 1 0 0, .ptr b 1 0 0, a2, a3, a4, (.bool false), a6, a7, a8, a9, a10, a11, (.tup []), (.tup []), (.tup []), (.tup []), (.tup []), (.tup []), (.tup []), (.tup []), (.tup []), (.tup []), (.tup []), (.tup [])], H, E⟩ := by
      refine l3_swap (Hm := H16.set o (.row 1 [.slc r' 0 (l.length + 1) (l.length + 1)])) f0 f1 f2 (fun K => lit_el H K) (fun K => f4 K) f5 (fun K => f6 K) (fun K => f7 K) (ix_row h19r (by simp) (by omega)) (ix_row hmr hlen (by omega)) (fun K => g7 _) (fun K => g6 _) (fun K => f6 K) (fun K => f7 K) (litD_el H)
    rw [drawK_t hsw, f0, Option.bind_some, f1, Option.bind_some, f2, Option.bind_some, lit_el, f4, f5, Option.bind_some, f6, f7]
theorem endB_kp {n : Nat} {v : AV} {H : List AObj} {E : List Nat} (h : v.good = true) : endB false true n v H E = some (v, H, E) := by
  simp [endB, endA, frz_good _ v h, kills_good v h, killAll]
theorem callK_ptrE {β : Type} {env : Env} {g : FuncId} {args : List AV} {H H' : List AObj} {E : List Nat} {K : AV → List AObj → List Nat → Option β} {v : AV} (h0 : frzL H args = some args) (h1 : belL 0 args = false) (h2 : killsL args = []) (h3 : env g args H = some (v, H', E)) :
    callK env false g args H K = K v H' E := by
  simp [callK, callA, h0, h1, h2, killAll, h3]
theorem okF_list1 : okF Tryd.prog n_tree_List_1 = true := by kernel_rfl
def walkC (w o : Nat) : AV := .clo n_tree_List_1 [] [.ptr w 1 0 0, .ptr o 1 0 0]
theorem treeGo_call {H H' : List AObj} {E : List Nat} {t : Tre} {w o : Nat} (h : EV C n_tree_List_1 [t.av, .ptr w 1 0 0, .ptr o 1 0 0] H = some (.tup [], H', E)) (K : AV → List AObj → List Nat → Option R3) :
    valK Tryd.prog (EV C) false (walkC w o) [t.av] H K = K (.tup []) H' E := by
  simp only [walkC, valK, okF_list1, if_true]
  exact callK_ptrE (args := [t.av, .ptr w 1 0 0, .ptr o 1 0 0]) (frzL_cons (frz_good _ _ (good_tr t)) rfl) (by simp [belL, AV.bel]) (by simp [killsL, kills, kills_good _ (good_tr t)]) h
theorem walk_ok (t : Tre) : formedF t = true → ∀ (H : List AObj) (w o r : Nat) (l : List Tre), OutS H o l r → H[w]? = some (.row 1 [walkC w o]) → w ≠ o → l.length + (nodesF t).length ≤ 2^40 →
    ∃ H' E r', EV C n_tree_List_1 [t.av, .ptr w 1 0 0, .ptr o 1 0 0] H = some (.tup [], H', E) ∧ OutS H' o (l ++ nodesF t) r' ∧ FrS H H' o l r ∧ (l ≠ [] → r' = r) ∧ (l = [] → nodesF t ≠ [] → H.length ≤ r') := by
  induction t using Tre.ind with
  | h t ih =>
    intro hf H w o r l hO hw hwo hlen
    have hb : (H ++ [AObj.row 5 [t.av]])[H.length]? = some (.row 5 [t.av]) := by simp
    have hwlt : w < H.length := (List.getElem?_eq_some_iff.1 hw).1
    have holt := hO.lt
    have hO1 : OutS (H ++ [.row 5 [t.av]]) o l r := ⟨by rw [List.getElem?_append_left holt]; exact hO.1, fun h => by rw [List.getElem?_append_left (hO.rlt h)]; exact hO.2 h⟩
    have hw1 : (H ++ [AObj.row 5 [t.av]])[w]? = some (.row 1 [walkC w o]) := by rw [List.getElem?_append_left hwlt]; exact hw
    rcases formed_two hf with hk | ⟨lt, rt, hk⟩
    · refine ⟨H ++ [.row 5 [t.av]], [], r, ?_, by rw [nodes_nil hk, List.append_nil]; exact hO1, ⟨by simp, fun i hi _ _ => List.getElem?_append_left hi⟩, fun _ => rfl, fun _ h => absurd (nodes_nil hk) h⟩
      refine tree_List_1_of ?_
      simp only [new_tr, offA_ptr, Nat.zero_add, ld_boxs hb, Option.bind_some, hk, lenV_kids, List.length_nil, eql_int, Int.natCast_zero, decide_true, condK_t]
      exact endB_kp rfl
    · have hl := formed_kids hf lt (by rw [hk]; simp)
      have hr := formed_kids hf rt (by rw [hk]; simp)
      have hn := nodes_two hk
      rw [hn, List.length_append, List.length_cons] at hlen
      have x0 : ∀ H, ixA 5 (kidsA t.kids) (.int .i64 0) H = some (.ip lt.av.cells) := fun H => ixA_kids (i := 0) (by rw [hk]; rfl)
      have x1 : ∀ H, ixA 5 (kidsA t.kids) (.int .i64 1) H = some (.ip rt.av.cells) := fun H => ixA_kids (i := 1) (by rw [hk]; rfl)
      obtain ⟨H2, E2, r2, c2, o2, fr2, q2, q2'⟩ := ih lt (by rw [hk]; simp) hl (H ++ [.row 5 [t.av]]) w o r l hO1 hw1 hwo (by omega)
      have hb1 : H.length < (H ++ [AObj.row 5 [t.av]]).length := by simp
      have hb2 : H2[H.length]? = some (.row 5 [t.av]) := by
        rw [fr2.2 H.length hb1 (by omega) (fun h => by have := hO.rlt h; omega)]; exact hb
      have hwr : l ≠ [] → w ≠ r := fun h e => by have := hO.2 h; rw [← e, hw] at this; simp at this
      have hw2 : H2[w]? = some (.row 1 [walkC w o]) := by
        rw [fr2.2 w (by simp; omega) hwo hwr]; exact hw1
      have hbr2 : l ++ nodesF lt ≠ [] → H.length ≠ r2 := fun h e => by
        by_cases hl0 : l = []
        · have := q2' hl0 (by rw [hl0] at h; simpa using h)
          simp at this; omega
        · have := q2 hl0; have := hO.rlt hl0; omega
      obtain ⟨H3, E16, E18, E19, r3, o3, fr3, q3, q3', c3⟩ := pushT_ok t t.av (.ptr w 1 0 0) (.ptr H.length 1 0 4) (kidsA t.kids) (.int .i64 (t.kids.length : Int)) (walkC w o) (.ptr H.length 1 0 4) (kidsA t.kids) (.ip lt.av.cells) lt.av (.tup []) (E2 ++ ([] ++ [])) o2 hb2 (by omega) hbr2 (by rw [List.length_append]; omega)
      have hb3 : H3[H.length]? = some (.row 5 [t.av]) := by
        rw [fr3.2 H.length (by have := fr2.1; simp at this; omega) (by omega) hbr2]; exact hb2
      have hwr2 : l ++ nodesF lt ≠ [] → w ≠ r2 := fun h e => by have := o2.2 h; rw [← e, hw2] at this; simp at this
      have hw3 : H3[w]? = some (.row 1 [walkC w o]) := by
        rw [fr3.2 w (by have := fr2.1; simp at this; omega) hwo hwr2]; exact hw2
      obtain ⟨H4, E4, r4, c4, o4, fr4, q4, q4'⟩ := ih rt (by rw [hk]; simp) hr H3 w o r3 (l ++ nodesF lt ++ [t]) o3 hw3 hwo (by simp; omega)
      have hk2 : ¬ ((t.kids.length : Nat) : Int) = 0 := by rw [hk]; simp
      have hl1 : loadA false 1 (.ptr w 1 0 0) (H ++ [.row 5 [t.av]]) = some (walkC w o) := ld_cell hw1 rfl
      have hl3 : loadA false 1 (.ptr w 1 0 0) H3 = some (walkC w o) := ld_cell hw3 rfl
      have hr3 : r4 = r3 := q4 (by simp)
      refine ⟨H4, E4 ++ (E19 ++ (E18 ++ (E16 ++ ([] ++ (E2 ++ ([] ++ [])))))), r4, ?_, by rw [hn]; simpa using o4, ⟨?_, fun i hi h1 h2 => ?_⟩, fun h => ?_, fun h1 h2 => ?_⟩
      · refine tree_List_1_of ?_
        simp only [new_tr, offA_ptr, Nat.zero_add, ld_boxs hb, Option.bind_some, lenV_kids, eql_int, hk2, decide_false, condK_f, hl1, x0, loadA_tr]
        rw [treeGo_call c2, c3]
        simp only [hl3, ld_boxs hb3, Option.bind_some, x1, loadA_tr]
        rw [treeGo_call c4]
        exact endB_kp rfl
      · have := fr2.1; have := fr3.1; have := fr4.1; simp at *; omega
      · have a1 := fr2.1; have a2 := fr3.1
        simp only [List.length_append, List.length_singleton] at a1
        have n2 : l ++ nodesF lt ≠ [] → i ≠ r2 := fun h e => by
          by_cases hl0 : l = []
          · have := q2' hl0 (by rw [hl0] at h; simpa using h)
            simp only [List.length_append, List.length_singleton] at this; omega
          · exact h2 hl0 (by rw [e, q2 hl0])
        have n3 : i ≠ r3 := fun e => by
          by_cases hl0 : l ++ nodesF lt = []
          · have := q3' hl0; omega
          · exact n2 hl0 (by rw [e, q3 hl0])
        rw [fr4.2 i (by omega) h1 (fun _ => n3), fr3.2 i (by omega) h1 n2, fr2.2 i (by simp; omega) h1 h2, List.getElem?_append_left hi]
      · rw [hr3, q3 (by simp [h]), q2 h]
      · rw [hr3]
        by_cases hl0 : nodesF lt = []
        · have := q3' (by simp [h1, hl0]); have := fr2.1; simp at this; omega
        · rw [q3 (by simp [h1, hl0])]
          have := q2' h1 hl0; simp at this; omega
theorem List_ok (t : Tre) (ht : t.ok) (hn : (nodesF t).length ≤ 2^40) : EV C n_tree_List [t.av] [] = some (kidsA (if checkF t = 0 then nodesF t else []), [], []) := by
  refine tree_List_of ?_
  simp only [List.length_nil, new_tr, List.nil_append, ld_tr0, Option.bind_some]
  rw [callK_ok (by simp) (Check_ok t ht)]
  by_cases hc : checkF t = 0
  · have hi : ∀ (H : List AObj) (v : AV) (K : AV → List AObj → List Nat → Option R3), v = .nils ∨ v = .nilf → newK v H K = K (.ptr H.length 1 0 0) (H ++ [.row 1 [v]]) [] := fun H v K h => by rcases h with rfl | rfl <;> rfl
    have s1 : ∀ (K : List AObj → List Nat → Option R3), stoK 1 (.ptr 2 1 0 0) (walkC 2 1) [.row 5 [t.av], .row 1 [.nils], .row 1 [.nilf]] K = K [.row 5 [t.av], .row 1 [.nils], .row 1 [walkC 2 1]] (escs 2 [walkC 2 1]) := fun K => sto_cell (v := .nilf) rfl (by simp) rfl rfl
    have e : (AV.clo n_tree_List_1 [] [.ptr 2 1 0 0, .ptr 1 1 0 0]) = walkC 2 1 := rfl
    have l1 : ∀ T : List AObj, loadA false 1 (.ptr 2 1 0 0) (.row 5 [t.av] :: .row 1 [.nils] :: .row 1 [walkC 2 1] :: T) = some (walkC 2 1) := fun T => ld_cell rfl rfl
    obtain ⟨H', E, r', c, o', fr, q, q'⟩ := walk_ok t (check_formed hc) [.row 5 [t.av], .row 1 [.nils], .row 1 [walkC 2 1]] 2 1 0 [] ⟨rfl, by simp⟩ rfl (by decide) (by simpa using hn)
    simp only [hc, errA, if_true, neq_nil1, condK_f, Option.bind_some, hi _ .nils _ (.inl rfl), hi _ .nilf _ (.inr rfl), List.length_cons, List.length_nil, List.cons_append, List.nil_append, Nat.reduceAdd, e, s1, l1, ld_tr0]
    rw [treeGo_call c]
    rw [List.nil_append] at o'
    rw [ld_cell o'.1 (outV_cells _ _), Option.bind_some]
    by_cases hn0 : nodesF t = []
    · rw [hn0]; exact endB_frz rfl rfl
    · rw [outV_cons hn0]
      refine endB_frz (frz_row (o'.2 hn0) (by simp) (goodL_tr _)) (good_kids _)
  · simp only [errA_ne hc, nq2, condK_t, Option.bind_some, hc, if_false]
    exact endB_frz rfl rfl
end Go.Pm
namespace Go.Pm
open Go.Proofs
set_option linter.unusedVariables false
set_option linter.unusedSimpArgs false
abbrev Bs := List UInt8
def ltB (a b : Bs) : Bool := Op.bytesLess a b
theorem ltB_nil (b : Bs) : ltB [] b = !b.isEmpty := by cases b <;> rfl
theorem ltB_cons_nil (a : UInt8) (x : Bs) : ltB (a :: x) [] = false := rfl
theorem ltB_cons (a b : UInt8) (x y : Bs) : ltB (a :: x) (b :: y) = (decide (a < b) || (decide (a = b) && ltB x y)) := by
  show (decide (a < b) || (a == b && Op.bytesLess x y)) = _
  congr 1
theorem ltB_irrefl : ∀ a, ltB a a = false
  | [] => rfl
  | a :: x => by simp [ltB_cons, ltB_irrefl x]
theorem ltB_trans : ∀ {a b c : Bs}, ltB a b = true → ltB b c = true → ltB a c = true
  | [], b, [], h1, h2 => by cases b <;> simp [ltB_nil, ltB_cons_nil] at h1 h2
  | [], _, _ :: _, _, _ => rfl
  | _ :: _, [], _, h1, _ => by simp [ltB_cons_nil] at h1
  | _ :: _, _ :: _, [], _, h2 => by simp [ltB_cons_nil] at h2
  | a :: x, b :: y, c :: z, h1, h2 => by
    simp only [ltB_cons, Bool.or_eq_true, decide_eq_true_eq, Bool.and_eq_true] at h1 h2 ⊢
    rcases h1 with h1 | ⟨rfl, h1⟩
    · rcases h2 with h2 | ⟨rfl, h2⟩
      · exact .inl (UInt8.lt_trans h1 h2)
      · exact .inl h1
    · rcases h2 with h2 | ⟨rfl, h2⟩
      · exact .inl h2
      · exact .inr ⟨rfl, ltB_trans h1 h2⟩
theorem ltB_tri : ∀ {a b : Bs}, ltB a b = false → ltB b a = false → a = b
  | [], [], _, _ => rfl
  | [], _ :: _, h, _ => by simp [ltB_nil] at h
  | _ :: _, [], _, h => by simp [ltB_nil] at h
  | a :: x, b :: y, h1, h2 => by
    simp only [ltB_cons, Bool.or_eq_false_iff, decide_eq_false_iff_not, Bool.and_eq_false_iff] at h1 h2
    have hab : a = b := by
      have := h1.1; have := h2.1
      exact UInt8.le_antisymm (UInt8.not_lt.1 h2.1) (UInt8.not_lt.1 h1.1)
    subst hab
    rw [ltB_tri (a := x) (b := y) (by simpa using h1.2) (by simpa using h2.2)]
theorem ltB_asymm {a b : Bs} (h : ltB a b = true) : ltB b a = false := by
  cases hb : ltB b a with
  | false => rfl
  | true => have := ltB_trans h hb; rw [ltB_irrefl] at this; cases this
theorem cmp_spec : ∀ (a b : Bs), Lib.compareBytes a b = if ltB a b = true then -1 else if ltB b a = true then 1 else 0
  | [], [] => rfl
  | [], _ :: _ => rfl
  | _ :: _, [] => rfl
  | a :: x, b :: y => by
    rw [Lib.compareBytes, ltB_cons, ltB_cons, cmp_spec x y]
    by_cases h1 : a < b
    · simp [h1]
    · by_cases h2 : b < a
      · have : a ≠ b := fun e => by subst e; exact h1 h2
        simp [h1, h2, this]
      · have : a = b := UInt8.le_antisymm (UInt8.not_lt.1 h2) (UInt8.not_lt.1 h1)
        subst this; simp
theorem cmp_ge (a b : Bs) : decide (0 ≤ Lib.compareBytes a b) = !ltB a b := by
  rw [cmp_spec]; cases h : ltB a b <;> simp; split <;> simp
theorem cmp_lt (a b : Bs) : decide (Lib.compareBytes a b < 0) = ltB a b := by
  rw [cmp_spec]; cases h : ltB a b <;> simp; split <;> simp
theorem cmp_gt (a b : Bs) : decide (0 < Lib.compareBytes a b) = ltB b a := by
  rw [cmp_spec]; cases h : ltB a b
  · simp; split <;> simp_all
  · simp [ltB_asymm h]
theorem cmp_eq0 (a b : Bs) : decide (Lib.compareBytes a b = 0) = decide (a = b) := by
  rw [cmp_spec]; cases h : ltB a b
  · cases h2 : ltB b a
    · simp [ltB_tri h h2]
    · have : a ≠ b := fun e => by subst e; rw [ltB_irrefl] at h2; cases h2
      simp [this]
  · have : a ≠ b := fun e => by subst e; rw [ltB_irrefl] at h; cases h
    simp [this]
theorem Compare_ok (a b : Bs) : EV C n_bytes_Compare [bys a, bys b] [] = some (.int .i64 (Lib.compareBytes a b), [], []) := by
  have hI : C.I n_bytes_Compare = some cmpF := by
    show addI n_bytes_Compare cmpF (clonesI C0 [n_Clone_byte]) n_bytes_Compare = some cmpF
    exact if_pos rfl
  rw [EV_I C hI]
  show (toBytes (a.map u8)).bind (fun l => (toBytes (b.map u8)).bind fun m => some (AV.int .i64 (Lib.compareBytes l m), [], [])) = _
  rw [toBytes_u8, Option.bind_some, toBytes_u8]; rfl
theorem CompareK {β : Type} (a b : Bs) (H : List AObj) (K : AV → List AObj → List Nat → Option β) : callK (EV C) false n_bytes_Compare [bys a, bys b] H K = K (.int .i64 (Lib.compareBytes a b)) H [] := callK_ok (by simp) (Compare_ok a b)
theorem CompareD (a b : Bs) (H : List AObj) : callD (EV C) n_bytes_Compare [bys a, bys b] H = some (.int .i64 (Lib.compareBytes a b)) := callD_ok (by simp) (Compare_ok a b)
theorem lss_str (d : TypeDesc) (c : TypeId → Bool) (b : Bool) (x y : Bs) : binA .lss d c b (.str ⟨x.toArray⟩) (.str ⟨y.toArray⟩) = some (.bool (ltB x y)) := by
  show some (AV.bool (Op.bytesLess (bl ⟨x.toArray⟩) (bl ⟨y.toArray⟩))) = _
  rw [bl_mk, bl_mk]; rfl
end Go.Pm
namespace Go.Pm
set_option linter.unusedVariables false
set_option linter.unusedSimpArgs false
/-- the last n bytes of a number, the greatest first -/
def beF : Nat → Nat → Bs
  | 0, _ => []
  | n + 1, v => UInt8.ofNat (v / 256 ^ n % 256) :: beF n v
/-- how many bytes a number fills -/
def lenB (v : Nat) : Nat := if v < 256 ^ 1 then 1 else if v < 256 ^ 2 then 2 else if v < 256 ^ 3 then 3 else if v < 256 ^ 4 then 4 else if v < 256 ^ 5 then 5 else if v < 256 ^ 6 then 6 else if v < 256 ^ 7 then 7 else 8
def numF (v : Nat) : Bs := if v < 248 then [UInt8.ofNat v] else UInt8.ofNat (247 + lenB v) :: beF (lenB v) v
def valF (l : Bs) : Nat := l.foldl (fun a b => a * 256 + b.toNat) 0
theorem beF_len : ∀ (n v : Nat), (beF n v).length = n
  | 0, _ => rfl
  | n + 1, v => by simp [beF, beF_len n v]
theorem lenB_range (v : Nat) : 1 ≤ lenB v ∧ lenB v ≤ 8 := by unfold lenB; repeat' split <;> try omega
theorem foldl_val (l : Bs) : ∀ a : Nat, l.foldl (fun a b => a * 256 + b.toNat) a = a * 256 ^ l.length + valF l := by
  unfold valF
  induction l with
  | nil => intro a; simp
  | cons x l ih =>
    intro a
    rw [List.foldl_cons, List.foldl_cons, ih, ih (0 * 256 + x.toNat), List.length_cons, Nat.pow_succ]
    rw [Nat.add_mul, Nat.zero_mul, Nat.zero_add, Nat.mul_assoc, Nat.mul_comm 256, Nat.add_assoc]
theorem valF_cons (x : UInt8) (l : Bs) : valF (x :: l) = x.toNat * 256 ^ l.length + valF l := by
  show List.foldl _ (0 * 256 + x.toNat) l = _
  rw [foldl_val]; simp
theorem valF_lt : ∀ (l : Bs), valF l < 256 ^ l.length
  | [] => by simp [valF]
  | x :: l => by
    rw [valF_cons, List.length_cons, Nat.pow_succ]
    have := valF_lt l
    have hx := x.toNat_lt
    have h2 : (x.toNat + 1) * 256 ^ l.length ≤ 256 * 256 ^ l.length := Nat.mul_le_mul_right _ (by omega)
    rw [Nat.add_mul, Nat.one_mul] at h2
    have h3 : 256 ^ l.length * 256 = 256 * 256 ^ l.length := Nat.mul_comm _ _
    omega
theorem valF_snoc (l : Bs) (x : UInt8) : valF (l ++ [x]) = valF l * 256 + x.toNat := by
  unfold valF; rw [List.foldl_append]; rfl
/-- a number, and what stands behind it -/
def rdN : Bs → Option (Nat × Bs)
  | [] => none
  | c :: l => if c.toNat < 248 then some (c.toNat, l)
    else if l.length < c.toNat - 247 then none
    else if (l[0]?.map UInt8.toNat).getD 0 = 0 ∨ valF (l.take (c.toNat - 247)) < 248 then none
    else some (valF (l.take (c.toNat - 247)), l.drop (c.toNat - 247))
def rdB : Bs → Option (UInt8 × Bs)
  | [] => none
  | c :: l => some (c, l)
def rdS (most : Nat) (l : Bs) : Option (Bs × Bs) := match rdN l with
  | none => none
  | some (n, l) => if most < n ∨ l.length < n then none else some (l.take n, l.drop n)
theorem numF_len (v : Nat) : 1 ≤ (numF v).length ∧ (numF v).length ≤ 9 := by
  have := lenB_range v
  unfold numF; split
  · simp
  · simp [beF_len]; omega
def bytesB (b : Bs) : Bs := numF b.length ++ b
theorem rdN_len {l : Bs} {v : Nat} {r : Bs} (h : rdN l = some (v, r)) : r.length < l.length ∧ v < 2 ^ 64 := by
  cases l with
  | nil => simp [rdN] at h
  | cons c l =>
    have hc := c.toNat_lt
    simp only [rdN] at h
    by_cases h1 : c.toNat < 248
    · rw [if_pos h1] at h
      cases h; simp; omega
    · rw [if_neg h1] at h
      by_cases h2 : l.length < c.toNat - 247
      · rw [if_pos h2] at h; cases h
      · rw [if_neg h2] at h
        by_cases h3 : (l[0]?.map UInt8.toNat).getD 0 = 0 ∨ valF (l.take (c.toNat - 247)) < 248
        · rw [if_pos h3] at h; cases h
        · rw [if_neg h3] at h
          simp only [Option.some.injEq, Prod.mk.injEq] at h
          obtain ⟨rfl, rfl⟩ := h
          refine ⟨by simp; omega, ?_⟩
          have := valF_lt (l.take (c.toNat - 247))
          rw [List.length_take, Nat.min_eq_left (by omega)] at this
          have h8 : 256 ^ (c.toNat - 247) ≤ 256 ^ 8 := Nat.pow_le_pow_right (by decide) (by omega)
          omega
end Go.Pm
namespace Go.Pm
set_option linter.unusedVariables false
set_option linter.unusedSimpArgs false
/-- the program's: what is left, whether something was amiss -/
structure Rd where
  b : Bs
  bad : Bool
def takeP (n : Nat) (s : Rd) : Bs × Rd := if s.bad = true ∨ s.b.length < n then ([], ⟨s.b, true⟩) else (s.b.take n, ⟨s.b.drop n, false⟩)
def byteP (s : Rd) : UInt8 × Rd := ((takeP 1 s).1.headD 0, (takeP 1 s).2)
def numL (l : Bs) (s : Rd) : Nat × Rd := if l.length = 0 ∨ (l.headD 0).toNat = 0 ∨ valF l < 248 then (0, ⟨s.b, true⟩) else (valF l, s)
def numP (s : Rd) : Nat × Rd :=
  if (byteP s).1.toNat < 248 then ((byteP s).1.toNat, (byteP s).2)
  else numL (takeP ((byteP s).1.toNat - 247) (byteP s).2).1 (takeP ((byteP s).1.toNat - 247) (byteP s).2).2
def bytesP (most : Nat) (s : Rd) : Bs × Rd :=
  if (numP s).2.bad = true ∨ most < (numP s).1 ∨ (numP s).2.b.length < (numP s).1 then ([], ⟨(numP s).2.b, true⟩) else takeP (numP s).1 (numP s).2
def endRd (s : Rd) : Int := if s.bad = true then 3 else if 0 < s.b.length then 4 else 0
theorem takeP_bad {n : Nat} {s : Rd} (h : s.bad = true) : (takeP n s).2.bad = true := by unfold takeP; rw [if_pos (.inl h)]
theorem byteP_bad {s : Rd} (h : s.bad = true) : (byteP s).2.bad = true := takeP_bad h
theorem numL_bad {l : Bs} {s : Rd} (h : s.bad = true) : (numL l s).2.bad = true := by unfold numL; split <;> simp [h]
theorem numP_bad {s : Rd} (h : s.bad = true) : (numP s).2.bad = true := by
  unfold numP; split
  · exact byteP_bad h
  · exact numL_bad (takeP_bad (byteP_bad h))
theorem bytesP_bad {most : Nat} {s : Rd} (h : s.bad = true) : (bytesP most s).2.bad = true := by
  unfold bytesP; rw [if_pos (.inl (numP_bad h))]
theorem byteP_some {l r : Bs} {c : UInt8} (h : rdB l = some (c, r)) : byteP ⟨l, false⟩ = (c, ⟨r, false⟩) := by
  cases l with
  | nil => cases h
  | cons x l => cases h; simp [byteP, takeP]
theorem byteP_none {l : Bs} (h : rdB l = none) : byteP ⟨l, false⟩ = (0, ⟨[], true⟩) := by
  cases l with
  | nil => simp [byteP, takeP]
  | cons x l => cases h
theorem headD_get (l : Bs) (n : Nat) (h : 0 < n) : ((l.take n).headD 0).toNat = (l[0]?.map UInt8.toNat).getD 0 := by
  obtain ⟨m, rfl⟩ : ∃ m, n = m + 1 := ⟨n - 1, by omega⟩
  cases l <;> rfl
theorem numP_some {l r : Bs} {v : Nat} (h : rdN l = some (v, r)) : numP ⟨l, false⟩ = (v, ⟨r, false⟩) := by
  cases l with
  | nil => cases h
  | cons c l =>
    have hb : byteP ⟨c :: l, false⟩ = (c, ⟨l, false⟩) := byteP_some rfl
    simp only [rdN] at h
    unfold numP
    rw [hb]
    by_cases h1 : c.toNat < 248
    · rw [if_pos h1] at h ⊢; cases h; rfl
    · rw [if_neg h1] at h ⊢
      by_cases h2 : l.length < c.toNat - 247
      · rw [if_pos h2] at h; cases h
      · rw [if_neg h2] at h
        by_cases h3 : (l[0]?.map UInt8.toNat).getD 0 = 0 ∨ valF (l.take (c.toNat - 247)) < 248
        · rw [if_pos h3] at h; cases h
        · rw [if_neg h3] at h
          simp only [Option.some.injEq, Prod.mk.injEq] at h
          obtain ⟨rfl, rfl⟩ := h
          have ht : takeP (c.toNat - 247) ⟨l, false⟩ = (l.take (c.toNat - 247), ⟨l.drop (c.toNat - 247), false⟩) := by
            unfold takeP; rw [if_neg (by simp; omega)]
          simp only [ht]
          unfold numL
          rw [headD_get l _ (by omega), if_neg]
          rw [List.length_take, Nat.min_eq_left (by omega)]
          intro h; rcases h with h | h
          · omega
          · exact h3 h
theorem numP_none {l : Bs} (h : rdN l = none) : (numP ⟨l, false⟩).2.bad = true := by
  cases l with
  | nil => simp [numP, byteP, takeP]
  | cons c l =>
    have hb : byteP ⟨c :: l, false⟩ = (c, ⟨l, false⟩) := byteP_some rfl
    simp only [rdN] at h
    unfold numP
    rw [hb]
    by_cases h1 : c.toNat < 248
    · rw [if_pos h1] at h; cases h
    · rw [if_neg h1] at h ⊢
      by_cases h2 : l.length < c.toNat - 247
      · have ht : takeP (c.toNat - 247) ⟨l, false⟩ = ([], ⟨l, true⟩) := by unfold takeP; rw [if_pos (.inr h2)]
        simp only [ht]
        exact numL_bad rfl
      · rw [if_neg h2] at h
        by_cases h3 : (l[0]?.map UInt8.toNat).getD 0 = 0 ∨ valF (l.take (c.toNat - 247)) < 248
        · have ht : takeP (c.toNat - 247) ⟨l, false⟩ = (l.take (c.toNat - 247), ⟨l.drop (c.toNat - 247), false⟩) := by
            unfold takeP; rw [if_neg (by simp; omega)]
          simp only [ht]
          unfold numL
          rw [headD_get l _ (by omega), if_pos (.inr h3)]
        · rw [if_neg h3] at h; cases h
theorem bytesP_some {most : Nat} {l r x : Bs} (h : rdS most l = some (x, r)) : bytesP most ⟨l, false⟩ = (x, ⟨r, false⟩) := by
  unfold rdS at h
  cases hn : rdN l with
  | none => rw [hn] at h; cases h
  | some p =>
    obtain ⟨n, q⟩ := p
    rw [hn] at h
    simp only at h
    by_cases h1 : most < n ∨ q.length < n
    · rw [if_pos h1] at h; cases h
    · rw [if_neg h1] at h
      simp only [Option.some.injEq, Prod.mk.injEq] at h
      obtain ⟨rfl, rfl⟩ := h
      unfold bytesP
      rw [numP_some hn]
      simp only
      rw [if_neg (by simp; omega)]
      unfold takeP
      rw [if_neg (by simp; omega)]
theorem bytesP_none {most : Nat} {l : Bs} (h : rdS most l = none) : (bytesP most ⟨l, false⟩).2.bad = true := by
  unfold rdS at h
  cases hn : rdN l with
  | none => unfold bytesP; rw [if_pos (.inl (numP_none hn))]
  | some p =>
    obtain ⟨n, q⟩ := p
    rw [hn] at h
    simp only at h
    by_cases h1 : most < n ∨ q.length < n
    · unfold bytesP
      rw [numP_some hn, if_pos (.inr h1)]
    · rw [if_neg h1] at h; cases h
theorem takeP_len (n : Nat) (s : Rd) : (takeP n s).1.length ≤ n ∧ (takeP n s).2.b.length ≤ s.b.length := by
  unfold takeP; split
  · simp
  · simp; omega
theorem byteP_len (s : Rd) : (byteP s).2.b.length ≤ s.b.length := (takeP_len 1 s).2
theorem numP_len (s : Rd) : (numP s).2.b.length ≤ s.b.length := by
  have a := byteP_len s
  have b := (takeP_len ((byteP s).1.toNat - 247) (byteP s).2).2
  unfold numP numL
  split
  · exact a
  · split
    · simp only; omega
    · simp only; omega
theorem bytesP_len (most : Nat) (s : Rd) : (bytesP most s).1.length ≤ most ∧ (bytesP most s).2.b.length ≤ s.b.length := by
  have a := numP_len s
  have b := takeP_len (numP s).1 (numP s).2
  unfold bytesP
  split
  · simp; omega
  · rename_i h; omega
end Go.Pm
namespace Go.Pm
open Go.Proofs
set_option linter.unusedVariables false
set_option linter.unusedSimpArgs false
structure Pr where
  (key value : Bs)
  deriving DecidableEq
def Pr.av (p : Pr) : AV := .agg [bys p.key, bys p.value]
@[simp] theorem good_pr (p : Pr) : p.av.good = true := by simp [Pr.av, AV.good, goodL]
def prsA (l : List Pr) : AV := .lst (l.map Pr.av)
@[simp] theorem goodL_pr (l : List Pr) : goodL (l.map Pr.av) = true := goodL_map good_pr l
@[simp] theorem good_prs (l : List Pr) : (prsA l).good = true := goodL_pr l
theorem lenV_prs (l : List Pr) (H : List AObj) : lenV (prsA l) H = some (.int .i64 (l.length : Int)) := by unfold prsA; simp
def pairT (t : Tre) : Pr := ⟨t.key, t.value⟩
def risK : List Bs → Bool
  | a :: b :: l => ltB a b && risK (b :: l)
  | _ => true
/-- the keys rise -/
def risN (l : List Tre) : Bool := risK (l.map Tre.key)
theorem dr_tr1 (t : Tre) : List.drop 1 t.av.cells = [bys t.key, bys t.value, bys t.digest, kidsA t.kids] := by rw [cells_tr]; rfl
theorem sto_t {β : Type} {H : List AObj} {b : Nat} {cs : List AV} {t : Tre} {K : List AObj → List Nat → Option β} (h : H[b]? = some (.row 5 [.agg cs])) (hc : cs.length = 5) : stoK 5 (.ptr b 1 0 0) t.av H K = K (H.set b (.row 5 [t.av])) [] := by
  rw [av_eq, sto_agg h hc rfl rfl, escs_good (by simp [goodL, AV.good])]
theorem ldb_a {H : List AObj} {b : Nat} {t : Tre} (h : H[b]? = some (.row 5 [t.av])) : loadA false 1 (.ptr b 1 0 1) H = some (bys t.key) := by rw [av_eq] at h; exact ld_fld h rfl
theorem ldb_b {H : List AObj} {b : Nat} {t : Tre} (h : H[b]? = some (.row 5 [t.av])) : loadA false 1 (.ptr b 1 0 2) H = some (bys t.value) := by rw [av_eq] at h; exact ld_fld h rfl
theorem risN_drop {l : List Tre} {i : Nat} (h : i + 1 < l.length) : risN (l.drop i) = (ltB (l[i]'(by omega)).key l[i + 1].key && risN (l.drop (i + 1))) := by
  have e1 : l.drop i = l[i]'(by omega) :: l.drop (i + 1) := List.drop_eq_getElem_cons (by omega)
  have e2 : l.drop (i + 1) = l[i + 1] :: l.drop (i + 2) := List.drop_eq_getElem_cons h
  rw [e1, e2]; rfl
end Go.Pm
namespace Go.Pm
open Go.Proofs
set_option linter.unusedVariables false
set_option linter.unusedSimpArgs false
theorem ixA_prs {l : List Pr} {k : IntKind} {i : Nat} {p : Pr} {H : List AObj} (h : l[i]? = some p) : ixA 2 (prsA l) (.int k i) H = some (.ip [bys p.key, bys p.value]) := by
  unfold prsA
  exact ixA_lst (e := p.av) (by omega) (by simp [h]) rfl
end Go.Pm
namespace Go.Pm
open Go.Proofs
set_option linter.unusedVariables false
set_option linter.unusedSimpArgs false
mutual
def dpF : Tre → Nat
  | .mk _ _ _ _ ks => match dpL ks with
    | a :: b :: _ => max a b + 1
    | _ => 0
def dpL : List Tre → List Nat
  | [] => []
  | t :: ts => dpF t :: dpL ts
end
theorem dp_leaf {t : Tre} (h : t.kids = []) : dpF t = 0 := by
  cases t with | mk k a b c ks => simp only [Tre.kids] at h; subst h; rw [dpF]; rfl
theorem dp_two {t l r : Tre} (h : t.kids = [l, r]) : dpF t = max (dpF l) (dpF r) + 1 := by
  cases t with | mk k a b c ks => simp only [Tre.kids] at h; subst h; rw [dpF]; rfl
mutual
def evenF : Tre → Bool
  | .mk _ _ _ _ ks => match ks, evenL ks with
    | l :: r :: _, a :: b :: _ => a && b && decide (dpF l ≤ dpF r + 1) && decide (dpF r ≤ dpF l + 1)
    | _, _ => true
def evenL : List Tre → List Bool
  | [] => []
  | t :: ts => evenF t :: evenL ts
end
theorem even_leaf {t : Tre} (h : t.kids = []) : evenF t = true := by
  cases t with | mk k a b c ks => simp only [Tre.kids] at h; subst h; unfold evenF; rfl
theorem even_two {t l r : Tre} (h : t.kids = [l, r]) : evenF t = (evenF l && evenF r && decide (dpF l ≤ dpF r + 1) && decide (dpF r ≤ dpF l + 1)) := by
  cases t with | mk k a b c ks => simp only [Tre.kids] at h; subst h; simp only [evenF, evenL]
mutual
def fullF : Tre → Bool
  | .mk k _ _ _ ks => !(decide (k = 2) || decide (k = 3)) && fullL ks
def fullL : List Tre → Bool
  | [] => true
  | t :: ts => fullF t && fullL ts
end
theorem fullL_all (l : List Tre) : fullL l = l.all fullF := by
  induction l with
  | nil => rfl
  | cons t l ih => rw [fullL, ih, List.all_cons]
theorem full_eq (t : Tre) : fullF t = (!(decide (t.kind = 2) || decide (t.kind = 3)) && t.kids.all fullF) := by
  cases t with | mk k a b c ks => rw [fullF, fullL_all]; rfl
theorem dp_nodes (t : Tre) : formedF t = true → dpF t ≤ (nodesF t).length := by
  induction t using Tre.ind with
  | h t ih =>
    intro hf
    rcases formed_two hf with h | ⟨l, r, h⟩
    · rw [dp_leaf h]; exact Nat.zero_le _
    · have a := ih l (by rw [h]; simp) (formed_kids hf l (by rw [h]; simp))
      have b := ih r (by rw [h]; simp) (formed_kids hf r (by rw [h]; simp))
      rw [dp_two h, nodes_two h, List.length_append, List.length_cons]; omega
theorem maxA2 (x y : Int) : maxA [.int .i64 x, .int .i64 y] = some (.int .i64 (max x y)) := by
  simp only [maxA]
  simp
  omega
theorem rDepth_ok (t : Tre) : t.ok → formedF t = true → dpF t ≤ 2^40 → EV C n_ref04_Depth [t.av] [] = some (.int .i64 (dpF t : Int), [], []) := by
  induction t using Tre.ind with
  | h t ih =>
    intro ht hf hn
    have hks := ((ok_eq t).1 ht).2.2.2.2
    refine ref04_Depth_of ?_
    simp -implicitDefEqProofs only [ZS, ZT, Nat.reduceAdd]
    rcases formed_two hf with h | ⟨l, r, h⟩
    · rw [dp_leaf h, h]
      simp -implicitDefEqProofs only [List.length_nil, Int.natCast_zero, if_true]
      exact endB_good rfl
    · rw [dp_two h] at hn ⊢
      have hl : l ∈ t.kids := by rw [h]; simp
      have hr : r ∈ t.kids := by rw [h]; simp
      have x0 : ∀ H, ixA 5 (kidsA t.kids) (.int .i64 0) H = some (.ip l.av.cells) := fun H => ixA_kids (i := 0) (by rw [h]; rfl)
      have x1 : ∀ H, ixA 5 (kidsA t.kids) (.int .i64 1) H = some (.ip r.av.cells) := fun H => ixA_kids (i := 1) (by rw [h]; rfl)
      have e0 : ¬ ((t.kids.length : Int) = 0) := by rw [h]; simp
      have e1 : IntKind.i64.wrap ((dpF l : Int) + 1) = (dpF l : Int) + 1 := by rw [wrap64] <;> omega
      have e2 : IntKind.i64.wrap ((dpF r : Int) + 1) = (dpF r : Int) + 1 := by rw [wrap64] <;> omega
      rw [if_neg e0]
      simp -implicitDefEqProofs only [x0, x1, ZS, ZT, Nat.reduceAdd]
      rw [callK_ok (by simp) (ih l hl (hks l hl) (formed_kids hf l hl) (by omega))]
      simp -implicitDefEqProofs only [x0, x1, ZS, ZT, Nat.reduceAdd]
      rw [callK_ok (by simp) (ih r hr (hks r hr) (formed_kids hf r hr) (by omega))]
      simp -implicitDefEqProofs only [add_int, e1, e2, ZS, ZT, Nat.reduceAdd]
      split
      · rw [show ((max (dpF l) (dpF r) + 1 : Nat) : Int) = (dpF l : Int) + 1 by omega]; exact endB_good rfl
      · rw [show ((max (dpF l) (dpF r) + 1 : Nat) : Int) = (dpF r : Int) + 1 by omega]; exact endB_good rfl
theorem even_ok (t : Tre) : t.ok → formedF t = true → dpF t ≤ 2^40 → EV C n_avl_even [t.av] [] = some (.tup [.int .i64 (dpF t : Int), .bool (evenF t)], [], []) := by
  induction t using Tre.ind with
  | h t ih =>
    intro ht hf hn
    have hks := ((ok_eq t).1 ht).2.2.2.2
    refine avl_even_of ?_
    simp -implicitDefEqProofs only [ZS, ZT, Nat.reduceAdd]
    rcases formed_two hf with h | ⟨l, r, h⟩
    · rw [dp_leaf h, even_leaf h, h]
      simp -implicitDefEqProofs only [List.length_nil, Int.natCast_zero, if_true]
      exact endB_good rfl
    · rw [even_two h]
      rw [dp_two h] at hn ⊢
      have hl : l ∈ t.kids := by rw [h]; simp
      have hr : r ∈ t.kids := by rw [h]; simp
      have x0 : ∀ H, ixA 5 (kidsA t.kids) (.int .i64 0) H = some (.ip l.av.cells) := fun H => ixA_kids (i := 0) (by rw [h]; rfl)
      have x1 : ∀ H, ixA 5 (kidsA t.kids) (.int .i64 1) H = some (.ip r.av.cells) := fun H => ixA_kids (i := 1) (by rw [h]; rfl)
      have e0 : ¬ ((t.kids.length : Int) = 0) := by rw [h]; simp
      have e1 : IntKind.i64.wrap (max (dpF l : Int) (dpF r : Int) + 1) = ((max (dpF l) (dpF r) + 1 : Nat) : Int) := by rw [wrap64] <;> omega
      have e2 : IntKind.i64.wrap ((dpF l : Int) - (dpF r : Int)) = (dpF l : Int) - (dpF r : Int) := by rw [wrap64] <;> omega
      have e3 : IntKind.i64.wrap ((dpF r : Int) - (dpF l : Int)) = (dpF r : Int) - (dpF l : Int) := by rw [wrap64] <;> omega
      rw [if_neg e0]
      simp -implicitDefEqProofs only [x0, x1, ZS, ZT, Nat.reduceAdd]
      rw [callK_ok (by simp) (ih l hl (hks l hl) (formed_kids hf l hl) (by omega))]
      simp -implicitDefEqProofs only [x0, x1, ZS, ZT, Nat.reduceAdd]
      rw [callK_ok (by simp) (ih r hr (hks r hr) (formed_kids hf r hr) (by omega))]
      simp -implicitDefEqProofs only [maxA2, add_int, sub_int, e1, e2, e3, ZS, ZT, Nat.reduceAdd]
      cases evenF l with
      | false => simp -implicitDefEqProofs only [Bool.false_and, ZS, ZT, Nat.reduceAdd]; exact endB_good rfl
      | true =>
        cases evenF r with
        | false => simp -implicitDefEqProofs only [Bool.false_and, Bool.and_false, ZS, ZT, Nat.reduceAdd]; exact endB_good rfl
        | true =>
          simp -implicitDefEqProofs only [Bool.true_and, ZS, ZT, Nat.reduceAdd]
          by_cases h1 : dpF l ≤ dpF r + 1
          · have h1' : (dpF l : Int) - (dpF r : Int) ≤ 1 := by omega
            rw [if_pos h1']
            rw [show decide ((dpF r : Int) - (dpF l : Int) ≤ 1) = decide (dpF r ≤ dpF l + 1) from by congr 1; exact propext ⟨fun _ => by omega, fun _ => by omega⟩]
            simp -implicitDefEqProofs only [h1, decide_true, Bool.true_and]
            exact endB_good rfl
          · have h1' : ¬ (dpF l : Int) - (dpF r : Int) ≤ 1 := by omega
            rw [if_neg h1']
            simp -implicitDefEqProofs only [h1, decide_false, Bool.false_and]
            exact endB_good rfl
end Go.Pm
namespace Go.Pm
open Go.Proofs
set_option linter.unusedVariables false
set_option linter.unusedSimpArgs false
theorem full_ok (t : Tre) : t.ok → EV C n_tree_full [t.av] [] = some (.bool (fullF t), [], []) := by
  induction t using Tre.ind with
  | h t ih =>
    intro ht
    obtain ⟨_, _, _, hk, hks⟩ := (ok_eq t).1 ht
    refine tree_full_of ?_
    have c1 : ∀ k ∈ t.kids, EV C n_tree_full_1 [k.av] [] = some (.bool (!fullF k), [], []) := fun k hk => by
      refine tree_full_1_of ?_
      simp -implicitDefEqProofs only [ZS, ZT, Nat.reduceAdd]
      rw [callK_ok (by simp) (ih k hk (hks k hk))]
      simp -implicitDefEqProofs only [ZS, ZT, Nat.reduceAdd]
      exact endB_good rfl
    have CF : EV C n_ContainsFunc_api_Tree [kidsA t.kids, .clo n_tree_full_1 [] []] [] = some (.bool (t.kids.any fun k => !fullF k), [], []) := Contains_pure (fun k => !fullF k) (by kernel_rfl) t.kids (by omega) c1
    simp -implicitDefEqProofs only [ZS, ZT, Nat.reduceAdd]
    rw [full_eq]
    by_cases h2 : t.kind = 2
    · rw [if_pos h2]
      simp -implicitDefEqProofs only [h2, decide_true, Bool.true_or, Bool.not_true, Bool.false_and]
      exact endB_good rfl
    · rw [if_neg h2]
      by_cases h3 : t.kind = 3
      · rw [if_pos h3]
        simp -implicitDefEqProofs only [h3, decide_true, Bool.or_true, Bool.not_true, Bool.false_and]
        exact endB_good rfl
      · rw [if_neg h3]
        have hkl : killsL [kidsA t.kids, (AV.clo n_tree_full_1 [] [])] = [] := by simp [killsL, kills, kills_good]
        rw [callK_ok (by simp) CF]
        simp -implicitDefEqProofs only [ZS, ZT, Nat.reduceAdd]
        have e : (!(t.kids.any fun k => !fullF k)) = (!(decide (t.kind = 2) || decide (t.kind = 3)) && t.kids.all fullF) := by
          simp only [h2, h3, decide_false, Bool.or_self, Bool.not_false, Bool.true_and]
          rw [List.not_any_eq_all_not]
          simp
        rw [e]
        exact endB_good rfl
theorem TFull_ok (t : Tre) (ht : t.ok) : EV C n_tree_Full [t.av] [] = some (.bool (decide (checkF t = 0) && fullF t), [], []) := by
  refine tree_Full_of ?_
  simp -implicitDefEqProofs only [ZS, ZT, Nat.reduceAdd]
  rw [callK_ok (by simp) (Check_ok t ht)]
  simp -implicitDefEqProofs only [eqlE0, ZS, ZT, Nat.reduceAdd]
  by_cases h : checkF t = 0
  · simp -implicitDefEqProofs only [h, Bool.true_and, ZS, ZT, Nat.reduceAdd]
    rw [callK_ok (by simp) (full_ok t ht)]
    exact endB_good rfl
  · simp -implicitDefEqProofs only [h, Bool.false_and, ZS, ZT, Nat.reduceAdd]
    exact endB_good rfl
def isF (t : Tre) : Bool := decide (checkF t = 0) && (fullF t && (risN (nodesF t) && evenF t))
theorem avl_loop (t : Tre) (ht : t.ok) (hf : formedF t = true) (l : List Tre) (hl : l.length ≤ 2^40) (hd : dpF t ≤ 2^40) : ∀ (m i : Nat) (E : List Nat), l.length ≤ i + 1 + m →
    avl_Is_J5 0 (.ptr 0 1 0 0) (kidsA l) (.int .i64 ((i + 1 : Nat) : Int)) [.row 5 [t.av]] E = some (.bool (risN (l.drop i) && evenF t), [], []) := by
  intro m
  have fin : ∀ (i : Nat) (E : List Nat), l.length ≤ i + 1 → avl_Is_J5 0 (.ptr 0 1 0 0) (kidsA l) (.int .i64 ((i + 1 : Nat) : Int)) [.row 5 [t.av]] E = some (.bool (risN (l.drop i) && evenF t), [], []) := fun i E hi => by
    refine avl_Is_J5_of ?_
    have e1 : ¬ (((i + 1 : Nat) : Int) < (l.length : Int)) := by omega
    have e2 : risN (l.drop i) = true := by
      cases hx : l.drop i with
      | nil => rfl
      | cons a x =>
        have : (l.drop i).length ≤ 1 := by simp; omega
        rw [hx] at this
        cases x with
        | nil => rfl
        | cons b y => simp at this
    simp -implicitDefEqProofs only [e1, ZS, ZT, Nat.reduceAdd]
    rw [callK_ok (by simp) (even_ok t ht hf hd), e2]
    simp -implicitDefEqProofs only [Bool.true_and, ZS, ZT, Nat.reduceAdd]
    exact endB_good rfl
  induction m with
  | zero => intro i E hi; exact fin i E (by omega)
  | succ m ih =>
    intro i E hi
    by_cases hlt : i + 1 < l.length
    · refine avl_Is_J5_of ?_
      have e1 : (((i + 1 : Nat) : Int) < (l.length : Int)) := by omega
      have e3 : IntKind.i64.wrap (((i + 1 : Nat) : Int) + 1) = ((i + 1 + 1 : Nat) : Int) := w64 (by omega) (by omega)
      have e4 : IntKind.i64.wrap (((i + 1 : Nat) : Int) - 1) = ((i : Nat) : Int) := w64 (by omega) (by omega)
      have hi0 : i < l.length := by omega
      simp -implicitDefEqProofs only [e1, e3, e4, sub_int, add_int, ixA_kids (List.getElem?_eq_getElem hi0), ixA_kids (List.getElem?_eq_getElem hlt), dr_tr1, CompareD, cmp_ge, ZS, ZT, Nat.reduceAdd]
      rw [risN_drop hlt]
      cases hc : ltB l[i].key l[i + 1].key with
      | true =>
        simp -implicitDefEqProofs only [Bool.true_and, add_int, e3, ZS, ZT, Nat.reduceAdd]
        exact ih (i + 1) E (by omega)
      | false =>
        simp -implicitDefEqProofs only [Bool.false_and, ZS, ZT, Nat.reduceAdd]
        exact endB_good rfl
    · exact fin i E (by omega)
theorem avlIs_ok (t : Tre) (ht : t.ok) (hn : (nodesF t).length ≤ 2^40) : EV C n_avl_Is [t.av] [] = some (.bool (isF t), [], []) := by
  refine avl_Is_of ?_
  simp -implicitDefEqProofs only [ZS, ZT, Nat.reduceAdd]
  rw [callK_ok (by simp) (TFull_ok t ht)]
  unfold isF
  by_cases hc : checkF t = 0
  · have hf := check_formed hc
    cases hfl : fullF t with
    | false => simp -implicitDefEqProofs only [hc, Bool.and_false, Bool.false_and, ZS, ZT, Nat.reduceAdd]; exact endB_good rfl
    | true =>
      simp -implicitDefEqProofs only [hc, Bool.true_and, ZS, ZT, Nat.reduceAdd]
      rw [callK_ok (by simp) (List_ok t ht hn), if_pos hc]
      exact avl_loop t ht hf (nodesF t) hn (Nat.le_trans (dp_nodes t hf) hn) (nodesF t).length 0 _ (by omega)
  · simp -implicitDefEqProofs only [hc, Bool.false_and, ZS, ZT, Nat.reduceAdd]; exact endB_good rfl
end Go.Pm
namespace Go.Pm
open Go.Proofs
set_option linter.unusedVariables false
set_option linter.unusedSimpArgs false
/-- a full tree has a digest -/
theorem full_gd {w : Int} (hw : wOk w = true) (t : Tre) : t.ok → formedF t = true → fullF t = true → deepF t 64 = false → Gd w t := by
  induction t using Tre.ind with
  | h t ih =>
    intro ht hf hfl hd
    refine ⟨ht, hf, hd, ?_⟩
    have hks := ((ok_eq t).1 ht).2.2.2.2
    rw [full_eq, Bool.and_eq_true, List.all_eq_true] at hfl
    have hk2 := hfl.1
    simp only [Bool.not_eq_true', Bool.or_eq_false_iff, decide_eq_false_iff_not] at hk2
    have hdk : ∀ k ∈ t.kids, deepF k 64 = false := fun k hk => by
      rw [deepF_eq, Bool.or_eq_false_iff, List.any_eq_false] at hd
      have := hd.2 k hk
      simp only [Bool.not_eq_true] at this
      exact deep_mono k (by omega) this
    by_cases h0 : t.kind = 0
    · rw [told_none w t h0]; rfl
    · obtain ⟨hkk, hka, hva, l, r, hk⟩ := formed_node hf h0 hk2.2
      have hl : l ∈ t.kids := by rw [hk]; simp
      have hr : r ∈ t.kids := by rw [hk]; simp
      have gl := ih l hl (hks l hl) (formed_kids hf l hl) (hfl.2 l hl) (hdk l hl)
      have gr := ih r hr (hks r hr) (formed_kids hf r hr) (hfl.2 r hr) (hdk r hr)
      have h1 : t.kind = 1 := hkk.resolve_right hk2.1
      have hpv : ((pv w t).length : Int) = w := by
        unfold pv; rw [if_pos h1]; exact ofF_len hw _
      rw [told_node w t l r h0 hk2.2 hk, if_pos hpv, gl.dgs, gr.dgs]
      rfl
theorem sto_zt {β : Type} {H : List AObj} {b : Nat} {cs ds : List AV} {K : List AObj → List Nat → Option β} (h : H[b]? = some (.row 5 [.agg cs])) (hc : cs.length = 5) (hd : ds.length = 5) (h1 : ds.all AV.one = true) (he : escs b ds = []) :
    stoK 5 (.ptr b 1 0 0) (.agg ds) H K = K (H.set b (.row 5 [.agg ds])) [] := by
  rw [sto_agg h hc hd h1, he]
theorem drawK_eq {α β : Type} (a : α) (x : Option β) : drawK (a = a) x = x := if_pos rfl
theorem drawK_T {β : Type} (x : Option β) : drawK True x = x := if_pos trivial
theorem siz_tr {β : Type} (t : Tre) (x : Option β) : sizK 5 t.av x = x := by unfold sizK; rw [if_pos (by rw [cells_tr]; rfl)]
theorem frz_in (k v : Bs) (x y : Tre) (H : List AObj) : frz H (.agg [.int .i64 1, bys k, bys v, .nils, kidsA [x, y]]) = some (Tre.mk 1 k v [] [x, y]).av :=
  (frz_agg (us := [.int .i64 1, bys k, bys v, .lst [], kidsA [x, y]]) (frzL_cons rfl (frzL_cons (frz_good _ _ (good_bys _)) (frzL_cons (frz_good _ _ (good_bys _)) (frzL_cons rfl (frzL_cons (frz_good _ _ (good_kids _)) rfl)))))).trans (by rw [av_eq]; rfl)
end Go.Pm
namespace Go.Pm
open Go.Proofs
set_option linter.unusedVariables false
set_option linter.unusedSimpArgs false
theorem is_gd {w : Int} (hw : wOk w = true) {t : Tre} (ht : t.ok) (h : isF t = true) : Gd w t ∧ fullF t = true := by
  unfold isF at h
  simp only [Bool.and_eq_true, decide_eq_true_eq] at h
  have hf := check_formed h.1
  have hd : deepF t 64 = false := by
    cases hx : deepF t 64 with
    | false => rfl
    | true => have := h.1; simp [checkF, hx] at this
  exact ⟨full_gd hw t ht hf h.2.1 hd, h.2.1⟩
theorem fill_in {β : Type} (a b : Bs) (x y : Tre) (K : List AV → Option β) : (fillB (AV.cells (.agg [(.int .i64 0), .nils, .nils, .nils, .nils])) [(0, 1, (.int .i64 1)), (1, 1, bys a), (2, 1, bys b), (4, 1, kidsA [x, y])]).bind K = K [.int .i64 1, bys a, bys b, .nils, kidsA [x, y]] := by
  simp [fillB, AV.cells, AV.isBad, bys, kidsA]
end Go.Pm
namespace Go.Pm
open Go.Proofs
set_option linter.unusedVariables false
set_option linter.unusedSimpArgs false
theorem callD_nil {env : Env} {g : FuncId} {args bs : List AV} {H : List AObj} {v : AV} (hk : killsL args = []) (h0 : frzL H args = some bs) (h1 : goodL bs = true) (h3 : env g bs [] = some (v, [], [])) :
    callD env g args H = some v := by
  simp [callD, h0, belL_good 0 bs h1, h3, hk]
abbrev zTre : AV := .agg [(.int .i64 0), .nils, .nils, .nils, .nils]
theorem litK_kids2 {β : Type} (x y : Tre) (H : List AObj) (K : AV → List AObj → List Nat → Option β) : litK 5 2 (.agg [(.int .i64 0), .nils, .nils, .nils, .nils]) [(0, x.av), (1, y.av)] H K = K (kidsA [x, y]) H [] := by
  have e2 : frzL H [x.av, y.av] = some [x.av, y.av] := frzL_cons (frz_good _ _ (good_tr x)) (frzL_cons (frz_good _ _ (good_tr y)) rfl)
  have e1 : killsL [x.av, y.av] = [] := by simp [killsL, kills_good _ (good_tr x), kills_good _ (good_tr y)]
  have e3 : ∀ (t : Tre), t.av.cells.length = 5 ∧ t.av.cells.all AV.one = true := fun t => by rw [cells_tr]; exact ⟨rfl, rfl⟩
  unfold litK
  simp only [List.map_cons, List.map_nil]
  rw [e2, Option.bind_some, frz_nil0, Option.bind_some, e1]
  simp only [List.zip_cons_cons, List.zip_nil_right, setS, (e3 _).1, (e3 _).2, List.length_replicate, List.length_set, List.replicate, List.set_cons_zero, List.set_cons_succ, List.length_cons, List.length_nil]
  rfl
theorem rNode5_ok (l r : Tre) (k v : Bs) : EV C n_ref05_Node [l.av, bys k, bys v, r.av] [] = some ((Tre.mk 1 k v [] [l, r]).av, [], []) := by
  refine ref05_Node_of ?_
  simp -implicitDefEqProofs only [new_z, ZS, ZT, Nat.reduceAdd]
  rw [litK_kids2, fill_in, sto_zt (b := 2) rfl rfl rfl (by simp [AV.one, bys, kidsA]) (by simp [escs, belL, AV.bel, bel_good _ _ (good_bys _), bel_good _ _ (good_kids _)]), ld_agg (l := 2) (z := 5) rfl rfl, Option.bind_some]
  exact endB_frz (frz_in _ _ _ _ _) (good_tr _)
theorem Put1_ok (k v : Bs) : EV C n_ref05_Put [Tre.nil.av, bys k, bys v] [] = some ((Tre.mk 1 k v [] [Tre.nil, Tre.nil]).av, [], []) := by
  refine ref05_Put_of ?_
  simp -implicitDefEqProofs only [new_z, ZS, ZT, Nat.reduceAdd]
  rw [if_pos (show ((Tre.nil.kids.length : Nat) : Int) = 0 from rfl), fill_nil, fill_nil]
  rw [callK_nil (bs := [Tre.nil.av, bys k, bys v, Tre.nil.av]) (by simp [killsL, kills, kills_good _ (good_bys _)]) (frzL_cons (frz_nil0 _) (frzL_cons (frz_good _ _ (good_bys _)) (frzL_cons (frz_good _ _ (good_bys _)) (frzL_cons (frz_nil0 _) rfl)))) (by simp [goodL]) (rNode5_ok _ _ k v), sto_t (b := 1) rfl rfl]
  simp -implicitDefEqProofs only [ZS, ZT, Nat.reduceAdd]
  exact endB_good (good_tr _)
end Go.Pm
namespace Go.Pm
set_option linter.unusedVariables false
set_option linter.unusedSimpArgs false
inductive Bt where
  | lf
  | nd (l : Bt) (k v : Bs) (r : Bt)
def Bt.tre : Bt → Tre
  | .lf => Tre.nil
  | .nd l k v r => .mk 1 k v [] [l.tre, r.tre]
def Bt.dp : Bt → Nat
  | .lf => 0
  | .nd l _ _ r => max l.dp r.dp + 1
def Bt.toL : Bt → List Pr
  | .lf => []
  | .nd l k v r => l.toL ++ ⟨k, v⟩ :: r.toL
def Bt.bal : Bt → Prop
  | .lf => True
  | .nd l _ _ r => l.bal ∧ r.bal ∧ l.dp ≤ r.dp + 1 ∧ r.dp ≤ l.dp + 1
def Bt.sml : Bt → Prop
  | .lf => True
  | .nd l k v r => l.sml ∧ r.sml ∧ k.length ≤ 80 ∧ v.length ≤ 1024
def Bt.rotR : Bt → Bt
  | .nd (.nd a k v b) k2 v2 c => .nd a k v (.nd b k2 v2 c)
  | t => t
def Bt.rotL : Bt → Bt
  | .nd a k v (.nd b k2 v2 c) => .nd (.nd a k v b) k2 v2 c
  | t => t
def Bt.tlt : Bt → Int
  | .lf => 0
  | .nd l _ _ r => (l.dp : Int) - r.dp
def Bt.lev (l : Bt) (k v : Bs) (r : Bt) : Bt :=
  if l.dp = r.dp + 2 then Bt.rotR (.nd (if l.tlt < 0 then l.rotL else l) k v r)
  else if r.dp = l.dp + 2 then Bt.rotL (.nd l k v (if 0 < r.tlt then r.rotR else r))
  else .nd l k v r
def Bt.put (k v : Bs) : Bt → Bt
  | .lf => .nd .lf k v .lf
  | .nd l k' v' r => if k = k' then .nd l k v r else if ltB k k' = true then Bt.lev (Bt.put k v l) k' v' r else Bt.lev l k' v' (Bt.put k v r)
theorem toL_rotR (t : Bt) : t.rotR.toL = t.toL := by
  cases t with
  | lf => rfl
  | nd l k v r => cases l with
    | lf => rfl
    | nd a k2 v2 b => simp [Bt.rotR, Bt.toL]
theorem toL_rotL (t : Bt) : t.rotL.toL = t.toL := by
  cases t with
  | lf => rfl
  | nd l k v r => cases r with
    | lf => rfl
    | nd a k2 v2 b => simp [Bt.rotL, Bt.toL]
theorem toL_lev (l : Bt) (k v : Bs) (r : Bt) : (Bt.lev l k v r).toL = l.toL ++ ⟨k, v⟩ :: r.toL := by
  unfold Bt.lev
  split
  · rw [toL_rotR]; simp only [Bt.toL]; split <;> simp [toL_rotL]
  · split
    · rw [toL_rotL]; simp only [Bt.toL]; split <;> simp [toL_rotR]
    · rfl
theorem sml_rotR {t : Bt} (h : t.sml) : t.rotR.sml := by
  cases t with
  | lf => exact h
  | nd l k v r => cases l with
    | lf => exact h
    | nd a k2 v2 b => simp only [Bt.rotR, Bt.sml] at h ⊢; exact ⟨h.1.1, ⟨h.1.2.1, h.2⟩, h.1.2.2⟩
theorem sml_rotL {t : Bt} (h : t.sml) : t.rotL.sml := by
  cases t with
  | lf => exact h
  | nd l k v r => cases r with
    | lf => exact h
    | nd a k2 v2 b => simp only [Bt.rotL, Bt.sml] at h ⊢; exact ⟨⟨h.1, h.2.1.1, h.2.2⟩, h.2.1.2⟩
theorem sml_lev {l : Bt} {k v : Bs} {r : Bt} (hl : l.sml) (hr : r.sml) (hk : k.length ≤ 80) (hv : v.length ≤ 1024) : (Bt.lev l k v r).sml := by
  unfold Bt.lev
  split
  · refine sml_rotR ⟨?_, hr, hk, hv⟩; split
    · exact sml_rotL hl
    · exact hl
  · split
    · refine sml_rotL ⟨hl, ?_, hk, hv⟩; split
      · exact sml_rotR hr
      · exact hr
    · exact ⟨hl, hr, hk, hv⟩
theorem sml_put {k v : Bs} (hk : k.length ≤ 80) (hv : v.length ≤ 1024) : ∀ {t : Bt}, t.sml → (Bt.put k v t).sml
  | .lf, _ => ⟨trivial, trivial, hk, hv⟩
  | .nd l k' v' r, h => by
    unfold Bt.put
    split
    · exact ⟨h.1, h.2.1, hk, hv⟩
    · split
      · exact sml_lev (sml_put hk hv h.1) h.2.1 h.2.2.1 h.2.2.2
      · exact sml_lev h.1 (sml_put hk hv h.2.1) h.2.2.1 h.2.2.2
theorem lev_bal {l : Bt} {k v : Bs} {r : Bt} (hl : l.bal) (hr : r.bal) (h1 : l.dp ≤ r.dp + 2) (h2 : r.dp ≤ l.dp + 2) :
    (Bt.lev l k v r).bal ∧ max l.dp r.dp ≤ (Bt.lev l k v r).dp ∧ (Bt.lev l k v r).dp ≤ max l.dp r.dp + 1 ∧ (l.dp ≤ r.dp + 1 → r.dp ≤ l.dp + 1 → (Bt.lev l k v r).dp = max l.dp r.dp + 1) := by
  unfold Bt.lev
  split
  · rename_i h
    cases l with
    | lf => simp [Bt.dp] at h
    | nd a ka va b =>
      simp only [Bt.dp, Bt.bal] at *
      by_cases ht : (Bt.nd a ka va b).tlt < 0
      · rw [if_pos ht]
        simp only [Bt.tlt] at ht
        cases b with
        | lf => simp [Bt.dp] at ht; omega
        | nd c kc vc d =>
          simp only [Bt.rotL, Bt.rotR, Bt.dp, Bt.bal] at *
          refine ⟨⟨⟨?_, ?_, ?_, ?_⟩, ⟨?_, ?_, ?_, ?_⟩, ?_, ?_⟩, ?_, ?_, ?_⟩ <;> first | exact hl.1 | exact hl.2.1.1 | exact hl.2.1.2.1 | exact hr | omega
      · rw [if_neg ht]
        simp only [Bt.tlt] at ht
        simp only [Bt.rotR, Bt.dp, Bt.bal] at *
        refine ⟨⟨?_, ⟨?_, ?_, ?_, ?_⟩, ?_, ?_⟩, ?_, ?_, ?_⟩ <;> first | exact hl.1 | exact hl.2.1 | exact hr | omega
  · split
    · rename_i h' h
      cases r with
      | lf => simp [Bt.dp] at h
      | nd a ka va b =>
        simp only [Bt.dp, Bt.bal] at *
        by_cases ht : 0 < (Bt.nd a ka va b).tlt
        · rw [if_pos ht]
          simp only [Bt.tlt] at ht
          cases a with
          | lf => simp [Bt.dp] at ht; omega
          | nd c kc vc d =>
            simp only [Bt.rotL, Bt.rotR, Bt.dp, Bt.bal] at *
            refine ⟨⟨⟨?_, ?_, ?_, ?_⟩, ⟨?_, ?_, ?_, ?_⟩, ?_, ?_⟩, ?_, ?_, ?_⟩ <;> first | exact hl | exact hr.1.1 | exact hr.1.2.1 | exact hr.2.1 | omega
        · rw [if_neg ht]
          simp only [Bt.tlt] at ht
          simp only [Bt.rotL, Bt.dp, Bt.bal] at *
          refine ⟨⟨⟨?_, ?_, ?_, ?_⟩, ?_, ?_, ?_⟩, ?_, ?_, ?_⟩ <;> first | exact hl | exact hr.1 | exact hr.2.1 | omega
    · simp only [Bt.dp, Bt.bal]
      exact ⟨⟨hl, hr, by omega, by omega⟩, by omega, by omega, fun _ _ => trivial⟩
theorem put_bal (k v : Bs) : ∀ {t : Bt}, t.bal → (Bt.put k v t).bal ∧ t.dp ≤ (Bt.put k v t).dp ∧ (Bt.put k v t).dp ≤ t.dp + 1
  | .lf, _ => by simp [Bt.put, Bt.bal, Bt.dp]
  | .nd l k' v' r, h => by
    unfold Bt.put
    simp only [Bt.bal] at h
    split
    · exact ⟨h, by simp [Bt.dp], by simp [Bt.dp]⟩
    · split
      · obtain ⟨a1, a2, a3⟩ := put_bal k v h.1
        obtain ⟨b1, b2, b3, b4⟩ := lev_bal (k := k') (v := v') a1 h.2.1 (by omega) (by omega)
        refine ⟨b1, ?_, ?_⟩
        · simp only [Bt.dp]
          by_cases c : (Bt.put k v l).dp ≤ r.dp + 1
          · rw [b4 c (by omega)]; omega
          · omega
        · simp only [Bt.dp]
          by_cases c : (Bt.put k v l).dp ≤ r.dp + 1
          · rw [b4 c (by omega)]; omega
          · omega
      · obtain ⟨a1, a2, a3⟩ := put_bal k v h.2.1
        obtain ⟨b1, b2, b3, b4⟩ := lev_bal (k := k') (v := v') h.1 a1 (by omega) (by omega)
        refine ⟨b1, ?_, ?_⟩
        · simp only [Bt.dp]
          by_cases c : (Bt.put k v r).dp ≤ l.dp + 1
          · rw [b4 (by omega) c]; omega
          · omega
        · simp only [Bt.dp]
          by_cases c : (Bt.put k v r).dp ≤ l.dp + 1
          · rw [b4 (by omega) c]; omega
          · omega
def insL (k v : Bs) : List Pr → List Pr
  | [] => [⟨k, v⟩]
  | p :: l => if k = p.key then ⟨k, v⟩ :: l else if ltB k p.key = true then ⟨k, v⟩ :: p :: l else p :: insL k v l
def SrtP (l : List Pr) : Prop := l.Pairwise fun a b => ltB a.key b.key = true
theorem srtP_two {a b : List Pr} {t : Pr} (h : SrtP (a ++ t :: b)) : SrtP a ∧ SrtP b ∧ (∀ k ∈ a, ltB k.key t.key = true) ∧ ∀ k ∈ b, ltB t.key k.key = true := by
  unfold SrtP at h ⊢
  rw [List.pairwise_append, List.pairwise_cons] at h
  exact ⟨h.1, h.2.1.2, fun k hk => h.2.2 k hk t (by simp), h.2.1.1⟩
theorem insL_lt {k v : Bs} {p : Pr} {b : List Pr} (h : ltB k p.key = true) : ∀ (a : List Pr), insL k v (a ++ p :: b) = insL k v a ++ p :: b
  | [] => by
    have : k ≠ p.key := fun e => by rw [e, ltB_irrefl] at h; cases h
    simp [insL, this, h]
  | q :: a => by
    simp only [List.cons_append, insL]
    split
    · rfl
    · split
      · rfl
      · rw [insL_lt h a]; rfl
theorem insL_gt {k v : Bs} {b : List Pr} : ∀ (a : List Pr), (∀ q ∈ a, ltB q.key k = true) → insL k v (a ++ b) = a ++ insL k v b
  | [], _ => rfl
  | q :: a, h => by
    have hq := h q (by simp)
    have h1 : k ≠ q.key := fun e => by rw [e, ltB_irrefl] at hq; cases hq
    have h2 : ¬ ltB k q.key = true := by rw [ltB_asymm hq]; decide
    simp only [List.cons_append, insL, h1, h2, if_false, Bool.false_eq_true]
    rw [insL_gt a fun q hq => h q (by simp [hq])]
theorem toL_put (k v : Bs) : ∀ {t : Bt}, SrtP t.toL → (Bt.put k v t).toL = insL k v t.toL
  | .lf, _ => rfl
  | .nd l k' v' r, h => by
    unfold Bt.put
    simp only [Bt.toL] at h ⊢
    obtain ⟨s1, s2, s3, s4⟩ := srtP_two h
    split
    · rename_i e
      subst e
      rw [insL_gt _ s3]
      simp [Bt.toL, insL]
    · rename_i e
      split
      · rename_i hl
        rw [toL_lev, toL_put k v s1, insL_lt hl]
      · rename_i hl
        have hg : ltB k' k = true := by
          cases hx : ltB k' k with
          | true => rfl
          | false => exact absurd (ltB_tri (by simpa using hl) hx) e
        rw [toL_lev, toL_put k v s2, insL_gt _ fun q hq => ltB_trans (s3 q hq) hg]
        simp [insL, e, hl]
theorem ins_srt {k v : Bs} : ∀ {l : List Pr}, SrtP l → SrtP (insL k v l)
  | [], _ => by simp [insL, SrtP]
  | p :: l, h => by
    unfold SrtP at h
    rw [List.pairwise_cons] at h
    unfold insL
    split
    · rename_i e
      unfold SrtP; rw [List.pairwise_cons]
      exact ⟨fun a ha => by rw [e]; exact h.1 a ha, h.2⟩
    · split
      · rename_i e hl
        unfold SrtP; rw [List.pairwise_cons, List.pairwise_cons]
        exact ⟨fun a ha => by
          rcases List.mem_cons.1 ha with rfl | ha
          · exact hl
          · exact ltB_trans hl (h.1 a ha), h.1, h.2⟩
      · rename_i e hl
        unfold SrtP; rw [List.pairwise_cons]
        refine ⟨fun a ha => ?_, ins_srt h.2⟩
        have hg : ltB p.key k = true := by
          cases hx : ltB p.key k with
          | true => rfl
          | false => exact absurd (ltB_tri (by simpa using hl) hx) e
        have mem : ∀ (l : List Pr), a ∈ insL k v l → a = ⟨k, v⟩ ∨ a ∈ l := by
          intro l
          induction l with
          | nil => simp [insL]
          | cons q l ih =>
            unfold insL
            split
            · intro m; rcases List.mem_cons.1 m with rfl | m
              · exact .inl rfl
              · exact .inr (by simp [m])
            · split
              · intro m; rcases List.mem_cons.1 m with rfl | m
                · exact .inl rfl
                · exact .inr m
              · intro m; rcases List.mem_cons.1 m with rfl | m
                · exact .inr (by simp)
                · rcases ih m with h | h
                  · exact .inl h
                  · exact .inr (by simp [h])
        rcases mem l ha with rfl | ha
        · exact hg
        · exact h.1 a ha
theorem ins_len (k v : Bs) : ∀ (l : List Pr), (insL k v l).length ≤ l.length + 1
  | [] => by simp [insL]
  | p :: l => by
    unfold insL
    split
    · simp
    · split
      · simp
      · have := ins_len k v l; simp; omega
theorem tre_kids {l r : Bt} {k v : Bs} : (Bt.nd l k v r).tre.kids = [l.tre, r.tre] := rfl
theorem tre_dp : ∀ t : Bt, dpF t.tre = t.dp
  | .lf => dp_leaf rfl
  | .nd l k v r => by rw [dp_two tre_kids, tre_dp l, tre_dp r]; rfl
theorem tre_nodes : ∀ t : Bt, (nodesF t.tre).map pairT = t.toL ∧ ∀ n ∈ nodesF t.tre, n.kind = 1
  | .lf => by rw [show (Bt.lf).tre = Tre.nil from rfl, nodes_nil rfl]; exact ⟨rfl, fun _ h => by simp at h⟩
  | .nd l k v r => by
    have a := tre_nodes l
    have b := tre_nodes r
    rw [nodes_two tre_kids]
    refine ⟨?_, fun n hn => ?_⟩
    · rw [List.map_append, List.map_cons, a.1, b.1]; rfl
    · rcases List.mem_append.1 hn with h | h
      · exact a.2 n h
      · rcases List.mem_cons.1 h with rfl | h
        · rfl
        · exact b.2 n h
theorem tre_len (t : Bt) : (nodesF t.tre).length = t.toL.length := by rw [← (tre_nodes t).1, List.length_map]
theorem tre_full : ∀ t : Bt, fullF t.tre = true
  | .lf => by rw [full_eq]; rfl
  | .nd l k v r => by
    rw [full_eq, tre_kids]
    simp only [List.all_cons, List.all_nil, tre_full l, tre_full r]
    rfl
theorem tre_formed : ∀ {t : Bt}, t.sml → formedF t.tre = true
  | .lf, _ => by rw [formedF_eq]; rfl
  | .nd l k v r, h => by
    simp only [Bt.sml] at h
    rw [formedF_eq, tre_kids]
    simp only [List.all_cons, List.all_nil, tre_formed h.1, tre_formed h.2.1, Bool.and_true]
    simp [formed1, Bt.tre, Tre.kind, Tre.key, Tre.value, Tre.digest, Tre.kids, h.2.2.1, h.2.2.2]
theorem tre_even : ∀ {t : Bt}, t.bal → evenF t.tre = true
  | .lf, _ => even_leaf rfl
  | .nd l k v r, h => by
    simp only [Bt.bal] at h
    rw [even_two tre_kids, tre_even h.1, tre_even h.2.1, tre_dp, tre_dp]
    simp [h.2.2.1, h.2.2.2]
theorem tre_ok : ∀ {t : Bt}, t.sml → t.tre.ok
  | .lf, _ => nil_ok
  | .nd l k v r, h => by
    simp only [Bt.sml] at h
    have a := tre_ok h.1; have b := tre_ok h.2.1
    simp only [Bt.tre, Tre.ok, okL, List.length_nil, List.length_cons]
    exact ⟨by omega, by omega, by omega, by omega, a, b, trivial⟩
theorem tre_deep : ∀ (t : Bt) (n : Int), (t.dp : Int) ≤ n → deepF t.tre n = false
  | .lf, n, _ => by rw [deepF_eq]; rfl
  | .nd l k v r, n, h => by
    simp only [Bt.dp] at h
    rw [deepF_eq, tre_kids]
    have h1 : ¬ n < 1 := by omega
    simp only [List.any_cons, List.any_nil, tre_deep l (n - 1) (by omega), tre_deep r (n - 1) (by omega), h1, decide_false, Bool.and_false, Bool.or_false]
theorem tre_check {t : Bt} (h : t.sml) (hd : t.dp ≤ 64) : checkF t.tre = 0 := by
  unfold checkF
  rw [tre_deep t 64 (by omega), tre_formed h]; rfl
theorem risK_of : ∀ {l : List Bs}, (l.Pairwise fun a b => ltB a b = true) → risK l = true
  | [], _ => rfl
  | [a], _ => rfl
  | a :: b :: l, h => by
    rw [List.pairwise_cons] at h
    unfold risK
    rw [h.1 b (by simp), risK_of h.2]; rfl
theorem tre_ris {t : Bt} (h : SrtP t.toL) : risN (nodesF t.tre) = true := by
  unfold risN
  refine risK_of ?_
  have : (nodesF t.tre).map Tre.key = t.toL.map Pr.key := by rw [← (tre_nodes t).1, List.map_map]; rfl
  rw [this, List.pairwise_map]
  exact h
theorem tre_is {t : Bt} (h : t.sml) (hb : t.bal) (hs : SrtP t.toL) (hd : t.dp ≤ 64) : isF t.tre = true := by
  unfold isF
  rw [tre_check h hd, tre_full, tre_ris hs, tre_even hb]; rfl
end Go.Pm
namespace Go.Pm
set_option linter.unusedVariables false
set_option linter.unusedSimpArgs false
def Bt.min : Bt → Bs → Bs → Bs × Bs
  | .lf, k, v => (k, v)
  | .nd l k v r, _, _ => l.min k v
/-- two trees in one, of which the one is all below the other; x: the right one without its least -/
def Bt.join (l r x : Bt) : Bt := match l with
  | .lf => r
  | .nd .. => match r with
    | .lf => l
    | .nd .. => Bt.lev l (r.min [] []).1 (r.min [] []).2 x
def Bt.del : Bt → Bs → Bt
  | .lf, _ => .lf
  | .nd l k' v' r, k =>
    if ltB k k' = true then Bt.lev (l.del k) k' v' r
    else if ltB k' k = true then Bt.lev l k' v' (r.del k)
    else Bt.join l r (r.del (r.min [] []).1)
def Bt.get (k : Bs) : Bt → Option Bs
  | .lf => none
  | .nd l k' v' r => if k = k' then some v' else if ltB k k' = true then l.get k else r.get k
theorem min_cons : ∀ (t : Bt) (k v : Bs), t.min k v = (match t.toL with | [] => (k, v) | p :: _ => (p.key, p.value))
  | .lf, k, v => rfl
  | .nd l k' v' r, k, v => by
    rw [Bt.min, min_cons l k' v', Bt.toL]
    cases l.toL with
    | nil => rfl
    | cons p x => rfl
theorem lt_ne {a b : Bs} (h : ltB a b = true) : a ≠ b := fun e => by rw [e, ltB_irrefl] at h; cases h
def delLc (k : Bs) (l : List Pr) : List Pr := l.filter fun p => !decide (p.key = k)
theorem delLc_none {k : Bs} {a : List Pr} (h : ∀ p ∈ a, p.key ≠ k) : delLc k a = a := by
  unfold delLc
  rw [List.filter_eq_self]
  intro p hp; simp [h p hp]
theorem delLc_app (k : Bs) (a b : List Pr) : delLc k (a ++ b) = delLc k a ++ delLc k b := by unfold delLc; rw [List.filter_append]
theorem delLc_self (k v : Bs) (b : List Pr) : delLc k (⟨k, v⟩ :: b) = delLc k b := by unfold delLc; rw [List.filter_cons]; simp
theorem delLc_ne {k k' v : Bs} (h : k' ≠ k) (b : List Pr) : delLc k (⟨k', v⟩ :: b) = ⟨k', v⟩ :: delLc k b := by unfold delLc; rw [List.filter_cons]; simp [h]
theorem toL_del : ∀ (t : Bt) (k : Bs), SrtP t.toL → (t.del k).toL = delLc k t.toL
  | .lf, k, _ => rfl
  | .nd l k' v' r, k, h => by
    simp only [Bt.toL] at h
    obtain ⟨s1, s2, s3, s4⟩ := srtP_two h
    rw [Bt.del]
    simp only [Bt.toL]
    rw [delLc_app]
    by_cases hl : ltB k k' = true
    · rw [if_pos hl, toL_lev, toL_del l k s1, delLc_ne (lt_ne hl).symm, delLc_none (a := r.toL) fun p hp => (lt_ne (ltB_trans hl (s4 p hp))).symm]
    · rw [if_neg hl]
      by_cases hg : ltB k' k = true
      · rw [if_pos hg, toL_lev, toL_del r k s2, delLc_ne (lt_ne hg), delLc_none (a := l.toL) fun p hp => lt_ne (ltB_trans (s3 p hp) hg)]
      · rw [if_neg hg]
        have e : k = k' := ltB_tri (by simpa using hl) (by simpa using hg)
        subst e
        rw [delLc_self, delLc_none (a := l.toL) fun p hp => lt_ne (s3 p hp), delLc_none (a := r.toL) fun p hp => (lt_ne (s4 p hp)).symm]
        cases l with
        | lf => rfl
        | nd a ka va b =>
          cases r with
          | lf => simp [Bt.toL, Bt.join]
          | nd c kc vc d =>
            simp only [Bt.join]
            have hm := min_cons (.nd c kc vc d) [] []
            generalize hR : (Bt.nd c kc vc d) = R at hm s2 s4 ⊢
            rw [toL_lev, toL_del R _ s2]
            cases hx : R.toL with
            | nil => subst hR; simp [Bt.toL] at hx
            | cons p x =>
              rw [hx] at hm s2
              rw [hm]
              simp only
              have : delLc p.key (p :: x) = x := by
                show delLc p.key (⟨p.key, p.value⟩ :: x) = x
                rw [delLc_self]
                refine delLc_none fun q hq => ?_
                unfold SrtP at s2
                rw [List.pairwise_cons] at s2
                exact (lt_ne (s2.1 q hq)).symm
              rw [this]
theorem del_srt {k : Bs} {l : List Pr} (h : SrtP l) : SrtP (delLc k l) := List.Pairwise.filter _ h
theorem sml_del : ∀ {t : Bt} (k : Bs), t.sml → (t.del k).sml
  | .lf, k, _ => trivial
  | .nd l k' v' r, k, h => by
    simp only [Bt.sml] at h
    rw [Bt.del]
    split
    · exact sml_lev (sml_del k h.1) h.2.1 h.2.2.1 h.2.2.2
    · split
      · exact sml_lev h.1 (sml_del k h.2.1) h.2.2.1 h.2.2.2
      · unfold Bt.join
        split
        · exact h.2.1
        split
        · exact h.1
        · have mm : ∀ (t : Bt) (k v : Bs), t.sml → k.length ≤ 80 → v.length ≤ 1024 → (t.min k v).1.length ≤ 80 ∧ (t.min k v).2.length ≤ 1024 := by
            intro t
            induction t with
            | lf => intro k v _ a b; exact ⟨a, b⟩
            | nd l k' v' r ihl ihr => intro k v hs _ _; simp only [Bt.sml] at hs; exact ihl k' v' hs.1 hs.2.2.1 hs.2.2.2
          have m := mm _ [] [] h.2.1 (by simp) (by simp)
          exact sml_lev h.1 (sml_del _ h.2.1) m.1 m.2
theorem del_bal : ∀ {t : Bt} (k : Bs), t.bal → (t.del k).bal ∧ (t.del k).dp ≤ t.dp ∧ t.dp ≤ (t.del k).dp + 1
  | .lf, k, _ => ⟨trivial, Nat.le_refl _, Nat.le_succ _⟩
  | .nd l k' v' r, k, h => by
    simp only [Bt.bal] at h
    rw [Bt.del]
    simp only [Bt.dp]
    split
    · obtain ⟨a1, a2, a3⟩ := del_bal (t := l) k h.1
      obtain ⟨b1, b2, b3, b4⟩ := lev_bal (k := k') (v := v') a1 h.2.1 (by omega) (by omega)
      refine ⟨b1, ?_, ?_⟩
      · by_cases c : r.dp ≤ (l.del k).dp + 1
        · rw [b4 (by omega) c]; omega
        · omega
      · by_cases c : r.dp ≤ (l.del k).dp + 1
        · rw [b4 (by omega) c]; omega
        · omega
    · split
      · obtain ⟨a1, a2, a3⟩ := del_bal (t := r) k h.2.1
        obtain ⟨b1, b2, b3, b4⟩ := lev_bal (k := k') (v := v') h.1 a1 (by omega) (by omega)
        refine ⟨b1, ?_, ?_⟩
        · by_cases c : l.dp ≤ (r.del k).dp + 1
          · rw [b4 c (by omega)]; omega
          · omega
        · by_cases c : l.dp ≤ (r.del k).dp + 1
          · rw [b4 c (by omega)]; omega
          · omega
      · obtain ⟨a1, a2, a3⟩ := del_bal (t := r) (r.min [] []).1 h.2.1
        obtain ⟨b1, b2, b3, b4⟩ := lev_bal (k := (r.min [] []).1) (v := (r.min [] []).2) h.1 a1 (by omega) (by omega)
        have key : (Bt.lev l (r.min [] []).1 (r.min [] []).2 (r.del (r.min [] []).1)).bal ∧ (Bt.lev l (r.min [] []).1 (r.min [] []).2 (r.del (r.min [] []).1)).dp ≤ max l.dp r.dp + 1 ∧ max l.dp r.dp + 1 ≤ (Bt.lev l (r.min [] []).1 (r.min [] []).2 (r.del (r.min [] []).1)).dp + 1 := by
          refine ⟨b1, ?_, ?_⟩
          · by_cases c : l.dp ≤ (r.del (r.min [] []).1).dp + 1
            · rw [b4 c (by omega)]; omega
            · omega
          · by_cases c : l.dp ≤ (r.del (r.min [] []).1).dp + 1
            · rw [b4 c (by omega)]; omega
            · omega
        cases l with
        | lf => simp only [Bt.join, Bt.dp] at h ⊢; exact ⟨h.2.1, by omega, by omega⟩
        | nd a ka va b =>
          cases r with
          | lf => simp only [Bt.join, Bt.dp] at h ⊢; exact ⟨h.1, by omega, by omega⟩
          | nd c kc vc d => exact key
/-- a balanced tree isn't deep -/
theorem bal_deep : ∀ {t : Bt}, t.bal → 2 ^ (t.dp / 2) ≤ t.toL.length + 1
  | .lf, _ => by simp [Bt.dp, Bt.toL]
  | .nd l k v r, h => by
    simp only [Bt.bal] at h
    have a := bal_deep h.1
    have b := bal_deep h.2.1
    simp only [Bt.dp, Bt.toL, List.length_append, List.length_cons]
    have m : ∀ x y : Nat, x ≤ y → 2 ^ x ≤ 2 ^ y := fun x y h => Nat.pow_le_pow_right (by decide) h
    by_cases c : max l.dp r.dp = 0
    · rw [c]; simp
    · have e : (max l.dp r.dp + 1) / 2 = (max l.dp r.dp - 1) / 2 + 1 := by omega
      rw [e, Nat.pow_succ]
      have h1 := m ((max l.dp r.dp - 1) / 2) (l.dp / 2) (by omega)
      have h2 := m ((max l.dp r.dp - 1) / 2) (r.dp / 2) (by omega)
      omega
theorem bal_dp {t : Bt} (h : t.bal) (hn : t.toL.length < 2 ^ 20) : t.dp ≤ 41 := by
  have a := bal_deep h
  by_cases c : t.dp ≤ 41
  · exact c
  · exfalso
    have : 2 ^ 21 ≤ 2 ^ (t.dp / 2) := Nat.pow_le_pow_right (by decide) (by omega)
    omega
/-- a tree that may be asked -/
structure Good (t : Bt) : Prop where
  sml : t.sml
  bal : t.bal
  srt : SrtP t.toL
  dp : t.dp ≤ 64
theorem Good.is {t : Bt} (h : Good t) : isF t.tre = true := tre_is h.sml h.bal h.srt h.dp
end Go.Pm
namespace Go.Pm
open Go.Proofs
set_option linter.unusedVariables false
set_option linter.unusedSimpArgs false
theorem sto_t2 {β : Type} {H : List AObj} {b : Nat} {s t : Tre} {K : List AObj → List Nat → Option β} (h : H[b]? = some (.row 5 [s.av])) : stoK 5 (.ptr b 1 0 0) t.av H K = K (H.set b (.row 5 [t.av])) [] := by
  rw [av_eq s] at h; exact sto_t h rfl
abbrev ndT (l : Tre) (k v : Bs) (r : Tre) : Tre := .mk 1 k v [] [l, r]
theorem ix_l (l r : Tre) (H : List AObj) : ixA 5 (kidsA [l, r]) (.int .i64 0) H = some (.ip l.av.cells) := ixA_kids (i := 0) rfl
theorem ix_r (l r : Tre) (H : List AObj) : ixA 5 (kidsA [l, r]) (.int .i64 1) H = some (.ip r.av.cells) := ixA_kids (i := 1) rfl
theorem nodeD (l r : Tre) (k v : Bs) (H : List AObj) : callD (EV C) n_ref05_Node [l.av, bys k, bys v, r.av] H = some (ndT l k v r).av := callD_ok (by simp [goodL]) (rNode5_ok l r k v)
theorem rRight_ok (a b c : Tre) (k v k2 v2 : Bs) : EV C n_ref05_right [(ndT (ndT a k v b) k2 v2 c).av] [] = some ((ndT a k v (ndT b k2 v2 c)).av, [], []) := by
  refine ref05_right_of ?_
  simp -implicitDefEqProofs only [new_z, Tre.kids, Tre.key, Tre.value, ix_l, ix_r, ZS, ZT, Nat.reduceAdd]
  rw [sto_t (b := 2) rfl rfl]
  simp -implicitDefEqProofs only [Tre.kids, Tre.key, Tre.value, ix_l, ix_r, nodeD, ZS, ZT, Nat.reduceAdd]
  rw [sto_t (b := 1) rfl rfl]
  simp -implicitDefEqProofs only [ZS, ZT, Nat.reduceAdd]
  exact endB_good (good_tr _)
theorem rLeft_ok (a b c : Tre) (k v k2 v2 : Bs) : EV C n_ref05_left [(ndT a k v (ndT b k2 v2 c)).av] [] = some ((ndT (ndT a k v b) k2 v2 c).av, [], []) := by
  refine ref05_left_of ?_
  simp -implicitDefEqProofs only [new_z, Tre.kids, Tre.key, Tre.value, ix_l, ix_r, ZS, ZT, Nat.reduceAdd]
  rw [sto_t (b := 2) rfl rfl]
  simp -implicitDefEqProofs only [Tre.kids, Tre.key, Tre.value, ix_l, ix_r, nodeD, ZS, ZT, Nat.reduceAdd]
  rw [sto_t (b := 1) rfl rfl]
  simp -implicitDefEqProofs only [ZS, ZT, Nat.reduceAdd]
  exact endB_good (good_tr _)
theorem bdepthD {t : Bt} (h : t.sml) (hd : t.dp ≤ 2^40) (H : List AObj) : callD (EV C) n_ref04_Depth [t.tre.av] H = some (.int .i64 (t.dp : Int)) :=
  callD_ok (by simp [goodL]) (by rw [← tre_dp]; exact rDepth_ok t.tre (tre_ok h) (tre_formed h) (by rw [tre_dp]; exact hd))
theorem bt_nd (l : Bt) (k v : Bs) (r : Bt) : (Bt.nd l k v r).tre = ndT l.tre k v r.tre := rfl
theorem rTilt_ok {l r : Bt} (k v : Bs) (hl : l.sml) (hr : r.sml) (h1 : l.dp ≤ 2^40) (h2 : r.dp ≤ 2^40) : EV C n_ref05_tilt [(Bt.nd l k v r).tre.av] [] = some (.int .i64 ((l.dp : Int) - r.dp), [], []) := by
  refine ref05_tilt_of ?_
  have e : IntKind.i64.wrap ((l.dp : Int) - (r.dp : Int)) = (l.dp : Int) - (r.dp : Int) := by rw [wrap64] <;> omega
  simp -implicitDefEqProofs only [bt_nd, Tre.kids, ix_l, ix_r, bdepthD hl h1, bdepthD hr h2, sub_int, e, ZS, ZT, Nat.reduceAdd]
  exact endB_good rfl
theorem tiltK {t : Bt} (hs : t.sml) (h : ∃ l k v r, t = .nd l k v r) (hd : t.dp ≤ 2^40) {β : Type} (H : List AObj) (K : AV → List AObj → List Nat → Option β) : callK (EV C) false n_ref05_tilt [t.tre.av] H K = K (.int .i64 t.tlt) H [] := by
  obtain ⟨l, k, v, r, rfl⟩ := h
  simp only [Bt.sml] at hs
  simp only [Bt.dp] at hd
  exact callK_ok (by simp) (rTilt_ok k v hs.1 hs.2.1 (by omega) (by omega))
theorem rLevel_ok {l r : Bt} (k v : Bs) (hl : l.sml) (hr : r.sml) (hk : k.length ≤ 80) (hv : v.length ≤ 1024) (bl : l.bal) (br : r.bal) (h1 : l.dp ≤ 2^30) (h2 : r.dp ≤ 2^30) :
    EV C n_ref05_level [(Bt.nd l k v r).tre.av] [] = some ((Bt.lev l k v r).tre.av, [], []) := by
  refine ref05_level_of ?_
  simp -implicitDefEqProofs only [new_z, ZS, ZT, Nat.reduceAdd]
  rw [tiltK (show (Bt.nd l k v r).sml from ⟨hl, hr, hk, hv⟩) ⟨_, _, _, _, rfl⟩ (by simp only [Bt.dp]; omega)]
  simp -implicitDefEqProofs only [Bt.tlt, bt_nd, ZS, ZT, Nat.reduceAdd]
  by_cases c : l.dp = r.dp + 2
  · have c' : (l.dp : Int) - (r.dp : Int) = 2 := by omega
    rw [if_pos c']
    cases l with
    | lf => simp [Bt.dp] at c
    | nd a ka va b =>
      simp only [Bt.dp] at h1 c
      simp -implicitDefEqProofs only [Tre.kids, ix_l, ix_r, ZS, ZT, Nat.reduceAdd]
      rw [← bt_nd, tiltK hl ⟨_, _, _, _, rfl⟩ (by simp only [Bt.dp]; omega)]
      simp -implicitDefEqProofs only [Bt.tlt, bt_nd, ZS, ZT, Nat.reduceAdd]
      by_cases d : (Bt.nd a ka va b).tlt < 0
      · have d' : (a.dp : Int) - (b.dp : Int) < 0 := d
        rw [if_pos d']
        cases b with
        | lf => simp [Bt.dp] at d'; omega
        | nd b1 kb vb b2 =>
          have el : Bt.lev (Bt.nd a ka va (Bt.nd b1 kb vb b2)) k v r = Bt.nd (Bt.nd a ka va b1) kb vb (Bt.nd b2 k v r) := by unfold Bt.lev; rw [if_pos (by simpa only [Bt.dp] using c), if_pos d]; rfl
          rw [el]
          have lf : ∀ H, callD (EV C) n_ref05_left [(ndT a.tre ka va (ndT b1.tre kb vb b2.tre)).av] H = some (ndT (ndT a.tre ka va b1.tre) kb vb b2.tre).av := fun H => callD_ok (by simp [goodL]) (rLeft_ok _ _ _ _ _ _ _)
          simp -implicitDefEqProofs only [bt_nd, Tre.kids, Tre.key, Tre.value, ix_l, ix_r, lf, nodeD, ZS, ZT, Nat.reduceAdd]
          rw [sto_t2 (b := 0) rfl]
          simp -implicitDefEqProofs only [ZS, ZT, Nat.reduceAdd]
          rw [callK_ok (by simp) (rRight_ok _ _ _ _ _ _ _), sto_t (b := 1) rfl rfl]
          simp -implicitDefEqProofs only [ZS, ZT, Nat.reduceAdd]
          exact endB_good (good_tr _)
      · have d' : ¬ (a.dp : Int) - (b.dp : Int) < 0 := d
        have el : Bt.lev (Bt.nd a ka va b) k v r = Bt.nd a ka va (Bt.nd b k v r) := by unfold Bt.lev; rw [if_pos (by simpa only [Bt.dp] using c), if_neg d]; rfl
        rw [if_neg d', el]
        rw [callK_ok (by simp) (rRight_ok _ _ _ _ _ _ _), sto_t (b := 1) rfl rfl]
        simp -implicitDefEqProofs only [ZS, ZT, Nat.reduceAdd]
        exact endB_good (good_tr _)
  · have c' : ¬ (l.dp : Int) - (r.dp : Int) = 2 := by omega
    rw [if_neg c']
    by_cases e : r.dp = l.dp + 2
    · have e' : (l.dp : Int) - (r.dp : Int) = -2 := by omega
      simp -implicitDefEqProofs only [e', ZS, ZT, Nat.reduceAdd]
      cases r with
      | lf => simp [Bt.dp] at e
      | nd a ka va b =>
        simp only [Bt.dp] at h2 e
        simp -implicitDefEqProofs only [bt_nd, Tre.kids, ix_l, ix_r, ZS, ZT, Nat.reduceAdd]
        rw [← bt_nd, tiltK hr ⟨_, _, _, _, rfl⟩ (by simp only [Bt.dp]; omega)]
        simp -implicitDefEqProofs only [Bt.tlt, bt_nd, ZS, ZT, Nat.reduceAdd]
        by_cases d : 0 < (Bt.nd a ka va b).tlt
        · have d' : 0 < (a.dp : Int) - (b.dp : Int) := d
          rw [if_pos d']
          cases a with
          | lf => simp [Bt.dp] at d'; omega
          | nd b1 kb vb b2 =>
            have el : Bt.lev l k v (Bt.nd (Bt.nd b1 kb vb b2) ka va b) = Bt.nd (Bt.nd l k v b1) kb vb (Bt.nd b2 ka va b) := by unfold Bt.lev; rw [if_neg c, if_pos (by simpa only [Bt.dp] using e), if_pos d]; rfl
            rw [el]
            have lf : ∀ H, callD (EV C) n_ref05_right [(ndT (ndT b1.tre kb vb b2.tre) ka va b.tre).av] H = some (ndT b1.tre kb vb (ndT b2.tre ka va b.tre)).av := fun H => callD_ok (by simp [goodL]) (rRight_ok _ _ _ _ _ _ _)
            simp -implicitDefEqProofs only [bt_nd, Tre.kids, Tre.key, Tre.value, ix_l, ix_r, lf, nodeD, ZS, ZT, Nat.reduceAdd]
            rw [sto_t2 (b := 0) rfl]
            simp -implicitDefEqProofs only [ZS, ZT, Nat.reduceAdd]
            rw [callK_ok (by simp) (rLeft_ok _ _ _ _ _ _ _), sto_t (b := 1) rfl rfl]
            simp -implicitDefEqProofs only [ZS, ZT, Nat.reduceAdd]
            exact endB_good (good_tr _)
        · have d' : ¬ 0 < (a.dp : Int) - (b.dp : Int) := d
          have el : Bt.lev l k v (Bt.nd a ka va b) = Bt.nd (Bt.nd l k v a) ka va b := by unfold Bt.lev; rw [if_neg c, if_pos (by simpa only [Bt.dp] using e), if_neg d]; rfl
          rw [if_neg d', el]
          rw [callK_ok (by simp) (rLeft_ok _ _ _ _ _ _ _), sto_t (b := 1) rfl rfl]
          simp -implicitDefEqProofs only [ZS, ZT, Nat.reduceAdd]
          exact endB_good (good_tr _)
    · have e' : ¬ (l.dp : Int) - (r.dp : Int) = -2 := by omega
      have el : Bt.lev l k v r = Bt.nd l k v r := by unfold Bt.lev; rw [if_neg c, if_neg e]
      rw [if_neg e', el, sto_t (b := 1) rfl rfl]
      simp -implicitDefEqProofs only [ZS, ZT, Nat.reduceAdd]
      exact endB_good (good_tr _)
theorem rPut_ok (k v : Bs) (hk : k.length ≤ 80) (hv : v.length ≤ 1024) : ∀ (t : Bt), t.sml → t.bal → t.dp ≤ 2^20 → EV C n_ref05_Put [t.tre.av, bys k, bys v] [] = some ((Bt.put k v t).tre.av, [], [])
  | .lf, _, _, _ => Put1_ok k v
  | .nd l k' v' r, hs, hb, hd => by
    simp only [Bt.sml] at hs
    simp only [Bt.bal] at hb
    simp only [Bt.dp] at hd
    have hl : ∀ H, callD (EV C) n_ref05_Put [l.tre.av, bys k, bys v] H = some (Bt.put k v l).tre.av := fun H => callD_ok (by simp [goodL]) (rPut_ok k v hk hv l hs.1 hb.1 (by omega))
    have hr : ∀ H, callD (EV C) n_ref05_Put [r.tre.av, bys k, bys v] H = some (Bt.put k v r).tre.av := fun H => callD_ok (by simp [goodL]) (rPut_ok k v hk hv r hs.2.1 hb.2.1 (by omega))
    have pl := put_bal k v hb.1
    have pr := put_bal k v hb.2.1
    have ll : ∀ H, callD (EV C) n_ref05_level [(ndT (Bt.put k v l).tre k' v' r.tre).av] H = some (Bt.lev (Bt.put k v l) k' v' r).tre.av := fun H => callD_ok (by simp [goodL]) (rLevel_ok k' v' (sml_put hk hv hs.1) hs.2.1 hs.2.2.1 hs.2.2.2 pl.1 hb.2.1 (by omega) (by omega))
    have lr : ∀ H, callD (EV C) n_ref05_level [(ndT l.tre k' v' (Bt.put k v r).tre).av] H = some (Bt.lev l k' v' (Bt.put k v r)).tre.av := fun H => callD_ok (by simp [goodL]) (rLevel_ok k' v' hs.1 (sml_put hk hv hs.2.1) hs.2.2.1 hs.2.2.2 hb.1 pr.1 (by omega) (by omega))
    have e0 : ¬ ((([l.tre, r.tre] : List Tre).length : Nat) : Int) = 0 := by simp
    refine ref05_Put_of ?_
    simp -implicitDefEqProofs only [new_z, bt_nd, Tre.kids, Tre.key, Tre.value, ZS, ZT, Nat.reduceAdd]
    rw [if_neg (by omega)]
    unfold Bt.put
    by_cases c : k = k'
    · simp -implicitDefEqProofs only [c, Tre.kids, ix_l, ix_r, nodeD, ZS, ZT, Nat.reduceAdd]
      rw [sto_t (b := 1) rfl rfl]
      simp -implicitDefEqProofs only [ZS, ZT, Nat.reduceAdd]
      exact endB_good (good_tr _)
    · rw [if_neg c, if_neg c]
      simp -implicitDefEqProofs only [Tre.kids, Tre.key, Tre.value, lss_str, ZS, ZT, Nat.reduceAdd]
      cases hc : ltB k k' with
      | true =>
        simp -implicitDefEqProofs only [Tre.kids, Tre.key, Tre.value, ix_l, ix_r, hl, nodeD, ll, ZS, ZT, Nat.reduceAdd]
        rw [sto_t (b := 1) rfl rfl]
        simp -implicitDefEqProofs only [ZS, ZT, Nat.reduceAdd]
        exact endB_good (good_tr _)
      | false =>
        simp -implicitDefEqProofs only [Bool.false_eq_true, Tre.kids, Tre.key, Tre.value, ix_l, ix_r, hr, nodeD, lr, ZS, ZT, Nat.reduceAdd]
        rw [sto_t (b := 1) rfl rfl]
        simp -implicitDefEqProofs only [ZS, ZT, Nat.reduceAdd]
        exact endB_good (good_tr _)
end Go.Pm
namespace Go.Pm
open Go.Proofs
set_option linter.unusedVariables false
set_option linter.unusedSimpArgs false
def stepG (t : Bt) (p : Pr) : Bt := if p.key.length ≤ 80 ∧ p.value.length ≤ 1024 then Bt.put p.key p.value t else t
def grownF (l : List Pr) : Bt := (l.take 60).foldl stepG .lf
structure BInv (t : Bt) (n : Nat) : Prop where
  sml : t.sml
  bal : t.bal
  srt : SrtP t.toL
  len : t.toL.length ≤ n
theorem bt_dp_len : ∀ t : Bt, t.dp ≤ t.toL.length
  | .lf => Nat.le_refl _
  | .nd l k v r => by
    have a := bt_dp_len l; have b := bt_dp_len r
    simp only [Bt.dp, Bt.toL, List.length_append, List.length_cons]; omega
theorem BInv.dp {t : Bt} {n : Nat} (h : BInv t n) : t.dp ≤ n := Nat.le_trans (bt_dp_len t) h.len
theorem BInv.mono {t : Bt} {n m : Nat} (h : BInv t n) (hm : n ≤ m) : BInv t m := ⟨h.sml, h.bal, h.srt, Nat.le_trans h.len hm⟩
theorem BInv.step {t : Bt} {n : Nat} (h : BInv t n) (p : Pr) : BInv (stepG t p) (n + 1) := by
  unfold stepG
  split
  · rename_i hp
    refine ⟨sml_put hp.1 hp.2 h.sml, (put_bal _ _ h.bal).1, ?_, ?_⟩
    · rw [toL_put _ _ h.srt]; exact ins_srt h.srt
    · rw [toL_put _ _ h.srt]; have := ins_len p.key p.value t.toL; have := h.len; omega
  · exact h.mono (by omega)
theorem binv_lf : BInv .lf 0 := ⟨trivial, trivial, List.Pairwise.nil, Nat.le_refl _⟩
theorem binv_fold (l : List Pr) : ∀ {t : Bt} {n : Nat}, BInv t n → BInv (l.foldl stepG t) (n + l.length) := by
  induction l with
  | nil => intro t n h; exact h
  | cons p l ih => intro t n h; rw [List.foldl_cons]; exact (ih (h.step p)).mono (by simp; omega)
theorem binv_grown (l : List Pr) : BInv (grownF l) 60 := by
  have := binv_fold (l.take 60) binv_lf
  exact this.mono (by simp; omega)
theorem BInv.is {t : Bt} {n : Nat} (h : BInv t n) (hn : n ≤ 64) : isF t.tre = true := tre_is h.sml h.bal h.srt (Nat.le_trans h.dp hn)
/-- how a tree stands in a variable: as it is, or the empty one as it begins -/
def isT (x : AV) (t : Tre) : Prop := x = t.av ∨ (x = zTre ∧ t = Tre.nil)
theorem isT_frz {x : AV} {t : Tre} (h : isT x t) (H : List AObj) : frz H x = some t.av := by
  rcases h with rfl | ⟨rfl, rfl⟩
  · exact frz_good _ _ (good_tr t)
  · exact frz_nil0 H
theorem isT_kill {x : AV} {t : Tre} (h : isT x t) : kills x = [] := by
  rcases h with rfl | ⟨rfl, rfl⟩
  · exact kills_good _ (good_tr t)
  · rfl
theorem isT_ld {x : AV} {t : Tre} (h : isT x t) {b : Nat} {H : List AObj} (hb : H[b]? = some (.row 5 [x])) : loadA true 5 (.ptr b 1 0 0) H = some x := by
  rcases h with rfl | ⟨rfl, rfl⟩
  · exact ld_box hb
  · exact ld_agg hb rfl
theorem isT_agg {x : AV} {t : Tre} (h : isT x t) : ∃ cs, x = .agg cs ∧ cs.length = 5 := by
  rcases h with rfl | ⟨rfl, rfl⟩
  · exact ⟨_, av_eq t, rfl⟩
  · exact ⟨_, rfl, rfl⟩
theorem isT_sto {β : Type} {x : AV} {t : Tre} (h : isT x t) {H : List AObj} {b : Nat} {cs : List AV} {K : List AObj → List Nat → Option β} (hb : H[b]? = some (.row 5 [.agg cs])) (hc : cs.length = 5) : stoK 5 (.ptr b 1 0 0) x H K = K (H.set b (.row 5 [x])) [] := by
  rcases h with rfl | ⟨rfl, rfl⟩
  · exact sto_t hb hc
  · exact sto_zt hb hc rfl rfl rfl
theorem grown_J3 (l : List Pr) (hl : l.length ≤ 2^50) : ∀ (m i : Nat) (t : Bt) (x : AV) (E : List Nat), i + m = 60 → isT x t.tre → BInv t i →
    ref05_Grown_J3 0 (prsA l) (.ptr 0 1 0 0) (.ptr 1 1 0 0) (.int .i64 (i : Int)) [.row 5 [zTre], .row 5 [x]] E = some ((((l.take 60).drop i).foldl stepG t).tre.av, [], []) := by
  have fin : ∀ (t : Bt) (x : AV) (E : List Nat), isT x t.tre → ((loadA true 5 (.ptr 1 1 0 0) [.row 5 [zTre], .row 5 [x]]).bind fun a26 =>
      stoK 5 (.ptr 0 1 0 0) a26 [.row 5 [zTre], .row 5 [x]] fun H27 E27 =>
      (loadA true 5 (.ptr 0 1 0 0) H27).bind fun a28 =>
      endB false false 0 a28 H27 (E27 ++ E)) = some (t.tre.av, [], []) := fun t x E hx => by
    rw [isT_ld hx (b := 1) rfl, Option.bind_some, isT_sto hx (b := 0) rfl rfl]
    simp only [List.set_cons_zero]
    rw [isT_ld hx (b := 0) rfl, Option.bind_some]
    exact endB_frz (isT_frz hx _) (good_tr _)
  intro m
  induction m with
  | zero =>
    intro i t x E hi hx hv
    refine ref05_Grown_J3_of ?_
    have e2 : (l.take 60).drop i = [] := List.drop_eq_nil_of_le (by simp; omega)
    rw [e2]
    have e60 : ¬ ((i : Int) < 60) := by omega
    simp -implicitDefEqProofs only [lenV_prs, e60, ZS, ZT, Nat.reduceAdd]
    have := fin t x E hx
    split
    · exact this
    · exact this
  | succ m ih =>
    intro i t x E hi hx hv
    refine ref05_Grown_J3_of ?_
    have e60 : ((i : Int) < 60) := by omega
    by_cases hlt : i < l.length
    · have e1 : ((i : Int) < (l.length : Int)) := by omega
      have e2 : (l.take 60).drop i = l[i] :: (l.take 60).drop (i + 1) := by
        have hh : i < (l.take 60).length := by simp; omega
        rw [List.drop_eq_getElem_cons hh, List.getElem_take]
      have e3 : IntKind.i64.wrap ((i : Int) + 1) = ((i + 1 : Nat) : Int) := w64 (by omega) (by omega)
      rw [e2, List.foldl_cons]
      simp -implicitDefEqProofs only [lenV_prs, e1, e60, ixA_prs (List.getElem?_eq_getElem hlt), add_int, e3, ZS, ZT, Nat.reduceAdd]
      have skip : ¬ (l[i].key.length ≤ 80 ∧ l[i].value.length ≤ 1024) → ∀ E, ref05_Grown_J3 0 (prsA l) (.ptr 0 1 0 0) (.ptr 1 1 0 0) (.int .i64 ((i + 1 : Nat) : Int)) [.row 5 [zTre], .row 5 [x]] E = some ((((l.take 60).drop (i + 1)).foldl stepG (stepG t l[i])).tre.av, [], []) := fun h E => by
        have : stepG t l[i] = t := by unfold stepG; rw [if_neg h]
        rw [this]; exact ih (i + 1) t x E (by omega) hx (hv.mono (by omega))
      by_cases h1 : l[i].key.length ≤ 80
      · have h1' : ((l[i].key.length : Int) ≤ 80) := by omega
        rw [if_pos h1']
        by_cases h2 : l[i].value.length ≤ 1024
        · have h2' : ((l[i].value.length : Int) ≤ 1024) := by omega
          rw [if_pos h2', isT_ld hx (b := 1) rfl, Option.bind_some]
          have hd := hv.dp
          have P : callD (EV C) n_ref05_Put [x, bys l[i].key, bys l[i].value] [.row 5 [zTre], .row 5 [x]] = some (Bt.put l[i].key l[i].value t).tre.av :=
            callD_nil (bs := [t.tre.av, bys l[i].key, bys l[i].value]) (by simp [killsL, isT_kill hx, kills_good _ (good_bys _)]) (frzL_cons (isT_frz hx _) (frzL_cons (frz_good _ _ (good_bys _)) (frzL_cons (frz_good _ _ (good_bys _)) rfl))) (by simp [goodL]) (rPut_ok _ _ h1 h2 t hv.sml hv.bal (by omega))
          obtain ⟨cs, hcs, hlen⟩ := isT_agg hx
          rw [P, Option.bind_some, sto_t (b := 1) (cs := cs) (by rw [hcs]; rfl) hlen]
          simp -implicitDefEqProofs only [add_int, e3, ZS, ZT, Nat.reduceAdd]
          have es : stepG t l[i] = Bt.put l[i].key l[i].value t := by unfold stepG; rw [if_pos ⟨h1, h2⟩]
          have := ih (i + 1) (Bt.put l[i].key l[i].value t) (Bt.put l[i].key l[i].value t).tre.av (([] ++ []) ++ E) (by omega) (.inl rfl) (by rw [← es]; exact hv.step _)
          rw [es]
          exact this
        · have h2' : ¬ ((l[i].value.length : Int) ≤ 1024) := by omega
          rw [if_neg h2']
          exact skip (fun h => h2 h.2) E
      · have h1' : ¬ ((l[i].key.length : Int) ≤ 80) := by omega
        rw [if_neg h1']
        exact skip (fun h => h1 h.1) E
    · have e1 : ¬ ((i : Int) < (l.length : Int)) := by omega
      have e2 : (l.take 60).drop i = [] := List.drop_eq_nil_of_le (by simp; omega)
      rw [e2]
      simp -implicitDefEqProofs only [lenV_prs, e1, ZS, ZT, Nat.reduceAdd]
      exact fin t x E hx
theorem Grown_ok (l : List Pr) (hl : l.length ≤ 2^50) : EV C n_ref05_Grown [prsA l] [] = some ((grownF l).tre.av, [], []) := by
  refine ref05_Grown_of ?_
  simp -implicitDefEqProofs only [new_z, ZS, ZT, Nat.reduceAdd]
  rw [fill_nil, sto_zt (b := 1) rfl rfl rfl rfl rfl]
  exact grown_J3 l hl 60 0 .lf zTre _ (by omega) (.inr ⟨rfl, rfl⟩) binv_lf
end Go.Pm
namespace Go.Pm
set_option linter.unusedVariables false
set_option linter.unusedSimpArgs false
structure Cmd where
  client : Nat
  seq : Nat
  op : Int
  key : Bs
  value : Bs
def Cmd.zero : Cmd := ⟨0, 0, 0, [], []⟩
def Cmd.may (c : Cmd) : Bool := decide (c.key.length ≤ 64) && (decide (c.value.length ≤ 1024) && (decide (c.op = 1) || (decide (c.op = 2) && decide (c.value = []))))
def Cmd.w64 (c : Cmd) : Prop := c.client < 2 ^ 64 ∧ c.seq < 2 ^ 64
def cmdB (c : Cmd) : Bs := numF c.client ++ (numF c.seq ++ (UInt8.ofNat c.op.toNat :: (bytesB c.key ++ bytesB c.value)))
def rdC (b : Bs) : Option (Cmd × Bs) := match rdN b with
  | none => none
  | some (cl, b) => match rdN b with
    | none => none
    | some (sq, b) => match rdB b with
      | none => none
      | some (o, b) => match rdS 64 b with
        | none => none
        | some (k, b) => match rdS 1024 b with
          | none => none
          | some (v, b) => some (⟨cl, sq, o.toNat, k, v⟩, b)
def readF (b : Bs) : Int × Cmd := match rdC b with
  | none => (3, Cmd.zero)
  | some (c, r) => if c.may = true then (if r = [] then (0, c) else (4, Cmd.zero)) else (3, Cmd.zero)
theorem may_parts {c : Cmd} (h : c.may = true) : c.key.length ≤ 64 ∧ c.value.length ≤ 1024 ∧ (c.op = 1 ∨ (c.op = 2 ∧ c.value = [])) := by
  unfold Cmd.may at h
  simpa using h
theorem rdC_w64 {b : Bs} {c : Cmd} {r : Bs} (h : rdC b = some (c, r)) : c.w64 ∧ 0 ≤ c.op ∧ c.op < 256 := by
  unfold rdC at h
  cases h1 : rdN b with
  | none => rw [h1] at h; cases h
  | some p1 =>
    obtain ⟨cl, b1⟩ := p1
    rw [h1] at h; simp only at h
    cases h2 : rdN b1 with
    | none => rw [h2] at h; cases h
    | some p2 =>
      obtain ⟨sq, b2⟩ := p2
      rw [h2] at h; simp only at h
      cases h3 : rdB b2 with
      | none => rw [h3] at h; cases h
      | some p3 =>
        obtain ⟨o, b3⟩ := p3
        rw [h3] at h; simp only at h
        cases h4 : rdS 64 b3 with
        | none => rw [h4] at h; cases h
        | some p4 =>
          obtain ⟨k, b4⟩ := p4
          rw [h4] at h; simp only at h
          cases h5 : rdS 1024 b4 with
          | none => rw [h5] at h; cases h
          | some p5 =>
            obtain ⟨v, b5⟩ := p5
            rw [h5] at h; simp only [Option.some.injEq, Prod.mk.injEq] at h
            obtain ⟨rfl, rfl⟩ := h
            have := o.toNat_lt
            exact ⟨⟨(rdN_len h1).2, (rdN_len h2).2⟩, by simp, by simp; omega⟩
theorem readF_ok {b : Bs} {c : Cmd} (h : readF b = (0, c)) : c.may = true ∧ c.w64 := by
  unfold readF at h
  cases hx : rdC b with
  | none => rw [hx] at h; simp at h
  | some p =>
    obtain ⟨d, r⟩ := p
    rw [hx] at h
    simp only at h
    by_cases hm : d.may = true
    · rw [if_pos hm] at h
      by_cases hr : r = []
      · rw [if_pos hr] at h; cases h; exact ⟨hm, (rdC_w64 hx).1⟩
      · rw [if_neg hr] at h; simp at h
    · rw [if_neg hm] at h; simp at h
structure St5 where
  c : Cmd
  s : Rd
def runP (b : Bs) : St5 :=
  let n1 := numP ⟨b, false⟩; let n2 := numP n1.2; let b3 := byteP n2.2; let k4 := bytesP 64 b3.2; let v5 := bytesP 1024 k4.2
  ⟨⟨n1.1, n2.1, b3.1.toNat, k4.1, v5.1⟩, v5.2⟩
def readP (b : Bs) : Int × Cmd :=
  let e := endRd (runP b).s
  let e' := if (runP b).c.may = false ∧ e ≠ 3 then 3 else e
  if e' = 0 then (0, (runP b).c) else (e', Cmd.zero)
theorem runP_some {b : Bs} {c : Cmd} {r : Bs} (h : rdC b = some (c, r)) : runP b = ⟨c, ⟨r, false⟩⟩ := by
  unfold rdC at h
  unfold runP
  cases h1 : rdN b with
  | none => rw [h1] at h; cases h
  | some p1 =>
    obtain ⟨cl, b1⟩ := p1
    rw [h1] at h; simp only at h
    rw [numP_some h1]
    cases h2 : rdN b1 with
    | none => rw [h2] at h; cases h
    | some p2 =>
      obtain ⟨sq, b2⟩ := p2
      rw [h2] at h; simp only at h
      simp only [numP_some h2]
      cases h3 : rdB b2 with
      | none => rw [h3] at h; cases h
      | some p3 =>
        obtain ⟨o, b3⟩ := p3
        rw [h3] at h; simp only at h
        simp only [byteP_some h3]
        cases h4 : rdS 64 b3 with
        | none => rw [h4] at h; cases h
        | some p4 =>
          obtain ⟨k, b4⟩ := p4
          rw [h4] at h; simp only at h
          simp only [bytesP_some h4]
          cases h5 : rdS 1024 b4 with
          | none => rw [h5] at h; cases h
          | some p5 =>
            obtain ⟨v, b5⟩ := p5
            rw [h5] at h; simp only [Option.some.injEq, Prod.mk.injEq] at h
            simp only [bytesP_some h5]
            obtain ⟨rfl, rfl⟩ := h
            rfl
theorem runP_none {b : Bs} (h : rdC b = none) : (runP b).s.bad = true := by
  unfold rdC at h
  unfold runP
  simp only
  cases h1 : rdN b with
  | none => exact bytesP_bad (bytesP_bad (byteP_bad (numP_bad (numP_none h1))))
  | some p1 =>
    obtain ⟨cl, b1⟩ := p1
    rw [h1] at h; simp only at h
    rw [numP_some h1]
    cases h2 : rdN b1 with
    | none => exact bytesP_bad (bytesP_bad (byteP_bad (numP_none h2)))
    | some p2 =>
      obtain ⟨sq, b2⟩ := p2
      rw [h2] at h; simp only at h
      simp only [numP_some h2]
      cases h3 : rdB b2 with
      | none => exact bytesP_bad (bytesP_bad (by rw [byteP_none h3]))
      | some p3 =>
        obtain ⟨o, b3⟩ := p3
        rw [h3] at h; simp only at h
        simp only [byteP_some h3]
        cases h4 : rdS 64 b3 with
        | none => exact bytesP_bad (bytesP_none h4)
        | some p4 =>
          obtain ⟨k, b4⟩ := p4
          rw [h4] at h; simp only at h
          simp only [bytesP_some h4]
          cases h5 : rdS 1024 b4 with
          | none => exact bytesP_none h5
          | some p5 =>
            obtain ⟨v, b5⟩ := p5
            rw [h5] at h; cases h
theorem readP_eq (b : Bs) : readP b = readF b := by
  unfold readP readF
  cases hx : rdC b with
  | none =>
    have := runP_none hx
    simp only [endRd, this, if_true]
    simp
  | some p =>
    obtain ⟨c, r⟩ := p
    rw [runP_some hx]
    simp only [endRd, Bool.false_eq_true, if_false]
    cases hm : c.may with
    | false =>
      simp only [if_false, Bool.false_eq_true]
      cases r <;> simp
    | true =>
      cases r <;> simp
end Go.Pm
namespace Go.Pm
set_option linter.unusedVariables false
set_option linter.unusedSimpArgs false
def userK (k : Bs) : Bs := 117 :: k
def ownK (client : Nat) : Bs := 115 :: beF 8 client
def resB8 (n : Int) : UInt8 := UInt8.ofNat n.toNat
/-- what a session's value says -/
def parseS (v : Bs) : Option (Nat × Int) := match rdN v with
  | none => none
  | some (seq, r) => match rdB r with
    | none => none
    | some (x, r) => if r = [] ∧ 1 ≤ x.toNat ∧ x.toNat ≤ 4 then some (seq, (x.toNat : Int)) else none
def sessF (t : Bt) (client : Nat) : Option (Nat × Int) := (t.get (ownK client)).bind parseS
def opF (t : Bt) (c : Cmd) : Bt × Int :=
  if c.op = 1 then (Bt.put (userK c.key) c.value t, if (t.get (userK c.key)).isSome = true then 2 else 1)
  else if (t.get (userK c.key)).isSome = true then (t.del (userK c.key), 3) else (t, 4)
def doC (t : Bt) (c : Cmd) : Bt × Int := (Bt.put (ownK c.client) (numF c.seq ++ [resB8 (opF t c).2]) (opF t c).1, (opF t c).2)
def applyC (t : Bt) (c : Cmd) : Bt × Int := match sessF t c.client with
  | none => doC t c
  | some (seq, was) => if c.seq < seq then (t, 5) else if seq = c.seq then (t, was) else doC t c
def applyF (t : Bt) (b : Bs) : Bt × Int := if (readF b).1 = 0 then applyC t (readF b).2 else (t, 0)
theorem BInv.put {t : Bt} {n : Nat} (h : BInv t n) {k v : Bs} (hk : k.length ≤ 80) (hv : v.length ≤ 1024) : BInv (Bt.put k v t) (n + 1) := by
  have := h.step ⟨k, v⟩
  unfold stepG at this
  rwa [if_pos ⟨hk, hv⟩] at this
theorem delLc_len (k : Bs) (l : List Pr) : (delLc k l).length ≤ l.length := List.length_filter_le _ _
theorem BInv.del {t : Bt} {n : Nat} (h : BInv t n) (k : Bs) : BInv (t.del k) n :=
  ⟨sml_del k h.sml, (del_bal k h.bal).1, by rw [toL_del t k h.srt]; exact del_srt h.srt, by rw [toL_del t k h.srt]; exact Nat.le_trans (delLc_len k _) h.len⟩
theorem userK_len {c : Cmd} (h : c.may = true) : (userK c.key).length ≤ 80 := by have := (may_parts h).1; simp [userK]; omega
theorem ownK_len (n : Nat) : (ownK n).length = 9 := by simp [ownK, beF_len]
theorem op_res (t : Bt) (c : Cmd) : 1 ≤ (opF t c).2 ∧ (opF t c).2 ≤ 4 := by
  unfold opF; split
  · simp only; split <;> omega
  · split <;> simp
theorem own_val (c : Cmd) (n : Int) : (numF c.seq ++ [resB8 n]).length ≤ 1024 := by
  have := numF_len c.seq; rw [List.length_append, List.length_singleton]; omega
theorem BInv.op {t : Bt} {n : Nat} (h : BInv t n) {c : Cmd} (hm : c.may = true) : BInv (opF t c).1 (n + 1) := by
  have k := userK_len hm
  have v := (may_parts hm).2.1
  unfold opF; split
  · exact h.put k v
  · split
    · exact (h.del _).mono (by omega)
    · exact h.mono (by omega)
theorem BInv.doC {t : Bt} {n : Nat} (h : BInv t n) {c : Cmd} (hm : c.may = true) : BInv (doC t c).1 (n + 2) :=
  (h.op hm).put (by rw [ownK_len]; omega) (own_val c _)
theorem BInv.apply {t : Bt} {n : Nat} (h : BInv t n) {c : Cmd} (hm : c.may = true) : BInv (applyC t c).1 (n + 2) := by
  unfold applyC
  split
  · exact h.doC hm
  · split
    · exact h.mono (by omega)
    · split
      · exact h.mono (by omega)
      · exact h.doC hm
theorem BInv.applyF {t : Bt} {n : Nat} (h : BInv t n) (b : Bs) : BInv (applyF t b).1 (n + 2) := by
  unfold Go.Pm.applyF
  split
  · rename_i h0
    exact h.apply (readF_ok (c := (readF b).2) (by rw [← h0])).1
  · exact h.mono (by omega)
end Go.Pm
namespace Go.Pm
open Go.Proofs
set_option linter.unusedVariables false
set_option linter.unusedSimpArgs false
theorem aNode_ok (l r : Tre) (k v : Bs) : EV C n_avl_node [l.av, bys k, bys v, r.av] [] = some ((ndT l k v r).av, [], []) := by
  refine avl_node_of ?_
  simp -implicitDefEqProofs only [new_z, ZS, ZT, Nat.reduceAdd]
  rw [litK_kids2, fill_in, sto_zt (b := 2) rfl rfl rfl (by simp [AV.one, bys, kidsA]) (by simp [escs, belL, AV.bel, bel_good _ _ (good_bys _), bel_good _ _ (good_kids _)]), ld_agg (l := 2) (z := 5) rfl rfl, Option.bind_some]
  exact endB_frz (frz_in _ _ _ _ _) (good_tr _)
theorem anodeD (l r : Tre) (k v : Bs) (H : List AObj) : callD (EV C) n_avl_node [l.av, bys k, bys v, r.av] H = some (ndT l k v r).av := callD_ok (by simp [goodL]) (aNode_ok l r k v)
theorem aRight_ok (a b c : Tre) (k v k2 v2 : Bs) : EV C n_avl_right [(ndT (ndT a k v b) k2 v2 c).av] [] = some ((ndT a k v (ndT b k2 v2 c)).av, [], []) := by
  refine avl_right_of ?_
  simp -implicitDefEqProofs only [new_z, Tre.kids, Tre.key, Tre.value, ix_l, ix_r, ZS, ZT, Nat.reduceAdd]
  rw [sto_t (b := 2) rfl rfl]
  simp -implicitDefEqProofs only [Tre.kids, Tre.key, Tre.value, ix_l, ix_r, anodeD, ZS, ZT, Nat.reduceAdd]
  rw [sto_t (b := 1) rfl rfl]
  simp -implicitDefEqProofs only [ZS, ZT, Nat.reduceAdd]
  exact endB_good (good_tr _)
theorem aLeft_ok (a b c : Tre) (k v k2 v2 : Bs) : EV C n_avl_left [(ndT a k v (ndT b k2 v2 c)).av] [] = some ((ndT (ndT a k v b) k2 v2 c).av, [], []) := by
  refine avl_left_of ?_
  simp -implicitDefEqProofs only [new_z, Tre.kids, Tre.key, Tre.value, ix_l, ix_r, ZS, ZT, Nat.reduceAdd]
  rw [sto_t (b := 2) rfl rfl]
  simp -implicitDefEqProofs only [Tre.kids, Tre.key, Tre.value, ix_l, ix_r, anodeD, ZS, ZT, Nat.reduceAdd]
  rw [sto_t (b := 1) rfl rfl]
  simp -implicitDefEqProofs only [ZS, ZT, Nat.reduceAdd]
  exact endB_good (good_tr _)
theorem aDepth_ok {t : Bt} (h : t.sml) (hd : t.dp ≤ 2^40) : EV C n_avl_depth [t.tre.av] [] = some (.int .i64 (t.dp : Int), [], []) := by
  refine avl_depth_of ?_
  simp -implicitDefEqProofs only [ZS, ZT, Nat.reduceAdd]
  rw [callK_ok (by simp) (even_ok t.tre (tre_ok h) (tre_formed h) (by rw [tre_dp]; exact hd)), tre_dp]
  simp -implicitDefEqProofs only [ZS, ZT, Nat.reduceAdd]
  exact endB_good rfl
theorem adepthD {t : Bt} (h : t.sml) (hd : t.dp ≤ 2^40) (H : List AObj) : callD (EV C) n_avl_depth [t.tre.av] H = some (.int .i64 (t.dp : Int)) := callD_ok (by simp) (aDepth_ok h hd)
theorem ld_tr3 (t : Tre) (o0 o1 o2 : AObj) (T : List AObj) : loadA true 5 (.ptr 3 1 0 0) (o0 :: o1 :: o2 :: .row 5 [t.av] :: T) = some t.av := ld_box rfl
theorem ld_tr3_s (t : Tre) (o0 o1 o2 : AObj) (T : List AObj) : loadA false 1 (.ptr 3 1 0 4) (o0 :: o1 :: o2 :: .row 5 [t.av] :: T) = some (kidsA t.kids) := ld_boxs rfl
theorem aLevel_ok {l r : Bt} (k v : Bs) (hl : l.sml) (hr : r.sml) (hk : k.length ≤ 80) (hv : v.length ≤ 1024) (bl : l.bal) (br : r.bal) (d1 : l.dp ≤ r.dp + 2) (d2 : r.dp ≤ l.dp + 2) (h1 : l.dp ≤ 2^30) (h2 : r.dp ≤ 2^30) :
    EV C n_avl_leveled [(Bt.nd l k v r).tre.av] [] = some ((Bt.lev l k v r).tre.av, [], []) := by
  refine avl_leveled_of ?_
  have e0 : IntKind.i64.wrap ((l.dp : Int) - (r.dp : Int)) = (l.dp : Int) - (r.dp : Int) := by rw [wrap64] <;> omega
  simp -implicitDefEqProofs only [new_z, bt_nd, Tre.kids, ix_l, ix_r, siz_tr, drawK_eq, drawK_T, ld_tr3, adepthD hl (show l.dp ≤ 2^40 by omega), adepthD hr (show r.dp ≤ 2^40 by omega), sub_int, e0, ZS, ZT, Nat.reduceAdd]
  by_cases c : l.dp = r.dp + 2
  · have c' : 1 < (l.dp : Int) - (r.dp : Int) := by omega
    rw [if_pos c']
    cases l with
    | lf => simp [Bt.dp] at c
    | nd a ka va b =>
      simp only [Bt.dp] at h1 c
      simp only [Bt.sml] at hl
      simp -implicitDefEqProofs only [bt_nd, Tre.kids, ix_l, ix_r, adepthD hl.1 (show a.dp ≤ 2^40 by omega), adepthD hl.2.1 (show b.dp ≤ 2^40 by omega), ZS, ZT, Nat.reduceAdd]
      by_cases d : (Bt.nd a ka va b).tlt < 0
      · have d' : (a.dp : Int) < (b.dp : Int) := by have : (a.dp : Int) - b.dp < 0 := d; omega
        rw [if_pos d']
        cases b with
        | lf => simp [Bt.dp] at d'; omega
        | nd b1 kb vb b2 =>
          have el : Bt.lev (Bt.nd a ka va (Bt.nd b1 kb vb b2)) k v r = Bt.nd (Bt.nd a ka va b1) kb vb (Bt.nd b2 k v r) := by unfold Bt.lev; rw [if_pos (by simpa only [Bt.dp] using c), if_pos d]; rfl
          rw [el]
          have lf : ∀ H, callD (EV C) n_avl_left [(ndT a.tre ka va (ndT b1.tre kb vb b2.tre)).av] H = some (ndT (ndT a.tre ka va b1.tre) kb vb b2.tre).av := fun H => callD_ok (by simp [goodL]) (aLeft_ok _ _ _ _ _ _ _)
          simp -implicitDefEqProofs only [bt_nd, Tre.kids, Tre.key, Tre.value, ix_l, ix_r, ld_tr3, lf, anodeD, ZS, ZT, Nat.reduceAdd]
          rw [sto_t2 (b := 0) rfl]
          simp -implicitDefEqProofs only [ZS, ZT, Nat.reduceAdd]
          rw [callK_ok (by simp) (aRight_ok _ _ _ _ _ _ _), sto_t (b := 1) rfl rfl]
          simp -implicitDefEqProofs only [ZS, ZT, Nat.reduceAdd]
          exact endB_good (good_tr _)
      · have d' : ¬ (a.dp : Int) < (b.dp : Int) := by have : ¬ (a.dp : Int) - b.dp < 0 := d; omega
        have el : Bt.lev (Bt.nd a ka va b) k v r = Bt.nd a ka va (Bt.nd b k v r) := by unfold Bt.lev; rw [if_pos (by simpa only [Bt.dp] using c), if_neg d]; rfl
        rw [if_neg d', el]
        rw [callK_ok (by simp) (aRight_ok _ _ _ _ _ _ _), sto_t (b := 1) rfl rfl]
        simp -implicitDefEqProofs only [ZS, ZT, Nat.reduceAdd]
        exact endB_good (good_tr _)
  · have c' : ¬ 1 < (l.dp : Int) - (r.dp : Int) := by omega
    rw [if_neg c']
    by_cases e : r.dp = l.dp + 2
    · have e' : (l.dp : Int) - (r.dp : Int) < -1 := by omega
      rw [if_pos e']
      cases r with
      | lf => simp [Bt.dp] at e
      | nd a ka va b =>
        simp only [Bt.dp] at h2 e
        simp only [Bt.sml] at hr
        simp -implicitDefEqProofs only [bt_nd, Tre.kids, ix_l, ix_r, ld_tr3, ld_tr3_s, adepthD hr.1 (show a.dp ≤ 2^40 by omega), adepthD hr.2.1 (show b.dp ≤ 2^40 by omega), ZS, ZT, Nat.reduceAdd]
        by_cases d : 0 < (Bt.nd a ka va b).tlt
        · have d' : (b.dp : Int) < (a.dp : Int) := by have : 0 < (a.dp : Int) - b.dp := d; omega
          rw [if_pos d']
          cases a with
          | lf => simp [Bt.dp] at d'; omega
          | nd b1 kb vb b2 =>
            have el : Bt.lev l k v (Bt.nd (Bt.nd b1 kb vb b2) ka va b) = Bt.nd (Bt.nd l k v b1) kb vb (Bt.nd b2 ka va b) := by unfold Bt.lev; rw [if_neg c, if_pos (by simpa only [Bt.dp] using e), if_pos d]; rfl
            rw [el]
            have lf : ∀ H, callD (EV C) n_avl_right [(ndT (ndT b1.tre kb vb b2.tre) ka va b.tre).av] H = some (ndT b1.tre kb vb (ndT b2.tre ka va b.tre)).av := fun H => callD_ok (by simp [goodL]) (aRight_ok _ _ _ _ _ _ _)
            simp -implicitDefEqProofs only [bt_nd, Tre.kids, Tre.key, Tre.value, ix_l, ix_r, ld_tr3, lf, anodeD, ZS, ZT, Nat.reduceAdd]
            rw [sto_t2 (b := 0) rfl]
            simp -implicitDefEqProofs only [ZS, ZT, Nat.reduceAdd]
            rw [callK_ok (by simp) (aLeft_ok _ _ _ _ _ _ _), sto_t (b := 1) rfl rfl]
            simp -implicitDefEqProofs only [ZS, ZT, Nat.reduceAdd]
            exact endB_good (good_tr _)
        · have d' : ¬ (b.dp : Int) < (a.dp : Int) := by have : ¬ 0 < (a.dp : Int) - b.dp := d; omega
          have el : Bt.lev l k v (Bt.nd a ka va b) = Bt.nd (Bt.nd l k v a) ka va b := by unfold Bt.lev; rw [if_neg c, if_pos (by simpa only [Bt.dp] using e), if_neg d]; rfl
          rw [if_neg d', el]
          rw [callK_ok (by simp) (aLeft_ok _ _ _ _ _ _ _), sto_t (b := 1) rfl rfl]
          simp -implicitDefEqProofs only [ZS, ZT, Nat.reduceAdd]
          exact endB_good (good_tr _)
    · have e' : ¬ (l.dp : Int) - (r.dp : Int) < -1 := by omega
      have el : Bt.lev l k v r = Bt.nd l k v r := by unfold Bt.lev; rw [if_neg c, if_neg e]
      rw [if_neg e', el, sto_t (b := 1) rfl rfl]
      simp -implicitDefEqProofs only [ZS, ZT, Nat.reduceAdd]
      exact endB_good (good_tr _)
theorem aPut_ok (k v : Bs) (hk : k.length ≤ 80) (hv : v.length ≤ 1024) : ∀ (t : Bt), t.sml → t.bal → t.dp ≤ 2^20 → EV C n_avl_put [t.tre.av, bys k, bys v] [] = some ((Bt.put k v t).tre.av, [], [])
  | .lf, _, _, _ => by
    refine avl_put_of ?_
    simp -implicitDefEqProofs only [new_z, ZS, ZT, Nat.reduceAdd]
    rw [if_pos (show (((Bt.lf).tre.kids.length : Nat) : Int) = 0 from rfl), fill_nil, fill_nil]
    rw [callK_nil (bs := [Tre.nil.av, bys k, bys v, Tre.nil.av]) (by simp [killsL, kills, kills_good _ (good_bys _)]) (frzL_cons (frz_nil0 _) (frzL_cons (frz_good _ _ (good_bys _)) (frzL_cons (frz_good _ _ (good_bys _)) (frzL_cons (frz_nil0 _) rfl)))) (by simp [goodL]) (aNode_ok _ _ k v), sto_t (b := 1) rfl rfl]
    simp -implicitDefEqProofs only [ZS, ZT, Nat.reduceAdd]
    exact endB_good (good_tr _)
  | .nd l k' v' r, hs, hb, hd => by
    simp only [Bt.sml] at hs
    simp only [Bt.bal] at hb
    simp only [Bt.dp] at hd
    have hl : ∀ H, callD (EV C) n_avl_put [l.tre.av, bys k, bys v] H = some (Bt.put k v l).tre.av := fun H => callD_ok (by simp [goodL]) (aPut_ok k v hk hv l hs.1 hb.1 (by omega))
    have hr : ∀ H, callD (EV C) n_avl_put [r.tre.av, bys k, bys v] H = some (Bt.put k v r).tre.av := fun H => callD_ok (by simp [goodL]) (aPut_ok k v hk hv r hs.2.1 hb.2.1 (by omega))
    have pl := put_bal k v hb.1
    have pr := put_bal k v hb.2.1
    have ll : ∀ H, callD (EV C) n_avl_leveled [(ndT (Bt.put k v l).tre k' v' r.tre).av] H = some (Bt.lev (Bt.put k v l) k' v' r).tre.av := fun H => callD_ok (by simp [goodL]) (aLevel_ok k' v' (sml_put hk hv hs.1) hs.2.1 hs.2.2.1 hs.2.2.2 pl.1 hb.2.1 (by omega) (by omega) (by omega) (by omega))
    have lr : ∀ H, callD (EV C) n_avl_leveled [(ndT l.tre k' v' (Bt.put k v r).tre).av] H = some (Bt.lev l k' v' (Bt.put k v r)).tre.av := fun H => callD_ok (by simp [goodL]) (aLevel_ok k' v' hs.1 (sml_put hk hv hs.2.1) hs.2.2.1 hs.2.2.2 hb.1 pr.1 (by omega) (by omega) (by omega) (by omega))
    refine avl_put_of ?_
    have e0 : ¬ ((([l.tre, r.tre] : List Tre).length : Nat) : Int) = 0 := by simp
    simp -implicitDefEqProofs only [new_z, bt_nd, Tre.kids, Tre.key, Tre.value, ZS, ZT, Nat.reduceAdd]
    rw [if_neg (by omega)]
    simp -implicitDefEqProofs only [Tre.kids, Tre.key, Tre.value, ix_l, ix_r, siz_tr, drawK_eq, drawK_T, ld_tr3, CompareK, cmp_eq0, cmp_lt, ZS, ZT, Nat.reduceAdd]
    unfold Bt.put
    by_cases c : k = k'
    · rw [if_pos c, if_pos c]
      subst c
      rw [callK_ok (by simp) (aNode_ok _ _ _ _), sto_t (b := 1) rfl rfl]
      simp -implicitDefEqProofs only [ZS, ZT, Nat.reduceAdd]
      exact endB_good (good_tr _)
    · rw [if_neg c, if_neg c]
      cases hc : ltB k k' with
      | true =>
        simp -implicitDefEqProofs only [Tre.kids, Tre.key, Tre.value, ix_l, ix_r, ld_tr3, hl, anodeD, ll, ZS, ZT, Nat.reduceAdd]
        rw [sto_t (b := 1) rfl rfl]
        simp -implicitDefEqProofs only [ZS, ZT, Nat.reduceAdd]
        exact endB_good (good_tr _)
      | false =>
        simp -implicitDefEqProofs only [Bool.false_eq_true, Tre.kids, Tre.key, Tre.value, ix_l, ix_r, ld_tr3, hr, anodeD, lr, ZS, ZT, Nat.reduceAdd]
        rw [sto_t (b := 1) rfl rfl]
        simp -implicitDefEqProofs only [ZS, ZT, Nat.reduceAdd]
        exact endB_good (good_tr _)
end Go.Pm
namespace Go.Pm
open Go.Proofs
set_option linter.unusedVariables false
set_option linter.unusedSimpArgs false
theorem kidsM (k : Int) (a b c : Bs) (ks : List Tre) : (Tre.mk k a b c ks).kids = ks := rfl
theorem keyM (k : Int) (a b c : Bs) (ks : List Tre) : (Tre.mk k a b c ks).key = a := rfl
theorem valueM (k : Int) (a b c : Bs) (ks : List Tre) : (Tre.mk k a b c ks).value = b := rfl
theorem min_sml : ∀ (t : Bt) (k v : Bs), t.sml → k.length ≤ 80 → v.length ≤ 1024 → (t.min k v).1.length ≤ 80 ∧ (t.min k v).2.length ≤ 1024
  | .lf, k, v, _, a, b => ⟨a, b⟩
  | .nd l k' v' r, k, v, hs, _, _ => by simp only [Bt.sml] at hs; exact min_sml l k' v' hs.1 hs.2.2.1 hs.2.2.2
theorem ld4 (t : Tre) (o0 o1 o2 o3 : AObj) (T : List AObj) : loadA false 1 (.ptr 4 1 0 4) (o0 :: o1 :: o2 :: o3 :: .row 5 [t.av] :: T) = some (kidsA t.kids) := ld_boxs rfl
theorem ld4a (t : Tre) (o0 o1 o2 o3 : AObj) (T : List AObj) : loadA false 1 (.ptr 4 1 0 1) (o0 :: o1 :: o2 :: o3 :: .row 5 [t.av] :: T) = some (bys t.key) := ldb_a rfl
theorem ld4b (t : Tre) (o0 o1 o2 o3 : AObj) (T : List AObj) : loadA false 1 (.ptr 4 1 0 2) (o0 :: o1 :: o2 :: o3 :: .row 5 [t.av] :: T) = some (bys t.value) := ldb_b rfl
theorem loadA_trc (t : Tre) (H : List AObj) : loadA false 1 (.ip (List.drop 4 t.av.cells)) H = some (kidsA t.kids) := by rw [cells_tr]; rfl
theorem take_J14 (t0 : Tre) (l r : Bt) (hl : l.sml) (hr : r.sml) (bl : l.bal) (d1 : l.dp ≤ r.dp + 1) (d2 : r.dp ≤ l.dp + 1) (h1 : l.dp ≤ 2^20) (br : r.bal)
    (ih : ∀ k, EV C n_avl_take [r.tre.av, bys k] [] = some ((r.del k).tre.av, [], [])) (hm1 : (r.min [] []).1.length ≤ 80) (hm2 : (r.min [] []).2.length ≤ 1024) : ∀ (a b : Bt) (k v : Bs) (E : List Nat), (Bt.nd a k v b).min [] [] = r.min [] [] →
    avl_take_J14 0 (.ptr 1 1 0 0) (.ptr 2 1 0 0) (.ptr 3 1 0 0) (.ptr 4 1 0 0) [.row 5 [t0.av], .row 5 [zTre], .row 5 [l.tre.av], .row 5 [r.tre.av], .row 5 [(Bt.nd a k v b).tre.av]] E = some ((Bt.lev l (r.min [] []).1 (r.min [] []).2 (r.del (r.min [] []).1)).tre.av, [], [])
  | .lf, b, k, v, E, hm => by
    refine avl_take_J14_of ?_
    have hk : r.min [] [] = (k, v) := hm.symm
    rw [hk] at hm1 hm2 ⊢
    simp only at hm1 hm2 ⊢
    have e0 : ¬ ((0 : Int) < ((Bt.lf.tre.kids.length : Nat) : Int)) := by show ¬ (0 : Int) < 0; decide
    have pd := del_bal (t := r) k br
    have td : ∀ H, callD (EV C) n_avl_take [r.tre.av, bys k] H = some (r.del k).tre.av := fun H => callD_ok (by simp [goodL]) (ih k)
    have ll : ∀ H, callD (EV C) n_avl_leveled [(ndT l.tre k v (r.del k).tre).av] H = some (Bt.lev l k v (r.del k)).tre.av := fun H => callD_ok (by simp [goodL]) (aLevel_ok k v hl (sml_del k hr) hm1 hm2 bl pd.1 (by omega) (by omega) (by omega) (by omega))
    simp -implicitDefEqProofs only [ld4, ld4a, ld4b, bt_nd, kidsM, keyM, valueM, ix_l, ix_r, loadA_trc, e0, ld_tr3, td, anodeD, ll, ZS, ZT, Nat.reduceAdd]
    rw [sto_t (b := 1) rfl rfl]
    simp -implicitDefEqProofs only [ZS, ZT, Nat.reduceAdd]
    exact endB_good (good_tr _)
  | .nd a1 k1 v1 b1, b, k, v, E, hm => by
    refine avl_take_J14_of ?_
    have e0 : ((0 : Int) < (([a1.tre, b1.tre].length : Nat) : Int)) := by simp
    simp -implicitDefEqProofs only [ld4, bt_nd, kidsM, ix_l, ix_r, loadA_trc, ZS, ZT, Nat.reduceAdd]
    rw [if_pos (by omega), sto_t2 (b := 4) rfl]
    simp -implicitDefEqProofs only [ZS, ZT, Nat.reduceAdd]
    exact take_J14 t0 l r hl hr bl d1 d2 h1 br ih hm1 hm2 a1 b1 k1 v1 _ hm
theorem aTake_ok : ∀ (t : Bt) (k : Bs), t.sml → t.bal → t.dp ≤ 2^20 → EV C n_avl_take [t.tre.av, bys k] [] = some ((t.del k).tre.av, [], [])
  | .lf, k, _, _, _ => by
    refine avl_take_of ?_
    simp -implicitDefEqProofs only [new_z, ZS, ZT, Nat.reduceAdd]
    rw [if_pos (show (((Bt.lf).tre.kids.length : Nat) : Int) = 0 from rfl), sto_t (b := 1) rfl rfl]
    simp -implicitDefEqProofs only [ZS, ZT, Nat.reduceAdd]
    exact endB_good (good_tr _)
  | .nd l k' v' r, k, hs, hb, hd => by
    simp only [Bt.sml] at hs
    simp only [Bt.bal] at hb
    simp only [Bt.dp] at hd
    have ihl := aTake_ok l k hs.1 hb.1 (by omega)
    have ihr := fun k => aTake_ok r k hs.2.1 hb.2.1 (by omega)
    have hl : ∀ H, callD (EV C) n_avl_take [l.tre.av, bys k] H = some (l.del k).tre.av := fun H => callD_ok (by simp [goodL]) ihl
    have hr : ∀ H, callD (EV C) n_avl_take [r.tre.av, bys k] H = some (r.del k).tre.av := fun H => callD_ok (by simp [goodL]) (ihr k)
    have pl := del_bal (t := l) k hb.1
    have pr := del_bal (t := r) k hb.2.1
    have ll : ∀ H, callD (EV C) n_avl_leveled [(ndT (l.del k).tre k' v' r.tre).av] H = some (Bt.lev (l.del k) k' v' r).tre.av := fun H => callD_ok (by simp [goodL]) (aLevel_ok k' v' (sml_del k hs.1) hs.2.1 hs.2.2.1 hs.2.2.2 pl.1 hb.2.1 (by omega) (by omega) (by omega) (by omega))
    have lr : ∀ H, callD (EV C) n_avl_leveled [(ndT l.tre k' v' (r.del k).tre).av] H = some (Bt.lev l k' v' (r.del k)).tre.av := fun H => callD_ok (by simp [goodL]) (aLevel_ok k' v' hs.1 (sml_del k hs.2.1) hs.2.2.1 hs.2.2.2 hb.1 pr.1 (by omega) (by omega) (by omega) (by omega))
    refine avl_take_of ?_
    simp -implicitDefEqProofs only [new_z, bt_nd, kidsM, keyM, valueM, ZS, ZT, Nat.reduceAdd]
    rw [if_neg (by omega)]
    simp -implicitDefEqProofs only [kidsM, keyM, valueM, ix_l, ix_r, siz_tr, drawK_eq, drawK_T, ld_tr3, CompareK, cmp_gt, cmp_lt, ZS, ZT, Nat.reduceAdd]
    rw [Bt.del]
    cases hc : ltB k k' with
    | true =>
      simp -implicitDefEqProofs only [kidsM, keyM, valueM, ix_l, ix_r, ld_tr3, hl, anodeD, ll, ZS, ZT, Nat.reduceAdd]
      rw [sto_t (b := 1) rfl rfl]
      simp -implicitDefEqProofs only [ZS, ZT, Nat.reduceAdd]
      exact endB_good (good_tr _)
    | false =>
      simp -implicitDefEqProofs only [Bool.false_eq_true, ZS, ZT, Nat.reduceAdd]
      cases hg : ltB k' k with
      | true =>
        simp -implicitDefEqProofs only [kidsM, keyM, valueM, ix_l, ix_r, ld_tr3, hr, anodeD, lr, ZS, ZT, Nat.reduceAdd]
        rw [sto_t (b := 1) rfl rfl]
        simp -implicitDefEqProofs only [ZS, ZT, Nat.reduceAdd]
        exact endB_good (good_tr _)
      | false =>
        simp -implicitDefEqProofs only [Bool.false_eq_true, ld_tr3_s, ld_tr3, ZS, ZT, Nat.reduceAdd]
        cases l with
        | lf =>
          rw [if_pos (show (((Bt.lf).tre.kids.length : Nat) : Int) = 0 from rfl), sto_t (b := 1) rfl rfl]
          simp -implicitDefEqProofs only [Bt.join, ZS, ZT, Nat.reduceAdd]
          exact endB_good (good_tr _)
        | nd a ka va b =>
          cases r with
          | lf =>
            simp -implicitDefEqProofs only [bt_nd, kidsM, ZS, ZT, Nat.reduceAdd]
            rw [if_neg (by omega), if_pos (show (((Bt.lf).tre.kids.length : Nat) : Int) = 0 from rfl), sto_t (b := 1) rfl rfl]
            simp -implicitDefEqProofs only [Bt.join, bt_nd, ZS, ZT, Nat.reduceAdd]
            exact endB_good (good_tr _)
          | nd c kc vc d =>
            have mm := min_sml (.nd c kc vc d) [] [] hs.2.1 (by simp) (by simp)
            have J := take_J14 (ndT (Bt.nd a ka va b).tre k' v' (Bt.nd c kc vc d).tre) (.nd a ka va b) (.nd c kc vc d) hs.1 hs.2.1 hb.1 hb.2.2.1 hb.2.2.2 (by omega) hb.2.1 ihr mm.1 mm.2 c d kc vc
            simp -implicitDefEqProofs only [bt_nd, kidsM, ZS, ZT, Nat.reduceAdd]
            rw [if_neg (by omega), if_neg (by omega), sto_t (b := 4) rfl rfl]
            simp -implicitDefEqProofs only [Bt.join, ZS, ZT, Nat.reduceAdd]
            exact J _ rfl
def askF (t : Tre) (k v : Bs) : Int := if isF t = true then (if 80 < k.length ∨ 1024 < v.length then 1 else 0) else 3
theorem asked_ok (t : Tre) (ht : t.ok) (hn : (nodesF t).length ≤ 2^40) (k v : Bs) : EV C n_avl_asked [t.av, bys k, bys v] [] = some (errA (askF t k v), [], []) := by
  refine avl_asked_of ?_
  simp -implicitDefEqProofs only [ZS, ZT, Nat.reduceAdd]
  rw [callK_ok (by simp) (avlIs_ok t ht hn)]
  unfold askF
  cases hi : isF t with
  | false =>
    simp -implicitDefEqProofs only [Bool.false_eq_true, not_bool, ZS, ZT, Nat.reduceAdd]
    exact endB_good (v := errA 3) rfl
  | true =>
    simp -implicitDefEqProofs only [not_bool, ZS, ZT, Nat.reduceAdd]
    by_cases c1 : 80 < k.length
    · have c1' : (80 : Int) < (k.length : Int) := by omega
      rw [if_pos c1', if_pos (.inl c1)]
      exact endB_good (v := errA 1) rfl
    · have c1' : ¬ (80 : Int) < (k.length : Int) := by omega
      rw [if_neg c1']
      by_cases c2 : 1024 < v.length
      · have c2' : (1024 : Int) < (v.length : Int) := by omega
        rw [if_pos c2', if_pos (.inr c2)]
        exact endB_good (v := errA 1) rfl
      · have c2' : ¬ (1024 : Int) < (v.length : Int) := by omega
        rw [if_neg c2', if_neg (by omega)]
        exact endB_good (v := errA 0) rfl
theorem BInv.good {t : Bt} {n : Nat} (h : BInv t n) (hn : n < 2^20) : Good t := ⟨h.sml, h.bal, h.srt, by have := bal_dp h.bal (by have := h.len; omega); omega⟩
theorem BInv.nodes {t : Bt} {n : Nat} (h : BInv t n) (hn : n < 2^20) : (nodesF t.tre).length ≤ 2^40 := by rw [tre_len]; have := h.len; omega
theorem BInv.is' {t : Bt} {n : Nat} (h : BInv t n) (hn : n < 2^20) : isF t.tre = true := (h.good hn).is
theorem aPutK_ok (k v : Bs) (hk : k.length ≤ 80) (hv : v.length ≤ 1024) {t : Bt} {n : Nat} (h : BInv t n) (hn : n < 2^20) : EV C n_avl_Put [t.tre.av, bys k, bys v] [] = some (.tup [(Bt.put k v t).tre.av, .nili], [], []) := by
  refine avl_Put_of ?_
  have g := h.good hn
  simp -implicitDefEqProofs only [new_z, ZS, ZT, Nat.reduceAdd]
  have A := asked_ok t.tre (tre_ok h.sml) (h.nodes hn) k v
  have ea : askF t.tre k v = 0 := by unfold askF; rw [h.is' hn, if_pos rfl, if_neg (by omega)]
  rw [ea] at A
  rw [callK_ok (by simp) A]
  have gd := g.dp
  have P : ∀ H, callD (EV C) n_avl_put [t.tre.av, bys k, bys v] H = some (Bt.put k v t).tre.av := fun H => callD_ok (by simp) (aPut_ok k v hk hv t h.sml h.bal (by omega))
  have ck : ∀ H, callD (EV C) n_Clone_byte [bys k] H = some (bys k) := fun H => callD_ok (by simp) (Clone_byte_ok k (by omega))
  have cv : ∀ H, callD (EV C) n_Clone_byte [bys v] H = some (bys v) := fun H => callD_ok (by simp) (Clone_byte_ok v (by omega))
  simp -implicitDefEqProofs only [neqE0, ck, cv, P, ZS, ZT, Nat.reduceAdd]
  rw [sto_t (b := 1) rfl rfl]
  simp -implicitDefEqProofs only [ZS, ZT, Nat.reduceAdd]
  exact endB_good (by simp [AV.good, goodL])
def resG (o : Option Bs) (n : Int) : AV := .tup [bys (o.getD []), .bool o.isSome, errA n]
@[simp] theorem good_resG (o : Option Bs) (n : Int) : (resG o n).good = true := by simp [resG, AV.good, goodL]
theorem get_J4 (k : Bs) : ∀ (t : Bt) (E : List Nat), t.sml → avl_Get_J4 0 (bys k) (.ptr 0 1 0 0) [.row 5 [t.tre.av]] E = some (resG (t.get k) 0, [], [])
  | .lf, E, hs => by
    refine avl_Get_J4_of ?_
    have e0 : ¬ ((0 : Int) < ((Bt.lf.tre.kids.length : Nat) : Int)) := by show ¬ (0 : Int) < 0; decide
    simp -implicitDefEqProofs only [e0, ZS, ZT, Nat.reduceAdd]
    exact endB_frz rfl rfl
  | .nd l k' v' r, E, hs => by
    simp only [Bt.sml] at hs
    refine avl_Get_J4_of ?_
    simp -implicitDefEqProofs only [bt_nd, kidsM, keyM, valueM, CompareK, cmp_eq0, cmp_lt, ZS, ZT, Nat.reduceAdd]
    rw [if_pos (by omega)]
    unfold Bt.get
    by_cases c : k = k'
    · rw [if_pos c, if_pos c]
      rw [callK_ok (by simp) (Clone_byte_ok v' (by omega))]
      exact endB_good (by simp [AV.good, goodL])
    · rw [if_neg c, if_neg c]
      cases hc : ltB k k' with
      | true =>
        simp -implicitDefEqProofs only [kidsM, ix_l, ix_r, ZS, ZT, Nat.reduceAdd]
        rw [sto_t2 (b := 0) rfl]
        simp -implicitDefEqProofs only [ZS, ZT, Nat.reduceAdd]
        exact get_J4 k l _ hs.1
      | false =>
        simp -implicitDefEqProofs only [Bool.false_eq_true, Tre.kids, ix_l, ix_r, ZS, ZT, Nat.reduceAdd]
        rw [sto_t2 (b := 0) rfl]
        simp -implicitDefEqProofs only [ZS, ZT, Nat.reduceAdd]
        exact get_J4 k r _ hs.2.1
theorem aGet_ok (k : Bs) (hk : k.length ≤ 80) {t : Bt} {n : Nat} (h : BInv t n) (hn : n < 2^20) : EV C n_avl_Get [t.tre.av, bys k] [] = some (resG (t.get k) 0, [], []) := by
  refine avl_Get_of ?_
  have A := asked_ok t.tre (tre_ok h.sml) (h.nodes hn) k []
  have ea : askF t.tre k [] = 0 := by unfold askF; rw [h.is' hn, if_pos rfl, if_neg (by simp; omega)]
  rw [ea] at A
  simp -implicitDefEqProofs only [ZS, ZT, Nat.reduceAdd]
  rw [callK_nil (bs := [t.tre.av, bys k, bys []]) (by simp [killsL, kills, kills_good _ (good_tr _), kills_good _ (good_bys _)]) (frzL_cons (frz_good _ _ (good_tr _)) (frzL_cons (frz_good _ _ (good_bys _)) (frzL_cons rfl rfl))) (by simp [goodL]) A]
  simp -implicitDefEqProofs only [neqE0, ZS, ZT, Nat.reduceAdd]
  exact get_J4 k t _ h.sml
def delF (t : Bt) (k : Bs) : Bt × Bool := if (t.get k).isSome = true then (t.del k, true) else (t, false)
theorem aDel_ok (k : Bs) (hk : k.length ≤ 80) {t : Bt} {n : Nat} (h : BInv t n) (hn : n < 2^20) : EV C n_avl_Delete [t.tre.av, bys k] [] = some (.tup [(delF t k).1.tre.av, .bool (delF t k).2, .nili], [], []) := by
  refine avl_Delete_of ?_
  have gd := (h.good hn).dp
  simp -implicitDefEqProofs only [new_z, ZS, ZT, Nat.reduceAdd]
  rw [callK_ok (by simp) (aGet_ok k hk h hn)]
  unfold delF
  simp -implicitDefEqProofs only [resG, neqE0, not_bool, ZS, ZT, Nat.reduceAdd]
  cases hg : (t.get k).isSome with
  | false =>
    simp -implicitDefEqProofs only [Bool.false_eq_true, ZS, ZT, Nat.reduceAdd]
    rw [sto_t (b := 1) rfl rfl]
    simp -implicitDefEqProofs only [ZS, ZT, Nat.reduceAdd]
    exact endB_good (by simp [AV.good, goodL])
  | true =>
    simp -implicitDefEqProofs only [ZS, ZT, Nat.reduceAdd]
    rw [callK_ok (by simp) (aTake_ok t k h.sml h.bal (by omega)), sto_t (b := 1) rfl rfl]
    simp -implicitDefEqProofs only [ZS, ZT, Nat.reduceAdd]
    exact endB_good (by simp [AV.good, goodL])
end Go.Pm
