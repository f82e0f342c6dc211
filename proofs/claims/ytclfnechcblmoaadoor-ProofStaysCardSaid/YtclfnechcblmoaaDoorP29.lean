/- A part of the proof: what the functions of the program answer, as plain lists and numbers. -/
import Derived.Test.YtclfnechcblmoaaDoorP9
import Derived.Test.YtclfnechcblmoaaDoorP20
import Derived.Test.YtclfnechcblmoaaDoorP21
import Derived.Test.YtclfnechcblmoaaDoorP24
import Derived.Test.YtclfnechcblmoaaDoorP25
import Derived.Test.YtclfnechcblmoaaDoorP28
namespace Go.Pm
open Go.Proofs
set_option linter.unusedVariables false
set_option linter.unusedSimpArgs false
mutual
def nodesF : Tre → List Tre
  | .mk k a b c ks => match nodesL ks with
    | l :: r :: _ => l ++ .mk k a b c ks :: r
    | _ => []
def nodesL : List Tre → List (List Tre)
  | [] => []
  | t :: ts => nodesF t :: nodesL ts
end
theorem nodes_nil {t : Tre} (h : t.kids = []) : nodesF t = [] := by
  cases t with | mk k a b c ks => simp only [Tre.kids] at h; subst h; rw [nodesF]; rfl
theorem nodes_two {t l r : Tre} (h : t.kids = [l, r]) : nodesF t = nodesF l ++ t :: nodesF r := by
  cases t with | mk k a b c ks => simp only [Tre.kids] at h; subst h; rw [nodesF]; rfl
theorem formed_two {t : Tre} (h : formedF t = true) : t.kids = [] ∨ ∃ l r, t.kids = [l, r] := by
  by_cases h0 : t.kind = 0
  · rw [formedF_eq, Bool.and_eq_true] at h
    have h1 := h.1
    simp only [formed1, h0, if_true, decide_eq_true_eq] at h1
    exact .inl (List.length_eq_zero_iff.1 (by omega))
  · by_cases h3 : t.kind = 3
    · rw [formedF_eq, Bool.and_eq_true] at h
      have h1 := h.1
      simp only [formed1] at h1
      rw [if_neg h0, if_neg (by omega), if_neg (by omega), if_pos h3, decide_eq_true_eq] at h1
      exact .inl (List.length_eq_zero_iff.1 (by omega))
    · obtain ⟨_, _, _, l, r, hk⟩ := formed_node h h0 h3
      exact .inr ⟨l, r, hk⟩
theorem ld_cell {H : List AObj} {o : Nat} {v : AV} (h : H[o]? = some (.row 1 [v])) (hv : v.cells = [v]) : loadA false 1 (.ptr o 1 0 0) H = some v := by
  simp [loadA, h, hv, ldv]
theorem sto_cell {β : Type} {H : List AObj} {o : Nat} {v u : AV} {K : List AObj → List Nat → Option β} (h : H[o]? = some (.row 1 [v])) (hv : ∀ cs, v ≠ .agg cs) (hu : u.cells = [u]) (h1 : u.one = true) :
    stoK 1 (.ptr o 1 0 0) u H K = K (H.set o (.row 1 [u])) (escs o [u]) := by
  have h2 : storeA 1 (.ptr o 1 0 0) u H = some (H.set o (.row 1 [u]), escs o [u]) := by
    unfold storeA
    simp only [h, hu]
    rw [if_pos ⟨by simp, by simp, by simp [h1]⟩]
    have h3 : setC v 0 [u] = some u := by
      unfold setC
      split
      · exact absurd rfl (hv _)
      · rfl
    simp only [List.getElem?_cons_zero, Option.bind_some, h3, Option.map_some, List.set_cons_zero]
  unfold stoK; rw [h2]; rfl
theorem ld_box {H : List AObj} {b : Nat} {t : Tre} (h : H[b]? = some (.row 5 [t.av])) : loadA true 5 (.ptr b 1 0 0) H = some t.av := by
  rw [av_eq] at h ⊢; exact ld_agg h rfl
theorem ld_boxs {H : List AObj} {b : Nat} {t : Tre} (h : H[b]? = some (.row 5 [t.av])) : loadA false 1 (.ptr b 1 0 4) H = some (kidsA t.kids) := by
  rw [av_eq] at h; exact ld_fld h rfl
theorem ix_row {H : List AObj} {r z n i : Nat} {es : List AV} {k : IntKind} (h : H[r]? = some (.row z es)) (hn : es.length = n) (hi : i < n) : ixA z (.slc r 0 n n) (.int k (i : Int)) H = some (.ptr r n i 0) := by
  subst hn
  simp only [ixA, indexA, h]
  rw [if_pos ⟨by omega, by omega, trivial, trivial⟩]
  simp
theorem sto_el {β : Type} {H : List AObj} {r n i : Nat} {es : List AV} {t u : Tre} {K : List AObj → List Nat → Option β} (h : H[r]? = some (.row 5 es)) (hn : es.length = n) (hi : es[i]? = some u.av) :
    stoK 5 (.ptr r n i 0) t.av H K = K (H.set r (.row 5 (es.set i t.av))) [] := by
  have h2 : storeA 5 (.ptr r n i 0) t.av H = some (H.set r (.row 5 (es.set i t.av)), []) := by
    unfold storeA
    simp only [h, hi, cells_tr]
    rw [if_pos ⟨hn, rfl, rfl⟩]
    have h3 : setC u.av 0 [.int .i64 t.kind, bys t.key, bys t.value, bys t.digest, kidsA t.kids] = some t.av := by
      rw [av_eq u, av_eq t]; rfl
    simp only [Option.bind_some, h3, Option.map_some]
    rw [escs_good (by simp [goodL, AV.good])]
  unfold stoK; rw [h2]; rfl
def outV (l : List Tre) (r : Nat) : AV := match l with
  | [] => .nils
  | l => .slc r 0 l.length l.length
def OutS (H : List AObj) (o : Nat) (l : List Tre) (r : Nat) : Prop := H[o]? = some (.row 1 [outV l r]) ∧ (l ≠ [] → H[r]? = some (.row 5 (l.map Tre.av)))
def FrS (H H' : List AObj) (o : Nat) (l : List Tre) (r : Nat) : Prop := H.length ≤ H'.length ∧ ∀ i, i < H.length → i ≠ o → (l ≠ [] → i ≠ r) → H'[i]? = H[i]?
theorem outV_cons {l : List Tre} {r : Nat} (h : l ≠ []) : outV l r = .slc r 0 l.length l.length := by cases l <;> simp [outV] at h ⊢
theorem outV_ne (l : List Tre) (r : Nat) : ∀ cs, outV l r ≠ .agg cs := by cases l <;> simp [outV]
theorem outV_cells (l : List Tre) (r : Nat) : (outV l r).cells = [outV l r] := by cases l <;> rfl
theorem OutS.lt {H : List AObj} {o r : Nat} {l : List Tre} (h : OutS H o l r) : o < H.length := (List.getElem?_eq_some_iff.1 h.1).1
theorem OutS.rlt {H : List AObj} {o r : Nat} {l : List Tre} (h : OutS H o l r) (hl : l ≠ []) : r < H.length := (List.getElem?_eq_some_iff.1 (h.2 hl)).1
theorem OutS.ne {H : List AObj} {o r : Nat} {l : List Tre} (h : OutS H o l r) (hl : l ≠ []) : o ≠ r := fun e => by
  have h1 := h.1; have h2 := h.2 hl
  rw [e, h2] at h1; simp at h1
theorem lit_el {β : Type} (H : List AObj) (K : AV → List AObj → List Nat → Option β) : litK 5 1 (.agg [(.int .i64 0), .nils, .nils, .nils, .nils]) [(0, (.agg [(.int .i64 0), .nils, .nils, .nils, .nils]))] H K = K (.lst [Tre.nil.av]) H [] := Eq.trans rfl rfl
theorem litD_el (H : List AObj) : litD 5 1 (.agg [(.int .i64 0), .nils, .nils, .nils, .nils]) [(0, (.agg [(.int .i64 0), .nils, .nils, .nils, .nils]))] H = some (.lst [Tre.nil.av]) := Eq.trans rfl rfl
/-- out = append(out, t) -/
theorem pushT_ok (t : Tre) (x0 x1 a2 a3 a4 a6 a7 a8 a9 a10 a11 : AV) {H : List AObj} {o b r : Nat} {l : List Tre} (E : List Nat) (hO : OutS H o l r) (hb : H[b]? = some (.row 5 [t.av])) (hbo : b ≠ o) (hbr : l ≠ [] → b ≠ r) (hl : l.length < 2^40) :
    ∃ H' E16 E18 E19 r', OutS H' o (l ++ [t]) r' ∧ FrS H H' o l r ∧ (l ≠ [] → r' = r) ∧ (l = [] → H.length ≤ r') ∧ ∀ (K : List AObj → List Nat → List Nat → List Nat → List Nat → Option R3),
      drawK (SwapOk Tryd.prog C.G (EV C) (C.hint 76) 3 (opsOf Tryd.f76 3) ⟨[x0, x1, .ptr o 1 0 0, .ptr b 1 0 0, a2, a3, a4, (.bool false), a6, a7, a8, a9, a10, a11, (.tup []), (.tup []), (.tup []), (.tup []), (.tup []), (.tup []), (.tup []), (.tup []), (.tup []), (.tup []), (.tup []), (.tup [])], H, E⟩)
      ((loadA false 1 (.ptr o 1 0 0) H).bind fun a12 =>
      (loadA true 5 (.ptr b 1 0 0) H).bind fun a13 =>
      (lenV a12 H).bind fun a14 =>
      litK 5 1 (.agg [(.int .i64 0), .nils, .nils, .nils, .nils]) [(0, (.agg [(.int .i64 0), .nils, .nils, .nils, .nils]))] H fun a15 H15 E15 =>
      appK 5 104 a12 a15 H15 fun a16 H16 E16 =>
      (ixA 5 a16 a14 H16).bind fun a17 =>
      stoK 5 a17 a13 H16 fun H18 E18 =>
      stoK 1 (.ptr o 1 0 0) a16 H18 fun H19 E19 => K H19 E19 E18 E16 E15) = K H' E19 E18 E16 [] := by
  have f0 := ld_cell hO.1 (outV_cells l r)
  have f1 := ld_box hb
  have f2 : lenV (outV l r) H = some (.int .i64 (l.length : Int)) := by
    cases l with
    | nil => rfl
    | cons a l => exact lenV_slc (hO.2 (by simp)) (by simp)
  -- the row behind append
  have ⟨r', H16, f4, g1, g2, g3, g4, g5⟩ : ∃ (r' : Nat) (H16 : List AObj), (∀ {β : Type} (K : AV → List AObj → List Nat → Option β), appK 5 104 (outV l r) (.lst [Tre.nil.av]) H K = K (.slc r' 0 (l.length + 1) (l.length + 1)) H16 []) ∧ H16[r']? = some (.row 5 (l.map Tre.av ++ [Tre.nil.av])) ∧ FrS H H16 o l r ∧ H16[o]? = H[o]? ∧ (l ≠ [] → r' = r) ∧ (l = [] → H.length ≤ r') := by
    cases l with
    | nil =>
      refine ⟨H.length, H ++ [.row 5 [Tre.nil.av]], fun K => rfl, by simp, ⟨by simp, fun i hi _ _ => List.getElem?_append_left hi⟩, List.getElem?_append_left hO.lt, by simp, fun _ => Nat.le_refl _⟩
    | cons a l =>
      have hr := hO.2 (by simp)
      have hne := hO.ne (by simp)
      refine ⟨r, H.set r (.row 5 ((a :: l).map Tre.av ++ [Tre.nil.av])), fun K => ?_, ?_, ⟨by simp, fun i hi _ h => ?_⟩, ?_, fun _ => rfl, by simp⟩
      · rw [outV_cons (by simp), appK_row (es := (a :: l).map Tre.av) (ys := [Tre.nil.av]) rfl hr (by simp) rfl (by decide) (by decide) (by decide) (by simp at hl ⊢; omega), esc_good (by simp [goodL])]
        simp
      · rw [List.getElem?_set_self (hO.rlt (by simp))]
      · rw [List.getElem?_set_ne (Ne.symm (h (by simp)))]
      · rw [List.getElem?_set_ne (Ne.symm hne)]
  have hro : r' ≠ o := fun e => by
    rw [e] at g1; rw [g1, hO.1] at g3; simp at g3
  have hel : (l.map Tre.av ++ [Tre.nil.av])[l.length]? = some Tre.nil.av := by simp
  have hlen : (l.map Tre.av ++ [Tre.nil.av]).length = l.length + 1 := by simp
  have hset : (l.map Tre.av ++ [Tre.nil.av]).set l.length t.av = (l ++ [t]).map Tre.av := by
    rw [List.set_append_right _ _ (by simp)]; simp
  have r16 : r' < H16.length := (List.getElem?_eq_some_iff.1 g1).1
  have o16 : o < H16.length := by rw [hO.1] at g3; exact (List.getElem?_eq_some_iff.1 g3).1
  have f5 := ix_row (k := .i64) g1 hlen (show l.length < l.length + 1 by omega)
  have f6 : ∀ {β : Type} (K : List AObj → List Nat → Option β), stoK 5 (.ptr r' (l.length + 1) l.length 0) t.av H16 K = K (H16.set r' (.row 5 ((l ++ [t]).map Tre.av))) [] := fun K => by rw [sto_el g1 hlen hel, hset]
  have h18o : (H16.set r' (.row 5 ((l ++ [t]).map Tre.av)))[o]? = some (.row 1 [outV l r]) := by rw [List.getElem?_set_ne hro, g3, hO.1]
  have f7 : ∀ {β : Type} (K : List AObj → List Nat → Option β), stoK 1 (.ptr o 1 0 0) (.slc r' 0 (l.length + 1) (l.length + 1)) (H16.set r' (.row 5 ((l ++ [t]).map Tre.av))) K = K ((H16.set r' (.row 5 ((l ++ [t]).map Tre.av))).set o (.row 1 [.slc r' 0 (l.length + 1) (l.length + 1)])) (escs o [.slc r' 0 (l.length + 1) (l.length + 1)]) := fun K => sto_cell h18o (outV_ne l r) rfl rfl
  have g7 : ∀ {β : Type} (K : List AObj → List Nat → Option β), stoK 1 (.ptr o 1 0 0) (.slc r' 0 (l.length + 1) (l.length + 1)) H16 K = K (H16.set o (.row 1 [.slc r' 0 (l.length + 1) (l.length + 1)])) (escs o [.slc r' 0 (l.length + 1) (l.length + 1)]) := fun K => sto_cell (g3.trans hO.1) (outV_ne l r) rfl rfl
  have hmr : (H16.set o (.row 1 [.slc r' 0 (l.length + 1) (l.length + 1)]))[r']? = some (.row 5 (l.map Tre.av ++ [Tre.nil.av])) := by rw [List.getElem?_set_ne (Ne.symm hro), g1]
  have h19r : ((H16.set r' (.row 5 ((l ++ [t]).map Tre.av))).set o (.row 1 [.slc r' 0 (l.length + 1) (l.length + 1)]))[r']? = some (.row 5 ((l ++ [t]).map Tre.av)) := by
    rw [List.getElem?_set_ne (Ne.symm hro), List.getElem?_set_self r16]
  have g6 : ∀ {β : Type} (K : List AObj → List Nat → Option β), stoK 5 (.ptr r' (l.length + 1) l.length 0) t.av (H16.set o (.row 1 [.slc r' 0 (l.length + 1) (l.length + 1)])) K = K ((H16.set r' (.row 5 ((l ++ [t]).map Tre.av))).set o (.row 1 [.slc r' 0 (l.length + 1) (l.length + 1)])) [] := fun K => by
    rw [sto_el hmr hlen hel, hset, List.set_comm _ _ (Ne.symm hro)]
  have h19 : OutS ((H16.set r' (.row 5 ((l ++ [t]).map Tre.av))).set o (.row 1 [.slc r' 0 (l.length + 1) (l.length + 1)])) o (l ++ [t]) r' := by
    refine ⟨?_, fun _ => h19r⟩
    rw [List.getElem?_set_self (by simpa using o16), outV_cons (by simp), List.length_append]; rfl
  refine ⟨_, [], [], escs o [.slc r' 0 (l.length + 1) (l.length + 1)], r', h19, ⟨by simpa using g2.1, fun i hi h1 h2 => ?_⟩, g4, g5, fun K => ?_⟩
  · rw [List.getElem?_set_ne (Ne.symm h1)]
    by_cases hir : i = r'
    · exfalso
      by_cases hl0 : l = []
      · have := g5 hl0; omega
      · exact h2 hl0 (by rw [hir, g4 hl0])
    · rw [List.getElem?_set_ne (Ne.symm hir)]; exact g2.2 i hi h1 h2
  · have hsw : SwapOk Tryd.prog C.G (EV C) (C.hint 76) 3 (opsOf Tryd.f76 3) ⟨[x0, x1, .ptr o 1 0 0, .ptr b 1 0 0, a2, a3, a4, (.bool false), a6, a7, a8, a9, a10, a11, (.tup []), (.tup []), (.tup []), (.tup []), (.tup []), (.tup []), (.tup []), (.tup []), (.tup []), (.tup []), (.tup []), (.tup [])], H, E⟩ := by
      refine l3_swap (Hm := H16.set o (.row 1 [.slc r' 0 (l.length + 1) (l.length + 1)])) f0 f1 f2 (fun K => lit_el H K) (fun K => f4 K) f5 (fun K => f6 K) (fun K => f7 K) (ix_row h19r (by simp) (by omega)) (ix_row hmr hlen (by omega)) (fun K => g7 _) (fun K => g6 _) (fun K => f6 K) (fun K => f7 K) (litD_el H)
    rw [drawK_t hsw, f0, Option.bind_some, f1, Option.bind_some, f2, Option.bind_some, lit_el, f4, f5, Option.bind_some, f6, f7]
theorem endB_kp {n : Nat} {v : AV} {H : List AObj} {E : List Nat} (h : v.good = true) : endB false true n v H E = some (v, H, E) := by
  simp [endB, endA, frz_good _ v h, kills_good v h, killAll]
theorem callK_ptrE {β : Type} {env : Env} {g : FuncId} {args : List AV} {H H' : List AObj} {E : List Nat} {K : AV → List AObj → List Nat → Option β} {v : AV} (h0 : frzL H args = some args) (h1 : belL 0 args = false) (h2 : killsL args = []) (h3 : env g args H = some (v, H', E)) :
    callK env false g args H K = K v H' E := by
  simp [callK, callA, h0, h1, h2, killAll, h3]
theorem okF_list1 : okF Tryd.prog n_tree_List_1 = true := by kernel_rfl
def walkC (w o : Nat) : AV := .clo n_tree_List_1 [] [.ptr w 1 0 0, .ptr o 1 0 0]
theorem treeGo_call {H H' : List AObj} {E : List Nat} {t : Tre} {w o : Nat} (h : EV C n_tree_List_1 [t.av, .ptr w 1 0 0, .ptr o 1 0 0] H = some (.tup [], H', E)) (K : AV → List AObj → List Nat → Option R3) :
    valK Tryd.prog (EV C) false (walkC w o) [t.av] H K = K (.tup []) H' E := by
  simp only [walkC, valK, okF_list1, if_true]
  exact callK_ptrE (args := [t.av, .ptr w 1 0 0, .ptr o 1 0 0]) (frzL_cons (frz_good _ _ (good_tr t)) rfl) (by simp [belL, AV.bel]) (by simp [killsL, kills, kills_good _ (good_tr t)]) h
theorem walk_ok (t : Tre) : formedF t = true → ∀ (H : List AObj) (w o r : Nat) (l : List Tre), OutS H o l r → H[w]? = some (.row 1 [walkC w o]) → w ≠ o → l.length + (nodesF t).length ≤ 2^40 →
    ∃ H' E r', EV C n_tree_List_1 [t.av, .ptr w 1 0 0, .ptr o 1 0 0] H = some (.tup [], H', E) ∧ OutS H' o (l ++ nodesF t) r' ∧ FrS H H' o l r ∧ (l ≠ [] → r' = r) ∧ (l = [] → nodesF t ≠ [] → H.length ≤ r') := by
  induction t using Tre.ind with
  | h t ih =>
    intro hf H w o r l hO hw hwo hlen
    have hb : (H ++ [AObj.row 5 [t.av]])[H.length]? = some (.row 5 [t.av]) := by simp
    have hwlt : w < H.length := (List.getElem?_eq_some_iff.1 hw).1
    have holt := hO.lt
    have hO1 : OutS (H ++ [.row 5 [t.av]]) o l r := ⟨by rw [List.getElem?_append_left holt]; exact hO.1, fun h => by rw [List.getElem?_append_left (hO.rlt h)]; exact hO.2 h⟩
    have hw1 : (H ++ [AObj.row 5 [t.av]])[w]? = some (.row 1 [walkC w o]) := by rw [List.getElem?_append_left hwlt]; exact hw
    rcases formed_two hf with hk | ⟨lt, rt, hk⟩
    · refine ⟨H ++ [.row 5 [t.av]], [], r, ?_, by rw [nodes_nil hk, List.append_nil]; exact hO1, ⟨by simp, fun i hi _ _ => List.getElem?_append_left hi⟩, fun _ => rfl, fun _ h => absurd (nodes_nil hk) h⟩
      refine tree_List_1_of ?_
      simp only [new_tr, offA_ptr, Nat.zero_add, ld_boxs hb, Option.bind_some, hk, lenV_kids, List.length_nil, eql_int, Int.natCast_zero, decide_true, condK_t]
      exact endB_kp rfl
    · have hl := formed_kids hf lt (by rw [hk]; simp)
      have hr := formed_kids hf rt (by rw [hk]; simp)
      have hn := nodes_two hk
      rw [hn, List.length_append, List.length_cons] at hlen
      have x0 : ∀ H, ixA 5 (kidsA t.kids) (.int .i64 0) H = some (.ip lt.av.cells) := fun H => ixA_kids (i := 0) (by rw [hk]; rfl)
      have x1 : ∀ H, ixA 5 (kidsA t.kids) (.int .i64 1) H = some (.ip rt.av.cells) := fun H => ixA_kids (i := 1) (by rw [hk]; rfl)
      obtain ⟨H2, E2, r2, c2, o2, fr2, q2, q2'⟩ := ih lt (by rw [hk]; simp) hl (H ++ [.row 5 [t.av]]) w o r l hO1 hw1 hwo (by omega)
      have hb1 : H.length < (H ++ [AObj.row 5 [t.av]]).length := by simp
      have hb2 : H2[H.length]? = some (.row 5 [t.av]) := by
        rw [fr2.2 H.length hb1 (by omega) (fun h => by have := hO.rlt h; omega)]; exact hb
      have hwr : l ≠ [] → w ≠ r := fun h e => by have := hO.2 h; rw [← e, hw] at this; simp at this
      have hw2 : H2[w]? = some (.row 1 [walkC w o]) := by
        rw [fr2.2 w (by simp; omega) hwo hwr]; exact hw1
      have hbr2 : l ++ nodesF lt ≠ [] → H.length ≠ r2 := fun h e => by
        by_cases hl0 : l = []
        · have := q2' hl0 (by rw [hl0] at h; simpa using h)
          simp at this; omega
        · have := q2 hl0; have := hO.rlt hl0; omega
      obtain ⟨H3, E16, E18, E19, r3, o3, fr3, q3, q3', c3⟩ := pushT_ok t t.av (.ptr w 1 0 0) (.ptr H.length 1 0 4) (kidsA t.kids) (.int .i64 (t.kids.length : Int)) (walkC w o) (.ptr H.length 1 0 4) (kidsA t.kids) (.ip lt.av.cells) lt.av (.tup []) (E2 ++ ([] ++ [])) o2 hb2 (by omega) hbr2 (by rw [List.length_append]; omega)
      have hb3 : H3[H.length]? = some (.row 5 [t.av]) := by
        rw [fr3.2 H.length (by have := fr2.1; simp at this; omega) (by omega) hbr2]; exact hb2
      have hwr2 : l ++ nodesF lt ≠ [] → w ≠ r2 := fun h e => by have := o2.2 h; rw [← e, hw2] at this; simp at this
      have hw3 : H3[w]? = some (.row 1 [walkC w o]) := by
        rw [fr3.2 w (by have := fr2.1; simp at this; omega) hwo hwr2]; exact hw2
      obtain ⟨H4, E4, r4, c4, o4, fr4, q4, q4'⟩ := ih rt (by rw [hk]; simp) hr H3 w o r3 (l ++ nodesF lt ++ [t]) o3 hw3 hwo (by simp; omega)
      have hk2 : ¬ ((t.kids.length : Nat) : Int) = 0 := by rw [hk]; simp
      have hl1 : loadA false 1 (.ptr w 1 0 0) (H ++ [.row 5 [t.av]]) = some (walkC w o) := ld_cell hw1 rfl
      have hl3 : loadA false 1 (.ptr w 1 0 0) H3 = some (walkC w o) := ld_cell hw3 rfl
      have hr3 : r4 = r3 := q4 (by simp)
      refine ⟨H4, E4 ++ (E19 ++ (E18 ++ (E16 ++ ([] ++ (E2 ++ ([] ++ [])))))), r4, ?_, by rw [hn]; simpa using o4, ⟨?_, fun i hi h1 h2 => ?_⟩, fun h => ?_, fun h1 h2 => ?_⟩
      · refine tree_List_1_of ?_
        simp only [new_tr, offA_ptr, Nat.zero_add, ld_boxs hb, Option.bind_some, lenV_kids, eql_int, hk2, decide_false, condK_f, hl1, x0, loadA_tr]
        rw [treeGo_call c2, c3]
        simp only [hl3, ld_boxs hb3, Option.bind_some, x1, loadA_tr]
        rw [treeGo_call c4]
        exact endB_kp rfl
      · have := fr2.1; have := fr3.1; have := fr4.1; simp at *; omega
      · have a1 := fr2.1; have a2 := fr3.1
        simp only [List.length_append, List.length_singleton] at a1
        have n2 : l ++ nodesF lt ≠ [] → i ≠ r2 := fun h e => by
          by_cases hl0 : l = []
          · have := q2' hl0 (by rw [hl0] at h; simpa using h)
            simp only [List.length_append, List.length_singleton] at this; omega
          · exact h2 hl0 (by rw [e, q2 hl0])
        have n3 : i ≠ r3 := fun e => by
          by_cases hl0 : l ++ nodesF lt = []
          · have := q3' hl0; omega
          · exact n2 hl0 (by rw [e, q3 hl0])
        rw [fr4.2 i (by omega) h1 (fun _ => n3), fr3.2 i (by omega) h1 n2, fr2.2 i (by simp; omega) h1 h2, List.getElem?_append_left hi]
      · rw [hr3, q3 (by simp [h]), q2 h]
      · rw [hr3]
        by_cases hl0 : nodesF lt = []
        · have := q3' (by simp [h1, hl0]); have := fr2.1; simp at this; omega
        · rw [q3 (by simp [h1, hl0])]
          have := q2' h1 hl0; simp at this; omega
theorem List_ok (t : Tre) (ht : t.ok) (hn : (nodesF t).length ≤ 2^40) : EV C n_tree_List [t.av] [] = some (kidsA (if checkF t = 0 then nodesF t else []), [], []) := by
  refine tree_List_of ?_
  simp only [List.length_nil, new_tr, List.nil_append, ld_tr0, Option.bind_some]
  rw [callK_ok (by simp) (Check_ok t ht)]
  by_cases hc : checkF t = 0
  · have hi : ∀ (H : List AObj) (v : AV) (K : AV → List AObj → List Nat → Option R3), v = .nils ∨ v = .nilf → newK v H K = K (.ptr H.length 1 0 0) (H ++ [.row 1 [v]]) [] := fun H v K h => by rcases h with rfl | rfl <;> rfl
    have s1 : ∀ (K : List AObj → List Nat → Option R3), stoK 1 (.ptr 2 1 0 0) (walkC 2 1) [.row 5 [t.av], .row 1 [.nils], .row 1 [.nilf]] K = K [.row 5 [t.av], .row 1 [.nils], .row 1 [walkC 2 1]] (escs 2 [walkC 2 1]) := fun K => sto_cell (v := .nilf) rfl (by simp) rfl rfl
    have e : (AV.clo n_tree_List_1 [] [.ptr 2 1 0 0, .ptr 1 1 0 0]) = walkC 2 1 := rfl
    have l1 : ∀ T : List AObj, loadA false 1 (.ptr 2 1 0 0) (.row 5 [t.av] :: .row 1 [.nils] :: .row 1 [walkC 2 1] :: T) = some (walkC 2 1) := fun T => ld_cell rfl rfl
    obtain ⟨H', E, r', c, o', fr, q, q'⟩ := walk_ok t (check_formed hc) [.row 5 [t.av], .row 1 [.nils], .row 1 [walkC 2 1]] 2 1 0 [] ⟨rfl, by simp⟩ rfl (by decide) (by simpa using hn)
    simp only [hc, errA, if_true, neq_nil1, condK_f, Option.bind_some, hi _ .nils _ (.inl rfl), hi _ .nilf _ (.inr rfl), List.length_cons, List.length_nil, List.cons_append, List.nil_append, Nat.reduceAdd, e, s1, l1, ld_tr0]
    rw [treeGo_call c]
    rw [List.nil_append] at o'
    rw [ld_cell o'.1 (outV_cells _ _), Option.bind_some]
    by_cases hn0 : nodesF t = []
    · rw [hn0]; exact endB_frz rfl rfl
    · rw [outV_cons hn0]
      refine endB_frz (frz_row (o'.2 hn0) (by simp) (goodL_tr _)) (good_kids _)
  · simp only [errA_ne hc, nq2, condK_t, Option.bind_some, hc, if_false]
    exact endB_frz rfl rfl
end Go.Pm
namespace Go.Pm
open Go.Proofs
set_option linter.unusedVariables false
set_option linter.unusedSimpArgs false
abbrev Bs := List UInt8
def ltB (a b : Bs) : Bool := Op.bytesLess a b
theorem ltB_nil (b : Bs) : ltB [] b = !b.isEmpty := by cases b <;> rfl
theorem ltB_cons_nil (a : UInt8) (x : Bs) : ltB (a :: x) [] = false := rfl
theorem ltB_cons (a b : UInt8) (x y : Bs) : ltB (a :: x) (b :: y) = (decide (a < b) || (decide (a = b) && ltB x y)) := by
  show (decide (a < b) || (a == b && Op.bytesLess x y)) = _
  congr 1
theorem ltB_irrefl : ∀ a, ltB a a = false
  | [] => rfl
  | a :: x => by simp [ltB_cons, ltB_irrefl x]
theorem ltB_trans : ∀ {a b c : Bs}, ltB a b = true → ltB b c = true → ltB a c = true
  | [], b, [], h1, h2 => by cases b <;> simp [ltB_nil, ltB_cons_nil] at h1 h2
  | [], _, _ :: _, _, _ => rfl
  | _ :: _, [], _, h1, _ => by simp [ltB_cons_nil] at h1
  | _ :: _, _ :: _, [], _, h2 => by simp [ltB_cons_nil] at h2
  | a :: x, b :: y, c :: z, h1, h2 => by
    simp only [ltB_cons, Bool.or_eq_true, decide_eq_true_eq, Bool.and_eq_true] at h1 h2 ⊢
    rcases h1 with h1 | ⟨rfl, h1⟩
    · rcases h2 with h2 | ⟨rfl, h2⟩
      · exact .inl (UInt8.lt_trans h1 h2)
      · exact .inl h1
    · rcases h2 with h2 | ⟨rfl, h2⟩
      · exact .inl h2
      · exact .inr ⟨rfl, ltB_trans h1 h2⟩
theorem ltB_tri : ∀ {a b : Bs}, ltB a b = false → ltB b a = false → a = b
  | [], [], _, _ => rfl
  | [], _ :: _, h, _ => by simp [ltB_nil] at h
  | _ :: _, [], _, h => by simp [ltB_nil] at h
  | a :: x, b :: y, h1, h2 => by
    simp only [ltB_cons, Bool.or_eq_false_iff, decide_eq_false_iff_not, Bool.and_eq_false_iff] at h1 h2
    have hab : a = b := by
      have := h1.1; have := h2.1
      exact UInt8.le_antisymm (UInt8.not_lt.1 h2.1) (UInt8.not_lt.1 h1.1)
    subst hab
    rw [ltB_tri (a := x) (b := y) (by simpa using h1.2) (by simpa using h2.2)]
theorem ltB_asymm {a b : Bs} (h : ltB a b = true) : ltB b a = false := by
  cases hb : ltB b a with
  | false => rfl
  | true => have := ltB_trans h hb; rw [ltB_irrefl] at this; cases this
theorem cmp_spec : ∀ (a b : Bs), Lib.compareBytes a b = if ltB a b = true then -1 else if ltB b a = true then 1 else 0
  | [], [] => rfl
  | [], _ :: _ => rfl
  | _ :: _, [] => rfl
  | a :: x, b :: y => by
    rw [Lib.compareBytes, ltB_cons, ltB_cons, cmp_spec x y]
    by_cases h1 : a < b
    · simp [h1]
    · by_cases h2 : b < a
      · have : a ≠ b := fun e => by subst e; exact h1 h2
        simp [h1, h2, this]
      · have : a = b := UInt8.le_antisymm (UInt8.not_lt.1 h2) (UInt8.not_lt.1 h1)
        subst this; simp
theorem cmp_ge (a b : Bs) : decide (0 ≤ Lib.compareBytes a b) = !ltB a b := by
  rw [cmp_spec]; cases h : ltB a b <;> simp; split <;> simp
theorem cmp_lt (a b : Bs) : decide (Lib.compareBytes a b < 0) = ltB a b := by
  rw [cmp_spec]; cases h : ltB a b <;> simp; split <;> simp
theorem Compare_ok (a b : Bs) : EV C n_bytes_Compare [bys a, bys b] [] = some (.int .i64 (Lib.compareBytes a b), [], []) := by
  have hI : C.I n_bytes_Compare = some cmpF := by
    show addI n_bytes_Compare cmpF (clonesI C0 [n_Clone_byte, n_scan_next]) n_bytes_Compare = some cmpF
    exact if_pos rfl
  rw [EV_I C hI]
  show (toBytes (a.map u8)).bind (fun l => (toBytes (b.map u8)).bind fun m => some (AV.int .i64 (Lib.compareBytes l m), [], [])) = _
  rw [toBytes_u8, Option.bind_some, toBytes_u8]; rfl
theorem CompareK {β : Type} (a b : Bs) (H : List AObj) (K : AV → List AObj → List Nat → Option β) : callK (EV C) false n_bytes_Compare [bys a, bys b] H K = K (.int .i64 (Lib.compareBytes a b)) H [] := callK_ok (by simp) (Compare_ok a b)
theorem CompareD (a b : Bs) (H : List AObj) : callD (EV C) n_bytes_Compare [bys a, bys b] H = some (.int .i64 (Lib.compareBytes a b)) := callD_ok (by simp) (Compare_ok a b)
theorem lss_str (d : TypeDesc) (c : TypeId → Bool) (b : Bool) (x y : Bs) : binA .lss d c b (.str ⟨x.toArray⟩) (.str ⟨y.toArray⟩) = some (.bool (ltB x y)) := by
  show some (AV.bool (Op.bytesLess (bl ⟨x.toArray⟩) (bl ⟨y.toArray⟩))) = _
  rw [bl_mk, bl_mk]; rfl
structure Spn where
  (a b : Bs)
  (o : Bool)
def Spn.av (s : Spn) : AV := .agg [bys s.a, bys s.b, .bool s.o]
@[simp] theorem good_sp (s : Spn) : s.av.good = true := by simp [Spn.av, AV.good, goodL]
theorem new_sp {β : Type} (s : Spn) (H : List AObj) (K : AV → List AObj → List Nat → Option β) : newK s.av H K = K (.ptr H.length 1 0 0) (H ++ [.row 3 [s.av]]) [] := new_agg (by simp) rfl H K
theorem ld_sp0_a (s : Spn) (T : List AObj) : loadA false 1 (.ptr 0 1 0 0) (.row 3 [s.av] :: T) = some (bys s.a) := Eq.trans rfl rfl
theorem ld_sp0_b (s : Spn) (T : List AObj) : loadA false 1 (.ptr 0 1 0 1) (.row 3 [s.av] :: T) = some (bys s.b) := Eq.trans rfl rfl
theorem ld_sp0_o (s : Spn) (T : List AObj) : loadA false 1 (.ptr 0 1 0 2) (.row 3 [s.av] :: T) = some (.bool s.o) := Eq.trans rfl rfl
theorem ld_sp0 (s : Spn) (T : List AObj) : loadA true 3 (.ptr 0 1 0 0) (.row 3 [s.av] :: T) = some s.av := Eq.trans rfl rfl
theorem ld_sp1 (s : Spn) (o0 : AObj) (T : List AObj) : loadA true 3 (.ptr 1 1 0 0) (o0 :: .row 3 [s.av] :: T) = some s.av := Eq.trans rfl rfl
def inF (s : Spn) (k : Bs) : Bool := !ltB k s.a && (s.o || ltB k s.b)
theorem In_ok (s : Spn) (k : Bs) : EV C n_scan_In [s.av, bys k] [] = some (.bool (inF s k), [], []) := by
  refine scan_In_of ?_
  simp -implicitDefEqProofs only [new_sp, ld_sp0_a, ld_sp0_b, ld_sp0_o, CompareK, cmp_ge, cmp_lt, ZS, Nat.reduceAdd]
  unfold inF
  cases ltB k s.a with
  | true => simp only [Bool.not_true, splitK_f, Bool.false_and]; exact endB_good rfl
  | false =>
    simp only [Bool.not_false, splitK_t, Bool.true_and]
    cases s.o with
    | true => simp only [splitK_t, Bool.true_or]; exact endB_good rfl
    | false =>
      simp -implicitDefEqProofs only [splitK_f, Bool.false_or, CompareK, cmp_lt, ZS, Nat.reduceAdd]
      exact endB_good rfl
theorem appK_fresh {β : Type} {z by_ : Nat} {x y : AV} {ys : List AV} {H : List AObj} {K : AV → List AObj → List Nat → Option β} (hx : x = .emp none ∨ x = .nils) (hy : elemsA y H = some ys) (hne : ys.isEmpty = false) (hz : lz z ys = true) (h1 : 0 < z) (h2 : 0 < by_) (h3 : by_ ≤ 1048576) (h4 : ys.length * by_ ≤ 140737489400832) :
    appK z by_ x y H K = K (.slc H.length 0 ys.length ys.length) (H ++ [.row z ys]) [] := by
  unfold appK appendA
  rw [hy, Option.bind_some]
  rcases hx with rfl | rfl <;> simp [hne, hz, h1, h2, h3, h4]
theorem InK {β : Type} (s : Spn) (k : Bs) (H : List AObj) (K : AV → List AObj → List Nat → Option β) : callK (EV C) false n_scan_In [s.av, bys k] H K = K (.bool (inF s k)) H [] := callK_ok (by simp) (In_ok s k)
end Go.Pm
namespace Go.Pm
open Go.Proofs
set_option linter.unusedVariables false
set_option linter.unusedSimpArgs false
structure Pr where
  (key value : Bs)
  deriving DecidableEq
def Pr.av (p : Pr) : AV := .agg [bys p.key, bys p.value]
@[simp] theorem good_pr (p : Pr) : p.av.good = true := by simp [Pr.av, AV.good, goodL]
def prsA (l : List Pr) : AV := .lst (l.map Pr.av)
@[simp] theorem goodL_pr (l : List Pr) : goodL (l.map Pr.av) = true := goodL_map good_pr l
@[simp] theorem good_prs (l : List Pr) : (prsA l).good = true := goodL_pr l
theorem lenV_prs (l : List Pr) (H : List AObj) : lenV (prsA l) H = some (.int .i64 (l.length : Int)) := by unfold prsA; simp
def pairT (t : Tre) : Pr := ⟨t.key, t.value⟩
def risK : List Bs → Bool
  | a :: b :: l => ltB a b && risK (b :: l)
  | _ => true
/-- the keys rise -/
def risN (l : List Tre) : Bool := risK (l.map Tre.key)
theorem dr_tr1 (t : Tre) : List.drop 1 t.av.cells = [bys t.key, bys t.value, bys t.digest, kidsA t.kids] := by rw [cells_tr]; rfl
theorem sto_t {β : Type} {H : List AObj} {b : Nat} {cs : List AV} {t : Tre} {K : List AObj → List Nat → Option β} (h : H[b]? = some (.row 5 [.agg cs])) (hc : cs.length = 5) : stoK 5 (.ptr b 1 0 0) t.av H K = K (H.set b (.row 5 [t.av])) [] := by
  rw [av_eq, sto_agg h hc rfl rfl, escs_good (by simp [goodL, AV.good])]
theorem ldb_k {H : List AObj} {b : Nat} {t : Tre} (h : H[b]? = some (.row 5 [t.av])) : loadA false 1 (.ptr b 1 0 0) H = some (.int .i64 t.kind) := by rw [av_eq] at h; exact ld_fld h rfl
theorem ldb_a {H : List AObj} {b : Nat} {t : Tre} (h : H[b]? = some (.row 5 [t.av])) : loadA false 1 (.ptr b 1 0 1) H = some (bys t.key) := by rw [av_eq] at h; exact ld_fld h rfl
theorem ldb_b {H : List AObj} {b : Nat} {t : Tre} (h : H[b]? = some (.row 5 [t.av])) : loadA false 1 (.ptr b 1 0 2) H = some (bys t.value) := by rw [av_eq] at h; exact ld_fld h rfl
theorem risN_drop {l : List Tre} {i : Nat} (h : i + 1 < l.length) : risN (l.drop i) = (ltB (l[i]'(by omega)).key l[i + 1].key && risN (l.drop (i + 1))) := by
  have e1 : l.drop i = l[i]'(by omega) :: l.drop (i + 1) := List.drop_eq_getElem_cons (by omega)
  have e2 : l.drop (i + 1) = l[i + 1] :: l.drop (i + 2) := List.drop_eq_getElem_cons h
  rw [e1, e2]; rfl
end Go.Pm
namespace Go.Pm
open Go.Proofs
set_option linter.unusedVariables false
set_option linter.unusedSimpArgs false
theorem ixA_prs {l : List Pr} {k : IntKind} {i : Nat} {p : Pr} {H : List AObj} (h : l[i]? = some p) : ixA 2 (prsA l) (.int k i) H = some (.ip [bys p.key, bys p.value]) := by
  unfold prsA
  exact ixA_lst (e := p.av) (by omega) (by simp [h]) rfl
theorem map_some {α β : Type} (f : α → β) (x : α) : (some x).map f = some (f x) := rfl
end Go.Pm
namespace Go.Pm
open Go.Proofs
set_option linter.unusedVariables false
set_option linter.unusedSimpArgs false
theorem ty_bool {B : Nat} {f : Nat} {cs : List AV} (h : tyC Tryd.prog B f 4 cs) : ∃ b, cs = [.bool b] := by
  cases f with
  | zero => simp [tyC] at h
  | succ f =>
    simp only [tyC, Tryd.underlying4] at h
    exact h
theorem agT24 : agT Tryd.prog 24 = true := by unfold agT; rw [Tryd.underlying24]
theorem ty_spn {B f : Nat} {cs : List AV} {a : AV} (e : a = mkE (agT Tryd.prog 24) cs) (h : tyC Tryd.prog B f 24 cs) : ∃ s : Spn, a = s.av := by
  obtain ⟨f', css, rfl, h2⟩ := ty_struct Tryd.underlying24 h
  obtain ⟨c1, _, rfl, ⟨k1, _⟩, h2⟩ := forall2_1 h2
  obtain ⟨c2, _, rfl, ⟨k2, _⟩, h2⟩ := forall2_1 h2
  obtain ⟨c3, _, rfl, ⟨k3, _⟩, h2⟩ := forall2_1 h2
  obtain rfl := forall2_0 h2
  obtain ⟨x, rfl, _⟩ := ty_bytesB k1
  obtain ⟨y, rfl, _⟩ := ty_bytesB k2
  obtain ⟨b, rfl⟩ := ty_bool k3
  exact ⟨⟨x, y, b⟩, by rw [e, agT24]; rfl⟩
end Go.Pm
namespace Go.Pm
open Go.Proofs
set_option linter.unusedVariables false
set_option linter.unusedSimpArgs false
theorem formed_leaf {t : Tre} (hf : formedF t = true) (h : t.kind = 0 ∨ t.kind = 3) : t.kids = [] := by
  rw [formedF_eq, Bool.and_eq_true] at hf
  have h1 := hf.1
  rcases h with h0 | h3
  · simp only [formed1, h0, if_true, decide_eq_true_eq] at h1
    exact List.length_eq_zero_iff.1 (by omega)
  · simp only [formed1] at h1
    rw [if_neg (by omega), if_neg (by omega), if_neg (by omega), if_pos h3, decide_eq_true_eq] at h1
    exact List.length_eq_zero_iff.1 (by omega)
def Srt (l : List Tre) : Prop := l.Pairwise fun a b => ltB a.key b.key = true
end Go.Pm
