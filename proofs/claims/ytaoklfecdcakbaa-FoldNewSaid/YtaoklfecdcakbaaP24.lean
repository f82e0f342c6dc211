/- A part of the proof: what the functions of the program answer, as plain lists and numbers. -/
import Derived.Test.YtaoklfecdcakbaaP9
import Derived.Test.YtaoklfecdcakbaaP10
import Derived.Test.YtaoklfecdcakbaaP13
import Derived.Test.YtaoklfecdcakbaaP20
import Derived.Test.YtaoklfecdcakbaaP23
namespace Go.Pm
open Go.Proofs
set_option linter.unusedVariables false
set_option linter.unusedSimpArgs false
mutual
def nodesF : Tre → List Tre
  | .mk k a b c ks => match nodesL ks with
    | l :: r :: _ => l ++ .mk k a b c ks :: r
    | _ => []
def nodesL : List Tre → List (List Tre)
  | [] => []
  | t :: ts => nodesF t :: nodesL ts
end
theorem nodes_nil {t : Tre} (h : t.kids = []) : nodesF t = [] := by
  cases t with | mk k a b c ks => simp only [Tre.kids] at h; subst h; rw [nodesF]; rfl
theorem nodes_two {t l r : Tre} (h : t.kids = [l, r]) : nodesF t = nodesF l ++ t :: nodesF r := by
  cases t with | mk k a b c ks => simp only [Tre.kids] at h; subst h; rw [nodesF]; rfl
theorem formed_two {t : Tre} (h : formedF t = true) : t.kids = [] ∨ ∃ l r, t.kids = [l, r] := by
  by_cases h0 : t.kind = 0
  · rw [formedF_eq, Bool.and_eq_true] at h
    have h1 := h.1
    simp only [formed1, h0, if_true, decide_eq_true_eq] at h1
    exact .inl (List.length_eq_zero_iff.1 (by omega))
  · by_cases h3 : t.kind = 3
    · rw [formedF_eq, Bool.and_eq_true] at h
      have h1 := h.1
      simp only [formed1] at h1
      rw [if_neg h0, if_neg (by omega), if_neg (by omega), if_pos h3, decide_eq_true_eq] at h1
      exact .inl (List.length_eq_zero_iff.1 (by omega))
    · obtain ⟨_, _, _, l, r, hk⟩ := formed_node h h0 h3
      exact .inr ⟨l, r, hk⟩
theorem ld_cell {H : List AObj} {o : Nat} {v : AV} (h : H[o]? = some (.row 1 [v])) (hv : v.cells = [v]) : loadA false 1 (.ptr o 1 0 0) H = some v := by
  simp [loadA, h, hv, ldv]
theorem sto_cell {β : Type} {H : List AObj} {o : Nat} {v u : AV} {K : List AObj → List Nat → Option β} (h : H[o]? = some (.row 1 [v])) (hv : ∀ cs, v ≠ .agg cs) (hu : u.cells = [u]) (h1 : u.one = true) :
    stoK 1 (.ptr o 1 0 0) u H K = K (H.set o (.row 1 [u])) (escs o [u]) := by
  have h2 : storeA 1 (.ptr o 1 0 0) u H = some (H.set o (.row 1 [u]), escs o [u]) := by
    unfold storeA
    simp only [h, hu]
    rw [if_pos ⟨by simp, by simp, by simp [h1]⟩]
    have h3 : setC v 0 [u] = some u := by
      unfold setC
      split
      · exact absurd rfl (hv _)
      · rfl
    simp only [List.getElem?_cons_zero, Option.bind_some, h3, Option.map_some, List.set_cons_zero]
  unfold stoK; rw [h2]; rfl
theorem ld_box {H : List AObj} {b : Nat} {t : Tre} (h : H[b]? = some (.row 5 [t.av])) : loadA true 5 (.ptr b 1 0 0) H = some t.av := by
  rw [av_eq] at h ⊢; exact ld_agg h rfl
theorem ld_boxs {H : List AObj} {b : Nat} {t : Tre} (h : H[b]? = some (.row 5 [t.av])) : loadA false 1 (.ptr b 1 0 4) H = some (kidsA t.kids) := by
  rw [av_eq] at h; exact ld_fld h rfl
theorem ix_row {H : List AObj} {r z n i : Nat} {es : List AV} {k : IntKind} (h : H[r]? = some (.row z es)) (hn : es.length = n) (hi : i < n) : ixA z (.slc r 0 n n) (.int k (i : Int)) H = some (.ptr r n i 0) := by
  subst hn
  simp only [ixA, indexA, h]
  rw [if_pos ⟨by omega, by omega, trivial, trivial⟩]
  simp
theorem sto_el {β : Type} {H : List AObj} {r n i : Nat} {es : List AV} {t u : Tre} {K : List AObj → List Nat → Option β} (h : H[r]? = some (.row 5 es)) (hn : es.length = n) (hi : es[i]? = some u.av) :
    stoK 5 (.ptr r n i 0) t.av H K = K (H.set r (.row 5 (es.set i t.av))) [] := by
  have h2 : storeA 5 (.ptr r n i 0) t.av H = some (H.set r (.row 5 (es.set i t.av)), []) := by
    unfold storeA
    simp only [h, hi, cells_tr]
    rw [if_pos ⟨hn, rfl, rfl⟩]
    have h3 : setC u.av 0 [.int .i64 t.kind, bys t.key, bys t.value, bys t.digest, kidsA t.kids] = some t.av := by
      rw [av_eq u, av_eq t]; rfl
    simp only [Option.bind_some, h3, Option.map_some]
    rw [escs_good (by simp [goodL, AV.good])]
  unfold stoK; rw [h2]; rfl
def outV (l : List Tre) (r : Nat) : AV := match l with
  | [] => .nils
  | l => .slc r 0 l.length l.length
def OutS (H : List AObj) (o : Nat) (l : List Tre) (r : Nat) : Prop := H[o]? = some (.row 1 [outV l r]) ∧ (l ≠ [] → H[r]? = some (.row 5 (l.map Tre.av)))
def FrS (H H' : List AObj) (o : Nat) (l : List Tre) (r : Nat) : Prop := H.length ≤ H'.length ∧ ∀ i, i < H.length → i ≠ o → (l ≠ [] → i ≠ r) → H'[i]? = H[i]?
theorem outV_cons {l : List Tre} {r : Nat} (h : l ≠ []) : outV l r = .slc r 0 l.length l.length := by cases l <;> simp [outV] at h ⊢
theorem outV_ne (l : List Tre) (r : Nat) : ∀ cs, outV l r ≠ .agg cs := by cases l <;> simp [outV]
theorem outV_cells (l : List Tre) (r : Nat) : (outV l r).cells = [outV l r] := by cases l <;> rfl
theorem OutS.lt {H : List AObj} {o r : Nat} {l : List Tre} (h : OutS H o l r) : o < H.length := (List.getElem?_eq_some_iff.1 h.1).1
theorem OutS.rlt {H : List AObj} {o r : Nat} {l : List Tre} (h : OutS H o l r) (hl : l ≠ []) : r < H.length := (List.getElem?_eq_some_iff.1 (h.2 hl)).1
theorem OutS.ne {H : List AObj} {o r : Nat} {l : List Tre} (h : OutS H o l r) (hl : l ≠ []) : o ≠ r := fun e => by
  have h1 := h.1; have h2 := h.2 hl
  rw [e, h2] at h1; simp at h1
theorem lit_el {β : Type} (H : List AObj) (K : AV → List AObj → List Nat → Option β) : litK 5 1 (.agg [(.int .i64 0), .nils, .nils, .nils, .nils]) [(0, (.agg [(.int .i64 0), .nils, .nils, .nils, .nils]))] H K = K (.lst [Tre.nil.av]) H [] := Eq.trans rfl rfl
theorem litD_el (H : List AObj) : litD 5 1 (.agg [(.int .i64 0), .nils, .nils, .nils, .nils]) [(0, (.agg [(.int .i64 0), .nils, .nils, .nils, .nils]))] H = some (.lst [Tre.nil.av]) := Eq.trans rfl rfl
/-- out = append(out, t) -/
theorem pushT_ok (t : Tre) (x0 x1 a2 a3 a4 a6 a7 a8 a9 a10 a11 : AV) {H : List AObj} {o b r : Nat} {l : List Tre} (E : List Nat) (hO : OutS H o l r) (hb : H[b]? = some (.row 5 [t.av])) (hbo : b ≠ o) (hbr : l ≠ [] → b ≠ r) (hl : l.length < 2^40) :
    ∃ H' E16 E18 E19 r', OutS H' o (l ++ [t]) r' ∧ FrS H H' o l r ∧ (l ≠ [] → r' = r) ∧ (l = [] → H.length ≤ r') ∧ ∀ (K : List AObj → List Nat → List Nat → List Nat → List Nat → Option R3),
      drawK (SwapOk Try.prog C.G (EV C) (C.hint 78) 3 (opsOf Try.f78 3) ⟨[x0, x1, .ptr o 1 0 0, .ptr b 1 0 0, a2, a3, a4, (.bool false), a6, a7, a8, a9, a10, a11, (.tup []), (.tup []), (.tup []), (.tup []), (.tup []), (.tup []), (.tup []), (.tup []), (.tup []), (.tup []), (.tup []), (.tup [])], H, E⟩)
      ((loadA false 1 (.ptr o 1 0 0) H).bind fun a12 =>
      (loadA true 5 (.ptr b 1 0 0) H).bind fun a13 =>
      (lenV a12 H).bind fun a14 =>
      litK 5 1 (.agg [(.int .i64 0), .nils, .nils, .nils, .nils]) [(0, (.agg [(.int .i64 0), .nils, .nils, .nils, .nils]))] H fun a15 H15 E15 =>
      appK 5 104 a12 a15 H15 fun a16 H16 E16 =>
      (ixA 5 a16 a14 H16).bind fun a17 =>
      stoK 5 a17 a13 H16 fun H18 E18 =>
      stoK 1 (.ptr o 1 0 0) a16 H18 fun H19 E19 => K H19 E19 E18 E16 E15) = K H' E19 E18 E16 [] := by
  have f0 := ld_cell hO.1 (outV_cells l r)
  have f1 := ld_box hb
  have f2 : lenV (outV l r) H = some (.int .i64 (l.length : Int)) := by
    cases l with
    | nil => rfl
    | cons a l => exact lenV_slc (hO.2 (by simp)) (by simp)
  -- the row behind append
  have ⟨r', H16, f4, g1, g2, g3, g4, g5⟩ : ∃ (r' : Nat) (H16 : List AObj), (∀ {β : Type} (K : AV → List AObj → List Nat → Option β), appK 5 104 (outV l r) (.lst [Tre.nil.av]) H K = K (.slc r' 0 (l.length + 1) (l.length + 1)) H16 []) ∧ H16[r']? = some (.row 5 (l.map Tre.av ++ [Tre.nil.av])) ∧ FrS H H16 o l r ∧ H16[o]? = H[o]? ∧ (l ≠ [] → r' = r) ∧ (l = [] → H.length ≤ r') := by
    cases l with
    | nil =>
      refine ⟨H.length, H ++ [.row 5 [Tre.nil.av]], fun K => rfl, by simp, ⟨by simp, fun i hi _ _ => List.getElem?_append_left hi⟩, List.getElem?_append_left hO.lt, by simp, fun _ => Nat.le_refl _⟩
    | cons a l =>
      have hr := hO.2 (by simp)
      have hne := hO.ne (by simp)
      refine ⟨r, H.set r (.row 5 ((a :: l).map Tre.av ++ [Tre.nil.av])), fun K => ?_, ?_, ⟨by simp, fun i hi _ h => ?_⟩, ?_, fun _ => rfl, by simp⟩
      · rw [outV_cons (by simp), appK_row (es := (a :: l).map Tre.av) (ys := [Tre.nil.av]) rfl hr (by simp) rfl (by decide) (by decide) (by decide) (by simp at hl ⊢; omega), esc_good (by simp [goodL])]
        simp
      · rw [List.getElem?_set_self (hO.rlt (by simp))]
      · rw [List.getElem?_set_ne (Ne.symm (h (by simp)))]
      · rw [List.getElem?_set_ne (Ne.symm hne)]
  have hro : r' ≠ o := fun e => by
    rw [e] at g1; rw [g1, hO.1] at g3; simp at g3
  have hel : (l.map Tre.av ++ [Tre.nil.av])[l.length]? = some Tre.nil.av := by simp
  have hlen : (l.map Tre.av ++ [Tre.nil.av]).length = l.length + 1 := by simp
  have hset : (l.map Tre.av ++ [Tre.nil.av]).set l.length t.av = (l ++ [t]).map Tre.av := by
    rw [List.set_append_right _ _ (by simp)]; simp
  have r16 : r' < H16.length := (List.getElem?_eq_some_iff.1 g1).1
  have o16 : o < H16.length := by rw [hO.1] at g3; exact (List.getElem?_eq_some_iff.1 g3).1
  have f5 := ix_row (k := .i64) g1 hlen (show l.length < l.length + 1 by omega)
  have f6 : ∀ {β : Type} (K : List AObj → List Nat → Option β), stoK 5 (.ptr r' (l.length + 1) l.length 0) t.av H16 K = K (H16.set r' (.row 5 ((l ++ [t]).map Tre.av))) [] := fun K => by rw [sto_el g1 hlen hel, hset]
  have h18o : (H16.set r' (.row 5 ((l ++ [t]).map Tre.av)))[o]? = some (.row 1 [outV l r]) := by rw [List.getElem?_set_ne hro, g3, hO.1]
  have f7 : ∀ {β : Type} (K : List AObj → List Nat → Option β), stoK 1 (.ptr o 1 0 0) (.slc r' 0 (l.length + 1) (l.length + 1)) (H16.set r' (.row 5 ((l ++ [t]).map Tre.av))) K = K ((H16.set r' (.row 5 ((l ++ [t]).map Tre.av))).set o (.row 1 [.slc r' 0 (l.length + 1) (l.length + 1)])) (escs o [.slc r' 0 (l.length + 1) (l.length + 1)]) := fun K => sto_cell h18o (outV_ne l r) rfl rfl
  have g7 : ∀ {β : Type} (K : List AObj → List Nat → Option β), stoK 1 (.ptr o 1 0 0) (.slc r' 0 (l.length + 1) (l.length + 1)) H16 K = K (H16.set o (.row 1 [.slc r' 0 (l.length + 1) (l.length + 1)])) (escs o [.slc r' 0 (l.length + 1) (l.length + 1)]) := fun K => sto_cell (g3.trans hO.1) (outV_ne l r) rfl rfl
  have hmr : (H16.set o (.row 1 [.slc r' 0 (l.length + 1) (l.length + 1)]))[r']? = some (.row 5 (l.map Tre.av ++ [Tre.nil.av])) := by rw [List.getElem?_set_ne (Ne.symm hro), g1]
  have h19r : ((H16.set r' (.row 5 ((l ++ [t]).map Tre.av))).set o (.row 1 [.slc r' 0 (l.length + 1) (l.length + 1)]))[r']? = some (.row 5 ((l ++ [t]).map Tre.av)) := by
    rw [List.getElem?_set_ne (Ne.symm hro), List.getElem?_set_self r16]
  have g6 : ∀ {β : Type} (K : List AObj → List Nat → Option β), stoK 5 (.ptr r' (l.length + 1) l.length 0) t.av (H16.set o (.row 1 [.slc r' 0 (l.length + 1) (l.length + 1)])) K = K ((H16.set r' (.row 5 ((l ++ [t]).map Tre.av))).set o (.row 1 [.slc r' 0 (l.length + 1) (l.length + 1)])) [] := fun K => by
    rw [sto_el hmr hlen hel, hset, List.set_comm _ _ (Ne.symm hro)]
  have h19 : OutS ((H16.set r' (.row 5 ((l ++ [t]).map Tre.av))).set o (.row 1 [.slc r' 0 (l.length + 1) (l.length + 1)])) o (l ++ [t]) r' := by
    refine ⟨?_, fun _ => h19r⟩
    rw [List.getElem?_set_self (by simpa using o16), outV_cons (by simp), List.length_append]; rfl
  refine ⟨_, [], [], escs o [.slc r' 0 (l.length + 1) (l.length + 1)], r', h19, ⟨by simpa using g2.1, fun i hi h1 h2 => ?_⟩, g4, g5, fun K => ?_⟩
  · rw [List.getElem?_set_ne (Ne.symm h1)]
    by_cases hir : i = r'
    · exfalso
      by_cases hl0 : l = []
      · have := g5 hl0; omega
      · exact h2 hl0 (by rw [hir, g4 hl0])
    · rw [List.getElem?_set_ne (Ne.symm hir)]; exact g2.2 i hi h1 h2
  · have hsw : SwapOk Try.prog C.G (EV C) (C.hint 78) 3 (opsOf Try.f78 3) ⟨[x0, x1, .ptr o 1 0 0, .ptr b 1 0 0, a2, a3, a4, (.bool false), a6, a7, a8, a9, a10, a11, (.tup []), (.tup []), (.tup []), (.tup []), (.tup []), (.tup []), (.tup []), (.tup []), (.tup []), (.tup []), (.tup []), (.tup [])], H, E⟩ := by
      refine l3_swap (Hm := H16.set o (.row 1 [.slc r' 0 (l.length + 1) (l.length + 1)])) f0 f1 f2 (fun K => lit_el H K) (fun K => f4 K) f5 (fun K => f6 K) (fun K => f7 K) (ix_row h19r (by simp) (by omega)) (ix_row hmr hlen (by omega)) (fun K => g7 _) (fun K => g6 _) (fun K => f6 K) (fun K => f7 K) (litD_el H)
    rw [drawK_t hsw, f0, Option.bind_some, f1, Option.bind_some, f2, Option.bind_some, lit_el, f4, f5, Option.bind_some, f6, f7]
theorem endB_kp {n : Nat} {v : AV} {H : List AObj} {E : List Nat} (h : v.good = true) : endB false true n v H E = some (v, H, E) := by
  simp [endB, endA, frz_good _ v h, kills_good v h, killAll]
theorem callK_ptrE {β : Type} {env : Env} {g : FuncId} {args : List AV} {H H' : List AObj} {E : List Nat} {K : AV → List AObj → List Nat → Option β} {v : AV} (h0 : frzL H args = some args) (h1 : belL 0 args = false) (h2 : killsL args = []) (h3 : env g args H = some (v, H', E)) :
    callK env false g args H K = K v H' E := by
  simp [callK, callA, h0, h1, h2, killAll, h3]
theorem okF_list1 : okF Try.prog n_tree_List_1 = true := by kernel_rfl
def walkC (w o : Nat) : AV := .clo n_tree_List_1 [] [.ptr w 1 0 0, .ptr o 1 0 0]
theorem treeGo_call {H H' : List AObj} {E : List Nat} {t : Tre} {w o : Nat} (h : EV C n_tree_List_1 [t.av, .ptr w 1 0 0, .ptr o 1 0 0] H = some (.tup [], H', E)) (K : AV → List AObj → List Nat → Option R3) :
    valK Try.prog (EV C) false (walkC w o) [t.av] H K = K (.tup []) H' E := by
  simp only [walkC, valK, okF_list1, if_true]
  exact callK_ptrE (args := [t.av, .ptr w 1 0 0, .ptr o 1 0 0]) (frzL_cons (frz_good _ _ (good_tr t)) rfl) (by simp [belL, AV.bel]) (by simp [killsL, kills, kills_good _ (good_tr t)]) h
theorem walk_ok (t : Tre) : formedF t = true → ∀ (H : List AObj) (w o r : Nat) (l : List Tre), OutS H o l r → H[w]? = some (.row 1 [walkC w o]) → w ≠ o → l.length + (nodesF t).length ≤ 2^40 →
    ∃ H' E r', EV C n_tree_List_1 [t.av, .ptr w 1 0 0, .ptr o 1 0 0] H = some (.tup [], H', E) ∧ OutS H' o (l ++ nodesF t) r' ∧ FrS H H' o l r ∧ (l ≠ [] → r' = r) ∧ (l = [] → nodesF t ≠ [] → H.length ≤ r') := by
  induction t using Tre.ind with
  | h t ih =>
    intro hf H w o r l hO hw hwo hlen
    have hb : (H ++ [AObj.row 5 [t.av]])[H.length]? = some (.row 5 [t.av]) := by simp
    have hwlt : w < H.length := (List.getElem?_eq_some_iff.1 hw).1
    have holt := hO.lt
    have hO1 : OutS (H ++ [.row 5 [t.av]]) o l r := ⟨by rw [List.getElem?_append_left holt]; exact hO.1, fun h => by rw [List.getElem?_append_left (hO.rlt h)]; exact hO.2 h⟩
    have hw1 : (H ++ [AObj.row 5 [t.av]])[w]? = some (.row 1 [walkC w o]) := by rw [List.getElem?_append_left hwlt]; exact hw
    rcases formed_two hf with hk | ⟨lt, rt, hk⟩
    · refine ⟨H ++ [.row 5 [t.av]], [], r, ?_, by rw [nodes_nil hk, List.append_nil]; exact hO1, ⟨by simp, fun i hi _ _ => List.getElem?_append_left hi⟩, fun _ => rfl, fun _ h => absurd (nodes_nil hk) h⟩
      refine tree_List_1_of ?_
      simp only [new_tr, offA_ptr, Nat.zero_add, ld_boxs hb, Option.bind_some, hk, lenV_kids, List.length_nil, eql_int, Int.natCast_zero, decide_true, condK_t]
      exact endB_kp rfl
    · have hl := formed_kids hf lt (by rw [hk]; simp)
      have hr := formed_kids hf rt (by rw [hk]; simp)
      have hn := nodes_two hk
      rw [hn, List.length_append, List.length_cons] at hlen
      have x0 : ∀ H, ixA 5 (kidsA t.kids) (.int .i64 0) H = some (.ip lt.av.cells) := fun H => ixA_kids (i := 0) (by rw [hk]; rfl)
      have x1 : ∀ H, ixA 5 (kidsA t.kids) (.int .i64 1) H = some (.ip rt.av.cells) := fun H => ixA_kids (i := 1) (by rw [hk]; rfl)
      obtain ⟨H2, E2, r2, c2, o2, fr2, q2, q2'⟩ := ih lt (by rw [hk]; simp) hl (H ++ [.row 5 [t.av]]) w o r l hO1 hw1 hwo (by omega)
      have hb1 : H.length < (H ++ [AObj.row 5 [t.av]]).length := by simp
      have hb2 : H2[H.length]? = some (.row 5 [t.av]) := by
        rw [fr2.2 H.length hb1 (by omega) (fun h => by have := hO.rlt h; omega)]; exact hb
      have hwr : l ≠ [] → w ≠ r := fun h e => by have := hO.2 h; rw [← e, hw] at this; simp at this
      have hw2 : H2[w]? = some (.row 1 [walkC w o]) := by
        rw [fr2.2 w (by simp; omega) hwo hwr]; exact hw1
      have hbr2 : l ++ nodesF lt ≠ [] → H.length ≠ r2 := fun h e => by
        by_cases hl0 : l = []
        · have := q2' hl0 (by rw [hl0] at h; simpa using h)
          simp at this; omega
        · have := q2 hl0; have := hO.rlt hl0; omega
      obtain ⟨H3, E16, E18, E19, r3, o3, fr3, q3, q3', c3⟩ := pushT_ok t t.av (.ptr w 1 0 0) (.ptr H.length 1 0 4) (kidsA t.kids) (.int .i64 (t.kids.length : Int)) (walkC w o) (.ptr H.length 1 0 4) (kidsA t.kids) (.ip lt.av.cells) lt.av (.tup []) (E2 ++ ([] ++ [])) o2 hb2 (by omega) hbr2 (by rw [List.length_append]; omega)
      have hb3 : H3[H.length]? = some (.row 5 [t.av]) := by
        rw [fr3.2 H.length (by have := fr2.1; simp at this; omega) (by omega) hbr2]; exact hb2
      have hwr2 : l ++ nodesF lt ≠ [] → w ≠ r2 := fun h e => by have := o2.2 h; rw [← e, hw2] at this; simp at this
      have hw3 : H3[w]? = some (.row 1 [walkC w o]) := by
        rw [fr3.2 w (by have := fr2.1; simp at this; omega) hwo hwr2]; exact hw2
      obtain ⟨H4, E4, r4, c4, o4, fr4, q4, q4'⟩ := ih rt (by rw [hk]; simp) hr H3 w o r3 (l ++ nodesF lt ++ [t]) o3 hw3 hwo (by simp; omega)
      have hk2 : ¬ ((t.kids.length : Nat) : Int) = 0 := by rw [hk]; simp
      have hl1 : loadA false 1 (.ptr w 1 0 0) (H ++ [.row 5 [t.av]]) = some (walkC w o) := ld_cell hw1 rfl
      have hl3 : loadA false 1 (.ptr w 1 0 0) H3 = some (walkC w o) := ld_cell hw3 rfl
      have hr3 : r4 = r3 := q4 (by simp)
      refine ⟨H4, E4 ++ (E19 ++ (E18 ++ (E16 ++ ([] ++ (E2 ++ ([] ++ [])))))), r4, ?_, by rw [hn]; simpa using o4, ⟨?_, fun i hi h1 h2 => ?_⟩, fun h => ?_, fun h1 h2 => ?_⟩
      · refine tree_List_1_of ?_
        simp only [new_tr, offA_ptr, Nat.zero_add, ld_boxs hb, Option.bind_some, lenV_kids, eql_int, hk2, decide_false, condK_f, hl1, x0, loadA_tr]
        rw [treeGo_call c2, c3]
        simp only [hl3, ld_boxs hb3, Option.bind_some, x1, loadA_tr]
        rw [treeGo_call c4]
        exact endB_kp rfl
      · have := fr2.1; have := fr3.1; have := fr4.1; simp at *; omega
      · have a1 := fr2.1; have a2 := fr3.1
        simp only [List.length_append, List.length_singleton] at a1
        have n2 : l ++ nodesF lt ≠ [] → i ≠ r2 := fun h e => by
          by_cases hl0 : l = []
          · have := q2' hl0 (by rw [hl0] at h; simpa using h)
            simp only [List.length_append, List.length_singleton] at this; omega
          · exact h2 hl0 (by rw [e, q2 hl0])
        have n3 : i ≠ r3 := fun e => by
          by_cases hl0 : l ++ nodesF lt = []
          · have := q3' hl0; omega
          · exact n2 hl0 (by rw [e, q3 hl0])
        rw [fr4.2 i (by omega) h1 (fun _ => n3), fr3.2 i (by omega) h1 n2, fr2.2 i (by simp; omega) h1 h2, List.getElem?_append_left hi]
      · rw [hr3, q3 (by simp [h]), q2 h]
      · rw [hr3]
        by_cases hl0 : nodesF lt = []
        · have := q3' (by simp [h1, hl0]); have := fr2.1; simp at this; omega
        · rw [q3 (by simp [h1, hl0])]
          have := q2' h1 hl0; simp at this; omega
theorem List_ok (t : Tre) (ht : t.ok) (hn : (nodesF t).length ≤ 2^40) : EV C n_tree_List [t.av] [] = some (kidsA (if checkF t = 0 then nodesF t else []), [], []) := by
  refine tree_List_of ?_
  simp only [List.length_nil, new_tr, List.nil_append, ld_tr0, Option.bind_some]
  rw [callK_ok (by simp) (Check_ok t ht)]
  by_cases hc : checkF t = 0
  · have hi : ∀ (H : List AObj) (v : AV) (K : AV → List AObj → List Nat → Option R3), v = .nils ∨ v = .nilf → newK v H K = K (.ptr H.length 1 0 0) (H ++ [.row 1 [v]]) [] := fun H v K h => by rcases h with rfl | rfl <;> rfl
    have s1 : ∀ (K : List AObj → List Nat → Option R3), stoK 1 (.ptr 2 1 0 0) (walkC 2 1) [.row 5 [t.av], .row 1 [.nils], .row 1 [.nilf]] K = K [.row 5 [t.av], .row 1 [.nils], .row 1 [walkC 2 1]] (escs 2 [walkC 2 1]) := fun K => sto_cell (v := .nilf) rfl (by simp) rfl rfl
    have e : (AV.clo n_tree_List_1 [] [.ptr 2 1 0 0, .ptr 1 1 0 0]) = walkC 2 1 := rfl
    have l1 : ∀ T : List AObj, loadA false 1 (.ptr 2 1 0 0) (.row 5 [t.av] :: .row 1 [.nils] :: .row 1 [walkC 2 1] :: T) = some (walkC 2 1) := fun T => ld_cell rfl rfl
    obtain ⟨H', E, r', c, o', fr, q, q'⟩ := walk_ok t (check_formed hc) [.row 5 [t.av], .row 1 [.nils], .row 1 [walkC 2 1]] 2 1 0 [] ⟨rfl, by simp⟩ rfl (by decide) (by simpa using hn)
    simp only [hc, errA, if_true, neq_nil1, condK_f, Option.bind_some, hi _ .nils _ (.inl rfl), hi _ .nilf _ (.inr rfl), List.length_cons, List.length_nil, List.cons_append, List.nil_append, Nat.reduceAdd, e, s1, l1, ld_tr0]
    rw [treeGo_call c]
    rw [List.nil_append] at o'
    rw [ld_cell o'.1 (outV_cells _ _), Option.bind_some]
    by_cases hn0 : nodesF t = []
    · rw [hn0]; exact endB_frz rfl rfl
    · rw [outV_cons hn0]
      refine endB_frz (frz_row (o'.2 hn0) (by simp) (goodL_tr _)) (good_kids _)
  · simp only [errA_ne hc, nq2, condK_t, Option.bind_some, hc, if_false]
    exact endB_frz rfl rfl
end Go.Pm
namespace Go.Pm
open Go.Proofs
set_option linter.unusedVariables false
set_option linter.unusedSimpArgs false
abbrev Bs := List UInt8
def ltB (a b : Bs) : Bool := Op.bytesLess a b
theorem ltB_cons (a b : UInt8) (x y : Bs) : ltB (a :: x) (b :: y) = (decide (a < b) || (decide (a = b) && ltB x y)) := by
  show (decide (a < b) || (a == b && Op.bytesLess x y)) = _
  congr 1
theorem cmp_spec : ∀ (a b : Bs), Lib.compareBytes a b = if ltB a b = true then -1 else if ltB b a = true then 1 else 0
  | [], [] => rfl
  | [], _ :: _ => rfl
  | _ :: _, [] => rfl
  | a :: x, b :: y => by
    rw [Lib.compareBytes, ltB_cons, ltB_cons, cmp_spec x y]
    by_cases h1 : a < b
    · simp [h1]
    · by_cases h2 : b < a
      · have : a ≠ b := fun e => by subst e; exact h1 h2
        simp [h1, h2, this]
      · have : a = b := UInt8.le_antisymm (UInt8.not_lt.1 h2) (UInt8.not_lt.1 h1)
        subst this; simp
theorem cmp_ge (a b : Bs) : decide (0 ≤ Lib.compareBytes a b) = !ltB a b := by
  rw [cmp_spec]; cases h : ltB a b <;> simp; split <;> simp
theorem Compare_ok (a b : Bs) : EV C n_bytes_Compare [bys a, bys b] [] = some (.int .i64 (Lib.compareBytes a b), [], []) := by
  have hI : C.I n_bytes_Compare = some cmpF := by
    show addI n_bytes_Compare cmpF (clonesI C0 [n_Clone_byte]) n_bytes_Compare = some cmpF
    exact if_pos rfl
  rw [EV_I C hI]
  show (toBytes (a.map u8)).bind (fun l => (toBytes (b.map u8)).bind fun m => some (AV.int .i64 (Lib.compareBytes l m), [], [])) = _
  rw [toBytes_u8, Option.bind_some, toBytes_u8]; rfl
theorem CompareD (a b : Bs) (H : List AObj) : callD (EV C) n_bytes_Compare [bys a, bys b] H = some (.int .i64 (Lib.compareBytes a b)) := callD_ok (by simp) (Compare_ok a b)
theorem geq_str (d : TypeDesc) (c : TypeId → Bool) (b : Bool) (x y : Bs) : binA .geq d c b (.str ⟨x.toArray⟩) (.str ⟨y.toArray⟩) = some (.bool (!ltB x y)) := by
  show some (AV.bool (!Op.bytesLess (bl ⟨x.toArray⟩) (bl ⟨y.toArray⟩))) = _
  rw [bl_mk, bl_mk]; rfl
end Go.Pm
namespace Go.Pm
open Go.Proofs
set_option linter.unusedVariables false
set_option linter.unusedSimpArgs false
def risK : List Bs → Bool
  | a :: b :: l => ltB a b && risK (b :: l)
  | _ => true
/-- the keys rise -/
def risN (l : List Tre) : Bool := risK (l.map Tre.key)
theorem dr_tr1 (t : Tre) : List.drop 1 t.av.cells = [bys t.key, bys t.value, bys t.digest, kidsA t.kids] := by rw [cells_tr]; rfl
theorem risN_drop {l : List Tre} {i : Nat} (h : i + 1 < l.length) : risN (l.drop i) = (ltB (l[i]'(by omega)).key l[i + 1].key && risN (l.drop (i + 1))) := by
  have e1 : l.drop i = l[i]'(by omega) :: l.drop (i + 1) := List.drop_eq_getElem_cons (by omega)
  have e2 : l.drop (i + 1) = l[i + 1] :: l.drop (i + 2) := List.drop_eq_getElem_cons h
  rw [e1, e2]; rfl
theorem nodes_small (t : Tre) : formedF t = true → ∀ k ∈ nodesF t, k.key.length ≤ 80 ∧ k.value.length ≤ 1024 ∧ (k.kind = 1 ∨ k.kind = 2) ∧ ∃ l r, k.kids = [l, r] := by
  induction t using Tre.ind with
  | h t ih =>
    intro hf k hk
    rcases formed_two hf with hn | ⟨l, r, hn⟩
    · rw [nodes_nil hn] at hk; simp at hk
    · rw [nodes_two hn] at hk
      rcases List.mem_append.1 hk with hk | hk
      · exact ih l (by rw [hn]; simp) (formed_kids hf l (by rw [hn]; simp)) k hk
      · rcases List.mem_cons.1 hk with rfl | hk
        · have h0 : k.kind ≠ 0 := fun h0 => by
            rw [formedF_eq, Bool.and_eq_true] at hf
            have h1 := hf.1
            simp only [formed1, h0, if_true, decide_eq_true_eq, hn, List.length_cons] at h1
            omega
          have h3 : k.kind ≠ 3 := fun h3 => by
            rw [formedF_eq, Bool.and_eq_true] at hf
            have h1 := hf.1
            simp only [formed1] at h1
            rw [if_neg h0, if_neg (by omega), if_neg (by omega), if_pos h3, decide_eq_true_eq, hn] at h1
            simp at h1
          obtain ⟨a1, a2, a3, a4⟩ := formed_node hf h0 h3
          exact ⟨a2, a3, a1, a4⟩
        · exact ih r (by rw [hn]; simp) (formed_kids hf r (by rw [hn]; simp)) k hk
end Go.Pm
namespace Go.Pm
open Go.Proofs
set_option linter.unusedVariables false
set_option linter.unusedSimpArgs false
mutual
def parts : Tre → Nat
  | .mk k a b c ks => 1 + partsL ks
def partsL : List Tre → Nat
  | [] => 0
  | t :: ts => parts t + partsL ts
end
theorem parts_eq (t : Tre) : parts t = 1 + partsL t.kids := by cases t with | mk k a b c ks => rw [parts]; rfl
theorem lightL_parts {d : Int} : ∀ (ks : List Tre), (∀ t ∈ ks, ∀ l d, 0 ≤ lightF t l d → lightF t l d + (parts t : Int) ≤ l) → ∀ l, 0 ≤ lightL ks l d → lightL ks l d + (partsL ks : Int) ≤ l
  | [], _, l, h => by rw [lightL] at h ⊢; simp [partsL]
  | t :: ts, hh, l, h => by
    rw [lightL] at h ⊢
    rw [partsL]
    split at h
    · omega
    · rename_i hn
      rw [if_neg hn]
      have h1 := hh t (by simp) l (d - 1) (by omega)
      have h2 := lightL_parts (d := d) ts (fun k hk => hh k (List.mem_cons_of_mem _ hk)) _ h
      omega
theorem lightF_parts (t : Tre) : ∀ l d, 0 ≤ lightF t l d → lightF t l d + (parts t : Int) ≤ l := by
  induction t using Tre.ind with
  | h t ih =>
    intro l d h
    rw [lightF_eq] at h ⊢
    split at h
    · omega
    · rename_i h1
      split at h
      · omega
      · rename_i h2
        rw [if_neg h1, if_neg h2]
        have := lightL_parts (d := d) t.kids ih (l - 1) h
        rw [parts_eq]; omega
theorem nodes_parts (t : Tre) : (nodesF t).length ≤ parts t := by
  induction t using Tre.ind with
  | h t ih =>
    cases t with
    | mk k a b c ks =>
      rw [nodesF, parts]
      match ks, ih with
      | [], _ => simp [nodesL]
      | [x], _ => simp [nodesL]
      | x :: y :: tl, ih =>
        have h1 := ih x (by simp [Tre.kids])
        have h2 := ih y (by simp [Tre.kids])
        simp only [nodesL, partsL, List.length_append, List.length_cons]; omega
end Go.Pm
namespace Go.Pm
open Go.Proofs
set_option linter.unusedVariables false
set_option linter.unusedSimpArgs false
mutual
def dpF : Tre → Nat
  | .mk _ _ _ _ ks => match dpL ks with
    | a :: b :: _ => max a b + 1
    | _ => 0
def dpL : List Tre → List Nat
  | [] => []
  | t :: ts => dpF t :: dpL ts
end
theorem dp_leaf {t : Tre} (h : t.kids = []) : dpF t = 0 := by
  cases t with | mk k a b c ks => simp only [Tre.kids] at h; subst h; rw [dpF]; rfl
theorem dp_two {t l r : Tre} (h : t.kids = [l, r]) : dpF t = max (dpF l) (dpF r) + 1 := by
  cases t with | mk k a b c ks => simp only [Tre.kids] at h; subst h; rw [dpF]; rfl
mutual
def evenF : Tre → Bool
  | .mk _ _ _ _ ks => match ks, evenL ks with
    | l :: r :: _, a :: b :: _ => a && b && decide (dpF l ≤ dpF r + 1) && decide (dpF r ≤ dpF l + 1)
    | _, _ => true
def evenL : List Tre → List Bool
  | [] => []
  | t :: ts => evenF t :: evenL ts
end
theorem even_leaf {t : Tre} (h : t.kids = []) : evenF t = true := by
  cases t with | mk k a b c ks => simp only [Tre.kids] at h; subst h; unfold evenF; rfl
theorem even_two {t l r : Tre} (h : t.kids = [l, r]) : evenF t = (evenF l && evenF r && decide (dpF l ≤ dpF r + 1) && decide (dpF r ≤ dpF l + 1)) := by
  cases t with | mk k a b c ks => simp only [Tre.kids] at h; subst h; simp only [evenF, evenL]
mutual
def fullF : Tre → Bool
  | .mk k _ _ _ ks => !(decide (k = 2) || decide (k = 3)) && fullL ks
def fullL : List Tre → Bool
  | [] => true
  | t :: ts => fullF t && fullL ts
end
theorem fullL_all (l : List Tre) : fullL l = l.all fullF := by
  induction l with
  | nil => rfl
  | cons t l ih => rw [fullL, ih, List.all_cons]
theorem full_eq (t : Tre) : fullF t = (!(decide (t.kind = 2) || decide (t.kind = 3)) && t.kids.all fullF) := by
  cases t with | mk k a b c ks => rw [fullF, fullL_all]; rfl
theorem dp_nodes (t : Tre) : formedF t = true → dpF t ≤ (nodesF t).length := by
  induction t using Tre.ind with
  | h t ih =>
    intro hf
    rcases formed_two hf with h | ⟨l, r, h⟩
    · rw [dp_leaf h]; exact Nat.zero_le _
    · have a := ih l (by rw [h]; simp) (formed_kids hf l (by rw [h]; simp))
      have b := ih r (by rw [h]; simp) (formed_kids hf r (by rw [h]; simp))
      rw [dp_two h, nodes_two h, List.length_append, List.length_cons]; omega
theorem maxA2 (x y : Int) : maxA [.int .i64 x, .int .i64 y] = some (.int .i64 (max x y)) := by
  simp only [maxA]
  simp
  omega
theorem rDepth_ok (t : Tre) : t.ok → formedF t = true → dpF t ≤ 2^40 → EV C n_ref04_Depth [t.av] [] = some (.int .i64 (dpF t : Int), [], []) := by
  induction t using Tre.ind with
  | h t ih =>
    intro ht hf hn
    have hks := ((ok_eq t).1 ht).2.2.2.2
    refine ref04_Depth_of ?_
    simp -implicitDefEqProofs only [ZS, ZT, Nat.reduceAdd]
    rcases formed_two hf with h | ⟨l, r, h⟩
    · rw [dp_leaf h, h]
      simp -implicitDefEqProofs only [List.length_nil, Int.natCast_zero, if_true]
      exact endB_good rfl
    · rw [dp_two h] at hn ⊢
      have hl : l ∈ t.kids := by rw [h]; simp
      have hr : r ∈ t.kids := by rw [h]; simp
      have x0 : ∀ H, ixA 5 (kidsA t.kids) (.int .i64 0) H = some (.ip l.av.cells) := fun H => ixA_kids (i := 0) (by rw [h]; rfl)
      have x1 : ∀ H, ixA 5 (kidsA t.kids) (.int .i64 1) H = some (.ip r.av.cells) := fun H => ixA_kids (i := 1) (by rw [h]; rfl)
      have e0 : ¬ ((t.kids.length : Int) = 0) := by rw [h]; simp
      have e1 : IntKind.i64.wrap ((dpF l : Int) + 1) = (dpF l : Int) + 1 := by rw [wrap64] <;> omega
      have e2 : IntKind.i64.wrap ((dpF r : Int) + 1) = (dpF r : Int) + 1 := by rw [wrap64] <;> omega
      rw [if_neg e0]
      simp -implicitDefEqProofs only [x0, x1, ZS, ZT, Nat.reduceAdd]
      rw [callK_ok (by simp) (ih l hl (hks l hl) (formed_kids hf l hl) (by omega))]
      simp -implicitDefEqProofs only [x0, x1, ZS, ZT, Nat.reduceAdd]
      rw [callK_ok (by simp) (ih r hr (hks r hr) (formed_kids hf r hr) (by omega))]
      simp -implicitDefEqProofs only [add_int, e1, e2, ZS, ZT, Nat.reduceAdd]
      split
      · rw [show ((max (dpF l) (dpF r) + 1 : Nat) : Int) = (dpF l : Int) + 1 by omega]; exact endB_good rfl
      · rw [show ((max (dpF l) (dpF r) + 1 : Nat) : Int) = (dpF r : Int) + 1 by omega]; exact endB_good rfl
theorem even_ok (t : Tre) : t.ok → formedF t = true → dpF t ≤ 2^40 → EV C n_avl_even [t.av] [] = some (.tup [.int .i64 (dpF t : Int), .bool (evenF t)], [], []) := by
  induction t using Tre.ind with
  | h t ih =>
    intro ht hf hn
    have hks := ((ok_eq t).1 ht).2.2.2.2
    refine avl_even_of ?_
    simp -implicitDefEqProofs only [ZS, ZT, Nat.reduceAdd]
    rcases formed_two hf with h | ⟨l, r, h⟩
    · rw [dp_leaf h, even_leaf h, h]
      simp -implicitDefEqProofs only [List.length_nil, Int.natCast_zero, if_true]
      exact endB_good rfl
    · rw [even_two h]
      rw [dp_two h] at hn ⊢
      have hl : l ∈ t.kids := by rw [h]; simp
      have hr : r ∈ t.kids := by rw [h]; simp
      have x0 : ∀ H, ixA 5 (kidsA t.kids) (.int .i64 0) H = some (.ip l.av.cells) := fun H => ixA_kids (i := 0) (by rw [h]; rfl)
      have x1 : ∀ H, ixA 5 (kidsA t.kids) (.int .i64 1) H = some (.ip r.av.cells) := fun H => ixA_kids (i := 1) (by rw [h]; rfl)
      have e0 : ¬ ((t.kids.length : Int) = 0) := by rw [h]; simp
      have e1 : IntKind.i64.wrap (max (dpF l : Int) (dpF r : Int) + 1) = ((max (dpF l) (dpF r) + 1 : Nat) : Int) := by rw [wrap64] <;> omega
      have e2 : IntKind.i64.wrap ((dpF l : Int) - (dpF r : Int)) = (dpF l : Int) - (dpF r : Int) := by rw [wrap64] <;> omega
      have e3 : IntKind.i64.wrap ((dpF r : Int) - (dpF l : Int)) = (dpF r : Int) - (dpF l : Int) := by rw [wrap64] <;> omega
      rw [if_neg e0]
      simp -implicitDefEqProofs only [x0, x1, ZS, ZT, Nat.reduceAdd]
      rw [callK_ok (by simp) (ih l hl (hks l hl) (formed_kids hf l hl) (by omega))]
      simp -implicitDefEqProofs only [x0, x1, ZS, ZT, Nat.reduceAdd]
      rw [callK_ok (by simp) (ih r hr (hks r hr) (formed_kids hf r hr) (by omega))]
      simp -implicitDefEqProofs only [maxA2, add_int, sub_int, e1, e2, e3, ZS, ZT, Nat.reduceAdd]
      cases evenF l with
      | false => simp -implicitDefEqProofs only [Bool.false_and, ZS, ZT, Nat.reduceAdd]; exact endB_good rfl
      | true =>
        cases evenF r with
        | false => simp -implicitDefEqProofs only [Bool.false_and, Bool.and_false, ZS, ZT, Nat.reduceAdd]; exact endB_good rfl
        | true =>
          simp -implicitDefEqProofs only [Bool.true_and, ZS, ZT, Nat.reduceAdd]
          by_cases h1 : dpF l ≤ dpF r + 1
          · have h1' : (dpF l : Int) - (dpF r : Int) ≤ 1 := by omega
            rw [if_pos h1']
            rw [show decide ((dpF r : Int) - (dpF l : Int) ≤ 1) = decide (dpF r ≤ dpF l + 1) from by congr 1; exact propext ⟨fun _ => by omega, fun _ => by omega⟩]
            simp -implicitDefEqProofs only [h1, decide_true, Bool.true_and]
            exact endB_good rfl
          · have h1' : ¬ (dpF l : Int) - (dpF r : Int) ≤ 1 := by omega
            rw [if_neg h1']
            simp -implicitDefEqProofs only [h1, decide_false, Bool.false_and]
            exact endB_good rfl
end Go.Pm
namespace Go.Pm
open Go.Proofs
set_option linter.unusedVariables false
set_option linter.unusedSimpArgs false
theorem full_ok (t : Tre) : t.ok → EV C n_tree_full [t.av] [] = some (.bool (fullF t), [], []) := by
  induction t using Tre.ind with
  | h t ih =>
    intro ht
    obtain ⟨_, _, _, hk, hks⟩ := (ok_eq t).1 ht
    refine tree_full_of ?_
    have c1 : ∀ k ∈ t.kids, EV C n_tree_full_1 [k.av] [] = some (.bool (!fullF k), [], []) := fun k hk => by
      refine tree_full_1_of ?_
      simp -implicitDefEqProofs only [ZS, ZT, Nat.reduceAdd]
      rw [callK_ok (by simp) (ih k hk (hks k hk))]
      simp -implicitDefEqProofs only [ZS, ZT, Nat.reduceAdd]
      exact endB_good rfl
    have CF : EV C n_ContainsFunc_api_Tree [kidsA t.kids, .clo n_tree_full_1 [] []] [] = some (.bool (t.kids.any fun k => !fullF k), [], []) := Contains_pure (fun k => !fullF k) (by kernel_rfl) t.kids (by omega) c1
    simp -implicitDefEqProofs only [ZS, ZT, Nat.reduceAdd]
    rw [full_eq]
    by_cases h2 : t.kind = 2
    · rw [if_pos h2]
      simp -implicitDefEqProofs only [h2, decide_true, Bool.true_or, Bool.not_true, Bool.false_and]
      exact endB_good rfl
    · rw [if_neg h2]
      by_cases h3 : t.kind = 3
      · rw [if_pos h3]
        simp -implicitDefEqProofs only [h3, decide_true, Bool.or_true, Bool.not_true, Bool.false_and]
        exact endB_good rfl
      · rw [if_neg h3]
        have hkl : killsL [kidsA t.kids, (AV.clo n_tree_full_1 [] [])] = [] := by simp [killsL, kills, kills_good]
        rw [callK_ok (by simp) CF]
        simp -implicitDefEqProofs only [ZS, ZT, Nat.reduceAdd]
        have e : (!(t.kids.any fun k => !fullF k)) = (!(decide (t.kind = 2) || decide (t.kind = 3)) && t.kids.all fullF) := by
          simp only [h2, h3, decide_false, Bool.or_self, Bool.not_false, Bool.true_and]
          rw [List.not_any_eq_all_not]
          simp
        rw [e]
        exact endB_good rfl
theorem TFull_ok (t : Tre) (ht : t.ok) : EV C n_tree_Full [t.av] [] = some (.bool (decide (checkF t = 0) && fullF t), [], []) := by
  refine tree_Full_of ?_
  simp -implicitDefEqProofs only [ZS, ZT, Nat.reduceAdd]
  rw [callK_ok (by simp) (Check_ok t ht)]
  simp -implicitDefEqProofs only [eqlE0, ZS, ZT, Nat.reduceAdd]
  by_cases h : checkF t = 0
  · simp -implicitDefEqProofs only [h, Bool.true_and, ZS, ZT, Nat.reduceAdd]
    rw [callK_ok (by simp) (full_ok t ht)]
    exact endB_good rfl
  · simp -implicitDefEqProofs only [h, Bool.false_and, ZS, ZT, Nat.reduceAdd]
    exact endB_good rfl
theorem formed_kind {t : Tre} (hf : formedF t = true) : t.kind = 0 ∨ t.kind = 1 ∨ t.kind = 2 ∨ t.kind = 3 := by
  rw [formedF_eq, Bool.and_eq_true] at hf
  have h1 := hf.1
  unfold formed1 at h1
  by_cases h0 : t.kind = 0
  · exact .inl h0
  · by_cases h2 : t.kind = 1
    · exact .inr (.inl h2)
    · by_cases h3 : t.kind = 2
      · exact .inr (.inr (.inl h3))
      · by_cases h4 : t.kind = 3
        · exact .inr (.inr (.inr h4))
        · rw [if_neg h0, if_neg h2, if_neg h3, if_neg h4] at h1; cases h1
theorem rfull_loop (t : Tre) (hk : t.kids.length ≤ 2^50) (ih : ∀ k ∈ t.kids, EV C n_ref04_Full [k.av] [] = some (.bool (fullF k), [], [])) : ∀ (m i : Nat) (E : List Nat), i + m = t.kids.length →
    ref04_Full_J4 0 (.ptr 0 1 0 0) (.int .i64 (i : Int)) [.row 5 [t.av]] E = some (.bool ((t.kids.drop i).all fullF), [], [])
  | 0, i, E, h => by
    refine ref04_Full_J4_of ?_
    have e1 : ¬ ((i : Int) < (t.kids.length : Int)) := by omega
    have e2 : t.kids.drop i = [] := List.drop_eq_nil_of_le (by omega)
    simp -implicitDefEqProofs only [e1, e2, List.all_nil, ZS, ZT, Nat.reduceAdd]
    exact endB_good rfl
  | m + 1, i, E, h => by
    refine ref04_Full_J4_of ?_
    have hi : i < t.kids.length := by omega
    have e1 : ((i : Int) < (t.kids.length : Int)) := by omega
    have e2 : t.kids.drop i = t.kids[i] :: t.kids.drop (i + 1) := List.drop_eq_getElem_cons hi
    have e3 : IntKind.i64.wrap ((i : Int) + 1) = ((i + 1 : Nat) : Int) := w64 (by omega) (by omega)
    simp -implicitDefEqProofs only [e1, e2, List.all_cons, ixA_kids (List.getElem?_eq_getElem hi), ZS, ZT, Nat.reduceAdd]
    rw [callK_ok (by simp) (ih _ (List.getElem_mem hi))]
    cases hx : fullF t.kids[i] with
    | false => simp -implicitDefEqProofs only [Bool.false_and, ZS, ZT, Nat.reduceAdd]; exact endB_good rfl
    | true =>
      simp -implicitDefEqProofs only [Bool.true_and, add_int, e3, ZS, ZT, Nat.reduceAdd]
      exact rfull_loop t hk ih m (i + 1) _ (by omega)
theorem rFull_ok (t : Tre) : t.ok → formedF t = true → EV C n_ref04_Full [t.av] [] = some (.bool (fullF t), [], []) := by
  induction t using Tre.ind with
  | h t ih =>
    intro ht hf
    obtain ⟨_, _, _, hk, hks⟩ := (ok_eq t).1 ht
    refine ref04_Full_of ?_
    simp -implicitDefEqProofs only [ZS, ZT, Nat.reduceAdd]
    rw [full_eq]
    rcases formed_kind hf with h | h | h | h
    · rw [h, if_neg (by decide)]
      refine (rfull_loop t (by omega) (fun k hk => ih k hk (hks k hk) (formed_kids hf k hk)) t.kids.length 0 _ (by omega)).trans ?_
      simp
    · rw [h, if_neg (by decide)]
      refine (rfull_loop t (by omega) (fun k hk => ih k hk (hks k hk) (formed_kids hf k hk)) t.kids.length 0 _ (by omega)).trans ?_
      simp
    · rw [h, if_pos (by decide)]; exact endB_good rfl
    · rw [h, if_pos (by decide)]; exact endB_good rfl
theorem lz_tr (l : List Tre) : lz 5 (l.map Tre.av) = true := by
  cases l with
  | nil => rfl
  | cons t l => cases t with | mk k a b c ks => rfl
theorem lit_tr {β : Type} (t : Tre) (H : List AObj) (K : AV → List AObj → List Nat → Option β) : litK 5 1 (.agg [(.int .i64 0), .nils, .nils, .nils, .nils]) [(0, t.av)] H K = K (.lst [t.av]) H [] := by
  have e2 : frzL H [t.av] = some [t.av] := frzL_cons (frz_good _ _ (good_tr t)) rfl
  have e1 : killsL [t.av] = [] := by simp [killsL, kills_good _ (good_tr t)]
  have e3 : t.av.cells.length = 5 ∧ t.av.cells.all AV.one = true := by rw [cells_tr]; exact ⟨rfl, rfl⟩
  unfold litK
  simp only [List.map_cons, List.map_nil]
  rw [e2, Option.bind_some, frz_nil0, Option.bind_some, e1]
  simp only [List.zip_cons_cons, List.zip_nil_right, setS, e3.1, e3.2, List.length_replicate, List.replicate, List.set_cons_zero, List.length_cons, List.length_nil]
  rfl
theorem app_tr {β : Type} {H : List AObj} {l n : Nat} {es ys : List Tre} {y : AV} (hy : elemsA y H = some (ys.map Tre.av)) (h : H[l]? = some (.row 5 (es.map Tre.av))) (hn : es.length = n) (hlen : n + ys.length ≤ 2^40) (K : AV → List AObj → List Nat → Option β) :
    appK 5 104 (.slc l 0 n n) y H K = K (.slc l 0 (n + ys.length) (n + ys.length)) (H.set l (.row 5 ((es ++ ys).map Tre.av))) [] := by
  rw [appK_row hy h (by simp; omega) (lz_tr _) (by decide) (by decide) (by decide) (by simp; omega), esc_good (by simp)]
  simp
theorem rList_ok (t : Tre) : t.ok → formedF t = true → (nodesF t).length ≤ 2^40 → EV C n_ref04_List [t.av] [] = some (kidsA (nodesF t), [], []) := by
  induction t using Tre.ind with
  | h t ih =>
    intro ht hf hn
    have hks := ((ok_eq t).1 ht).2.2.2.2
    refine ref04_List_of ?_
    simp -implicitDefEqProofs only [ZS, ZT, Nat.reduceAdd]
    rcases formed_two hf with h | ⟨l, r, h⟩
    · rw [nodes_nil h, h]
      simp -implicitDefEqProofs only [List.length_nil, Int.natCast_zero, if_true]
      exact endB_frz rfl rfl
    · have it := nodes_two h
      rw [it, List.length_append, List.length_cons] at hn
      have hl : l ∈ t.kids := by rw [h]; simp
      have hr : r ∈ t.kids := by rw [h]; simp
      have x0 : ∀ H, ixA 5 (kidsA t.kids) (.int .i64 0) H = some (.ip l.av.cells) := fun H => ixA_kids (i := 0) (by rw [h]; rfl)
      have x1 : ∀ H, ixA 5 (kidsA t.kids) (.int .i64 1) H = some (.ip r.av.cells) := fun H => ixA_kids (i := 1) (by rw [h]; rfl)
      have e0 : ¬ ((t.kids.length : Int) = 0) := by rw [h]; simp
      have r0 : ∀ (H : List AObj) (K : AV → List AObj → List Nat → Option R3), rawK 5 0 (.agg [(.int .i64 0), .nils, .nils, .nils, .nils]) [] H K = K (.slc H.length 0 0 0) (H ++ [.row 5 (([] : List Tre).map Tre.av)]) [] := fun H K => Eq.trans rfl rfl
      rw [if_neg e0, r0]
      simp -implicitDefEqProofs only [x0, x1, ZS, ZT, Nat.reduceAdd]
      rw [callK_ok (by simp) (ih l hl (hks l hl) (formed_kids hf l hl) (by omega))]
      rw [app_tr (l := 1) (n := 0) (es := []) (ys := nodesF l) rfl rfl rfl (by omega)]
      simp -implicitDefEqProofs only [List.nil_append, ZS, ZT, Nat.reduceAdd]
      rw [lit_tr]
      rw [app_tr (l := 1) (es := nodesF l) (ys := [t]) rfl rfl rfl (by simp; omega)]
      simp -implicitDefEqProofs only [x0, x1, ZS, ZT, Nat.reduceAdd]
      rw [callK_ok (by simp) (ih r hr (hks r hr) (formed_kids hf r hr) (by omega))]
      rw [app_tr (l := 1) (es := nodesF l ++ [t]) (ys := nodesF r) rfl rfl (by simp) (by simp; omega)]
      rw [it]
      refine (endB_frz (frz_row (z := 5) (l := 1) rfl (by simp; omega) (goodL_tr _)) (good_kids _)).trans ?_
      simp [kidsA]
def balN (t : Tre) : Bool := match t.kids with
  | [l, r] => decide (dpF l ≤ dpF r + 1) && decide (dpF r ≤ dpF l + 1)
  | _ => true
theorem even_bal (t : Tre) : formedF t = true → evenF t = (nodesF t).all balN := by
  induction t using Tre.ind with
  | h t ih =>
    intro hf
    rcases formed_two hf with h | ⟨l, r, h⟩
    · rw [even_leaf h, nodes_nil h]; rfl
    · rw [even_two h, nodes_two h, List.all_append, List.all_cons, ih l (by rw [h]; simp) (formed_kids hf l (by rw [h]; simp)), ih r (by rw [h]; simp) (formed_kids hf r (by rw [h]; simp))]
      have : balN t = (decide (dpF l ≤ dpF r + 1) && decide (dpF r ≤ dpF l + 1)) := by unfold balN; rw [h]
      rw [this]
      cases (nodesF l).all balN <;> cases (nodesF r).all balN <;> simp
def isF (t : Tre) : Bool := decide (checkF t = 0) && (fullF t && (risN (nodesF t) && evenF t))
theorem nodes_sub (t : Tre) : t.ok → formedF t = true → ∀ k ∈ nodesF t, k.ok ∧ formedF k = true ∧ (nodesF k).length ≤ (nodesF t).length := by
  induction t using Tre.ind with
  | h t ih =>
    intro ht hf k hk
    have hks := ((ok_eq t).1 ht).2.2.2.2
    rcases formed_two hf with h | ⟨l, r, h⟩
    · rw [nodes_nil h] at hk; simp at hk
    · have hl : l ∈ t.kids := by rw [h]; simp
      have hr : r ∈ t.kids := by rw [h]; simp
      have hn := nodes_two h
      rw [hn] at hk
      rcases List.mem_append.1 hk with hk | hk
      · have := ih l hl (hks l hl) (formed_kids hf l hl) k hk
        exact ⟨this.1, this.2.1, by rw [hn, List.length_append, List.length_cons]; omega⟩
      · rcases List.mem_cons.1 hk with rfl | hk
        · exact ⟨ht, hf, Nat.le_refl _⟩
        · have := ih r hr (hks r hr) (formed_kids hf r hr) k hk
          exact ⟨this.1, this.2.1, by rw [hn, List.length_append, List.length_cons]; omega⟩
theorem avl_loop (t : Tre) (ht : t.ok) (hf : formedF t = true) (l : List Tre) (hl : l.length ≤ 2^40) (hd : dpF t ≤ 2^40) : ∀ (m i : Nat) (E : List Nat), l.length ≤ i + 1 + m →
    avl_Is_J5 0 (.ptr 0 1 0 0) (kidsA l) (.int .i64 ((i + 1 : Nat) : Int)) [.row 5 [t.av]] E = some (.bool (risN (l.drop i) && evenF t), [], []) := by
  intro m
  have fin : ∀ (i : Nat) (E : List Nat), l.length ≤ i + 1 → avl_Is_J5 0 (.ptr 0 1 0 0) (kidsA l) (.int .i64 ((i + 1 : Nat) : Int)) [.row 5 [t.av]] E = some (.bool (risN (l.drop i) && evenF t), [], []) := fun i E hi => by
    refine avl_Is_J5_of ?_
    have e1 : ¬ (((i + 1 : Nat) : Int) < (l.length : Int)) := by omega
    have e2 : risN (l.drop i) = true := by
      cases hx : l.drop i with
      | nil => rfl
      | cons a x =>
        have : (l.drop i).length ≤ 1 := by simp; omega
        rw [hx] at this
        cases x with
        | nil => rfl
        | cons b y => simp at this
    simp -implicitDefEqProofs only [e1, ZS, ZT, Nat.reduceAdd]
    rw [callK_ok (by simp) (even_ok t ht hf hd), e2]
    simp -implicitDefEqProofs only [Bool.true_and, ZS, ZT, Nat.reduceAdd]
    exact endB_good rfl
  induction m with
  | zero => intro i E hi; exact fin i E (by omega)
  | succ m ih =>
    intro i E hi
    by_cases hlt : i + 1 < l.length
    · refine avl_Is_J5_of ?_
      have e1 : (((i + 1 : Nat) : Int) < (l.length : Int)) := by omega
      have e3 : IntKind.i64.wrap (((i + 1 : Nat) : Int) + 1) = ((i + 1 + 1 : Nat) : Int) := w64 (by omega) (by omega)
      have e4 : IntKind.i64.wrap (((i + 1 : Nat) : Int) - 1) = ((i : Nat) : Int) := w64 (by omega) (by omega)
      have hi0 : i < l.length := by omega
      simp -implicitDefEqProofs only [e1, e3, e4, sub_int, add_int, ixA_kids (List.getElem?_eq_getElem hi0), ixA_kids (List.getElem?_eq_getElem hlt), dr_tr1, CompareD, cmp_ge, ZS, ZT, Nat.reduceAdd]
      rw [risN_drop hlt]
      cases hc : ltB l[i].key l[i + 1].key with
      | true =>
        simp -implicitDefEqProofs only [Bool.true_and, add_int, e3, ZS, ZT, Nat.reduceAdd]
        exact ih (i + 1) E (by omega)
      | false =>
        simp -implicitDefEqProofs only [Bool.false_and, ZS, ZT, Nat.reduceAdd]
        exact endB_good rfl
    · exact fin i E (by omega)
theorem avlIs_ok (t : Tre) (ht : t.ok) (hn : (nodesF t).length ≤ 2^40) : EV C n_avl_Is [t.av] [] = some (.bool (isF t), [], []) := by
  refine avl_Is_of ?_
  simp -implicitDefEqProofs only [ZS, ZT, Nat.reduceAdd]
  rw [callK_ok (by simp) (TFull_ok t ht)]
  unfold isF
  by_cases hc : checkF t = 0
  · have hf := check_formed hc
    cases hfl : fullF t with
    | false => simp -implicitDefEqProofs only [hc, Bool.and_false, Bool.false_and, ZS, ZT, Nat.reduceAdd]; exact endB_good rfl
    | true =>
      simp -implicitDefEqProofs only [hc, Bool.true_and, ZS, ZT, Nat.reduceAdd]
      rw [callK_ok (by simp) (List_ok t ht hn), if_pos hc]
      exact avl_loop t ht hf (nodesF t) hn (Nat.le_trans (dp_nodes t hf) hn) (nodesF t).length 0 _ (by omega)
  · simp -implicitDefEqProofs only [hc, Bool.false_and, ZS, ZT, Nat.reduceAdd]; exact endB_good rfl
end Go.Pm
namespace Go.Pm
open Go.Proofs
set_option linter.unusedVariables false
set_option linter.unusedSimpArgs false
theorem drawK_T {β : Type} (x : Option β) : drawK True x = x := if_pos trivial
end Go.Pm
namespace Go.Pm
open Go.Proofs
set_option linter.unusedVariables false
set_option linter.unusedSimpArgs false
theorem is_loop (t : Tre) (l : List Tre) (hl : l.length ≤ 2^40) (ho : ∀ k ∈ l, k.ok ∧ formedF k = true ∧ (nodesF k).length ≤ 2^40 ∧ ∃ a b, k.kids = [a, b]) : ∀ (m i : Nat) (E : List Nat), l.length ≤ i + m →
    ref05_Is_J8 0 (kidsA l) (.int .i64 (i : Int)) [.row 5 [t.av]] E = some (.bool ((if i = 0 then risN l else risN (l.drop (i - 1))) && (l.drop i).all balN), [], []) := by
  intro m
  induction m with
  | zero =>
    intro i E h
    refine ref05_Is_J8_of ?_
    have e1 : ¬ ((i : Int) < (l.length : Int)) := by omega
    have e2 : l.drop i = [] := List.drop_eq_nil_of_le (by omega)
    have e3 : (if i = 0 then risN l else risN (l.drop (i - 1))) = true := by
      have key : ∀ l' : List Tre, l'.length ≤ 1 → risN l' = true := fun l' h => by
        rcases l' with _ | ⟨a, _ | ⟨b, x⟩⟩
        · rfl
        · rfl
        · simp at h
      split
      · exact key _ (by omega)
      · exact key _ (by simp; omega)
    rw [e3, e2]
    simp -implicitDefEqProofs only [e1, List.all_nil, ZS, ZT, Nat.reduceAdd]
    exact endB_good rfl
  | succ m ih =>
    intro i E h
    by_cases hlt : i < l.length
    · refine ref05_Is_J8_of ?_
      obtain ⟨ok, hf, hn, a, b, hk⟩ := ho _ (List.getElem_mem hlt)
      have e1 : ((i : Int) < (l.length : Int)) := by omega
      have e2 : l.drop i = l[i] :: l.drop (i + 1) := List.drop_eq_getElem_cons hlt
      have e3 : IntKind.i64.wrap ((i : Int) + 1) = ((i + 1 : Nat) : Int) := w64 (by omega) (by omega)
      have ha : a ∈ l[i].kids := by rw [hk]; simp
      have hb : b ∈ l[i].kids := by rw [hk]; simp
      have hks := ((ok_eq _).1 ok).2.2.2.2
      have nt := nodes_two hk
      have na : dpF a ≤ 2^40 := by have := dp_nodes a (formed_kids hf a ha); rw [nt, List.length_append] at hn; omega
      have nb : dpF b ≤ 2^40 := by have := dp_nodes b (formed_kids hf b hb); rw [nt, List.length_append, List.length_cons] at hn; omega
      have x0 : ∀ H, ixA 5 (kidsA l[i].kids) (.int .i64 0) H = some (.ip a.av.cells) := fun H => ixA_kids (i := 0) (by rw [hk]; rfl)
      have x1 : ∀ H, ixA 5 (kidsA l[i].kids) (.int .i64 1) H = some (.ip b.av.cells) := fun H => ixA_kids (i := 1) (by rw [hk]; rfl)
      have da : ∀ H, callD (EV C) n_ref04_Depth [a.av] H = some (.int .i64 (dpF a : Int)) := fun H => callD_ok (by simp [goodL]) (rDepth_ok a (hks a ha) (formed_kids hf a ha) na)
      have db : ∀ H, callD (EV C) n_ref04_Depth [b.av] H = some (.int .i64 (dpF b : Int)) := fun H => callD_ok (by simp [goodL]) (rDepth_ok b (hks b hb) (formed_kids hf b hb) nb)
      have e4 : IntKind.i64.wrap ((dpF a : Int) - (dpF b : Int)) = (dpF a : Int) - (dpF b : Int) := by rw [wrap64] <;> omega
      have dr4 : List.drop 4 l[i].av.cells = [kidsA l[i].kids] := by rw [cells_tr]; rfl
      have bal : balN l[i] = (decide (dpF a ≤ dpF b + 1) && decide (dpF b ≤ dpF a + 1)) := by unfold balN; rw [hk]
      have nxt := ih (i + 1) E (by omega)
      rw [if_neg (by omega), Nat.add_sub_cancel] at nxt
      rw [e2, List.all_cons, bal]
      -- what comes behind the keys
      have fin : ∀ r : Bool, (risN (l.drop i) = r) → condK (.bool (decide (1 < (dpF a : Int) - (dpF b : Int)))) (endB false false 0 (.bool false) [.row 5 [t.av]] E)
          (condK (.bool (decide ((dpF a : Int) - (dpF b : Int) < -1))) (endB false false 0 (.bool false) [.row 5 [t.av]] E) (ref05_Is_J8 0 (kidsA l) (.int .i64 ((i + 1 : Nat) : Int)) [.row 5 [t.av]] E)) =
          some (.bool (r && (decide (dpF a ≤ dpF b + 1) && decide (dpF b ≤ dpF a + 1) && (l.drop (i + 1)).all balN)), [], []) := fun r hr => by
        by_cases h1 : dpF a ≤ dpF b + 1
        · have h1' : ¬ (1 < (dpF a : Int) - (dpF b : Int)) := by omega
          by_cases h2 : dpF b ≤ dpF a + 1
          · have h2' : ¬ ((dpF a : Int) - (dpF b : Int) < -1) := by omega
            simp only [h1', h2', decide_false, condK_f, h1, h2, decide_true, Bool.true_and]
            rw [nxt, hr]
          · have h2' : ((dpF a : Int) - (dpF b : Int) < -1) := by omega
            simp only [h1', h2', decide_false, decide_true, condK_f, condK_t, h1, h2, Bool.false_and, Bool.and_false]
            exact endB_good rfl
        · have h1' : (1 < (dpF a : Int) - (dpF b : Int)) := by omega
          simp only [h1', decide_true, condK_t, h1, decide_false, Bool.false_and, Bool.and_false]
          exact endB_good rfl
      by_cases hi : i = 0
      · subst hi
        have g : ¬ ((0 : Int) < ((0 : Nat) : Int)) := by omega
        simp -implicitDefEqProofs only [e1, g, ixA_kids (List.getElem?_eq_getElem hlt), dr4, x0, x1, da, db, sub_int, add_int, e3, e4, ZS, ZT, Nat.reduceAdd]
        have := fin (risN (l.drop 0)) rfl
        simpa [condK_dec, splitK_dec] using this
      · obtain ⟨j, rfl⟩ : ∃ j, i = j + 1 := ⟨i - 1, by omega⟩
        have g : ((0 : Int) < ((j + 1 : Nat) : Int)) := by omega
        have hj : j < l.length := by omega
        have e5 : IntKind.i64.wrap (((j + 1 : Nat) : Int) - 1) = ((j : Nat) : Int) := w64 (by omega) (by omega)
        rw [if_neg (by omega), Nat.add_sub_cancel, risN_drop hlt]
        simp -implicitDefEqProofs only [e1, g, e5, ixA_kids (List.getElem?_eq_getElem hlt), ixA_kids (List.getElem?_eq_getElem hj), dr_tr1, dr4, x0, x1, da, db, sub_int, add_int, e3, e4, geq_str, ZS, ZT, Nat.reduceAdd]
        cases hc : ltB l[j].key l[j + 1].key with
        | false =>
          simp -implicitDefEqProofs only [Bool.false_and, ZS, ZT, Nat.reduceAdd]
          exact endB_good rfl
        | true =>
          simp -implicitDefEqProofs only [Bool.true_and, ixA_kids (List.getElem?_eq_getElem hlt), dr4, x0, x1, da, db, sub_int, add_int, e3, e4, ZS, ZT, Nat.reduceAdd]
          have := fin (risN (l.drop (j + 1))) rfl
          simpa [condK_dec, splitK_dec] using this
    · have h' : l.length ≤ i := by omega
      refine ref05_Is_J8_of ?_
      have e1 : ¬ ((i : Int) < (l.length : Int)) := by omega
      have e2 : l.drop i = [] := List.drop_eq_nil_of_le (by omega)
      have e3 : (if i = 0 then risN l else risN (l.drop (i - 1))) = true := by
        have key : ∀ l' : List Tre, l'.length ≤ 1 → risN l' = true := fun l' h => by
          rcases l' with _ | ⟨a, _ | ⟨b, x⟩⟩
          · rfl
          · rfl
          · simp at h
        split
        · exact key _ (by omega)
        · exact key _ (by simp; omega)
      rw [e3, e2]
      simp -implicitDefEqProofs only [e1, List.all_nil, ZS, ZT, Nat.reduceAdd]
      exact endB_good rfl
end Go.Pm
namespace Go.Pm
open Go.Proofs
set_option linter.unusedVariables false
set_option linter.unusedSimpArgs false
theorem refIs_ok (t : Tre) (ht : t.ok) (hn : (nodesF t).length ≤ 2^40) : EV C n_ref05_Is [t.av] [] = some (.bool (isF t), [], []) := by
  refine ref05_Is_of ?_
  simp -implicitDefEqProofs only [ZS, ZT, Nat.reduceAdd]
  rw [callK_ok (by simp) (rCheck_ok t ht)]
  unfold isF
  by_cases hc : checkF t = 0
  · have hf := check_formed hc
    simp -implicitDefEqProofs only [hc, ne_eq, not_true_eq_false, ZS, ZT, Nat.reduceAdd]
    rw [callK_ok (by simp) (rFull_ok t ht hf)]
    cases hfl : fullF t with
    | false => simp -implicitDefEqProofs only [Bool.and_false, Bool.false_and, ZS, ZT, Nat.reduceAdd]; exact endB_good rfl
    | true =>
      simp -implicitDefEqProofs only [Bool.true_and, ZS, ZT, Nat.reduceAdd]
      rw [callK_ok (by simp) (rList_ok t ht hf hn)]
      have ho : ∀ k ∈ nodesF t, k.ok ∧ formedF k = true ∧ (nodesF k).length ≤ 2^40 ∧ ∃ a b, k.kids = [a, b] := fun k hk => by
        obtain ⟨a1, a2, a3⟩ := nodes_sub t ht hf k hk
        obtain ⟨_, _, _, a4⟩ := nodes_small t hf k hk
        exact ⟨a1, a2, by omega, a4⟩
      refine (is_loop t (nodesF t) hn ho (nodesF t).length 0 _ (by omega)).trans ?_
      rw [if_pos rfl, List.drop_zero, even_bal t hf]
  · simp -implicitDefEqProofs only [hc, ne_eq, not_false_eq_true, Bool.false_and, ZS, ZT, Nat.reduceAdd]
    exact endB_good rfl
end Go.Pm
namespace Go.Pm
open Go.Proofs
set_option linter.unusedVariables false
set_option linter.unusedSimpArgs false
theorem endB_take {n : Nat} {v u : AV} {H H' : List AObj} {E : List Nat} (h0 : frz H v = some u) (h1 : u.good = true) (hE : E = []) (hH : (killAll H (kills v)).take n = H') : endB false false n v H E = some (u, H', []) := by
  subst hE
  simp [endB, endA, h0, bel_good n u h1, hH]
theorem endB_at {v u : AV} {H H0 : List AObj} {E : List Nat} (h0 : frz H v = some u) (h1 : u.good = true) (hk : kills v = []) (hE : E = []) (hn : H.length = H0.length) : endB false false H0.length v H E = some (u, H, []) :=
  endB_take h0 h1 hE (by rw [hk]; simp [killAll, ← hn])
theorem nilA_ptr (l tot i off : Nat) : nilA (.ptr l tot i off) = some (.ptr l tot i off) := rfl
end Go.Pm
