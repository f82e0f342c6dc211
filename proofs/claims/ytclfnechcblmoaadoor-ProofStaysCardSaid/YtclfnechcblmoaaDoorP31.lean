/- A part of the proof: what the functions of the program answer, as plain lists and numbers. -/
import Derived.Test.YtclfnechcblmoaaDoorP7
import Derived.Test.YtclfnechcblmoaaDoorP29
import Derived.Test.YtclfnechcblmoaaDoorP30
namespace Go.Pm
open Go.Proofs
set_option linter.unusedVariables false
set_option linter.unusedSimpArgs false
theorem appD_fresh {z by_ : Nat} {x y : AV} {ys : List AV} {H : List AObj} (hx : freshA x = true) (hy : elemsA y H = some ys) (hz : lz z ys = true) (h1 : 0 < z) (h2 : 0 < by_) (h3 : by_ ≤ 1048576) (h4 : ys.length * by_ ≤ 140737489400832) :
    appD z by_ x y H = some (.lst ys) := by
  unfold appD appF
  rw [hy, Option.bind_some, if_pos ⟨hx, fun _ => ⟨hz, h1, h2, h3, h4⟩⟩]
theorem appDb (l : Bs) (h : l.length ≤ 140737489400000) (H : List AObj) : appD 1 1 (AV.emp none) (bys l) H = some (bys l) := appD_fresh rfl rfl (lz_u8 l) (by decide) (by decide) (by decide) (by rw [List.length_map]; omega)
theorem drawT {α β : Type} (a : α) (x : Option β) : drawK (a = a) x = x := if_pos rfl
theorem trm_tre {β : Type} (k a b c : AV) (ha : isNils a = false) (hb : isNils b = false) (hc : isNils c = false) (hk : isNils k = false) (H : List AObj) (K : AV → List AObj → List Nat → Option β) :
    trmK (.agg [k, a, b, c, .nils]) H [] K = K (.agg [k, a, b, c, .slc H.length 0 0 0]) (H ++ [.vrow]) [] := by
  have e : [k, a, b, c, AV.nils].findIdx? isNils = some 4 := by
    simp only [List.findIdx?_cons, hk, ha, hb, hc, show isNils AV.nils = true from rfl]; rfl
  unfold trmK trimA
  simp only [e]
  rfl
theorem siz5 {β : Type} (k a b c d : AV) (x : Option β) : sizK 5 (.agg [k, a, b, c, d]) x = x := by unfold sizK; exact if_pos (show (AV.agg [k, a, b, c, d]).cells.length = 5 from rfl)
theorem litD_one (x : Tre) (H : List AObj) : litD 5 1 (.agg [(.int .i64 0), .nils, .nils, .nils, .nils]) [(0, x.av)] H = some (kidsA [x]) := by
  have e1 : (killsL [x.av]).isEmpty = true := by simp [killsL, kills_good _ (good_tr x)]
  have e2 : frzL H [x.av] = some [x.av] := frzL_cons (frz_good _ _ (good_tr x)) rfl
  have e3 : ∀ (t : Tre), t.av.cells.length = 5 ∧ t.av.cells.all AV.one = true := fun t => by rw [cells_tr]; exact ⟨rfl, rfl⟩
  unfold litD
  simp only [List.map_cons, List.map_nil]
  rw [if_pos e1, e2, Option.bind_some, frz_nil0, Option.bind_some]
  simp only [List.zip_cons_cons, List.zip_nil_right, setS, (e3 _).1, (e3 _).2, List.length_replicate, List.length_set, List.replicate, List.set_cons_zero, List.length_cons, List.length_nil]
  rfl
theorem lz_tr5 (l : List Tre) : lz 5 (l.map Tre.av) = true := by cases l with
  | nil => rfl
  | cons t l => simp only [List.map_cons, lz]; rw [cells_tr]; rfl
theorem fill_abc {β : Type} (k : Int) (a b c : AV) (ha : a.cells = [a]) (hb : b.cells = [b]) (hc : c.cells = [c]) (ga : a.isBad = false) (gb : b.isBad = false) (gc : c.isBad = false) (K : List AV → Option β) :
    (fillB (AV.cells (.agg [(.int .i64 0), .nils, .nils, .nils, .nils])) [(0, 1, (.int .i64 k)), (1, 1, a), (2, 1, b), (3, 1, c)]).bind K = K [.int .i64 k, a, b, c, .nils] := by
  have hz : (AV.agg [(.int .i64 0), .nils, .nils, .nils, .nils]).cells = [(.int .i64 0), .nils, .nils, .nils, .nils] := rfl
  have hi : (AV.int .i64 k).cells = [.int .i64 k] := rfl
  have gi : (AV.int .i64 k).isBad = false := rfl
  simp [fillB, hz, hi, gi, ha, hb, hc, ga, gb, gc]
mutual
/-- lengths that a copy has room for -/
def Tre.fit : Tre → Prop
  | .mk k a b c ks => a.length ≤ 2^40 ∧ b.length ≤ 2^40 ∧ c.length ≤ 2^40 ∧ ks.length ≤ 2^40 ∧ fitL ks
def fitL : List Tre → Prop
  | [] => True
  | t :: ts => t.fit ∧ fitL ts
end
theorem fitL_all : ∀ (l : List Tre), fitL l ↔ ∀ t ∈ l, t.fit
  | [] => by simp [fitL]
  | t :: ts => by simp [fitL, fitL_all ts]
theorem fit_eq (t : Tre) : t.fit ↔ t.key.length ≤ 2^40 ∧ t.value.length ≤ 2^40 ∧ t.digest.length ≤ 2^40 ∧ t.kids.length ≤ 2^40 ∧ ∀ k ∈ t.kids, k.fit := by
  cases t with
  | mk k a b c ks => rw [Tre.fit, fitL_all]; rfl
theorem copy_loop (t : Tre) (ht : t.fit) (ih : ∀ k ∈ t.kids, EV C n_ref04_Copy [k.av] [] = some (k.av, [], [])) (E0 : List Nat) : ∀ (m i : Nat) (E : List Nat), i + m = t.kids.length →
    ref04_Copy_J3 0 (.ptr 0 1 0 0) (.ptr 1 1 0 0) (.ptr 3 1 0 0) (.int .i64 (i : Int)) [.row 5 [t.av], .row 5 [.agg [.int .i64 0, .nils, .nils, .nils, .nils]], vro 5 ((t.kids.take i).map Tre.av), .row 5 [.agg [.int .i64 t.kind, bys t.key, bys t.value, bys t.digest, .slc 2 0 i i]]] E = some (t.av, [], [])
  | 0, i, E, h => by
    obtain ⟨ha, hb, hc, hk, hks⟩ := (fit_eq t).1 ht
    refine ref04_Copy_J3_of ?_
    have e1 : ¬ ((i : Int) < (t.kids.length : Int)) := by omega
    simp only [offA_ptr, Nat.zero_add, Option.bind_some, ld_tr0_s, lenV_kids, lss_int, e1, decide_false, condK_f]
    rw [ld_agg (l := 3) (z := 5) rfl rfl, Option.bind_some, sto_agg (l := 1) (z := 5) rfl rfl rfl (by simp [AV.one, bys])]
    simp only [List.set_cons_succ, List.set_cons_zero]
    rw [ld_agg (l := 1) (z := 5) rfl rfl, Option.bind_some]
    have e2 : t.kids.take i = t.kids := List.take_of_length_le (by omega)
    rw [e2]
    refine endB_frz (u := t.av) ?_ (good_tr t)
    rw [av_eq]
    exact frz_agg (frzL_cons rfl (frzL_cons (frz_good _ _ (good_bys _)) (frzL_cons (frz_good _ _ (good_bys _)) (frzL_cons (frz_good _ _ (good_bys _)) (frzL_cons (frz_vro (z := 5) rfl (by rw [List.length_map]; omega) (goodL_tr _)) rfl)))))
  | m + 1, i, E, h => by
    obtain ⟨ha, hb, hc, hk, hks⟩ := (fit_eq t).1 ht
    refine ref04_Copy_J3_of ?_
    have hi : i < t.kids.length := by omega
    have e1 : ((i : Int) < (t.kids.length : Int)) := by omega
    have e3 : IntKind.i64.wrap ((i : Int) + 1) = ((i + 1 : Nat) : Int) := w64 (by omega) (by omega)
    simp only [offA_ptr, Nat.zero_add, Option.bind_some, ld_tr0_s, lenV_kids, lss_int, e1, decide_true, condK_t]
    rw [show ∀ X : AV, loadA false 1 (.ptr 3 1 0 4) [.row 5 [t.av], .row 5 [X], vro 5 ((t.kids.take i).map Tre.av), .row 5 [.agg [.int .i64 t.kind, bys t.key, bys t.value, bys t.digest, .slc 2 0 i i]]] = some (.slc 2 0 i i) from fun _ => rfl, Option.bind_some]
    rw [ixA_kids (List.getElem?_eq_getElem hi), Option.bind_some, loadA_tr, Option.bind_some, callD_ok (by simp) (ih _ (List.getElem_mem hi)), Option.bind_some, litD_one, Option.bind_some]
    rw [appK_vro (l := 2) (z := 5) (es := (t.kids.take i).map Tre.av) (ys := [t.kids[i]].map Tre.av) rfl rfl (by rw [List.length_map, List.length_take]; omega) (lz_tr5 _) (by decide) (by decide) (by decide) (by simp; omega), esc_good (goodL_tr _)]
    simp only [List.set_cons_succ, List.set_cons_zero]
    rw [sto_fld (l := 3) rfl (by simp) rfl rfl]
    simp only [List.set_cons_succ, List.set_cons_zero, add_int, e3, Option.bind_some, List.length_map, List.length_singleton]
    have := copy_loop t ht ih E0 m (i + 1) ((escs 3 [.slc 2 0 (i + 1) (i + 1)] ++ ([] ++ [])) ++ E) (by omega)
    rw [show t.kids.take (i + 1) = t.kids.take i ++ [t.kids[i]] by rw [List.take_add_one, List.getElem?_eq_getElem hi]; rfl, List.map_append] at this
    exact this
theorem Copy_ok (t : Tre) : t.fit → EV C n_ref04_Copy [t.av] [] = some (t.av, [], []) := by
  induction t using Tre.ind with
  | h t ih =>
    intro ht
    obtain ⟨ha, hb, hc, hk, hks⟩ := (fit_eq t).1 ht
    refine ref04_Copy_of ?_
    simp only [List.length_nil, new_tr, new_z, List.nil_append, List.length_singleton, List.cons_append, offA_ptr, Nat.zero_add, Nat.add_zero, Option.bind_some, ld_tr0_k, ld_tr0_a, ld_tr0_b, ld_tr0_c]
    rw [appDb t.key (by omega), Option.bind_some, appDb t.value (by omega), Option.bind_some, appDb t.digest (by omega), Option.bind_some]
    rw [fill_abc t.kind (bys t.key) (bys t.value) (bys t.digest) rfl rfl rfl rfl rfl rfl, trm_tre _ _ _ _ rfl rfl rfl rfl, siz5, new_agg (by simp) (by simp [AV.one, bys])]
    exact copy_loop t ht (fun k hk => ih k hk (hks k hk)) [] t.kids.length 0 _ (by omega)
end Go.Pm
namespace Go.Pm
open Go.Proofs
set_option linter.unusedVariables false
set_option linter.unusedSimpArgs false
/-- bytes that one may write to, or none -/
def Cel (G : List AObj) (c : AV) : Prop := c = .emp none ∨ ∃ l n bs, c = .slc l 0 n n ∧ G[l]? = some (.row 1 ((bs : Bs).map u8)) ∧ bs.length = n ∧ n ≤ 2^40
theorem app_l {G X : List AObj} {l : Nat} {o : AObj} (h : G[l]? = some o) : (G ++ X)[l]? = some o := by
  rw [List.getElem?_append_left (List.getElem?_eq_some_iff.1 h).1]; exact h
theorem Cel.app {G : List AObj} {c : AV} (h : Cel G c) (X : List AObj) : Cel (G ++ X) c := by
  rcases h with h | ⟨l, n, bs, h1, h2, h3⟩
  · exact .inl h
  · exact .inr ⟨l, n, bs, h1, app_l h2, h3⟩
theorem Cel.set {G : List AObj} {c : AV} (h : Cel G c) {o z : Nat} {es : List AV} (ho : G[o]? = some (vro z es)) (hz : z ≠ 1) (X : AObj) : Cel (G.set o X) c := by
  rcases h with h | ⟨l, n, bs, h1, h2, h3⟩
  · exact .inl h
  · refine .inr ⟨l, n, bs, h1, ?_, h3⟩
    rw [List.getElem?_set_ne]
    · exact h2
    · intro e; subst e
      rw [h2] at ho
      unfold vro at ho
      split at ho
      · simp at ho
      · simp at ho; exact hz ho.1.symm
theorem ld_sp {H : List AObj} {b : Nat} {s : Spn} (h : H[b]? = some (.row 3 [s.av])) : loadA true 3 (.ptr b 1 0 0) H = some s.av := by
  unfold Spn.av at h ⊢; exact ld_agg h rfl
theorem raw_one {β : Type} (z : Nat) (zero v : AV) (h1 : v.cells.length = z) (h2 : v.cells.all AV.one = true) (H : List AObj) (K : AV → List AObj → List Nat → Option β) :
    rawK z 1 zero [(0, v)] H K = K (.slc H.length 0 1 1) (H ++ [.row z [v]]) [] := by
  unfold rawK
  simp only [List.replicate, setS, h1, h2, List.length_cons, List.length_nil, List.set_cons_zero]
  rfl
end Go.Pm
