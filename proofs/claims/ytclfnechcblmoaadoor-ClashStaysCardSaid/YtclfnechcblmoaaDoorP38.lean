/- A part of the proof: what the functions of the program answer, as plain lists and numbers. -/
import Derived.Test.YtclfnechcblmoaaDoorP30
import Derived.Test.YtclfnechcblmoaaDoorP34
import Derived.Test.YtclfnechcblmoaaDoorP35
import Derived.Test.YtclfnechcblmoaaDoorP37
namespace Go.Pm
open Go.Proofs
set_option linter.unusedVariables false
set_option linter.unusedSimpArgs false
theorem drawTr {β : Type} (x : Option β) : drawK True x = x := if_pos trivial
/-- bytes in a row of one's own, from place m on; or a fresh empty slice -/
def CelB (m : Nat) (G : List AObj) (bs : Bs) (c : AV) : Prop := (c = .emp none ∧ bs = []) ∨ ∃ l, m ≤ l ∧ c = .slc l 0 bs.length bs.length ∧ G[l]? = some (.row 1 (bs.map u8)) ∧ bs.length ≤ 2^40
mutual
def Own (m : Nat) (G : List AObj) : Tre → AV → Prop
  | .mk k a b c ks, v => ∃ ka va kk, v = .agg [.int .i64 k, ka, va, bys c, kk] ∧ CelB m G a ka ∧ CelB m G b va ∧
      ((ks = [] ∧ ∃ l, m ≤ l ∧ kk = .slc l 0 0 0 ∧ G[l]? = some .vrow) ∨ ∃ vs, kk = .lst vs ∧ vs ≠ [] ∧ OwnL m G ks vs)
def OwnL (m : Nat) (G : List AObj) : List Tre → List AV → Prop
  | [], vs => vs = []
  | t :: ts, vs => ∃ v us, vs = v :: us ∧ Own m G t v ∧ OwnL m G ts us
end
def KidsO (m : Nat) (G : List AObj) (ks : List Tre) (kk : AV) : Prop := (ks = [] ∧ ∃ l, m ≤ l ∧ kk = .slc l 0 0 0 ∧ G[l]? = some .vrow) ∨ ∃ vs, kk = .lst vs ∧ vs ≠ [] ∧ OwnL m G ks vs
theorem own_eq {m : Nat} {G : List AObj} {t : Tre} {v : AV} : Own m G t v ↔ ∃ ka va kk, v = .agg [.int .i64 t.kind, ka, va, bys t.digest, kk] ∧ CelB m G t.key ka ∧ CelB m G t.value va ∧ KidsO m G t.kids kk := by
  cases t with
  | mk k a b c ks => unfold Own KidsO; rfl
theorem CelB.mono {m m' : Nat} {G G' : List AObj} {bs : Bs} {c : AV} (h : CelB m G bs c) (hm : m' ≤ m) (hG : ∀ l, m ≤ l → l < G.length → G'[l]? = G[l]?) : CelB m' G' bs c := by
  rcases h with h | ⟨l, h1, h2, h3, h4⟩
  · exact .inl h
  · exact .inr ⟨l, by omega, h2, (hG l h1 (List.getElem?_eq_some_iff.1 h3).1).trans h3, h4⟩
mutual
theorem Own.mono {m m' : Nat} {G G' : List AObj} (hm : m' ≤ m) (hG : ∀ l, m ≤ l → l < G.length → G'[l]? = G[l]?) : ∀ (t : Tre) (v : AV), Own m G t v → Own m' G' t v
  | .mk k a b c ks, v, h => by
    unfold Own at h ⊢
    obtain ⟨ka, va, kk, h1, h2, h3, h4⟩ := h
    refine ⟨ka, va, kk, h1, h2.mono hm hG, h3.mono hm hG, ?_⟩
    rcases h4 with ⟨h5, l, h6, h7, h8⟩ | ⟨vs, h5, h50, h6⟩
    · exact .inl ⟨h5, l, by omega, h7, (hG l h6 (List.getElem?_eq_some_iff.1 h8).1).trans h8⟩
    · exact .inr ⟨vs, h5, h50, OwnL.mono hm hG ks vs h6⟩
theorem OwnL.mono {m m' : Nat} {G G' : List AObj} (hm : m' ≤ m) (hG : ∀ l, m ≤ l → l < G.length → G'[l]? = G[l]?) : ∀ (ts : List Tre) (vs : List AV), OwnL m G ts vs → OwnL m' G' ts vs
  | [], vs, h => by unfold OwnL at h ⊢; exact h
  | t :: ts, vs, h => by
    unfold OwnL at h ⊢
    obtain ⟨v, us, h1, h2, h3⟩ := h
    exact ⟨v, us, h1, Own.mono hm hG t v h2, OwnL.mono hm hG ts us h3⟩
end
theorem OwnL.snoc {m : Nat} {G : List AObj} {t : Tre} {v : AV} (h : Own m G t v) : ∀ {ts : List Tre} {vs : List AV}, OwnL m G ts vs → OwnL m G (ts ++ [t]) (vs ++ [v])
  | [], vs, hl => by unfold OwnL at hl; subst hl; simp only [List.nil_append]; unfold OwnL; exact ⟨v, [], rfl, h, by unfold OwnL; rfl⟩
  | u :: ts, vs, hl => by
    unfold OwnL at hl
    obtain ⟨w, us, rfl, h2, h3⟩ := hl
    simp only [List.cons_append]; unfold OwnL
    exact ⟨w, us ++ [v], rfl, h2, OwnL.snoc h h3⟩
theorem OwnL.len {m : Nat} {G : List AObj} : ∀ {ts : List Tre} {vs : List AV}, OwnL m G ts vs → vs.length = ts.length
  | [], vs, hl => by unfold OwnL at hl; subst hl; rfl
  | u :: ts, vs, hl => by
    unfold OwnL at hl
    obtain ⟨w, us, rfl, h2, h3⟩ := hl
    simp [OwnL.len h3]
theorem celB_one {m : Nat} {G : List AObj} {bs : Bs} {c : AV} (h : CelB m G bs c) : c.cells = [c] ∧ c.one = true ∧ c.isBad = false ∧ isNils c = false ∧ big G c = false ∧ c.bel G.length = true := by
  rcases h with ⟨rfl, _⟩ | ⟨l, _, rfl, h, _⟩
  · exact ⟨rfl, rfl, rfl, rfl, rfl, rfl⟩
  · refine ⟨rfl, rfl, rfl, rfl, ?_, ?_⟩
    · simp [big, h]
    · have := (List.getElem?_eq_some_iff.1 h).1
      simpa [AV.bel] using this
theorem CelB.cel {m : Nat} {G : List AObj} {bs : Bs} {c : AV} (h : CelB m G bs c) : Cel G c := by
  rcases h with ⟨rfl, _⟩ | ⟨l, _, rfl, h, h4⟩
  · exact .inl rfl
  · exact .inr ⟨l, _, bs, rfl, h, rfl, h4⟩
theorem app_emp {β : Type} (bs : Bs) (hb : bs.length ≤ 2^40) (m : Nat) (G : List AObj) (hm : m ≤ G.length) : ∃ c Y, CelB m (G ++ Y) bs c ∧ ∀ K : AV → List AObj → List Nat → Option β, appK 1 1 (.emp none) (bys bs) G K = K c (G ++ Y) [] := by
  cases bs with
  | nil => exact ⟨.emp none, [], .inl ⟨rfl, rfl⟩, fun K => by rw [List.append_nil]; rfl⟩
  | cons x xs =>
    refine ⟨.slc G.length 0 (x :: xs).length (x :: xs).length, [.row 1 ((x :: xs).map u8)], .inr ⟨G.length, hm, rfl, by simp, hb⟩, fun K => ?_⟩
    rw [appK_fresh (ys := (x :: xs).map u8) (.inl rfl) rfl rfl (lz_u8 _) (by decide) (by decide) (by decide) (by rw [List.length_map]; omega), List.length_map]
theorem frc_kids {β : Type} {G : List AObj} {k : Int} {ka va d : AV} {kr N : Nat} {vs : List AV} (ha : big G ka = false) (hb : big G va = false) (hd : big G d = false) (hk : G[kr]? = some (vro 5 vs)) (hN : N = vs.length) :
    ∃ kk G', ((vs = [] ∧ kk = .slc kr 0 0 0 ∧ G' = G) ∨ (kk = .lst vs ∧ vs ≠ [] ∧ G' = G.set kr .dead)) ∧ ∀ K : AV → List AObj → List Nat → Option β, frcK (.agg [.int .i64 k, ka, va, d, .slc kr 0 N N]) G [] K = K (.agg [.int .i64 k, ka, va, d, kk]) G' [] := by
  have h0 : big G (.int .i64 k) = false := rfl
  subst hN
  cases vs with
  | nil =>
    rw [vro_nil] at hk
    have h1 : big G (.slc kr 0 0 0) = false := by simp [big, hk]
    refine ⟨.slc kr 0 0 0, G, .inl ⟨rfl, rfl, rfl⟩, fun K => ?_⟩
    simp only [frcK, frzC, List.map_cons, List.map_nil, frzC1, killC, h0, ha, hb, hd, List.length_nil, h1, List.append_nil, killAll, Option.bind_some]
  | cons x xs =>
    rw [vro_cons (by simp)] at hk
    have h1 : big G (.slc kr 0 (x :: xs).length (x :: xs).length) = true := by simp [big, hk]
    have h2 : frz G (.slc kr 0 (x :: xs).length (x :: xs).length) = some (.lst (x :: xs)) := by simp [frz, hk]
    refine ⟨.lst (x :: xs), G.set kr .dead, .inr ⟨rfl, by simp, rfl⟩, fun K => ?_⟩
    simp only [frcK, frzC, List.map_cons, List.map_nil, frzC1, killC, h0, ha, hb, hd, h1, h2, Option.getD_some, List.append_nil, List.nil_append, kills, killAll, Option.bind_some]
structure Ci (G4 G : List AObj) (t : Tre) (ka va : AV) (i : Nat) (vs : List AV) : Prop where
  low : ∀ l, l < G4.length → G[l]? = G4[l]?
  kr : G[G4.length]? = some (vro 5 vs)
  ou : G[G4.length + 1]? = some (.row 5 [.agg [.int .i64 t.kind, ka, va, bys t.digest, .slc G4.length 0 i i]])
  own : OwnL (G4.length + 2) G (t.kids.take i) vs
  len : G4.length + 2 ≤ G.length
theorem ownL_get {m : Nat} {G : List AObj} {t : Tre} {v : AV} (h : Own m G t v) : v.cells.length = 5 ∧ v.cells.all AV.one = true ∧ loadA true 5 (.ip v.cells) G = some v := by
  rw [own_eq] at h
  obtain ⟨ka, va, kk, rfl, h1, h2, h3⟩ := h
  have o1 := celB_one h1; have o2 := celB_one h2
  have o3 : kk.one = true := by
    rcases h3 with ⟨_, l, _, rfl, _⟩ | ⟨vs, rfl, _, _⟩ <;> rfl
  refine ⟨rfl, ?_, rfl⟩
  simp [AV.cells, AV.one, bys, o1.2.1, o2.2.1, o3]
def CopyR (H : List AObj) (t : Tre) (r : Option R3) : Prop := ∃ v G E, r = some (v, G, E) ∧ Own H.length G t v ∧ (∀ l, l < H.length → G[l]? = H[l]?) ∧ H.length ≤ G.length
theorem copyr_loop (n : Nat) (H : List AObj) (t : Tre) (ht : t.fit) (ih : ∀ k ∈ t.kids, ∀ H, CopyR H k (EV C n_ref04_Copy_r [k.av] H)) (G4 : List AObj) (ka va : AV) (h4 : H.length + 2 ≤ G4.length) (hx : G4[H.length]? = some (.row 5 [t.av])) (hz : G4[H.length + 1]? = some (.row 5 [.agg [.int .i64 0, .nils, .nils, .nils, .nils]]))
    (ca : CelB (H.length + 2) G4 t.key ka) (cb : CelB (H.length + 2) G4 t.value va) (hpre : ∀ l, l < H.length → G4[l]? = H[l]?) : ∀ (m i : Nat) (G : List AObj) (vs : List AV) (E : List Nat), i + m = t.kids.length → Ci G4 G t ka va i vs →
    CopyR H t (ref04_Copy_r_J3 n (.ptr H.length 1 0 0) (.ptr (H.length + 1) 1 0 0) (.ptr (G4.length + 1) 1 0 0) (.int .i64 (i : Int)) G E)
  | 0, i, G, vs, E, h, hC => by
    obtain ⟨ha, hb, hc, hk, hks⟩ := (fit_eq t).1 ht
    have hx' : G[H.length]? = some (.row 5 [t.av]) := (hC.low _ (by omega)).trans hx
    have hz' : G[H.length + 1]? = some (.row 5 [.agg [.int .i64 0, .nils, .nils, .nils, .nils]]) := (hC.low _ (by omega)).trans hz
    have ca' : CelB (H.length + 2) G t.key ka := by
      rcases ca with h | ⟨l, h1, h2, h3, h4⟩
      · exact .inl h
      · exact .inr ⟨l, h1, h2, (hC.low l (List.getElem?_eq_some_iff.1 h3).1).trans h3, h4⟩
    have cb' : CelB (H.length + 2) G t.value va := by
      rcases cb with h | ⟨l, h1, h2, h3, h4⟩
      · exact .inl h
      · exact .inr ⟨l, h1, h2, (hC.low l (List.getElem?_eq_some_iff.1 h3).1).trans h3, h4⟩
    have la : ∀ l o, CelB (H.length + 2) G4 o l → True := fun _ _ _ => trivial
    have e2 : t.kids.take i = t.kids := List.take_of_length_le (by omega)
    have hvl : vs.length = i := by have := hC.own.len; rw [e2] at this; omega
    have hown := hC.own; rw [e2] at hown
    have a1 := celB_one ca'; have b1 := celB_one cb'
    obtain ⟨kk, G', hkk, hfr⟩ := frc_kids (β := R3) (G := G) (k := t.kind) (ka := ka) (va := va) (d := bys t.digest) (kr := G4.length) (N := i) (vs := vs) a1.2.2.2.2.1 b1.2.2.2.2.1 rfl hC.kr hvl.symm
    have hG' : ∀ l, l ≠ G4.length → G'[l]? = G[l]? := fun l hl => by
      rcases hkk with ⟨_, _, rfl⟩ | ⟨_, _, rfl⟩
      · rfl
      · rw [List.getElem?_set_ne (Ne.symm hl)]
    have hlen' : G'.length = G.length := by
      rcases hkk with ⟨_, _, rfl⟩ | ⟨_, _, rfl⟩
      · rfl
      · simp
    have hz2 : G'[H.length + 1]? = some (.row 5 [.agg [.int .i64 0, .nils, .nils, .nils, .nils]]) := (hG' _ (by omega)).trans hz'
    have hfin : ∀ l, l ≠ G4.length → l ≠ H.length + 1 → (G'.set (H.length + 1) (.row 5 [.agg [.int .i64 t.kind, ka, va, bys t.digest, kk]]))[l]? = G[l]? := fun l h1 h2 => by
      rw [List.getElem?_set_ne (Ne.symm h2)]; exact hG' l h1
    have one_kk : kk.one = true := by rcases hkk with ⟨_, rfl, _⟩ | ⟨rfl, _, _⟩ <;> rfl
    refine ⟨.agg [.int .i64 t.kind, ka, va, bys t.digest, kk], G'.set (H.length + 1) (.row 5 [.agg [.int .i64 t.kind, ka, va, bys t.digest, kk]]), escs (H.length + 1) [.int .i64 t.kind, ka, va, bys t.digest, kk] ++ ([] ++ E), ref04_Copy_r_J3_of ?_, ?_, fun l hl => ?_, by rw [List.length_set, hlen']; have := hC.len; omega⟩
    · have e1 : ¬ ((i : Int) < (t.kids.length : Int)) := by omega
      rw [offA_ptr, Option.bind_some, Nat.zero_add, ld_boxs hx', Option.bind_some, lenV_kids, Option.bind_some, lss_int, Option.bind_some, condK_dec, if_neg e1]
      rw [ld_agg hC.ou rfl, Option.bind_some, hfr, sto_agg hz2 rfl rfl (by simp [AV.one, bys, a1.2.1, b1.2.1, one_kk]), ld_agg (z := 5) (cs := [.int .i64 t.kind, ka, va, bys t.digest, kk]) (List.getElem?_set_self (List.getElem?_eq_some_iff.1 hz2).1) rfl, Option.bind_some]
      exact endB_raw
    · rw [own_eq]
      refine ⟨ka, va, kk, rfl, ?_, ?_, ?_⟩
      · rcases ca with h | ⟨l, h1, h2, h3, h4⟩
        · exact .inl h
        · have hl := (List.getElem?_eq_some_iff.1 h3).1
          exact .inr ⟨l, by omega, h2, (hfin l (by omega) (by omega)).trans ((hC.low l hl).trans h3), h4⟩
      · rcases cb with h | ⟨l, h1, h2, h3, h4⟩
        · exact .inl h
        · have hl := (List.getElem?_eq_some_iff.1 h3).1
          exact .inr ⟨l, by omega, h2, (hfin l (by omega) (by omega)).trans ((hC.low l hl).trans h3), h4⟩
      · rcases hkk with ⟨hv, rfl, rfl⟩ | ⟨rfl, hne, rfl⟩
        · refine .inl ⟨?_, G4.length, by omega, rfl, ?_⟩
          · subst hv; exact List.eq_nil_of_length_eq_zero (by simp at hvl; omega)
          · rw [List.getElem?_set_ne (by omega), hC.kr, hv]; rfl
        · exact .inr ⟨vs, rfl, hne, OwnL.mono (by omega) (fun l h1 h2 => hfin l (by omega) (by omega)) _ _ hown⟩
    · rw [hfin l (by omega) (by omega), hC.low l (by omega)]; exact hpre l hl
  | m + 1, i, G, vs, E, h, hC => by
    obtain ⟨ha, hb, hc, hk, hks⟩ := (fit_eq t).1 ht
    have hx' : G[H.length]? = some (.row 5 [t.av]) := (hC.low _ (by omega)).trans hx
    have hi : i < t.kids.length := by omega
    have hvl : vs.length = i := by have := hC.own.len; rw [List.length_take] at this; omega
    obtain ⟨v, G', E', g1, g2, g3, g4⟩ := ih _ (List.getElem_mem hi) G
    have hou' : G'[G4.length + 1]? = some (.row 5 [.agg [.int .i64 t.kind, ka, va, bys t.digest, .slc G4.length 0 i i]]) := (g3 _ (by have := hC.len; omega)).trans hC.ou
    obtain ⟨v1, v2, _⟩ := ownL_get g2
    have hou2 : (G' ++ [AObj.row 5 [v]])[G4.length + 1]? = some (.row 5 [.agg [.int .i64 t.kind, ka, va, bys t.digest, .slc G4.length 0 i i]]) := app_l hou'
    have hkr2 : (G' ++ [AObj.row 5 [v]])[G4.length]? = some (vro 5 vs) := app_l ((g3 _ (by have := hC.len; omega)).trans hC.kr)
    have hou3 : ((G' ++ [AObj.row 5 [v]]).set G4.length (vro 5 (vs ++ [v])))[G4.length + 1]? = some (.row 5 [.agg [.int .i64 t.kind, ka, va, bys t.digest, .slc G4.length 0 i i]]) := by
      rw [List.getElem?_set_ne (by omega)]; exact hou2
    have hlen := hC.len
    have hC2 : Ci G4 (((G' ++ [AObj.row 5 [v]]).set G4.length (vro 5 (vs ++ [v]))).set (G4.length + 1) (.row 5 [.agg [.int .i64 t.kind, ka, va, bys t.digest, .slc G4.length 0 (i + 1) (i + 1)]])) t ka va (i + 1) (vs ++ [v]) := by
      have far : ∀ l, G4.length + 2 ≤ l → l < G'.length → (((G' ++ [AObj.row 5 [v]]).set G4.length (vro 5 (vs ++ [v]))).set (G4.length + 1) (.row 5 [.agg [.int .i64 t.kind, ka, va, bys t.digest, .slc G4.length 0 (i + 1) (i + 1)]]))[l]? = G'[l]? := fun l h1 h2 => by
        rw [List.getElem?_set_ne (by omega), List.getElem?_set_ne (by omega), List.getElem?_append_left h2]
      refine ⟨fun l hl => ?_, ?_, ?_, ?_, by simp; omega⟩
      · rw [List.getElem?_set_ne (by omega), List.getElem?_set_ne (by omega), List.getElem?_append_left (by omega), g3 l (by omega)]; exact hC.low l hl
      · rw [List.getElem?_set_ne (by omega)]; exact List.getElem?_set_self (by simp; omega)
      · exact List.getElem?_set_self (by simp; omega)
      · rw [show t.kids.take (i + 1) = t.kids.take i ++ [t.kids[i]] by rw [List.take_add_one, List.getElem?_eq_getElem hi]; rfl]
        refine OwnL.snoc (Own.mono (m := G.length) (by omega) (fun l h1 h2 => far l (by omega) h2) _ _ g2) (OwnL.mono (Nat.le_refl _) (fun l h1 h2 => (far l h1 (by omega)).trans (g3 l h2)) _ _ hC.own)
    obtain ⟨v', G'', E'', k1, k2⟩ := copyr_loop n H t ht ih G4 ka va h4 hx hz ca cb hpre m (i + 1) _ (vs ++ [v]) ((escs (G4.length + 1) [.slc G4.length 0 (i + 1) (i + 1)] ++ ((if ([v].isEmpty) = true then [] else escs G4.length [v]) ++ ([] ++ (E' ++ [])))) ++ E) (by omega) hC2
    refine ⟨v', G'', E'', ref04_Copy_r_J3_of ?_, k2⟩
    have e1 : ((i : Int) < (t.kids.length : Int)) := by omega
    have e3 : IntKind.i64.wrap ((i : Int) + 1) = ((i + 1 : Nat) : Int) := w64 (by omega) (by omega)
    have l0 : loadA false 1 (.ptr (G4.length + 1) 1 0 4) G = some (.slc G4.length 0 i i) := ld_fld hC.ou rfl
    have l1 : loadA false 1 (.ptr (G4.length + 1) 1 0 4) G' = some (.slc G4.length 0 i i) := ld_fld hou' rfl
    have l2 : loadA false 1 (.ptr (G4.length + 1) 1 0 4) (G' ++ [.row 5 [v]]) = some (.slc G4.length 0 i i) := ld_fld hou2 rfl
    simp -implicitDefEqProofs only [offA_ptr, Option.bind_some, Nat.zero_add, ld_boxs hx', lenV_kids, lss_int, condK_dec, if_pos e1, l0, ixA_kids (List.getElem?_eq_getElem hi), loadA_tr]
    rw [callK_raw g1]
    simp -implicitDefEqProofs only [l1, Option.bind_some, drawT]
    rw [raw_one 5 _ v v1 v2]
    simp -implicitDefEqProofs only [l2, Option.bind_some, drawT]
    rw [appK_vro (l := G4.length) (es := vs) (ys := [v]) (by simp [elemsA]) hkr2 hvl.symm (by simp [lz, v1]) (by decide) (by decide) (by decide) (by simp; omega)]
    rw [sto_fld (l := G4.length + 1) hou3 (by simp) rfl rfl]
    simp -implicitDefEqProofs only [add_int, Option.bind_some, e3, drawTr]
    exact k1
theorem Copyr_ok (t : Tre) : t.fit → ∀ H, CopyR H t (EV C n_ref04_Copy_r [t.av] H) := by
  induction t using Tre.ind with
  | h t ih =>
    intro ht H
    obtain ⟨ha, hb, hc, hk, hks⟩ := (fit_eq t).1 ht
    have hx0 : (H ++ [AObj.row 5 [t.av]] ++ [AObj.row 5 [AV.agg [.int .i64 0, .nils, .nils, .nils, .nils]]])[H.length]? = some (.row 5 [t.av]) := app_l (by simp)
    have hz0 : (H ++ [AObj.row 5 [t.av]] ++ [AObj.row 5 [AV.agg [.int .i64 0, .nils, .nils, .nils, .nils]]])[H.length + 1]? = some (.row 5 [.agg [.int .i64 0, .nils, .nils, .nils, .nils]]) := by
      rw [List.getElem?_append_right (by simp)]; simp
    have hl0 : (H ++ [AObj.row 5 [t.av]] ++ [AObj.row 5 [AV.agg [.int .i64 0, .nils, .nils, .nils, .nils]]]).length = H.length + 2 := by simp
    generalize hG2 : H ++ [AObj.row 5 [t.av]] ++ [AObj.row 5 [.agg [.int .i64 0, .nils, .nils, .nils, .nils]]] = G2 at hx0 hz0 hl0
    have hp0 : ∀ l, l < H.length → G2[l]? = H[l]? := fun l hl => by rw [← hG2, List.append_assoc, List.getElem?_append_left hl]
    obtain ⟨ka, Y1, c1, q1⟩ := app_emp (β := R3) t.key ha (H.length + 2) G2 (by omega)
    obtain ⟨va, Y2, c2, q2⟩ := app_emp (β := R3) t.value hb (H.length + 2) (G2 ++ Y1) (by rw [List.length_append]; omega)
    have c1' : CelB (H.length + 2) (G2 ++ Y1 ++ Y2) t.key ka := c1.mono (Nat.le_refl _) fun l _ h => by rw [List.getElem?_append_left h]
    have o1 := celB_one c1'; have o2 := celB_one c2
    have hx1 := app_l (X := Y1) hx0
    have hx2 := app_l (X := Y2) hx1
    have hC : Ci (G2 ++ Y1 ++ Y2) ((G2 ++ Y1 ++ Y2 ++ [.vrow]) ++ [.row 5 [.agg [.int .i64 t.kind, ka, va, bys t.digest, .slc (G2 ++ Y1 ++ Y2).length 0 0 0]]]) t ka va 0 [] := by
      refine ⟨fun l hl => ?_, ?_, ?_, by simp only [List.take_zero]; unfold OwnL; rfl, by simp; omega⟩
      · rw [List.append_assoc, List.getElem?_append_left hl]
      · rw [List.getElem?_append_left (by rw [List.length_append (bs := [AObj.vrow]), List.length_singleton]; omega), List.getElem?_concat_length]; rfl
      · rw [show (G2 ++ Y1 ++ Y2).length + 1 = (G2 ++ Y1 ++ Y2 ++ [AObj.vrow]).length by rw [List.length_append (bs := [AObj.vrow]), List.length_singleton], List.getElem?_concat_length]
    obtain ⟨v, G, E, k1, k2⟩ := copyr_loop H.length H t ht (fun k hk => ih k hk (hks k hk)) (G2 ++ Y1 ++ Y2) ka va (by simp only [List.length_append]; omega) hx2 (app_l (app_l hz0)) c1' c2 (fun l hl => by rw [List.append_assoc, List.getElem?_append_left (by omega)]; exact hp0 l hl) t.kids.length 0 _ [] ([] ++ ([] ++ ([] ++ ([] ++ ([] ++ ([] ++ [])))))) (by omega) hC
    refine ⟨v, G, E, ref04_Copy_r_of ?_, k2⟩
    dsimp only
    rw [new_tr, new_z, show (H ++ [AObj.row 5 [t.av]]).length = H.length + 1 by simp, hG2]
    have a0 := ldb_k hx0; have a1 := ldb_a hx0; have a2 := ldb_b hx0
    have b0 := ldb_k hx1; have b2 := ldb_b hx1
    have d0 := ldb_k hx2
    have ldc : ∀ {X : List AObj}, X[H.length]? = some (.row 5 [t.av]) → loadA false 1 (.ptr H.length 1 0 3) X = some (bys t.digest) := fun h => by rw [av_eq] at h; exact ld_fld h rfl
    have a3 := ldc hx0; have b3 := ldc hx1; have d3 := ldc hx2
    simp -implicitDefEqProofs only [offA_ptr, Option.bind_some, Nat.zero_add, a0, a1]
    rw [q1]
    simp -implicitDefEqProofs only [offA_ptr, Option.bind_some, Nat.zero_add, a2, b0, b2, drawT]
    rw [q2]
    simp -implicitDefEqProofs only [offA_ptr, Option.bind_some, Nat.zero_add, d0, d3, a3, b3, drawT]
    rw [appDb t.digest (by omega), Option.bind_some, fill_abc t.kind ka va (bys t.digest) o1.1 o2.1 rfl o1.2.2.1 o2.2.2.1 rfl, trm_tre _ _ _ _ o1.2.2.2.1 o2.2.2.2.1 rfl rfl, siz5, new_agg (by simp) (by simp [AV.one, bys, o1.2.1, o2.2.1]), show (G2 ++ Y1 ++ Y2 ++ [AObj.vrow]).length = (G2 ++ Y1 ++ Y2).length + 1 by rw [List.length_append (bs := [AObj.vrow]), List.length_singleton]]
    repeat rw [drawTr]
    exact k1
end Go.Pm
namespace Go.Pm
open Go.Proofs
set_option linter.unusedVariables false
set_option linter.unusedSimpArgs false
theorem OwnL.app {m : Nat} {G : List AObj} {b : List Tre} {y : List AV} (hb : OwnL m G b y) : ∀ {a : List Tre} {x : List AV}, OwnL m G a x → OwnL m G (a ++ b) (x ++ y)
  | [], x, h => by unfold OwnL at h; subst h; exact hb
  | t :: ts, x, h => by
    unfold OwnL at h
    obtain ⟨v, us, rfl, h2, h3⟩ := h
    simp only [List.cons_append]; unfold OwnL
    exact ⟨v, us ++ y, rfl, h2, OwnL.app hb h3⟩
theorem OwnL.cons {m : Nat} {G : List AObj} {t : Tre} {v : AV} {ts : List Tre} {vs : List AV} (h : Own m G t v) (hl : OwnL m G ts vs) : OwnL m G (t :: ts) (v :: vs) := by
  unfold OwnL; exact ⟨v, vs, rfl, h, hl⟩
mutual
theorem Own.bel {m : Nat} {G : List AObj} : ∀ (t : Tre) (v : AV), Own m G t v → v.bel G.length = true
  | .mk k a b c ks, v, h => by
    unfold Own at h
    obtain ⟨ka, va, kk, rfl, h2, h3, h4⟩ := h
    have o1 := (celB_one h2).2.2.2.2.2; have o2 := (celB_one h3).2.2.2.2.2
    have o3 : kk.bel G.length = true := by
      rcases h4 with ⟨_, l, _, rfl, h8⟩ | ⟨vs, rfl, _, h6⟩
      · have := (List.getElem?_eq_some_iff.1 h8).1; simpa [AV.bel] using this
      · simpa [AV.bel] using OwnL.bel ks vs h6
    simp [AV.bel, belL, o1, o2, o3, bel_good _ _ (good_bys c)]
theorem OwnL.bel {m : Nat} {G : List AObj} : ∀ (ts : List Tre) (vs : List AV), OwnL m G ts vs → belL G.length vs = true
  | [], vs, h => by unfold OwnL at h; subst h; rfl
  | t :: ts, vs, h => by
    unfold OwnL at h
    obtain ⟨v, us, rfl, h2, h3⟩ := h
    simp [belL, Own.bel t v h2, OwnL.bel ts us h3]
end
theorem OwnL.lz {m : Nat} {G : List AObj} {ts : List Tre} {vs : List AV} (h : OwnL m G ts vs) : lz 5 vs = true := by
  cases ts with
  | nil => unfold OwnL at h; subst h; rfl
  | cons t ts =>
    unfold OwnL at h
    obtain ⟨v, us, rfl, h2, h3⟩ := h
    simp [Go.Pm.lz, (ownL_get h2).1]
theorem app_own {β : Type} {H : List AObj} {l n m : Nat} {T : List AObj} {es ys : List AV} {ts : List Tre} {y : AV} (hy : elemsA y H = some ys) (h : H[l]? = some (.row 5 es)) (hn : n = es.length) (ho : OwnL m T ts ys) (hT : T.length ≤ l) (hlen : n + ys.length ≤ 2^40) (K : AV → List AObj → List Nat → Option β) :
    appK 5 104 (.slc l 0 n n) y H K = K (.slc l 0 (n + ys.length) (n + ys.length)) (H.set l (.row 5 (es ++ ys))) [] := by
  rw [appK_row hy h hn ho.lz (by decide) (by decide) (by decide) (by omega)]
  have hb : belL (l + 1) ys = true := belL_mono (by omega) ys (OwnL.bel _ _ ho)
  unfold escs; rw [hb]; simp
theorem Own.pre {m : Nat} {H : List AObj} (T : List AObj) {t : Tre} {v : AV} (h : Own m H t v) : Own m (H ++ T) t v := Own.mono (Nat.le_refl _) (fun l _ h => List.getElem?_append_left h) _ _ h
theorem pre_get {H X : List AObj} (hp : H <+: X) {l : Nat} {o : AObj} (h : H[l]? = some o) : X[l]? = some o := by
  obtain ⟨T, rfl⟩ := hp; exact app_l h
theorem frz_rw {H : List AObj} {l z n : Nat} {es : List AV} (h : H[l]? = some (.row z es)) (hn : n = es.length) : frz H (.slc l 0 n n) = some (.lst es) := by
  subst hn; simp [frz, h]
theorem endB_fz {n : Nat} {v : AV} {H : List AObj} {us : List AV} {E : List Nat} (h : frz H v = some (.lst us)) (hE : E = []) (hb : belL n us = true) (hk : (killAll H (kills v)).take n = H.take n) : endB false false n v H E = some (.lst us, H.take n, []) := by
  subst hE
  simp [endB, endA, h, AV.bel, hb, hk]
theorem Listr_ok (t : Tre) : formedF t = true → (nodesF t).length ≤ 2^40 → ∀ (m : Nat) (H X : List AObj) (v : AV), H <+: X → Own m H t v → ∃ ws, EV C n_ref04_List_r [v] X = some (.lst ws, X, []) ∧ OwnL m H (nodesF t) ws := by
  induction t using Tre.ind with
  | h t ih =>
    intro hf hn m H X v hp ho
    have pl := hp.length_le
    have ho' := ho
    rw [own_eq] at ho'
    obtain ⟨ka, va, kk, hv, c1, c2, hk⟩ := ho'
    have o1 := celB_one c1; have o2 := celB_one c2
    have o3 : kk.one = true := by
      rcases hk with ⟨_, l, _, rfl, _⟩ | ⟨vs, rfl, _, _⟩ <;> rfl
    have gv := ownL_get ho
    have nw : ∀ (K : AV → List AObj → List Nat → Option R3), newK v X K = K (.ptr X.length 1 0 0) (X ++ [.row 5 [v]]) [] := fun K => by
      rw [hv]; exact new_agg (by simp) (by simp [AV.one, bys, o1.2.1, o2.2.1, o3]) _ K
    have h1 : (X ++ [AObj.row 5 [v]])[X.length]? = some (.row 5 [v]) := List.getElem?_concat_length ..
    have lk : ∀ {Y : List AObj}, Y[X.length]? = some (.row 5 [v]) → loadA false 1 (.ptr X.length 1 0 4) Y = some kk := fun h => ld_fld (hv ▸ h) rfl
    rcases formed_two hf with hk0 | ⟨l, r, hk2⟩
    · refine ⟨[], ref04_List_r_of ?_, by rw [nodes_nil hk0]; unfold OwnL; rfl⟩
      have hlen : lenV kk (X ++ [.row 5 [v]]) = some (.int .i64 0) := by
        rcases hk with ⟨_, l, _, rfl, h⟩ | ⟨vs, rfl, _, h⟩
        · have : (X ++ [AObj.row 5 [v]])[l]? = some .vrow := app_l (pre_get hp h)
          simp only [lenV, lenA, lenOf, this]; rfl
        · rw [hk0] at h; unfold OwnL at h; subst h; rfl
      dsimp only
      rw [nw, offA_ptr, Option.bind_some, Nat.zero_add, lk h1, Option.bind_some, hlen, Option.bind_some]
      simp only [eql_int, Option.bind_some, condK_dec, if_true]
      exact (endB_fz (us := []) rfl rfl rfl rfl).trans (by rw [List.take_left])
    · have hnd := nodes_two hk2
      rw [hnd, List.length_append, List.length_cons] at hn
      have hl : l ∈ t.kids := by rw [hk2]; simp
      have hr : r ∈ t.kids := by rw [hk2]; simp
      obtain ⟨vs, rfl, hvs⟩ : ∃ vs, kk = .lst vs ∧ OwnL m H t.kids vs := by
        rcases hk with ⟨h, _⟩ | ⟨vs, h, _, h'⟩
        · rw [hk2] at h; cases h
        · exact ⟨vs, h, h'⟩
      rw [hk2] at hvs
      obtain ⟨vl, us, rfl, w1, hvs⟩ : ∃ v us, vs = v :: us ∧ Own m H l v ∧ OwnL m H [r] us := by unfold OwnL at hvs; exact hvs
      obtain ⟨vr, us', rfl, w2, hvs⟩ : ∃ v us', us = v :: us' ∧ Own m H r v ∧ OwnL m H [] us' := by unfold OwnL at hvs; exact hvs
      obtain rfl : us' = [] := by unfold OwnL at hvs; exact hvs
      have gl := ownL_get w1; have gr := ownL_get w2
      -- the heap: X, the box, the row of what is listed, the row of one
      have hX : ∀ es : List AV, (X ++ [AObj.row 5 [v]] ++ [AObj.row 5 es]).length = X.length + 2 := fun es => by simp
      obtain ⟨wl, a1, a2⟩ := ih l hl (formed_kids hf l hl) (by omega) m H (X ++ [.row 5 [v]] ++ [.row 5 []]) vl (hp.trans (by simp only [List.append_assoc]; exact List.prefix_append _ _)) w1
      obtain ⟨wr, b1, b2⟩ := ih r hr (formed_kids hf r hr) (by omega) m H (X ++ [.row 5 [v]] ++ [.row 5 (wl ++ [v])] ++ [.row 5 [v]]) vr (hp.trans (by simp only [List.append_assoc]; exact List.prefix_append _ _)) w2
      have ll := a2.len; have lr := b2.len
      refine ⟨wl ++ v :: wr, ref04_List_r_of ?_, by rw [hnd]; exact OwnL.app (OwnL.cons ho b2) a2⟩
      have e0 : ¬ (((([vl, vr] : List AV).length : Nat) : Int) = 0) := by simp
      have r0 : ∀ (Y : List AObj) (K : AV → List AObj → List Nat → Option R3), rawK 5 0 (.agg [(.int .i64 0), .nils, .nils, .nils, .nils]) [] Y K = K (.slc Y.length 0 0 0) (Y ++ [.row 5 []]) [] := fun Y K => Eq.trans rfl rfl
      have lenk : ∀ Y, lenV (.lst [vl, vr]) Y = some (.int .i64 2) := fun Y => rfl
      dsimp only
      rw [nw, offA_ptr, Option.bind_some, Nat.zero_add, lk h1, Option.bind_some, lenk, Option.bind_some]
      rw [eql_int, Option.bind_some, condK_dec, if_neg (by omega), r0]
      have x0 : ∀ Y, ixA 5 (.lst [vl, vr]) (.int .i64 0) Y = some (.ip vl.cells) := fun Y => ixA_lst (e := vl) (i := 0) (by omega) rfl gl.1
      have x1 : ∀ Y, ixA 5 (.lst [vl, vr]) (.int .i64 1) Y = some (.ip vr.cells) := fun Y => ixA_lst (e := vr) (i := 1) (by omega) rfl gr.1
      have lo : ∀ {t : Tre} {w : AV} (Y : List AObj), Own m H t w → loadA true 5 (.ip w.cells) Y = some w := fun Y h => by
        rw [own_eq] at h
        obtain ⟨_, _, _, rfl, _⟩ := h
        rfl
      have lv : ∀ {Y : List AObj}, Y[X.length]? = some (.row 5 [v]) → loadA true 5 (.ptr X.length 1 0 0) Y = some v := fun h => by
        rw [hv] at h ⊢; exact ld_agg h rfl
      have L1 : (X ++ [AObj.row 5 [v]]).length = X.length + 1 := by rw [List.length_append, List.length_singleton]
      have L2 : ∀ es : List AV, (X ++ [AObj.row 5 [v]] ++ [AObj.row 5 es]).length = X.length + 2 := fun es => by rw [List.length_append, L1, List.length_singleton]
      have h2 : ∀ es, (X ++ [AObj.row 5 [v]] ++ [AObj.row 5 es])[X.length]? = some (.row 5 [v]) := fun es => app_l h1
      have h3 : ∀ es, (X ++ [AObj.row 5 [v]] ++ [AObj.row 5 es])[X.length + 1]? = some (.row 5 es) := fun es => by rw [← L1]; exact List.getElem?_concat_length ..
      have h4 : ∀ es es', (X ++ [AObj.row 5 [v]] ++ [AObj.row 5 es]).set (X.length + 1) (.row 5 es') = X ++ [AObj.row 5 [v]] ++ [AObj.row 5 es'] := fun es es' => by
        rw [← L1, List.set_append_right _ _ (Nat.le_refl _), Nat.sub_self]; rfl
      have h5 : ∀ es es', (X ++ [AObj.row 5 [v]] ++ [AObj.row 5 es] ++ [AObj.row 5 [v]]).set (X.length + 1) (.row 5 es') = X ++ [AObj.row 5 [v]] ++ [AObj.row 5 es'] ++ [AObj.row 5 [v]] := fun es es' => by
        rw [List.set_append_left _ _ (by rw [L2]; omega), h4]
      have hX4 : ∀ es, (X ++ [AObj.row 5 [v]] ++ [AObj.row 5 es] ++ [AObj.row 5 [v]])[X.length + 2]? = some (.row 5 [v]) := fun es => by rw [← L2 es]; exact List.getElem?_concat_length ..
      rw [Option.bind_some, lk (h2 _), Option.bind_some, x0, Option.bind_some, lo _ w1, Option.bind_some, callK_raw a1]
      dsimp only
      rw [L1, app_own (l := X.length + 1) (n := 0) (es := []) (ys := wl) rfl (h3 _) rfl a2 (by omega) (by omega), h4, lv (h2 _), Option.bind_some, raw_one 5 _ v gv.1 gv.2.1]
      rw [app_own (l := X.length + 1) (n := 0 + wl.length) (es := [] ++ wl) (ys := [v]) (m := m) (T := H) (ts := [t]) (by rw [L2]; simp [elemsA, hX4]) (app_l (h3 _)) (by simp) (OwnL.cons ho (by unfold OwnL; rfl)) (by omega) (by simp; omega), h5]
      rw [Option.bind_some, lk (app_l (h2 _)), Option.bind_some, x1, Option.bind_some, lo _ w2, Option.bind_some, List.nil_append, callK_raw b1]
      dsimp only
      rw [app_own (l := X.length + 1) (n := 0 + wl.length + [v].length) (es := wl ++ [v]) (ys := wr) rfl (app_l (h3 _)) (by simp) b2 (by omega) (by simp; omega), h5]
      have hfin : (X ++ [AObj.row 5 [v]] ++ [AObj.row 5 (wl ++ [v] ++ wr)] ++ [AObj.row 5 [v]])[X.length + 1]? = some (.row 5 (wl ++ [v] ++ wr)) := app_l (h3 _)
      have hbel : belL X.length (wl ++ v :: wr) = true := belL_mono pl _ (OwnL.bel _ _ (OwnL.app (OwnL.cons ho b2) a2))
      have hw : wl ++ v :: wr = wl ++ [v] ++ wr := by simp
      rw [hw] at hbel ⊢
      refine (endB_fz (us := wl ++ [v] ++ wr) (frz_rw hfin (by simp; omega)) rfl hbel ?_).trans ?_
      · exact List.take_set_of_le (by omega)
      · rw [show ∀ a b c : List AObj, X ++ a ++ b ++ c = X ++ (a ++ (b ++ c)) by intro a b c; simp only [List.append_assoc], List.take_left]
mutual
theorem Own.ref {m : Nat} {G : List AObj} : ∀ (t : Tre) (v : AV), Own m G t v → v.bel 0 = false
  | .mk k a b c ks, v, h => by
    unfold Own at h
    obtain ⟨ka, va, kk, rfl, h2, h3, h4⟩ := h
    have o3 : kk.bel 0 = false := by
      rcases h4 with ⟨_, l, _, rfl, h8⟩ | ⟨vs, rfl, hne, h6⟩
      · simp [AV.bel]
      · simpa [AV.bel] using OwnL.ref ks vs hne h6
    simp [AV.bel, belL, o3]
theorem OwnL.ref {m : Nat} {G : List AObj} : ∀ (ts : List Tre) (vs : List AV), vs ≠ [] → OwnL m G ts vs → belL 0 vs = false
  | [], vs, hne, h => by unfold OwnL at h; exact absurd h hne
  | t :: ts, vs, hne, h => by
    unfold OwnL at h
    obtain ⟨v, us, rfl, h2, h3⟩ := h
    simp [belL, Own.ref t v h2]
end
end Go.Pm
namespace Go.Pm
open Go.Proofs
set_option linter.unusedVariables false
set_option linter.unusedSimpArgs false
theorem CelB.lnt {m k : Nat} {G : List AObj} {bs : Bs} {c : AV} (h : CelB m G bs c) : lndW (lnd G k) G c = some (lbys bs) := by
  rcases h with ⟨rfl, rfl⟩ | ⟨l, _, rfl, h, _⟩
  · rfl
  · have := lnd_row (k := k) (n := bs.length) h (goodL_u8 bs) (by simp)
    exact this
mutual
theorem Own.lnt {m k : Nat} {G : List AObj} : ∀ (t : Tre) (v : AV), Own m G t v → lndW (lnd G k) G v = some t.lv
  | .mk kd a b c ks, v, h => by
    unfold Own at h
    obtain ⟨ka, va, kk, rfl, h2, h3, h4⟩ := h
    have o3 : lndW (lnd G k) G kk = some (kidsL ks) := by
      rcases h4 with ⟨rfl, l, _, rfl, h8⟩ | ⟨vs, rfl, hne, h6⟩
      · simp only [lndW, h8, if_true]; rfl
      · simp only [lndW, OwnL.lnt ks vs h6]; rfl
    rw [lv_eq]
    simp only [lndW, lndWL, h2.lnt, h3.lnt, o3, lndW_good _ _ _ (good_bys c), Option.bind_some, Option.map_some]
    rfl
theorem OwnL.lnt {m k : Nat} {G : List AObj} : ∀ (ts : List Tre) (vs : List AV), OwnL m G ts vs → lndWL (lnd G k) G vs = some (ts.map Tre.lv)
  | [], vs, h => by unfold OwnL at h; subst h; rfl
  | t :: ts, vs, h => by
    unfold OwnL at h
    obtain ⟨v, us, rfl, h2, h3⟩ := h
    simp only [lndWL, Own.lnt t v h2, OwnL.lnt ts us h3, Option.bind_some, Option.map_some, List.map_cons]
end
/-- a struct of one's own: its key and its value are bytes of one's own -/
def Vcel (G : List AObj) (v : AV) : Prop := ∃ k ka va d kk, v = .agg [k, ka, va, d, kk] ∧ Cel G ka ∧ Cel G va
theorem Own.vcel {m : Nat} {G : List AObj} {t : Tre} {v : AV} (h : Own m G t v) : Vcel G v := by
  rw [own_eq] at h
  obtain ⟨ka, va, kk, rfl, h1, h2, _⟩ := h
  exact ⟨_, _, _, _, _, rfl, h1.cel, h2.cel⟩
theorem OwnL.vcel {m : Nat} {G : List AObj} : ∀ {ts : List Tre} {vs : List AV}, OwnL m G ts vs → ∀ v ∈ vs, Vcel G v
  | [], vs, h, v, hv => by unfold OwnL at h; subst h; cases hv
  | t :: ts, vs, h, v, hv => by
    unfold OwnL at h
    obtain ⟨w, us, rfl, h2, h3⟩ := h
    rcases List.mem_cons.1 hv with rfl | hv
    · exact h2.vcel
    · exact OwnL.vcel h3 v hv
theorem Vcel.wr {G : List AObj} {v : AV} (h : Vcel G v) {l : Nat} {bs bs' : Bs} (hl : G[l]? = some (.row 1 (bs.map u8))) (hn : bs'.length = bs.length) : Vcel (G.set l (.row 1 (bs'.map u8))) v := by
  obtain ⟨k, ka, va, d, kk, h1, h2, h3⟩ := h
  exact ⟨k, ka, va, d, kk, h1, h2.wr hl hn, h3.wr hl hn⟩
theorem Vcel.app {G : List AObj} {v : AV} (h : Vcel G v) (X : List AObj) : Vcel (G ++ X) v := by
  obtain ⟨k, ka, va, d, kk, h1, h2, h3⟩ := h
  exact ⟨k, ka, va, d, kk, h1, h2.app X, h3.app X⟩
/-- such bytes: none, or a row -/
def CelN (G : List AObj) (c : AV) (N : Nat) : Prop := (c = .emp none ∧ N = 0) ∨ ∃ l bs, c = .slc l 0 N N ∧ G[l]? = some (.row 1 ((bs : Bs).map u8)) ∧ bs.length = N
theorem Cel.toN {G : List AObj} {c : AV} (h : Cel G c) : ∃ N, N ≤ 2^40 ∧ CelN G c N := by
  rcases h with h2 | ⟨l, n, bs, g1, g2, g3, g4⟩
  · exact ⟨0, by omega, .inl ⟨h2, rfl⟩⟩
  · exact ⟨n, g4, .inr ⟨l, bs, g1, g2, g3⟩⟩
theorem CelN.len {G : List AObj} {c : AV} {N : Nat} (hc : CelN G c N) : lenV c G = some (.int .i64 (N : Int)) := by
  rcases hc with ⟨rfl, rfl⟩ | ⟨l, bs, rfl, h1, h2⟩
  · rfl
  · exact lenV_sl1 h1 (by simpa using h2)
theorem ld_el {ws : List AV} {i : Nat} (hi : i < ws.length) {k ka va d kk : AV} (hv : ws[i] = .agg [k, ka, va, d, kk]) (G : List AObj) :
    ixA 5 (.lst ws) (.int .i64 (i : Int)) G = some (.ip [k, ka, va, d, kk]) := by
  exact ixA_lst (z := 5) (H := G) (k := .i64) (es := ws) (i := (i : Int)) (e := .agg [k, ka, va, d, kk]) (by omega) (by rw [Int.toNat_natCast, List.getElem?_eq_getElem hi, hv]) rfl
theorem set_last {G : List AObj} {a b : AObj} : (G ++ [a]).set G.length b = G ++ [b] := by
  rw [List.set_append_right _ _ (Nat.le_refl _), Nat.sub_self]; rfl
theorem sto_own {β : Type} {m : Nat} {T H : List AObj} {b : Nat} {cs : List AV} {t : Tre} {v : AV} {K : List AObj → List Nat → Option β} (ho : Own m T t v) (h : H[b]? = some (.row 5 [.agg cs])) (hc : cs.length = 5) : stoK 5 (.ptr b 1 0 0) v H K = K (H.set b (.row 5 [v])) (escs b v.cells) := by
  have g := ownL_get ho
  rw [own_eq] at ho
  obtain ⟨ka, va, kk, rfl, _⟩ := ho
  exact sto_agg h hc rfl g.2.1
theorem ld_own {m : Nat} {T H : List AObj} {b : Nat} {t : Tre} {v : AV} (ho : Own m T t v) (h : H[b]? = some (.row 5 [v])) : loadA true 5 (.ptr b 1 0 0) H = some v := by
  rw [own_eq] at ho
  obtain ⟨ka, va, kk, rfl, _⟩ := ho
  exact ld_agg h rfl
end Go.Pm
namespace Go.Pm
open Go.Proofs
set_option linter.unusedVariables false
set_option linter.unusedSimpArgs false
theorem lightL_kid {d : Int} : ∀ (ks : List Tre) (l : Int), 0 ≤ lightL ks l d → ∀ t ∈ ks, ∃ l', l' ≤ max l (-1) ∧ 0 ≤ lightF t l' (d - 1)
  | [], _, _, t, ht => by cases ht
  | u :: ts, l, h, t, ht => by
    rw [lightL] at h
    split at h
    · omega
    · rename_i hu
      rcases List.mem_cons.1 ht with rfl | ht
      · exact ⟨l, by omega, by omega⟩
      · obtain ⟨l', h1, h2⟩ := lightL_kid ts _ h t ht
        have := lightF_le u l (d - 1)
        exact ⟨l', by omega, h2⟩
theorem light_fit (t : Tre) : ∀ l d : Int, l ≤ 2^40 → 0 ≤ lightF t l d → t.fit := by
  induction t using Tre.ind with
  | h t ih =>
    intro l d hl h
    rw [lightF_eq] at h
    split at h
    · omega
    · split at h
      · omega
      · rename_i hw
        simp only [wide, Bool.or_eq_true, decide_eq_true_eq] at hw
        refine (fit_eq t).2 ⟨by omega, by omega, by omega, by omega, fun k hk => ?_⟩
        obtain ⟨l', h1, h2⟩ := lightL_kid _ _ h k hk
        exact ih k hk l' _ (by omega) h2
theorem small_fit {t : Tre} (h : smallF t = true) : t.fit := by
  simp only [smallF, decide_eq_true_eq] at h
  exact light_fit t 200 100 (by omega) h
theorem find_range (w : Int) (p q : Tre) : 0 ≤ (findF w p q).1 ∧ (findF w p q).1 ≤ 13 := by
  have rp := dig_range w p
  have rq := dig_range w q
  unfold findF
  split
  · exact ⟨by omega, by omega⟩
  · split
    · exact ⟨by omega, by omega⟩
    · split
      · exact ⟨by decide, by decide⟩
      · split <;> exact ⟨by simp, by simp⟩
structure Cw (G : List AObj) (p q : Tre) (ws : List AV) : Prop where
  r0 : G[0]? = some (.row 5 [p.av])
  r1 : G[1]? = some (.row 5 [q.av])
  cel : ∀ v ∈ ws, Vcel G v
theorem Cw.wr {G : List AObj} {p q : Tre} {ws : List AV} (h : Cw G p q ws) {l : Nat} {bs bs' : Bs} (hl : G[l]? = some (.row 1 (bs.map u8))) (hn : bs'.length = bs.length) : Cw (G.set l (.row 1 (bs'.map u8))) p q ws :=
  ⟨set_ne1 hl h.r0 (by decide), set_ne1 hl h.r1 (by decide), fun v hv => (h.cel v hv).wr hl hn⟩
section
variable {w : Int} {p q : Tre} {ws : List AV} {a b : Bs} {n : Int}
theorem cs_end (hp : p.ok) (hq : q.ok) (hf : findF w p q = (n, a, b)) {x : AV} {G : List AObj} {E : List Nat} (hx : lenV x G = some (.int .i64 (ws.length : Int))) (hG : Cw G p q ws) {i : Nat} (hi : ws.length ≤ i) :
    law09_ClashStays_J13 0 (.int .i64 w) (.ptr 0 1 0 0) (.ptr 1 1 0 0) (.bool true) (bys a) (bys b) (errA n) (.bool true) (.str ⟨a.toArray⟩) (.str ⟨b.toArray⟩) x (.int .i64 (i : Int)) G E = some (.bool true, [], []) := by
  refine law09_ClashStays_J13_of ?_
  have hr := find_range w p q
  rw [hf] at hr
  have F := Find_ok w p q hp hq
  rw [hf] at F
  rw [hx, Option.bind_some, lss_int, Option.bind_some, condK_dec, if_neg (by omega)]
  rw [ld_box hG.r0, Option.bind_some, ld_box hG.r1, Option.bind_some, callK_ok (by simp [goodL]) F]
  simp -implicitDefEqProofs only [resFd, extA_0, extA_1, extA_2, Option.bind_some, splitK_t]
  rw [callK_ok (by simp) (Code_ok n hr.1 hr.2), callK_ok (by simp) (Code_ok n hr.1 hr.2)]
  simp -implicitDefEqProofs only [eql_int, decide_true, Option.bind_some, splitK_t, cvL_bys, eql_str, decide_true]
  exact endB_good rfl
theorem cs_J16 {i : Nat} (hi : i < ws.length) {Ha : List AObj} {Ea : List Nat} {kx ka va dx kk : AV} (hv : ws[i] = .agg [kx, ka, va, dx, kk])
    (hk : ∀ (G : List AObj) (E : List Nat), Cw G p q ws → law09_ClashStays_J13 0 (.int .i64 w) (.ptr 0 1 0 0) (.ptr 1 1 0 0) (.bool true) (bys a) (bys b) (errA n) (.bool true) (.str ⟨a.toArray⟩) (.str ⟨b.toArray⟩) (.lst ws) (.int .i64 ((i + 1 : Nat) : Int)) G E = some (.bool true, [], [])) (hi2 : i + 1 < 2^62) {N : Nat} (hN : N ≤ 2^40) : ∀ (m j : Nat) (G : List AObj) (E : List Nat), j + m = N → Cw G p q ws → CelN G va N →
    law09_ClashStays_J16 0 Ha Ea (.int .i64 w) (.ptr 0 1 0 0) (.ptr 1 1 0 0) (.bool true) (bys a) (bys b) (errA n) (.bool true) (.str ⟨a.toArray⟩) (.str ⟨b.toArray⟩) (.lst ws) (.int .i64 (i : Int)) (.int .i64 (j : Int)) G E = some (.bool true, [], [])
  | 0, j, G, E, hj, hG, hc => by
    have x1 := ld_el hi hv
    refine law09_ClashStays_J16_of ?_
    rw [x1, Option.bind_some, offA_ip, Option.bind_some]
    simp only [List.drop_succ_cons, List.drop_zero]
    rw [loadA_ipc, Option.bind_some, hc.len, Option.bind_some, lss_int, Option.bind_some, condK_dec, if_neg (by omega)]
    have e3 : IntKind.i64.wrap ((i : Int) + 1) = ((i + 1 : Nat) : Int) := w64 (by omega) (by omega)
    rw [add_int, Option.bind_some, e3]
    exact hk G _ hG
  | m + 1, j, G, E, hj, hG, hc => by
    have x1 := ld_el hi hv
    have e3 : IntKind.i64.wrap ((j : Int) + 1) = ((j + 1 : Nat) : Int) := w64 (by omega) (by omega)
    refine law09_ClashStays_J16_of ?_
    have hl := hc.len
    rcases hc with ⟨_, h⟩ | ⟨l, bs, rfl, h1, h2⟩
    · omega
    · have hjl : j < bs.length := by omega
      obtain ⟨v, hv'⟩ := add_u8 bs[j]
      have y1 := ix_row1 (i := j) (n := N) h1 (by rw [List.length_map]; exact h2) (by omega)
      have y2 := ld_row1 h1 h2 hjl
      rw [x1, Option.bind_some, offA_ip, Option.bind_some]
      simp only [List.drop_succ_cons, List.drop_zero]
      rw [loadA_ipc, Option.bind_some, hl, Option.bind_some, lss_int, Option.bind_some, condK_dec, if_pos (by omega)]
      simp -implicitDefEqProofs only [x1, y1, y2, hv', offA_ip, List.drop_succ_cons, List.drop_zero, loadA_ipc, Option.bind_some]
      rw [sto_u8 h1 h2 hjl, add_int, Option.bind_some, e3]
      refine cs_J16 hi hv hk hi2 hN m (j + 1) _ _ (by omega) (hG.wr h1 (by rw [List.length_set])) (.inr ⟨l, bs.set j v, rfl, ?_, by rw [List.length_set]; exact h2⟩)
      exact List.getElem?_set_self (List.getElem?_eq_some_iff.1 h1).1
theorem cs_j13 (hp : p.ok) (hq : q.ok) (hf : findF w p q = (n, a, b)) (hn : ws.length ≤ 2^40) : ∀ (m i : Nat) (G : List AObj) (E : List Nat), i + m = ws.length → Cw G p q ws →
    law09_ClashStays_J13 0 (.int .i64 w) (.ptr 0 1 0 0) (.ptr 1 1 0 0) (.bool true) (bys a) (bys b) (errA n) (.bool true) (.str ⟨a.toArray⟩) (.str ⟨b.toArray⟩) (.lst ws) (.int .i64 (i : Int)) G E = some (.bool true, [], [])
  | 0, i, G, E, hi, hG => cs_end hp hq hf rfl hG (by omega)
  | m + 1, i, G, E, hi, hG => by
    refine law09_ClashStays_J13_of ?_
    rw [show lenV (.lst ws) G = some (.int .i64 (ws.length : Int)) from rfl, Option.bind_some, lss_int, Option.bind_some, condK_dec, if_pos (by omega)]
    have hil : i < ws.length := by omega
    obtain ⟨kx, ka, va, dx, kk, h1, h2, h3⟩ := hG.cel _ (List.getElem_mem hil)
    obtain ⟨N, n1, n2⟩ := h3.toN
    exact cs_J16 hil h1 (fun G E hG => cs_j13 hp hq hf hn m (i + 1) G E (by omega) hG) (by omega) n1 N 0 G [] (by omega) hG n2
end
theorem ClashStays_ok (w : Int) (p q : Tre) (hp : p.ok) (hq : q.ok) : EV C n_law09_ClashStays [.int .i64 w, p.av, q.av] [] = some (.bool true, [], []) := by
  refine law09_ClashStays_of ?_
  simp -implicitDefEqProofs only [ZS, ZT, Nat.reduceAdd]
  rw [callK_ok rfl up_ok]
  simp -implicitDefEqProofs only [ZS, ZT, Nat.reduceAdd]
  rw [callK_ok (by simp) (small_ok p hp)]
  cases hs : smallF p with
  | false => simp -implicitDefEqProofs only [ZS, ZT, Nat.reduceAdd]; exact endB_good rfl
  | true =>
    simp -implicitDefEqProofs only [ZS, ZT, Nat.reduceAdd]
    rw [callK_ok (by simp) (small_ok q hq)]
    cases hs2 : smallF q with
    | false => simp -implicitDefEqProofs only [ZS, ZT, Nat.reduceAdd]; exact endB_good rfl
    | true =>
      have n1 := small2_parts hs
      have n3 := nodes_parts p
      simp -implicitDefEqProofs only [ZS, ZT, Nat.reduceAdd]
      obtain ⟨v, G, E, g1, g2, g3, g4⟩ := Copyr_ok p (small_fit hs) [.row 5 [p.av], .row 5 [q.av]]
      rw [callK_raw g1]
      have p0 : G[0]? = some (.row 5 [p.av]) := g3 0 (by simp)
      have p1 : G[1]? = some (.row 5 [q.av]) := g3 1 (by simp)
      dsimp only
      rw [new_z, sto_own g2 (List.getElem?_concat_length ..) rfl, set_last]
      have q1 : (G ++ [AObj.row 5 [v]])[G.length]? = some (.row 5 [v]) := List.getElem?_concat_length ..
      have own1 := g2.pre [AObj.row 5 [v]]
      have r0 := app_l (X := [AObj.row 5 [v]]) p0
      have r1 := app_l (X := [AObj.row 5 [v]]) p1
      obtain ⟨f, hf⟩ : ∃ f, f = findF w p q := ⟨_, rfl⟩
      obtain ⟨n, a, b⟩ := f
      have F := Find_l w p q hp hq
      rw [← hf] at F
      have w3 : ∀ ws : List AV, (∀ x ∈ ws, Vcel G x) → ∀ x ∈ ws, Vcel (G ++ [AObj.row 5 [v]]) x := fun ws h x hx => (h x hx).app _
      have lst : formedF p = true → ∃ ws, EV C n_ref04_List_r [v] (G ++ [AObj.row 5 [v]]) = some (.lst ws, G ++ [AObj.row 5 [v]], []) ∧ OwnL _ G (nodesF p) ws := fun h => Listr_ok p h (by omega) _ G _ v (List.prefix_append _ _) g2
      generalize hX : G ++ [AObj.row 5 [v]] = X at *
      have hl1 : lndWL (lnd X 3) X [.int .i64 w, v, q.av] = some [.int .i64 w, p.lv, q.av] := by
        simp only [lndWL, Own.lnt p v own1, lndW_good _ _ _ (good_tr q), lndW_good _ _ (.int .i64 w) rfl, Option.bind_some, Option.map_some]
      have hl2 : lndWL (lnd X 3) X [v, p.av] = some [p.lv, p.av] := by
        simp only [lndWL, Own.lnt p v own1, lndW_good _ _ _ (good_tr p), Option.bind_some, Option.map_some]
      have hl3 : lndWL (lnd X 3) X [v] = some [p.lv] := by
        simp only [lndWL, Own.lnt p v own1, Option.bind_some, Option.map_some]
      rw [ld_own g2 q1, Option.bind_some, ld_box r1, Option.bind_some, calXK_13 hl1 (belL_good 0 _ (by simp [goodL])) F (by simp [resFd, AV.noL, noLL])]
      simp -implicitDefEqProofs only [resFd, extA_0, extA_1, extA_2, Option.bind_some]
      rw [ld_own g2 q1, Option.bind_some, ld_box r0, Option.bind_some, calXK_12r (by simp [belL, Own.ref p v g2]) hl2 (v := .bool true) (by simp only [erL, er_lv, er_tr]; exact sameT_self p hp) (belL_good 0 _ (by simp [goodL])) rfl]
      rw [cvL_bys, Option.bind_some, cvL_bys, Option.bind_some]
      rw [ld_own g2 q1, Option.bind_some, calXK_12r (by simp [belL, Own.ref p v g2]) hl3 (v := .int .i64 (checkF p)) (by simp only [erL, er_lv]; exact rCheck_ok p hp) (belL_good 0 _ (by simp [goodL])) rfl]
      rw [eql_int, Option.bind_some, condK_dec]
      by_cases hc : checkF p = 0
      · rw [if_pos hc]
        obtain ⟨ws, w1, w2⟩ := lst (check_formed hc)
        have hwl : ws.length = (nodesF p).length := w2.len
        rw [ld_own g2 q1, Option.bind_some, callK_raw w1]
        exact cs_j13 hp hq hf.symm (by omega) ws.length 0 X _ (by omega) ⟨r0, r1, w3 ws w2.vcel⟩
      · rw [if_neg hc]
        exact cs_end (ws := []) (i := 0) hp hq hf.symm rfl ⟨r0, r1, fun v hv => by cases hv⟩ (by simp)
theorem clashStays_law {a b c : AV} {f f1 f2 : Nat} {l l1 l2 : List AV} (e : a = mkE (agT Tryd.prog 3) l) (h : tyC Tryd.prog reachBytes f 3 l) (e1 : b = mkE (agT Tryd.prog 27) l1) (h1 : tyC Tryd.prog reachBytes f1 27 l1)
    (e2 : c = mkE (agT Tryd.prog 27) l2) (h2 : tyC Tryd.prog reachBytes f2 27 l2) : EV C n_law09_ClashStays [a, b, c] [] = some (.bool true, [], []) := by
  obtain ⟨w, rfl⟩ := ty_i64' e h
  obtain ⟨p, rfl, hp⟩ := ty_tre' (by decide) e1 h1
  obtain ⟨q, rfl, hq⟩ := ty_tre' (by decide) e2 h2
  exact ClashStays_ok w p q hp hq
end Go.Pm
