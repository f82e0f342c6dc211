/- A part of the proof: what the functions of the program answer, as plain lists and numbers. -/
import Derived.Test.YtahipmiaknbkoaaP47
namespace Go.Pm
open Go.Proofs Go.Sort Go.Maps Go.Shelf
set_option linter.unusedVariables false
set_option linter.unusedSimpArgs false
/-- A world with more blocks. -/
theorem grow_rel {G : Nat → Option (List AV)} {X : Cx} (hR : Rel G X) {w' : World} (hold : ∀ b, b < X.w.heap.size → w'.heap[b]? = X.w.heap[b]?) (hsz : X.w.heap.size ≤ w'.heap.size) (ht : w'.tape = X.w.tape) (ho : w'.os = X.w.os) (hu : w'.output = X.w.output) :
    Rel G ⟨X.F, X.ι, X.H, w'⟩ ∧ Ext X ⟨X.F, X.ι, X.H, w'⟩ ∧ ∀ b, X.w.heap.size ≤ b → b < w'.heap.size → (⟨X.F, X.ι, X.H, w'⟩ : Cx).im b := by
  have hcell : ∀ b j u, cellAt X.w b j = some u → cellAt w' b j = some u := fun b j u h => by
    have hb := lt_of_cellAt h
    unfold cellAt at h ⊢; rw [hold b hb]; exact h
  have hsize : ∀ b s, sizeAt X.w b = some s → sizeAt w' b = some s := fun b s h => by
    have hb := lt_of_sizeAt h
    unfold sizeAt at h ⊢; rw [hold b hb]; exact h
  have hE : Ext X ⟨X.F, X.ι, X.H, w'⟩ :=
    ⟨hsz, Nat.le_refl _, fun b hb _ => hold b hb, fun b _ hw => hw, fun l t hl h => ⟨t, h, Nat.le_refl _, fun _ => ⟨fun hr => ⟨hr, fun b z hb => ⟨hb, by
      obtain ⟨z1, es1, he⟩ := isRow_some hr
      obtain ⟨_, _, _, _, s, hs, _⟩ := hR.rows l z1 es1 b z he hb
      rw [hs]; exact hsize b s hs⟩⟩, fun h => h⟩⟩, ht, ho, hu, rfl, fun l _ h => ⟨h, rfl⟩⟩
  refine ⟨⟨fun l z es b z' h1 h2 => ?_, fun l l' b z z' h1 h2 h3 h4 => hR.inj l l' b z z' h1 h2 h3 h4, maps_keep hR hE (fun _ _ h => h) (fun b cs c h => (hold b (Array.getElem?_eq_some_iff.1 h).1).trans h), fun g cs hg => ?_, hR.wf, fb_keep hR hE, hR.gb⟩, hE, fun b hb hlt => ⟨⟨hlt, fun k hf => absurd (hR.fb _ k hf).1 (by omega)⟩, fun hw => ?_⟩⟩
  · obtain ⟨e1, e2, e3, ee, s, e4, e5, e6⟩ := hR.rows l z es b z' h1 h2
    refine ⟨e1, e2, Me_mono hE _ _ _ _ (fun j u hj => hcell b j u hj) e3, ee, s, hsize b s e4, e5, unmark_eq e6 (hold b (lt_of_sizeAt e4))⟩
  · obtain ⟨h1, h2⟩ := hR.glob g cs hg
    exact ⟨im_keep hE h1, Mc_mono hE _ _ _ (fun j u hj => hcell g j u hj) h2⟩
  · have := hR.wr_lt (b := b) hw
    omega
theorem ent_keys {X : Cx} : ∀ {es : List (AV × AV)} {cs : List MapEntry} {ks : List (List UInt8)}, EntM X es cs → es.mapM keyL = some ks → cs.map (·.key) = ks.map encStr
  | [], cs, ks, hm, hs => by
    unfold EntM at hm
    subst hm
    simp at hs; subst hs; rfl
  | p :: es, cs, ks, hm, hs => by
    unfold EntM at hm
    obtain ⟨e, r, rfl, h1, h2, h3⟩ := hm
    rw [List.mapM_cons] at hs
    cases hk : keyL p with
    | none => rw [hk] at hs; cases hs
    | some k =>
      rw [hk] at hs
      cases ht : es.mapM keyL with
      | none => rw [ht] at hs; cases hs
      | some t =>
        rw [ht] at hs
        injection hs with hs
        subst hs
        have ih := ent_keys h3 ht
        have he : e.key = encStr k := by
          unfold keyL at hk
          split at hk
          · rename_i s v
            injection hk with hk; subst hk
            unfold keyV at h1
            injection h1 with h1
            rw [← h1]; rfl
          · cases hk
        show e.key :: r.map (·.key) = encStr k :: t.map encStr
        rw [he, ih]
theorem keyOf_enc {k : List UInt8} (h : k.length < 2^40) : keyOf Try.prog 9 (encStr k) = some (.string k) := by
  have : k.length ≤ maxLen := by unfold maxLen; omega
  simp [keyOf, Try.underlying9, mapKey, encStr]
  show k.toArray.size ≤ maxLen
  simpa using this
theorem perm_foldr {H : Type} (l : List (Lit × DataW H)) : (l.foldr DataW.insert []).Perm l := Go.WideShapes.sorted_perm l
/-- what a list of strings reads as -/
theorem Me_strs {X : Cx} {b : Nat} : ∀ (l : List (List UInt8)) (o : Nat), (∀ j u, (l.map encStr)[j]? = some u → cellAt X.w b (o + j) = some u) → Me X (l.map sv) b o 1
  | [], o, h => by simp [Me]
  | x :: l, o, h => by
    have h0 := h 0 (encStr x) rfl
    rw [List.map_cons]
    unfold Me
    refine ⟨⟨rfl, encStr x, h0, by unfold M; rfl⟩, Me_strs l (o + 1) fun j u hj => ?_⟩
    have := h (j + 1) u (by simpa using hj)
    rw [← this]; congr 1; omega
set_option maxRecDepth 100000 in
theorem sortF_ok : ∀ a H r, sortF 51 a H = some r → SpecR C.P C.G n_Sorted_string a H r := by
  intro a H r hr
  unfold sortF at hr
  split at hr
  · rename_i g l
    split at hr
    · rename_i hg
      subst hg
      split at hr
      · rename_i L hl
        split at hr
        · rename_i es hL
          cases hk : es.mapM keyL with
          | none => rw [hk] at hr; cases hr
          | some ks =>
            rw [hk, Option.bind_some] at hr
            split at hr
            · rename_i hc
              injection hr with hr; subst hr
              intro X args hH hR hM
              subst hH
              unfold Ms at hM
              obtain ⟨v1, vs1, e1, g1, hM⟩ := hM
              unfold Ms at hM
              unfold M at g1
              obtain ⟨fv, cv, f1, f2, f3⟩ := g1
              unfold Ms at f2 f3
              obtain ⟨u2, us2, f4, f5, f6⟩ := f3
              unfold Ms at f6
              unfold M at f5
              obtain ⟨_, _, f5⟩ := f5
              obtain ⟨p, z, hrow, hi, hv1⟩ := f5 (by unfold lenOf; rw [hl]; rfl)
              obtain ⟨rfl, _, hme, _⟩ := hR.rows l 1 _ p z hl hi
              unfold Me at hme
              obtain ⟨⟨_, u0, c0, m0⟩, _⟩ := hme
              unfold M at m0
              obtain ⟨bm, z2, hi2, hu0⟩ := m0.2 (by rw [hL]; trivial)
              obtain ⟨cs, clock, hb, hent, hst, hcs⟩ := hR.maps.1 L es bm z2 hL hi2
              have hkeys := ent_keys hent hk
              rw [hu0, ← cell?_plain] at c0
              have ha : args = #[.func (.func 51) #[] #[.pointer (some ⟨p, 0, none⟩)]] := by
                have h1 : fv = #[] := Array.toList_inj.1 f2
                have h2 : cv = #[.pointer (some ⟨p, 0, none⟩)] := Array.toList_inj.1 (by rw [f4, f6, hv1])
                apply Array.toList_inj.1
                rw [e1, hM, f1, h1, h2]
              subst ha
              -- the map reads as its keys
              let R : Value → Option (DataW Unit × List MemPlace) := fun _ => some (.nil, [])
              have hrd : ∀ x ∈ cs.toList, ∃ k ∈ ks, Go.WideElems.rd Try.prog 9 R x = some (.string k, .nil) := fun x hx => by
                have : x.key ∈ cs.toList.map (·.key) := List.mem_map.2 ⟨x, hx, rfl⟩
                rw [hkeys] at this
                obtain ⟨k, hk1, hk2⟩ := List.mem_map.1 this
                have hkl : k.length < 2^40 := by have := List.all_eq_true.1 hc.2 k hk1; simpa using this
                refine ⟨k, hk1, ?_⟩
                unfold Go.WideElems.rd
                rw [← hk2, keyOf_enc hkl]; rfl
              have hown : X.w.ownsMap Try.prog 9 R bm cs.size (.map ((cs.toList.map (Go.WideElems.rg Try.prog 9 R)).foldr DataW.insert [])) :=
                ⟨cs, clock, hb, ⟨by unfold maxLen; omega, hst, fun x hx => by obtain ⟨k, _, h⟩ := hrd x hx; exact ⟨_, h⟩⟩, Nat.le_refl _, rfl⟩
              have hsk : (strKeys (DataW.map ((cs.toList.map (Go.WideElems.rg Try.prog 9 R)).foldr DataW.insert []))).Perm ks := by
                have h1 := (perm_foldr (cs.toList.map (Go.WideElems.rg Try.prog 9 R))).map fun q => strOf q.1
                refine (show _ from h1).trans ?_
                rw [List.map_map]
                have h2 : cs.toList.map ((fun q : Lit × DataW Unit => strOf q.1) ∘ Go.WideElems.rg Try.prog 9 R) = ks := by
                  have inj : ∀ (a b : List (List UInt8)), a.map encStr = b.map encStr → a = b := fun a b h => List.map_inj_right (fun x y q => encStr_inj q) |>.1 h
                  apply inj
                  rw [List.map_map, ← hkeys]
                  apply List.map_congr_left
                  intro x hx
                  obtain ⟨k, _, h⟩ := hrd x hx
                  have h5 := Go.WideElems.rg_of h
                  simp only [Function.comp, h5, strOf]
                  have h3 := Go.WideElems.rd_key h
                  obtain ⟨y, hy1, hy2, _⟩ := Maps.keyOf_str Try.underlying9 h3
                  rw [hy1]
                  have h4 : Lit.string k = Lit.string y := hy2
                  injection h4 with h4
                  rw [h4]
                rw [h2]
              have hsz : Maps.size (DataW.map ((cs.toList.map (Go.WideElems.rg Try.prog 9 R)).foldr DataW.insert [])) ≤ 1099511627776 := by
                show ((cs.toList.map (Go.WideElems.rg Try.prog 9 R)).foldr DataW.insert []).length ≤ _
                rw [length_sorted, List.length_map, Array.length_toList]
                have : (2 : Nat)^40 = 1099511627776 := by decide
                omega
              have hpl : p < X.w.heap.size := by
                rw [cell?_plain] at c0; exact lt_of_cellAt c0
              have key := callsIn_wide.1 (Try.sorted_box p bm cs.size _ R X.w hpl c0 hown (Nat.le_trans hsz (by unfold maxLen; decide)) (by omega))
              refine Calls.mono key ?_
              rintro e w' ⟨v, ss, h1, h2, h3, h4, h5⟩
              obtain ⟨k1, k2, k3⟩ := grow_rel (w' := w') hR h5.block h5.size h5.tape h5.os h5.output
              have hss : ss.mergeSort (fun x y => decide (x ≤ y)) = sortL ks := mergeSort_of_perm (h2.trans hsk)
              refine ⟨v, ⟨X.F, X.ι, X.H, w'⟩, rfl, h1, rfl, k1, k2, EscI.refl _, ?_⟩
              rw [hss] at h3
              have hlen : (sortL ks).length = ss.length := by rw [← hss]; exact List.length_mergeSort _
              unfold M
              rcases h3.2 with ⟨q1, q2⟩ | ⟨gb, cap, cur, q1, q2, q3, q4, q5, q6, q7⟩
              · have : sortL ks = [] := List.eq_nil_of_length_eq_zero (by omega)
                rw [this]
                exact ⟨none, 0, q1, Nat.le_refl _, by simp [oneL], fun h => absurd rfl h⟩
              · refine ⟨_, cap, by rw [List.length_map, hlen]; exact q1, by rw [List.length_map, hlen]; exact q4, ?_, fun _ => ⟨gb, 0, 1, rfl, by decide, k3 gb q2 (Array.getElem?_eq_some_iff.1 q3).1, Me_strs (sortL ks) 0 fun j u hj => ?_⟩⟩
                · intro e he
                  obtain ⟨x, _, rfl⟩ := List.mem_map.1 he
                  rfl
                · unfold cellAt
                  rw [q3]
                  show cur[0 + j]? = some u
                  rw [Nat.zero_add, ← Array.getElem?_toList]
                  rw [← q7, List.getElem?_take] at hj
                  split at hj
                  · exact hj
                  · cases hj
            · cases hr
        · cases hr
      · cases hr
    · cases hr
  · cases hr
end Go.Pm
