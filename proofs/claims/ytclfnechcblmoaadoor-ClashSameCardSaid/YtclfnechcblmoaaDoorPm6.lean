/- Soundness, part 3: a row written in place; rows let go; the end of a scope. -/
import Derived.Test.YtclfnechcblmoaaDoorPm5
namespace Go.Pm
set_option linter.unusedVariables false
set_option linter.unusedSimpArgs false

theorem write_ok {G : Nat → Option (List AV)} {X : Cx} (hR : Rel G X) {l z b s : Nat} {es es' : List AV} (hl : X.H[l]? = some (.row z es)) (hi : X.ι l = some (b, z))
    (hlen : es.length ≤ es'.length) {o : Nat} {vs : List Value} (hsz : sizeAt X.w b = some s) (ho : o + vs.length ≤ s) (hone : oneL es') (hs : es'.length * z ≤ s)
    (hc : ∀ i e, es'[i]? = some e → e.cells.length = z ∧ ∃ us, Ms X e.cells us ∧ ∀ j v, us[j]? = some v → cellAt (X.w.setCells b o vs) b (i * z + j) = some v)
    {E : List Nat} (hesc : EscI X.H (X.H.set l (.row z es')) E) :
    Rel G ⟨X.F, X.ι, X.H.set l (.row z es'), X.w.setCells b o vs⟩ ∧ Ext X ⟨X.F, X.ι, X.H.set l (.row z es'), X.w.setCells b o vs⟩ := by
  have hll : l < X.H.length := (List.getElem?_eq_some_iff.1 hl).1
  obtain ⟨f1, f2, f3, f4, f5, f6⟩ := setCells_facts b vs o X.w
  have hset : (X.H.set l (.row z es'))[l]? = some (.row z es') := by simp [hll]
  have hoth : ∀ k, k ≠ l → (X.H.set l (.row z es'))[k]? = X.H[k]? := fun k hk => by simp [Ne.symm hk]
  have hrow : ∀ k, isRow (X.H.set l (.row z es'))[k]? ↔ isRow X.H[k]? := fun k => by
    by_cases e : k = l
    · subst e; rw [hset, hl]; simp [isRow]
    · rw [hoth k e]
  have hwr : X.wr b := ⟨l, z, by rw [hl]; simp [isRow], hi⟩
  have hE : Ext X ⟨X.F, X.ι, X.H.set l (.row z es'), X.w.setCells b o vs⟩ := by
    refine ⟨by simp [f1], by simp, fun b' hb hw => f3 b' (fun e => hw (e ▸ hwr)), fun b' hb hw => ?_, fun k t hk hkt => ?_, f4, f5, f6, rfl⟩
    · obtain ⟨k, z', hr, hi'⟩ := hw
      exact ⟨k, z', (hrow k).1 hr, hi'⟩
    · by_cases e : k = l
      · subst e
        have ht : es'.length = t := by simp only [lenOf, hset] at hkt; injection hkt
        exact ⟨es.length, by simp [lenOf, hl], by omega, fun _ => ⟨fun hr => ⟨(hrow k).2 hr, fun b' z' hb' => ⟨hb', f2 b'⟩⟩, fun hv => by rw [hl] at hv; cases hv⟩⟩
      · have hk' : lenOf X.H k = some t := by simpa only [lenOf, hoth k e] using hkt
        exact ⟨t, hk', Nat.le_refl _, fun _ => ⟨fun hr => ⟨(hrow k).2 hr, fun b' z' hb' => ⟨hb', f2 b'⟩⟩, fun hv => by rw [← hv]; exact hoth k e⟩⟩
  have hme : ∀ i e, es'[i]? = some e → e.cells.length = z ∧ Mc ⟨X.F, X.ι, X.H.set l (.row z es'), X.w.setCells b o vs⟩ e.cells b (0 + i * z) := fun i e he => by
    obtain ⟨h1, us, h2, h3⟩ := hc i e he
    exact ⟨h1, Mc_of_vals (Ms_mono hE _ _ h2) fun j v hj => by simpa using h3 j v hj⟩
  refine ⟨⟨fun k z1 es1 b1 z' h1 h2 => ?_, fun k k' b1 z1 z2 h1 h2 h3 h4 => hR.inj k k' b1 z1 z2 ((hrow k).1 h1) ((hrow k').1 h2) h3 h4, fun g cs hg => ?_, fun k z1 es1 h1 => ?_, fb_keep hR hE, hR.gb⟩, hE⟩
  · simp only at h1 h2
    by_cases e : k = l
    · subst e
      rw [hset] at h1
      injection h1 with h1; injection h1 with e1 e2
      subst e1; subst e2
      rw [hi] at h2
      injection h2 with h2; injection h2 with e3 e4
      subst e3; subst e4
      obtain ⟨_, hz, _, _, s', hs', _, hf⟩ := hR.rows k z es b z hl hi
      rw [hsz] at hs'; injection hs' with hs'; subst hs'
      refine ⟨rfl, hz, Me_of_get hme, hone, s, (f2 b).trans hsz, hs, unmark_setCells vs o X.w hf⟩
    · rw [hoth k e] at h1
      obtain ⟨e1, e2, e3, ee, s1, e4, e5, e6⟩ := hR.rows k z1 es1 b1 z' h1 h2
      have hb : b1 ≠ b := fun hb => by
        subst hb
        exact e (hR.inj k l b1 z' z (by rw [h1]; simp [isRow]) (by rw [hl]; simp [isRow]) h2 hi)
      refine ⟨e1, e2, Me_mono hE _ _ _ _ (fun j u hj => ?_) e3, ee, s1, (f2 b1).trans e4, e5, unmark_setCells vs o X.w e6⟩
      exact (cellAt_setCells_out fun hb' => absurd hb' hb).trans hj
  · obtain ⟨h1, h2⟩ := hR.glob g cs hg
    exact ⟨im_keep hE h1, Mc_mono hE _ _ _ (fun j u hj => cellAt_keep hE h1.2 hj) h2⟩
  · simp only at h1
    by_cases e : k = l
    · subst e
      rw [hset] at h1
      injection h1 with h1; injection h1 with e1 e2
      subst e1; subst e2
      exact Me_bel _ _ _ _ (Me_of_get hme)
    · rw [hoth k e] at h1
      exact belL_mono (by simp) _ (hR.wf k z1 es1 h1)

theorem killAll_get : ∀ (ls : List Nat) (H : List AObj) (k : Nat), (killAll H ls)[k]? = if k ∈ ls ∧ k < H.length then some .dead else H[k]?
  | [], H, k => by simp [killAll]
  | l :: ls, H, k => by
    simp only [killAll, killAll_get ls (H.set l .dead) k, List.length_set, List.mem_cons]
    by_cases h1 : k ∈ ls
    · by_cases h2 : k < H.length
      · simp [h1, h2]
      · simp [h1, h2, List.getElem?_eq_none (Nat.le_of_not_lt h2)]
    · by_cases e : k = l
      · subst e
        by_cases h2 : k < H.length
        · simp [h1, h2]
        · simp [h1, h2, List.getElem?_eq_none (Nat.le_of_not_lt h2)]
      · simp [h1, e, Ne.symm e]
theorem killAll_length : ∀ (ls : List Nat) (H : List AObj), (killAll H ls).length = H.length
  | [], H => rfl
  | l :: ls, H => by simp [killAll, killAll_length ls]

theorem kill_ok {G : Nat → Option (List AV)} {X : Cx} (hR : Rel G X) (ls : List Nat) :
    Rel G ⟨X.F, X.ι, killAll X.H ls, X.w⟩ ∧ Ext X ⟨X.F, X.ι, killAll X.H ls, X.w⟩ ∧ EscI X.H (killAll X.H ls) [] := by
  have hrow : ∀ k, isRow (killAll X.H ls)[k]? → (killAll X.H ls)[k]? = X.H[k]? := fun k h => by
    rw [killAll_get] at h ⊢
    split at h
    · simp [isRow] at h
    · rename_i hn; rw [if_neg hn]
  have hlenOf : ∀ k t, lenOf (killAll X.H ls) k = some t → (killAll X.H ls)[k]? = X.H[k]? := fun k t h => by
    unfold lenOf at h
    rw [killAll_get] at h ⊢
    split
    · rename_i hd; simp [hd] at h
    · rfl
  have hE : Ext X ⟨X.F, X.ι, killAll X.H ls, X.w⟩ := by
    refine ⟨Nat.le_refl _, by simp [killAll_length], fun _ _ _ => rfl, fun b _ hw => ?_, fun k t hk hkt => ?_, rfl, rfl, rfl, rfl⟩
    · obtain ⟨k, z', hr, hi⟩ := hw
      exact ⟨k, z', by rw [← hrow k hr]; exact hr, hi⟩
    · have he := hlenOf k t hkt
      refine ⟨t, by unfold lenOf at hkt ⊢; rw [← he]; exact hkt, Nat.le_refl _, fun _ => ⟨fun hr => ⟨?_, fun _ _ h => ⟨h, rfl⟩⟩, fun hv => he.trans hv⟩⟩
      show isRow (killAll X.H ls)[k]?
      rw [he]; exact hr
  refine ⟨⟨fun k z1 es1 b1 z' h1 h2 => ?_, fun k k' b1 z1 z2 h1 h2 h3 h4 => ?_, fun g cs hg => ?_, fun k z1 es1 h1 => ?_, fb_keep hR hE, hR.gb⟩, hE, fun l z es h => ?_⟩
  · simp only at h1 h2
    rw [hrow k (by rw [h1]; simp [isRow])] at h1
    obtain ⟨e1, e2, e3, ee, s1, e4, e5, e6⟩ := hR.rows k z1 es1 b1 z' h1 h2
    exact ⟨e1, e2, Me_mono hE _ _ _ _ (fun j u hj => hj) e3, ee, s1, e4, e5, e6⟩
  · exact hR.inj k k' b1 z1 z2 (by rw [← hrow k h1]; exact h1) (by rw [← hrow k' h2]; exact h2) h3 h4
  · obtain ⟨h1, h2⟩ := hR.glob g cs hg
    exact ⟨im_keep hE h1, Mc_mono hE _ _ _ (fun j u hj => hj) h2⟩
  · simp only at h1
    rw [hrow k (by rw [h1]; simp [isRow])] at h1
    exact belL_mono (by simp [killAll_length]) _ (hR.wf k z1 es1 h1)
  · rw [hrow l (by rw [h]; simp [isRow])] at h
    exact .inr fun m hm hp => hp z es h

mutual
theorem frz_M {G : Nat → Option (List AV)} {X : Cx} (hR : Rel G X) (ls : List Nat) : ∀ (v v' : AV) (u : Value), M X v u → frz X.H v = some v' → (∀ l ∈ kills v, l ∈ ls) →
    M ⟨X.F, X.ι, killAll X.H ls, X.w⟩ v' u
  | .nils, v', u, hm, hf, hk => by
    simp only [frz, Option.some.injEq] at hf
    subst hf
    unfold M at hm ⊢
    exact ⟨none, 0, by simpa using hm, by simp, by simp [oneL], fun h => absurd rfl h⟩
  | .emp b, v', u, hm, hf, hk => by
    simp only [frz, Option.some.injEq] at hf
    subst hf
    unfold M at hm ⊢
    obtain ⟨A, c, hv, _⟩ := hm
    exact ⟨A, c, by simpa using hv, by simp, by simp [oneL], fun h => absurd rfl h⟩
  | .slc l off n tot, v', u, hm, hf, hk => by
    simp only [frz] at hf
    unfold M at hm
    obtain ⟨⟨h1, h0⟩, h2, h3⟩ := hm
    split at hf
    · rename_i z0 es hH
      split at hf
      · rename_i hg
        injection hf with hf
        subst hf
        have hlen : lenOf X.H l = some tot := by simp [lenOf, hH, hg.1]
        rcases h3 hlen with ⟨hv, _⟩ | ⟨hr, A, c, b, z, s, hi, hv, a1, a2, a3, a4⟩
        · rw [hH] at hv; cases hv
        · obtain ⟨e1, e2, e3, ee, s', e4, e5, e6⟩ := hR.rows l z0 es b z hH hi
          subst e1
          have hll : ((es.drop off).take n).length = n := by simp; omega
          unfold M
          refine ⟨A, c, by rw [hll]; exact hv, by rw [hll]; exact a2, fun e he => ee e (List.mem_of_mem_drop (List.mem_of_mem_take he)), fun hne => ?_⟩
          have hn : 0 < n := by
            rcases Nat.eq_zero_or_pos n with h0 | h0
            · subst h0; simp at hne
            · exact h0
          have hc0 : c ≠ 0 := by omega
          obtain ⟨hA, hcap⟩ := a4.resolve_left hc0
          have hE := (kill_ok hR ls).2.1
          refine ⟨b, off * z, z, hA, e2, ⟨⟨lt_of_sizeAt a3, fun hf => (hR.fb b hf).2 ⟨l, z, hr, hi⟩⟩, fun hw => ?_⟩, Me_of_get fun i e he => ?_⟩
          · obtain ⟨k, z', hrk, hik⟩ := hw
            simp only at hrk hik
            rw [killAll_get] at hrk
            split at hrk
            · simp [isRow] at hrk
            · rename_i hnk
              have := hR.inj k l b z' z hrk hr hik hi
              subst this
              exact hnk ⟨hk k (by simp [kills]), h1⟩
          · have hi' : i < n := by
              have := (List.getElem?_eq_some_iff.1 he).1
              rw [hll] at this; exact this
            have he' : es[off + i]? = some e := by
              rw [List.getElem?_take_of_lt hi', List.getElem?_drop] at he
              exact he
            obtain ⟨q1, q2⟩ := Me_get e3 he'
            refine ⟨q1, Mc_mono hE _ _ _ (fun j u hj => hj) ?_⟩
            rwa [show off * z + i * z = 0 + (off + i) * z by rw [Nat.add_mul]; omega]
      · cases hf
    · rename_i hH
      split at hf
      · rename_i ht
        injection hf with hf
        subst hf
        have hlen : lenOf X.H l = some tot := by simp [lenOf, hH, ht]
        rcases h3 hlen with ⟨hv, h4, h5, h6⟩ | ⟨hr, _⟩
        · unfold M
          exact ⟨none, 0, by simpa using h6, by simp, by simp [oneL], fun h => absurd rfl h⟩
        · rw [hH] at hr; simp [isRow] at hr
      · cases hf
    · cases hf
  | .agg cs, v', u, hm, hf, hk => by
    simp only [frz, Option.map_eq_some_iff] at hf
    obtain ⟨cs', h1, rfl⟩ := hf
    unfold M at hm ⊢
    obtain ⟨vs, hv, hs⟩ := hm
    exact ⟨vs, hv, frzL_M hR ls cs cs' _ hs h1 (by simpa [kills] using hk)⟩
  | .tup cs, v', u, hm, hf, hk => by
    simp only [frz, Option.map_eq_some_iff] at hf
    obtain ⟨cs', h1, rfl⟩ := hf
    unfold M at hm ⊢
    obtain ⟨vs, hv, hs⟩ := hm
    exact ⟨vs, hv, frzL_M hR ls cs cs' _ hs h1 (by simpa [kills] using hk)⟩
  | .ifc t v, v', u, hm, hf, hk => by
    simp only [frz, Option.map_eq_some_iff] at hf
    obtain ⟨w, h1, rfl⟩ := hf
    unfold M at hm ⊢
    obtain ⟨u', hv, hs⟩ := hm
    exact ⟨u', hv, frz_M hR ls v w u' hs h1 (by simpa [kills] using hk)⟩
  | .bad, v', u, hm, hf, hk => by simp only [frz, Option.some.injEq] at hf; subst hf; exact M_mono (kill_ok hR ls).2.1 _ _ hm
  | .int _ _, v', u, hm, hf, hk => by simp only [frz, Option.some.injEq] at hf; subst hf; exact M_mono (kill_ok hR ls).2.1 _ _ hm
  | .bool _, v', u, hm, hf, hk => by simp only [frz, Option.some.injEq] at hf; subst hf; exact M_mono (kill_ok hR ls).2.1 _ _ hm
  | .str _, v', u, hm, hf, hk => by simp only [frz, Option.some.injEq] at hf; subst hf; exact M_mono (kill_ok hR ls).2.1 _ _ hm
  | .nilp, v', u, hm, hf, hk => by simp only [frz, Option.some.injEq] at hf; subst hf; exact M_mono (kill_ok hR ls).2.1 _ _ hm
  | .ptr _ _ _ _, v', u, hm, hf, hk => by simp only [frz, Option.some.injEq] at hf; subst hf; exact M_mono (kill_ok hR ls).2.1 _ _ hm
  | .ip _, v', u, hm, hf, hk => by simp only [frz, Option.some.injEq] at hf; subst hf; exact M_mono (kill_ok hR ls).2.1 _ _ hm
  | .lst _, v', u, hm, hf, hk => by simp only [frz, Option.some.injEq] at hf; subst hf; exact M_mono (kill_ok hR ls).2.1 _ _ hm
  | .clo _ _ _, v', u, hm, hf, hk => by simp only [frz, Option.some.injEq] at hf; subst hf; exact M_mono (kill_ok hR ls).2.1 _ _ hm
  | .nilf, v', u, hm, hf, hk => by simp only [frz, Option.some.injEq] at hf; subst hf; exact M_mono (kill_ok hR ls).2.1 _ _ hm
  | .nili, v', u, hm, hf, hk => by simp only [frz, Option.some.injEq] at hf; subst hf; exact M_mono (kill_ok hR ls).2.1 _ _ hm
theorem frzL_M {G : Nat → Option (List AV)} {X : Cx} (hR : Rel G X) (ls : List Nat) : ∀ (cs cs' : List AV) (us : List Value), Ms X cs us → frzL X.H cs = some cs' → (∀ l ∈ killsL cs, l ∈ ls) →
    Ms ⟨X.F, X.ι, killAll X.H ls, X.w⟩ cs' us
  | [], cs', us, hm, hf, hk => by
    simp only [frzL, Option.some.injEq] at hf
    subst hf
    unfold Ms at hm ⊢
    exact hm
  | c :: cs, cs', us, hm, hf, hk => by
    simp only [frzL, Option.bind_eq_some_iff, Option.map_eq_some_iff] at hf
    obtain ⟨c', h1, ds, h2, rfl⟩ := hf
    unfold Ms at hm ⊢
    obtain ⟨u, us', rfl, hu, hs⟩ := hm
    exact ⟨u, us', rfl, frz_M hR ls c c' u hu h1 fun l hl => hk l (by simp [killsL, hl]), frzL_M hR ls cs ds us' hs h2 fun l hl => hk l (by simp [killsL, hl])⟩
end

/-! ### the end of a scope -/
def Cx.cut (X : Cx) (n : Nat) : Cx := ⟨X.F, fun l => if l < n then X.ι l else none, X.H.take n, X.w⟩
theorem cut_get {H : List AObj} {n l : Nat} (h : l < n) : (H.take n)[l]? = H[l]? := by simp [h]
theorem cut_none {H : List AObj} {n l : Nat} (h : n ≤ l) : (H.take n)[l]? = none := by simp [List.getElem?_take, Nat.not_lt.2 h]
theorem cut_wr {X : Cx} {n b : Nat} (h : (X.cut n).wr b) : X.wr b := by
  obtain ⟨l, z, hr, hi⟩ := h
  simp only [Cx.cut] at hr hi
  by_cases e : l < n
  · rw [cut_get e] at hr; simp only [e, if_true] at hi; exact ⟨l, z, hr, hi⟩
  · simp [e] at hi
mutual
theorem cut_M {X : Cx} {n : Nat} (hn : n ≤ X.H.length) : ∀ (v : AV) (u : Value), v.bel n = true → M X v u → M (X.cut n) v u
  | .ptr l tot i off, u, hb, hm => by
    simp only [AV.bel, decide_eq_true_eq] at hb
    unfold M at hm ⊢
    have hg : (X.cut n).H[l]? = X.H[l]? := cut_get hb
    have hi : (X.cut n).ι l = X.ι l := by simp [Cx.cut, hb]
    simp only [lenOf, hg, hi] at hm ⊢
    exact ⟨⟨by simp [Cx.cut]; omega, hm.1.2⟩, hm.2.1, hm.2.2⟩
  | .slc l off k tot, u, hb, hm => by
    simp only [AV.bel, decide_eq_true_eq] at hb
    unfold M at hm ⊢
    have hg : (X.cut n).H[l]? = X.H[l]? := cut_get hb
    have hi : (X.cut n).ι l = X.ι l := by simp [Cx.cut, hb]
    simp only [lenOf, hg, hi] at hm ⊢
    exact ⟨⟨by simp [Cx.cut]; omega, hm.1.2⟩, hm.2.1, hm.2.2⟩
  | .ip cs, u, hb, hm => by
    simp only [AV.bel] at hb
    unfold M at hm ⊢
    obtain ⟨b, o, hv, hi, hc⟩ := hm
    exact ⟨b, o, hv, ⟨hi.1, fun hw => hi.2 (cut_wr hw)⟩, cut_Mc hn cs b o hb hc⟩
  | .lst es, u, hb, hm => by
    simp only [AV.bel] at hb
    unfold M at hm ⊢
    obtain ⟨A, c, hv, hc, hone, he⟩ := hm
    refine ⟨A, c, hv, hc, hone, fun hne => ?_⟩
    obtain ⟨b, o, z, hA, hz, hi, hme⟩ := he hne
    exact ⟨b, o, z, hA, hz, ⟨hi.1, fun hw => hi.2 (cut_wr hw)⟩, cut_Me hn es b o z hb hme⟩
  | .agg cs, u, hb, hm => by
    simp only [AV.bel] at hb
    unfold M at hm ⊢
    obtain ⟨vs, hv, hs⟩ := hm
    exact ⟨vs, hv, cut_Ms hn cs _ hb hs⟩
  | .tup cs, u, hb, hm => by
    simp only [AV.bel] at hb
    unfold M at hm ⊢
    obtain ⟨vs, hv, hs⟩ := hm
    exact ⟨vs, hv, cut_Ms hn cs _ hb hs⟩
  | .clo _ fi ca, u, hb, hm => by
    simp only [AV.bel, Bool.and_eq_true] at hb
    unfold M at hm ⊢
    obtain ⟨fv, cv, hv, h1, h2⟩ := hm
    exact ⟨fv, cv, hv, cut_Ms hn fi _ hb.1 h1, cut_Ms hn ca _ hb.2 h2⟩
  | .ifc _ v, u, hb, hm => by
    simp only [AV.bel] at hb
    unfold M at hm ⊢
    obtain ⟨u', hv, hs⟩ := hm
    exact ⟨u', hv, cut_M hn v u' hb hs⟩
  | .bad, u, hb, hm => by unfold M; trivial
  | .int _ _, u, hb, hm => by unfold M at hm ⊢; exact hm
  | .bool _, u, hb, hm => by unfold M at hm ⊢; exact hm
  | .str _, u, hb, hm => by unfold M at hm ⊢; exact hm
  | .nilp, u, hb, hm => by unfold M at hm ⊢; exact hm
  | .nils, u, hb, hm => by unfold M at hm ⊢; exact hm
  | .emp _, u, hb, hm => by unfold M at hm ⊢; exact hm
  | .nilf, u, hb, hm => by unfold M at hm ⊢; exact hm
  | .nili, u, hb, hm => by unfold M at hm ⊢; exact hm
theorem cut_Mc {X : Cx} {n : Nat} (hn : n ≤ X.H.length) : ∀ (cs : List AV) (b o : Nat), belL n cs = true → Mc X cs b o → Mc (X.cut n) cs b o
  | [], _, _, _, _ => by simp [Mc]
  | c :: cs, b, o, hb, hm => by
    simp only [belL, Bool.and_eq_true] at hb
    unfold Mc at hm ⊢
    obtain ⟨⟨u, hu, hc⟩, hs⟩ := hm
    exact ⟨⟨u, hu, cut_M hn c u hb.1 hc⟩, cut_Mc hn cs b (o + 1) hb.2 hs⟩
theorem cut_Me {X : Cx} {n : Nat} (hn : n ≤ X.H.length) : ∀ (es : List AV) (b o z : Nat), belL n es = true → Me X es b o z → Me (X.cut n) es b o z
  | [], _, _, _, _, _ => by simp [Me]
  | e :: es, b, o, z, hb, hm => by
    simp only [belL, Bool.and_eq_true] at hb
    cases e with
    | agg cs =>
      unfold Me at hm ⊢
      exact ⟨⟨hm.1.1, cut_Mc hn cs b o (by simpa [AV.bel] using hb.1) hm.1.2⟩, cut_Me hn es b (o + z) z hb.2 hm.2⟩
    | _ =>
      unfold Me at hm ⊢
      obtain ⟨⟨hz, u, hu, hc⟩, hs⟩ := hm
      exact ⟨⟨hz, u, hu, cut_M hn _ u hb.1 hc⟩, cut_Me hn es b (o + z) z hb.2 hs⟩
theorem cut_Ms {X : Cx} {n : Nat} (hn : n ≤ X.H.length) : ∀ (cs : List AV) (vs : List Value), belL n cs = true → Ms X cs vs → Ms (X.cut n) cs vs
  | [], _, _, hm => by unfold Ms at hm ⊢; exact hm
  | c :: cs, vs, hb, hm => by
    simp only [belL, Bool.and_eq_true] at hb
    unfold Ms at hm ⊢
    obtain ⟨u, us, hv, hc, hs⟩ := hm
    exact ⟨u, us, hv, cut_M hn c u hb.1 hc, cut_Ms hn cs us hb.2 hs⟩
end

/-- From the state X0 on, by way of X, back to what X0 had. -/
theorem cut_ok {G : Nat → Option (List AV)} {X0 X : Cx} (hR0 : Rel G X0) (hR : Rel G X) (hE : Ext X0 X) {E : List Nat} (hesc : EscI X0.H X.H E) (hge : ∀ e ∈ E, X0.H.length ≤ e) :
    Rel G (X.cut X0.H.length) ∧ Ext X0 (X.cut X0.H.length) ∧ EscI X0.H (X.cut X0.H.length).H [] := by
  have hn := hE.hlen
  have hbel : ∀ l z es, l < X0.H.length → X.H[l]? = some (AObj.row z es) → belL X0.H.length es = true := fun l z es e h1 => by
    rcases hesc l z es h1 with hh | hh
    · have := hge l hh; omega
    · exact hh _ e fun z0 es0 h0 => hR0.wf l z0 es0 h0
  refine ⟨⟨fun l z es b z' h1 h2 => ?_, fun l l' b z z' h1 h2 h3 h4 => ?_, fun g cs hg => ?_, fun l z es h1 => ?_, fun b hb => ⟨(hR.fb b hb).1, fun hw => (hR.fb b hb).2 (cut_wr hw)⟩, hR.gb⟩, ⟨hE.size, by simp [Cx.cut]; omega, hE.keep, fun b hb hw => hE.wr b hb (cut_wr hw), fun l t hl hlt => ?_, hE.tape, hE.os, hE.output, hE.for_⟩, fun l z es h => ?_⟩
  · simp only [Cx.cut] at h1 h2
    by_cases e : l < X0.H.length
    · rw [cut_get e] at h1
      simp only [e, if_true] at h2
      obtain ⟨e1, e2, e3, ee, s, e4, e5, e6⟩ := hR.rows l z es b z' h1 h2
      exact ⟨e1, e2, cut_Me hn _ _ _ _ (hbel l z es e h1) e3, ee, s, e4, e5, e6⟩
    · simp [e] at h2
  · simp only [Cx.cut] at h1 h2 h3 h4
    by_cases e : l < X0.H.length
    · by_cases e' : l' < X0.H.length
      · rw [cut_get e] at h1
        rw [cut_get e'] at h2
        simp only [e, if_true] at h3
        simp only [e', if_true] at h4
        exact hR.inj l l' b z z' h1 h2 h3 h4
      · simp [e'] at h4
    · simp [e] at h3
  · obtain ⟨h1, h2⟩ := hR.glob g cs hg
    exact ⟨⟨h1.1, fun hw => h1.2 (cut_wr hw)⟩, cut_Mc hn _ _ _ (Mc_bel _ _ _ (hR0.glob g cs hg).2) h2⟩
  · simp only [Cx.cut] at h1 ⊢
    by_cases e : l < X0.H.length
    · rw [cut_get e] at h1
      rw [List.length_take, Nat.min_eq_left hn]
      exact hbel l z es e h1
    · rw [cut_none (Nat.le_of_not_lt e)] at h1; cases h1
  · have hg : (X.cut X0.H.length).H[l]? = X.H[l]? := cut_get hl
    have hi : (X.cut X0.H.length).ι l = X.ι l := by simp [Cx.cut, hl]
    obtain ⟨t0, k0, k1, k2⟩ := hE.grow l t hl (by simpa only [lenOf, hg] using hlt)
    refine ⟨t0, k0, k1, fun e => ?_⟩
    rw [hg, hi]
    exact k2 e
  · by_cases e : l < X0.H.length
    · have h' : X.H[l]? = some (.row z es) := by rw [← cut_get e]; exact h
      rcases hesc l z es h' with hh | hh
      · have := hge l hh; omega
      · exact .inr hh
    · simp only [Cx.cut] at h; rw [cut_none (Nat.le_of_not_lt e)] at h; cases h

/-! ### what refers to no row at all -/
mutual
theorem low_M {X Y : Cx} (hw : Y.w = X.w) (him : ∀ b, X.im b → Y.im b) : ∀ (v : AV) (u : Value), v.bel 0 = true → M X v u → M Y v u
  | .ptr l tot i off, u, hb, hm => by simp [AV.bel] at hb
  | .slc l off k tot, u, hb, hm => by simp [AV.bel] at hb
  | .ip cs, u, hb, hm => by
    simp only [AV.bel] at hb
    unfold M at hm ⊢
    obtain ⟨b, o, hv, hi, hc⟩ := hm
    exact ⟨b, o, hv, him b hi, low_Mc hw him cs b o hb hc⟩
  | .lst es, u, hb, hm => by
    simp only [AV.bel] at hb
    unfold M at hm ⊢
    obtain ⟨A, c, hv, hc, hone, he⟩ := hm
    refine ⟨A, c, hv, hc, hone, fun hne => ?_⟩
    obtain ⟨b, o, z, hA, hz, hi, hme⟩ := he hne
    exact ⟨b, o, z, hA, hz, him b hi, low_Me hw him es b o z hb hme⟩
  | .agg cs, u, hb, hm => by
    simp only [AV.bel] at hb
    unfold M at hm ⊢
    obtain ⟨vs, hv, hs⟩ := hm
    exact ⟨vs, hv, low_Ms hw him cs _ hb hs⟩
  | .tup cs, u, hb, hm => by
    simp only [AV.bel] at hb
    unfold M at hm ⊢
    obtain ⟨vs, hv, hs⟩ := hm
    exact ⟨vs, hv, low_Ms hw him cs _ hb hs⟩
  | .clo _ fi ca, u, hb, hm => by
    simp only [AV.bel, Bool.and_eq_true] at hb
    unfold M at hm ⊢
    obtain ⟨fv, cv, hv, h1, h2⟩ := hm
    exact ⟨fv, cv, hv, low_Ms hw him fi _ hb.1 h1, low_Ms hw him ca _ hb.2 h2⟩
  | .ifc _ v, u, hb, hm => by
    simp only [AV.bel] at hb
    unfold M at hm ⊢
    obtain ⟨u', hv, hs⟩ := hm
    exact ⟨u', hv, low_M hw him v u' hb hs⟩
  | .bad, u, hb, hm => by unfold M; trivial
  | .int _ _, u, hb, hm => by unfold M at hm ⊢; exact hm
  | .bool _, u, hb, hm => by unfold M at hm ⊢; exact hm
  | .str _, u, hb, hm => by unfold M at hm ⊢; exact hm
  | .nilp, u, hb, hm => by unfold M at hm ⊢; exact hm
  | .nils, u, hb, hm => by unfold M at hm ⊢; exact hm
  | .emp _, u, hb, hm => by unfold M at hm ⊢; exact hm
  | .nilf, u, hb, hm => by unfold M at hm ⊢; exact hm
  | .nili, u, hb, hm => by unfold M at hm ⊢; exact hm
theorem low_Mc {X Y : Cx} (hw : Y.w = X.w) (him : ∀ b, X.im b → Y.im b) : ∀ (cs : List AV) (b o : Nat), belL 0 cs = true → Mc X cs b o → Mc Y cs b o
  | [], _, _, _, _ => by simp [Mc]
  | c :: cs, b, o, hb, hm => by
    simp only [belL, Bool.and_eq_true] at hb
    unfold Mc at hm ⊢
    obtain ⟨⟨u, hu, hc⟩, hs⟩ := hm
    exact ⟨⟨u, by rw [hw]; exact hu, low_M hw him c u hb.1 hc⟩, low_Mc hw him cs b (o + 1) hb.2 hs⟩
theorem low_Me {X Y : Cx} (hw : Y.w = X.w) (him : ∀ b, X.im b → Y.im b) : ∀ (es : List AV) (b o z : Nat), belL 0 es = true → Me X es b o z → Me Y es b o z
  | [], _, _, _, _, _ => by simp [Me]
  | e :: es, b, o, z, hb, hm => by
    simp only [belL, Bool.and_eq_true] at hb
    cases e with
    | agg cs =>
      unfold Me at hm ⊢
      exact ⟨⟨hm.1.1, low_Mc hw him cs b o (by simpa [AV.bel] using hb.1) hm.1.2⟩, low_Me hw him es b (o + z) z hb.2 hm.2⟩
    | _ =>
      unfold Me at hm ⊢
      obtain ⟨⟨hz, u, hu, hc⟩, hs⟩ := hm
      exact ⟨⟨hz, u, by rw [hw]; exact hu, low_M hw him _ u hb.1 hc⟩, low_Me hw him es b (o + z) z hb.2 hs⟩
theorem low_Ms {X Y : Cx} (hw : Y.w = X.w) (him : ∀ b, X.im b → Y.im b) : ∀ (cs : List AV) (vs : List Value), belL 0 cs = true → Ms X cs vs → Ms Y cs vs
  | [], _, _, hm => by unfold Ms at hm ⊢; exact hm
  | c :: cs, vs, hb, hm => by
    simp only [belL, Bool.and_eq_true] at hb
    unfold Ms at hm ⊢
    obtain ⟨u, us, hv, hc, hs⟩ := hm
    exact ⟨u, us, hv, low_M hw him c u hb.1 hc, low_Ms hw him cs us hb.2 hs⟩
end
/-- The same world, of which none of the rows is one's own. -/
def Cx.low (X : Cx) : Cx := ⟨fun b => X.F b ∨ X.wr b, fun _ => none, [], X.w⟩
theorem low_wr {X : Cx} {b : Nat} : ¬ X.low.wr b := fun ⟨l, z, hr, hi⟩ => by simp [Cx.low] at hi
theorem low_im {X : Cx} {b : Nat} (h : X.im b) : X.low.im b := ⟨⟨h.1.1, fun hf => hf.elim h.1.2 h.2⟩, low_wr⟩
theorem low_ok {G : Nat → Option (List AV)} {X : Cx} (hR : Rel G X) : Rel G X.low := by
  refine ⟨fun l z es b z' h1 h2 => by simp [Cx.low] at h2, fun l l' b z z' h1 h2 h3 h4 => by simp [Cx.low] at h3, fun g cs hg => ?_, fun l z es h => by simp [Cx.low] at h, fun b hb => ⟨?_, low_wr⟩, hR.gb⟩
  · obtain ⟨h1, h2⟩ := hR.glob g cs hg
    exact ⟨low_im h1, low_Mc (X := X) (Y := X.low) rfl (fun b => low_im) _ _ _ (hR.gb g cs hg) h2⟩
  · rcases hb with hb | hb
    · exact (hR.fb b hb).1
    · exact hR.wr_lt hb
/-- What came of it there, here. -/
theorem high_ok {G : Nat → Option (List AV)} {X Y : Cx} (hR : Rel G X) (hY : Ext X.low Y) (hH : Y.H = []) :
    Rel G ⟨X.F, X.ι, X.H, Y.w⟩ ∧ Ext X ⟨X.F, X.ι, X.H, Y.w⟩ ∧ ∀ b, Y.im b → (⟨X.F, X.ι, X.H, Y.w⟩ : Cx).im b := by
  have hold : ∀ b, b < X.w.heap.size → Y.w.heap[b]? = X.w.heap[b]? := fun b hb => hY.keep b hb low_wr
  have hcell : ∀ b j u, cellAt X.w b j = some u → cellAt Y.w b j = some u := fun b j u h => by
    have hb := lt_of_cellAt h
    unfold cellAt at h ⊢; rw [hold b hb]; exact h
  have hsize : ∀ b s, sizeAt X.w b = some s → sizeAt Y.w b = some s := fun b s h => by
    have hb := lt_of_sizeAt h
    unfold sizeAt at h ⊢; rw [hold b hb]; exact h
  have hE : Ext X ⟨X.F, X.ι, X.H, Y.w⟩ :=
    ⟨hY.size, Nat.le_refl _, fun b hb _ => hold b hb, fun b _ hw => hw, fun l t hl h => ⟨t, h, Nat.le_refl _, fun _ => ⟨fun hr => ⟨hr, fun b z hb => ⟨hb, by
      obtain ⟨z1, es1, he⟩ := isRow_some hr
      obtain ⟨_, _, _, _, s, hs, _⟩ := hR.rows l z1 es1 b z he hb
      rw [hs]; exact hsize b s hs⟩⟩, fun h => h⟩⟩, hY.tape, hY.os, hY.output, rfl⟩
  refine ⟨⟨fun l z es b z' h1 h2 => ?_, fun l l' b z z' h1 h2 h3 h4 => hR.inj l l' b z z' h1 h2 h3 h4, fun g cs hg => ?_, hR.wf, fb_keep hR hE, hR.gb⟩, hE, fun b hb => ?_⟩
  · obtain ⟨e1, e2, e3, ee, s, e4, e5, e6⟩ := hR.rows l z es b z' h1 h2
    refine ⟨e1, e2, Me_mono hE _ _ _ _ (fun j u hj => hcell b j u hj) e3, ee, s, hsize b s e4, e5, unmark_eq e6 (hold b (lt_of_sizeAt e4))⟩
  · obtain ⟨h1, h2⟩ := hR.glob g cs hg
    exact ⟨im_keep hE h1, Mc_mono hE _ _ _ (fun j u hj => hcell g j u hj) h2⟩
  · have hF : ¬ (X.F b ∨ X.wr b) := fun h => hb.1.2 (by rw [hY.for_]; exact h)
    exact ⟨⟨hb.1.1, fun h => hF (.inl h)⟩, fun h => hF (.inr h)⟩

end Go.Pm
