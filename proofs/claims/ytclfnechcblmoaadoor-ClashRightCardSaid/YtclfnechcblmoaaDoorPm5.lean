/- Soundness, part 2: how a state goes on: a new block, a row written, a row moved, values let go. -/
import Derived.Test.YtclfnechcblmoaaDoorPm4
namespace Go.Pm
set_option linter.unusedVariables false
set_option linter.unusedSimpArgs false

mutual
theorem bel_mono {m n : Nat} (h : m ≤ n) : ∀ (v : AV), v.bel m = true → v.bel n = true
  | .ptr l _ _ _, hv => by simp only [AV.bel, decide_eq_true_eq] at hv ⊢; omega
  | .slc l _ _ _, hv => by simp only [AV.bel, decide_eq_true_eq] at hv ⊢; omega
  | .ip cs, hv => by simp only [AV.bel] at hv ⊢; exact belL_mono h cs hv
  | .lst cs, hv => by simp only [AV.bel] at hv ⊢; exact belL_mono h cs hv
  | .agg cs, hv => by simp only [AV.bel] at hv ⊢; exact belL_mono h cs hv
  | .tup cs, hv => by simp only [AV.bel] at hv ⊢; exact belL_mono h cs hv
  | .clo _ a b, hv => by simp only [AV.bel, Bool.and_eq_true] at hv ⊢; exact ⟨belL_mono h a hv.1, belL_mono h b hv.2⟩
  | .ifc _ v, hv => by simp only [AV.bel] at hv ⊢; exact bel_mono h v hv
  | .bad, _ | .int _ _, _ | .bool _, _ | .str _, _ | .nilp, _ | .nils, _ | .emp _, _ | .nilf, _ | .nili, _ => by simp [AV.bel]
theorem belL_mono {m n : Nat} (h : m ≤ n) : ∀ (cs : List AV), belL m cs = true → belL n cs = true
  | [], _ => by simp [belL]
  | c :: cs, hv => by simp only [belL, Bool.and_eq_true] at hv ⊢; exact ⟨bel_mono h c hv.1, belL_mono h cs hv.2⟩
end
mutual
/-- Whatever is matched refers to what is there. -/
theorem M_bel {X : Cx} : ∀ (v : AV) (u : Value), M X v u → v.bel X.H.length = true
  | .ptr l _ _ _, _, h => by unfold M at h; simp only [AV.bel, decide_eq_true_eq]; exact h.1.1
  | .slc l _ _ _, _, h => by unfold M at h; simp only [AV.bel, decide_eq_true_eq]; exact h.1.1
  | .ip cs, _, h => by unfold M at h; obtain ⟨b, o, _, _, hc⟩ := h; simp only [AV.bel]; exact Mc_bel cs b o hc
  | .lst [], _, h => by simp [AV.bel, belL]
  | .lst (e :: es), _, h => by
    unfold M at h; obtain ⟨A, c, _, _, _, he⟩ := h
    obtain ⟨b, o, z, _, _, _, hm⟩ := he (by simp)
    simp only [AV.bel]; exact Me_bel (e :: es) b o z hm
  | .agg cs, _, h => by unfold M at h; obtain ⟨vs, _, hs⟩ := h; simp only [AV.bel]; exact Ms_bel cs _ hs
  | .tup cs, _, h => by unfold M at h; obtain ⟨vs, _, hs⟩ := h; simp only [AV.bel]; exact Ms_bel cs _ hs
  | .clo _ a b, _, h => by
    unfold M at h; obtain ⟨fv, cv, _, h1, h2⟩ := h
    simp only [AV.bel, Bool.and_eq_true]; exact ⟨Ms_bel a _ h1, Ms_bel b _ h2⟩
  | .ifc _ v, _, h => by unfold M at h; obtain ⟨u, _, hu⟩ := h; simp only [AV.bel]; exact M_bel v u hu
  | .bad, _, _ | .int _ _, _, _ | .bool _, _, _ | .str _, _, _ | .nilp, _, _ | .nils, _, _ | .emp _, _, _ | .nilf, _, _ | .nili, _, _ => by simp [AV.bel]
theorem Mc_bel {X : Cx} : ∀ (cs : List AV) (b o : Nat), Mc X cs b o → belL X.H.length cs = true
  | [], _, _, _ => by simp [belL]
  | c :: cs, b, o, h => by
    unfold Mc at h
    obtain ⟨⟨u, _, hu⟩, hs⟩ := h
    simp only [belL, Bool.and_eq_true]; exact ⟨M_bel c u hu, Mc_bel cs b (o + 1) hs⟩
theorem Me_bel {X : Cx} : ∀ (es : List AV) (b o z : Nat), Me X es b o z → belL X.H.length es = true
  | [], _, _, _, _ => by simp [belL]
  | e :: es, b, o, z, h => by
    cases e with
    | agg cs =>
      unfold Me at h
      simp only [belL, Bool.and_eq_true]
      exact ⟨by simp only [AV.bel]; exact Mc_bel cs b o h.1.2, Me_bel es b (o + z) z h.2⟩
    | _ =>
      unfold Me at h
      obtain ⟨⟨_, u, _, hu⟩, hs⟩ := h
      simp only [belL, Bool.and_eq_true]
      exact ⟨M_bel _ u hu, Me_bel es b (o + z) z hs⟩
theorem Ms_bel {X : Cx} : ∀ (cs : List AV) (vs : List Value), Ms X cs vs → belL X.H.length cs = true
  | [], _, _ => by simp [belL]
  | c :: cs, vs, h => by
    unfold Ms at h
    obtain ⟨u, us, rfl, hu, hs⟩ := h
    simp only [belL, Bool.and_eq_true]; exact ⟨M_bel c u hu, Ms_bel cs us hs⟩
end

/-- What was written refers to nothing younger, but for the rows in E. -/
def EscI (H0 H : List AObj) (E : List Nat) : Prop :=
  ∀ l z es, H[l]? = some (.row z es) → l ∈ E ∨ ∀ m, l < m → (∀ z0 es0, H0[l]? = some (.row z0 es0) → belL m es0 = true) → belL m es = true
theorem EscI.refl (H : List AObj) : EscI H H [] := fun l z es h => .inr fun m hm hp => hp z es h
theorem EscI.trans {H0 H1 H2 : List AObj} {E F : List Nat} (h : EscI H0 H1 E) (k : EscI H1 H2 F) : EscI H0 H2 (F ++ E) := fun l z es hl => by
  rcases k l z es hl with hk | hk
  · exact .inl (by simp [hk])
  · by_cases hE : l ∈ E
    · exact .inl (by simp [hE])
    · refine .inr fun m hm hp => hk m hm fun z1 es1 h1 => ?_
      rcases h l z1 es1 h1 with hh | hh
      · exact absurd hh hE
      · exact hh m hm hp

/-- Another world of the same heap. -/
theorem world_ok {G : Nat → Option (List AV)} {X : Cx} (hR : Rel G X) {w' : World} (hh : w'.heap = X.w.heap) (ht : w'.tape = X.w.tape) (ho : w'.os = X.w.os) (hu : w'.output = X.w.output) :
    Rel G ⟨X.F, X.ι, X.H, w'⟩ ∧ Ext X ⟨X.F, X.ι, X.H, w'⟩ ∧ EscI X.H X.H [] := by
  have hc : ∀ b j, cellAt w' b j = cellAt X.w b j := fun b j => by unfold cellAt; rw [hh]
  have hs : ∀ b, sizeAt w' b = sizeAt X.w b := fun b => by unfold sizeAt; rw [hh]
  have hE : Ext X ⟨X.F, X.ι, X.H, w'⟩ :=
    ⟨by simp [hh], Nat.le_refl _, fun b _ _ => by simp [hh], fun b _ hw => hw, fun l t hl h => ⟨t, h, Nat.le_refl _, fun _ => ⟨fun hr => ⟨hr, fun b z hb => ⟨hb, hs b⟩⟩, fun h => h⟩⟩, ht, ho, hu, rfl⟩
  refine ⟨⟨fun l z es b z' h1 h2 => ?_, fun l l' b z z' h1 h2 h3 h4 => hR.inj l l' b z z' h1 h2 h3 h4, fun g cs hg => ?_, hR.wf, fb_keep hR hE, hR.gb⟩, hE, EscI.refl _⟩
  · obtain ⟨e1, e2, e3, ee, s, e4, e5, e6⟩ := hR.rows l z es b z' h1 h2
    refine ⟨e1, e2, Me_mono hE _ _ _ _ (fun j u hj => (hc b j).trans hj) e3, ee, s, (hs b).trans e4, e5, unmark_eq e6 (by show w'.heap[b]? = _; rw [hh])⟩
  · obtain ⟨h1, h2⟩ := hR.glob g cs hg
    exact ⟨im_keep hE h1, Mc_mono hE _ _ _ (fun j u hj => (hc g j).trans hj) h2⟩

def upd (ι : Nat → Option (Nat × Nat)) (l : Nat) (x : Nat × Nat) : Nat → Option (Nat × Nat) := fun k => if k = l then some x else ι k

/-- A new block becomes the block of row l: a new one (at the end), an empty one's, or one that grew. -/
theorem push_ok {G : Nat → Option (List AV)} {X : Cx} (hR : Rel G X) {w' : World} {c : Array Value} {el : TypeId} {fr : Nat × Nat}
    (hh : w'.heap = X.w.heap.push (.cells c el fr)) (ht : w'.tape = X.w.tape) (ho : w'.os = X.w.os) (hu : w'.output = X.w.output)
    {z : Nat} {es : List AV} (hz : 0 < z) (hc : ∀ i e, es[i]? = some e → e.cells.length = z ∧ ∃ vs, Ms X e.cells vs ∧ ∀ j v, vs[j]? = some v → c[i * z + j]? = some v)
    (hone : oneL es) (hs : es.length * z ≤ c.size) (hf : fr.1 = fr.2 ∨ c.size ≤ fr.1)
    {H' : List AObj} {l : Nat} (hl : H'[l]? = some (.row z es)) (hoth : ∀ k, k ≠ l → H'[k]? = X.H[k]?) (hlen : X.H.length ≤ H'.length)
    (hgrow : l < X.H.length → ∃ t0, lenOf X.H l = some t0 ∧ t0 < es.length) {E : List Nat} (hesc : EscI X.H H' E) :
    Rel G ⟨X.F, upd X.ι l (X.w.heap.size, z), H', w'⟩ ∧ Ext X ⟨X.F, upd X.ι l (X.w.heap.size, z), H', w'⟩ := by
  have hold : ∀ b, b < X.w.heap.size → w'.heap[b]? = X.w.heap[b]? := fun b hb => by
    rw [hh, Array.getElem?_push_lt hb]; simp [hb]
  have hnew : w'.heap[X.w.heap.size]? = some (.cells c el fr) := by rw [hh]; simp
  have hcell : ∀ b j u, cellAt X.w b j = some u → cellAt w' b j = some u := fun b j u h => by
    have hb := lt_of_cellAt h
    unfold cellAt at h ⊢; rw [hold b hb]; exact h
  have hsize : ∀ b s, sizeAt X.w b = some s → sizeAt w' b = some s := fun b s h => by
    have hb := lt_of_sizeAt h
    unfold sizeAt at h ⊢; rw [hold b hb]; exact h
  have hE : Ext X ⟨X.F, upd X.ι l (X.w.heap.size, z), H', w'⟩ := by
    refine ⟨by simp [hh], hlen, fun b hb _ => hold b hb, fun b hb hw => ?_, fun k t hk hkt => ?_, ht, ho, hu, rfl⟩
    · obtain ⟨k, z', hr, hi⟩ := hw
      simp only [upd] at hr hi
      by_cases e : k = l
      · simp only [e, if_true] at hi
        injection hi with hi; injection hi with hi _; omega
      · simp only [e, if_false] at hi
        rw [hoth k e] at hr
        exact ⟨k, z', hr, hi⟩
    · by_cases e : k = l
      · subst e
        obtain ⟨t0, h0, hlt⟩ := hgrow hk
        have : t = es.length := by
          simp only [lenOf, hl] at hkt; injection hkt with hkt; exact hkt.symm
        exact ⟨t0, h0, by omega, fun e => by omega⟩
      · have hk' : lenOf X.H k = some t := by simpa only [lenOf, hoth k e] using hkt
        refine ⟨t, hk', Nat.le_refl _, fun _ => ⟨fun hr => ⟨?_, fun b z' hb => ⟨by simp only [upd, e, if_false]; exact hb, ?_⟩⟩, fun hv => by rw [← hv]; exact hoth k e⟩⟩
        · show isRow H'[k]?
          rw [hoth k e]; exact hr
        · obtain ⟨z1, es1, he⟩ := isRow_some hr
          obtain ⟨_, _, _, _, s, hs, _⟩ := hR.rows k z1 es1 b z' he hb
          rw [hs]; exact hsize b s hs
  have hme : ∀ i e, es[i]? = some e → e.cells.length = z ∧ Mc ⟨X.F, upd X.ι l (X.w.heap.size, z), H', w'⟩ e.cells X.w.heap.size (0 + i * z) := fun i e he => by
    obtain ⟨h1, vs, h2, h3⟩ := hc i e he
    refine ⟨h1, Mc_of_vals (Ms_mono hE _ _ h2) fun j v hj => ?_⟩
    show cellAt w' _ _ = _
    unfold cellAt
    rw [hnew]
    simpa using h3 j v hj
  refine ⟨⟨fun k z1 es1 b z' h1 h2 => ?_, fun k k' b z1 z2 h1 h2 h3 h4 => ?_, fun g cs hg => ?_, fun k z1 es1 h1 => ?_, fb_keep hR hE, hR.gb⟩, hE⟩
  · simp only at h1 h2
    by_cases e : k = l
    · subst e
      rw [hl] at h1
      injection h1 with h1; injection h1 with e1 e2
      subst e1; subst e2
      simp only [upd, if_true] at h2
      injection h2 with h2; injection h2 with e3 e4
      subst e3; subst e4
      refine ⟨rfl, hz, Me_of_get hme, hone, c.size, by unfold sizeAt; rw [hnew], hs, ⟨c, el, fr.1, fr.2, hnew, hf⟩⟩
    · simp only [upd, e, if_false] at h2
      rw [hoth k e] at h1
      obtain ⟨e1, e2, e3, ee, s, e4, e5, e6⟩ := hR.rows k z1 es1 b z' h1 h2
      refine ⟨e1, e2, Me_mono hE _ _ _ _ (fun j u hj => hcell b j u hj) e3, ee, s, hsize b s e4, e5, unmark_eq e6 (hold b (lt_of_sizeAt e4))⟩
  · simp only [upd] at h1 h2 h3 h4
    have key : ∀ k z1, isRow H'[k]? → k ≠ l → X.ι k ≠ some (X.w.heap.size, z1) := fun k z1 hr e hi => by
      rw [hoth k e] at hr
      obtain ⟨z', es', he⟩ := isRow_some hr
      obtain ⟨_, _, _, _, s, hs, _⟩ := hR.rows k z' es' _ _ he hi
      have := lt_of_sizeAt hs
      omega
    by_cases e : k = l <;> by_cases e' : k' = l
    · omega
    · simp only [e, if_true] at h3
      simp only [e', if_false] at h4
      injection h3 with h3; injection h3 with h3 _
      exact absurd (h3 ▸ h4) (key k' _ h2 e')
    · simp only [e, if_false] at h3
      simp only [e', if_true] at h4
      injection h4 with h4; injection h4 with h4 _
      exact absurd (h4 ▸ h3) (key k _ h1 e)
    · simp only [e, e', if_false] at h3 h4
      rw [hoth k e] at h1
      rw [hoth k' e'] at h2
      exact hR.inj k k' b z1 z2 h1 h2 h3 h4
  · obtain ⟨h1, h2⟩ := hR.glob g cs hg
    exact ⟨im_keep hE h1, Mc_mono hE _ _ _ (fun j u hj => hcell g j u hj) h2⟩
  · simp only at h1
    by_cases e : k = l
    · subst e
      rw [hl] at h1
      injection h1 with h1; injection h1 with e1 e2
      subst e1; subst e2
      exact Me_bel _ _ _ _ (Me_of_get hme)
    · rw [hoth k e] at h1
      exact belL_mono hlen _ (hR.wf k z1 es1 h1)

end Go.Pm
