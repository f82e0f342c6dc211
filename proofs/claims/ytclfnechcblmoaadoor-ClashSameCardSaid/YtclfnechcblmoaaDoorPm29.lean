/- Soundness: a mark behind a row's last cell. -/
import Derived.Test.YtclfnechcblmoaaDoorPm14
namespace Go.Pm
set_option linter.unusedVariables false
set_option linter.unusedSimpArgs false
section
variable {P : Program} {G : Nat → Option (List AV)} {X : Cx}
theorem freeze_at (w : World) (b s : Nat) (b' : Nat) : (w.freeze ⟨b, s, none⟩ 1).heap[b']? = if b' = b then (w.heap[b]?).map (fun o => match o with
    | .cells c e (lo, hi) => .cells c e (if lo == hi then (s, s + 1) else (min lo s, max hi (s + 1)))
    | o => o) else w.heap[b']? := by
  unfold World.freeze
  simp only [Nat.succ_ne_zero, if_false, Array.getElem?_modify]
  by_cases h : b' = b
  · subst h; simp only [if_true]; rfl
  · simp only [h, Ne.symm h, if_false]
theorem mark_ok {l z b s : Nat} {es : List AV} (hR : Rel G X) (hl : X.H[l]? = some (.row z es)) (hi : X.ι l = some (b, z)) (hs : sizeAt X.w b = some s) :
    Rel G ⟨X.F, X.ι, X.H, X.w.freeze ⟨b, s, none⟩ 1⟩ ∧ Ext X ⟨X.F, X.ι, X.H, X.w.freeze ⟨b, s, none⟩ 1⟩ := by
  obtain ⟨_, _, _, _, _, _, _, hun⟩ := hR.rows l z es b z hl hi
  obtain ⟨c, e, lo, hi', hb, hlo⟩ := hun
  have hcs : c.size = s := by
    unfold sizeAt at hs; rw [hb] at hs; simpa using hs
  have hat := freeze_at X.w b s
  have hatb : (X.w.freeze ⟨b, s, none⟩ 1).heap[b]? = some (.cells c e (if lo == hi' then (s, s + 1) else (min lo s, max hi' (s + 1)))) := by rw [hat b, if_pos rfl, hb]; rfl
  have hcell : ∀ b' j, cellAt (X.w.freeze ⟨b, s, none⟩ 1) b' j = cellAt X.w b' j := fun b' j => by
    unfold cellAt
    by_cases h : b' = b
    · subst h; rw [hatb, hb]
    · rw [hat b', if_neg h]
  have hsize : ∀ b', sizeAt (X.w.freeze ⟨b, s, none⟩ 1) b' = sizeAt X.w b' := fun b' => by
    unfold sizeAt
    by_cases h : b' = b
    · subst h; rw [hatb, hb]
    · rw [hat b', if_neg h]
  have hunm : ∀ b', unmark X.w b' → unmark (X.w.freeze ⟨b, s, none⟩ 1) b' := fun b' h => by
    by_cases hbb : b' = b
    · subst hbb
      by_cases hlh : lo = hi'
      · exact ⟨c, e, s, s + 1, by rw [hatb]; simp [hlh], .inr (by omega)⟩
      · have hle : c.size ≤ lo := hlo.resolve_left hlh
        exact ⟨c, e, min lo s, max hi' (s + 1), by rw [hatb]; simp [hlh], .inr (by omega)⟩
    · exact unmark_eq h (by rw [hat b', if_neg hbb])
  have hwr : X.wr b := ⟨l, z, by rw [hl]; simp [isRow], hi⟩
  have hsz : (X.w.freeze ⟨b, s, none⟩ 1).heap.size = X.w.heap.size := by
    unfold World.freeze
    simp
  have hE : Ext X ⟨X.F, X.ι, X.H, X.w.freeze ⟨b, s, none⟩ 1⟩ := by
    refine ⟨by rw [hsz]; exact Nat.le_refl _, Nat.le_refl _, fun b' _ hn => ?_, fun b' _ hw => hw, fun l t hl h => ⟨t, h, Nat.le_refl _, fun _ => ⟨fun hr => ⟨hr, fun b z hb => ⟨hb, hsize b⟩⟩, fun h => h⟩⟩, rfl, rfl, rfl, rfl⟩
    show (X.w.freeze ⟨b, s, none⟩ 1).heap[b']? = _
    rw [hat b', if_neg (fun (h : b' = b) => hn (by rw [h]; exact hwr))]
  refine ⟨⟨fun l z es b z' h1 h2 => ?_, fun l l' b z z' h1 h2 h3 h4 => hR.inj l l' b z z' h1 h2 h3 h4, fun g cs hg => ?_, hR.wf, fb_keep hR hE, hR.gb⟩, hE⟩
  · obtain ⟨e1, e2, e3, ee, s, e4, e5, e6⟩ := hR.rows l z es b z' h1 h2
    exact ⟨e1, e2, Me_mono hE _ _ _ _ (fun j u hj => (hcell b j).trans hj) e3, ee, s, (hsize b).trans e4, e5, hunm b e6⟩
  · obtain ⟨h1, h2⟩ := hR.glob g cs hg
    exact ⟨im_keep hE h1, Mc_mono hE _ _ _ (fun j u hj => (hcell g j).trans hj) h2⟩

theorem cvR_ok {t e : TypeId} {x v : AV} {q : Value} (hR : Rel G X) (ht : P.underlying t = some (.slice e)) (he : P.underlying e = some (.int .u8)) (hx : M X x q) (h : cvR x X.H = some v) :
    ∃ X', (convert t t q).run P X.w = .ok q X'.w ∧ X'.H = X.H ∧ Rel G X' ∧ Ext X X' ∧ M X' v q := by
  unfold cvR at h
  split at h
  · rename_i l off n tot
    split at h
    · rename_i z es hl
      split at h
      · rename_i hc
        injection h with h; subst h
        have hx' := hx
        unfold M at hx
        obtain ⟨_, _, k3⟩ := hx
        rcases k3 (by simp [lenOf, hl, hc.1]) with ⟨hv, _⟩ | ⟨hr, A, c, b, z1, s, hi, hv, a1, a2, a3, a4⟩
        · rw [hl] at hv; cases hv
        · obtain ⟨rfl, _⟩ := hR.rows l z es b z1 hl hi
          obtain ⟨hA, _⟩ := a4.resolve_left (by omega)
          obtain ⟨k1, k2⟩ := mark_ok hR hl hi a3
          refine ⟨⟨X.F, X.ι, X.H, X.w.freeze ⟨b, s, none⟩ 1⟩, ?_, rfl, k1, k2, M_mono k2 _ _ hx'⟩
          subst hv; subst hA
          obtain ⟨ty, hsh⟩ : ∃ ty, X.w.shape? b = some (ty, s) := by
            unfold sizeAt at a3
            unfold World.shape?
            split at a3
            · rename_i c' e' f' hb
              rw [hb]
              simp only [Option.some.injEq] at a3
              exact ⟨e', by rw [← a3]⟩
            · cases a3
          simp [convert, run_underlying ht, run_underlying he, markStringish, hsh]
      · cases h
    · cases h
  · cases h
end
end Go.Pm
