/- Soundness: the beginning of a row becomes a row of its own. -/
import Derived.Test.YtclfnechcblmoaaDoorPm15
namespace Go.Pm
set_option linter.unusedVariables false
set_option linter.unusedSimpArgs false
section
variable {G : Nat → Option (List AV)} {X : Cx}
theorem oneL_take {es : List AV} {k : Nat} (h : oneL es) : oneL (es.take k) := fun e he => h e (List.mem_of_mem_take he)
theorem belL_take {m : Nat} : ∀ {es : List AV} {k : Nat}, belL m es = true → belL m (es.take k) = true
  | [], k, _ => by simp [belL]
  | e :: es, 0, _ => by simp [belL]
  | e :: es, k + 1, h => by
    simp only [belL, Bool.and_eq_true, List.take] at h ⊢
    exact ⟨h.1, belL_take h.2⟩
theorem trim_ok {l k z : Nat} {es : List AV} {v : Value} (hR : Rel G X) (hl : X.H[l]? = some (.row z es)) (hk : k ≤ es.length) (hm : M X (.slc l 0 k es.length) v) :
    ∃ X' : Cx, X'.w = X.w ∧ X'.H = (X.H.set l .dead) ++ [.row z (es.take k)] ∧ Rel G X' ∧ Ext X X' ∧ EscI X.H X'.H [] ∧ M X' (.slc X.H.length 0 k k) v := by
  have hll : l < X.H.length := (List.getElem?_eq_some_iff.1 hl).1
  unfold M at hm
  obtain ⟨⟨_, h0⟩, _, h3⟩ := hm
  rcases h3 (by simp [lenOf, hl]) with ⟨hv, _⟩ | ⟨hr, A, c, b, z', s, hi, hv, a1, a2, a3, a4⟩
  · rw [hl] at hv; cases hv
  obtain ⟨e1, e2, e3, e4, s', e5, e6, e7⟩ := hR.rows l z es b z' hl hi
  subst e1
  have hlen : (X.H.set l .dead).length = X.H.length := by simp
  have hlt : ∀ j, j < X.H.length → ((X.H.set l .dead) ++ [AObj.row z' (es.take k)])[j]? = (X.H.set l .dead)[j]? := fun j hj => List.getElem?_append_left (by rw [hlen]; exact hj)
  have hne : ∀ j, j < X.H.length → j ≠ l → ((X.H.set l .dead) ++ [AObj.row z' (es.take k)])[j]? = X.H[j]? := fun j hj hjl => by
    rw [hlt j hj, List.getElem?_set_ne (Ne.symm hjl)]
  have heq : ((X.H.set l .dead) ++ [AObj.row z' (es.take k)])[l]? = some .dead := by
    rw [hlt l hll, List.getElem?_set_self hll]
  have hnew : ((X.H.set l .dead) ++ [AObj.row z' (es.take k)])[X.H.length]? = some (.row z' (es.take k)) := by
    rw [List.getElem?_append_right (by rw [hlen]; exact Nat.le_refl _), hlen]; simp
  have hge : ∀ j, X.H.length < j → ((X.H.set l .dead) ++ [AObj.row z' (es.take k)])[j]? = none := fun j hj => List.getElem?_eq_none (by simp; omega)
  have cases3 : ∀ j z1 es1, ((X.H.set l .dead) ++ [AObj.row z' (es.take k)])[j]? = some (AObj.row z1 es1) → (j = X.H.length ∧ z1 = z' ∧ es1 = es.take k) ∨ (j ≠ X.H.length ∧ j ≠ l ∧ X.H[j]? = some (.row z1 es1)) := fun j z1 es1 h => by
    rcases Nat.lt_trichotomy j X.H.length with hj | rfl | hj
    · by_cases hjl : j = l
      · subst hjl; rw [heq] at h; cases h
      · rw [hne j hj hjl] at h; exact .inr ⟨by omega, hjl, h⟩
    · rw [hnew] at h; injection h with h; injection h with h1 h2; exact .inl ⟨rfl, h1.symm, h2.symm⟩
    · rw [hge j hj] at h; cases h
  let X' : Cx := ⟨X.F, upd X.ι X.H.length (b, z'), (X.H.set l .dead) ++ [.row z' (es.take k)], X.w⟩
  have hup : ∀ j, j ≠ X.H.length → X'.ι j = X.ι j := fun j hj => by simp [X', upd, hj]
  have hup0 : X'.ι X.H.length = some (b, z') := by simp [X', upd]
  have hwr : ∀ b', X'.wr b' → X.wr b' := fun b' hw => by
    obtain ⟨j, z1, hr1, hi1⟩ := hw
    obtain ⟨z2, es2, h2⟩ := isRow_some hr1
    rcases cases3 j z2 es2 h2 with ⟨rfl, _, _⟩ | ⟨h4, _, h5⟩
    · rw [hup0] at hi1; injection hi1 with hi1; injection hi1 with hi1 _
      subst hi1
      exact ⟨l, z', hr, hi⟩
    · rw [hup j h4] at hi1
      exact ⟨j, z1, by rw [h5]; simp [isRow], hi1⟩
  have hE : Ext X X' := by
    refine ⟨Nat.le_refl _, by simp [X'], fun _ _ _ => rfl, fun b' _ hw => hwr b' hw, fun j t hj ht => ?_, rfl, rfl, rfl, rfl⟩
    by_cases hjl : j = l
    · subst hjl
      simp only [X', lenOf, heq] at ht; cases ht
    · have hg : X'.H[j]? = X.H[j]? := hne j hj hjl
      refine ⟨t, by simpa only [lenOf, hg] using ht, Nat.le_refl _, fun _ => ⟨fun hr1 => ⟨by rw [hg]; exact hr1, fun b' z1 h => ⟨by rw [hup j (by omega)]; exact h, rfl⟩⟩, fun hv1 => by rw [hg]; exact hv1⟩⟩
  refine ⟨X', rfl, rfl, ⟨fun j z1 es1 b1 z2 h1 h2 => ?_, fun j j' b1 z1 z2 h1 h2 h3 h4 => ?_, fun g cs hg => ?_, fun j z1 es1 h1 => ?_, fb_keep hR hE, hR.gb⟩, hE, fun j z1 es1 h1 => ?_, ?_⟩
  · rcases cases3 j z1 es1 h1 with ⟨rfl, rfl, rfl⟩ | ⟨h4, _, h5⟩
    · rw [hup0] at h2; injection h2 with h2; injection h2 with h2 h6
      subst h2; subst h6
      refine ⟨rfl, e2, Me_of_get fun i e he => ?_, oneL_take e4, s', e5, ?_, e7⟩
      · have hi' : i < k := by have := (List.getElem?_eq_some_iff.1 he).1; simp at this; omega
        rw [List.getElem?_take_of_lt hi'] at he
        obtain ⟨q1, q2⟩ := Me_get e3 he
        exact ⟨q1, Mc_mono hE _ _ _ (fun j u hj => hj) q2⟩
      · have : (es.take k).length * z1 ≤ es.length * z1 := Nat.mul_le_mul_right _ (by simp; omega)
        omega
    · rw [hup j h4] at h2
      obtain ⟨q1, q2, q3, q4, s1, q5, q6, q7⟩ := hR.rows j z1 es1 b1 z2 h5 h2
      exact ⟨q1, q2, Me_mono hE _ _ _ _ (fun j u hj => hj) q3, q4, s1, q5, q6, q7⟩
  · obtain ⟨y1, es1, g1⟩ := isRow_some h1
    obtain ⟨y2, es2, g2⟩ := isRow_some h2
    rcases cases3 j y1 es1 g1 with ⟨rfl, _, _⟩ | ⟨p1, p2, p3⟩ <;> rcases cases3 j' y2 es2 g2 with ⟨rfl, _, _⟩ | ⟨q1, q2, q3⟩
    · rfl
    · rw [hup0] at h3; injection h3 with h3; injection h3 with h3 _
      subst h3
      rw [hup j' q1] at h4
      exact absurd (hR.inj l j' b z' z2 hr (by rw [q3]; simp [isRow]) hi h4).symm q2
    · rw [hup0] at h4; injection h4 with h4; injection h4 with h4 _
      subst h4
      rw [hup j p1] at h3
      exact absurd (hR.inj l j b z' z1 hr (by rw [p3]; simp [isRow]) hi h3).symm p2
    · rw [hup j p1] at h3
      rw [hup j' q1] at h4
      exact hR.inj j j' b1 z1 z2 (by rw [p3]; simp [isRow]) (by rw [q3]; simp [isRow]) h3 h4
  · obtain ⟨h1, h2⟩ := hR.glob g cs hg
    exact ⟨im_keep hE h1, Mc_mono hE _ _ _ (fun j u hj => hj) h2⟩
  · have hle : X.H.length ≤ X'.H.length := hE.hlen
    rcases cases3 j z1 es1 h1 with ⟨_, _, rfl⟩ | ⟨_, _, p3⟩
    · exact belL_mono hle _ (belL_take (hR.wf l z' es hl))
    · exact belL_mono hle _ (hR.wf j z1 es1 p3)
  · rcases cases3 j z1 es1 h1 with ⟨rfl, _, rfl⟩ | ⟨_, _, p3⟩
    · exact .inr fun m hm' _ => belL_mono (Nat.le_of_lt hm') _ (belL_take (hR.wf l z' es hl))
    · exact .inr fun m hm' hp => hp z1 es1 p3
  · unfold M
    refine ⟨⟨by simp [X'], A, k, c, hv⟩, fun t ht => ?_, fun _ => .inr ⟨?_, A, c, b, z', s, hup0, hv, ?_, a2, a3, ?_⟩⟩
    · simp only [X', lenOf, hnew, Option.some.injEq] at ht; subst ht; simp; omega
    · show isRow X'.H[X.H.length]?
      simp only [X', hnew, isRow]
    · omega
    · simpa using a4
end
end Go.Pm
