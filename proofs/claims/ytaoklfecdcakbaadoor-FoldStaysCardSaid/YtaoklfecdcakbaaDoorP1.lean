/- A part of the proof: what the functions of the program answer, as plain lists and numbers. -/
import Derived.Laws.IdiomCopy
import Derived.ChangeKeysEq
import Derived.MapKept
import Derived.Test.YtaoklfecdcakbaaDoorP0
namespace Go.Pm
set_option linter.unusedVariables false
set_option linter.unusedSimpArgs false
theorem setCells_facts (b : Nat) : ∀ (vs : List Value) (o : Nat) (w : World),
    (w.setCells b o vs).heap.size = w.heap.size ∧ (∀ b', sizeAt (w.setCells b o vs) b' = sizeAt w b') ∧
    (∀ b', b' ≠ b → (w.setCells b o vs).heap[b']? = w.heap[b']?) ∧
    (w.setCells b o vs).tape = w.tape ∧ (w.setCells b o vs).os = w.os ∧ (w.setCells b o vs).output = w.output
  | [], o, w => ⟨rfl, fun _ => rfl, fun _ _ => rfl, rfl, rfl, rfl⟩
  | v :: vs, o, w => by
    obtain ⟨h1, h2, h3, h4, h5, h6⟩ := setCells_facts b vs (o + 1) (w.setCell ⟨b, o, none⟩ v)
    have e : w.setCells b o (v :: vs) = (w.setCell ⟨b, o, none⟩ v).setCells b (o + 1) vs := rfl
    rw [e]
    refine ⟨h1.trans (by simp), fun b' => (h2 b').trans ?_, fun b' hb => (h3 b' hb).trans ?_, h4, h5, h6⟩
    · unfold sizeAt World.setCell
      simp only [Array.getElem?_modify]
      by_cases hb : b = b'
      · subst hb
        simp only [if_true]
        cases hh : w.heap[b]? with
        | none => rfl
        | some ob => cases ob <;> simp
      · simp [hb]
    · unfold World.setCell
      simp only [Array.getElem?_modify]
      simp [Ne.symm hb]
theorem isSome_cellAt {w : World} {b s j : Nat} (hs : sizeAt w b = some s) (h : j < s) : (cellAt w b j).isSome = true := by
  unfold sizeAt at hs
  unfold cellAt
  cases hb : w.heap[b]? with
  | none => rw [hb] at hs; cases hs
  | some o =>
    rw [hb] at hs
    cases o <;> simp at hs ⊢
    omega
theorem cellAt_setCells_in {w : World} {b o : Nat} {vs : List Value} {s : Nat} (hs : sizeAt w b = some s) (hf : o + vs.length ≤ s) {j : Nat} (hj : j < vs.length) :
    cellAt (w.setCells b o vs) b (o + j) = vs[j]? := by
  have := World.cell?_setCells_in b vs o w (fun j hj => ?_) j hj
  · rw [cell?_plain] at this
    rw [this, List.getElem?_eq_getElem hj]
  · rw [cell?_plain]
    rename_i j' hj'
    exact isSome_cellAt hs (by omega)
theorem cellAt_setCells_out {w : World} {b o : Nat} {vs : List Value} {b' j : Nat} (h : b' = b → j < o ∨ o + vs.length ≤ j) :
    cellAt (w.setCells b o vs) b' j = cellAt w b' j := by
  have := World.cell?_setCells_out b vs o w ⟨b', j, none⟩ (fun e _ => h e)
  rwa [cell?_plain, cell?_plain] at this

theorem Ms_length {X : Cx} : ∀ {cs : List AV} {vs : List Value}, Ms X cs vs → cs.length = vs.length
  | [], _, h => by unfold Ms at h; simp [h]
  | _ :: _, _, h => by unfold Ms at h; obtain ⟨u, us, rfl, _, h⟩ := h; simp [Ms_length h]
theorem Ms_get {X : Cx} : ∀ {cs : List AV} {vs : List Value}, Ms X cs vs → ∀ {i : Nat} {c : AV}, cs[i]? = some c → ∃ u, vs[i]? = some u ∧ M X c u
  | [], _, h, i, c, hc => by simp at hc
  | d :: ds, _, h, i, c, hc => by
    unfold Ms at h
    obtain ⟨u, us, rfl, hd, h⟩ := h
    cases i with
    | zero => simp at hc; subst hc; exact ⟨u, rfl, hd⟩
    | succ i => simp at hc ⊢; exact Ms_get h hc
theorem Ms_set {X : Cx} : ∀ {cs : List AV} {vs : List Value}, Ms X cs vs → ∀ (i : Nat) {c : AV} {u : Value}, M X c u → Ms X (cs.set i c) (vs.set i u)
  | [], _, h, i, c, u, hc => by unfold Ms at h; subst h; simp [Ms]
  | d :: ds, _, h, i, c, u, hc => by
    unfold Ms at h
    obtain ⟨u', us, rfl, hd, h⟩ := h
    cases i with
    | zero => simp only [List.set]; unfold Ms; exact ⟨u, us, rfl, hc, h⟩
    | succ i => simp only [List.set]; unfold Ms; exact ⟨u', _, rfl, hd, Ms_set h i hc⟩
theorem Ms_append {X : Cx} : ∀ {cs ds : List AV} {vs us : List Value}, Ms X cs vs → Ms X ds us → Ms X (cs ++ ds) (vs ++ us)
  | [], _, _, _, h, k => by unfold Ms at h; subst h; simpa using k
  | c :: cs, ds, _, us, h, k => by
    unfold Ms at h
    obtain ⟨u, us', rfl, hd, h⟩ := h
    simp only [List.cons_append]
    unfold Ms
    exact ⟨u, _, rfl, hd, Ms_append h k⟩
theorem Ms_replicate {X : Cx} {c : AV} {u : Value} (h : M X c u) : ∀ n, Ms X (List.replicate n c) (List.replicate n u)
  | 0 => by simp [Ms]
  | n + 1 => by rw [List.replicate_succ, List.replicate_succ]; unfold Ms; exact ⟨u, _, rfl, h, Ms_replicate h n⟩
theorem Ms_map {X : Cx} {α : Type} {f : α → AV} {g : α → Value} : ∀ {l : List α}, (∀ x ∈ l, M X (f x) (g x)) → Ms X (l.map f) (l.map g)
  | [], _ => by simp [Ms]
  | x :: l, h => by simp only [List.map]; unfold Ms; exact ⟨_, _, rfl, h x (by simp), Ms_map fun y hy => h y (by simp [hy])⟩
theorem Ms_take {X : Cx} : ∀ {cs : List AV} {vs : List Value}, Ms X cs vs → ∀ n, Ms X (cs.take n) (vs.take n)
  | [], _, h, n => by unfold Ms at h; subst h; simp [Ms]
  | c :: cs, _, h, n => by
    unfold Ms at h
    obtain ⟨u, us, rfl, hd, h⟩ := h
    cases n with
    | zero => simp [Ms]
    | succ n => simp only [List.take]; unfold Ms; exact ⟨u, _, rfl, hd, Ms_take h n⟩
theorem Ms_drop {X : Cx} : ∀ {cs : List AV} {vs : List Value}, Ms X cs vs → ∀ n, Ms X (cs.drop n) (vs.drop n)
  | [], _, h, n => by unfold Ms at h; subst h; simp [Ms]
  | c :: cs, _, h, n => by
    have h0 := h
    unfold Ms at h
    obtain ⟨u, us, rfl, hd, h⟩ := h
    cases n with
    | zero => simpa using h0
    | succ n => simpa using Ms_drop h n
theorem Mc_drop {X : Cx} : ∀ {cs : List AV} {b o : Nat}, Mc X cs b o → ∀ n, n ≤ cs.length → Mc X (cs.drop n) b (o + n)
  | [], b, o, h, n, hn => by simp [Mc]
  | c :: cs, b, o, h, n, hn => by
    cases n with
    | zero => simpa using h
    | succ n =>
      unfold Mc at h
      have := Mc_drop h.2 n (by simp at hn; omega)
      simpa [Nat.add_assoc, Nat.add_comm 1 n] using this
theorem Mc_take {X : Cx} : ∀ {cs : List AV} {b o : Nat}, Mc X cs b o → ∀ n, Mc X (cs.take n) b o
  | [], b, o, h, n => by simp [Mc]
  | c :: cs, b, o, h, n => by
    cases n with
    | zero => simp [Mc]
    | succ n => unfold Mc at h; simp only [List.take]; unfold Mc; exact ⟨h.1, Mc_take h.2 n⟩
/-- The cells as values. -/
theorem Mc_vals {X : Cx} : ∀ {cs : List AV} {b o : Nat}, Mc X cs b o → ∃ vs : List Value, vs.length = cs.length ∧ Ms X cs vs ∧ ∀ j v, vs[j]? = some v → cellAt X.w b (o + j) = some v
  | [], b, o, h => ⟨[], rfl, by simp [Ms], by simp⟩
  | c :: cs, b, o, h => by
    unfold Mc at h
    obtain ⟨⟨u, hu, hc⟩, hs⟩ := h
    obtain ⟨vs, hl, hm, hv⟩ := Mc_vals hs
    refine ⟨u :: vs, by simp [hl], by unfold Ms; exact ⟨u, vs, rfl, hc, hm⟩, fun j v hj => ?_⟩
    cases j with
    | zero => simp at hj; subst hj; exact hu
    | succ j => simp at hj; have := hv j v hj; rwa [show o + 1 + j = o + (j + 1) by omega] at this
theorem Mc_of_vals {X : Cx} : ∀ {cs : List AV} {vs : List Value} {b o : Nat}, Ms X cs vs → (∀ j v, vs[j]? = some v → cellAt X.w b (o + j) = some v) → Mc X cs b o
  | [], _, b, o, h, hv => by simp [Mc]
  | c :: cs, _, b, o, h, hv => by
    unfold Ms at h
    obtain ⟨u, us, rfl, hc, h⟩ := h
    unfold Mc
    refine ⟨⟨u, by simpa using hv 0 u rfl, hc⟩, Mc_of_vals h fun j v hj => ?_⟩
    have := hv (j + 1) v (by simpa using hj)
    rwa [show o + (j + 1) = o + 1 + j by omega] at this

/-- An element's own cells, in any of the two spellings. -/
theorem Me_cons {X : Cx} {e : AV} {es : List AV} {b o z : Nat} (h : Me X (e :: es) b o z) : (e.cells.length = z ∧ Mc X e.cells b o) ∧ Me X es b (o + z) z := by
  cases e with
  | agg cs => unfold Me at h; exact ⟨h.1, h.2⟩
  | _ =>
    unfold Me at h
    obtain ⟨⟨hz, hu⟩, hs⟩ := h
    exact ⟨⟨by simp [AV.cells, hz], by simp only [AV.cells]; unfold Mc; exact ⟨hu, by simp [Mc]⟩⟩, hs⟩
theorem Me_mk {X : Cx} {e : AV} {es : List AV} {b o z : Nat} (h1 : e.cells.length = z) (h2 : Mc X e.cells b o) (h : Me X es b (o + z) z) : Me X (e :: es) b o z := by
  cases e with
  | agg cs => unfold Me; exact ⟨⟨h1, h2⟩, h⟩
  | _ => unfold Me; simp only [AV.cells] at h1 h2; unfold Mc at h2; exact ⟨⟨h1.symm, h2.1⟩, h⟩
theorem Me_get {X : Cx} : ∀ {es : List AV} {b o z : Nat}, Me X es b o z → ∀ {i : Nat} {e : AV}, es[i]? = some e → e.cells.length = z ∧ Mc X e.cells b (o + i * z)
  | [], b, o, z, h, i, e, he => by simp at he
  | d :: ds, b, o, z, h, i, e, he => by
    have hc := Me_cons h
    cases i with
    | zero => simp at he; subst he; simpa using hc.1
    | succ i =>
      simp at he
      have := Me_get hc.2 he
      rwa [show o + z + i * z = o + (i + 1) * z by rw [Nat.succ_mul]; omega] at this
theorem Me_of_get {X : Cx} : ∀ {es : List AV} {b o z : Nat}, (∀ i e, es[i]? = some e → e.cells.length = z ∧ Mc X e.cells b (o + i * z)) → Me X es b o z
  | [], b, o, z, h => by simp [Me]
  | d :: ds, b, o, z, h => by
    have h0 := h 0 d rfl
    refine Me_mk h0.1 (by simpa using h0.2) (Me_of_get fun i e he => ?_)
    have := h (i + 1) e (by simpa using he)
    rwa [show o + (i + 1) * z = o + z + i * z by rw [Nat.succ_mul]; omega] at this

/-- A block none of whose cells is marked. -/
def unmark (w : World) (b : Nat) : Prop := ∃ c e lo hi, w.heap[b]? = some (.cells c e (lo, hi)) ∧ (lo = hi ∨ c.size ≤ lo)
theorem unmark_frozen {w : World} {b s : Nat} (h : unmark w b) (hs : sizeAt w b = some s) (j : Nat) (hj : j < s) : w.frozen? ⟨b, j, none⟩ = false := by
  obtain ⟨c, e, lo, hi, h1, h2⟩ := h
  unfold sizeAt at hs
  rw [h1] at hs
  simp only [Option.some.injEq] at hs
  unfold World.frozen?
  simp only [h1]
  rcases h2 with rfl | h2
  · simp only [Bool.and_eq_false_iff, decide_eq_false_iff_not]; omega
  · simp only [Bool.and_eq_false_iff, decide_eq_false_iff_not]; omega
theorem unmark_eq {w w' : World} {b : Nat} (h : unmark w b) (he : w'.heap[b]? = w.heap[b]?) : unmark w' b := by
  obtain ⟨c, e, lo, hi, h1, h2⟩ := h
  exact ⟨c, e, lo, hi, he.trans h1, h2⟩
theorem unmark_setCell {w : World} {b : Nat} {a : Addr} {v : Value} (h : unmark w b) : unmark (w.setCell a v) b := by
  obtain ⟨c, e, lo, hi, h1, h2⟩ := h
  unfold unmark World.setCell
  simp only [Array.getElem?_modify]
  by_cases hb : a.block = b
  · subst hb
    simp only [if_true, h1, Option.map_some]
    split
    · exact ⟨c, e, lo, hi, rfl, h2⟩
    · exact ⟨c.setIfInBounds a.off v, e, lo, hi, rfl, by simpa using h2⟩
  · simp only [hb, if_false]
    exact ⟨c, e, lo, hi, h1, h2⟩
theorem unmark_setCells {b' : Nat} {b : Nat} : ∀ (vs : List Value) (o : Nat) (w : World), unmark w b' → unmark (w.setCells b o vs) b'
  | [], o, w, h => h
  | v :: vs, o, w, h => unmark_setCells vs (o + 1) _ (unmark_setCell h)

/-- a key, as Go has it -/
def keyV : AV → Option Value
  | .int k n => some (.int k n)
  | .str s => some (.string s)
  | _ => none
/-- a map's entries -/
def EntM (X : Cx) : List (AV × AV) → List MapEntry → Prop
  | [], cs => cs = []
  | p :: es, cs => ∃ e r, cs = e :: r ∧ keyV p.1 = some e.key ∧ M X p.2 e.val ∧ EntM X es r
def MapOk (X : Cx) (es : List (AV × AV)) (b : Nat) : Prop :=
  ∃ cs clock, X.w.heap[b]? = some (.map cs clock) ∧ EntM X es cs.toList ∧ MapKept.Stamped cs clock ∧ cs.size ≤ 2^40
theorem EntM_map {X Y : Cx} (h : ∀ (v : AV) (u : Value), v.bel 0 = true → M X v u → M Y v u) : ∀ {es : List (AV × AV)} {cs : List MapEntry}, (∀ p ∈ es, p.2.bel 0 = true) → EntM X es cs → EntM Y es cs
  | [], _, _, hm => by unfold EntM at hm ⊢; exact hm
  | p :: es, _, hb, hm => by
    unfold EntM at hm ⊢
    obtain ⟨e, r, rfl, h1, h2, h3⟩ := hm
    exact ⟨e, r, rfl, h1, h _ _ (hb p (by simp)) h2, EntM_map h (fun q hq => hb q (by simp [hq])) h3⟩
theorem EntM_length {X : Cx} : ∀ {es : List (AV × AV)} {cs : List MapEntry}, EntM X es cs → es.length = cs.length
  | [], _, hm => by unfold EntM at hm; simp [hm]
  | p :: es, _, hm => by
    unfold EntM at hm
    obtain ⟨e, r, rfl, _, _, h3⟩ := hm
    simp [EntM_length h3]
/-- The world is as the abstract heap tells. -/
structure Rel (G : Nat → Option (List AV)) (X : Cx) : Prop where
  rows : ∀ l z es b z', X.H[l]? = some (.row z es) → X.ι l = some (b, z') → z' = z ∧ 0 < z ∧ Me X es b 0 z ∧ oneL es ∧
    ∃ s, sizeAt X.w b = some s ∧ es.length * z ≤ s ∧ unmark X.w b
  inj : ∀ l l' b z z', isOwn X.H[l]? → isOwn X.H[l']? → X.ι l = some (b, z) → X.ι l' = some (b, z') → l = l'
  maps : (∀ l es b z, X.H[l]? = some (.mp es) → X.ι l = some (b, z) → MapOk X es b) ∧ ∀ (l : Nat) (es : List (AV × AV)), X.H[l]? = some (AObj.mp es) → ∀ p ∈ es, p.2.bel 0 = true
  glob : ∀ g cs, G g = some cs → X.im g ∧ Mc X cs g 0
  wf : ∀ (l z : Nat) (es : List AV), X.H[l]? = some (AObj.row z es) → belL X.H.length es = true
  fb : ∀ b k, X.F b k → b < X.w.heap.size ∧ ¬ X.wr b
  gb : ∀ g cs, G g = some cs → belL 0 cs = true

theorem fb_keep {G : Nat → Option (List AV)} {X Y : Cx} (hR : Rel G X) (hE : Ext X Y) : ∀ b k, Y.F b k → b < Y.w.heap.size ∧ ¬ Y.wr b := fun b k hb =>
  have h := hR.fb b k (hE.for_ ▸ hb)
  ⟨Nat.lt_of_lt_of_le h.1 hE.size, fun hw => h.2 (hE.wr b h.1 hw)⟩

theorem isMp_some {o : Option AObj} (h : isMp o) : ∃ es, o = some (.mp es) := by
  unfold isMp at h
  split at h
  · exact ⟨_, rfl⟩
  · exact h.elim
theorem maps_keep {G : Nat → Option (List AV)} {X Y : Cx} (hR : Rel G X) (hE : Ext X Y) (hm : ∀ (l : Nat) (es : List (AV × AV)), Y.H[l]? = some (AObj.mp es) → X.H[l]? = some (AObj.mp es))
    (hh : ∀ (b : Nat) (cs : Array MapEntry) (c : Nat), X.w.heap[b]? = some (.map cs c) → Y.w.heap[b]? = some (.map cs c)) :
    (∀ l es b z, Y.H[l]? = some (.mp es) → Y.ι l = some (b, z) → MapOk Y es b) ∧ ∀ (l : Nat) (es : List (AV × AV)), Y.H[l]? = some (AObj.mp es) → ∀ p ∈ es, p.2.bel 0 = true := by
  refine ⟨fun l es b z h1 h2 => ?_, fun l es h1 => hR.maps.2 l es (hm l es h1)⟩
  have h3 := hm l es h1
  have hl : l < X.H.length := (List.getElem?_eq_some_iff.1 h3).1
  have h4 := (hE.mps l hl (by rw [h1]; simp [isMp])).2
  rw [h4] at h2
  obtain ⟨cs, c, k1, k2, k3, k4⟩ := hR.maps.1 l es b z h3 h2
  exact ⟨cs, c, hh b cs c k1, EntM_map (fun v u _ hv => M_mono hE v u hv) (hR.maps.2 l es h3) k2, k3, k4⟩
theorem isRow_some {o : Option AObj} (h : isRow o) : ∃ z es, o = some (.row z es) := by
  unfold isRow at h
  split at h
  · exact ⟨_, _, rfl⟩
  · exact h.elim
theorem lt_of_sizeAt {w : World} {b s : Nat} (h : sizeAt w b = some s) : b < w.heap.size := by
  unfold sizeAt at h
  split at h
  · rename_i c e f hb; exact (Array.getElem?_eq_some_iff.1 hb).1
  · cases h
theorem Rel.wr_lt {G} {X : Cx} (h : Rel G X) {b : Nat} (hb : X.wr b) : b < X.w.heap.size := by
  obtain ⟨l, z, hr, hi⟩ := hb
  rcases hr with hr | hr
  · obtain ⟨z', es, he⟩ := isRow_some hr
    obtain ⟨_, _, _, _, s, hs, _⟩ := h.rows l z' es b z he hi
    exact lt_of_sizeAt hs
  · obtain ⟨es, he⟩ := isMp_some hr
    obtain ⟨cs, c, k1, _⟩ := h.maps.1 l es b z he hi
    exact (Array.getElem?_eq_some_iff.1 k1).1

theorem M_ofVal1 (X : Cx) (v : Value) : M X (ofVal1 v) v := by
  cases v with
  | pointer a => cases a <;> simp [ofVal1, M]
  | map a => cases a <;> simp [ofVal1, M]
  | slice a l c =>
    cases a with
    | none => cases l <;> cases c <;> simp [ofVal1, M]
    | some a => simp [ofVal1, M]
  | tuple vs =>
    simp only [ofVal1]
    split
    · rename_i h
      unfold M; exact ⟨vs, rfl, by simp [Ms, Array.eq_empty_of_size_eq_zero h]⟩
    · simp [M]
  | _ => simp [ofVal1, M]
theorem M_ofVal (X : Cx) (v : Value) : M X (ofVal v) v := by
  unfold ofVal
  split
  · rename_i cs
    unfold M
    exact ⟨cs, rfl, by simpa using Ms_map (f := ofVal1) (g := id) (fun x _ => M_ofVal1 X x)⟩
  · exact M_ofVal1 X v
theorem evA_ok {G} {X : Cx} (hR : Rel G X) {T : List AV} {a : Act} (hF : Ms X T a.tmps.toList) (x : Operand) : M X (evA G T x) (a.eval x) := by
  cases x with
  | tmp t =>
    simp only [evA, Act.eval]
    have hl := Ms_length hF
    by_cases h : t < T.length
    · obtain ⟨u, hu, hm⟩ := Ms_get hF (List.getElem?_eq_getElem h)
      rw [Array.getElem?_toList] at hu
      rw [show T.getD t (.tup []) = T[t] by simp [List.getD, List.getElem?_eq_getElem h], show a.tmps.getD t undef = u by rw [Array.getD_eq_getD_getElem?, hu]; rfl]
      exact hm
    · have h3 : a.tmps.size ≤ t := by
        have h2 : a.tmps.toList.length = a.tmps.size := Array.length_toList
        have h4 : T.length ≤ t := Nat.le_of_not_lt h
        omega
      rw [show T.getD t (.tup []) = .tup [] by simp [List.getD, List.getElem?_eq_none (Nat.le_of_not_lt h)],
        show a.tmps.getD t undef = undef by rw [Array.getD_eq_getD_getElem?, Array.getElem?_eq_none h3]; rfl]
      unfold M
      exact ⟨#[], rfl, by simp [Ms]⟩
  | const v => exact M_ofVal X v
  | global g =>
    simp only [evA, Act.eval]
    cases hg : G g with
    | none => simp [M]
    | some cs =>
      simp only []
      unfold M
      obtain ⟨h1, h2⟩ := hR.glob g cs hg
      exact ⟨g, 0, rfl, h1, h2⟩
  | func f => simp only [evA, Act.eval]; unfold M; exact ⟨#[], #[], rfl, by simp [Ms], by simp [Ms]⟩
theorem putA_ok {X : Cx} {T : List AV} {a : Act} (hF : Ms X T a.tmps.toList) (d : Option Tmp) {v : AV} {u : Value} (h : M X v u) : Ms X (putA T d v) (a.put d u).tmps.toList := by
  cases d with
  | none => exact hF
  | some d => simp only [putA, Act.put, Array.toList_setIfInBounds]; exact Ms_set hF d h

end Go.Pm
namespace Go.Pm
set_option linter.unusedVariables false
set_option linter.unusedSimpArgs false
mutual
theorem bel_mono {m n : Nat} (h : m ≤ n) : ∀ (v : AV), v.bel m = true → v.bel n = true
  | .ptr l _ _ _, hv => by simp only [AV.bel, decide_eq_true_eq] at hv ⊢; omega
  | .slc l _ _ _, hv => by simp only [AV.bel, decide_eq_true_eq] at hv ⊢; omega
  | .mp l, hv => by simp only [AV.bel, decide_eq_true_eq] at hv ⊢; omega
  | .ip cs, hv => by simp only [AV.bel] at hv ⊢; exact belL_mono h cs hv
  | .lst cs, hv => by simp only [AV.bel] at hv ⊢; exact belL_mono h cs hv
  | .agg cs, hv => by simp only [AV.bel] at hv ⊢; exact belL_mono h cs hv
  | .tup cs, hv => by simp only [AV.bel] at hv ⊢; exact belL_mono h cs hv
  | .clo _ a b, hv => by simp only [AV.bel, Bool.and_eq_true] at hv ⊢; exact ⟨belL_mono h a hv.1, belL_mono h b hv.2⟩
  | .ifc _ v, hv => by simp only [AV.bel] at hv ⊢; exact bel_mono h v hv
  | .lnt v, hv => by simp only [AV.bel] at hv ⊢; exact bel_mono h v hv
  | .bad, _ | .int _ _, _ | .bool _, _ | .str _, _ | .nilp, _ | .nils, _ | .emp _, _ | .nilf, _ | .nili, _ | .nilm, _ => by simp [AV.bel]
theorem belL_mono {m n : Nat} (h : m ≤ n) : ∀ (cs : List AV), belL m cs = true → belL n cs = true
  | [], _ => by simp [belL]
  | c :: cs, hv => by simp only [belL, Bool.and_eq_true] at hv ⊢; exact ⟨bel_mono h c hv.1, belL_mono h cs hv.2⟩
end
mutual
/-- Whatever is matched refers to what is there. -/
theorem M_bel {X : Cx} : ∀ (v : AV) (u : Value), M X v u → v.bel X.H.length = true
  | .ptr l _ _ _, _, h => by unfold M at h; simp only [AV.bel, decide_eq_true_eq]; exact h.1.1
  | .slc l _ _ _, _, h => by unfold M at h; simp only [AV.bel, decide_eq_true_eq]; exact h.1.1
  | .mp l, _, h => by unfold M at h; simp only [AV.bel, decide_eq_true_eq]; exact h.1.1
  | .ip cs, _, h => by unfold M at h; obtain ⟨b, o, _, _, hc⟩ := h; simp only [AV.bel]; exact Mc_bel cs b o hc
  | .lst [], _, h => by simp [AV.bel, belL]
  | .lst (e :: es), _, h => by
    unfold M at h; obtain ⟨A, c, _, _, _, he⟩ := h
    obtain ⟨b, o, z, _, _, _, hm⟩ := he (by simp)
    simp only [AV.bel]; exact Me_bel (e :: es) b o z hm
  | .agg cs, _, h => by unfold M at h; obtain ⟨vs, _, hs⟩ := h; simp only [AV.bel]; exact Ms_bel cs _ hs
  | .tup cs, _, h => by unfold M at h; obtain ⟨vs, _, hs⟩ := h; simp only [AV.bel]; exact Ms_bel cs _ hs
  | .clo _ a b, _, h => by
    unfold M at h; obtain ⟨fv, cv, _, h1, h2⟩ := h
    simp only [AV.bel, Bool.and_eq_true]; exact ⟨Ms_bel a _ h1, Ms_bel b _ h2⟩
  | .ifc _ v, _, h => by unfold M at h; obtain ⟨u, _, hu⟩ := h; simp only [AV.bel]; exact M_bel v u hu
  | .lnt v, u, h => by unfold M at h; simp only [AV.bel]; exact M_bel (X := X.fr) v u h
  | .bad, _, _ | .int _ _, _, _ | .bool _, _, _ | .str _, _, _ | .nilp, _, _ | .nils, _, _ | .emp _, _, _ | .nilf, _, _ | .nili, _, _ | .nilm, _, _ => by simp [AV.bel]
theorem Mc_bel {X : Cx} : ∀ (cs : List AV) (b o : Nat), Mc X cs b o → belL X.H.length cs = true
  | [], _, _, _ => by simp [belL]
  | c :: cs, b, o, h => by
    unfold Mc at h
    obtain ⟨⟨u, _, hu⟩, hs⟩ := h
    simp only [belL, Bool.and_eq_true]; exact ⟨M_bel c u hu, Mc_bel cs b (o + 1) hs⟩
theorem Me_bel {X : Cx} : ∀ (es : List AV) (b o z : Nat), Me X es b o z → belL X.H.length es = true
  | [], _, _, _, _ => by simp [belL]
  | e :: es, b, o, z, h => by
    cases e with
    | agg cs =>
      unfold Me at h
      simp only [belL, Bool.and_eq_true]
      exact ⟨by simp only [AV.bel]; exact Mc_bel cs b o h.1.2, Me_bel es b (o + z) z h.2⟩
    | _ =>
      unfold Me at h
      obtain ⟨⟨_, u, _, hu⟩, hs⟩ := h
      simp only [belL, Bool.and_eq_true]
      exact ⟨M_bel _ u hu, Me_bel es b (o + z) z hs⟩
theorem Ms_bel {X : Cx} : ∀ (cs : List AV) (vs : List Value), Ms X cs vs → belL X.H.length cs = true
  | [], _, _ => by simp [belL]
  | c :: cs, vs, h => by
    unfold Ms at h
    obtain ⟨u, us, rfl, hu, hs⟩ := h
    simp only [belL, Bool.and_eq_true]; exact ⟨M_bel c u hu, Ms_bel cs us hs⟩
end
/-- What was written refers to nothing younger, but for the rows in E. -/
def EscI (H0 H : List AObj) (E : List Nat) : Prop :=
  ∀ l z es, H[l]? = some (.row z es) → l ∈ E ∨ ∀ m, l < m → (∀ z0 es0, H0[l]? = some (.row z0 es0) → belL m es0 = true) → belL m es = true
theorem EscI.refl (H : List AObj) : EscI H H [] := fun l z es h => .inr fun m hm hp => hp z es h
theorem EscI.trans {H0 H1 H2 : List AObj} {E F : List Nat} (h : EscI H0 H1 E) (k : EscI H1 H2 F) : EscI H0 H2 (F ++ E) := fun l z es hl => by
  rcases k l z es hl with hk | hk
  · exact .inl (by simp [hk])
  · by_cases hE : l ∈ E
    · exact .inl (by simp [hE])
    · refine .inr fun m hm hp => hk m hm fun z1 es1 h1 => ?_
      rcases h l z1 es1 h1 with hh | hh
      · exact absurd hh hE
      · exact hh m hm hp

/-- Another world of the same heap. -/
theorem world_ok {G : Nat → Option (List AV)} {X : Cx} (hR : Rel G X) {w' : World} (hh : w'.heap = X.w.heap) (ht : w'.tape = X.w.tape) (ho : w'.os = X.w.os) (hu : w'.output = X.w.output) :
    Rel G ⟨X.F, X.ι, X.H, w'⟩ ∧ Ext X ⟨X.F, X.ι, X.H, w'⟩ ∧ EscI X.H X.H [] := by
  have hc : ∀ b j, cellAt w' b j = cellAt X.w b j := fun b j => by unfold cellAt; rw [hh]
  have hs : ∀ b, sizeAt w' b = sizeAt X.w b := fun b => by unfold sizeAt; rw [hh]
  have hE : Ext X ⟨X.F, X.ι, X.H, w'⟩ :=
    ⟨by simp [hh], Nat.le_refl _, fun b _ _ => by simp [hh], fun b _ hw => hw, fun l t hl h => ⟨t, h, Nat.le_refl _, fun _ => ⟨fun hr => ⟨hr, fun b z hb => ⟨hb, hs b⟩⟩, fun h => h⟩⟩, ht, ho, hu, rfl, fun l _ h => ⟨h, rfl⟩⟩
  refine ⟨⟨fun l z es b z' h1 h2 => ?_, fun l l' b z z' h1 h2 h3 h4 => hR.inj l l' b z z' h1 h2 h3 h4, maps_keep hR hE (fun _ _ h => h) (fun b cs c h => by show w'.heap[b]? = _; rw [hh]; exact h), fun g cs hg => ?_, hR.wf, fb_keep hR hE, hR.gb⟩, hE, EscI.refl _⟩
  · obtain ⟨e1, e2, e3, ee, s, e4, e5, e6⟩ := hR.rows l z es b z' h1 h2
    refine ⟨e1, e2, Me_mono hE _ _ _ _ (fun j u hj => (hc b j).trans hj) e3, ee, s, (hs b).trans e4, e5, unmark_eq e6 (by show w'.heap[b]? = _; rw [hh])⟩
  · obtain ⟨h1, h2⟩ := hR.glob g cs hg
    exact ⟨im_keep hE h1, Mc_mono hE _ _ _ (fun j u hj => (hc g j).trans hj) h2⟩

def upd (ι : Nat → Option (Nat × Nat)) (l : Nat) (x : Nat × Nat) : Nat → Option (Nat × Nat) := fun k => if k = l then some x else ι k

/-- A new block becomes the block of row l: a new one (at the end), an empty one's, or one that grew. -/
theorem push_ok {G : Nat → Option (List AV)} {X : Cx} (hR : Rel G X) {w' : World} {c : Array Value} {el : TypeId} {fr : Nat × Nat}
    (hh : w'.heap = X.w.heap.push (.cells c el fr)) (ht : w'.tape = X.w.tape) (ho : w'.os = X.w.os) (hu : w'.output = X.w.output)
    {z : Nat} {es : List AV} (hz : 0 < z) (hc : ∀ i e, es[i]? = some e → e.cells.length = z ∧ ∃ vs, Ms X e.cells vs ∧ ∀ j v, vs[j]? = some v → c[i * z + j]? = some v)
    (hone : oneL es) (hs : es.length * z ≤ c.size) (hf : fr.1 = fr.2 ∨ c.size ≤ fr.1)
    {H' : List AObj} {l : Nat} (hl : H'[l]? = some (.row z es)) (hoth : ∀ k, k ≠ l → H'[k]? = X.H[k]?) (hlen : X.H.length ≤ H'.length)
    (hgrow : l < X.H.length → ∃ t0, lenOf X.H l = some t0 ∧ t0 < es.length) {E : List Nat} (hesc : EscI X.H H' E) :
    Rel G ⟨X.F, upd X.ι l (X.w.heap.size, z), H', w'⟩ ∧ Ext X ⟨X.F, upd X.ι l (X.w.heap.size, z), H', w'⟩ := by
  have hold : ∀ b, b < X.w.heap.size → w'.heap[b]? = X.w.heap[b]? := fun b hb => by
    rw [hh, Array.getElem?_push_lt hb]; simp [hb]
  have hnew : w'.heap[X.w.heap.size]? = some (.cells c el fr) := by rw [hh]; simp
  have hcell : ∀ b j u, cellAt X.w b j = some u → cellAt w' b j = some u := fun b j u h => by
    have hb := lt_of_cellAt h
    unfold cellAt at h ⊢; rw [hold b hb]; exact h
  have hsize : ∀ b s, sizeAt X.w b = some s → sizeAt w' b = some s := fun b s h => by
    have hb := lt_of_sizeAt h
    unfold sizeAt at h ⊢; rw [hold b hb]; exact h
  have hE : Ext X ⟨X.F, upd X.ι l (X.w.heap.size, z), H', w'⟩ := by
    refine ⟨by simp [hh], hlen, fun b hb _ => hold b hb, fun b hb hw => ?_, fun k t hk hkt => ?_, ht, ho, hu, rfl, fun k hk hm => ?_⟩
    · obtain ⟨k, z', hr, hi⟩ := hw
      simp only [upd] at hr hi
      by_cases e : k = l
      · simp only [e, if_true] at hi
        injection hi with hi; injection hi with hi _; omega
      · simp only [e, if_false] at hi
        rw [hoth k e] at hr
        exact ⟨k, z', hr, hi⟩
    · by_cases e : k = l
      · subst e
        obtain ⟨t0, h0, hlt⟩ := hgrow hk
        have : t = es.length := by
          simp only [lenOf, hl] at hkt; injection hkt with hkt; exact hkt.symm
        exact ⟨t0, h0, by omega, fun e => by omega⟩
      · have hk' : lenOf X.H k = some t := by simpa only [lenOf, hoth k e] using hkt
        refine ⟨t, hk', Nat.le_refl _, fun _ => ⟨fun hr => ⟨?_, fun b z' hb => ⟨by simp only [upd, e, if_false]; exact hb, ?_⟩⟩, fun hv => by rw [← hv]; exact hoth k e⟩⟩
        · show isRow H'[k]?
          rw [hoth k e]; exact hr
        · obtain ⟨z1, es1, he⟩ := isRow_some hr
          obtain ⟨_, _, _, _, s, hs, _⟩ := hR.rows k z1 es1 b z' he hb
          rw [hs]; exact hsize b s hs
    · have hm' : isMp H'[k]? := hm
      by_cases e : k = l
      · rw [e, hl] at hm'; simp [isMp] at hm'
      · rw [hoth k e] at hm'
        exact ⟨hm', by simp only [upd, e, if_false]⟩
  have hme : ∀ i e, es[i]? = some e → e.cells.length = z ∧ Mc ⟨X.F, upd X.ι l (X.w.heap.size, z), H', w'⟩ e.cells X.w.heap.size (0 + i * z) := fun i e he => by
    obtain ⟨h1, vs, h2, h3⟩ := hc i e he
    refine ⟨h1, Mc_of_vals (Ms_mono hE _ _ h2) fun j v hj => ?_⟩
    show cellAt w' _ _ = _
    unfold cellAt
    rw [hnew]
    simpa using h3 j v hj
  have hmp : ∀ (k : Nat) (es1 : List (AV × AV)), H'[k]? = some (AObj.mp es1) → X.H[k]? = some (AObj.mp es1) := fun k es1 h => by
    by_cases e : k = l
    · rw [e, hl] at h; cases h
    · rw [hoth k e] at h; exact h
  refine ⟨⟨fun k z1 es1 b z' h1 h2 => ?_, fun k k' b z1 z2 h1 h2 h3 h4 => ?_, maps_keep hR hE hmp (fun b cs c h => (hold b (Array.getElem?_eq_some_iff.1 h).1).trans h), fun g cs hg => ?_, fun k z1 es1 h1 => ?_, fb_keep hR hE, hR.gb⟩, hE⟩
  · simp only at h1 h2
    by_cases e : k = l
    · subst e
      rw [hl] at h1
      injection h1 with h1; injection h1 with e1 e2
      subst e1; subst e2
      simp only [upd, if_true] at h2
      injection h2 with h2; injection h2 with e3 e4
      subst e3; subst e4
      refine ⟨rfl, hz, Me_of_get hme, hone, c.size, by unfold sizeAt; rw [hnew], hs, ⟨c, el, fr.1, fr.2, hnew, hf⟩⟩
    · simp only [upd, e, if_false] at h2
      rw [hoth k e] at h1
      obtain ⟨e1, e2, e3, ee, s, e4, e5, e6⟩ := hR.rows k z1 es1 b z' h1 h2
      refine ⟨e1, e2, Me_mono hE _ _ _ _ (fun j u hj => hcell b j u hj) e3, ee, s, hsize b s e4, e5, unmark_eq e6 (hold b (lt_of_sizeAt e4))⟩
  · simp only [upd] at h1 h2 h3 h4
    have key : ∀ k z1, isOwn H'[k]? → k ≠ l → X.ι k ≠ some (X.w.heap.size, z1) := fun k z1 hr e hi => by
      rw [hoth k e] at hr
      have := hR.wr_lt ⟨k, z1, hr, hi⟩
      omega
    by_cases e : k = l <;> by_cases e' : k' = l
    · omega
    · simp only [e, if_true] at h3
      simp only [e', if_false] at h4
      injection h3 with h3; injection h3 with h3 _
      exact absurd (h3 ▸ h4) (key k' _ h2 e')
    · simp only [e, if_false] at h3
      simp only [e', if_true] at h4
      injection h4 with h4; injection h4 with h4 _
      exact absurd (h4 ▸ h3) (key k _ h1 e)
    · simp only [e, e', if_false] at h3 h4
      rw [hoth k e] at h1
      rw [hoth k' e'] at h2
      exact hR.inj k k' b z1 z2 h1 h2 h3 h4
  · obtain ⟨h1, h2⟩ := hR.glob g cs hg
    exact ⟨im_keep hE h1, Mc_mono hE _ _ _ (fun j u hj => hcell g j u hj) h2⟩
  · simp only at h1
    by_cases e : k = l
    · subst e
      rw [hl] at h1
      injection h1 with h1; injection h1 with e1 e2
      subst e1; subst e2
      exact Me_bel _ _ _ _ (Me_of_get hme)
    · rw [hoth k e] at h1
      exact belL_mono hlen _ (hR.wf k z1 es1 h1)

end Go.Pm
namespace Go.Pm
set_option linter.unusedVariables false
set_option linter.unusedSimpArgs false
set_option linter.unnecessarySimpa false
theorem write_ok {G : Nat → Option (List AV)} {X : Cx} (hR : Rel G X) {l z b s : Nat} {es es' : List AV} (hl : X.H[l]? = some (.row z es)) (hi : X.ι l = some (b, z))
    (hlen : es.length ≤ es'.length) {o : Nat} {vs : List Value} (hsz : sizeAt X.w b = some s) (ho : o + vs.length ≤ s) (hone : oneL es') (hs : es'.length * z ≤ s)
    (hc : ∀ i e, es'[i]? = some e → e.cells.length = z ∧ ∃ us, Ms X e.cells us ∧ ∀ j v, us[j]? = some v → cellAt (X.w.setCells b o vs) b (i * z + j) = some v)
    {E : List Nat} (hesc : EscI X.H (X.H.set l (.row z es')) E) :
    Rel G ⟨X.F, X.ι, X.H.set l (.row z es'), X.w.setCells b o vs⟩ ∧ Ext X ⟨X.F, X.ι, X.H.set l (.row z es'), X.w.setCells b o vs⟩ := by
  have hll : l < X.H.length := (List.getElem?_eq_some_iff.1 hl).1
  obtain ⟨f1, f2, f3, f4, f5, f6⟩ := setCells_facts b vs o X.w
  have hset : (X.H.set l (.row z es'))[l]? = some (.row z es') := by simp [hll]
  have hoth : ∀ k, k ≠ l → (X.H.set l (.row z es'))[k]? = X.H[k]? := fun k hk => by simp [Ne.symm hk]
  have hrow : ∀ k, isRow (X.H.set l (.row z es'))[k]? ↔ isRow X.H[k]? := fun k => by
    by_cases e : k = l
    · subst e; rw [hset, hl]; simp [isRow]
    · rw [hoth k e]
  have hmp : ∀ k, isMp (X.H.set l (.row z es'))[k]? ↔ isMp X.H[k]? := fun k => by
    by_cases e : k = l
    · subst e; rw [hset, hl]; simp [isMp]
    · rw [hoth k e]
  have how : ∀ k, isOwn (X.H.set l (.row z es'))[k]? ↔ isOwn X.H[k]? := fun k => or_congr (hrow k) (hmp k)
  have hwr : X.wr b := ⟨l, z, .inl (by rw [hl]; simp [isRow]), hi⟩
  have hE : Ext X ⟨X.F, X.ι, X.H.set l (.row z es'), X.w.setCells b o vs⟩ := by
    refine ⟨by simp [f1], by simp, fun b' hb hw => f3 b' (fun e => hw (e ▸ hwr)), fun b' hb hw => ?_, fun k t hk hkt => ?_, f4, f5, f6, rfl, fun k _ hm => ⟨(hmp k).1 hm, rfl⟩⟩
    · obtain ⟨k, z', hr, hi'⟩ := hw
      exact ⟨k, z', (how k).1 hr, hi'⟩
    · by_cases e : k = l
      · subst e
        have ht : es'.length = t := by simp only [lenOf, hset] at hkt; injection hkt
        exact ⟨es.length, by simp [lenOf, hl], by omega, fun _ => ⟨fun hr => ⟨(hrow k).2 hr, fun b' z' hb' => ⟨hb', f2 b'⟩⟩, fun hv => by rw [hl] at hv; cases hv⟩⟩
      · have hk' : lenOf X.H k = some t := by simpa only [lenOf, hoth k e] using hkt
        exact ⟨t, hk', Nat.le_refl _, fun _ => ⟨fun hr => ⟨(hrow k).2 hr, fun b' z' hb' => ⟨hb', f2 b'⟩⟩, fun hv => by rw [← hv]; exact hoth k e⟩⟩
  have hme : ∀ i e, es'[i]? = some e → e.cells.length = z ∧ Mc ⟨X.F, X.ι, X.H.set l (.row z es'), X.w.setCells b o vs⟩ e.cells b (0 + i * z) := fun i e he => by
    obtain ⟨h1, us, h2, h3⟩ := hc i e he
    exact ⟨h1, Mc_of_vals (Ms_mono hE _ _ h2) fun j v hj => by simpa using h3 j v hj⟩
  refine ⟨⟨fun k z1 es1 b1 z' h1 h2 => ?_, fun k k' b1 z1 z2 h1 h2 h3 h4 => hR.inj k k' b1 z1 z2 ((how k).1 h1) ((how k').1 h2) h3 h4, maps_keep hR hE (fun k es1 h => by
    by_cases e : k = l
    · subst e; simp only [hset] at h; cases h
    · simp only [hoth k e] at h; exact h) (fun b' cs c h => by
    by_cases e : b' = b
    · subst e
      simp [sizeAt, h] at hsz
    · exact (f3 b' e).trans h), fun g cs hg => ?_, fun k z1 es1 h1 => ?_, fb_keep hR hE, hR.gb⟩, hE⟩
  · simp only at h1 h2
    by_cases e : k = l
    · subst e
      rw [hset] at h1
      injection h1 with h1; injection h1 with e1 e2
      subst e1; subst e2
      rw [hi] at h2
      injection h2 with h2; injection h2 with e3 e4
      subst e3; subst e4
      obtain ⟨_, hz, _, _, s', hs', _, hf⟩ := hR.rows k z es b z hl hi
      rw [hsz] at hs'; injection hs' with hs'; subst hs'
      refine ⟨rfl, hz, Me_of_get hme, hone, s, (f2 b).trans hsz, hs, unmark_setCells vs o X.w hf⟩
    · rw [hoth k e] at h1
      obtain ⟨e1, e2, e3, ee, s1, e4, e5, e6⟩ := hR.rows k z1 es1 b1 z' h1 h2
      have hb : b1 ≠ b := fun hb => by
        subst hb
        exact e (hR.inj k l b1 z' z (.inl (by rw [h1]; simp [isRow])) (.inl (by rw [hl]; simp [isRow])) h2 hi)
      refine ⟨e1, e2, Me_mono hE _ _ _ _ (fun j u hj => ?_) e3, ee, s1, (f2 b1).trans e4, e5, unmark_setCells vs o X.w e6⟩
      exact (cellAt_setCells_out fun hb' => absurd hb' hb).trans hj
  · obtain ⟨h1, h2⟩ := hR.glob g cs hg
    exact ⟨im_keep hE h1, Mc_mono hE _ _ _ (fun j u hj => cellAt_keep hE h1.2 hj) h2⟩
  · simp only at h1
    by_cases e : k = l
    · subst e
      rw [hset] at h1
      injection h1 with h1; injection h1 with e1 e2
      subst e1; subst e2
      exact Me_bel _ _ _ _ (Me_of_get hme)
    · rw [hoth k e] at h1
      exact belL_mono (by simp) _ (hR.wf k z1 es1 h1)

theorem killAll_get : ∀ (ls : List Nat) (H : List AObj) (k : Nat), (killAll H ls)[k]? = if k ∈ ls ∧ k < H.length then some .dead else H[k]?
  | [], H, k => by simp [killAll]
  | l :: ls, H, k => by
    simp only [killAll, killAll_get ls (H.set l .dead) k, List.length_set, List.mem_cons]
    by_cases h1 : k ∈ ls
    · by_cases h2 : k < H.length
      · simp [h1, h2]
      · simp [h1, h2, List.getElem?_eq_none (Nat.le_of_not_lt h2)]
    · by_cases e : k = l
      · subst e
        by_cases h2 : k < H.length
        · simp [h1, h2]
        · simp [h1, h2, List.getElem?_eq_none (Nat.le_of_not_lt h2)]
      · simp [h1, e, Ne.symm e]
theorem killAll_length : ∀ (ls : List Nat) (H : List AObj), (killAll H ls).length = H.length
  | [], H => rfl
  | l :: ls, H => by simp [killAll, killAll_length ls]

theorem kill_ok {G : Nat → Option (List AV)} {X : Cx} (hR : Rel G X) (ls : List Nat) :
    Rel G ⟨X.F, X.ι, killAll X.H ls, X.w⟩ ∧ Ext X ⟨X.F, X.ι, killAll X.H ls, X.w⟩ ∧ EscI X.H (killAll X.H ls) [] := by
  have hrow : ∀ k, isRow (killAll X.H ls)[k]? → (killAll X.H ls)[k]? = X.H[k]? := fun k h => by
    rw [killAll_get] at h ⊢
    split at h
    · simp [isRow] at h
    · rename_i hn; rw [if_neg hn]
  have hmp : ∀ k, isMp (killAll X.H ls)[k]? → (killAll X.H ls)[k]? = X.H[k]? := fun k h => by
    rw [killAll_get] at h ⊢
    split at h
    · simp [isMp] at h
    · rename_i hn; rw [if_neg hn]
  have how : ∀ k, isOwn (killAll X.H ls)[k]? → (killAll X.H ls)[k]? = X.H[k]? := fun k h => h.elim (hrow k) (hmp k)
  have hlenOf : ∀ k t, lenOf (killAll X.H ls) k = some t → (killAll X.H ls)[k]? = X.H[k]? := fun k t h => by
    unfold lenOf at h
    rw [killAll_get] at h ⊢
    split
    · rename_i hd; simp [hd] at h
    · rfl
  have hE : Ext X ⟨X.F, X.ι, killAll X.H ls, X.w⟩ := by
    refine ⟨Nat.le_refl _, by simp [killAll_length], fun _ _ _ => rfl, fun b _ hw => ?_, fun k t hk hkt => ?_, rfl, rfl, rfl, rfl, fun k _ hm => ⟨by have hm' : isMp (killAll X.H ls)[k]? := hm; rw [hmp k hm'] at hm'; exact hm', rfl⟩⟩
    · obtain ⟨k, z', hr, hi⟩ := hw
      exact ⟨k, z', by rw [← how k hr]; exact hr, hi⟩
    · have he := hlenOf k t hkt
      refine ⟨t, by unfold lenOf at hkt ⊢; rw [← he]; exact hkt, Nat.le_refl _, fun _ => ⟨fun hr => ⟨?_, fun _ _ h => ⟨h, rfl⟩⟩, fun hv => he.trans hv⟩⟩
      show isRow (killAll X.H ls)[k]?
      rw [he]; exact hr
  refine ⟨⟨fun k z1 es1 b1 z' h1 h2 => ?_, fun k k' b1 z1 z2 h1 h2 h3 h4 => ?_, maps_keep hR hE (fun k es1 h => by
    have h' : (killAll X.H ls)[k]? = some (AObj.mp es1) := h
    rw [← hmp k (by rw [h']; simp [isMp])]; exact h') (fun _ _ _ h => h), fun g cs hg => ?_, fun k z1 es1 h1 => ?_, fb_keep hR hE, hR.gb⟩, hE, fun l z es h => ?_⟩
  · simp only at h1 h2
    rw [hrow k (by rw [h1]; simp [isRow])] at h1
    obtain ⟨e1, e2, e3, ee, s1, e4, e5, e6⟩ := hR.rows k z1 es1 b1 z' h1 h2
    exact ⟨e1, e2, Me_mono hE _ _ _ _ (fun j u hj => hj) e3, ee, s1, e4, e5, e6⟩
  · exact hR.inj k k' b1 z1 z2 (by rw [← how k h1]; exact h1) (by rw [← how k' h2]; exact h2) h3 h4
  · obtain ⟨h1, h2⟩ := hR.glob g cs hg
    exact ⟨im_keep hE h1, Mc_mono hE _ _ _ (fun j u hj => hj) h2⟩
  · simp only at h1
    rw [hrow k (by rw [h1]; simp [isRow])] at h1
    exact belL_mono (by simp [killAll_length]) _ (hR.wf k z1 es1 h1)
  · rw [hrow l (by rw [h]; simp [isRow])] at h
    exact .inr fun m hm hp => hp z es h

mutual
theorem frz_M {G : Nat → Option (List AV)} {X : Cx} (hR : Rel G X) (ls : List Nat) : ∀ (v v' : AV) (u : Value), M X v u → frz X.H v = some v' → (∀ l ∈ kills v, l ∈ ls) →
    M ⟨X.F, X.ι, killAll X.H ls, X.w⟩ v' u
  | .nils, v', u, hm, hf, hk => by
    simp only [frz, Option.some.injEq] at hf
    subst hf
    unfold M at hm ⊢
    exact ⟨none, 0, by simpa using hm, by simp, by simp [oneL], fun h => absurd rfl h⟩
  | .emp b, v', u, hm, hf, hk => by
    simp only [frz, Option.some.injEq] at hf
    subst hf
    unfold M at hm ⊢
    obtain ⟨A, c, hv, _⟩ := hm
    exact ⟨A, c, by simpa using hv, by simp, by simp [oneL], fun h => absurd rfl h⟩
  | .slc l off n tot, v', u, hm, hf, hk => by
    simp only [frz] at hf
    unfold M at hm
    obtain ⟨⟨h1, h0⟩, h2, h3⟩ := hm
    split at hf
    · rename_i z0 es hH
      split at hf
      · rename_i hg
        injection hf with hf
        subst hf
        have hlen : lenOf X.H l = some tot := by simp [lenOf, hH, hg]
        rcases h3 hlen with ⟨hv, _⟩ | ⟨hr, A, c, b, z, s, hi, hv, a1, a2, a3, a4⟩
        · rw [hH] at hv; cases hv
        · obtain ⟨e1, e2, e3, ee, s', e4, e5, e6⟩ := hR.rows l z0 es b z hH hi
          subst e1
          have hll : ((es.drop off).take n).length = n := by simp; omega
          unfold M
          refine ⟨A, c, by rw [hll]; exact hv, by rw [hll]; exact a2, fun e he => ee e (List.mem_of_mem_drop (List.mem_of_mem_take he)), fun hne => ?_⟩
          have hn : 0 < n := by
            rcases Nat.eq_zero_or_pos n with h0 | h0
            · subst h0; simp at hne
            · exact h0
          have hc0 : c ≠ 0 := by omega
          obtain ⟨hA, hcap⟩ := a4.resolve_left hc0
          have hE := (kill_ok hR ls).2.1
          refine ⟨b, off * z, z, hA, e2, ⟨⟨lt_of_sizeAt a3, fun k hf => (hR.fb b k hf).2 ⟨l, z, .inl hr, hi⟩⟩, fun hw => ?_⟩, Me_of_get fun i e he => ?_⟩
          · obtain ⟨k, z', hrk, hik⟩ := hw
            simp only at hrk hik
            rw [killAll_get] at hrk
            split at hrk
            · simp [isOwn, isRow, isMp] at hrk
            · rename_i hnk
              have := hR.inj k l b z' z hrk (.inl hr) hik hi
              subst this
              exact hnk ⟨hk k (by simp [kills]), h1⟩
          · have hi' : i < n := by
              have := (List.getElem?_eq_some_iff.1 he).1
              rw [hll] at this; exact this
            have he' : es[off + i]? = some e := by
              rw [List.getElem?_take_of_lt hi', List.getElem?_drop] at he
              exact he
            obtain ⟨q1, q2⟩ := Me_get e3 he'
            refine ⟨q1, Mc_mono hE _ _ _ (fun j u hj => hj) ?_⟩
            rwa [show off * z + i * z = 0 + (off + i) * z by rw [Nat.add_mul]; omega]
      · cases hf
    · rename_i hH
      split at hf
      · rename_i ht
        injection hf with hf
        subst hf
        have hlen : lenOf X.H l = some tot := by simp [lenOf, hH, ht]
        rcases h3 hlen with ⟨hv, h4, h5, h6⟩ | ⟨hr, _⟩
        · unfold M
          exact ⟨none, 0, by simpa using h6, by simp, by simp [oneL], fun h => absurd rfl h⟩
        · rw [hH] at hr; simp [isRow] at hr
      · cases hf
    · cases hf
  | .agg cs, v', u, hm, hf, hk => by
    simp only [frz, Option.map_eq_some_iff] at hf
    obtain ⟨cs', h1, rfl⟩ := hf
    unfold M at hm ⊢
    obtain ⟨vs, hv, hs⟩ := hm
    exact ⟨vs, hv, frzL_M hR ls cs cs' _ hs h1 (by simpa [kills] using hk)⟩
  | .tup cs, v', u, hm, hf, hk => by
    simp only [frz, Option.map_eq_some_iff] at hf
    obtain ⟨cs', h1, rfl⟩ := hf
    unfold M at hm ⊢
    obtain ⟨vs, hv, hs⟩ := hm
    exact ⟨vs, hv, frzL_M hR ls cs cs' _ hs h1 (by simpa [kills] using hk)⟩
  | .ifc t v, v', u, hm, hf, hk => by
    simp only [frz, Option.map_eq_some_iff] at hf
    obtain ⟨w, h1, rfl⟩ := hf
    unfold M at hm ⊢
    obtain ⟨u', hv, hs⟩ := hm
    exact ⟨u', hv, frz_M hR ls v w u' hs h1 (by simpa [kills] using hk)⟩
  | .bad, v', u, hm, hf, hk => by simp only [frz, Option.some.injEq] at hf; subst hf; exact M_mono (kill_ok hR ls).2.1 _ _ hm
  | .int _ _, v', u, hm, hf, hk => by simp only [frz, Option.some.injEq] at hf; subst hf; exact M_mono (kill_ok hR ls).2.1 _ _ hm
  | .bool _, v', u, hm, hf, hk => by simp only [frz, Option.some.injEq] at hf; subst hf; exact M_mono (kill_ok hR ls).2.1 _ _ hm
  | .str _, v', u, hm, hf, hk => by simp only [frz, Option.some.injEq] at hf; subst hf; exact M_mono (kill_ok hR ls).2.1 _ _ hm
  | .nilp, v', u, hm, hf, hk => by simp only [frz, Option.some.injEq] at hf; subst hf; exact M_mono (kill_ok hR ls).2.1 _ _ hm
  | .ptr _ _ _ _, v', u, hm, hf, hk => by simp only [frz, Option.some.injEq] at hf; subst hf; exact M_mono (kill_ok hR ls).2.1 _ _ hm
  | .ip _, v', u, hm, hf, hk => by simp only [frz, Option.some.injEq] at hf; subst hf; exact M_mono (kill_ok hR ls).2.1 _ _ hm
  | .lst _, v', u, hm, hf, hk => by simp only [frz, Option.some.injEq] at hf; subst hf; exact M_mono (kill_ok hR ls).2.1 _ _ hm
  | .clo _ _ _, v', u, hm, hf, hk => by simp only [frz, Option.some.injEq] at hf; subst hf; exact M_mono (kill_ok hR ls).2.1 _ _ hm
  | .nilf, v', u, hm, hf, hk => by simp only [frz, Option.some.injEq] at hf; subst hf; exact M_mono (kill_ok hR ls).2.1 _ _ hm
  | .nili, v', u, hm, hf, hk => by simp only [frz, Option.some.injEq] at hf; subst hf; exact M_mono (kill_ok hR ls).2.1 _ _ hm
  | .mp _, v', u, hm, hf, hk => by simp only [frz, Option.some.injEq] at hf; subst hf; exact M_mono (kill_ok hR ls).2.1 _ _ hm
  | .lnt _, v', u, hm, hf, hk => by simp only [frz, Option.some.injEq] at hf; subst hf; exact M_mono (kill_ok hR ls).2.1 _ _ hm
  | .nilm, v', u, hm, hf, hk => by simp only [frz, Option.some.injEq] at hf; subst hf; exact M_mono (kill_ok hR ls).2.1 _ _ hm
theorem frzL_M {G : Nat → Option (List AV)} {X : Cx} (hR : Rel G X) (ls : List Nat) : ∀ (cs cs' : List AV) (us : List Value), Ms X cs us → frzL X.H cs = some cs' → (∀ l ∈ killsL cs, l ∈ ls) →
    Ms ⟨X.F, X.ι, killAll X.H ls, X.w⟩ cs' us
  | [], cs', us, hm, hf, hk => by
    simp only [frzL, Option.some.injEq] at hf
    subst hf
    unfold Ms at hm ⊢
    exact hm
  | c :: cs, cs', us, hm, hf, hk => by
    simp only [frzL, Option.bind_eq_some_iff, Option.map_eq_some_iff] at hf
    obtain ⟨c', h1, ds, h2, rfl⟩ := hf
    unfold Ms at hm ⊢
    obtain ⟨u, us', rfl, hu, hs⟩ := hm
    exact ⟨u, us', rfl, frz_M hR ls c c' u hu h1 fun l hl => hk l (by simp [killsL, hl]), frzL_M hR ls cs ds us' hs h2 fun l hl => hk l (by simp [killsL, hl])⟩
end
def Cx.cut (X : Cx) (n : Nat) : Cx := ⟨X.F, fun l => if l < n then X.ι l else none, X.H.take n, X.w⟩
theorem cut_get {H : List AObj} {n l : Nat} (h : l < n) : (H.take n)[l]? = H[l]? := by simp [h]
theorem cut_none {H : List AObj} {n l : Nat} (h : n ≤ l) : (H.take n)[l]? = none := by simp [List.getElem?_take, Nat.not_lt.2 h]
theorem cut_wr {X : Cx} {n b : Nat} (h : (X.cut n).wr b) : X.wr b := by
  obtain ⟨l, z, hr, hi⟩ := h
  simp only [Cx.cut] at hr hi
  by_cases e : l < n
  · rw [cut_get e] at hr; simp only [e, if_true] at hi; exact ⟨l, z, hr, hi⟩
  · simp [e] at hi
mutual
theorem cut_M {X : Cx} {n : Nat} (hn : n ≤ X.H.length) : ∀ (v : AV) (u : Value), v.bel n = true → M X v u → M (X.cut n) v u
  | .ptr l tot i off, u, hb, hm => by
    simp only [AV.bel, decide_eq_true_eq] at hb
    unfold M at hm ⊢
    have hg : (X.cut n).H[l]? = X.H[l]? := cut_get hb
    have hi : (X.cut n).ι l = X.ι l := by simp [Cx.cut, hb]
    simp only [lenOf, hg, hi] at hm ⊢
    exact ⟨⟨by simp [Cx.cut]; omega, hm.1.2⟩, hm.2.1, hm.2.2⟩
  | .slc l off k tot, u, hb, hm => by
    simp only [AV.bel, decide_eq_true_eq] at hb
    unfold M at hm ⊢
    have hg : (X.cut n).H[l]? = X.H[l]? := cut_get hb
    have hi : (X.cut n).ι l = X.ι l := by simp [Cx.cut, hb]
    simp only [lenOf, hg, hi] at hm ⊢
    exact ⟨⟨by simp [Cx.cut]; omega, hm.1.2⟩, hm.2.1, hm.2.2⟩
  | .ip cs, u, hb, hm => by
    simp only [AV.bel] at hb
    unfold M at hm ⊢
    obtain ⟨b, o, hv, hi, hc⟩ := hm
    exact ⟨b, o, hv, ⟨hi.1, fun hw => hi.2 (cut_wr hw)⟩, cut_Mc hn cs b o hb hc⟩
  | .lst es, u, hb, hm => by
    simp only [AV.bel] at hb
    unfold M at hm ⊢
    obtain ⟨A, c, hv, hc, hone, he⟩ := hm
    refine ⟨A, c, hv, hc, hone, fun hne => ?_⟩
    obtain ⟨b, o, z, hA, hz, hi, hme⟩ := he hne
    exact ⟨b, o, z, hA, hz, ⟨hi.1, fun hw => hi.2 (cut_wr hw)⟩, cut_Me hn es b o z hb hme⟩
  | .agg cs, u, hb, hm => by
    simp only [AV.bel] at hb
    unfold M at hm ⊢
    obtain ⟨vs, hv, hs⟩ := hm
    exact ⟨vs, hv, cut_Ms hn cs _ hb hs⟩
  | .tup cs, u, hb, hm => by
    simp only [AV.bel] at hb
    unfold M at hm ⊢
    obtain ⟨vs, hv, hs⟩ := hm
    exact ⟨vs, hv, cut_Ms hn cs _ hb hs⟩
  | .clo _ fi ca, u, hb, hm => by
    simp only [AV.bel, Bool.and_eq_true] at hb
    unfold M at hm ⊢
    obtain ⟨fv, cv, hv, h1, h2⟩ := hm
    exact ⟨fv, cv, hv, cut_Ms hn fi _ hb.1 h1, cut_Ms hn ca _ hb.2 h2⟩
  | .ifc _ v, u, hb, hm => by
    simp only [AV.bel] at hb
    unfold M at hm ⊢
    obtain ⟨u', hv, hs⟩ := hm
    exact ⟨u', hv, cut_M hn v u' hb hs⟩
  | .mp l, u, hb, hm => by
    simp only [AV.bel, decide_eq_true_eq] at hb
    unfold M at hm ⊢
    have hg : (X.cut n).H[l]? = X.H[l]? := cut_get hb
    have hi : (X.cut n).ι l = X.ι l := by simp [Cx.cut, hb]
    rw [hg, hi]
    exact ⟨⟨by simp [Cx.cut]; omega, hm.1.2⟩, hm.2⟩
  | .bad, u, hb, hm => by unfold M; trivial
  | .int _ _, u, hb, hm => by unfold M at hm ⊢; exact hm
  | .bool _, u, hb, hm => by unfold M at hm ⊢; exact hm
  | .str _, u, hb, hm => by unfold M at hm ⊢; exact hm
  | .nilp, u, hb, hm => by unfold M at hm ⊢; exact hm
  | .nils, u, hb, hm => by unfold M at hm ⊢; exact hm
  | .emp _, u, hb, hm => by unfold M at hm ⊢; exact hm
  | .nilf, u, hb, hm => by unfold M at hm ⊢; exact hm
  | .nili, u, hb, hm => by unfold M at hm ⊢; exact hm
  | .nilm, u, hb, hm => by unfold M at hm ⊢; exact hm
  | .lnt v, u, hb, hm => by unfold M at hm ⊢; exact cut_M (X := X.fr) hn v u (by simpa only [AV.bel] using hb) hm
theorem cut_Mc {X : Cx} {n : Nat} (hn : n ≤ X.H.length) : ∀ (cs : List AV) (b o : Nat), belL n cs = true → Mc X cs b o → Mc (X.cut n) cs b o
  | [], _, _, _, _ => by simp [Mc]
  | c :: cs, b, o, hb, hm => by
    simp only [belL, Bool.and_eq_true] at hb
    unfold Mc at hm ⊢
    obtain ⟨⟨u, hu, hc⟩, hs⟩ := hm
    exact ⟨⟨u, hu, cut_M hn c u hb.1 hc⟩, cut_Mc hn cs b (o + 1) hb.2 hs⟩
theorem cut_Me {X : Cx} {n : Nat} (hn : n ≤ X.H.length) : ∀ (es : List AV) (b o z : Nat), belL n es = true → Me X es b o z → Me (X.cut n) es b o z
  | [], _, _, _, _, _ => by simp [Me]
  | e :: es, b, o, z, hb, hm => by
    simp only [belL, Bool.and_eq_true] at hb
    cases e with
    | agg cs =>
      unfold Me at hm ⊢
      exact ⟨⟨hm.1.1, cut_Mc hn cs b o (by simpa [AV.bel] using hb.1) hm.1.2⟩, cut_Me hn es b (o + z) z hb.2 hm.2⟩
    | _ =>
      unfold Me at hm ⊢
      obtain ⟨⟨hz, u, hu, hc⟩, hs⟩ := hm
      exact ⟨⟨hz, u, hu, cut_M hn _ u hb.1 hc⟩, cut_Me hn es b (o + z) z hb.2 hs⟩
theorem cut_Ms {X : Cx} {n : Nat} (hn : n ≤ X.H.length) : ∀ (cs : List AV) (vs : List Value), belL n cs = true → Ms X cs vs → Ms (X.cut n) cs vs
  | [], _, _, hm => by unfold Ms at hm ⊢; exact hm
  | c :: cs, vs, hb, hm => by
    simp only [belL, Bool.and_eq_true] at hb
    unfold Ms at hm ⊢
    obtain ⟨u, us, hv, hc, hs⟩ := hm
    exact ⟨u, us, hv, cut_M hn c u hb.1 hc, cut_Ms hn cs us hb.2 hs⟩
end
/-- From the state X0 on, by way of X, back to what X0 had. -/
theorem cut_ok {G : Nat → Option (List AV)} {X0 X : Cx} (hR0 : Rel G X0) (hR : Rel G X) (hE : Ext X0 X) {E : List Nat} (hesc : EscI X0.H X.H E) (hge : ∀ e ∈ E, X0.H.length ≤ e) :
    Rel G (X.cut X0.H.length) ∧ Ext X0 (X.cut X0.H.length) ∧ EscI X0.H (X.cut X0.H.length).H [] := by
  have hn := hE.hlen
  have hbel : ∀ l z es, l < X0.H.length → X.H[l]? = some (AObj.row z es) → belL X0.H.length es = true := fun l z es e h1 => by
    rcases hesc l z es h1 with hh | hh
    · have := hge l hh; omega
    · exact hh _ e fun z0 es0 h0 => hR0.wf l z0 es0 h0
  have hmps : ∀ (l : Nat) (es : List (AV × AV)), (X.cut X0.H.length).H[l]? = some (AObj.mp es) → l < X0.H.length ∧ X.H[l]? = some (AObj.mp es) := fun l es h => by
    simp only [Cx.cut] at h
    by_cases e : l < X0.H.length
    · rw [cut_get e] at h; exact ⟨e, h⟩
    · rw [cut_none (Nat.le_of_not_lt e)] at h; cases h
  refine ⟨⟨fun l z es b z' h1 h2 => ?_, fun l l' b z z' h1 h2 h3 h4 => ?_, ⟨fun l es b z h1 h2 => ?_, fun l es h => hR.maps.2 l es (hmps l es h).2⟩, fun g cs hg => ?_, fun l z es h1 => ?_, fun b k hb => ⟨(hR.fb b k hb).1, fun hw => (hR.fb b k hb).2 (cut_wr hw)⟩, hR.gb⟩, ⟨hE.size, by simp [Cx.cut]; omega, hE.keep, fun b hb hw => hE.wr b hb (cut_wr hw), fun l t hl hlt => ?_, hE.tape, hE.os, hE.output, hE.for_, fun l hl hm => ?_⟩, fun l z es h => ?_⟩
  · simp only [Cx.cut] at h1 h2
    by_cases e : l < X0.H.length
    · rw [cut_get e] at h1
      simp only [e, if_true] at h2
      obtain ⟨e1, e2, e3, ee, s, e4, e5, e6⟩ := hR.rows l z es b z' h1 h2
      exact ⟨e1, e2, cut_Me hn _ _ _ _ (hbel l z es e h1) e3, ee, s, e4, e5, e6⟩
    · simp [e] at h2
  · simp only [Cx.cut] at h1 h2 h3 h4
    by_cases e : l < X0.H.length
    · by_cases e' : l' < X0.H.length
      · rw [cut_get e] at h1
        rw [cut_get e'] at h2
        simp only [e, if_true] at h3
        simp only [e', if_true] at h4
        exact hR.inj l l' b z z' h1 h2 h3 h4
      · simp [e'] at h4
    · simp [e] at h3
  · obtain ⟨e, h1'⟩ := hmps l es h1
    have hi : (X.cut X0.H.length).ι l = X.ι l := by simp [Cx.cut, e]
    rw [hi] at h2
    obtain ⟨cs, c, k1, k2, k3, k4⟩ := hR.maps.1 l es b z h1' h2
    exact ⟨cs, c, k1, EntM_map (fun v u hv hm => cut_M hn v u (bel_mono (Nat.zero_le _) v hv) hm) (hR.maps.2 l es h1') k2, k3, k4⟩
  · obtain ⟨h1, h2⟩ := hR.glob g cs hg
    exact ⟨⟨h1.1, fun hw => h1.2 (cut_wr hw)⟩, cut_Mc hn _ _ _ (Mc_bel _ _ _ (hR0.glob g cs hg).2) h2⟩
  · simp only [Cx.cut] at h1 ⊢
    by_cases e : l < X0.H.length
    · rw [cut_get e] at h1
      rw [List.length_take, Nat.min_eq_left hn]
      exact hbel l z es e h1
    · rw [cut_none (Nat.le_of_not_lt e)] at h1; cases h1
  · have hg : (X.cut X0.H.length).H[l]? = X.H[l]? := cut_get hl
    have hi : (X.cut X0.H.length).ι l = X.ι l := by simp [Cx.cut, hl]
    obtain ⟨t0, k0, k1, k2⟩ := hE.grow l t hl (by simpa only [lenOf, hg] using hlt)
    refine ⟨t0, k0, k1, fun e => ?_⟩
    rw [hg, hi]
    exact k2 e
  · have hg : (X.cut X0.H.length).H[l]? = X.H[l]? := cut_get hl
    have hi : (X.cut X0.H.length).ι l = X.ι l := by simp [Cx.cut, hl]
    rw [hg] at hm
    rw [hi]
    exact hE.mps l hl hm
  · by_cases e : l < X0.H.length
    · have h' : X.H[l]? = some (.row z es) := by rw [← cut_get e]; exact h
      rcases hesc l z es h' with hh | hh
      · have := hge l hh; omega
      · exact .inr hh
    · simp only [Cx.cut] at h; rw [cut_none (Nat.le_of_not_lt e)] at h; cases h

mutual
theorem low_M {X Y : Cx} (hw : Y.w = X.w) (him : ∀ b, X.im b → Y.im b) (hif : ∀ b, X.fr.im b → Y.fr.im b) : ∀ (v : AV) (u : Value), v.bel 0 = true → M X v u → M Y v u
  | .ptr l tot i off, u, hb, hm => by simp [AV.bel] at hb
  | .slc l off k tot, u, hb, hm => by simp [AV.bel] at hb
  | .mp l, u, hb, hm => by simp [AV.bel] at hb
  | .nilm, u, hb, hm => by unfold M at hm ⊢; exact hm
  | .lnt v, u, hb, hm => by unfold M at hm ⊢; exact low_M (X := X.fr) (Y := Y.fr) hw hif hif v u (by simpa only [AV.bel] using hb) hm
  | .ip cs, u, hb, hm => by
    simp only [AV.bel] at hb
    unfold M at hm ⊢
    obtain ⟨b, o, hv, hi, hc⟩ := hm
    exact ⟨b, o, hv, him b hi, low_Mc hw him hif cs b o hb hc⟩
  | .lst es, u, hb, hm => by
    simp only [AV.bel] at hb
    unfold M at hm ⊢
    obtain ⟨A, c, hv, hc, hone, he⟩ := hm
    refine ⟨A, c, hv, hc, hone, fun hne => ?_⟩
    obtain ⟨b, o, z, hA, hz, hi, hme⟩ := he hne
    exact ⟨b, o, z, hA, hz, him b hi, low_Me hw him hif es b o z hb hme⟩
  | .agg cs, u, hb, hm => by
    simp only [AV.bel] at hb
    unfold M at hm ⊢
    obtain ⟨vs, hv, hs⟩ := hm
    exact ⟨vs, hv, low_Ms hw him hif cs _ hb hs⟩
  | .tup cs, u, hb, hm => by
    simp only [AV.bel] at hb
    unfold M at hm ⊢
    obtain ⟨vs, hv, hs⟩ := hm
    exact ⟨vs, hv, low_Ms hw him hif cs _ hb hs⟩
  | .clo _ fi ca, u, hb, hm => by
    simp only [AV.bel, Bool.and_eq_true] at hb
    unfold M at hm ⊢
    obtain ⟨fv, cv, hv, h1, h2⟩ := hm
    exact ⟨fv, cv, hv, low_Ms hw him hif fi _ hb.1 h1, low_Ms hw him hif ca _ hb.2 h2⟩
  | .ifc _ v, u, hb, hm => by
    simp only [AV.bel] at hb
    unfold M at hm ⊢
    obtain ⟨u', hv, hs⟩ := hm
    exact ⟨u', hv, low_M hw him hif v u' hb hs⟩
  | .bad, u, hb, hm => by unfold M; trivial
  | .int _ _, u, hb, hm => by unfold M at hm ⊢; exact hm
  | .bool _, u, hb, hm => by unfold M at hm ⊢; exact hm
  | .str _, u, hb, hm => by unfold M at hm ⊢; exact hm
  | .nilp, u, hb, hm => by unfold M at hm ⊢; exact hm
  | .nils, u, hb, hm => by unfold M at hm ⊢; exact hm
  | .emp _, u, hb, hm => by unfold M at hm ⊢; exact hm
  | .nilf, u, hb, hm => by unfold M at hm ⊢; exact hm
  | .nili, u, hb, hm => by unfold M at hm ⊢; exact hm
theorem low_Mc {X Y : Cx} (hw : Y.w = X.w) (him : ∀ b, X.im b → Y.im b) (hif : ∀ b, X.fr.im b → Y.fr.im b) : ∀ (cs : List AV) (b o : Nat), belL 0 cs = true → Mc X cs b o → Mc Y cs b o
  | [], _, _, _, _ => by simp [Mc]
  | c :: cs, b, o, hb, hm => by
    simp only [belL, Bool.and_eq_true] at hb
    unfold Mc at hm ⊢
    obtain ⟨⟨u, hu, hc⟩, hs⟩ := hm
    exact ⟨⟨u, by rw [hw]; exact hu, low_M hw him hif c u hb.1 hc⟩, low_Mc hw him hif cs b (o + 1) hb.2 hs⟩
theorem low_Me {X Y : Cx} (hw : Y.w = X.w) (him : ∀ b, X.im b → Y.im b) (hif : ∀ b, X.fr.im b → Y.fr.im b) : ∀ (es : List AV) (b o z : Nat), belL 0 es = true → Me X es b o z → Me Y es b o z
  | [], _, _, _, _, _ => by simp [Me]
  | e :: es, b, o, z, hb, hm => by
    simp only [belL, Bool.and_eq_true] at hb
    cases e with
    | agg cs =>
      unfold Me at hm ⊢
      exact ⟨⟨hm.1.1, low_Mc hw him hif cs b o (by simpa [AV.bel] using hb.1) hm.1.2⟩, low_Me hw him hif es b (o + z) z hb.2 hm.2⟩
    | _ =>
      unfold Me at hm ⊢
      obtain ⟨⟨hz, u, hu, hc⟩, hs⟩ := hm
      exact ⟨⟨hz, u, by rw [hw]; exact hu, low_M hw him hif _ u hb.1 hc⟩, low_Me hw him hif es b (o + z) z hb.2 hs⟩
theorem low_Ms {X Y : Cx} (hw : Y.w = X.w) (him : ∀ b, X.im b → Y.im b) (hif : ∀ b, X.fr.im b → Y.fr.im b) : ∀ (cs : List AV) (vs : List Value), belL 0 cs = true → Ms X cs vs → Ms Y cs vs
  | [], _, _, hm => by unfold Ms at hm ⊢; exact hm
  | c :: cs, vs, hb, hm => by
    simp only [belL, Bool.and_eq_true] at hb
    unfold Ms at hm ⊢
    obtain ⟨u, us, hv, hc, hs⟩ := hm
    exact ⟨u, us, hv, low_M hw him hif c u hb.1 hc, low_Ms hw him hif cs us hb.2 hs⟩
end
/-- The same world, of which none of the rows is one's own. -/
def Cx.low (X : Cx) : Cx := ⟨fun b k => X.F b k ∨ X.wr b, fun _ => none, [], X.w⟩
theorem low_wr {X : Cx} {b : Nat} : ¬ X.low.wr b := fun ⟨l, z, hr, hi⟩ => by simp [Cx.low] at hi
theorem low_im {X : Cx} {b : Nat} (h : X.im b) : X.low.im b := ⟨⟨h.1.1, fun k hf => hf.elim (h.1.2 k) h.2⟩, low_wr⟩
theorem low_imf {X : Cx} {b : Nat} (h : X.fr.im b) : X.low.fr.im b := ⟨⟨h.1.1, fun k hf => hf.elim (h.1.2 k) h.2⟩, fun ⟨l, z, hr, hi⟩ => by simp [Cx.fr, Cx.low] at hi⟩
theorem low_ok {G : Nat → Option (List AV)} {X : Cx} (hR : Rel G X) : Rel G X.low := by
  refine ⟨fun l z es b z' h1 h2 => by simp [Cx.low] at h2, fun l l' b z z' h1 h2 h3 h4 => by simp [Cx.low] at h3, ⟨fun l es b z h1 h2 => by simp [Cx.low] at h2, fun l es h => by simp [Cx.low] at h⟩, fun g cs hg => ?_, fun l z es h => by simp [Cx.low] at h, fun b k hb => ⟨?_, low_wr⟩, hR.gb⟩
  · obtain ⟨h1, h2⟩ := hR.glob g cs hg
    exact ⟨low_im h1, low_Mc (X := X) (Y := X.low) rfl (fun b => low_im) (fun b => low_imf) _ _ _ (hR.gb g cs hg) h2⟩
  · rcases hb with hb | hb
    · exact (hR.fb b k hb).1
    · exact hR.wr_lt hb
/-- What came of it there, here. -/
theorem high_ok {G : Nat → Option (List AV)} {X Y : Cx} (hR : Rel G X) (hY : Ext X.low Y) (hH : Y.H = []) :
    Rel G ⟨X.F, X.ι, X.H, Y.w⟩ ∧ Ext X ⟨X.F, X.ι, X.H, Y.w⟩ ∧ (∀ b, Y.im b → (⟨X.F, X.ι, X.H, Y.w⟩ : Cx).im b) ∧ ∀ b, Y.fr.im b → (⟨X.F, X.ι, X.H, Y.w⟩ : Cx).fr.im b := by
  have hold : ∀ b, b < X.w.heap.size → Y.w.heap[b]? = X.w.heap[b]? := fun b hb => hY.keep b hb low_wr
  have hcell : ∀ b j u, cellAt X.w b j = some u → cellAt Y.w b j = some u := fun b j u h => by
    have hb := lt_of_cellAt h
    unfold cellAt at h ⊢; rw [hold b hb]; exact h
  have hsize : ∀ b s, sizeAt X.w b = some s → sizeAt Y.w b = some s := fun b s h => by
    have hb := lt_of_sizeAt h
    unfold sizeAt at h ⊢; rw [hold b hb]; exact h
  have hE : Ext X ⟨X.F, X.ι, X.H, Y.w⟩ :=
    ⟨hY.size, Nat.le_refl _, fun b hb _ => hold b hb, fun b _ hw => hw, fun l t hl h => ⟨t, h, Nat.le_refl _, fun _ => ⟨fun hr => ⟨hr, fun b z hb => ⟨hb, by
      obtain ⟨z1, es1, he⟩ := isRow_some hr
      obtain ⟨_, _, _, _, s, hs, _⟩ := hR.rows l z1 es1 b z he hb
      rw [hs]; exact hsize b s hs⟩⟩, fun h => h⟩⟩, hY.tape, hY.os, hY.output, rfl, fun l _ h => ⟨h, rfl⟩⟩
  refine ⟨⟨fun l z es b z' h1 h2 => ?_, fun l l' b z z' h1 h2 h3 h4 => hR.inj l l' b z z' h1 h2 h3 h4, maps_keep hR hE (fun _ _ h => h) (fun b cs c h => (hold b (Array.getElem?_eq_some_iff.1 h).1).trans h), fun g cs hg => ?_, hR.wf, fb_keep hR hE, hR.gb⟩, hE, fun b hb => ?_, fun b hb => ?_⟩
  · obtain ⟨e1, e2, e3, ee, s, e4, e5, e6⟩ := hR.rows l z es b z' h1 h2
    refine ⟨e1, e2, Me_mono hE _ _ _ _ (fun j u hj => hcell b j u hj) e3, ee, s, hsize b s e4, e5, unmark_eq e6 (hold b (lt_of_sizeAt e4))⟩
  · obtain ⟨h1, h2⟩ := hR.glob g cs hg
    exact ⟨im_keep hE h1, Mc_mono hE _ _ _ (fun j u hj => hcell g j u hj) h2⟩
  · have hF : ∀ k, ¬ (X.F b k ∨ X.wr b) := fun k h => hb.1.2 k (by rw [hY.for_]; exact h)
    exact ⟨⟨hb.1.1, fun k h => hF k (.inl h)⟩, fun h => hF true (.inr h)⟩
  · have hF : ¬ (X.F b true ∨ X.wr b) := fun h => hb.1.2 true (by show Y.F b true; rw [hY.for_]; exact h)
    exact ⟨⟨hb.1.1, fun k h => hF (.inl h)⟩, fun h => hF (.inr h)⟩

theorem fr_im {X : Cx} {b : Nat} (h : X.im b) : X.fr.im b := ⟨⟨h.1.1, fun _ => h.1.2 true⟩, h.2⟩
mutual
theorem M_fr {X : Cx} : ∀ (v : AV) (u : Value), M X v u → M X.fr v u
  | .bad, _, _ => by unfold M; trivial
  | .int _ _, _, hm => by unfold M at hm ⊢; exact hm
  | .bool _, _, hm => by unfold M at hm ⊢; exact hm
  | .str _, _, hm => by unfold M at hm ⊢; exact hm
  | .nilp, _, hm => by unfold M at hm ⊢; exact hm
  | .nils, _, hm => by unfold M at hm ⊢; exact hm
  | .emp _, _, hm => by unfold M at hm ⊢; exact hm
  | .nilf, _, hm => by unfold M at hm ⊢; exact hm
  | .nili, _, hm => by unfold M at hm ⊢; exact hm
  | .nilm, _, hm => by unfold M at hm ⊢; exact hm
  | .lnt a, u, hm => by unfold M at hm ⊢; exact M_fr (X := X.fr) a u hm
  | .mp l, u, hm => by unfold M at hm ⊢; exact hm
  | .ptr l tot i off, u, hm => by unfold M at hm ⊢; exact hm
  | .slc l off n tot, u, hm => by unfold M at hm ⊢; exact hm
  | .ip cs, u, hm => by
    unfold M at hm ⊢
    obtain ⟨b, o, hv, hb, hc⟩ := hm
    exact ⟨b, o, hv, fr_im hb, Mc_fr cs b o hc⟩
  | .lst es, u, hm => by
    unfold M at hm ⊢
    obtain ⟨A, c, hv, hc, h1, he⟩ := hm
    refine ⟨A, c, hv, hc, h1, fun hn => ?_⟩
    obtain ⟨b, o, z, hA, hz, hb, hme⟩ := he hn
    exact ⟨b, o, z, hA, hz, fr_im hb, Me_fr es b o z hme⟩
  | .agg cs, u, hm => by
    unfold M at hm ⊢
    obtain ⟨vs, hv, hs⟩ := hm
    exact ⟨vs, hv, Ms_fr cs vs.toList hs⟩
  | .tup cs, u, hm => by
    unfold M at hm ⊢
    obtain ⟨vs, hv, hs⟩ := hm
    exact ⟨vs, hv, Ms_fr cs vs.toList hs⟩
  | .clo f fi ca, u, hm => by
    unfold M at hm ⊢
    obtain ⟨fv, cv, hv, ha, hb⟩ := hm
    exact ⟨fv, cv, hv, Ms_fr fi _ ha, Ms_fr ca _ hb⟩
  | .ifc t a, u, hm => by
    unfold M at hm ⊢
    obtain ⟨u, hv, ha⟩ := hm
    exact ⟨u, hv, M_fr a u ha⟩
theorem Mc_fr {X : Cx} : ∀ (cs : List AV) (b o : Nat), Mc X cs b o → Mc X.fr cs b o
  | [], _, _, _ => by unfold Mc; trivial
  | c :: cs, b, o, hm => by
    unfold Mc at hm ⊢
    obtain ⟨⟨u, hu, hc⟩, hs⟩ := hm
    exact ⟨⟨u, hu, M_fr c u hc⟩, Mc_fr cs b (o + 1) hs⟩
theorem Me_fr {X : Cx} : ∀ (es : List AV) (b o z : Nat), Me X es b o z → Me X.fr es b o z
  | [], _, _, _, _ => by unfold Me; trivial
  | e :: es, b, o, z, hm => by
    cases e with
    | agg cs =>
      unfold Me at hm ⊢
      exact ⟨⟨hm.1.1, Mc_fr cs b o hm.1.2⟩, Me_fr es b (o + z) z hm.2⟩
    | _ =>
      unfold Me at hm ⊢
      obtain ⟨⟨hz, u, hu, hc⟩, hs⟩ := hm
      exact ⟨⟨hz, u, hu, M_fr _ u hc⟩, Me_fr es b (o + z) z hs⟩
theorem Ms_fr {X : Cx} : ∀ (cs : List AV) (vs : List Value), Ms X cs vs → Ms X.fr cs vs
  | [], _, hm => by unfold Ms at hm ⊢; exact hm
  | c :: cs, vs, hm => by
    unfold Ms at hm ⊢
    obtain ⟨u, us, hv, hc, hs⟩ := hm
    exact ⟨u, us, hv, M_fr c u hc, Ms_fr cs us hs⟩
end
mutual
theorem lntW_M {X : Cx} : ∀ (v : AV) (u : Value), M X.fr v u → M X (lntW v) u
  | .bad, _, _ => by unfold lntW M; trivial
  | .int _ _, _, hm => by unfold M at hm; unfold lntW M; exact hm
  | .bool _, _, hm => by unfold M at hm; unfold lntW M; exact hm
  | .str _, _, hm => by unfold M at hm; unfold lntW M; exact hm
  | .nilp, _, hm => by unfold M at hm; unfold lntW M; exact hm
  | .nils, _, hm => by unfold M at hm; unfold lntW M; exact hm
  | .emp _, _, hm => by unfold M at hm; unfold lntW M; exact hm
  | .nilf, _, hm => by unfold M at hm; unfold lntW M; exact hm
  | .nili, _, hm => by unfold M at hm; unfold lntW M; exact hm
  | .nilm, _, hm => by unfold M at hm; unfold lntW M; exact hm
  | .lnt a, u, hm => by unfold M at hm; unfold lntW M; exact hm
  | .mp l, u, hm => by unfold M at hm; unfold lntW M; exact hm
  | .ptr l tot i off, u, hm => by unfold M at hm; unfold lntW M; exact hm
  | .slc l off n tot, u, hm => by unfold M at hm; unfold lntW M; exact hm
  | .ip cs, u, hm => by unfold lntW M; exact hm
  | .lst es, u, hm => by unfold lntW M; exact hm
  | .agg cs, u, hm => by
    unfold M at hm; unfold lntW M
    obtain ⟨vs, hv, hs⟩ := hm
    exact ⟨vs, hv, lntWL_Ms cs vs.toList hs⟩
  | .tup cs, u, hm => by
    unfold M at hm; unfold lntW M
    obtain ⟨vs, hv, hs⟩ := hm
    exact ⟨vs, hv, lntWL_Ms cs vs.toList hs⟩
  | .clo f fi ca, u, hm => by
    unfold M at hm; unfold lntW M
    obtain ⟨fv, cv, hv, ha, hb⟩ := hm
    exact ⟨fv, cv, hv, lntWL_Ms fi _ ha, lntWL_Ms ca _ hb⟩
  | .ifc t a, u, hm => by
    unfold M at hm; unfold lntW M
    obtain ⟨u, hv, ha⟩ := hm
    exact ⟨u, hv, lntW_M a u ha⟩
theorem lntWL_Ms {X : Cx} : ∀ (cs : List AV) (vs : List Value), Ms X.fr cs vs → Ms X (lntWL cs) vs
  | [], _, hm => by unfold Ms at hm; unfold lntWL Ms; exact hm
  | c :: cs, vs, hm => by
    unfold Ms at hm; unfold lntWL Ms
    obtain ⟨u, us, hv, hc, hs⟩ := hm
    exact ⟨u, us, hv, lntW_M c u hc, lntWL_Ms cs us hs⟩
end
theorem lntW_one : ∀ (v : AV), v.one = true → (lntW v).one = true ∧ (lntW v).cells = [lntW v] := fun v h => by
  cases v <;> first | (simp [AV.one] at h; done) | exact ⟨by simpa [lntW, AV.one] using h, rfl⟩
theorem lntWL_map : ∀ (cs : List AV), lntWL cs = cs.map lntW
  | [] => rfl
  | c :: cs => by simp only [lntWL, List.map_cons, lntWL_map cs]
theorem lntW_cells (v : AV) (h : v.isBad = false) : (lntW v).cells = lntWL v.cells := by
  cases v <;> first | rfl | (simp [AV.isBad] at h)
theorem er_one : ∀ (v : AV), v.one = true → (er v).one = true ∧ (er v).cells = [er v]
  | .agg _, h | .tup _, h | .bad, h => by simp [AV.one] at h
  | .lnt v, h => by simp only [er]; exact er_one v (by simpa only [AV.one] using h)
  | .int _ _, _ | .bool _, _ | .str _, _ | .nilp, _ | .ptr _ _ _ _, _ | .ip _, _ | .lst _, _ | .nils, _ | .emp _, _ | .slc _ _ _ _, _ | .clo _ _ _, _ | .nilf, _ | .ifc _ _, _ | .nili, _ | .mp _, _ | .nilm, _ => ⟨rfl, rfl⟩
theorem erL_map : ∀ (cs : List AV), erL cs = cs.map er
  | [] => rfl
  | c :: cs => by simp only [erL, List.map_cons, erL_map cs]
mutual
theorem er_M {X : Cx} : ∀ (v : AV) (u : Value), M X v u → M X.fr (er v) u
  | .bad, _, _ => by unfold er M; trivial
  | .int _ _, _, hm => by unfold M at hm; unfold er M; exact hm
  | .bool _, _, hm => by unfold M at hm; unfold er M; exact hm
  | .str _, _, hm => by unfold M at hm; unfold er M; exact hm
  | .nilp, _, hm => by unfold M at hm; unfold er M; exact hm
  | .nils, _, hm => by unfold M at hm; unfold er M; exact hm
  | .emp _, _, hm => by unfold M at hm; unfold er M; exact hm
  | .nilf, _, hm => by unfold M at hm; unfold er M; exact hm
  | .nili, _, hm => by unfold M at hm; unfold er M; exact hm
  | .nilm, _, hm => by unfold M at hm; unfold er M; exact hm
  | .lnt a, u, hm => by unfold M at hm; unfold er; exact er_M (X := X.fr) a u hm
  | .mp l, u, hm => by unfold M at hm; unfold er M; exact hm
  | .ptr l tot i off, u, hm => by unfold M at hm; unfold er M; exact hm
  | .slc l off n tot, u, hm => by unfold M at hm; unfold er M; exact hm
  | .ip cs, u, hm => by
    unfold M at hm; unfold er M
    obtain ⟨b, o, hv, hb, hc⟩ := hm
    exact ⟨b, o, hv, fr_im hb, er_Mc cs b o hc⟩
  | .lst es, u, hm => by
    unfold M at hm; unfold er M
    obtain ⟨A, c, hv, hc, h1, he⟩ := hm
    rw [erL_map]
    refine ⟨A, c, by simpa using hv, by simpa using hc, fun e he' => ?_, fun hn => ?_⟩
    · obtain ⟨e0, h2, rfl⟩ := List.mem_map.1 he'
      have h3 := h1 e0 h2
      cases e0 with
      | agg cs =>
        simp only [AV.cells, List.all_eq_true] at h3
        simp only [er, AV.cells, erL_map, List.all_map, List.all_eq_true]
        exact fun c hc => (er_one c (h3 c hc)).1
      | tup _ | bad => simp [AV.cells, AV.one] at h3
      | _ =>
        obtain ⟨g1, g2⟩ := er_one _ (by simpa [AV.cells] using h3)
        rw [g2]; simpa using g1
    · obtain ⟨b, o, z, hA, hz, hb, hme⟩ := he (by intro e; subst e; exact hn rfl)
      exact ⟨b, o, z, hA, hz, fr_im hb, by rw [← erL_map]; exact er_Me es h1 b o z hme⟩
  | .agg cs, u, hm => by
    unfold M at hm; unfold er M
    obtain ⟨vs, hv, hs⟩ := hm
    exact ⟨vs, hv, er_Ms cs vs.toList hs⟩
  | .tup cs, u, hm => by
    unfold M at hm; unfold er M
    obtain ⟨vs, hv, hs⟩ := hm
    exact ⟨vs, hv, er_Ms cs vs.toList hs⟩
  | .clo f fi ca, u, hm => by
    unfold M at hm; unfold er M
    obtain ⟨fv, cv, hv, ha, hb⟩ := hm
    exact ⟨fv, cv, hv, er_Ms fi _ ha, er_Ms ca _ hb⟩
  | .ifc t a, u, hm => by
    unfold M at hm; unfold er M
    obtain ⟨u, hv, ha⟩ := hm
    exact ⟨u, hv, er_M a u ha⟩
theorem er_Mc {X : Cx} : ∀ (cs : List AV) (b o : Nat), Mc X cs b o → Mc X.fr (erL cs) b o
  | [], _, _, _ => by unfold erL Mc; trivial
  | c :: cs, b, o, hm => by
    unfold Mc at hm; unfold erL Mc
    obtain ⟨⟨u, hu, hc⟩, hs⟩ := hm
    exact ⟨⟨u, hu, er_M c u hc⟩, er_Mc cs b (o + 1) hs⟩
theorem er_Me {X : Cx} : ∀ (es : List AV), oneL es → ∀ (b o z : Nat), Me X es b o z → Me X.fr (erL es) b o z
  | [], _, _, _, _, _ => by unfold erL Me; trivial
  | e :: es, h1, b, o, z, hm => by
    have h2 : oneL es := fun c hc => h1 c (List.mem_cons_of_mem _ hc)
    have h3 := h1 e (List.mem_cons_self ..)
    cases e with
    | agg cs =>
      unfold Me at hm; unfold erL
      refine Me_mk (X := X.fr) ?_ ?_ (er_Me es h2 b (o + z) z hm.2)
      · simp only [er, AV.cells, erL_map, List.length_map]; exact hm.1.1
      · simp only [er, AV.cells]; exact er_Mc cs b o hm.1.2
    | tup _ | bad => simp [AV.cells, AV.one] at h3
    | _ =>
      unfold Me at hm; unfold erL
      obtain ⟨⟨hz, u, hu, hc⟩, hs⟩ := hm
      obtain ⟨g1, g2⟩ := er_one _ (by simpa [AV.cells] using h3)
      refine Me_mk (X := X.fr) (by rw [g2]; exact hz.symm) ?_ (er_Me es h2 b (o + z) z hs)
      rw [g2]
      unfold Mc
      exact ⟨⟨u, hu, er_M _ u hc⟩, by unfold Mc; trivial⟩
theorem er_Ms {X : Cx} : ∀ (cs : List AV) (vs : List Value), Ms X cs vs → Ms X.fr (erL cs) vs
  | [], _, hm => by unfold Ms at hm; unfold erL Ms; exact hm
  | c :: cs, vs, hm => by
    unfold Ms at hm; unfold erL Ms
    obtain ⟨u, us, hv, hc, hs⟩ := hm
    exact ⟨u, us, hv, er_M c u hc, er_Ms cs us hs⟩
end
theorem fr_MapOk {X : Cx} {es : List (AV × AV)} {b : Nat} (hb : ∀ p ∈ es, p.2.bel 0 = true) (h : MapOk X es b) : MapOk X.fr es b := by
  unfold MapOk at h ⊢
  obtain ⟨cs, clock, h1, h2, h3⟩ := h
  exact ⟨cs, clock, h1, EntM_map (X := X) (Y := X.fr) (fun v u _ hm => M_fr v u hm) hb h2, h3⟩
theorem Rel.fr {G : Nat → Option (List AV)} {X : Cx} (h : Rel G X) : Rel G X.fr := by
  refine ⟨fun l z es b z' h1 h2 => ?_, h.inj, ⟨fun l es b z h1 h2 => fr_MapOk (h.maps.2 l es h1) (h.maps.1 l es b z h1 h2), h.maps.2⟩, fun g cs hg => ?_, h.wf, fun b k hb => h.fb b true hb, h.gb⟩
  · obtain ⟨e1, e2, e3, e4, e5⟩ := h.rows l z es b z' h1 h2
    exact ⟨e1, e2, Me_fr _ _ _ _ e3, e4, e5⟩
  · obtain ⟨e1, e2⟩ := h.glob g cs hg
    exact ⟨fr_im e1, Mc_fr _ _ _ e2⟩

mutual
theorem nol_M {X Y : Cx} (hw : Y.w = X.w) (him : ∀ b, X.im b → Y.im b) : ∀ (v : AV) (u : Value), v.bel 0 = true → v.noL = true → M X v u → M Y v u
  | .ptr l tot i off, u, hb, hn, hm => by simp [AV.bel] at hb
  | .slc l off k tot, u, hb, hn, hm => by simp [AV.bel] at hb
  | .mp l, u, hb, hn, hm => by simp [AV.bel] at hb
  | .nilm, u, hb, hn, hm => by unfold M at hm ⊢; exact hm
  | .lnt v, u, hb, hn, hm => by simp [AV.noL] at hn
  | .ip cs, u, hb, hn, hm => by
    simp only [AV.bel] at hb; simp only [AV.noL] at hn
    unfold M at hm ⊢
    obtain ⟨b, o, hv, hi, hc⟩ := hm
    exact ⟨b, o, hv, him b hi, nol_Mc hw him cs b o hb hn hc⟩
  | .lst es, u, hb, hn, hm => by
    simp only [AV.bel] at hb; simp only [AV.noL] at hn
    unfold M at hm ⊢
    obtain ⟨A, c, hv, hc, hone, he⟩ := hm
    refine ⟨A, c, hv, hc, hone, fun hne => ?_⟩
    obtain ⟨b, o, z, hA, hz, hi, hme⟩ := he hne
    exact ⟨b, o, z, hA, hz, him b hi, nol_Me hw him es b o z hb hn hme⟩
  | .agg cs, u, hb, hn, hm => by
    simp only [AV.bel] at hb; simp only [AV.noL] at hn
    unfold M at hm ⊢
    obtain ⟨vs, hv, hs⟩ := hm
    exact ⟨vs, hv, nol_Ms hw him cs _ hb hn hs⟩
  | .tup cs, u, hb, hn, hm => by
    simp only [AV.bel] at hb; simp only [AV.noL] at hn
    unfold M at hm ⊢
    obtain ⟨vs, hv, hs⟩ := hm
    exact ⟨vs, hv, nol_Ms hw him cs _ hb hn hs⟩
  | .clo _ fi ca, u, hb, hn, hm => by
    simp only [AV.bel, Bool.and_eq_true] at hb; simp only [AV.noL, Bool.and_eq_true] at hn
    unfold M at hm ⊢
    obtain ⟨fv, cv, hv, h1, h2⟩ := hm
    exact ⟨fv, cv, hv, nol_Ms hw him fi _ hb.1 hn.1 h1, nol_Ms hw him ca _ hb.2 hn.2 h2⟩
  | .ifc _ v, u, hb, hn, hm => by
    simp only [AV.bel] at hb; simp only [AV.noL] at hn
    unfold M at hm ⊢
    obtain ⟨u', hv, hs⟩ := hm
    exact ⟨u', hv, nol_M hw him v u' hb hn hs⟩
  | .bad, u, hb, hn, hm => by unfold M; trivial
  | .int _ _, u, hb, hn, hm => by unfold M at hm ⊢; exact hm
  | .bool _, u, hb, hn, hm => by unfold M at hm ⊢; exact hm
  | .str _, u, hb, hn, hm => by unfold M at hm ⊢; exact hm
  | .nilp, u, hb, hn, hm => by unfold M at hm ⊢; exact hm
  | .nils, u, hb, hn, hm => by unfold M at hm ⊢; exact hm
  | .emp _, u, hb, hn, hm => by unfold M at hm ⊢; exact hm
  | .nilf, u, hb, hn, hm => by unfold M at hm ⊢; exact hm
  | .nili, u, hb, hn, hm => by unfold M at hm ⊢; exact hm
theorem nol_Mc {X Y : Cx} (hw : Y.w = X.w) (him : ∀ b, X.im b → Y.im b) : ∀ (cs : List AV) (b o : Nat), belL 0 cs = true → noLL cs = true → Mc X cs b o → Mc Y cs b o
  | [], _, _, _, _, _ => by simp [Mc]
  | c :: cs, b, o, hb, hn, hm => by
    simp only [belL, Bool.and_eq_true] at hb; simp only [noLL, Bool.and_eq_true] at hn
    unfold Mc at hm ⊢
    obtain ⟨⟨u, hu, hc⟩, hs⟩ := hm
    exact ⟨⟨u, by rw [hw]; exact hu, nol_M hw him c u hb.1 hn.1 hc⟩, nol_Mc hw him cs b (o + 1) hb.2 hn.2 hs⟩
theorem nol_Me {X Y : Cx} (hw : Y.w = X.w) (him : ∀ b, X.im b → Y.im b) : ∀ (es : List AV) (b o z : Nat), belL 0 es = true → noLL es = true → Me X es b o z → Me Y es b o z
  | [], _, _, _, _, _, _ => by simp [Me]
  | e :: es, b, o, z, hb, hn, hm => by
    simp only [belL, Bool.and_eq_true] at hb; simp only [noLL, Bool.and_eq_true] at hn
    cases e with
    | agg cs =>
      unfold Me at hm ⊢
      exact ⟨⟨hm.1.1, nol_Mc hw him cs b o (by simpa [AV.bel] using hb.1) (by simpa [AV.noL] using hn.1) hm.1.2⟩, nol_Me hw him es b (o + z) z hb.2 hn.2 hm.2⟩
    | _ =>
      unfold Me at hm ⊢
      obtain ⟨⟨hz, u, hu, hc⟩, hs⟩ := hm
      exact ⟨⟨hz, u, by rw [hw]; exact hu, nol_M hw him _ u hb.1 hn.1 hc⟩, nol_Me hw him es b (o + z) z hb.2 hn.2 hs⟩
theorem nol_Ms {X Y : Cx} (hw : Y.w = X.w) (him : ∀ b, X.im b → Y.im b) : ∀ (cs : List AV) (vs : List Value), belL 0 cs = true → noLL cs = true → Ms X cs vs → Ms Y cs vs
  | [], _, _, _, hm => by unfold Ms at hm ⊢; exact hm
  | c :: cs, vs, hb, hn, hm => by
    simp only [belL, Bool.and_eq_true] at hb; simp only [noLL, Bool.and_eq_true] at hn
    unfold Ms at hm ⊢
    obtain ⟨u, us, hv, hc, hs⟩ := hm
    exact ⟨u, us, hv, nol_M hw him c u hb.1 hn.1 hc, nol_Ms hw him cs us hb.2 hn.2 hs⟩
end
/-- The same world, of which none of the rows is one's own, but for what is lent. -/
def Cx.lowL (X : Cx) : Cx := ⟨fun b k => X.F b k ∨ (k = false ∧ X.wr b), fun _ => none, [], X.w⟩
theorem lowL_wr {X : Cx} {b : Nat} : ¬ X.lowL.wr b := fun ⟨l, z, hr, hi⟩ => by simp [Cx.lowL] at hi
theorem lowL_im {X : Cx} {b : Nat} (h : X.im b) : X.lowL.im b := ⟨⟨h.1.1, fun k hf => hf.elim (h.1.2 k) fun q => h.2 q.2⟩, lowL_wr⟩
theorem lowL_imf {X : Cx} {b : Nat} (h : X.fr.im b) : X.lowL.fr.im b := ⟨⟨h.1.1, fun k hf => hf.elim (h.1.2 k) fun q => absurd q.1 (by simp)⟩, fun ⟨l, z, hr, hi⟩ => by simp [Cx.fr, Cx.lowL] at hi⟩
theorem lowL_row {X : Cx} {b : Nat} (h : b < X.w.heap.size) (hF : ¬ X.F b true) : X.lowL.fr.im b := ⟨⟨h, fun k hf => hf.elim hF fun q => absurd q.1 (by simp)⟩, fun ⟨l, z, hr, hi⟩ => by simp [Cx.fr, Cx.lowL] at hi⟩
theorem lowL_ok {G : Nat → Option (List AV)} {X : Cx} (hR : Rel G X) : Rel G X.lowL := by
  refine ⟨fun l z es b z' h1 h2 => by simp [Cx.lowL] at h2, fun l l' b z z' h1 h2 h3 h4 => by simp [Cx.lowL] at h3, ⟨fun l es b z h1 h2 => by simp [Cx.lowL] at h2, fun l es h => by simp [Cx.lowL] at h⟩, fun g cs hg => ?_, fun l z es h => by simp [Cx.lowL] at h, fun b k hb => ⟨?_, lowL_wr⟩, hR.gb⟩
  · obtain ⟨h1, h2⟩ := hR.glob g cs hg
    exact ⟨lowL_im h1, low_Mc (X := X) (Y := X.lowL) rfl (fun b => lowL_im) (fun b => lowL_imf) _ _ _ (hR.gb g cs hg) h2⟩
  · rcases hb with hb | hb
    · exact (hR.fb b k hb).1
    · exact hR.wr_lt hb.2
theorem mapO_len {g : AV → Option AV} : ∀ {l l' : List AV}, mapO g l = some l' → l'.length = l.length
  | [], l', h => by simp only [mapO, Option.some.injEq] at h; subst h; rfl
  | c :: cs, l', h => by
    simp only [mapO, Option.bind_eq_some_iff, Option.map_eq_some_iff] at h
    obtain ⟨c', _, ds, h2, rfl⟩ := h
    simp [mapO_len h2]
theorem lndWL_len {g : AV → Option AV} {H : List AObj} : ∀ {l l' : List AV}, lndWL g H l = some l' → l'.length = l.length
  | [], l', h => by simp only [lndWL, Option.some.injEq] at h; subst h; rfl
  | c :: cs, l', h => by
    simp only [lndWL, Option.bind_eq_some_iff, Option.map_eq_some_iff] at h
    obtain ⟨c', _, ds, h2, rfl⟩ := h
    simp [lndWL_len h2]
theorem lndW_one {g : AV → Option AV} {H : List AObj} {v v' : AV} (h1 : v.one = true) (h : lndW g H v = some v') : v'.one = true ∧ v'.cells = [v'] := by
  cases v with
  | agg _ | tup _ | bad => simp [AV.one] at h1
  | slc l off n tot =>
    simp only [lndW] at h
    (repeat' split at h) <;> first | (simp only [Option.map_eq_some_iff] at h; obtain ⟨_, _, rfl⟩ := h; exact ⟨rfl, rfl⟩) | (injection h with h; subst h; exact ⟨rfl, rfl⟩) | cases h
  | lst es =>
    simp only [lndW, Option.map_eq_some_iff] at h
    obtain ⟨_, _, rfl⟩ := h; exact ⟨rfl, rfl⟩
  | lnt v => simp only [lndW, Option.some.injEq] at h; subst h; exact ⟨h1, rfl⟩
  | _ => simp only [lndW, Option.some.injEq] at h; subst h; exact ⟨rfl, rfl⟩
/-- what g makes of one cell -/
def LndOk (X : Cx) (g : AV → Option AV) : Prop := ∀ v v' u, g v = some v' → (v.one = true → v'.one = true ∧ v'.cells = [v']) ∧ (v'.bel 0 = true → M X v u → M X.lowL v' u)
theorem mapO_Mc {X : Cx} {g : AV → Option AV} (hg : LndOk X g) : ∀ (cs cs' : List AV) (b o : Nat), mapO g cs = some cs' → belL 0 cs' = true → Mc X cs b o → Mc X.lowL cs' b o
  | [], cs', b, o, h, hb, hm => by simp only [mapO, Option.some.injEq] at h; subst h; unfold Mc; trivial
  | c :: cs, cs', b, o, h, hb, hm => by
    simp only [mapO, Option.bind_eq_some_iff, Option.map_eq_some_iff] at h
    obtain ⟨c', h1, ds, h2, rfl⟩ := h
    simp only [belL, Bool.and_eq_true] at hb
    unfold Mc at hm ⊢
    obtain ⟨⟨u, hu, hc⟩, hs⟩ := hm
    exact ⟨⟨u, hu, (hg c c' u h1).2 hb.1 hc⟩, mapO_Mc hg cs ds b (o + 1) h2 hb.2 hs⟩
theorem mapO_one {X : Cx} {g : AV → Option AV} (hg : LndOk X g) : ∀ (cs cs' : List AV), mapO g cs = some cs' → cs.all AV.one = true → cs'.all AV.one = true
  | [], cs', h, _ => by simp only [mapO, Option.some.injEq] at h; subst h; rfl
  | c :: cs, cs', h, h1 => by
    simp only [mapO, Option.bind_eq_some_iff, Option.map_eq_some_iff] at h
    obtain ⟨c', h2, ds, h3, rfl⟩ := h
    simp only [List.all_cons, Bool.and_eq_true] at h1 ⊢
    exact ⟨((hg c c' (.bool true) h2).1 h1.1).1, mapO_one hg cs ds h3 h1.2⟩
theorem mapO_Me {X : Cx} {g : AV → Option AV} (hg : LndOk X g) : ∀ (es es' : List AV), oneL es → ∀ (b o z : Nat), mapO (lndE g) es = some es' → belL 0 es' = true → Me X es b o z → Me X.lowL es' b o z ∧ oneL es'
  | [], es', _, b, o, z, h, hb, hm => by simp only [mapO, Option.some.injEq] at h; subst h; exact ⟨by unfold Me; trivial, fun e he => by cases he⟩
  | e :: es, es', h1, b, o, z, h, hb, hm => by
    have h2 : oneL es := fun c hc => h1 c (List.mem_cons_of_mem _ hc)
    have h3 := h1 e (List.mem_cons_self ..)
    simp only [mapO, Option.bind_eq_some_iff, Option.map_eq_some_iff] at h
    obtain ⟨e', h4, ds, h5, rfl⟩ := h
    simp only [belL, Bool.and_eq_true] at hb
    obtain ⟨⟨m1, m2⟩, m3⟩ := Me_cons hm
    obtain ⟨i1, i2⟩ := mapO_Me hg es ds h2 b (o + z) z h5 hb.2 m3
    have key : e'.cells.length = z ∧ Mc X.lowL e'.cells b o ∧ e'.cells.all AV.one = true := by
      cases e with
      | agg cs =>
        simp only [lndE, Option.map_eq_some_iff] at h4
        obtain ⟨cs', h6, rfl⟩ := h4
        exact ⟨by simp only [AV.cells, mapO_len h6]; exact m1, mapO_Mc hg cs cs' b o h6 (by simpa only [AV.bel] using hb.1) m2, mapO_one hg cs cs' h6 h3⟩
      | tup _ | bad => simp [AV.cells, AV.one] at h3
      | _ =>
        simp only [lndE] at h4
        have h6 := ((hg _ e' (.bool true) h4).1 (by simpa [AV.cells] using h3))
        simp only [AV.cells] at m1 m2
        unfold Mc at m2
        obtain ⟨⟨u, hu, hc⟩, _⟩ := m2
        rw [h6.2]
        exact ⟨m1, by unfold Mc; exact ⟨⟨u, hu, (hg _ e' u h4).2 hb.1 hc⟩, by unfold Mc; trivial⟩, by simpa using h6.1⟩
    refine ⟨Me_mk key.1 key.2.1 i1, fun x hx => ?_⟩
    rcases List.mem_cons.1 hx with rfl | hx
    · exact key.2.2
    · exact i2 x hx
theorem agg_or (e : AV) (h : e.cells.all AV.one = true) : (∃ cs, e = .agg cs) ∨ (e.one = true ∧ e.cells = [e]) := by
  cases e <;> first | exact .inl ⟨_, rfl⟩ | (simp [AV.cells, AV.one] at h; done) | exact .inr ⟨by simpa [AV.cells] using h, rfl⟩
theorem Me_drop {X : Cx} {es : List AV} {b o z : Nat} (h : Me X es b o z) (k : Nat) : Me X (es.drop k) b (o + k * z) z :=
  Me_of_get fun i e he => by
    rw [List.getElem?_drop] at he
    have := Me_get h he
    rwa [Nat.add_mul, ← Nat.add_assoc] at this
theorem Me_take {X : Cx} {es : List AV} {b o z : Nat} (h : Me X es b o z) (k : Nat) : Me X (es.take k) b o z :=
  Me_of_get fun i e he => by
    rw [List.getElem?_take] at he
    split at he
    · exact Me_get h he
    · cases he
mutual
theorem lndW_M {G : Nat → Option (List AV)} {X : Cx} (hR : Rel G X) {g : AV → Option AV} (hg : LndOk X g) : ∀ (v v' : AV) (u : Value), lndW g X.H v = some v' → v'.bel 0 = true → M X v u → M X.lowL v' u
  | .slc l off n tot, v', u, h, hb, hm => by
    simp only [lndW] at h
    split at h
    · rename_i z es hl
      split at h
      · rename_i ht
        simp only [Option.map_eq_some_iff] at h
        obtain ⟨es', h1, rfl⟩ := h
        unfold M at hm
        obtain ⟨_, _, h3⟩ := hm
        rcases h3 (by simp [lenOf, hl, ht]) with ⟨h4, _⟩ | ⟨_, A, c, b, z', s, hi, hv, a1, a2, a3, a4⟩
        · rw [hl] at h4; cases h4
        · obtain ⟨e1, e2, e3, e4, s', e5, e6, e7⟩ := hR.rows l z es b z' hl hi
          subst e1
          have hlen : ((es.drop off).take n).length = n := by simp; omega
          have hn := (mapO_len h1).trans hlen
          have hone : oneL ((es.drop off).take n) := fun e he => e4 e (List.mem_of_mem_drop (List.mem_of_mem_take he))
          obtain ⟨k1, k2⟩ := mapO_Me hg _ es' hone b (0 + off * z') z' h1 (by simpa only [AV.bel] using hb) (Me_take (Me_drop e3 off) n)
          unfold M M
          refine ⟨A, c, by rw [hn]; exact hv, by omega, k2, fun hne => ?_⟩
          have hpos : 0 < n := by rw [← hn]; exact List.length_pos_iff.2 hne
          rcases a4 with a4 | ⟨a4, a5⟩
          · omega
          · refine ⟨b, off * z', z', a4, e2, lowL_row (lt_of_sizeAt e5) (fun hF => (hR.fb b true hF).2 ⟨l, z', .inl (by rw [hl]; simp [isRow]), hi⟩), ?_⟩
            rw [Nat.zero_add] at k1
            exact Me_fr _ _ _ _ k1
      · cases h
    · rename_i hl
      split at h
      · rename_i ht
        injection h with h; subst h
        unfold M at hm
        obtain ⟨_, _, h3⟩ := hm
        rcases h3 (by simp [lenOf, hl, ht]) with ⟨_, _, _, h4⟩ | ⟨h4, _⟩
        · unfold M; exact ⟨none, 0, by simpa using h4, by simp, by simp [oneL], fun h => absurd rfl h⟩
        · rw [hl] at h4; exact h4.elim
      · cases h
    · cases h
  | .nils, v', u, h, hb, hm => by
    simp only [lndW, Option.some.injEq] at h; subst h
    unfold M at hm ⊢
    exact ⟨none, 0, by simpa using hm, by simp, by simp [oneL], fun h => absurd rfl h⟩
  | .emp k, v', u, h, hb, hm => by
    simp only [lndW, Option.some.injEq] at h; subst h
    unfold M at hm ⊢
    unfold M
    obtain ⟨A, c, h1, _⟩ := hm
    exact ⟨A, c, by simpa using h1, by simp, by simp [oneL], fun h => absurd rfl h⟩
  | .lst es, v', u, h, hb, hm => by
    simp only [lndW, Option.map_eq_some_iff] at h
    obtain ⟨es', h1, rfl⟩ := h
    unfold M at hm ⊢
    obtain ⟨A, c, hv, hc, h2, he⟩ := hm
    have hl := lndWL_len h1
    have key : ∀ b o z, Me X es b o z → Me X.lowL es' b o z ∧ oneL es' := fun b o z hm => lndWL_Me hR hg es es' h2 b o z h1 (by simpa only [AV.bel] using hb) hm
    refine ⟨A, c, by rw [hl]; exact hv, by omega, ?_, fun hn => ?_⟩
    · cases es with
      | nil => simp only [lndWL, Option.some.injEq] at h1; subst h1; exact fun e he => by cases he
      | cons e es =>
        obtain ⟨b, o, z, _, _, _, hme⟩ := he (by simp)
        exact (key b o z hme).2
    · obtain ⟨b, o, z, hA, hz, hi, hme⟩ := he (by intro e; subst e; exact hn (List.eq_nil_of_length_eq_zero hl))
      exact ⟨b, o, z, hA, hz, lowL_im hi, (key b o z hme).1⟩
  | .agg cs, v', u, h, hb, hm => by
    simp only [lndW, Option.map_eq_some_iff] at h
    obtain ⟨cs', h1, rfl⟩ := h
    unfold M at hm ⊢
    obtain ⟨vs, hv, hs⟩ := hm
    exact ⟨vs, hv, lndWL_Ms hR hg cs cs' _ h1 (by simpa only [AV.bel] using hb) hs⟩
  | .tup cs, v', u, h, hb, hm => by
    simp only [lndW, Option.map_eq_some_iff] at h
    obtain ⟨cs', h1, rfl⟩ := h
    unfold M at hm ⊢
    obtain ⟨vs, hv, hs⟩ := hm
    exact ⟨vs, hv, lndWL_Ms hR hg cs cs' _ h1 (by simpa only [AV.bel] using hb) hs⟩
  | .lnt v, v', u, h, hb, hm => by simp only [lndW, Option.some.injEq] at h; subst h; exact low_M (X := X) (Y := X.lowL) rfl (fun b => lowL_im) (fun b => lowL_imf) _ _ hb hm
  | .bad, v', u, h, hb, hm => by simp only [lndW, Option.some.injEq] at h; subst h; exact low_M (X := X) (Y := X.lowL) rfl (fun b => lowL_im) (fun b => lowL_imf) _ _ hb hm
  | .int _ _, v', u, h, hb, hm => by simp only [lndW, Option.some.injEq] at h; subst h; exact low_M (X := X) (Y := X.lowL) rfl (fun b => lowL_im) (fun b => lowL_imf) _ _ hb hm
  | .bool _, v', u, h, hb, hm => by simp only [lndW, Option.some.injEq] at h; subst h; exact low_M (X := X) (Y := X.lowL) rfl (fun b => lowL_im) (fun b => lowL_imf) _ _ hb hm
  | .str _, v', u, h, hb, hm => by simp only [lndW, Option.some.injEq] at h; subst h; exact low_M (X := X) (Y := X.lowL) rfl (fun b => lowL_im) (fun b => lowL_imf) _ _ hb hm
  | .nilp, v', u, h, hb, hm => by simp only [lndW, Option.some.injEq] at h; subst h; exact low_M (X := X) (Y := X.lowL) rfl (fun b => lowL_im) (fun b => lowL_imf) _ _ hb hm
  | .ptr _ _ _ _, v', u, h, hb, hm => by simp only [lndW, Option.some.injEq] at h; subst h; exact low_M (X := X) (Y := X.lowL) rfl (fun b => lowL_im) (fun b => lowL_imf) _ _ hb hm
  | .ip _, v', u, h, hb, hm => by simp only [lndW, Option.some.injEq] at h; subst h; exact low_M (X := X) (Y := X.lowL) rfl (fun b => lowL_im) (fun b => lowL_imf) _ _ hb hm
  | .clo _ _ _, v', u, h, hb, hm => by simp only [lndW, Option.some.injEq] at h; subst h; exact low_M (X := X) (Y := X.lowL) rfl (fun b => lowL_im) (fun b => lowL_imf) _ _ hb hm
  | .nilf, v', u, h, hb, hm => by simp only [lndW, Option.some.injEq] at h; subst h; exact low_M (X := X) (Y := X.lowL) rfl (fun b => lowL_im) (fun b => lowL_imf) _ _ hb hm
  | .ifc _ _, v', u, h, hb, hm => by simp only [lndW, Option.some.injEq] at h; subst h; exact low_M (X := X) (Y := X.lowL) rfl (fun b => lowL_im) (fun b => lowL_imf) _ _ hb hm
  | .nili, v', u, h, hb, hm => by simp only [lndW, Option.some.injEq] at h; subst h; exact low_M (X := X) (Y := X.lowL) rfl (fun b => lowL_im) (fun b => lowL_imf) _ _ hb hm
  | .mp _, v', u, h, hb, hm => by simp only [lndW, Option.some.injEq] at h; subst h; exact low_M (X := X) (Y := X.lowL) rfl (fun b => lowL_im) (fun b => lowL_imf) _ _ hb hm
  | .nilm, v', u, h, hb, hm => by simp only [lndW, Option.some.injEq] at h; subst h; exact low_M (X := X) (Y := X.lowL) rfl (fun b => lowL_im) (fun b => lowL_imf) _ _ hb hm
theorem lndWL_Ms {G : Nat → Option (List AV)} {X : Cx} (hR : Rel G X) {g : AV → Option AV} (hg : LndOk X g) : ∀ (cs cs' : List AV) (us : List Value), lndWL g X.H cs = some cs' → belL 0 cs' = true → Ms X cs us → Ms X.lowL cs' us
  | [], cs', us, h, hb, hm => by simp only [lndWL, Option.some.injEq] at h; subst h; unfold Ms at hm ⊢; exact hm
  | c :: cs, cs', us, h, hb, hm => by
    simp only [lndWL, Option.bind_eq_some_iff, Option.map_eq_some_iff] at h
    obtain ⟨c', h1, ds, h2, rfl⟩ := h
    simp only [belL, Bool.and_eq_true] at hb
    unfold Ms at hm ⊢
    obtain ⟨u, vs, hv, hc, hs⟩ := hm
    exact ⟨u, vs, hv, lndW_M hR hg c c' u h1 hb.1 hc, lndWL_Ms hR hg cs ds vs h2 hb.2 hs⟩
theorem lndWL_Mc {G : Nat → Option (List AV)} {X : Cx} (hR : Rel G X) {g : AV → Option AV} (hg : LndOk X g) : ∀ (cs cs' : List AV), cs.all AV.one = true → ∀ (b o : Nat), lndWL g X.H cs = some cs' → belL 0 cs' = true → Mc X cs b o → Mc X.lowL cs' b o ∧ cs'.all AV.one = true
  | [], cs', _, b, o, h, hb, hm => by simp only [lndWL, Option.some.injEq] at h; subst h; exact ⟨by unfold Mc; trivial, rfl⟩
  | c :: cs, cs', h0, b, o, h, hb, hm => by
    simp only [lndWL, Option.bind_eq_some_iff, Option.map_eq_some_iff] at h
    obtain ⟨c', h1, ds, h2, rfl⟩ := h
    simp only [belL, Bool.and_eq_true] at hb
    simp only [List.all_cons, Bool.and_eq_true] at h0 ⊢
    unfold Mc at hm ⊢
    obtain ⟨⟨u, hu, hc⟩, hs⟩ := hm
    obtain ⟨i1, i2⟩ := lndWL_Mc hR hg cs ds h0.2 b (o + 1) h2 hb.2 hs
    exact ⟨⟨⟨u, hu, lndW_M hR hg c c' u h1 hb.1 hc⟩, i1⟩, (lndW_one h0.1 h1).1, i2⟩
theorem lndWL_Me {G : Nat → Option (List AV)} {X : Cx} (hR : Rel G X) {g : AV → Option AV} (hg : LndOk X g) : ∀ (es es' : List AV), oneL es → ∀ (b o z : Nat), lndWL g X.H es = some es' → belL 0 es' = true → Me X es b o z → Me X.lowL es' b o z ∧ oneL es'
  | [], es', _, b, o, z, h, hb, hm => by simp only [lndWL, Option.some.injEq] at h; subst h; exact ⟨by unfold Me; trivial, fun e he => by cases he⟩
  | e :: es, es', h0, b, o, z, h, hb, hm => by
    have h2 : oneL es := fun c hc => h0 c (List.mem_cons_of_mem _ hc)
    have h3 := h0 e (List.mem_cons_self ..)
    simp only [lndWL, Option.bind_eq_some_iff, Option.map_eq_some_iff] at h
    obtain ⟨e', h4, ds, h5, rfl⟩ := h
    simp only [belL, Bool.and_eq_true] at hb
    obtain ⟨⟨m1, m2⟩, k4⟩ := Me_cons hm
    have key : e'.cells.length = z ∧ Mc X.lowL e'.cells b o ∧ e'.cells.all AV.one = true := by
      rcases agg_or e h3 with ⟨cs, rfl⟩ | ⟨h6, h7⟩
      · simp only [lndW, Option.map_eq_some_iff] at h4
        obtain ⟨cs', h6, rfl⟩ := h4
        obtain ⟨k1, k2⟩ := lndWL_Mc hR hg cs cs' h3 b o h6 (by simpa only [AV.bel] using hb.1) m2
        exact ⟨by simp only [AV.cells, lndWL_len h6]; exact m1, k1, k2⟩
      · obtain ⟨g1, g2⟩ := lndW_one h6 h4
        rw [h7] at m1 m2
        unfold Mc at m2
        obtain ⟨⟨u, hu, hc⟩, _⟩ := m2
        have h8 := lndW_M hR hg e e' u h4 hb.1 hc
        rw [g2]
        exact ⟨m1, by unfold Mc; exact ⟨⟨u, hu, h8⟩, by unfold Mc; trivial⟩, by simpa using g1⟩
    obtain ⟨k1, k2, k3⟩ := key
    obtain ⟨i1, i2⟩ := lndWL_Me hR hg es ds h2 b (o + z) z h5 hb.2 k4
    refine ⟨Me_mk k1 k2 i1, fun x hx => ?_⟩
    rcases List.mem_cons.1 hx with rfl | hx
    · exact k3
    · exact i2 x hx
end
theorem lnd_ok {G : Nat → Option (List AV)} {X : Cx} (hR : Rel G X) : ∀ k, LndOk X (lnd X.H k)
  | 0 => fun v v' u h => by
    simp only [lnd] at h
    split at h
    · injection h with h; subst h
      refine ⟨fun h1 => ⟨h1, by cases v <;> first | rfl | (simp [AV.one] at h1)⟩, fun hb hm => low_M (X := X) (Y := X.lowL) rfl (fun b => lowL_im) (fun b => lowL_imf) _ _ hb hm⟩
    · cases h
  | k + 1 => fun v v' u h => by
    simp only [lnd] at h
    exact ⟨fun h1 => lndW_one h1 h, fun hb hm => lndW_M hR (lnd_ok hR k) v v' u h hb hm⟩

end Go.Pm
