/- Soundness, part 10: literals, make, conversions, assertions, choices. -/
import Derived.Test.YtclfnechcblmoaaDoorPm12
namespace Go.Pm
set_option linter.unusedVariables false
set_option linter.unusedSimpArgs false
section
variable {P : Program} {G : Nat → Option (List AV)} {X : Cx} {o : Oper} {a : Act} {T : List AV}

/-- A new block that nobody will write. -/
theorem push_im (hR : Rel G X) {w' : World} (hold : ∀ b, b < X.w.heap.size → w'.heap[b]? = X.w.heap[b]?) (hsz : X.w.heap.size < w'.heap.size) (ht : w'.tape = X.w.tape) (ho : w'.os = X.w.os) (hu : w'.output = X.w.output) :
    Rel G ⟨X.F, X.ι, X.H, w'⟩ ∧ Ext X ⟨X.F, X.ι, X.H, w'⟩ ∧ (⟨X.F, X.ι, X.H, w'⟩ : Cx).im X.w.heap.size := by
  have hcell : ∀ b j u, cellAt X.w b j = some u → cellAt w' b j = some u := fun b j u h => by
    have hb := lt_of_cellAt h
    unfold cellAt at h ⊢; rw [hold b hb]; exact h
  have hsize : ∀ b s, sizeAt X.w b = some s → sizeAt w' b = some s := fun b s h => by
    have hb := lt_of_sizeAt h
    unfold sizeAt at h ⊢; rw [hold b hb]; exact h
  have hE : Ext X ⟨X.F, X.ι, X.H, w'⟩ :=
    ⟨Nat.le_of_lt hsz, Nat.le_refl _, fun b hb _ => hold b hb, fun b _ hw => hw, fun l t hl h => ⟨t, h, Nat.le_refl _, fun _ => ⟨fun hr => ⟨hr, fun b z hb => ⟨hb, by
      obtain ⟨z1, es1, he⟩ := isRow_some hr
      obtain ⟨_, _, _, _, s, hs, _⟩ := hR.rows l z1 es1 b z he hb
      rw [hs]; exact hsize b s hs⟩⟩, fun h => h⟩⟩, ht, ho, hu, rfl⟩
  refine ⟨⟨fun l z es b z' h1 h2 => ?_, fun l l' b z z' h1 h2 h3 h4 => hR.inj l l' b z z' h1 h2 h3 h4, fun g cs hg => ?_, hR.wf, fb_keep hR hE, hR.gb⟩, hE, ⟨hsz, fun hf => absurd (hR.fb _ hf).1 (Nat.lt_irrefl _)⟩, fun hw => ?_⟩
  · obtain ⟨e1, e2, e3, ee, s, e4, e5, e6⟩ := hR.rows l z es b z' h1 h2
    refine ⟨e1, e2, Me_mono hE _ _ _ _ (fun j u hj => hcell b j u hj) e3, ee, s, hsize b s e4, e5, unmark_eq e6 (hold b (lt_of_sizeAt e4))⟩
  · obtain ⟨h1, h2⟩ := hR.glob g cs hg
    exact ⟨im_keep hE h1, Mc_mono hE _ _ _ (fun j u hj => hcell g j u hj) h2⟩
  · have := hR.wr_lt (b := X.w.heap.size) hw
    omega
/-- A new variable that nobody will write. -/
theorem newi_ok {v : AV} {u : Value} {t : TypeId} (hR : Rel G X) (h1 : v.cells.all AV.one = true) (hm : M X v u) :
    ∃ X', (newVar t u).run P X.w = .ok ⟨X.w.heap.size, 0, none⟩ X'.w ∧ X'.H = X.H ∧ Rel G X' ∧ Ext X X' ∧ M X' (.ip v.cells) (.pointer (some ⟨X.w.heap.size, 0, none⟩)) := by
  have hs := cells_of h1 hm
  obtain ⟨k1, k2, k3⟩ := push_im (w' := { X.w with heap := X.w.heap.push (.cells u.cells t) }) hR (fun b hb => by simp [Array.getElem?_push_lt, hb, Nat.ne_of_lt hb, Array.getElem?_push]) (by simp) rfl rfl rfl
  refine ⟨⟨X.F, X.ι, X.H, { X.w with heap := X.w.heap.push (.cells u.cells t) }⟩, by simp [newVar, newRow], rfl, k1, k2, ?_⟩
  unfold M
  refine ⟨X.w.heap.size, 0, rfl, k3, Mc_of_vals (Ms_mono k2 _ _ hs) fun j v' hj => ?_⟩
  unfold cellAt
  simp only [Array.getElem?_push_size, Nat.zero_add]
  simpa using hj
/-- The list that such a block holds. -/
theorem lst_of {X' : Cx} {z b : Nat} {es : List AV} {c : Nat} (hz : 0 < z) (hone : oneL es) (him : X'.im b) (hm : Me X' es b 0 z) (hc : es.length ≤ c) : M X' (.lst es) (.slice (some ⟨b, 0, none⟩) es.length c) := by
  unfold M
  exact ⟨_, c, rfl, hc, hone, fun _ => ⟨b, 0, z, rfl, hz, him, hm⟩⟩

theorem kills_ofVal1 (v : Value) : kills (ofVal1 v) = [] := by
  cases v with
  | pointer p => cases p <;> rfl
  | slice p l c =>
    cases p with
    | some p => rfl
    | none => cases l <;> cases c <;> rfl
  | tuple vs => simp only [ofVal1]; split <;> rfl
  | _ => rfl
theorem killsL_map (l : List Value) : killsL (l.map ofVal1) = [] := by
  induction l with
  | nil => rfl
  | cons v l ih => simp [killsL, kills_ofVal1, ih]
theorem kills_ofVal (v : Value) : kills (ofVal v) = [] := by
  unfold ofVal
  split
  · simp [kills, killsL_map]
  · exact kills_ofVal1 v

theorem zero_run {e : TypeId} {zval : Value} {n z : Nat} (hzrun : ∀ w, (zeroValue e).run P w = .ok zval w) (hs : zval.cells.size = z) (hz : 0 < z) (w : World) :
    (if n * z = 0 then pure #[] else do pure (← zeroValue e).cells : Sem (Array Value)).run P w = .ok (if n * z = 0 then #[] else zval.cells) w := by
  by_cases h : n * z = 0
  · simp [h]
  · simp [h, hzrun]
theorem range_zero {zc : Array Value} {k : Nat} (h : k = 0) : ((Array.range k).map ((if k = 0 then (#[] : Array Value) else zc)[· % (if k = 0 then (#[] : Array Value) else zc).size]!)) = (Array.range k).map (zc[· % zc.size]!) := by
  subst h; simp

theorem slice_lit_raw {t e : TypeId} {ag : Bool} {z n : Nat} {zv : AV} {parts : Array (Nat × Value)} {ps : List (Nat × AV)} {es : List AV} (hR : Rel G X) (ht : P.underlying t = some (.slice e)) (hz : tk P e = some (ag, z)) (hzv : zeroT P e = some zv)
    (hn : n * z ≤ 16777216) (hzl : zv.cells.length = z) (hz0 : 0 < z) (hzone : zv.cells.all AV.one = true) (hzb : zv.isBad = false) (hp : Parts X ps parts.toList) (h : setS z X.H (List.replicate n zv) ps = some es) :
    ∃ c : Array Value, (Instr.buildSlice t n parts).run P X.w = .ok (.slice (some ⟨X.w.heap.size, 0, none⟩) n n) { X.w with heap := X.w.heap.push (.cells c e) } ∧
      Told X z es c.toList ∧ (∀ e ∈ es, e.cells.length = z) ∧ oneL es ∧ es.length = n := by
  obtain ⟨d, i, _, _, _, _, _, hsz⟩ := tk_some hz
  obtain ⟨inf, zval, hi, hzz, rfl, hzrun⟩ := zeroT_some hzv
  have hms : Ms X (ofVal zval).cells zval.cells.toList := ofVal_cells hzb
  have hs : zval.cells.size = z := by rw [← Array.length_toList, ← Ms_length hms, hzl]
  obtain ⟨cells', k1, k2, k3, k4, k5⟩ := fillS_ok (H := X.H) hp (zero_told n hms hzl hz0) (fun e he => by rw [(List.mem_replicate.1 he).2]; exact hzl) (fun e he => by rw [(List.mem_replicate.1 he).2]; exact hzone) h
  refine ⟨cells', ?_, k2, k3, k4, by simpa using k5⟩
  unfold Instr.buildSlice
  simp only [Sem.run_bind, run_underlying ht, Result.andThen_ok, hsz]
  rw [if_neg (by omega)]
  by_cases h0 : n * z = 0
  · simp only [h0, if_true, Sem.run_bind, Sem.run_pure, Result.andThen_ok]
    have : ((Array.range 0).map fun x => (#[] : Array Value)[x % (#[] : Array Value).size]!) = (Array.range (n * z)).map (zval.cells[· % zval.cells.size]!) := by rw [h0]; simp
    rw [this, k1]
    simp [newRow]
  · simp only [h0, if_false, Sem.run_bind, Sem.run_pure, Result.andThen_ok, hzrun]
    rw [k1]
    simp [newRow]

theorem Parts_zip : ∀ {ps : List (Nat × AV)} {qs : List (Nat × Value)}, Parts X ps qs → Ms X (ps.map (·.2)) (qs.map (·.2)) ∧ ps.map (·.1) = qs.map (·.1)
  | [], _, h => by unfold Parts at h; subst h; simp [Ms]
  | (i, v) :: ps, _, h => by
    unfold Parts at h
    obtain ⟨u, us, rfl, hm, h⟩ := h
    obtain ⟨h1, h2⟩ := Parts_zip h
    simp only [List.map]
    exact ⟨by unfold Ms; exact ⟨u, _, rfl, hm, h1⟩, by rw [h2]⟩
theorem Parts_mk : ∀ {is : List Nat} {vs : List AV} {qs : List (Nat × Value)}, Ms X vs (qs.map (·.2)) → is = qs.map (·.1) → Parts X (is.zip vs) qs
  | [], vs, qs, h1, h2 => by
    cases qs with
    | nil => simp [Parts]
    | cons q qs => simp at h2
  | i :: is, vs, qs, h1, h2 => by
    cases qs with
    | nil => simp at h2
    | cons q qs =>
      simp only [List.map, List.cons.injEq] at h2
      obtain ⟨rfl, h2⟩ := h2
      cases vs with
      | nil => simp [Ms] at h1
      | cons v vs =>
        simp only [List.map] at h1
        unfold Ms at h1
        obtain ⟨u, us, he, hm, h1⟩ := h1
        injection he with e1 e2
        subst e1; subst e2
        simp only [List.zip_cons_cons]
        unfold Parts
        exact ⟨q.2, qs, rfl, hm, Parts_mk h1 h2⟩
end
end Go.Pm
