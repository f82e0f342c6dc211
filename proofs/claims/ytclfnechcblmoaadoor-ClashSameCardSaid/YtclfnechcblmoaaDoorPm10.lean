/- Soundness, part 7: lengths, cuts, elements, conversions, choices. -/
import Derived.Test.YtclfnechcblmoaaDoorPm9
namespace Go.Pm
set_option linter.unusedVariables false
set_option linter.unusedSimpArgs false
section
variable {P : Program} {G : Nat → Option (List AV)} {X : Cx} {o : Oper} {a : Act} {T : List AV}

/-- A slice's shape. -/
theorem len_shape {x : AV} {q : Value} {n : Nat} (hx : M X x q) (h : lenA x X.H = some n) : ∃ A c, q = .slice A n c ∧ n ≤ c := by
  unfold lenA at h
  split at h
  · injection h with h; subst h
    obtain ⟨A, c, rfl, hc, _⟩ := M_lst hx
    exact ⟨A, c, rfl, hc⟩
  · injection h with h; subst h
    rw [M_nils] at hx; subst hx
    exact ⟨none, 0, rfl, Nat.le_refl _⟩
  · injection h with h; subst h
    unfold M at hx
    obtain ⟨A, c, rfl, _⟩ := hx
    exact ⟨A, c, rfl, Nat.zero_le _⟩
  · rename_i l off k tot
    split at h
    · rename_i ht
      injection h with h; subst h
      unfold M at hx
      obtain ⟨_, _, h3⟩ := hx
      rcases h3 ht with ⟨_, _, rfl, rfl⟩ | ⟨_, A, c, b, z, s, _, rfl, _, hc, _⟩
      · exact ⟨none, 0, rfl, Nat.le_refl _⟩
      · exact ⟨A, c, rfl, hc⟩
    · cases h
  · cases h
theorem len_slice_ok {t e : TypeId} {x : AV} {q : Value} {n : Nat} {ts : Array TypeId} {ty : TypeId} (ht : ts[0]? = some t) (hd : P.underlying t = some (.slice e)) (hx : M X x q) (h : lenA x X.H = some n) :
    (Builtin.len_ ts ty #[q]).run P X.w = .ok (.int .i64 n) X.w := by
  obtain ⟨A, c, rfl, _⟩ := len_shape hx h
  simp [Builtin.len_, ht, run_underlying hd, goInt]
theorem len_str_ok {t : TypeId} {s : ByteArray} {q : Value} {ts : Array TypeId} {ty : TypeId} (ht : ts[0]? = some t) (hd : P.underlying t = some .string) (hx : M X (.str s) q) :
    (Builtin.len_ ts ty #[q]).run P X.w = .ok (.int .i64 s.size) X.w := by
  rw [M_str] at hx; subst hx
  simp [Builtin.len_, ht, run_underlying hd, goInt]
theorem len_array_ok {t e : TypeId} {k : Nat} {q : Value} {ts : Array TypeId} {ty : TypeId} (ht : ts[0]? = some t) (hd : P.underlying t = some (.array k e)) :
    (Builtin.len_ ts ty #[q]).run P X.w = .ok (.int .i64 k) X.w := by
  simp [Builtin.len_, ht, run_underlying hd, goInt]

/-! ### bounds of a cut -/
def BoundIs (X : Cx) (x : Option AV) (q : Option Value) (d n : Int) : Prop :=
  (x = none ∧ q = none ∧ n = d) ∨ ∃ k, x = some (.int k n) ∧ q = some (.int k n)
theorem boundA_is {x : Option AV} {q : Option Value} {d n : Int} (hx : (x = none ∧ q = none) ∨ ∃ y p, x = some y ∧ q = some p ∧ M X y p) (h : boundA x d = some n) : BoundIs X x q d n := by
  unfold boundA at h
  rcases hx with ⟨rfl, rfl⟩ | ⟨y, p, rfl, rfl, hm⟩
  · injection h with h; exact .inl ⟨rfl, rfl, h.symm⟩
  · split at h
    · rename_i heq; cases heq
    · rename_i k m heq
      injection heq with heq; subst heq
      injection h with h; subst h
      rw [M_int] at hm; subst hm
      exact .inr ⟨_, rfl, rfl⟩
    · cases h
theorem run_bound {k : IntKind} {n : Int} {y : Nat} {code : BoundsCode} {w : World} (h0 : 0 ≤ n) (h1 : n ≤ y) : (Instr.sliceBound (.int k n) y code).run P w = .ok n.toNat w := by
  simp [Instr.sliceBound, asIntOf, h0, h1]
theorem run_bounds {b : Bool} {len cap : Nat} {lo hi mx : Option AV} {ql qh qm : Option Value} {l h m : Int} (hl : BoundIs X lo ql 0 l) (hh : BoundIs X hi qh len h) (hm : BoundIs X mx qm len m)
    (h1 : 0 ≤ l) (h2 : l ≤ h) (h3 : h ≤ m) (h4 : m ≤ len) (h5 : len ≤ cap) (h6 : mx.isSome = true → hi.isSome = true) (w : World) :
    (Instr.sliceBounds b len cap ql qh qm).run P w = .ok (l.toNat, h.toNat, if mx.isSome then m.toNat else cap) w := by
  unfold Instr.sliceBounds
  rcases hm with ⟨rfl, rfl, rfl⟩ | ⟨km, rfl, rfl⟩ <;> rcases hh with ⟨rfl, rfl, rfl⟩ | ⟨kh, rfl, rfl⟩ <;> rcases hl with ⟨rfl, rfl, rfl⟩ | ⟨kl, rfl, rfl⟩
  all_goals simp only [Option.isSome_some, Option.isSome_none, Bool.false_eq_true, reduceCtorEq, forall_const, if_true, if_false] at h6 ⊢
  all_goals simp only [Sem.run_bind, Sem.run_pure, Result.andThen_ok]
  all_goals try simp only [Sem.run_bind, Sem.run_pure, Result.andThen_ok, Int.toNat_natCast, Int.toNat_zero]
  all_goals repeat (first | rw [run_bound (by omega) (by omega)] | simp only [Sem.run_bind, Sem.run_pure, Result.andThen_ok, Int.toNat_natCast, Int.toNat_zero])

theorem cut_slice_ok (hR : Rel G X) {t e : TypeId} {z : Nat} {ag : Bool} {x v : AV} {q : Value} {lo hi mx : Option AV} {ql qh qm : Option Value} (ht : P.underlying t = some (.slice e)) (hz : tk P e = some (ag, z)) (hx : M X x q)
    (hlo : (lo = none ∧ ql = none) ∨ ∃ y p, lo = some y ∧ ql = some p ∧ M X y p) (hhi : (hi = none ∧ qh = none) ∨ ∃ y p, hi = some y ∧ qh = some p ∧ M X y p) (hmx : (mx = none ∧ qm = none) ∨ ∃ y p, mx = some y ∧ qm = some p ∧ M X y p)
    (h : cutA z x lo hi mx X.H = some v) : ∃ u, (Instr.sliceAt t q ql qh qm).run P X.w = .ok u X.w ∧ M X v u := by
  obtain ⟨d, inf, _, _, _, _, hag, hsz⟩ := tk_some hz
  unfold cutA at h
  simp only [Option.bind_eq_some_iff] at h
  obtain ⟨n, hn, hh, h1, hl, h2, hm, h3, h⟩ := h
  obtain ⟨A, c, rfl, hc⟩ := len_shape hx hn
  split at h
  · rename_i hcond
    obtain ⟨c1, c2, c3, c4, c5⟩ := hcond
    have hb := run_bounds (P := P) (b := true) (boundA_is hlo h2) (boundA_is hhi h1) (boundA_is hmx h3) c1 c2 c3 c4 hc c5 X.w
    have hrun : (Instr.sliceAt t (.slice A n c) ql qh qm).run P X.w = .ok (.slice (if (if mx.isSome then hm.toNat else c) = hl.toNat then A else A.map (·.add (hl.toNat * z))) (hh.toNat - hl.toNat) ((if mx.isSome then hm.toNat else c) - hl.toNat)) X.w := by
      simp only [Instr.sliceAt, Instr.slice, Sem.run_bind, run_underlying ht, Result.andThen_ok, hb, hsz, Sem.run_pure]
    refine ⟨_, hrun, ?_⟩
    split at h
    · rename_i es
      split at h
      case isFalse => cases h
      rename_i hlz
      injection h with h; subst h
      simp only [lenA, Option.some.injEq] at hn
      subst hn
      obtain ⟨A', c', he, hc', hone, hb'⟩ := M_lst hx
      injection he with e1 e2 e3
      subst e1; subst e3
      have hlen : ((es.take hh.toNat).drop hl.toNat).length = hh.toNat - hl.toNat := by simp; omega
      unfold M
      rw [hlen]
      refine ⟨_, _, rfl, ?_, fun e he => hone e (List.mem_of_mem_take (List.mem_of_mem_drop he)), fun hne => ?_⟩
      · split <;> omega
      · have hne' : es ≠ [] := fun hn => by subst hn; simp at hne
        obtain ⟨b, o, z', rfl, hz0, him, hme⟩ := hb' hne'
        have hpos : 0 < hh.toNat - hl.toNat := by rw [← hlen]; exact List.length_pos_iff.2 hne
        have hzz : z' = z := by
          cases es with
          | nil => exact absurd rfl hne'
          | cons e0 es0 =>
            have h1 := (Me_get hme (i := 0) (e := e0) rfl).1
            simp only [lz, beq_iff_eq] at hlz
            omega
        subst hzz
        refine ⟨b, o + hl.toNat * z', z', ?_, hz0, him, Me_of_get fun i e he => ?_⟩
        · rw [if_neg (by split <;> omega)]
          simp [add_at]
        · have hi' : hl.toNat + i < hh.toNat := by
            have := (List.getElem?_eq_some_iff.1 he).1
            rw [hlen] at this; omega
          have he' : es[hl.toNat + i]? = some e := by
            rw [List.getElem?_drop, List.getElem?_take_of_lt hi'] at he
            exact he
          obtain ⟨q1, q2⟩ := Me_get hme he'
          refine ⟨q1, ?_⟩
          rwa [show o + hl.toNat * z' + i * z' = o + (hl.toNat + i) * z' by rw [Nat.add_mul]; omega]
    · injection h with h; subst h
      rw [M_nils] at hx
      injection hx with e1 e2 e3
      subst e1; subst e2; subst e3
      rw [M_nils]
      congr 1
      · simp
      · omega
      · split <;> omega
    · rename_i l off n' tot
      split at h
      case h_2 => cases h
      rename_i z' es hrow
      split at h
      · cases h
      · rename_i hmn
        have hmn1 : ¬ mx.isSome = true := fun hc => hmn (.inl hc)
        have hzz : z' = z := Decidable.byContradiction fun hc => hmn (.inr hc)
        subst hzz
        injection h with h; subst h
        simp only [hmn1, if_false, Bool.false_eq_true]
        have hn' := hn
        unfold lenA at hn
        simp only at hn
        split at hn
        case isFalse => cases hn
        rename_i hto
        injection hn with hn; subst hn
        rw [show (hh - hl).toNat = hh.toNat - hl.toNat by omega]
        unfold M at hx ⊢
        obtain ⟨⟨k1, _⟩, k2, k3⟩ := hx
        refine ⟨⟨k1, _, _, _, rfl⟩, k2, fun ht => .inr ?_⟩
        rcases k3 ht with ⟨hv, _⟩ | ⟨hr, A', c', b, z1, s, hi, hv, a1, a2, a3, a4⟩
        · rw [hrow] at hv; cases hv
        · injection hv with e1 e2 e3
          subst e1; subst e3
          obtain ⟨rfl, _⟩ := hR.rows l z' es b z1 hrow hi
          refine ⟨hr, _, c - hl.toNat, b, _, s, hi, rfl, by omega, by omega, a3, ?_⟩
          by_cases hcl : c - hl.toNat = 0
          · exact .inl hcl
          · right
            obtain ⟨hA, hcap⟩ := a4.resolve_left (by omega)
            subst hA
            rw [if_neg (by omega)]
            refine ⟨by simp [add_at, Nat.add_mul], ?_⟩
            rw [show off + hl.toNat + (c - hl.toNat) = off + c by omega]
            exact hcap
    · cases h
  · cases h
theorem cut_str_ok {t : TypeId} {x v : AV} {q : Value} {lo hi : Option AV} {ql qh : Option Value} (ht : P.underlying t = some .string) (hx : M X x q)
    (hlo : (lo = none ∧ ql = none) ∨ ∃ y p, lo = some y ∧ ql = some p ∧ M X y p) (hhi : (hi = none ∧ qh = none) ∨ ∃ y p, hi = some y ∧ qh = some p ∧ M X y p)
    (h : cutS x lo hi = some v) : ∃ u, (Instr.sliceAt t q ql qh none).run P X.w = .ok u X.w ∧ M X v u := by
  unfold cutS at h
  split at h
  · rename_i s
    rw [M_str] at hx; subst hx
    simp only [Option.bind_eq_some_iff] at h
    obtain ⟨hh, h1, hl, h2, h⟩ := h
    split at h
    · rename_i hc
      obtain ⟨c1, c2, c3⟩ := hc
      injection h with h; subst h
      have hb := run_bounds (P := P) (b := false) (len := s.size) (cap := s.size) (mx := none) (qm := none) (m := s.size) (boundA_is hlo h2) (boundA_is hhi h1) (.inl ⟨rfl, rfl, rfl⟩) c1 c2 c3 (Int.le_refl _) (by omega) (by simp) X.w
      refine ⟨_, ?_, M_str.2 rfl⟩
      simp [Instr.sliceAt, Instr.slice, run_underlying ht, hb]
    · cases h
  · cases h

/-! ### the elements of what is appended, or turned into a string -/
/-- The cells of all elements. -/
theorem Me_vals : ∀ {es : List AV} {b o z : Nat}, Me X es b o z → ∃ cs : List Value, cs.length = es.length * z ∧ (∀ j v, cs[j]? = some v → cellAt X.w b (o + j) = some v) ∧
    ∀ i e, es[i]? = some e → ∃ vs, Ms X e.cells vs ∧ ∀ j v, vs[j]? = some v → cs[i * z + j]? = some v
  | [], b, o, z, h => ⟨[], by simp, by simp, by simp⟩
  | e :: es, b, o, z, h => by
    obtain ⟨⟨h1, h2⟩, h3⟩ := Me_cons h
    obtain ⟨vs, l1, l2, l3⟩ := Mc_vals h2
    obtain ⟨cs, k1, k2, k3⟩ := Me_vals h3
    refine ⟨vs ++ cs, by simp [l1, k1, h1, Nat.succ_mul]; omega, fun j v hj => ?_, fun i e' he => ?_⟩
    · rcases Nat.lt_or_ge j vs.length with hlt | hge
      · rw [List.getElem?_append_left hlt] at hj; exact l3 j v hj
      · rw [List.getElem?_append_right hge] at hj
        have := k2 _ _ hj
        rwa [show o + z + (j - vs.length) = o + j by omega] at this
    · cases i with
      | zero =>
        simp at he; subst he
        refine ⟨vs, l2, fun j v hj => ?_⟩
        have hlt : j < vs.length := (List.getElem?_eq_some_iff.1 hj).1
        rw [List.getElem?_append_left (by omega)]
        simpa using hj
      | succ i =>
        simp at he
        obtain ⟨us, m1, m2⟩ := k3 i e' he
        refine ⟨us, m1, fun j v hj => ?_⟩
        have e1 : (i + 1) * z + j = vs.length + (i * z + j) := by rw [Nat.succ_mul]; omega
        rw [e1, List.getElem?_append_right (by omega), Nat.add_sub_cancel_left]
        exact m2 j v hj
theorem lz_all {es : List AV} {b o z z' : Nat} (h : Me X es b o z') (hz : lz z es = true) (hne : es ≠ []) : z' = z := by
  cases es with
  | nil => exact absurd rfl hne
  | cons e0 es0 =>
    have h1 := (Me_get h (i := 0) (e := e0) rfl).1
    simp only [lz, beq_iff_eq] at hz
    omega
theorem Me_sub {es : List AV} {b z off n : Nat} (h : Me X es b 0 z) : Me X ((es.drop off).take n) b (off * z) z := Me_of_get fun i e he => by
  have hi : i < n := by
    have := (List.getElem?_eq_some_iff.1 he).1
    simp at this; omega
  rw [List.getElem?_take_of_lt hi, List.getElem?_drop] at he
  obtain ⟨q1, q2⟩ := Me_get h he
  refine ⟨q1, ?_⟩
  rwa [show off * z + i * z = 0 + (off + i) * z by rw [Nat.add_mul]; omega]
/-- What the elements are in memory. -/
theorem elems_ok (hR : Rel G X) {x : AV} {q : Value} {es : List AV} {z : Nat} (hx : M X x q) (h : elemsA x X.H = some es) (hz : lz z es = true) :
    oneL es ∧ (∀ w, (Builtin.lenOf q).run P w = .ok es.length w) ∧ (∀ e ∈ es, e.cells.length = z) ∧
    ∃ cs : List Value, cs.length = es.length * z ∧ (∀ w, w.heap = X.w.heap → (Builtin.firstCells z es.length q).run P w = .ok cs.toArray w) ∧ ∀ i e, es[i]? = some e → ∃ vs, Ms X e.cells vs ∧ ∀ j v, vs[j]? = some v → cs[i * z + j]? = some v := by
  have key : ∀ (b o z' c : Nat), es ≠ [] → Me X es b o z' → q = .slice (some ⟨b, o, none⟩) es.length c → (∀ w, (Builtin.lenOf q).run P w = .ok es.length w) ∧ (∀ e ∈ es, e.cells.length = z) ∧
      ∃ cs : List Value, cs.length = es.length * z ∧ (∀ w, w.heap = X.w.heap → (Builtin.firstCells z es.length q).run P w = .ok cs.toArray w) ∧ ∀ i e, es[i]? = some e → ∃ vs, Ms X e.cells vs ∧ ∀ j v, vs[j]? = some v → cs[i * z + j]? = some v := fun b o z' c hne hm hq => by
    obtain rfl := lz_all hm hz hne
    obtain ⟨cs, k1, k2, k3⟩ := Me_vals hm
    subst hq
    refine ⟨by simp [Builtin.lenOf], fun e he => ?_, cs, k1, fun w hw => ?_, k3⟩
    · obtain ⟨i, hi, rfl⟩ := List.getElem_of_mem he
      exact (Me_get hm (List.getElem?_eq_getElem hi)).1
    · have := run_loadCells_list (P := P) w ⟨b, o, none⟩ cs (fun j v hj => by rw [add_at, cell?_plain]; unfold cellAt; rw [hw]; exact k2 j v hj)
      rw [k1] at this
      simpa [Builtin.firstCells] using this
  have nil : ∀ A c, q = .slice A 0 c → es = [] → (∀ w, (Builtin.lenOf q).run P w = .ok es.length w) ∧ (∀ e ∈ es, e.cells.length = z) ∧
      ∃ cs : List Value, cs.length = es.length * z ∧ (∀ w, w.heap = X.w.heap → (Builtin.firstCells z es.length q).run P w = .ok cs.toArray w) ∧ ∀ i e, es[i]? = some e → ∃ vs, Ms X e.cells vs ∧ ∀ j v, vs[j]? = some v → cs[i * z + j]? = some v := fun A c hq he => by
    subst hq; subst he
    refine ⟨by simp [Builtin.lenOf], by simp, [], by simp, fun w hw => ?_, by simp⟩
    cases A <;> simp [Builtin.firstCells, loadCells, loadCellsFrom]
  unfold elemsA at h
  split at h
  · injection h with h; subst h
    obtain ⟨A, c, hq, hc, hone, hb⟩ := M_lst hx
    refine ⟨hone, ?_⟩
    rename_i es
    by_cases hne : es = []
    · subst hne; exact nil A c hq rfl
    · obtain ⟨b, o, z', rfl, _, _, hm⟩ := hb hne
      exact key b o z' c hne hm hq
  · injection h with h; subst h
    rw [M_nils] at hx
    exact ⟨by simp [oneL], nil none 0 hx rfl⟩
  · injection h with h; subst h
    unfold M at hx
    obtain ⟨A, c, hq, _⟩ := hx
    exact ⟨by simp [oneL], nil A c hq rfl⟩
  · rename_i s
    injection h with h; subst h
    rw [M_str] at hx; subst hx
    refine ⟨fun e he => ?_, ?_, fun e he => ?_, ?_⟩
    · simp only [bytesA, List.mem_map] at he
      obtain ⟨b, _, rfl⟩ := he
      rfl
    · intro w; simp [Builtin.lenOf, bytesA, bl]
    · cases hl : bl s with
      | nil => simp [bytesA, hl] at he
      | cons b0 bs =>
        simp only [bytesA, hl, List.map, lz, beq_iff_eq, AV.cells] at hz
        simp only [bytesA, List.mem_map] at he
        obtain ⟨b, _, rfl⟩ := he
        simpa [AV.cells] using hz
    · refine ⟨(bl s).map fun b => .int .u8 b.toNat, ?_, fun w hw => ?_, fun i e he => ?_⟩
      · cases hl : bl s with
        | nil => simp [bytesA, hl]
        | cons b0 bs =>
          simp only [bytesA, hl, List.map, lz, beq_iff_eq, AV.cells] at hz
          simp [bytesA, hl, ← hz]
      · have e1 : (bytesA s).length = s.size := by simp [bytesA, bl]
        rw [e1]
        simp only [Builtin.firstCells, Sem.run_pure]
        have e2 : s.extract 0 s.size = s := by
          apply ByteArray.ext
          simp [ByteArray.data_extract]
        rw [e2]
        simp only [bl]
        congr 1
        apply Array.ext'
        simp
      · simp only [bytesA, List.getElem?_map, Option.map_eq_some_iff] at he
        obtain ⟨b, hb, rfl⟩ := he
        refine ⟨[.int .u8 b.toNat], by simp only [AV.cells]; unfold Ms; exact ⟨_, [], rfl, M_int.2 rfl, by simp [Ms]⟩, fun j v hj => ?_⟩
        cases j with
        | succ j => simp at hj
        | zero =>
          simp at hj; subst hj
          cases hl : bl s with
          | nil => simp [hl] at hb
          | cons b0 bs =>
            simp only [bytesA, hl, List.map, lz, beq_iff_eq, AV.cells, List.length_singleton] at hz
            rw [← hl, ← hz]
            simp [hb]
  · rename_i l off n tot
    unfold M at hx
    obtain ⟨⟨k1, _⟩, k2, k3⟩ := hx
    split at h
    · rename_i z0 es0 hl
      split at h
      · rename_i hlen
        injection h with h
        rcases k3 (by simp [lenOf, hl, hlen]) with ⟨hv, _⟩ | ⟨hr, A, c, b, z1, s, hi, hv, a1, a2, a3, a4⟩
        · rw [hl] at hv; cases hv
        · obtain ⟨rfl, hz0, hm, hone, _⟩ := hR.rows l z0 es0 b z1 hl hi
          have hle : es.length = n := by rw [← h]; simp; omega
          refine ⟨fun e he => hone e (by rw [← h] at he; exact List.mem_of_mem_drop (List.mem_of_mem_take he)), ?_⟩
          by_cases hne : es = []
          · have : n = 0 := by rw [← hle, hne]; rfl
            subst this
            exact nil A c hv hne
          · have hpos : 0 < es.length := List.length_pos_iff.2 hne
            obtain ⟨hA, _⟩ := a4.resolve_left (by omega)
            subst hA
            refine key b (off * z1) z1 c hne ?_ (by rw [hle]; exact hv)
            rw [← h]; exact Me_sub hm
      · cases h
    · rename_i hl
      split at h
      · rename_i ht
        injection h with h; subst h
        rcases k3 (by simp [lenOf, hl, ht]) with ⟨_, _, _, hv⟩ | ⟨hr, _⟩
        · exact ⟨by simp [oneL], nil none 0 hv rfl⟩
        · rw [hl] at hr; simp [isRow] at hr
      · cases h
    · cases h
  · cases h
end
end Go.Pm
