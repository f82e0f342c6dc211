/- Soundness, part 6: reading, addresses, slices. -/
import Derived.Test.YtclfnechcblmoaaDoorPm8
namespace Go.Pm
set_option linter.unusedVariables false
set_option linter.unusedSimpArgs false
section
variable {P : Program} {G : Nat → Option (List AV)} {X : Cx} {o : Oper} {a : Act} {T : List AV}

theorem un_ok {op : UnOp} {x v : AV} {p : Value} (hx : M X x p) (h : unA op x = some v) : ∃ u, (Op.unary op p).run P X.w = .ok u X.w ∧ M X v u := by
  unfold unA at h
  split at h
  · rw [M_int] at hx; subst hx; injection h with h; subst h
    exact ⟨_, by simp only [Op.unary, Op.intArith, Sem.run_pure], M_int.2 rfl⟩
  · rw [M_int] at hx; subst hx; injection h with h; subst h
    exact ⟨_, by simp [Op.unary, Op.intBits]; rfl, M_int.2 (by simp [bitsA])⟩
  · rw [M_bool] at hx; subst hx; injection h with h; subst h
    exact ⟨_, by simp [Op.unary], M_bool.2 rfl⟩
  · cases h

theorem add_at (b o k : Nat) : (⟨b, o, none⟩ : Addr).add k = ⟨b, o + k, none⟩ := by unfold Addr.add; split <;> simp_all
/-- A variable is loaded, whose cells are known. -/
theorem ldv_ok {t : TypeId} {ag : Bool} {s : Nat} {cs : List AV} {v : AV} {b o : Nat} (ht : tk P t = some (ag, s)) (hc : Mc X cs b o) (h : ldv ag s cs = some v) :
    ∃ u, (loadVar t ⟨b, o, none⟩).run P X.w = .ok u X.w ∧ M X v u := by
  obtain ⟨d, i, _, _, _, _, hag, hsz⟩ := tk_some ht
  unfold ldv at h
  unfold loadVar
  simp only [Sem.run_bind, hag, Result.andThen_ok]
  cases ag with
  | true =>
    simp only [if_true] at h ⊢
    split at h
    · rename_i hs
      injection h with h; subst h
      obtain ⟨vs, hl, hm, hv⟩ := Mc_vals (Mc_take hc s)
      have hll : vs.length = s := by rw [hl]; simp; omega
      refine ⟨.agg vs.toArray, ?_, by unfold M; exact ⟨_, rfl, by simpa using hm⟩⟩
      have := run_loadCells_list (P := P) X.w ⟨b, o, none⟩ vs (fun j v hj => by rw [add_at, cell?_plain]; exact hv j v hj)
      rw [hll] at this
      simp [hsz, this]
    · cases h
  | false =>
    simp only [Bool.false_eq_true, if_false] at h ⊢
    obtain ⟨vs, hl, hm, hv⟩ := Mc_vals hc
    obtain ⟨u, hu, hmu⟩ := Ms_get hm h
    refine ⟨u, ?_, hmu⟩
    have := hv 0 u hu
    rw [run_load, cell?_plain]
    rw [Nat.add_zero] at this
    rw [this]
theorem row_elem (hR : Rel G X) {l tot i off : Nat} {p : Value} (hp : M X (.ptr l tot i off) p) {z : Nat} {es : List AV} (hl : X.H[l]? = some (.row z es)) (ht : es.length = tot) {e : AV} (he : es[i]? = some e) :
    ∃ b, p = .pointer (some ⟨b, i * z + off, none⟩) ∧ X.ι l = some (b, z) ∧ Mc X e.cells b (i * z) ∧ e.cells.length = z := by
  unfold M at hp
  obtain ⟨_, _, h3⟩ := hp
  obtain ⟨b, z', hr, hi, hv⟩ := h3 (by simp [lenOf, hl, ht])
  obtain ⟨rfl, hz, hm, _, s, hs⟩ := hR.rows l z es b z' hl hi
  obtain ⟨q1, q2⟩ := Me_get hm he
  exact ⟨b, hv, hi, by simpa using q2, q1⟩
theorem load_ok (hR : Rel G X) {t : TypeId} {ag : Bool} {s : Nat} {p : AV} {q : Value} {v : AV} (ht : tk P t = some (ag, s)) (hp : M X p q) (h : loadA ag s p X.H = some v) :
    ∃ u, (Instr.loadAt t q).run P X.w = .ok u X.w ∧ M X v u := by
  unfold loadA at h
  split at h
  · obtain ⟨b, o, rfl, hb, hc⟩ := M_ip hp
    obtain ⟨u, h1, h2⟩ := ldv_ok ht hc h
    exact ⟨u, by simp [Instr.loadAt, Instr.sureAddr, h1], h2⟩
  · split at h
    · rename_i z es hl
      split at h
      · rename_i hlen
        simp only [Option.bind_eq_some_iff] at h
        obtain ⟨e, he, h⟩ := h
        obtain ⟨b, rfl, _, hc, hcl⟩ := row_elem hR hp hl hlen he
        rename_i i off _ _
        by_cases hof : off ≤ e.cells.length
        · obtain ⟨u, h1, h2⟩ := ldv_ok ht (Mc_drop hc off hof) h
          exact ⟨u, by simp [Instr.loadAt, Instr.sureAddr, h1], h2⟩
        · rw [List.drop_of_length_le (by omega)] at h
          have : Mc X ([] : List AV) b (i * z + off) := by simp [Mc]
          obtain ⟨u, h1, h2⟩ := ldv_ok ht this h
          exact ⟨u, by simp [Instr.loadAt, Instr.sureAddr, h1], h2⟩
      · cases h
    · cases h
  · cases h

theorem off_ok {p v : AV} {q : Value} {k : Nat} (hp : M X p q) (h : offA p k = some v) : ∃ a : Addr, q = .pointer (some a) ∧ M X v (.pointer (some (a.add k))) := by
  unfold offA at h
  split at h
  · injection h with h; subst h
    rename_i cs
    obtain ⟨b, o, rfl, hb, hc⟩ := M_ip hp
    refine ⟨_, rfl, ?_⟩
    rw [add_at]
    unfold M
    refine ⟨b, o + k, rfl, hb, ?_⟩
    by_cases hk : k ≤ cs.length
    · exact Mc_drop hc k hk
    · rw [List.drop_of_length_le (by omega)]; simp [Mc]
  · injection h with h; subst h
    unfold M at hp ⊢
    obtain ⟨⟨h1, q, rfl⟩, h2, h3⟩ := hp
    refine ⟨q, rfl, ⟨h1, _, rfl⟩, h2, fun ht => ?_⟩
    obtain ⟨b, z, hr, hi, hv⟩ := h3 ht
    injection hv with hv; injection hv with hv
    subst hv
    exact ⟨b, z, hr, hi, by rw [add_at, Nat.add_assoc]⟩
  · cases h
/-- Field's address. -/
theorem fieldAddr_ok {s : TypeId} {fs : Array Field} {f : Nat} {fd : Field} {x v : AV} {q : Value} {z : Bool × Nat} (hs : P.underlying s = some (.struct fs)) (hf : fs[f]? = some fd) (hz : tk P fd.type = some z) (hz0 : 0 < z.2)
    (hx : M X x q) (h : offA x fd.offset = some v) : ∃ u, (Instr.fieldAt s q f).run P X.w = .ok u X.w ∧ M X v u := by
  obtain ⟨a, rfl, hm⟩ := off_ok hx h
  obtain ⟨d, i, _, _, _, _, _, hsz⟩ := tk_some (ag := z.1) (s := z.2) hz
  refine ⟨_, ?_, hm⟩
  simp [Instr.fieldAt, run_underlying hs, hf, Instr.sureAddr, fieldPlace, hsz, Nat.ne_of_gt hz0]
theorem part_ok {t : TypeId} {ag : Bool} {s : Nat} {cs : List AV} {vs : List Value} {off : Nat} {v : AV} (ht : tk P t = some (ag, s)) (hc : Ms X cs vs) (h : ldv ag s (cs.drop off) = some v) :
    ∃ u, (part t vs.toArray off).run P X.w = .ok u X.w ∧ M X v u := by
  obtain ⟨d, i, _, _, _, _, hag, hsz⟩ := tk_some ht
  unfold ldv at h
  unfold part
  simp only [Sem.run_bind, hag, Result.andThen_ok]
  cases ag with
  | true =>
    simp only [if_true] at h ⊢
    split at h
    · rename_i hs
      injection h with h; subst h
      refine ⟨.agg (vs.toArray.extract off (off + s)), by simp [hsz], ?_⟩
      unfold M
      refine ⟨_, rfl, ?_⟩
      have := Ms_take (Ms_drop hc off) s
      simpa [List.extract_eq_take_drop] using this
    · cases h
  | false =>
    simp only [Bool.false_eq_true, if_false] at h ⊢
    obtain ⟨u, hu, hmu⟩ := Ms_get (Ms_drop hc off) h
    refine ⟨u, ?_, hmu⟩
    have : vs[off]? = some u := by simpa [List.getElem?_drop] using hu
    simp [this]
theorem field_ok {s : TypeId} {fs : Array Field} {f : Nat} {fd : Field} {cs : List AV} {v : AV} {q : Value} {z : Bool × Nat} (hs : P.underlying s = some (.struct fs)) (hf : fs[f]? = some fd) (hz : tk P fd.type = some z)
    (hx : M X (.agg cs) q) (h : ldv z.1 z.2 (cs.drop fd.offset) = some v) : ∃ u, (Instr.field s q f).run P X.w = .ok u X.w ∧ M X v u := by
  obtain ⟨vs, rfl, hm⟩ := M_agg hx
  obtain ⟨u, h1, h2⟩ := part_ok (ag := z.1) (s := z.2) hz hm h
  refine ⟨u, ?_, h2⟩
  simpa [Instr.field, run_underlying hs, hf, asAgg] using h1

/-! ### indexing -/
theorem index_slice_ok (hR : Rel G X) {t e : TypeId} {z : Nat} {ag : Bool} {x v : AV} {i : Int} {k : IntKind} {q : Value} (ht : P.underlying t = some (.slice e)) (hz : tk P e = some (ag, z)) (hx : M X x q) (h : indexA z x i X.H = some v) :
    ∃ u, (Instr.indexAt t q (.int k i)).run P X.w = .ok u X.w ∧ M X v u := by
  obtain ⟨d, inf, _, _, _, _, hag, hsz⟩ := tk_some hz
  unfold indexA at h
  split at h
  · rename_i es
    split at h
    · rename_i h0
      simp only [Option.bind_eq_some_iff] at h
      obtain ⟨e', he, h⟩ := h
      split at h
      · rename_i hcl
        injection h with h; subst h
        obtain ⟨A, c, rfl, hc, _, hb⟩ := M_lst hx
        have hne : es ≠ [] := fun hn => by subst hn; simp at he
        obtain ⟨b, o, z', rfl, hz0, him, hme⟩ := hb hne
        obtain ⟨q1, q2⟩ := Me_get hme he
        have hzz : z' = z := q1.symm.trans hcl
        subst hzz
        have hlt : i.toNat < es.length := (List.getElem?_eq_some_iff.1 he).1
        refine ⟨.pointer (some ⟨b, o + i.toNat * z', none⟩), ?_, by unfold M; exact ⟨b, _, rfl, him, q2⟩⟩
        have hi : 0 ≤ i ∧ i < (es.length : Int) := ⟨h0, by omega⟩
        simp [Instr.indexAt, asIntOf, run_underlying ht, hi.1, hi.2, hsz, add_at]
      · cases h
    · cases h
  · rename_i l off n tot
    split at h
    · rename_i z' es hl
      split at h
      · rename_i hc
        obtain ⟨h0, h1, h2, rfl⟩ := hc
        injection h with h; subst h
        have hx' := hx
        unfold M at hx
        obtain ⟨⟨k1, _⟩, k2, k3⟩ := hx
        rcases k3 (by simp [lenOf, hl, h2]) with ⟨hv, _⟩ | ⟨hr, A, c, b, z1, s, hi, hv, a1, a2, a3, a4⟩
        · rw [hl] at hv; cases hv
        · obtain ⟨rfl, hz0, hm, _⟩ := hR.rows l z' es b z1 hl hi
          obtain ⟨hA, _⟩ := a4.resolve_left (by omega)
          subst hA; subst hv
          refine ⟨.pointer (some ⟨b, off * z1 + i.toNat * z1, none⟩), ?_, ?_⟩
          · simp [Instr.indexAt, asIntOf, run_underlying ht, h0, h1, hsz, add_at]
          · unfold M
            refine ⟨⟨k1, _, rfl⟩, k2, fun _ => ⟨b, z1, hr, hi, by rw [Nat.add_mul, Nat.add_zero]⟩⟩
      · cases h
    · cases h
  · cases h
theorem index_array_ok {t e : TypeId} {n z : Nat} {ag : Bool} {x v : AV} {i : Int} {k : IntKind} {q : Value} (ht : P.underlying t = some (.array n e)) (hz : tk P e = some (ag, z)) (hx : M X x q) (h0 : 0 ≤ i) (h1 : i < n)
    (h : offA x (i.toNat * z) = some v) : ∃ u, (Instr.indexAt t q (.int k i)).run P X.w = .ok u X.w ∧ M X v u := by
  obtain ⟨a, rfl, hm⟩ := off_ok hx h
  obtain ⟨d, inf, _, _, _, _, hag, hsz⟩ := tk_some hz
  refine ⟨_, ?_, hm⟩
  simp [Instr.indexAt, asIntOf, run_underlying ht, h0, h1, hsz, Instr.sureAddr]
theorem index_agg_ok {t e : TypeId} {n z : Nat} {ag : Bool} {cs : List AV} {v : AV} {i : Int} {k : IntKind} {q : Value} (ht : P.underlying t = some (.array n e)) (hz : tk P e = some (ag, z)) (hx : M X (.agg cs) q) (h0 : 0 ≤ i) (h1 : i < n)
    (h : ldv ag z (cs.drop (i.toNat * z)) = some v) : ∃ u, (Instr.index t q (.int k i)).run P X.w = .ok u X.w ∧ M X v u := by
  obtain ⟨vs, rfl, hm⟩ := M_agg hx
  obtain ⟨d, inf, _, _, _, _, hag, hsz⟩ := tk_some hz
  obtain ⟨u, k1, k2⟩ := part_ok hz hm h
  refine ⟨u, ?_, k2⟩
  simp only [Instr.index, asIntOf, Sem.run_bind, Sem.run_pure, Result.andThen_ok, run_underlying ht, h0, h1, and_self, if_true, hsz]
  simpa using k1
theorem index_str_ok {t : TypeId} {s : ByteArray} {v : AV} {i : Int} {k : IntKind} {q : Value} (ht : P.underlying t = some .string) (hx : M X (.str s) q) (h0 : 0 ≤ i)
    (h : (bl s)[i.toNat]?.map (fun b => AV.int .u8 b.toNat) = some v) : ∃ u, (Instr.index t q (.int k i)).run P X.w = .ok u X.w ∧ M X v u := by
  rw [M_str] at hx; subst hx
  simp only [Option.map_eq_some_iff] at h
  obtain ⟨b, hb, rfl⟩ := h
  have hs : s[i.toNat]? = some b := by
    unfold bl at hb
    rw [Array.getElem?_toList] at hb
    exact hb
  refine ⟨_, ?_, M_int.2 rfl⟩
  simp [Instr.index, asIntOf, run_underlying ht, h0, hs]
end
end Go.Pm
