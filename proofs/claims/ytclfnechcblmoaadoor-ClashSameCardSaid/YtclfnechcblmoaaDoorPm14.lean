/- Soundness, part 11: make, conversions, assertions, choices. -/
import Derived.Test.YtclfnechcblmoaaDoorPm13
import Derived.Lib.ConvBytes
import Derived.Laws.BytesArg
namespace Go.Pm
set_option linter.unusedVariables false
set_option linter.unusedSimpArgs false
section
variable {P : Program} {G : Nat → Option (List AV)} {X : Cx} {o : Oper} {a : Act} {T : List AV}

theorem wrap64_id {n : Int} (h0 : 0 ≤ n) (h1 : n ≤ 281474976710656) : IntKind.i64.wrap n = n := by
  unfold IntKind.wrap IntKind.signed IntKind.bits
  simp
  omega
theorem make_ok {t e : TypeId} {ag : Bool} {z : Nat} {inf : TypeInfo} {zv : AV} {x y : AV} {p q : Value} {r : R3} (hR : Rel G X) (ht : P.underlying t = some (.slice e)) (hz : tk P e = some (ag, z)) (hzv : zeroT P e = some zv) (hi : P.info? e = some inf)
    (hx : M X x p) (hy : M X y q) (h : makeA z inf.bytes zv x y X.H = some r) :
    ∃ v X', (Instr.makeSlice t p q).run P X.w = .ok v X'.w ∧ X'.H = r.2.1 ∧ Rel G X' ∧ Ext X X' ∧ EscI X.H r.2.1 r.2.2 ∧ M X' r.1 v := by
  unfold makeA at h
  split at h
  case h_2 => cases h
  rename_i kn a' kc b'
  rw [M_int] at hx hy; subst hx; subst hy
  split at h
  case isFalse => cases h
  rename_i hc
  obtain ⟨c1, c2, c3, c4, c5, c6, c7⟩ := hc
  injection h with h; subst h
  obtain ⟨d, i, _, _, _, _, _, hsz⟩ := tk_some hz
  obtain ⟨inf2, zval, hi2, hzz, rfl, hzrun⟩ := zeroT_some hzv
  have hms : Ms X (ofVal zval).cells zval.cells.toList := cells_of c7 (M_ofVal X zval)
  have hs : zval.cells.size = z := by rw [← Array.length_toList, ← Ms_length hms, c6]
  have hb48 : b' ≤ 281474976710656 := by
    have : b' * 1 ≤ b' * inf.bytes := Int.mul_le_mul_of_nonneg_left (by omega) (by omega)
    omega
  have hwb := wrap64_id (n := b') (by omega) hb48
  have hwa := wrap64_id (n := a') c1 (by omega)
  have hge : ¬ (inf.bytes : Int) * b' > 2 ^ 48 := by rw [Int.mul_comm]; simp; exact c3
  let c : Array Value := (Array.range (b'.toNat * z)).map (zval.cells[· % zval.cells.size]!)
  have hrun : (Instr.makeSlice t (.int kn a') (.int kc b')).run P X.w = .ok (.slice (some ⟨X.w.heap.size, 0, none⟩) a'.toNat b'.toNat) { X.w with heap := X.w.heap.push (.cells c e) } := by
    unfold Instr.makeSlice
    simp only [Sem.run_bind, run_underlying ht, Result.andThen_ok, asInt, asIntOf, Sem.run_pure, run_typeInfo _ hi, hwb, hwa]
    rw [if_neg (by simp only [Bool.or_eq_true, decide_eq_true_eq, not_or]; exact ⟨⟨⟨by omega, hge⟩, by omega⟩, by omega⟩)]
    simp only [Sem.run_bind, run_askRoom, Result.andThen_ok, hsz]
    by_cases h0 : b'.toNat * z = 0
    · simp only [h0, if_true, Sem.run_bind, Sem.run_pure, Result.andThen_ok, newRow, run_newObj]
      have : ((Array.range 0).map fun x => (#[] : Array Value)[x % (#[] : Array Value).size]!) = c := by simp only [c, h0]; simp
      rw [this]
    · simp only [h0, if_false, Sem.run_bind, Sem.run_pure, Result.andThen_ok, hzrun, newRow, run_newObj]
      rfl
  have htold : Told X z (List.replicate a'.toNat (ofVal zval)) (c.toList.take ((List.replicate a'.toNat (ofVal zval)).length * z)) := by
    have h1 := zero_told (X := X) (zv := ofVal zval) (zval := zval) b'.toNat hms c6 c5
    have hle : a'.toNat * z ≤ b'.toNat * z := Nat.mul_le_mul_right z (by omega)
    have hcl : c.toList.length = b'.toNat * z := by simp [c]
    refine ⟨by simp only [List.length_take, List.length_replicate, hcl]; omega, fun i e he => ?_⟩
    have hi' : i < a'.toNat := by have := (List.getElem?_eq_some_iff.1 he).1; simpa using this
    rw [List.getElem?_replicate, if_pos hi'] at he
    obtain ⟨vs, m1, m2⟩ := h1.2 i e (by rw [List.getElem?_replicate, if_pos (by omega)]; exact he)
    refine ⟨vs, m1, fun j v hj => ?_⟩
    have hjz : j < z := by
      have := (List.getElem?_eq_some_iff.1 hj).1
      rw [← Ms_length m1] at this
      injection he with he; subst he; omega
    have hlt : i * z + j < a'.toNat * z := by
      have := Nat.mul_le_mul_right z (Nat.succ_le_of_lt hi')
      rw [Nat.succ_mul] at this; omega
    rw [List.getElem?_take_of_lt (by simpa using hlt)]
    exact m2 j v hj
  obtain ⟨X', w1, w2, w3, w4, w5, w6⟩ := newrow_ok (X := X) (el := e) (m := b'.toNat) hR c5 htold (fun e he => by rw [(List.mem_replicate.1 he).2]; exact c6) (fun e he => by rw [(List.mem_replicate.1 he).2]; exact c7) (by simp; omega) (by simp [c])
  refine ⟨_, X', by rw [w1]; exact hrun, w2, w3, w4, w5, by simpa using w6⟩

/-! ### conversions -/
theorem isU8_some {t : TypeId} (h : isU8 P t = true) : P.underlying t = some (.int .u8) := by
  unfold isU8 at h
  split at h
  · assumption
  · cases h
theorem toBytes_ok : ∀ {es : List AV} {l : List UInt8} {vs : List Value}, Ms X es vs → toBytes es = some l → ∃ ns : List Int, vs = ns.map (Value.int .u8) ∧ l = ns.map fun n => UInt8.ofNat n.toNat
  | [], l, vs, hm, h => by
    simp only [toBytes, Option.some.injEq] at h
    unfold Ms at hm
    exact ⟨[], by simpa using hm, by simpa using h.symm⟩
  | e :: es, l, vs, hm, h => by
    unfold Ms at hm
    obtain ⟨u, us, rfl, hu, hm⟩ := hm
    cases e with
    | int k n =>
      cases k with
      | u8 =>
        simp only [toBytes, Option.map_eq_some_iff] at h
        obtain ⟨l', h1, rfl⟩ := h
        obtain ⟨ns, rfl, rfl⟩ := toBytes_ok hm h1
        rw [M_int] at hu; subst hu
        exact ⟨n :: ns, rfl, rfl⟩
      | _ => simp [toBytes] at h
    | _ => simp [toBytes] at h
theorem str_bytes_ok {src dst e : TypeId} {s : ByteArray} (hR : Rel G X) (hs : P.underlying src = some .string) (hd : P.underlying dst = some (.slice e)) (he : P.underlying e = some (.int .u8)) :
    ∃ v X', (convert src dst (.string s)).run P X.w = .ok v X'.w ∧ X'.H = X.H ∧ Rel G X' ∧ Ext X X' ∧ M X' (.lst (bytesA s)) v := by
  obtain ⟨w1, w2, w3⟩ := push_im (w' := Lib.bytesWorld X.w e s) hR (fun b hb => Lib.bytesWorld_at_old X.w e s b hb) (by rw [Lib.bytesWorld_size]; omega)
    (by simp [Lib.bytesWorld, World.freeze, World.alloc, World.drew, -World.alloc_eq, -World.drew_eq]) (by simp [Lib.bytesWorld, World.freeze, World.alloc, World.drew, -World.alloc_eq, -World.drew_eq]) (by simp [Lib.bytesWorld, World.freeze, World.alloc, World.drew, -World.alloc_eq, -World.drew_eq])
  refine ⟨_, ⟨X.F, X.ι, X.H, Lib.bytesWorld X.w e s⟩, Lib.run_convert_string_bytes X.w src dst e s hs hd he, rfl, w1, w2, ?_⟩
  have hl : (bytesA s).length = s.size := by simp [bytesA, bl]
  rw [← hl]
  refine lst_of (z := 1) (by omega) (fun e he => ?_) w3 (Me_of_get fun i e he => ?_) ?_
  · simp only [bytesA, List.mem_map] at he
    obtain ⟨b, _, rfl⟩ := he
    rfl
  · have hi : i < s.size := by
      have := (List.getElem?_eq_some_iff.1 he).1
      omega
    simp only [bytesA, List.getElem?_map, Option.map_eq_some_iff] at he
    obtain ⟨b, hb, rfl⟩ := he
    refine ⟨rfl, ?_⟩
    simp only [AV.cells]
    unfold Mc
    refine ⟨⟨.int .u8 b.toNat, ?_, M_int.2 rfl⟩, by simp [Mc]⟩
    have := Lib.bytesWorld_cell X.w e s i hi
    rw [cell?_plain] at this
    show cellAt (Lib.bytesWorld X.w e s) _ _ = _
    rw [show 0 + i * 1 = i by omega, this]
    unfold bl at hb
    simp [List.getD, hb]
  · rw [hl]; unfold grownCap Question.cut; simp
theorem slice_shape {x : AV} {q : Value} {es : List AV} (hx : M X x q) (h : elemsA x X.H = some es) (hns : ∀ s, x ≠ .str s) : ∃ A c, q = .slice A es.length c := by
  cases x with
  | lst es0 =>
    simp only [elemsA, Option.some.injEq] at h; subst h
    obtain ⟨A, c, hq, _⟩ := M_lst hx
    exact ⟨A, c, hq⟩
  | nils =>
    simp only [elemsA, Option.some.injEq] at h; subst h
    rw [M_nils] at hx
    exact ⟨none, 0, hx⟩
  | emp b =>
    simp only [elemsA, Option.some.injEq] at h; subst h
    unfold M at hx
    obtain ⟨A, c, hq, _⟩ := hx
    exact ⟨A, c, hq⟩
  | str s => exact absurd rfl (hns _)
  | slc l off n tot =>
    simp only [elemsA] at h
    unfold M at hx
    obtain ⟨_, _, k3⟩ := hx
    split at h
    · rename_i z0 es0 hl
      split at h
      · rename_i hlen
        injection h with h
        rcases k3 (by simp [lenOf, hl, hlen]) with ⟨hv, _⟩ | ⟨hr, A, c, b, z1, s, hi, hv, a1, a2, a3, a4⟩
        · rw [hl] at hv; cases hv
        · have hle : es.length = n := by rw [← h]; simp; omega
          exact ⟨A, c, by rw [hle]; exact hv⟩
      · cases h
    · rename_i hl
      split at h
      · rename_i ht
        injection h with h; subst h
        rcases k3 (by simp [lenOf, hl, ht]) with ⟨_, _, _, hv⟩ | ⟨hr, _⟩
        · exact ⟨none, 0, hv⟩
        · rw [hl] at hr; simp [isRow] at hr
      · cases h
    · cases h
  | _ => simp only [elemsA] at h; cases h
theorem toBytes_get : ∀ {es : List AV} {l : List UInt8}, toBytes es = some l → ∃ ns : List Int, es = ns.map (AV.int .u8) ∧ l = ns.map fun n => UInt8.ofNat n.toNat
  | [], l, h => by simp only [toBytes, Option.some.injEq] at h; exact ⟨[], rfl, by simpa using h.symm⟩
  | e :: es, l, h => by
    cases e with
    | int k n =>
      cases k with
      | u8 =>
        simp only [toBytes, Option.map_eq_some_iff] at h
        obtain ⟨l', h1, rfl⟩ := h
        obtain ⟨ns, rfl, rfl⟩ := toBytes_get h1
        exact ⟨n :: ns, rfl, rfl⟩
      | _ => simp [toBytes] at h
    | _ => simp [toBytes] at h
theorem bytes_str_ok {src dst e : TypeId} {x : AV} {q : Value} {es : List AV} {l : List UInt8} (hR : Rel G X) (hs : P.underlying src = some (.slice e)) (hd : P.underlying dst = some .string) (he : P.underlying e = some (.int .u8))
    (hx : M X x q) (hel : elemsA x X.H = some es) (hns : ∀ s, x ≠ .str s) (h : toBytes es = some l) : (convert src dst q).run P X.w = .ok (.string ⟨l.toArray⟩) X.w := by
  obtain ⟨ns, rfl, rfl⟩ := toBytes_get h
  obtain ⟨A, c, rfl⟩ := slice_shape hx hel hns
  obtain ⟨_, _, _, cs, k1, k2, k3⟩ := elems_ok (P := P) (z := 1) hR hx hel (by cases ns <;> rfl)
  have hcs : cs = ns.map (Value.int .u8) := by
    apply List.ext_getElem?
    intro i
    cases hn : ns[i]? with
    | none =>
      have : ns.length ≤ i := by simpa using hn
      rw [List.getElem?_eq_none (by simp at k1; omega), List.getElem?_eq_none (by simpa using this)]
    | some n =>
      obtain ⟨vs, m1, m2⟩ := k3 i (.int .u8 n) (by simp [hn])
      simp only [AV.cells] at m1
      unfold Ms at m1
      obtain ⟨u, us, rfl, hu, _⟩ := m1
      rw [M_int] at hu; subst hu
      have := m2 0 _ rfl
      rw [show i * 1 + 0 = i by omega] at this
      rw [this]; simp [hn]
  subst hcs
  rw [run_convert_bytes_string X.w src dst e _ _ _ hs he hd]
  cases A with
  | none =>
    have := k2 X.w rfl
    simp [Builtin.firstCells] at this
    simp [Conv.bytesToString, this]
    rfl
  | some ad =>
    have := k2 X.w rfl
    simp only [Builtin.firstCells, Nat.mul_one] at this
    rw [run_bytesToString X.w ad _ _ ns this]
    have hf : ∀ (ns : List Int) (s : ByteArray), List.foldl (fun (r : ByteArray) (n : Int) => r.push (UInt8.ofNat n.toNat)) s ns = ⟨(s.data.toList ++ ns.map fun n => UInt8.ofNat n.toNat).toArray⟩ := fun ns => by
      induction ns with
      | nil => intro s; simp
      | cons n ns ih => intro s; simp only [List.foldl_cons]; rw [ih]; simp [ByteArray.push]
    rw [hf]
    simp

theorem min_ok {xs : List AV} {qs : List Value} {v : AV} {ts : Array TypeId} {ty : TypeId} (hx : Ms X xs qs) (h : minA xs = some v) : ∃ u, (Builtin.min_ ts ty qs.toArray).run P X.w = .ok u X.w ∧ M X v u := by
  unfold minA at h
  split at h
  · injection h with h; subst h
    unfold Ms at hx
    obtain ⟨u, us, rfl, hu, hx⟩ := hx
    unfold Ms at hx
    obtain ⟨u', us', rfl, hu', hx⟩ := hx
    unfold Ms at hx
    subst hx
    rw [M_int] at hu hu'; subst hu; subst hu'
    exact ⟨_, by simp [Builtin.min_, Builtin.min2], M_int.2 rfl⟩
  · cases h
theorem max_ok {xs : List AV} {qs : List Value} {v : AV} {ts : Array TypeId} {ty : TypeId} (hx : Ms X xs qs) (h : maxA xs = some v) : ∃ u, (Builtin.max_ ts ty qs.toArray).run P X.w = .ok u X.w ∧ M X v u := by
  unfold maxA at h
  split at h
  · injection h with h; subst h
    unfold Ms at hx
    obtain ⟨u, us, rfl, hu, hx⟩ := hx
    unfold Ms at hx
    obtain ⟨u', us', rfl, hu', hx⟩ := hx
    unfold Ms at hx
    subst hx
    rw [M_int] at hu hu'; subst hu; subst hu'
    exact ⟨_, by simp [Builtin.max_, Builtin.max2], M_int.2 rfl⟩
  · cases h
theorem iface_no {t : TypeId} (h : ¬ isIface P t = true) : ∃ d, P.underlying t = some d ∧ ∀ ms, d ≠ .interface ms := by
  unfold isIface at h
  cases hd : P.underlying t with
  | none => rw [hd] at h; simp at h
  | some d => rw [hd] at h; exact ⟨d, rfl, fun ms e => by subst e; simp at h⟩
theorem makeIface_ok {t : TypeId} {x : AV} {q : Value} (h : ¬ isIface P t = true) (hx : M X x q) : (Instr.makeInterface t q).run P X.w = .ok (.iface t q) X.w ∧ M X (.ifc t x) (.iface t q) := by
  obtain ⟨d, hd, hn⟩ := iface_no h
  refine ⟨?_, by unfold M; exact ⟨q, rfl, hx⟩⟩
  cases d <;> first | (simp [Instr.makeInterface, run_underlying hd]; done) | exact absurd rfl (hn _)
end
end Go.Pm
