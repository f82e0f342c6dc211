/- A part of the proof: what the functions of the program answer, as plain lists and numbers. -/
import Derived.Lib.ConvBytes
import Derived.Laws.BytesArg
import Derived.Test.YtaoklfecdcakbaaDoorP2
namespace Go.Pm
set_option linter.unusedVariables false
set_option linter.unusedSimpArgs false
section
variable {P : Program} {G : Nat → Option (List AV)} {X : Cx} {o : Oper} {a : Act} {T : List AV}
theorem wrap64_id {n : Int} (h0 : 0 ≤ n) (h1 : n ≤ 281474976710656) : IntKind.i64.wrap n = n := by
  unfold IntKind.wrap IntKind.signed IntKind.bits
  simp
  omega
theorem make_ok {t e : TypeId} {ag : Bool} {z : Nat} {inf : TypeInfo} {zv : AV} {x y : AV} {p q : Value} {r : R3} (hR : Rel G X) (ht : P.underlying t = some (.slice e)) (hz : tk P e = some (ag, z)) (hzv : zeroT P e = some zv) (hi : P.info? e = some inf)
    (hx : M X x p) (hy : M X y q) (h : makeA z inf.bytes zv x y X.H = some r) :
    ∃ v X', (Instr.makeSlice t p q).run P X.w = .ok v X'.w ∧ X'.H = r.2.1 ∧ Rel G X' ∧ Ext X X' ∧ EscI X.H r.2.1 r.2.2 ∧ M X' r.1 v := by
  unfold makeA at h
  split at h
  case h_2 => cases h
  rename_i kn a' kc b'
  rw [M_int] at hx hy; subst hx; subst hy
  split at h
  case isFalse => cases h
  rename_i hc
  obtain ⟨c1, c2, c3, c4, c5, c6, c7⟩ := hc
  injection h with h; subst h
  obtain ⟨d, i, _, _, _, _, _, hsz⟩ := tk_some hz
  obtain ⟨inf2, zval, hi2, hzz, rfl, hzrun⟩ := zeroT_some hzv
  have hms : Ms X (ofVal zval).cells zval.cells.toList := cells_of c7 (M_ofVal X zval)
  have hs : zval.cells.size = z := by rw [← Array.length_toList, ← Ms_length hms, c6]
  have hb48 : b' ≤ 281474976710656 := by
    have : b' * 1 ≤ b' * inf.bytes := Int.mul_le_mul_of_nonneg_left (by omega) (by omega)
    omega
  have hwb := wrap64_id (n := b') (by omega) hb48
  have hwa := wrap64_id (n := a') c1 (by omega)
  have hge : ¬ (inf.bytes : Int) * b' > 2 ^ 48 := by rw [Int.mul_comm]; simp; exact c3
  let c : Array Value := (Array.range (b'.toNat * z)).map (zval.cells[· % zval.cells.size]!)
  have hrun : (Instr.makeSlice t (.int kn a') (.int kc b')).run P X.w = .ok (.slice (some ⟨X.w.heap.size, 0, none⟩) a'.toNat b'.toNat) { X.w with heap := X.w.heap.push (.cells c e) } := by
    unfold Instr.makeSlice
    simp only [Sem.run_bind, run_underlying ht, Result.andThen_ok, asInt, asIntOf, Sem.run_pure, run_typeInfo _ hi, hwb, hwa]
    rw [if_neg (by simp only [Bool.or_eq_true, decide_eq_true_eq, not_or]; exact ⟨⟨⟨by omega, hge⟩, by omega⟩, by omega⟩)]
    simp only [Sem.run_bind, run_askRoom, Result.andThen_ok, hsz]
    by_cases h0 : b'.toNat * z = 0
    · simp only [h0, if_true, Sem.run_bind, Sem.run_pure, Result.andThen_ok, newRow, run_newObj]
      have : ((Array.range 0).map fun x => (#[] : Array Value)[x % (#[] : Array Value).size]!) = c := by simp only [c, h0]; simp
      rw [this]
    · simp only [h0, if_false, Sem.run_bind, Sem.run_pure, Result.andThen_ok, hzrun, newRow, run_newObj]
      rfl
  have htold : Told X z (List.replicate a'.toNat (ofVal zval)) (c.toList.take ((List.replicate a'.toNat (ofVal zval)).length * z)) := by
    have h1 := zero_told (X := X) (zv := ofVal zval) (zval := zval) b'.toNat hms c6 c5
    have hle : a'.toNat * z ≤ b'.toNat * z := Nat.mul_le_mul_right z (by omega)
    have hcl : c.toList.length = b'.toNat * z := by simp [c]
    refine ⟨by simp only [List.length_take, List.length_replicate, hcl]; omega, fun i e he => ?_⟩
    have hi' : i < a'.toNat := by have := (List.getElem?_eq_some_iff.1 he).1; simpa using this
    rw [List.getElem?_replicate, if_pos hi'] at he
    obtain ⟨vs, m1, m2⟩ := h1.2 i e (by rw [List.getElem?_replicate, if_pos (by omega)]; exact he)
    refine ⟨vs, m1, fun j v hj => ?_⟩
    have hjz : j < z := by
      have := (List.getElem?_eq_some_iff.1 hj).1
      rw [← Ms_length m1] at this
      injection he with he; subst he; omega
    have hlt : i * z + j < a'.toNat * z := by
      have := Nat.mul_le_mul_right z (Nat.succ_le_of_lt hi')
      rw [Nat.succ_mul] at this; omega
    rw [List.getElem?_take_of_lt (by simpa using hlt)]
    exact m2 j v hj
  obtain ⟨X', w1, w2, w3, w4, w5, w6⟩ := newrow_ok (X := X) (el := e) (m := b'.toNat) hR c5 htold (fun e he => by rw [(List.mem_replicate.1 he).2]; exact c6) (fun e he => by rw [(List.mem_replicate.1 he).2]; exact c7) (by simp; omega) (by simp [c])
  refine ⟨_, X', by rw [w1]; exact hrun, w2, w3, w4, w5, by simpa using w6⟩

theorem fresh_shape {x : AV} {p : Value} (hx : M X x p) (h : freshA x = true) : ∃ A, p = .slice A 0 0 := by
  unfold freshA at h
  split at h
  · rw [M_nils] at hx; exact ⟨none, hx⟩
  · unfold M at hx
    obtain ⟨A, c, hp, _, hc⟩ := hx
    have := hc rfl
    subst this
    exact ⟨A, hp⟩
  · cases h
theorem appF_ok (hR : Rel G X) {ts : Array TypeId} {t e u ty : TypeId} {inf : TypeInfo} {ag : Bool} {z : Nat} {zv : AV} {x y v : AV} {p q : Value} {ys : List AV} (h0 : ts[0]? = some t) (h1 : ts[1]? = some u) (ht : P.underlying t = some (.slice e)) (hu : noInt P u = true)
    (hz : tk P e = some (ag, z)) (hi : P.info? e = some inf) (hzv : zeroT P e = some zv) (hzl : zv.cells.length = z) (hzb : zv.isBad = false) (hx : M X x p) (hy : M X y q) (hys : elemsA y X.H = some ys) (h : appF z inf.bytes x ys = some v) :
    ∃ v' X', (Builtin.append_ ts ty #[p, q]).run P X.w = .ok v' X'.w ∧ X'.H = X.H ∧ Rel G X' ∧ Ext X X' ∧ M X' v v' := by
  obtain ⟨du, hdu, hnd⟩ := noInt_some hu
  obtain ⟨d, inf', _, hi', _, _, _, hsz⟩ := tk_some hz
  obtain ⟨inf2, zval, hi2, hzz, hzv', hzrun⟩ := zeroT_some hzv
  unfold appF at h
  split at h
  case isFalse => cases h
  rename_i hc
  obtain ⟨c1, c3⟩ := hc
  injection h with h; subst h
  obtain ⟨A, rfl⟩ := fresh_shape hx c1
  cases hemp : ys.isEmpty with
  | true =>
    have hys0 : ys = [] := by simpa using hemp
    subst hys0
    obtain ⟨_, k1, _, cs, k2, k3, _⟩ := elems_ok (P := P) (z := z) hR hy hys rfl
    have hcs : cs = [] := List.eq_nil_of_length_eq_zero (by simpa using k2)
    subst hcs
    refine ⟨_, X, run_append_room (n := 0) (c := 0) (m := 0) (new := #[]) h0 h1 ht hdu hnd hsz (fun w => k1 w) (by omega) (k3 _ rfl) (by cases A <;> simp [storeCells]), rfl, hR, Ext.refl X, ?_⟩
    unfold M
    exact ⟨A, 0, rfl, Nat.le_refl _, by simp [oneL], fun h => absurd rfl h⟩
  | false =>
    obtain ⟨hlz, hz0, hb0, hb1, hbig⟩ := c3 hemp
    have hypos : 0 < ys.length := List.length_pos_iff.2 (by simpa using hemp)
    obtain ⟨yone, ylen, ycl, ycs, y1, y2, y3⟩ := elems_ok (P := P) hR hy hys hlz
    obtain ⟨cap, hcap1, hrun⟩ := run_append_new (ty := ty) (n := 0) (c := 0) (old := ([] : List Value).toArray) (new := ycs.toArray) (w := X.w) h0 h1 ht hdu hnd hsz hi hzrun (fun w => ylen w) (by omega) hb0 (by
        have h3 := nextcap_le (0 + ys.length) 0 (by omega)
        have h4 : Builtin.nextslicecap (0 + ys.length) 0 * inf.bytes ≤ ((0 + ys.length) + (0 + ys.length) / 4 + 512) * inf.bytes := Nat.mul_le_mul_right _ h3
        have h5 : (0 + ys.length) / 4 * inf.bytes ≤ (0 + ys.length) * inf.bytes / 4 := by
          have := Nat.mul_div_le ((0 + ys.length)) 4
          rw [Nat.le_div_iff_mul_le (by omega)]
          calc (0 + ys.length) / 4 * inf.bytes * 4 = (4 * ((0 + ys.length) / 4)) * inf.bytes := by rw [Nat.mul_comm 4, Nat.mul_assoc, Nat.mul_assoc, Nat.mul_comm inf.bytes 4]
            _ ≤ (0 + ys.length) * inf.bytes := Nat.mul_le_mul_right _ this
        rw [Nat.add_mul, Nat.add_mul] at h4
        simp only [Nat.zero_add] at h4 h5 ⊢
        omega) (fun w _ => first0 A z 0 w) y2
    rw [Nat.zero_add] at hcap1 hrun
    obtain ⟨w1, w2, w3⟩ := push_im (X := X) (w' := { X.w with heap := X.w.heap.push (.cells (([] : List Value).toArray ++ ycs.toArray ++ Builtin.zeroCells zval.cells (cap - ys.length)) e), drawn := X.w.drawn + 1 }) hR (fun b hb => by
        show (X.w.heap.push _)[b]? = _
        rw [Array.getElem?_push_lt hb]; simp [hb]) (by simp) rfl rfl rfl
    refine ⟨_, ⟨X.F, X.ι, X.H, { X.w with heap := X.w.heap.push (.cells (([] : List Value).toArray ++ ycs.toArray ++ Builtin.zeroCells zval.cells (cap - ys.length)) e), drawn := X.w.drawn + 1 }⟩, hrun, rfl, w1, w2, ?_⟩
    refine lst_of hz0 yone w3 (Me_of_get fun i x hx => ?_) (by omega)
    obtain ⟨vs', m1, m2⟩ := y3 i x hx
    refine ⟨ycl x (List.mem_of_getElem? hx), Mc_of_vals (Ms_mono w2 _ _ m1) fun j v hj => ?_⟩
    have h4 := m2 j v hj
    have hlt := (List.getElem?_eq_some_iff.1 h4).1
    show cellAt { X.w with heap := X.w.heap.push (.cells (([] : List Value).toArray ++ ycs.toArray ++ Builtin.zeroCells zval.cells (cap - ys.length)) e), drawn := X.w.drawn + 1 } _ _ = _
    simp only [cellAt, Array.getElem?_push_size, Nat.zero_add]
    rw [Array.getElem?_append_left (by simp at hlt ⊢; omega)]
    simpa using h4

theorem isU8_some {t : TypeId} (h : isU8 P t = true) : P.underlying t = some (.int .u8) := by
  unfold isU8 at h
  split at h
  · assumption
  · cases h
theorem str_bytes_ok {src dst e : TypeId} {s : ByteArray} (hR : Rel G X) (hs : P.underlying src = some .string) (hd : P.underlying dst = some (.slice e)) (he : P.underlying e = some (.int .u8)) :
    ∃ v X', (convert src dst (.string s)).run P X.w = .ok v X'.w ∧ X'.H = X.H ∧ Rel G X' ∧ Ext X X' ∧ M X' (.lst (bytesA s)) v := by
  obtain ⟨w1, w2, w3⟩ := push_im (w' := Lib.bytesWorld X.w e s) hR (fun b hb => Lib.bytesWorld_at_old X.w e s b hb) (by rw [Lib.bytesWorld_size]; omega)
    (by simp [Lib.bytesWorld, World.freeze, World.alloc, World.drew, -World.alloc_eq, -World.drew_eq]) (by simp [Lib.bytesWorld, World.freeze, World.alloc, World.drew, -World.alloc_eq, -World.drew_eq]) (by simp [Lib.bytesWorld, World.freeze, World.alloc, World.drew, -World.alloc_eq, -World.drew_eq])
  refine ⟨_, ⟨X.F, X.ι, X.H, Lib.bytesWorld X.w e s⟩, Lib.run_convert_string_bytes X.w src dst e s hs hd he, rfl, w1, w2, ?_⟩
  have hl : (bytesA s).length = s.size := by simp [bytesA, bl]
  rw [← hl]
  refine lst_of (z := 1) (by omega) (fun e he => ?_) w3 (Me_of_get fun i e he => ?_) ?_
  · simp only [bytesA, List.mem_map] at he
    obtain ⟨b, _, rfl⟩ := he
    rfl
  · have hi : i < s.size := by
      have := (List.getElem?_eq_some_iff.1 he).1
      omega
    simp only [bytesA, List.getElem?_map, Option.map_eq_some_iff] at he
    obtain ⟨b, hb, rfl⟩ := he
    refine ⟨rfl, ?_⟩
    simp only [AV.cells]
    unfold Mc
    refine ⟨⟨.int .u8 b.toNat, ?_, M_int.2 rfl⟩, by simp [Mc]⟩
    have := Lib.bytesWorld_cell X.w e s i hi
    rw [cell?_plain] at this
    show cellAt (Lib.bytesWorld X.w e s) _ _ = _
    rw [show 0 + i * 1 = i by omega, this]
    unfold bl at hb
    simp [List.getD, hb]
  · rw [hl]; unfold grownCap Question.cut; simp
theorem slice_shape {x : AV} {q : Value} {es : List AV} (hx : M X x q) (h : elemsA x X.H = some es) (hns : ∀ s, x ≠ .str s) : ∃ A c, q = .slice A es.length c := by
  cases x with
  | lst es0 =>
    simp only [elemsA, Option.some.injEq] at h; subst h
    obtain ⟨A, c, hq, _⟩ := M_lst hx
    exact ⟨A, c, hq⟩
  | lnt y =>
    cases y with
    | lst es0 =>
      simp only [elemsA, Option.some.injEq] at h; subst h
      unfold M at hx
      obtain ⟨A, c, hq, _⟩ := M_lst hx
      exact ⟨A, c, by rw [lntWL_map, List.length_map]; exact hq⟩
    | _ => simp [elemsA] at h
  | nils =>
    simp only [elemsA, Option.some.injEq] at h; subst h
    rw [M_nils] at hx
    exact ⟨none, 0, hx⟩
  | emp b =>
    simp only [elemsA, Option.some.injEq] at h; subst h
    unfold M at hx
    obtain ⟨A, c, hq, _⟩ := hx
    exact ⟨A, c, hq⟩
  | str s => exact absurd rfl (hns _)
  | slc l off n tot =>
    simp only [elemsA] at h
    unfold M at hx
    obtain ⟨_, _, k3⟩ := hx
    split at h
    · rename_i z0 es0 hl
      split at h
      · rename_i hlen
        injection h with h
        rcases k3 (by simp [lenOf, hl, hlen]) with ⟨hv, _⟩ | ⟨hr, A, c, b, z1, s, hi, hv, a1, a2, a3, a4⟩
        · rw [hl] at hv; cases hv
        · have hle : es.length = n := by rw [← h]; simp; omega
          exact ⟨A, c, by rw [hle]; exact hv⟩
      · cases h
    · rename_i hl
      split at h
      · rename_i ht
        injection h with h; subst h
        rcases k3 (by simp [lenOf, hl, ht]) with ⟨_, _, _, hv⟩ | ⟨hr, _⟩
        · exact ⟨none, 0, hv⟩
        · rw [hl] at hr; simp [isRow] at hr
      · cases h
    · cases h
  | _ => simp only [elemsA] at h; cases h
theorem toBytes_get : ∀ {es : List AV} {l : List UInt8}, toBytes es = some l → ∃ ns : List Int, es = ns.map (AV.int .u8) ∧ l = ns.map fun n => UInt8.ofNat n.toNat
  | [], l, h => by simp only [toBytes, Option.some.injEq] at h; exact ⟨[], rfl, by simpa using h.symm⟩
  | e :: es, l, h => by
    cases e with
    | int k n =>
      cases k with
      | u8 =>
        simp only [toBytes, Option.map_eq_some_iff] at h
        obtain ⟨l', h1, rfl⟩ := h
        obtain ⟨ns, rfl, rfl⟩ := toBytes_get h1
        exact ⟨n :: ns, rfl, rfl⟩
      | _ => simp [toBytes] at h
    | _ => simp [toBytes] at h
theorem bytes_str_ok {src dst e : TypeId} {x : AV} {q : Value} {es : List AV} {l : List UInt8} (hR : Rel G X) (hs : P.underlying src = some (.slice e)) (hd : P.underlying dst = some .string) (he : P.underlying e = some (.int .u8))
    (hx : M X x q) (hel : elemsA x X.H = some es) (hns : ∀ s, x ≠ .str s) (h : toBytes es = some l) : (convert src dst q).run P X.w = .ok (.string ⟨l.toArray⟩) X.w := by
  obtain ⟨ns, rfl, rfl⟩ := toBytes_get h
  obtain ⟨A, c, rfl⟩ := slice_shape hx hel hns
  obtain ⟨_, _, _, cs, k1, k2, k3⟩ := elems_ok (P := P) (z := 1) hR hx hel (by cases ns <;> rfl)
  have hcs : cs = ns.map (Value.int .u8) := by
    apply List.ext_getElem?
    intro i
    cases hn : ns[i]? with
    | none =>
      have : ns.length ≤ i := by simpa using hn
      rw [List.getElem?_eq_none (by simp at k1; omega), List.getElem?_eq_none (by simpa using this)]
    | some n =>
      obtain ⟨vs, m1, m2⟩ := k3 i (.int .u8 n) (by simp [hn])
      simp only [AV.cells] at m1
      unfold Ms at m1
      obtain ⟨u, us, rfl, hu, _⟩ := m1
      rw [M_int] at hu; subst hu
      have := m2 0 _ rfl
      rw [show i * 1 + 0 = i by omega] at this
      rw [this]; simp [hn]
  subst hcs
  rw [run_convert_bytes_string X.w src dst e _ _ _ hs he hd]
  cases A with
  | none =>
    have := k2 X.w rfl
    simp [Builtin.firstCells] at this
    simp [Conv.bytesToString, this]
    rfl
  | some ad =>
    have := k2 X.w rfl
    simp only [Builtin.firstCells, Nat.mul_one] at this
    rw [run_bytesToString X.w ad _ _ ns this]
    have hf : ∀ (ns : List Int) (s : ByteArray), List.foldl (fun (r : ByteArray) (n : Int) => r.push (UInt8.ofNat n.toNat)) s ns = ⟨(s.data.toList ++ ns.map fun n => UInt8.ofNat n.toNat).toArray⟩ := fun ns => by
      induction ns with
      | nil => intro s; simp
      | cons n ns ih => intro s; simp only [List.foldl_cons]; rw [ih]; simp [ByteArray.push]
    rw [hf]
    simp

theorem min_ok {xs : List AV} {qs : List Value} {v : AV} {ts : Array TypeId} {ty : TypeId} (hx : Ms X xs qs) (h : minA xs = some v) : ∃ u, (Builtin.min_ ts ty qs.toArray).run P X.w = .ok u X.w ∧ M X v u := by
  unfold minA at h
  split at h
  · injection h with h; subst h
    unfold Ms at hx
    obtain ⟨u, us, rfl, hu, hx⟩ := hx
    unfold Ms at hx
    obtain ⟨u', us', rfl, hu', hx⟩ := hx
    unfold Ms at hx
    subst hx
    rw [M_int] at hu hu'; subst hu; subst hu'
    exact ⟨_, by simp [Builtin.min_, Builtin.min2], M_int.2 rfl⟩
  · cases h
theorem max_ok {xs : List AV} {qs : List Value} {v : AV} {ts : Array TypeId} {ty : TypeId} (hx : Ms X xs qs) (h : maxA xs = some v) : ∃ u, (Builtin.max_ ts ty qs.toArray).run P X.w = .ok u X.w ∧ M X v u := by
  unfold maxA at h
  split at h
  · injection h with h; subst h
    unfold Ms at hx
    obtain ⟨u, us, rfl, hu, hx⟩ := hx
    unfold Ms at hx
    obtain ⟨u', us', rfl, hu', hx⟩ := hx
    unfold Ms at hx
    subst hx
    rw [M_int] at hu hu'; subst hu; subst hu'
    exact ⟨_, by simp [Builtin.max_, Builtin.max2], M_int.2 rfl⟩
  · cases h
theorem iface_no {t : TypeId} (h : ¬ isIface P t = true) : ∃ d, P.underlying t = some d ∧ ∀ ms, d ≠ .interface ms := by
  unfold isIface at h
  cases hd : P.underlying t with
  | none => rw [hd] at h; simp at h
  | some d => rw [hd] at h; exact ⟨d, rfl, fun ms e => by subst e; simp at h⟩
theorem makeIface_ok {t : TypeId} {x : AV} {q : Value} (h : ¬ isIface P t = true) (hx : M X x q) : (Instr.makeInterface t q).run P X.w = .ok (.iface t q) X.w ∧ M X (.ifc t x) (.iface t q) := by
  obtain ⟨d, hd, hn⟩ := iface_no h
  refine ⟨?_, by unfold M; exact ⟨q, rfl, hx⟩⟩
  cases d <;> first | (simp [Instr.makeInterface, run_underlying hd]; done) | exact absurd rfl (hn _)
end
end Go.Pm
namespace Go.Pm
set_option linter.unusedVariables false
set_option linter.unusedSimpArgs false
section
variable {P : Program} {G : Nat → Option (List AV)} {X : Cx}
theorem cap_ok {ts : Array TypeId} {t e ty : TypeId} {x v : AV} {q : Value} (ht : ts[0]? = some t) (hd : P.underlying t = some (.slice e)) (hx : M X x q) (h : capA x = some v) :
    ∃ u, (Builtin.cap_ ts ty #[q]).run P X.w = .ok u X.w ∧ M X v u := by
  unfold capA at h
  split at h
  · injection h with h; subst h
    rw [M_nils] at hx; subst hx
    exact ⟨.int .i64 0, by simp [Builtin.cap_, ht, run_underlying hd, goInt], M_int.2 rfl⟩
  · cases h
theorem appZ_ok (hR : Rel G X) {ts : Array TypeId} {t e u ty : TypeId} {k : IntKind} {inf : TypeInfo} {ag : Bool} {z : Nat} {zv x y : AV} {p q : Value} {r : R3} (h0 : ts[0]? = some t) (h1 : ts[1]? = some u) (ht : P.underlying t = some (.slice e)) (hu : P.underlying u = some (.int k))
    (hz : tk P e = some (ag, z)) (hi : P.info? e = some inf) (hzv : zeroT P e = some zv) (hx : M X x p) (hy : M X y q) (h : appZ z inf.bytes zv x y X.H = some r) :
    ∃ v X', (Builtin.append_ ts ty #[p, q]).run P X.w = .ok v X'.w ∧ X'.H = r.2.1 ∧ Rel G X' ∧ Ext X X' ∧ EscI X.H r.2.1 r.2.2 ∧ M X' r.1 v := by
  unfold appZ at h
  split at h
  case h_2 => cases h
  rename_i kn n
  rw [M_nils] at hx; rw [M_int] at hy; subst hx; subst hy
  split at h
  case isFalse => cases h
  rename_i hc
  obtain ⟨c1, c2, c3, c4, c5, c6⟩ := hc
  injection h with h; subst h
  obtain ⟨d, i, _, _, _, _, _, hsz⟩ := tk_some hz
  obtain ⟨inf2, zval, hi2, hzz, rfl, hzrun⟩ := zeroT_some hzv
  have hms : Ms X (ofVal zval).cells zval.cells.toList := cells_of c6 (M_ofVal X zval)
  have hs : zval.cells.size = z := by rw [← Array.length_toList, ← Ms_length hms, c5]
  have hb48 : n ≤ 140737489400832 := by
    have : n * 1 ≤ n * inf.bytes := Int.mul_le_mul_of_nonneg_left (by omega) (by omega)
    omega
  have hwn := wrap64_id (n := n) (by omega) (by omega)
  obtain ⟨m, rfl⟩ : ∃ m : Nat, n = (m : Int) := ⟨n.toNat, by omega⟩
  have hm0 : 0 < m := by omega
  have hmb : m * inf.bytes ≤ 140737489400832 := by rw [← Int.natCast_mul] at c2; exact Int.ofNat_le.1 c2
  obtain ⟨k1, k2, k3⟩ := world_ok hR (w' := { X.w with drawn := X.w.drawn + 1 }) rfl rfl rfl rfl
  let cap : Nat := m + X.w.tape X.w.drawn (.appendCap m 0 e) % (2 ^ 63 - m)
  let c : Array Value := Builtin.zeroCells zval.cells m ++ Builtin.zeroCells zval.cells (cap - m)
  have hzc : ∀ j, (Builtin.zeroCells zval.cells j).size = j * z := fun j => by unfold Builtin.zeroCells; rw [Array.size_map, Array.size_range, hs]
  have hrun : (Builtin.append_ ts ty #[.slice none 0 0, .int kn (m : Int)]).run P X.w = .ok (.slice (some ⟨X.w.heap.size, 0, none⟩) m cap) { X.w with heap := X.w.heap.push (.cells c e), drawn := X.w.drawn + 1 } := by
    unfold Builtin.append_
    have e0 : (#[Value.slice none 0 0, .int kn (m : Int)] : Array Value)[0]? = some (.slice none 0 0) := rfl
    have e1 : (#[Value.slice none 0 0, .int kn (m : Int)] : Array Value)[1]? = some (.int kn m) := rfl
    have hmz : ¬ m * z = 0 := by
      have := Nat.mul_pos hm0 c4
      omega
    simp only [h0, h1, e0, e1, Sem.run_bind, run_underlying ht, run_underlying hu, Result.andThen_ok, hsz, Sem.run_pure, if_true, asInt, asIntOf, hwn, run_typeInfo _ hi]
    rw [if_neg (by omega)]
    simp only [Sem.run_pure, Sem.run_bind, Result.andThen_ok, run_typeInfo _ hi]
    rw [if_neg (by omega)]
    simp only [Sem.run_pure, Sem.run_bind, Result.andThen_ok, Int.toNat_natCast, Nat.zero_add]
    rw [if_neg (by omega)]
    simp only [Sem.run_bind, run_typeInfo _ hi, Result.andThen_ok]
    rw [if_neg (by
      have : IntKind.i64.max = 9223372036854775807 := by decide
      omega)]
    have hnc : Builtin.nextslicecap m 0 = m := by unfold Builtin.nextslicecap; rw [if_pos (by omega)]
    simp only [Sem.run_pure, Sem.run_bind, Result.andThen_ok, run_typeInfo _ hi, hnc]
    rw [if_neg (by omega)]
    simp only [Sem.run_pure, Sem.run_bind, Result.andThen_ok, run_choose, Question.forced, Bool.false_eq_true, if_false, Question.cut, run_askRoom, run_typeInfo _ hi, Builtin.firstCells, Bool.not_true, hmz, hzrun, newRow, run_newObj]
    simp [c, cap]
  have htold : Told (⟨X.F, X.ι, X.H, { X.w with drawn := X.w.drawn + 1 }⟩ : Cx) z (List.replicate m (ofVal zval)) (c.toList.take ((List.replicate m (ofVal zval)).length * z)) := by
    have h1 := zero_told (X := (⟨X.F, X.ι, X.H, { X.w with drawn := X.w.drawn + 1 }⟩ : Cx)) (zv := ofVal zval) (zval := zval) m (Ms_mono k2 _ _ hms) c5 c4
    have : c.toList.take ((List.replicate m (ofVal zval)).length * z) = ((Array.range (m * z)).map (zval.cells[· % zval.cells.size]!)).toList := by
      simp only [c, Array.toList_append, List.length_replicate]
      rw [List.take_append_of_le_length (by rw [Array.length_toList, hzc]; exact Nat.le_refl _), List.take_of_length_le (by rw [Array.length_toList, hzc]; exact Nat.le_refl _)]
      simp [Builtin.zeroCells, hs]
    rw [this]; exact h1
  obtain ⟨X', w1, w2, w3, w4, w5, w6⟩ := newrow_ok (X := (⟨X.F, X.ι, X.H, { X.w with drawn := X.w.drawn + 1 }⟩ : Cx)) (el := e) (m := cap) k1 c4 htold (fun e he => by rw [(List.mem_replicate.1 he).2]; exact c5) (fun e he => by rw [(List.mem_replicate.1 he).2]; exact c6) (by simp [cap]) (by
    simp only [c, Array.size_append, hzc]
    rw [← Nat.add_mul]
    congr 1
    simp only [cap]; omega)
  refine ⟨_, X', by rw [w1]; exact hrun, by simpa using w2, w3, k2.trans w4, by simpa using w5, by simpa using w6⟩
end
end Go.Pm
namespace Go.Pm
set_option linter.unusedVariables false
set_option linter.unusedSimpArgs false
section
variable {P : Program} {G : Nat → Option (List AV)} {X : Cx}
theorem freeze_at (w : World) (b s : Nat) (b' : Nat) : (w.freeze ⟨b, s, none⟩ 1).heap[b']? = if b' = b then (w.heap[b]?).map (fun o => match o with
    | .cells c e (lo, hi) => .cells c e (if lo == hi then (s, s + 1) else (min lo s, max hi (s + 1)))
    | o => o) else w.heap[b']? := by
  unfold World.freeze
  simp only [Nat.succ_ne_zero, if_false, Array.getElem?_modify]
  by_cases h : b' = b
  · subst h; simp only [if_true]; rfl
  · simp only [h, Ne.symm h, if_false]
theorem mark_ok {l z b s : Nat} {es : List AV} (hR : Rel G X) (hl : X.H[l]? = some (.row z es)) (hi : X.ι l = some (b, z)) (hs : sizeAt X.w b = some s) :
    Rel G ⟨X.F, X.ι, X.H, X.w.freeze ⟨b, s, none⟩ 1⟩ ∧ Ext X ⟨X.F, X.ι, X.H, X.w.freeze ⟨b, s, none⟩ 1⟩ := by
  obtain ⟨_, _, _, _, _, _, _, hun⟩ := hR.rows l z es b z hl hi
  obtain ⟨c, e, lo, hi', hb, hlo⟩ := hun
  have hcs : c.size = s := by
    unfold sizeAt at hs; rw [hb] at hs; simpa using hs
  have hat := freeze_at X.w b s
  have hatb : (X.w.freeze ⟨b, s, none⟩ 1).heap[b]? = some (.cells c e (if lo == hi' then (s, s + 1) else (min lo s, max hi' (s + 1)))) := by rw [hat b, if_pos rfl, hb]; rfl
  have hcell : ∀ b' j, cellAt (X.w.freeze ⟨b, s, none⟩ 1) b' j = cellAt X.w b' j := fun b' j => by
    unfold cellAt
    by_cases h : b' = b
    · subst h; rw [hatb, hb]
    · rw [hat b', if_neg h]
  have hsize : ∀ b', sizeAt (X.w.freeze ⟨b, s, none⟩ 1) b' = sizeAt X.w b' := fun b' => by
    unfold sizeAt
    by_cases h : b' = b
    · subst h; rw [hatb, hb]
    · rw [hat b', if_neg h]
  have hunm : ∀ b', unmark X.w b' → unmark (X.w.freeze ⟨b, s, none⟩ 1) b' := fun b' h => by
    by_cases hbb : b' = b
    · subst hbb
      by_cases hlh : lo = hi'
      · exact ⟨c, e, s, s + 1, by rw [hatb]; simp [hlh], .inr (by omega)⟩
      · have hle : c.size ≤ lo := hlo.resolve_left hlh
        exact ⟨c, e, min lo s, max hi' (s + 1), by rw [hatb]; simp [hlh], .inr (by omega)⟩
    · exact unmark_eq h (by rw [hat b', if_neg hbb])
  have hwr : X.wr b := ⟨l, z, .inl (by rw [hl]; simp [isRow]), hi⟩
  have hsz : (X.w.freeze ⟨b, s, none⟩ 1).heap.size = X.w.heap.size := by
    unfold World.freeze
    simp
  have hE : Ext X ⟨X.F, X.ι, X.H, X.w.freeze ⟨b, s, none⟩ 1⟩ := by
    refine ⟨by rw [hsz]; exact Nat.le_refl _, Nat.le_refl _, fun b' _ hn => ?_, fun b' _ hw => hw, fun l t hl h => ⟨t, h, Nat.le_refl _, fun _ => ⟨fun hr => ⟨hr, fun b z hb => ⟨hb, hsize b⟩⟩, fun h => h⟩⟩, rfl, rfl, rfl, rfl, fun l _ h => ⟨h, rfl⟩⟩
    show (X.w.freeze ⟨b, s, none⟩ 1).heap[b']? = _
    rw [hat b', if_neg (fun (h : b' = b) => hn (by rw [h]; exact hwr))]
  refine ⟨⟨fun l z es b z' h1 h2 => ?_, fun l l' b z z' h1 h2 h3 h4 => hR.inj l l' b z z' h1 h2 h3 h4, maps_keep hR hE (fun _ _ h => h) (fun b' cs c' h => by
    have hne : b' ≠ b := fun e => by rw [e, hb] at h; cases h
    show (X.w.freeze ⟨b, s, none⟩ 1).heap[b']? = _
    rw [hat b', if_neg hne]; exact h), fun g cs hg => ?_, hR.wf, fb_keep hR hE, hR.gb⟩, hE⟩
  · obtain ⟨e1, e2, e3, ee, s, e4, e5, e6⟩ := hR.rows l z es b z' h1 h2
    exact ⟨e1, e2, Me_mono hE _ _ _ _ (fun j u hj => (hcell b j).trans hj) e3, ee, s, (hsize b).trans e4, e5, hunm b e6⟩
  · obtain ⟨h1, h2⟩ := hR.glob g cs hg
    exact ⟨im_keep hE h1, Mc_mono hE _ _ _ (fun j u hj => (hcell g j).trans hj) h2⟩

theorem cvR_ok {t e : TypeId} {x v : AV} {q : Value} (hR : Rel G X) (ht : P.underlying t = some (.slice e)) (he : P.underlying e = some (.int .u8)) (hx : M X x q) (h : cvR x X.H = some v) :
    ∃ X', (convert t t q).run P X.w = .ok q X'.w ∧ X'.H = X.H ∧ Rel G X' ∧ Ext X X' ∧ M X' v q := by
  unfold cvR at h
  split at h
  · rename_i l off n tot
    split at h
    · rename_i z es hl
      split at h
      · rename_i hc
        injection h with h; subst h
        have hx' := hx
        unfold M at hx
        obtain ⟨_, _, k3⟩ := hx
        rcases k3 (by simp [lenOf, hl, hc.1]) with ⟨hv, _⟩ | ⟨hr, A, c, b, z1, s, hi, hv, a1, a2, a3, a4⟩
        · rw [hl] at hv; cases hv
        · obtain ⟨rfl, _⟩ := hR.rows l z es b z1 hl hi
          obtain ⟨hA, _⟩ := a4.resolve_left (by omega)
          obtain ⟨k1, k2⟩ := mark_ok hR hl hi a3
          refine ⟨⟨X.F, X.ι, X.H, X.w.freeze ⟨b, s, none⟩ 1⟩, ?_, rfl, k1, k2, M_mono k2 _ _ hx'⟩
          subst hv; subst hA
          obtain ⟨ty, hsh⟩ : ∃ ty, X.w.shape? b = some (ty, s) := by
            unfold sizeAt at a3
            unfold World.shape?
            split at a3
            · rename_i c' e' f' hb
              rw [hb]
              simp only [Option.some.injEq] at a3
              exact ⟨e', by rw [← a3]⟩
            · cases a3
          simp [convert, run_underlying ht, run_underlying he, markStringish, hsh]
      · cases h
    · cases h
  · cases h
end
end Go.Pm
namespace Go.Pm
set_option linter.unusedVariables false
set_option linter.unusedSimpArgs false
section
variable {P : Program} {G : Nat → Option (List AV)} {X : Cx} {o : Oper} {a : Act} {T : List AV}
theorem run_v {s : Sem Value} {u : Value} {w w' : World} (h : s.run P w = .ok u w') : (do pure (Next.value (← s)) : Sem Next).run P w = .ok (.value u) w' := by simp [h]
theorem run_u {s : Sem Unit} {w w' : World} (h : s.run P w = .ok () w') : (do s; pure Next.skip : Sem Next).run P w = .ok .skip w' := by simp [h]

theorem vrow_ok (hR : Rel G X) : Rel G ⟨X.F, X.ι, X.H ++ [.vrow], X.w⟩ ∧ Ext X ⟨X.F, X.ι, X.H ++ [.vrow], X.w⟩ ∧ EscI X.H (X.H ++ [.vrow]) [] ∧ M ⟨X.F, X.ι, X.H ++ [.vrow], X.w⟩ (.slc X.H.length 0 0 0) (.slice none 0 0) := by
  have hg : ∀ l, l < X.H.length → (X.H ++ [AObj.vrow])[l]? = X.H[l]? := fun l h => List.getElem?_append_left h
  have hrow : ∀ l z es, (X.H ++ [AObj.vrow])[l]? = some (AObj.row z es) → X.H[l]? = some (AObj.row z es) := fun l z es h => by
    rcases Nat.lt_or_ge l X.H.length with hlt | hge
    · rwa [hg l hlt] at h
    · rw [List.getElem?_append_right hge] at h
      cases hk : l - X.H.length with
      | zero => rw [hk] at h; simp at h
      | succ k => rw [hk] at h; simp at h
  have hisr : ∀ l, isRow (X.H ++ [AObj.vrow])[l]? → isRow X.H[l]? := fun l h => by
    obtain ⟨z, es, he⟩ := isRow_some h
    rw [hrow l z es he]; simp [isRow]
  have hmp : ∀ (l : Nat) (es : List (AV × AV)), (X.H ++ [AObj.vrow])[l]? = some (AObj.mp es) → X.H[l]? = some (AObj.mp es) := fun l es h => by
    rcases Nat.lt_or_ge l X.H.length with hlt | hge
    · rwa [hg l hlt] at h
    · rw [List.getElem?_append_right hge] at h
      cases hk : l - X.H.length with
      | zero => rw [hk] at h; simp at h
      | succ k => rw [hk] at h; simp at h
  have hism : ∀ l, isMp (X.H ++ [AObj.vrow])[l]? → isMp X.H[l]? := fun l h => by
    obtain ⟨es, he⟩ := isMp_some h
    rw [hmp l es he]; simp [isMp]
  have hiso : ∀ l, isOwn (X.H ++ [AObj.vrow])[l]? → isOwn X.H[l]? := fun l h => h.imp (hisr l) (hism l)
  have hE : Ext X ⟨X.F, X.ι, X.H ++ [.vrow], X.w⟩ := by
    refine ⟨Nat.le_refl _, by simp, fun _ _ _ => rfl, fun b _ hw => ?_, fun l t hl h => ?_, rfl, rfl, rfl, rfl, fun l _ hm => ⟨hism l hm, rfl⟩⟩
    · obtain ⟨l, z, hr, hi⟩ := hw
      exact ⟨l, z, hiso l hr, hi⟩
    · have hk : lenOf X.H l = some t := by simpa only [lenOf, hg l hl] using h
      exact ⟨t, hk, Nat.le_refl _, fun _ => ⟨fun hr => ⟨by show isRow (X.H ++ [AObj.vrow])[l]?; rw [hg l hl]; exact hr, fun _ _ h => ⟨h, rfl⟩⟩, fun hv => by rw [← hv]; exact hg l hl⟩⟩
  refine ⟨⟨fun l z es b z' h1 h2 => ?_, fun l l' b z z' h1 h2 h3 h4 => hR.inj l l' b z z' (hiso l h1) (hiso l' h2) h3 h4, maps_keep hR hE hmp (fun _ _ _ h => h), fun g cs hg => ?_, fun l z es h => ?_, fb_keep hR hE, hR.gb⟩, hE, fun l z es h => .inr fun m hm hp => hp z es (hrow l z es h), ?_⟩
  · obtain ⟨e1, e2, e3, ee, s, e4, e5, e6⟩ := hR.rows l z es b z' (hrow l z es h1) h2
    exact ⟨e1, e2, Me_mono hE _ _ _ _ (fun j u hj => hj) e3, ee, s, e4, e5, e6⟩
  · obtain ⟨h1, h2⟩ := hR.glob g cs hg
    exact ⟨im_keep hE h1, Mc_mono hE _ _ _ (fun j u hj => hj) h2⟩
  · exact belL_mono (by simp) _ (hR.wf l z es (hrow l z es h))
  · unfold M
    refine ⟨⟨by simp, _, _, _, rfl⟩, fun t ht => ?_, fun _ => .inl ⟨by simp, rfl, rfl, rfl⟩⟩
    simp [lenOf] at ht; omega

theorem base_vr {g : FuncId} (h : okF P g = true) (act : Nat) : base (vrA act g) = g := by
  unfold okF at h
  simp only [Bool.and_eq_true, decide_eq_true_eq] at h
  have hg : g < 1000000 := h.1
  show (if act = 7 then g + 1000000 else if act = 13 then g + 2000000 else g) % 1000000 = g
  split
  · exact (Nat.add_mod_right g 1000000).trans (Nat.mod_eq_of_lt hg)
  · split
    · exact (Nat.add_mul_mod_self_right g 2 1000000).trans (Nat.mod_eq_of_lt hg)
    · exact Nat.mod_eq_of_lt hg
theorem okF_some {g : FuncId} (h : okF P g = true) : ∃ fn, P.funcs[g]? = some fn ∧ fn.body.isSome = true ∧ fn.name ≠ "runtime.NumGoroutine" := by
  unfold okF at h
  rw [Bool.and_eq_true] at h
  replace h := h.2
  split at h
  · rename_i fn hf
    simp only [Bool.and_eq_true, bne_iff_ne] at h
    exact ⟨fn, hf, h.1, h.2⟩
  · cases h
theorem run_call {c : Call} {ty : TypeId} {g : FuncId} {fi ca : Array Value} {f : Operand} {ρ : Operand → Value} {w : World} (hg : okF P g = true) (hc : c.callee = .value f) (hf : ρ f = .func (.func g) fi ca) :
    (do let d ← resolve ρ c ty; invoke d.target d.args : Sem Next).run P w = .ok (.enter g (fi ++ c.args.map ρ ++ ca)) w := by
  obtain ⟨fn, h1, h2, h3⟩ := okF_some hg
  have hb : ¬ fn.body = none := by intro hb; rw [hb] at h2; cases h2
  simp [resolve, hc, Deferred.ofValue, hf, invoke, callFunc, h1, h3, hb]

theorem upon_enter {g : FuncId} {args : Array Value} {w : World} (hrun : (execOp a.eval o).run P X.w = .ok (.enter g args) w) {K : Act → World → Prop} {Q : Exit → Act → World → Prop}
    (h : Calls P g args w fun e w' => ∃ u, e = .returned u ∧ K (a.put o.dst u) w') : o.wp P a X.w K Q := by
  unfold Oper.wp
  rw [hrun]
  simp only [Oper.upon]
  refine h.mono fun e w' he => ?_
  obtain ⟨u, rfl, hk⟩ := he
  exact hk

mutual
theorem flat_M {X Y : Cx} : ∀ (v : AV) (u : Value), v.flat = true → M X v u → M Y v u
  | .int _ _, u, h, hm => by unfold M at hm ⊢; exact hm
  | .bool _, u, h, hm => by unfold M at hm ⊢; exact hm
  | .str _, u, h, hm => by unfold M at hm ⊢; exact hm
  | .nilp, u, h, hm => by unfold M at hm ⊢; exact hm
  | .nils, u, h, hm => by unfold M at hm ⊢; exact hm
  | .emp _, u, h, hm => by unfold M at hm ⊢; exact hm
  | .nilf, u, h, hm => by unfold M at hm ⊢; exact hm
  | .nili, u, h, hm => by unfold M at hm ⊢; exact hm
  | .nilm, u, h, hm => by unfold M at hm ⊢; exact hm
  | .lst es, u, h, hm => by
    simp only [AV.flat, List.isEmpty_iff] at h
    subst h
    unfold M at hm ⊢
    obtain ⟨A, c, h1, h2, h3, h4⟩ := hm
    exact ⟨A, c, h1, h2, h3, fun hne => absurd rfl hne⟩
  | .agg cs, u, h, hm => by
    unfold M at hm ⊢
    obtain ⟨vs, h1, h2⟩ := hm
    exact ⟨vs, h1, flat_Ms cs _ (by simpa [AV.flat] using h) h2⟩
  | .tup cs, u, h, hm => by
    unfold M at hm ⊢
    obtain ⟨vs, h1, h2⟩ := hm
    exact ⟨vs, h1, flat_Ms cs _ (by simpa [AV.flat] using h) h2⟩
  | .ifc t v, u, h, hm => by
    unfold M at hm ⊢
    obtain ⟨q, h1, h2⟩ := hm
    exact ⟨q, h1, flat_M v _ (by simpa [AV.flat] using h) h2⟩
  | .bad, u, h, hm => by simp [AV.flat] at h
  | .lnt _, u, h, hm => by simp [AV.flat] at h
  | .ptr _ _ _ _, u, h, hm => by simp [AV.flat] at h
  | .ip _, u, h, hm => by simp [AV.flat] at h
  | .slc _ _ _ _, u, h, hm => by simp [AV.flat] at h
  | .clo _ _ _, u, h, hm => by simp [AV.flat] at h
theorem flat_Ms {X Y : Cx} : ∀ (vs : List AV) (us : List Value), flatL vs = true → Ms X vs us → Ms Y vs us
  | [], us, h, hm => by unfold Ms at hm ⊢; exact hm
  | c :: cs, us, h, hm => by
    simp only [flatL, Bool.and_eq_true] at h
    unfold Ms at hm ⊢
    obtain ⟨u, vs, h1, h2, h3⟩ := hm
    exact ⟨u, vs, h1, flat_M c _ h.1 h2, flat_Ms cs _ h.2 h3⟩
end
theorem call_ok {env : Env} (henv : EnvOk P G env) (hR : Rel G X) {raw : Bool} {g : FuncId} {args : List AV} {cargs : Array Value} {r : R3} (hm : Ms X args cargs.toList) (h : callA env raw g args X.H = some r) :
    Calls P (base g) cargs X.w fun e w' => ∃ u X', X'.w = w' ∧ e = .returned u ∧ X'.H = r.2.1 ∧ Rel G X' ∧ Ext X X' ∧ EscI X.H X'.H r.2.2 ∧ M X' r.1 u := by
  unfold callA at h
  split at h
  · exact henv _ _ _ _ h X cargs rfl hR hm
  · simp only [Option.bind_eq_some_iff] at h
    obtain ⟨as, h1, h2⟩ := h
    obtain ⟨k1, k2, k3⟩ := kill_ok hR (killsL args)
    have hm' := frzL_M hR (killsL args) args as _ hm h1 (fun l hl => hl)
    split at h2
    case isTrue hb =>
      simp only [Option.bind_eq_some_iff] at h2
      obtain ⟨r0, h3, h4⟩ := h2
      split at h4
      case isFalse => cases h4
      rename_i hemp
      simp only [Bool.and_eq_true, List.isEmpty_iff] at hemp
      injection h4 with h4; subst h4
      refine (henv _ _ _ _ h3 (Cx.low ⟨X.F, X.ι, killAll X.H (killsL args), X.w⟩) cargs rfl (low_ok k1) (low_Ms (X := ⟨X.F, X.ι, killAll X.H (killsL args), X.w⟩) (Y := Cx.low ⟨X.F, X.ι, killAll X.H (killsL args), X.w⟩) rfl (fun b => low_im) (fun b => low_imf) _ _ hb hm')).mono fun e w' he => ?_
      obtain ⟨u, X', e1, e2, e3, e4, e5, e6, e7⟩ := he
      have hH : X'.H = [] := e3.trans hemp.1
      split
      · rename_i hfl
        subst e1
        obtain ⟨q1, q2, _⟩ := high_ok hR (Y := ⟨X.low.F, X'.ι, [], X'.w⟩) ⟨e5.size, Nat.le_refl _, fun b hb _ => e5.keep b hb low_wr, fun b _ hw => by obtain ⟨l, z, hr, _⟩ := hw; simp [isOwn, isRow, isMp] at hr, fun l t hl _ => by simp [Cx.low] at hl, e5.tape, e5.os, e5.output, rfl, fun l hl _ => by simp [Cx.low] at hl⟩ rfl
        exact ⟨u, ⟨X.F, X.ι, X.H, X'.w⟩, rfl, e2, rfl, q1, q2, EscI.refl _, flat_M _ _ hfl e7⟩
      obtain ⟨q1, q2, q3, q4⟩ := high_ok k1 e5 hH
      subst e1
      refine ⟨u, ⟨X.F, X.ι, killAll X.H (killsL args), X'.w⟩, rfl, e2, rfl, q1, k2.trans q2, by simpa using k3.trans (EscI.refl _), ?_⟩
      have hbel := M_bel _ _ e7
      rw [hH] at hbel
      exact low_M (X := X') (Y := ⟨X.F, X.ι, killAll X.H (killsL args), X'.w⟩) rfl q3 q4 _ _ hbel e7
    refine (henv _ _ _ _ h2 ⟨X.F, X.ι, killAll X.H (killsL args), X.w⟩ cargs rfl k1 hm').mono fun e w' he => ?_
    obtain ⟨u, X', e1, e2, e3, e4, e5, e6, e7⟩ := he
    exact ⟨u, X', e1, e2, e3, e4, k2.trans e5, by simpa using k3.trans e6, e7⟩

mutual
theorem er_bel (m : Nat) : ∀ (v : AV), (er v).bel m = v.bel m
  | .lst es => by simp only [er, AV.bel]; exact erL_bel m es
  | .ip es => by simp only [er, AV.bel]; exact erL_bel m es
  | .agg es => by simp only [er, AV.bel]; exact erL_bel m es
  | .tup es => by simp only [er, AV.bel]; exact erL_bel m es
  | .clo _ fi ca => by simp only [er, AV.bel, erL_bel m fi, erL_bel m ca]
  | .ifc _ v => by simp only [er, AV.bel]; exact er_bel m v
  | .lnt v => by simp only [er, AV.bel]; exact er_bel m v
  | .bad | .int _ _ | .bool _ | .str _ | .nilp | .nils | .emp _ | .nilf | .nili | .nilm | .ptr _ _ _ _ | .slc _ _ _ _ | .mp _ => by simp only [er]
theorem erL_bel (m : Nat) : ∀ (cs : List AV), belL m (erL cs) = belL m cs
  | [] => rfl
  | c :: cs => by simp only [erL, belL, er_bel m c, erL_bel m cs]
end
theorem back_ok (hR : Rel G X) {Z Y : Cx} (hz : Z.w = X.w) (hw : ∀ b, ¬ Z.wr b) (hE : Ext Z Y) : Rel G ⟨X.F, X.ι, X.H, Y.w⟩ ∧ Ext X ⟨X.F, X.ι, X.H, Y.w⟩ := by
  have e : Ext X.low ⟨X.low.F, Y.ι, [], Y.w⟩ := ⟨by have := hE.size; rw [hz] at this; exact this, Nat.le_refl _, fun b hb _ => by have := hE.keep b (by rw [hz]; exact hb) (hw b); rw [hz] at this; exact this, fun b _ hw => by obtain ⟨l, z, hr, _⟩ := hw; simp [isOwn, isRow, isMp] at hr,
    fun l t hl _ => by simp [Cx.low] at hl, by have := hE.tape; rw [hz] at this; exact this, by have := hE.os; rw [hz] at this; exact this, by have := hE.output; rw [hz] at this; exact this, rfl, fun l hl _ => by simp [Cx.low] at hl⟩
  obtain ⟨q1, q2, _⟩ := high_ok hR e rfl
  exact ⟨q1, q2⟩
mutual
theorem kills_bel0 : ∀ (v : AV), v.bel 0 = true → kills v = []
  | .slc l _ _ _, h => by simp [AV.bel] at h
  | .agg cs, h => by simp only [AV.bel] at h; simp only [kills]; exact killsL_bel0 cs h
  | .tup cs, h => by simp only [AV.bel] at h; simp only [kills]; exact killsL_bel0 cs h
  | .ifc _ v, h => by simp only [AV.bel] at h; simp only [kills]; exact kills_bel0 v h
  | .bad, _ | .int _ _, _ | .bool _, _ | .str _, _ | .nilp, _ | .nils, _ | .emp _, _ | .nilf, _ | .nili, _ | .nilm, _ | .lst _, _ | .ip _, _ | .clo _ _ _, _ | .lnt _, _ | .ptr _ _ _ _, _ | .mp _, _ => by simp [kills]
theorem killsL_bel0 : ∀ (cs : List AV), belL 0 cs = true → killsL cs = []
  | [], _ => rfl
  | c :: cs, h => by simp only [belL, Bool.and_eq_true] at h; simp only [killsL, kills_bel0 c h.1, killsL_bel0 cs h.2, List.append_nil]
end
theorem callX_ok {env : Env} (henv : EnvOk P G env) (hR : Rel G X) {act : Nat} {g : FuncId} {args : List AV} {cargs : Array Value} {r : R3} (hg : okF P g = true) (hm : Ms X args cargs.toList) (h : callX env act g args X.H = some r) :
    Calls P g cargs X.w fun e w' => ∃ u X', X'.w = w' ∧ e = .returned u ∧ X'.H = r.2.1 ∧ Rel G X' ∧ Ext X X' ∧ EscI X.H X'.H r.2.2 ∧ M X' r.1 u := by
  have hz : ∀ {Z : Cx}, Z.ι = (fun _ => none) → ∀ b, ¬ Z.wr b := fun hi b ⟨l, z, hr, hb⟩ => by rw [hi] at hb; cases hb
  have hbase : base g = g := by
    have := base_vr hg 0
    simpa [vrA] using this
  unfold callX at h
  split at h
  · unfold callE at h
    split at h
    · rename_i hb0
      simp only [Option.bind_eq_some_iff] at h
      obtain ⟨as, h1, h2⟩ := h
      split at h2
      case isFalse => cases h2
      rename_i hb
      simp only [Option.bind_eq_some_iff] at h2
      obtain ⟨r0, h3, h4⟩ := h2
      split at h4
      case isFalse => cases h4
      rename_i hemp
      simp only [Bool.and_eq_true, List.isEmpty_iff] at hemp
      injection h4 with h4; subst h4
      have hk0 : killsL args = [] := killsL_bel0 args hb0
      have m1 : Ms X as cargs.toList := frzL_M hR [] args as _ hm h1 (fun l hl => by rw [hk0] at hl; cases hl)
      have m2 : Ms X.low as cargs.toList := low_Ms (X := X) (Y := X.low) rfl (fun b => low_im) (fun b => low_imf) _ _ ((erL_bel 0 as).symm.trans hb) m1
      have m3 := er_Ms _ _ m2
      have key := henv _ _ _ _ h3 X.low.fr cargs rfl (low_ok hR).fr m3
      rw [hbase] at key
      refine key.mono fun e w' he => ?_
      obtain ⟨u, X', e1, e2, e3, e4, e5, e6, e7⟩ := he
      have hH : X'.H = [] := e3.trans hemp.1
      subst e1
      obtain ⟨q1, q2⟩ := back_ok hR (Z := X.low.fr) rfl (hz rfl) e5
      refine ⟨u, ⟨X.F, X.ι, X.H, X'.w⟩, rfl, e2, rfl, q1, q2, EscI.refl _, ?_⟩
      simp only
      split
      · rename_i hfl; exact flat_M _ _ hfl e7
      · have hbel := M_bel _ _ e7
        rw [hH] at hbel
        have him : ∀ b, X'.im b → (Cx.fr ⟨X.F, X.ι, X.H, X'.w⟩).im b := fun b hb => by
          have hF : ¬ (X.F b true ∨ X.wr b) := fun h => hb.1.2 true (by rw [e5.for_]; exact h)
          exact ⟨⟨hb.1.1, fun k h => hF (.inl h)⟩, fun h => hF (.inr h)⟩
        have hif : ∀ b, X'.fr.im b → (Cx.fr ⟨X.F, X.ι, X.H, X'.w⟩).fr.im b := fun b hb => by
          have hF : ¬ (X.F b true ∨ X.wr b) := fun h => hb.1.2 true (by show X'.F b true; rw [e5.for_]; exact h)
          exact ⟨⟨hb.1.1, fun k h => hF (.inl h)⟩, fun h => hF (.inr h)⟩
        exact lntW_M _ _ (low_M (X := X') (Y := Cx.fr ⟨X.F, X.ι, X.H, X'.w⟩) rfl him hif _ _ hbel e7)
    · simp only [Option.bind_eq_some_iff] at h
      obtain ⟨as, h1, h2⟩ := h
      split at h2
      case isFalse => cases h2
      rename_i hb
      simp only [Option.bind_eq_some_iff] at h2
      obtain ⟨r0, h3, h4⟩ := h2
      split at h4
      case isFalse => cases h4
      rename_i hemp
      simp only [Bool.and_eq_true, List.isEmpty_iff] at hemp
      injection h4 with h4; subst h4
      have m3 := er_Ms _ _ (lndWL_Ms hR (lnd_ok hR 3) args as _ h1 (by
        exact (erL_bel 0 as).symm.trans hb) hm)
      have key := henv _ _ _ _ h3 X.lowL.fr cargs rfl (lowL_ok hR).fr m3
      rw [hbase] at key
      refine key.mono fun e w' he => ?_
      obtain ⟨u, X', e1, e2, e3, e4, e5, e6, e7⟩ := he
      subst e1
      obtain ⟨q1, q2⟩ := back_ok hR (Z := X.lowL.fr) rfl (hz rfl) e5
      exact ⟨u, ⟨X.F, X.ι, X.H, X'.w⟩, rfl, e2, rfl, q1, q2, EscI.refl _, flat_M _ _ hemp.2 e7⟩
  · split at h
    case isFalse => cases h
    unfold callL at h
    simp only [Option.bind_eq_some_iff] at h
    obtain ⟨as, h1, h2⟩ := h
    split at h2
    case isFalse => cases h2
    rename_i hb
    simp only [Option.bind_eq_some_iff] at h2
    obtain ⟨r0, h3, h4⟩ := h2
    split at h4
    case isFalse => cases h4
    rename_i hemp
    simp only [Bool.and_eq_true, List.isEmpty_iff] at hemp
    injection h4 with h4; subst h4
    have m3 := lndWL_Ms hR (lnd_ok hR 3) args as _ h1 hb hm
    have key := henv _ _ _ _ h3 X.lowL cargs rfl (lowL_ok hR) m3
    rw [base_vr hg] at key
    refine key.mono fun e w' he => ?_
    obtain ⟨u, X', e1, e2, e3, e4, e5, e6, e7⟩ := he
    have hH : X'.H = [] := e3.trans hemp.1.1
    subst e1
    obtain ⟨q1, q2⟩ := back_ok hR (Z := X.lowL) rfl (hz rfl) e5
    refine ⟨u, ⟨X.F, X.ι, X.H, X'.w⟩, rfl, e2, rfl, q1, q2, EscI.refl _, ?_⟩
    have hbel := M_bel _ _ e7
    rw [hH] at hbel
    have him : ∀ b, X'.im b → (⟨X.F, X.ι, X.H, X'.w⟩ : Cx).im b := fun b hb => by
      have hF : ∀ k, ¬ (X.F b k ∨ (k = false ∧ X.wr b)) := fun k h => hb.1.2 k (by rw [e5.for_]; exact h)
      exact ⟨⟨hb.1.1, fun k h => hF k (.inl h)⟩, fun h => hF false (.inr ⟨rfl, h⟩)⟩
    exact nol_M (X := X') (Y := ⟨X.F, X.ι, X.H, X'.w⟩) rfl him _ _ hbel hemp.2 e7

theorem frzL_len {H : List AObj} : ∀ {cs cs' : List AV}, frzL H cs = some cs' → cs'.length = cs.length
  | [], cs', h => by simp only [frzL, Option.some.injEq] at h; subst h; rfl
  | c :: cs, cs', h => by
    simp only [frzL, Option.bind_eq_some_iff, Option.map_eq_some_iff] at h
    obtain ⟨c', _, ds, h2, rfl⟩ := h
    simp [frzL_len h2]
theorem frz_one {H : List AObj} {v v' : AV} (h1 : v.one = true) (h : frz H v = some v') : v'.one = true ∧ v'.cells = [v'] := by
  cases v with
  | agg _ | tup _ | bad => simp [AV.one] at h1
  | nils => simp only [frz, Option.some.injEq] at h; subst h; exact ⟨rfl, rfl⟩
  | slc l off n tot =>
    simp only [frz] at h
    (repeat' split at h) <;> (first | (injection h with h; subst h; exact ⟨rfl, rfl⟩) | cases h)
  | ifc t w =>
    simp only [frz, Option.map_eq_some_iff] at h
    obtain ⟨w', _, rfl⟩ := h
    exact ⟨rfl, rfl⟩
  | lnt a => simp only [frz, Option.some.injEq] at h; subst h; exact ⟨h1, rfl⟩
  | _ => simp only [frz, Option.some.injEq] at h; subst h; exact ⟨rfl, rfl⟩
theorem frzL_one {H : List AObj} : ∀ {cs cs' : List AV}, cs.all AV.one = true → frzL H cs = some cs' → cs'.all AV.one = true
  | [], cs', _, h => by simp only [frzL, Option.some.injEq] at h; subst h; rfl
  | c :: cs, cs', h1, h => by
    simp only [frzL, Option.bind_eq_some_iff, Option.map_eq_some_iff] at h
    obtain ⟨c', k1, ds, h2, rfl⟩ := h
    simp only [List.all_cons, Bool.and_eq_true] at h1 ⊢
    exact ⟨(frz_one h1.1 k1).1, frzL_one h1.2 h2⟩
theorem frz_cells {H : List AObj} {X' : Cx} {v v' : AV} {u : Value} {z : Nat} (hl : v.cells.length = z) (h1 : v.cells.all AV.one = true) (h : frz H v = some v') (hm : M X' v' u) :
    v'.cells.length = z ∧ v'.cells.all AV.one = true ∧ Ms X' v'.cells u.cells.toList := by
  cases v with
  | agg cs =>
    simp only [frz, Option.map_eq_some_iff] at h
    obtain ⟨cs', h2, rfl⟩ := h
    have h3 := frzL_one h1 h2
    exact ⟨by simp only [AV.cells] at hl ⊢; rw [frzL_len h2, hl], h3, cells_of h3 hm⟩
  | tup _ | bad => simp [AV.cells, AV.one] at h1
  | _ =>
    obtain ⟨g1, g2⟩ := frz_one (by simpa [AV.cells] using h1) h
    have h3 : v'.cells.all AV.one = true := by rw [g2]; simpa using g1
    exact ⟨by rw [g2]; simpa [AV.cells] using hl, h3, cells_of h3 hm⟩

theorem Ms_args {l : List Operand} {f : Operand → AV} {g : Operand → Value} (h : ∀ x, M X (f x) (g x)) : Ms X (l.map f) (l.map g) := Ms_map fun x _ => h x
theorem opt_ok {f : Operand → AV} {g : Operand → Value} (h : ∀ x, M X (f x) (g x)) (x : Option Operand) : (x.map f = none ∧ x.map g = none) ∨ ∃ y p, x.map f = some y ∧ x.map g = some p ∧ M X y p := by
  cases x with
  | none => exact .inl ⟨rfl, rfl⟩
  | some x => exact .inr ⟨_, _, rfl, rfl, h x⟩

theorem nilR_ok {op : BinOp} {xt : TypeId} {x y v : AV} {p q : Value} {ox oy : Operand} (hx : M X x p) (hy : M X y q) (h : nilR op (P.underlying xt) x y X.H = some v) :
    ∃ u, ((do eqGuard op xt ox oy p q; binOp op xt p q : Sem Value)).run P X.w = .ok u X.w ∧ M X v u := by
  unfold nilR at h
  split at h
  · rename_i e l off n tot hd
    split at h
    · rename_i hc
      rw [M_nils] at hy; subst hy
      unfold M at hx
      obtain ⟨_, _, h3⟩ := hx
      rcases h3 hc.1 with ⟨_, _, h4, _⟩ | ⟨_, A, c, b, z, s, _, rfl, a1, a2, a3, a4⟩
      · omega
      obtain ⟨a5, a6⟩ := a4.resolve_left (by omega)
      subst a5
      have e1 : (Op.equal xt (.slice (some ⟨b, off * z, none⟩) n c) (.slice none 0 0)).run P X.w = .ok false X.w := eq_sl1 _ hd
      split at h
      · injection h with h; subst h
        refine ⟨.bool false, ?_, M_bool.2 rfl⟩
        rw [Sem.run_bind, run_guard (by simp) (by simp), Result.andThen_ok, show binOp .eql xt (.slice (some ⟨b, off * z, none⟩) n c) (.slice none 0 0) = (do pure (.bool (← Op.equal xt (.slice (some ⟨b, off * z, none⟩) n c) (.slice none 0 0)))) from rfl]
        simp [e1]
      · injection h with h; subst h
        refine ⟨.bool true, ?_, M_bool.2 rfl⟩
        rw [Sem.run_bind, run_guard (by simp) (by simp), Result.andThen_ok, show binOp .neq xt (.slice (some ⟨b, off * z, none⟩) n c) (.slice none 0 0) = (do pure (.bool (!(← Op.equal xt (.slice (some ⟨b, off * z, none⟩) n c) (.slice none 0 0))))) from rfl]
        simp [e1]
      · cases h
    · cases h
  · cases h
theorem aop_ok {env : Env} {act : Nat} {r : R3} (henv : EnvOk P G env) (hR : Rel G X) (hF : Ms X T a.tmps.toList) (h : aop P G env act o T X.H = some r) : OpOk P G X o a r := by
  have ρ := fun x => evA_ok hR hF x
  unfold aop at h
  split at h
  · -- move
    rename_i x ho
    obtain ⟨v, hv, rfl⟩ := same_some h
    injection hv with hv; subst hv
    exact ok_same hR (by unfold execOp; rw [ho]; rfl) (ρ x)
  · -- assign
    rename_i x ho
    split at h
    · split at h
      · rename_i hx
        injection h with h; subst h
        have hm := ρ x
        rw [hx, M_nils] at hm
        obtain ⟨w1, w2, w3, w4⟩ := vrow_ok hR
        exact ok_to (X' := ⟨X.F, X.ι, X.H ++ [.vrow], X.w⟩) (by unfold execOp; rw [ho]; rfl) rfl w1 w2 w3 (by rw [hm]; exact w4)
      · cases h
    · obtain ⟨v, hv, rfl⟩ := same_some h
      injection hv with hv; subst hv
      exact ok_same hR (by unfold execOp; rw [ho]; rfl) (ρ x)
  · -- pick
    rename_i c x y ho
    split at h
    · rename_i t hc
      obtain ⟨v, hv, rfl⟩ := same_some h
      injection hv with hv; subst hv
      have hm := ρ c
      rw [hc, M_bool] at hm
      refine ok_same (u := if t then a.eval x else a.eval y) hR (by unfold execOp; rw [ho]; simp [hm, asBool]) ?_
      cases t
      · exact ρ y
      · exact ρ x
    · cases h
  · -- alloc
    rename_i t ho
    simp only [Option.bind_eq_some_iff] at h
    obtain ⟨z, hz, h⟩ := h
    obtain ⟨inf, zval, hi, hzz, rfl, hzrun⟩ := zeroT_some hz
    split at h
    · split at h
      · rename_i hc
        simp only [Bool.and_eq_true] at hc
        injection h with h; subst h
        obtain ⟨X', k1, k2, k3, k4, k6⟩ := newi_ok (P := P) (t := t) hR hc.2 (M_ofVal X zval)
        exact ok_to (by unfold execOp; rw [ho]; exact run_v (by simp [Instr.alloc, hzrun, k1])) k2 k3 k4 (EscI.refl _) k6
      · cases h
    obtain ⟨X', k1, k2, k3, k4, k5, k6⟩   := new_ok (P := P) (t := t) hR h (M_ofVal X zval)
    refine ok_to (by unfold execOp; rw [ho]; exact run_v (by simp [Instr.alloc, hzrun, k1])) k2 k3 k4 k5 k6
  · -- box
    rename_i t x ho
    have h : newA (evA G T x) X.H = some r := by
      split at h
      · simp only [Option.bind_eq_some_iff] at h
        obtain ⟨s, _, h⟩ := h
        split at h
        · exact h
        · cases h
      · exact h
    obtain ⟨X', k1, k2, k3, k4, k5, k6⟩   := new_ok (P := P) (t := t) hR h (ρ x)
    exact ok_to (by unfold execOp; rw [ho]; exact run_v (by simp [Instr.box, k1])) k2 k3 k4 k5 k6
  · -- build
    rename_i t parts ho
    have hp : Parts X (parts.toList.map fun p => (p.1, evA G T p.2)) (parts.map fun (i, x) => (i, a.eval x)).toList := by
      rw [Array.toList_map]
      exact Parts_of ρ
    split at h
    · rename_i fs z hu hz
      split at h
      · rename_i hc
        obtain ⟨v, hv, rfl⟩ := same_some h
        simp only [Option.map_eq_some_iff] at hv
        obtain ⟨cs, hcs, rfl⟩ := hv
        obtain ⟨u, k1, k2⟩ := build_struct_ok hu hz hc.2 hp hc.1 hcs
        exact ok_same hR (by unfold execOp; rw [ho]; exact run_v k1) k2
      · cases h
    · rename_i n e z hu hz
      split at h
      · rename_i hc
        simp only [Option.bind_eq_some_iff] at h
        obtain ⟨s, hs, h⟩ := h
        obtain ⟨v, hv, rfl⟩ := same_some h
        simp only [Option.map_eq_some_iff] at hv
        obtain ⟨cs, hcs, rfl⟩ := hv
        obtain ⟨u, k1, k2⟩ := build_array_ok (ag := s.1) (z := s.2) hu hs hz hc hp hcs
        exact ok_same hR (by unfold execOp; rw [ho]; exact run_v k1) k2
      · cases h
    · cases h
  · -- buildSlice
    rename_i t n parts ho
    have hp : Parts X (parts.toList.map fun p => (p.1, evA G T p.2)) (parts.map fun (i, x) => (i, a.eval x)).toList := by
      rw [Array.toList_map]
      exact Parts_of ρ
    simp only [Option.bind_eq_some_iff] at h
    obtain ⟨e, he, s, hs, z, hz, h⟩ := h
    split at h
    case isFalse => cases h
    rename_i hc
    obtain ⟨c1, c2, c3, c4, c5⟩ := hc
    split at h
    · simp only [Option.map_eq_some_iff] at h
      obtain ⟨es, hes, rfl⟩ := h
      obtain ⟨c, k1, k2, k3, k4, k5⟩ := slice_lit_raw (ag := s.1) (z := s.2) hR (elemT_some he) hs hz c1 c2 c3 c4 c5 hp hes
      obtain ⟨X', w1, w2, w3, w4, w5, w6⟩ := newrow_ok (X := X) (c := c) (el := e) (m := n) hR c3 (by rw [List.take_of_length_le (by rw [k2.1]; exact Nat.le_refl _)]; exact k2) k3 k4 (by omega) (by rw [← Array.length_toList, k2.1, k5])
      refine ok_to (X' := X') (by rw [w1]; unfold execOp; rw [ho]; exact run_v k1) w2 w3 w4 w5 (by rw [k5] at w6; exact w6)
    split at h
    · split at h
      case isFalse => cases h
      rename_i hn0
      obtain ⟨rfl, hps⟩ := hn0
      injection h with h; subst h
      have hps' : parts.toList = [] := by simpa using hps
      obtain ⟨c, k1, k2, k3, k4, k5⟩ := slice_lit_raw (ag := s.1) (z := s.2) (es := []) (n := 0) hR (elemT_some he) hs hz c1 c2 c3 c4 c5 hp (by rw [hps']; rfl)
      obtain ⟨w1, w2, w3⟩ := push_im (X := X) (w' := { X.w with heap := X.w.heap.push (.cells c e) }) hR (fun b hb => by
        show (X.w.heap.push _)[b]? = _
        rw [Array.getElem?_push_lt hb]; simp [hb]) (by simp) rfl rfl rfl
      refine ok_to (X' := ⟨X.F, X.ι, X.H, { X.w with heap := X.w.heap.push (.cells c e) }⟩) (by unfold execOp; rw [ho]; exact run_v k1) rfl w1 w2 (EscI.refl _) ?_
      unfold M
      exact ⟨_, 0, rfl, (fun b hb => absurd hb (by simp)), fun _ => rfl⟩
    · simp only [Option.bind_eq_some_iff, Option.map_eq_some_iff] at h
      obtain ⟨vs, hvs, z', hz', es, hes, rfl⟩ := h
      obtain ⟨q1, q2⟩ := Parts_zip hp
      have e1 : (parts.toList.map fun p => (p.1, evA G T p.2)).map (·.2) = parts.toList.map fun p => evA G T p.2 := by simp
      have e2 : (parts.toList.map fun p => (p.1, evA G T p.2)).map (·.1) = parts.toList.map (·.1) := by simp
      rw [e1] at q1
      rw [e2] at q2
      obtain ⟨k1, k2, k3⟩ := kill_ok hR (killsL (parts.toList.map fun p => evA G T p.2))
      have hm' := frzL_M hR _ _ _ _ q1 hvs (fun l hl => hl)
      have hp' := Parts_mk hm' q2
      obtain ⟨inf, zval, hi, hzz, rfl, hzrun⟩ := zeroT_some hz
      have hzm := frz_M hR (killsL (parts.toList.map fun p => evA G T p.2)) _ _ _ (M_ofVal X zval) hz' (fun l hl => by rw [kills_ofVal] at hl; cases hl)
      have hms0 : Ms X (ofVal zval).cells zval.cells.toList := cells_of c4 (M_ofVal X zval)
      have hs0 : zval.cells.size = s.2 := by rw [← Array.length_toList, ← Ms_length hms0, c2]
      -- the frozen zero value
      have hzf : z'.cells.length = s.2 ∧ z'.cells.all AV.one = true ∧ Ms ⟨X.F, X.ι, killAll X.H (killsL (parts.toList.map fun p => evA G T p.2)), X.w⟩ z'.cells zval.cells.toList := frz_cells c2 c4 hz' hzm
      obtain ⟨f1, f2, f3⟩ := hzf
      obtain ⟨d, i, _, _, _, _, _, hsz⟩ := tk_some (ag := s.1) (s := s.2) hs
      obtain ⟨cells', g1, g2, g3, g4, g5⟩ := fillS_ok (H := X.H) hp' (zero_told n f3 f1 c3) (fun e he => by rw [(List.mem_replicate.1 he).2]; exact f1) (fun e he => by rw [(List.mem_replicate.1 he).2]; exact f2) hes
      have hrun : (Instr.buildSlice t n (parts.map fun (i, x) => (i, a.eval x))).run P X.w = .ok (.slice (some ⟨X.w.heap.size, 0, none⟩) n n) { X.w with heap := X.w.heap.push (.cells cells' e) } := by
        unfold Instr.buildSlice
        simp only [Sem.run_bind, run_underlying (elemT_some he), Result.andThen_ok, hsz]
        rw [if_neg (by omega)]
        by_cases h0 : n * s.2 = 0
        · simp only [h0, if_true, Sem.run_bind, Sem.run_pure, Result.andThen_ok]
          have : ((Array.range 0).map fun x => (#[] : Array Value)[x % (#[] : Array Value).size]!) = (Array.range (n * s.2)).map (zval.cells[· % zval.cells.size]!) := by rw [h0]; simp
          rw [this, g1]
          simp [newRow]
        · simp only [h0, if_false, Sem.run_bind, Sem.run_pure, Result.andThen_ok, hzrun]
          rw [g1]
          simp [newRow]
      obtain ⟨w1, w2, w3⟩ := push_im (X := ⟨X.F, X.ι, killAll X.H (killsL (parts.toList.map fun p => evA G T p.2)), X.w⟩) (w' := { X.w with heap := X.w.heap.push (.cells cells' e) }) k1 (fun b hb => by
        show (X.w.heap.push _)[b]? = _
        have hb' : b < X.w.heap.size := hb
        rw [Array.getElem?_push_lt hb']; simp [hb']) (by simp) rfl rfl rfl
      refine ok_to (X' := ⟨X.F, X.ι, killAll X.H (killsL (parts.toList.map fun p => evA G T p.2)), { X.w with heap := X.w.heap.push (.cells cells' e) }⟩) (by unfold execOp; rw [ho]; exact run_v hrun) rfl w1 (k2.trans w2) k3 ?_
      have hlen : es.length = n := by simpa using g5
      rw [← hlen]
      refine lst_of c3 g4 w3 (Me_of_get fun i x hx => ?_) (Nat.le_refl _)
      obtain ⟨vs', m1, m2⟩ := g2.2 i x hx
      refine ⟨g3 x (List.mem_of_getElem? hx), Mc_of_vals (Ms_mono w2 _ _ m1) fun j v hj => ?_⟩
      have := m2 j v hj
      show cellAt { X.w with heap := X.w.heap.push (.cells cells' e) } _ _ = _
      simp only [cellAt, Array.getElem?_push_size, Nat.zero_add]
      simpa using this
  · -- load
    rename_i t x ho
    simp only [Option.bind_eq_some_iff] at h
    obtain ⟨s, hs, h⟩ := h
    obtain ⟨v, hv, rfl⟩ := same_some h
    obtain ⟨u, k1, k2⟩ := load_ok (ag := s.1) (s := s.2) hR hs (ρ x) hv
    exact ok_same hR (by unfold execOp; rw [ho]; exact run_v k1) k2
  · -- store
    rename_i t x y ho
    simp only [Option.bind_eq_some_iff, Option.map_eq_some_iff] at h
    obtain ⟨s, hs, q, hq, rfl⟩ := h
    obtain ⟨X', k1, k2, k3, k4, k5⟩ := store_ok (ag := s.1) (s := s.2) hR hs (ρ x) (ρ y) hq
    exact ok_skip (by unfold execOp; rw [ho]; exact run_u k1) k2 k3 k4 k5
  · -- nilCheck
    rename_i x ho
    have hm := ρ x
    split at h
    · rename_i l tot i off hx
      injection h with h; subst h
      rw [hx] at hm
      obtain ⟨q, hq⟩ := M_ptr hm
      exact ok_same (u := a.eval x) hR (by unfold execOp; rw [ho]; simp only [hq]; rfl) hm
    · rename_i cs hx
      injection h with h; subst h
      rw [hx] at hm
      obtain ⟨b, q, hq, _⟩ := M_ip hm
      exact ok_same (u := a.eval x) hR (by unfold execOp; rw [ho]; simp only [hq]; rfl) hm
    · rename_i cs hx
      injection h with h; subst h
      rw [hx] at hm
      have hm2 := hm
      unfold M at hm2
      obtain ⟨b, q, hq, _⟩ := M_ip hm2
      exact ok_same (u := a.eval x) hR (by unfold execOp; rw [ho]; simp only [hq]; rfl) hm
    · rename_i f fi ca hx
      injection h with h; subst h
      rw [hx] at hm
      have hm2 := hm
      unfold M at hm2
      obtain ⟨fv, cv, hq, _⟩ := hm2
      exact ok_same (u := a.eval x) hR (by unfold execOp; rw [ho]; simp only [hq]; rfl) hm
    · cases h
  · -- binOp
    rename_i op xt x y yt ho
    split at h
    · obtain ⟨v, hv, rfl⟩ := same_some h
      obtain ⟨u, k1, k2⟩ := nilR_ok (op := op) (ox := x) (oy := y) (ρ x) (ρ y) hv
      exact ok_same hR (by unfold execOp; rw [ho]; exact run_v k1) k2
    simp only [Option.bind_eq_some_iff] at h
    obtain ⟨d, hd, h⟩ := h
    obtain ⟨v, hv, rfl⟩ := same_some h
    obtain ⟨u, k1, k2⟩ := bin_ok (op := op) hd (ρ x) (ρ y) hv
    exact ok_same hR (by unfold execOp; rw [ho]; exact run_v k1) k2
  · -- unOp
    rename_i op t x ho
    obtain ⟨v, hv, rfl⟩ := same_some h
    obtain ⟨u, k1, k2⟩ := un_ok (P := P) (ρ x) hv
    exact ok_same hR (by unfold execOp; rw [ho]; exact run_v k1) k2
  · -- convert
    rename_i src dst x ho
    have hm := ρ x
    split at h
    · rename_i _ k _ n h1 h2 h3
      obtain ⟨v, hv, rfl⟩ := same_some h
      injection hv with hv; subst hv
      rw [h3, M_int] at hm
      rename_i d1 _ _
      refine ok_same (u := .int k (k.wrap n)) hR ?_ (M_int.2 rfl)
      unfold execOp; rw [ho]
      refine run_v ?_
      cases d1 <;> simp [convert, run_underlying h1, run_underlying h2, hm, Conv.intToInt]
    · rename_i s h1 h2 h3
      obtain ⟨v, hv, rfl⟩ := same_some h
      injection hv with hv; subst hv
      rw [h3, M_str] at hm
      refine ok_same (u := .string s) hR ?_ (M_str.2 rfl)
      unfold execOp; rw [ho]
      exact run_v (by simp [convert, run_underlying h1, run_underlying h2, hm])
    · rename_i e s h1 h2 h3
      split at h
      · rename_i hu
        obtain ⟨v, hv, rfl⟩ := same_some h
        injection hv with hv; subst hv
        rw [h3, M_str] at hm
        obtain ⟨u, X', k1, k2, k3, k4, k5⟩ := str_bytes_ok (s := s) hR h1 h2 (isU8_some hu)
        exact ok_to (by unfold execOp; rw [ho]; exact run_v (by rw [hm]; exact k1)) k2 k3 k4 (EscI.refl _) k5
      · cases h
    · cases h
    · rename_i e h1 h2 hns
      split at h
      · rename_i hu
        obtain ⟨v, hv, rfl⟩ := same_some h
        simp only [Option.bind_eq_some_iff, Option.map_eq_some_iff] at hv
        obtain ⟨es, hes, l, hl, rfl⟩ := hv
        refine ok_same hR ?_ (M_str.2 rfl)
        unfold execOp; rw [ho]
        exact run_v (bytes_str_ok hR h1 h2 (isU8_some hu) hm hes (fun s hs => hns s hs) hl)
      · cases h
    · rename_i e0 e h1 h2
      split at h
      · rename_i hu
        obtain ⟨hsd, hu⟩ := hu
        simp only [beq_iff_eq] at hsd
        subst hsd
        obtain ⟨v, hv, rfl⟩ := same_some h
        obtain ⟨X', k1, k2, k3, k4, k5⟩ := cvR_ok hR h2 (isU8_some hu) hm hv
        exact ok_to (by unfold execOp; rw [ho]; exact run_v k1) k2 k3 k4 (EscI.refl _) k5
      · cases h
    · cases h
  · -- makeInterface
    rename_i t x ho
    split at h
    · cases h
    · rename_i hi
      obtain ⟨v, hv, rfl⟩ := same_some h
      injection hv with hv; subst hv
      obtain ⟨k1, k2⟩ := makeIface_ok hi (ρ x)
      exact ok_same hR (by unfold execOp; rw [ho]; exact run_v k1) k2
  · -- makeFunc
    rename_i f first cap ho
    obtain ⟨v, hv, rfl⟩ := same_some h
    injection hv with hv; subst hv
    refine ok_same (u := .func (.func f) (first.map a.eval) (cap.map a.eval)) hR (by unfold execOp; rw [ho]; rfl) ?_
    unfold M
    exact ⟨_, _, rfl, by rw [Array.toList_map]; exact Ms_args ρ, by rw [Array.toList_map]; exact Ms_args ρ⟩
  · -- slice
    rename_i t x lo hi mx ho
    split at h
    · rename_i e hu
      simp only [Option.bind_eq_some_iff] at h
      obtain ⟨s, hs, h⟩ := h
      obtain ⟨v, hv, rfl⟩ := same_some h
      obtain ⟨u, k1, k2⟩ := cut_slice_ok (ag := s.1) (z := s.2) hR hu hs (ρ x) (opt_ok ρ lo) (opt_ok ρ hi) (opt_ok ρ mx) hv
      exact ok_same hR (by unfold execOp; rw [ho]; exact run_v k1) k2
    · rename_i hu
      split at h
      · cases h
      · rename_i hmx
        obtain ⟨v, hv, rfl⟩ := same_some h
        obtain ⟨u, k1, k2⟩ := cut_str_ok (P := P) hu (ρ x) (opt_ok ρ lo) (opt_ok ρ hi) hv
        have : mx = none := by cases mx <;> simp_all
        subst this
        exact ok_same hR (by unfold execOp; rw [ho]; exact run_v k1) k2
    · cases h
  · -- fieldAddr
    rename_i s x f ho
    split at h
    · rename_i fs hu
      simp only [Option.bind_eq_some_iff] at h
      obtain ⟨fd, hf, z, hz, h⟩ := h
      split at h
      · rename_i hz0
        obtain ⟨v, hv, rfl⟩ := same_some h
        obtain ⟨u, k1, k2⟩ := fieldAddr_ok hu hf hz hz0 (ρ x) hv
        exact ok_same hR (by unfold execOp; rw [ho]; exact run_v k1) k2
      · cases h
    · cases h
  · -- field
    rename_i s x f ho
    split at h
    · rename_i fs cs hu hx
      simp only [Option.bind_eq_some_iff] at h
      obtain ⟨fd, hf, z, hz, h⟩ := h
      obtain ⟨v, hv, rfl⟩ := same_some h
      have hm := ρ x
      rw [hx] at hm
      obtain ⟨u, k1, k2⟩ := field_ok hu hf hz hm hv
      exact ok_same hR (by unfold execOp; rw [ho]; exact run_v k1) k2
    · cases h
  · -- indexAddr
    rename_i t x ix ho
    split at h
    · rename_i e k i hu hix
      have hm := ρ ix
      rw [hix, M_int] at hm
      simp only [Option.bind_eq_some_iff] at h
      obtain ⟨s, hs, h⟩ := h
      obtain ⟨v, hv, rfl⟩ := same_some h
      obtain ⟨u, k1, k2⟩ := index_slice_ok (ag := s.1) (z := s.2) (k := k) hR hu hs (ρ x) hv
      exact ok_same hR (by unfold execOp; rw [ho]; exact run_v (by rw [hm]; exact k1)) k2
    · rename_i n e k i hu hix
      have hm := ρ ix
      rw [hix, M_int] at hm
      simp only [Option.bind_eq_some_iff] at h
      obtain ⟨s, hs, h⟩ := h
      split at h
      · rename_i hc
        obtain ⟨v, hv, rfl⟩ := same_some h
        obtain ⟨u, k1, k2⟩ := index_array_ok (ag := s.1) (z := s.2) (k := k) hu hs (ρ x) hc.1 hc.2 hv
        exact ok_same hR (by unfold execOp; rw [ho]; exact run_v (by rw [hm]; exact k1)) k2
      · cases h
    · cases h
  · -- index
    rename_i t x ix ho
    have hmx := ρ x
    have hm := ρ ix
    split at h
    · rename_i n e cs k i hu hx hix
      rw [hix, M_int] at hm
      rw [hx] at hmx
      simp only [Option.bind_eq_some_iff] at h
      obtain ⟨s, hs, h⟩ := h
      split at h
      · rename_i hc
        obtain ⟨v, hv, rfl⟩ := same_some h
        obtain ⟨u, k1, k2⟩ := index_agg_ok (ag := s.1) (z := s.2) (k := k) hu hs hmx hc.1 hc.2 hv
        exact ok_same hR (by unfold execOp; rw [ho]; exact run_v (by rw [hm]; exact k1)) k2
      · cases h
    · rename_i s k i hu hx hix
      rw [hix, M_int] at hm
      rw [hx] at hmx
      split at h
      · rename_i hc
        obtain ⟨v, hv, rfl⟩ := same_some h
        obtain ⟨u, k1, k2⟩ := index_str_ok (P := P) (k := k) hu hmx hc hv
        exact ok_same hR (by unfold execOp; rw [ho]; exact run_v (by rw [hm]; exact k1)) k2
      · cases h
    · cases h
  · -- extract
    rename_i x i ho
    split at h
    · rename_i vs hx
      obtain ⟨v, hv, rfl⟩ := same_some h
      have hm := ρ x
      rw [hx] at hm
      obtain ⟨us, hq, hs⟩ := M_tup hm
      obtain ⟨u, hu, hmu⟩ := Ms_get hs hv
      rw [Array.getElem?_toList] at hu
      exact ok_same hR (by unfold execOp; rw [ho]; exact run_v (by simp [hq, Instr.extract, hu])) hmu
    · cases h
  · -- typeAssert
    rename_i x xt t ok ho
    split at h
    · cases h
    · rename_i hi
      obtain ⟨d, hd, hn⟩ := iface_no hi
      have hm := ρ x
      split at h
      · rename_i u v hx
        rw [hx] at hm
        obtain ⟨p, hq, hp⟩ := M_ifc hm
        split at h
        · rename_i hut
          subst hut
          injection h with h; subst h
          cases ok with
          | true =>
            refine ok_same (u := .tuple #[p, .bool true]) hR ?_ (by unfold M; exact ⟨_, rfl, by unfold Ms; exact ⟨p, _, rfl, hp, by unfold Ms; exact ⟨_, [], rfl, M_bool.2 rfl, by simp [Ms]⟩⟩⟩)
            unfold execOp; rw [ho]
            refine run_v ?_
            cases d <;> first | exact absurd rfl (hn _) | simp [Instr.typeAssert, run_underlying hd, hq]
          | false =>
            refine ok_same (u := p) hR ?_ hp
            unfold execOp; rw [ho]
            refine run_v ?_
            cases d <;> first | exact absurd rfl (hn _) | simp [Instr.typeAssert, run_underlying hd, hq]
        · rename_i hut
          split at h
          · rename_i hok
            simp only [Option.bind_eq_some_iff, Option.some.injEq] at h
            obtain ⟨z, hz, rfl⟩ := h
            obtain ⟨inf, zval, hi2, hzz, rfl, hzrun⟩ := zeroT_some hz
            refine ok_same (u := .tuple #[zval, .bool false]) hR ?_ (by unfold M; exact ⟨_, rfl, by unfold Ms; exact ⟨zval, _, rfl, M_ofVal X zval, by unfold Ms; exact ⟨_, [], rfl, M_bool.2 rfl, by simp [Ms]⟩⟩⟩)
            unfold execOp; rw [ho]
            refine run_v ?_
            cases d <;> first | exact absurd rfl (hn _) | simp [Instr.typeAssert, run_underlying hd, hq, hut, hok, hzrun]
          · cases h
      · rename_i hx
        rw [hx, M_nili] at hm
        split at h
        · rename_i hok
          simp only [Option.bind_eq_some_iff, Option.some.injEq] at h
          obtain ⟨z, hz, rfl⟩ := h
          obtain ⟨inf, zval, hi2, hzz, rfl, hzrun⟩ := zeroT_some hz
          refine ok_same (u := .tuple #[zval, .bool false]) hR ?_ (by unfold M; exact ⟨_, rfl, by unfold Ms; exact ⟨zval, _, rfl, M_ofVal X zval, by unfold Ms; exact ⟨_, [], rfl, M_bool.2 rfl, by simp [Ms]⟩⟩⟩)
          unfold execOp; rw [ho]
          refine run_v ?_
          cases d <;> first | exact absurd rfl (hn _) | simp [Instr.typeAssert, run_underlying hd, hm, hok, hzrun]
        · cases h
      · cases h
  · -- makeMap
    rename_i t rs ho
    split at h
    · rename_i kt et hu hr
      injection h with h; subst h
      obtain ⟨w1, w2, w3, w4⟩ := newm_ok hR
      exact ok_to (X' := ⟨X.F, upd X.ι X.H.length (X.w.heap.size, 0), X.H ++ [.mp []], { X.w with heap := X.w.heap.push (.map #[] 0) }⟩) (by unfold execOp; rw [ho]; refine run_v ?_; simp [Instr.makeMap, Result.andThen]) rfl w1 w2 w3 w4
    · cases h
  · -- lookup
    rename_i t x k ok ho
    split at h
    · rename_i kt et hu
      split at h
      · rename_i hc
        simp only [Option.bind_eq_some_iff] at h
        obtain ⟨z, hz, h⟩ := h
        obtain ⟨v, hv, rfl⟩ := same_some h
        obtain ⟨u, k1, k2⟩ := look_ok (z := z) hR hu hc hz (ρ x) (ρ k) hv
        exact ok_same hR (by unfold execOp; rw [ho]; exact run_v k1) k2
      · cases h
    · cases h
  · -- mapUpdate
    rename_i t x k v ho
    split at h
    · rename_i kt et hu
      split at h
      · rename_i hc
        simp only [Option.map_eq_some_iff] at h
        obtain ⟨H', hv, rfl⟩ := h
        obtain ⟨X', k1, k2, k3, k4, k5⟩ := upd_ok hR hu hc (ρ x) (ρ k) (ρ v) hv
        exact ok_skip (X' := X') (by unfold execOp; rw [ho]; exact run_u k1) k2 k3 k4 k5
      · cases h
    · cases h
  · -- makeSlice
    rename_i t n c ho
    simp only [Option.bind_eq_some_iff] at h
    obtain ⟨e, he, s, hs, z, hz, i, hi, h⟩ := h
    obtain ⟨v, X', k1, k2, k3, k4, k5, k6⟩ := make_ok (ag := s.1) (z := s.2) hR (elemT_some he) hs hz hi (ρ n) (ρ c) h
    exact ok_to (by unfold execOp; rw [ho]; exact run_v k1) k2 k3 k4 k5 k6
  · -- call
    rename_i c ho
    have hms : ∀ l : Array Operand, Ms X (l.toList.map (evA G T)) (l.map a.eval).toList := fun l => by rw [Array.toList_map]; exact Ms_args ρ
    split at h
    · -- len
      rename_i hc
      have hex : ∀ {u : Value}, (Builtin.len_ c.argTypes o.type (c.args.map a.eval)).run P X.w = .ok u X.w → (execOp a.eval o).run P X.w = .ok (.value u) X.w := fun hk => by
        unfold execOp; rw [ho]
        simp [resolve, hc, invoke, builtin, hk]
      split at h
      · rename_i x n e hx hu
        obtain ⟨t, h0, hd⟩ := Option.bind_eq_some_iff.1 hu
        obtain ⟨v, hv, rfl⟩ := same_some h
        injection hv with hv; subst hv
        have hargs : c.args.map a.eval = #[a.eval x] := by apply Array.ext'; rw [Array.toList_map, hx]; rfl
        exact ok_same hR (hex (by rw [hargs]; exact len_array_ok h0 hd)) (M_int.2 rfl)
      · rename_i x hx hu
        obtain ⟨t, h0, hd⟩ := Option.bind_eq_some_iff.1 hu
        have hargs : c.args.map a.eval = #[a.eval x] := by apply Array.ext'; rw [Array.toList_map, hx]; rfl
        split at h
        · rename_i s hs
          obtain ⟨v, hv, rfl⟩ := same_some h
          injection hv with hv; subst hv
          have hm := ρ x
          rw [hs] at hm
          exact ok_same hR (hex (by rw [hargs]; exact len_str_ok h0 hd hm)) (M_int.2 rfl)
        · cases h
      · rename_i x e hx hu
        obtain ⟨t, h0, hd⟩ := Option.bind_eq_some_iff.1 hu
        have hargs : c.args.map a.eval = #[a.eval x] := by apply Array.ext'; rw [Array.toList_map, hx]; rfl
        obtain ⟨v, hv, rfl⟩ := same_some h
        simp only [Option.map_eq_some_iff] at hv
        obtain ⟨n, hn, rfl⟩ := hv
        exact ok_same hR (hex (by rw [hargs]; exact len_slice_ok h0 hd (ρ x) hn)) (M_int.2 rfl)
      · rename_i x kt et hx hu
        obtain ⟨t, h0, hd⟩ := Option.bind_eq_some_iff.1 hu
        have hargs : c.args.map a.eval = #[a.eval x] := by apply Array.ext'; rw [Array.toList_map, hx]; rfl
        obtain ⟨v, hv, rfl⟩ := same_some h
        simp only [Option.map_eq_some_iff] at hv
        obtain ⟨n, hn, rfl⟩ := hv
        exact ok_same hR (hex (by rw [hargs]; exact len_map_ok hR h0 hd (ρ x) hn)) (M_int.2 rfl)
      · cases h
    · -- delete
      rename_i hc
      split at h
      · rename_i x k kt et hx hu
        obtain ⟨t, h0, hd⟩ := Option.bind_eq_some_iff.1 hu
        have hargs : c.args.map a.eval = #[a.eval x, a.eval k] := by apply Array.ext'; rw [Array.toList_map, hx]; rfl
        split at h
        · rename_i hk
          simp only [Option.map_eq_some_iff] at h
          obtain ⟨H', hv, rfl⟩ := h
          obtain ⟨X', k1, k2, k3, k4, k5⟩ := del_ok (ty := o.type) hR h0 hd hk (ρ x) (ρ k) hv
          refine ok_to (X' := X') ?_ k2 k3 k4 k5 (by unfold M; exact ⟨#[], rfl, by simp [Ms]⟩)
          unfold execOp; rw [ho]
          simp [resolve, hc, invoke, builtin, hargs, k1]
        · cases h
      · cases h
    · -- append
      rename_i hc
      split at h
      · rename_i x y t u hx h0 h1
        simp only [Option.bind_eq_some_iff] at h
        obtain ⟨e, he, s, hs, i, hi, z0, hz0, h⟩ := h
        split at h
        · rename_i hcc
          simp only [Option.bind_eq_some_iff] at h
          obtain ⟨ys, hys, h⟩ := h
          have hargs : c.args.map a.eval = #[a.eval x, a.eval y] := by apply Array.ext'; rw [Array.toList_map, hx]; rfl
          split at h
          · obtain ⟨v0, hv0, rfl⟩ := same_some h
            obtain ⟨v, X', k1, k2, k3, k4, k6⟩ := appF_ok (ag := s.1) (z := s.2) (ty := o.type) hR h0 h1 (elemT_some he) hcc.1 hs hi hz0 hcc.2.1 hcc.2.2 (ρ x) (ρ y) hys hv0
            refine ok_to (X' := X') ?_ k2 k3 k4 (EscI.refl _) k6
            unfold execOp; rw [ho]
            simp [resolve, hc, invoke, builtin, hargs, k1]
          obtain ⟨v, X', k1, k2, k3, k4, k5, k6⟩ := append_ok (ag := s.1) (z := s.2) (ty := o.type) hR h0 h1 (elemT_some he) hcc.1 hs hi hz0 hcc.2.1 hcc.2.2 (ρ x) (ρ y) hys h
          refine ok_to (X' := X') ?_ k2 k3 k4 k5 k6
          unfold execOp; rw [ho]
          simp [resolve, hc, invoke, builtin, hargs, k1]
        · split at h
          · rename_i hint
            replace hint := hint.1
            obtain ⟨k, hk⟩ : ∃ k, P.underlying u = some (.int k) := by
              unfold isInt at hint
              split at hint
              · exact ⟨_, by assumption⟩
              · cases hint
            have hargs : c.args.map a.eval = #[a.eval x, a.eval y] := by apply Array.ext'; rw [Array.toList_map, hx]; rfl
            obtain ⟨v, X', k1, k2, k3, k4, k5, k6⟩ := appZ_ok (ag := s.1) (z := s.2) (ty := o.type) hR h0 h1 (elemT_some he) hk hs hi hz0 (ρ x) (ρ y) h
            refine ok_to (X' := X') ?_ k2 k3 k4 k5 k6
            unfold execOp; rw [ho]
            simp [resolve, hc, invoke, builtin, hargs, k1]
          · cases h
      · cases h
    · -- cap
      rename_i hc
      split at h
      · rename_i x e hx hd
        obtain ⟨v, hv, rfl⟩ := same_some h
        obtain ⟨t, h0, hd⟩ := Option.bind_eq_some_iff.1 hd
        have hargs : c.args.map a.eval = #[a.eval x] := by apply Array.ext'; rw [Array.toList_map, hx]; rfl
        obtain ⟨u, k1, k2⟩ := cap_ok (ty := o.type) h0 hd (ρ x) hv
        refine ok_same hR ?_ k2
        unfold execOp; rw [ho]
        simp [resolve, hc, invoke, builtin, hargs, k1]
      · cases h
    · -- min
      rename_i hc
      obtain ⟨v, hv, rfl⟩ := same_some h
      obtain ⟨u, k1, k2⟩ := min_ok (P := P) (ts := c.argTypes) (ty := o.type) (hms c.args) hv
      refine ok_same hR ?_ k2
      unfold execOp; rw [ho]
      simp only [Array.toArray_toList] at k1
      simp [resolve, hc, invoke, builtin, k1]
    · -- max
      rename_i hc
      obtain ⟨v, hv, rfl⟩ := same_some h
      obtain ⟨u, k1, k2⟩ := max_ok (P := P) (ts := c.argTypes) (ty := o.type) (hms c.args) hv
      refine ok_same hR ?_ k2
      unfold execOp; rw [ho]
      simp only [Array.toArray_toList] at k1
      simp [resolve, hc, invoke, builtin, k1]
    · -- a function
      rename_i f hc
      split at h
      · rename_i g fi ca hx
        split at h
        · rename_i hg
          have hm := ρ f
          rw [hx] at hm
          unfold M at hm
          obtain ⟨fv, cv, hq, hfi, hca⟩ := hm
          intro K Q hK
          have hargs : Ms X (fi ++ c.args.toList.map (evA G T) ++ ca) (fv ++ c.args.map a.eval ++ cv).toList := by
            rw [Array.toList_append, Array.toList_append]
            exact Ms_append (Ms_append hfi (hms c.args)) hca
          refine upon_enter (g := g) (args := fv ++ c.args.map a.eval ++ cv) (by unfold execOp; rw [ho]; exact run_call hg hc hq) ?_
          split at h
          · refine (callX_ok henv hR hg hargs h).mono fun e w' he => ?_
            obtain ⟨u, X', rfl, e2, e3, e4, e5, e6, e7⟩ := he
            exact ⟨u, e2, hK u X' e3 e4 e5 e6 e7⟩
          have hcall := call_ok henv hR hargs h
          rw [base_vr hg] at hcall
          refine hcall.mono fun e w' he => ?_
          obtain ⟨u, X', rfl, e2, e3, e4, e5, e6, e7⟩ := he
          exact ⟨u, e2, hK u X' e3 e4 e5 e6 e7⟩
        · cases h
      · cases h
    · cases h
  · cases h
end
end Go.Pm
namespace Go.Pm
set_option linter.unusedVariables false
set_option linter.unusedSimpArgs false
section
variable {G : Nat → Option (List AV)} {X : Cx}
theorem oneL_take {es : List AV} {k : Nat} (h : oneL es) : oneL (es.take k) := fun e he => h e (List.mem_of_mem_take he)
theorem belL_take {m : Nat} : ∀ {es : List AV} {k : Nat}, belL m es = true → belL m (es.take k) = true
  | [], k, _ => by simp [belL]
  | e :: es, 0, _ => by simp [belL]
  | e :: es, k + 1, h => by
    simp only [belL, Bool.and_eq_true, List.take] at h ⊢
    exact ⟨h.1, belL_take h.2⟩
theorem trim_ok {l k z : Nat} {es : List AV} {v : Value} (hR : Rel G X) (hl : X.H[l]? = some (.row z es)) (hk : k ≤ es.length) (hm : M X (.slc l 0 k es.length) v) :
    ∃ X' : Cx, X'.w = X.w ∧ X'.H = (X.H.set l .dead) ++ [.row z (es.take k)] ∧ Rel G X' ∧ Ext X X' ∧ EscI X.H X'.H [] ∧ M X' (.slc X.H.length 0 k k) v := by
  have hll : l < X.H.length := (List.getElem?_eq_some_iff.1 hl).1
  unfold M at hm
  obtain ⟨⟨_, h0⟩, _, h3⟩ := hm
  rcases h3 (by simp [lenOf, hl]) with ⟨hv, _⟩ | ⟨hr, A, c, b, z', s, hi, hv, a1, a2, a3, a4⟩
  · rw [hl] at hv; cases hv
  obtain ⟨e1, e2, e3, e4, s', e5, e6, e7⟩ := hR.rows l z es b z' hl hi
  subst e1
  have hlen : (X.H.set l .dead).length = X.H.length := by simp
  have hlt : ∀ j, j < X.H.length → ((X.H.set l .dead) ++ [AObj.row z' (es.take k)])[j]? = (X.H.set l .dead)[j]? := fun j hj => List.getElem?_append_left (by rw [hlen]; exact hj)
  have hne : ∀ j, j < X.H.length → j ≠ l → ((X.H.set l .dead) ++ [AObj.row z' (es.take k)])[j]? = X.H[j]? := fun j hj hjl => by
    rw [hlt j hj, List.getElem?_set_ne (Ne.symm hjl)]
  have heq : ((X.H.set l .dead) ++ [AObj.row z' (es.take k)])[l]? = some .dead := by
    rw [hlt l hll, List.getElem?_set_self hll]
  have hnew : ((X.H.set l .dead) ++ [AObj.row z' (es.take k)])[X.H.length]? = some (.row z' (es.take k)) := by
    rw [List.getElem?_append_right (by rw [hlen]; exact Nat.le_refl _), hlen]; simp
  have hge : ∀ j, X.H.length < j → ((X.H.set l .dead) ++ [AObj.row z' (es.take k)])[j]? = none := fun j hj => List.getElem?_eq_none (by simp; omega)
  have cases3 : ∀ j z1 es1, ((X.H.set l .dead) ++ [AObj.row z' (es.take k)])[j]? = some (AObj.row z1 es1) → (j = X.H.length ∧ z1 = z' ∧ es1 = es.take k) ∨ (j ≠ X.H.length ∧ j ≠ l ∧ X.H[j]? = some (.row z1 es1)) := fun j z1 es1 h => by
    rcases Nat.lt_trichotomy j X.H.length with hj | rfl | hj
    · by_cases hjl : j = l
      · subst hjl; rw [heq] at h; cases h
      · rw [hne j hj hjl] at h; exact .inr ⟨by omega, hjl, h⟩
    · rw [hnew] at h; injection h with h; injection h with h1 h2; exact .inl ⟨rfl, h1.symm, h2.symm⟩
    · rw [hge j hj] at h; cases h
  have mps3 : ∀ (j : Nat) (es1 : List (AV × AV)), ((X.H.set l .dead) ++ [AObj.row z' (es.take k)])[j]? = some (AObj.mp es1) → j ≠ X.H.length ∧ j ≠ l ∧ X.H[j]? = some (AObj.mp es1) := fun j es1 h => by
    rcases Nat.lt_trichotomy j X.H.length with hj | rfl | hj
    · by_cases hjl : j = l
      · subst hjl; rw [heq] at h; cases h
      · rw [hne j hj hjl] at h; exact ⟨by omega, hjl, h⟩
    · rw [hnew] at h; cases h
    · rw [hge j hj] at h; cases h
  have own3 : ∀ j, isOwn ((X.H.set l .dead) ++ [AObj.row z' (es.take k)])[j]? → j = X.H.length ∨ (j ≠ X.H.length ∧ j ≠ l ∧ isOwn X.H[j]?) := fun j h => by
    rcases h with h | h
    · obtain ⟨z1, es1, h1⟩ := isRow_some h
      rcases cases3 j z1 es1 h1 with ⟨h2, _⟩ | ⟨h2, h3, h4⟩
      · exact .inl h2
      · exact .inr ⟨h2, h3, .inl (by rw [h4]; simp [isRow])⟩
    · obtain ⟨es1, h1⟩ := isMp_some h
      obtain ⟨h2, h3, h4⟩ := mps3 j es1 h1
      exact .inr ⟨h2, h3, .inr (by rw [h4]; simp [isMp])⟩
  let X' : Cx := ⟨X.F, upd X.ι X.H.length (b, z'), (X.H.set l .dead) ++ [.row z' (es.take k)], X.w⟩
  have hup : ∀ j, j ≠ X.H.length → X'.ι j = X.ι j := fun j hj => by simp [X', upd, hj]
  have hup0 : X'.ι X.H.length = some (b, z') := by simp [X', upd]
  have hwr : ∀ b', X'.wr b' → X.wr b' := fun b' hw => by
    obtain ⟨j, z1, hr1, hi1⟩ := hw
    rcases own3 j hr1 with rfl | ⟨h4, _, h5⟩
    · rw [hup0] at hi1; injection hi1 with hi1; injection hi1 with hi1 _
      subst hi1
      exact ⟨l, z', .inl hr, hi⟩
    · rw [hup j h4] at hi1
      exact ⟨j, z1, h5, hi1⟩
  have hE : Ext X X' := by
    refine ⟨Nat.le_refl _, by simp [X'], fun _ _ _ => rfl, fun b' _ hw => hwr b' hw, fun j t hj ht => ?_, rfl, rfl, rfl, rfl, fun j hj hm => ?_⟩
    rotate_left
    · obtain ⟨es1, h1⟩ := isMp_some hm
      obtain ⟨h2, _, h4⟩ := mps3 j es1 h1
      exact ⟨by rw [h4]; simp [isMp], hup j h2⟩
    by_cases hjl : j = l
    · subst hjl
      simp only [X', lenOf, heq] at ht; cases ht
    · have hg : X'.H[j]? = X.H[j]? := hne j hj hjl
      refine ⟨t, by simpa only [lenOf, hg] using ht, Nat.le_refl _, fun _ => ⟨fun hr1 => ⟨by rw [hg]; exact hr1, fun b' z1 h => ⟨by rw [hup j (by omega)]; exact h, rfl⟩⟩, fun hv1 => by rw [hg]; exact hv1⟩⟩
  refine ⟨X', rfl, rfl, ⟨fun j z1 es1 b1 z2 h1 h2 => ?_, fun j j' b1 z1 z2 h1 h2 h3 h4 => ?_, maps_keep hR hE (fun j es1 h => (mps3 j es1 h).2.2) (fun _ _ _ h => h), fun g cs hg => ?_, fun j z1 es1 h1 => ?_, fb_keep hR hE, hR.gb⟩, hE, fun j z1 es1 h1 => ?_, ?_⟩
  · rcases cases3 j z1 es1 h1 with ⟨rfl, rfl, rfl⟩ | ⟨h4, _, h5⟩
    · rw [hup0] at h2; injection h2 with h2; injection h2 with h2 h6
      subst h2; subst h6
      refine ⟨rfl, e2, Me_of_get fun i e he => ?_, oneL_take e4, s', e5, ?_, e7⟩
      · have hi' : i < k := by have := (List.getElem?_eq_some_iff.1 he).1; simp at this; omega
        rw [List.getElem?_take_of_lt hi'] at he
        obtain ⟨q1, q2⟩ := Me_get e3 he
        exact ⟨q1, Mc_mono hE _ _ _ (fun j u hj => hj) q2⟩
      · have : (es.take k).length * z1 ≤ es.length * z1 := Nat.mul_le_mul_right _ (by simp; omega)
        omega
    · rw [hup j h4] at h2
      obtain ⟨q1, q2, q3, q4, s1, q5, q6, q7⟩ := hR.rows j z1 es1 b1 z2 h5 h2
      exact ⟨q1, q2, Me_mono hE _ _ _ _ (fun j u hj => hj) q3, q4, s1, q5, q6, q7⟩
  · rcases own3 j h1 with rfl | ⟨p1, p2, p3⟩ <;> rcases own3 j' h2 with rfl | ⟨q1, q2, q3⟩
    · rfl
    · rw [hup0] at h3; injection h3 with h3; injection h3 with h3 _
      subst h3
      rw [hup j' q1] at h4
      exact absurd (hR.inj l j' b z' z2 (.inl hr) q3 hi h4).symm q2
    · rw [hup0] at h4; injection h4 with h4; injection h4 with h4 _
      subst h4
      rw [hup j p1] at h3
      exact absurd (hR.inj l j b z' z1 (.inl hr) p3 hi h3).symm p2
    · rw [hup j p1] at h3
      rw [hup j' q1] at h4
      exact hR.inj j j' b1 z1 z2 p3 q3 h3 h4
  · obtain ⟨h1, h2⟩ := hR.glob g cs hg
    exact ⟨im_keep hE h1, Mc_mono hE _ _ _ (fun j u hj => hj) h2⟩
  · have hle : X.H.length ≤ X'.H.length := hE.hlen
    rcases cases3 j z1 es1 h1 with ⟨_, _, rfl⟩ | ⟨_, _, p3⟩
    · exact belL_mono hle _ (belL_take (hR.wf l z' es hl))
    · exact belL_mono hle _ (hR.wf j z1 es1 p3)
  · rcases cases3 j z1 es1 h1 with ⟨rfl, _, rfl⟩ | ⟨_, _, p3⟩
    · exact .inr fun m hm' _ => belL_mono (Nat.le_of_lt hm') _ (belL_take (hR.wf l z' es hl))
    · exact .inr fun m hm' hp => hp z1 es1 p3
  · unfold M
    refine ⟨⟨by simp [X'], A, k, c, hv⟩, fun t ht => ?_, fun _ => .inr ⟨?_, A, c, b, z', s, hup0, hv, ?_, a2, a3, ?_⟩⟩
    · simp only [X', lenOf, hnew, Option.some.injEq] at ht; subst ht; simp; omega
    · show isRow X'.H[X.H.length]?
      simp only [X', hnew, isRow]
    · omega
    · simpa using a4
theorem ms_set {X Y : Cx} (hE : Ext X Y) {s : AV} (hs : M Y s (.slice none 0 0)) : ∀ (cs : List AV) (us : List Value) (k : Nat), Ms X cs us → cs[k]? = some .nils → Ms Y (cs.set k s) us
  | [], us, k, h, hk => by simp at hk
  | c :: cs, us, 0, h, hk => by
    simp only [List.getElem?_cons_zero, Option.some.injEq] at hk
    subst hk
    unfold Ms at h
    obtain ⟨u, us', rfl, h1, h2⟩ := h
    unfold M at h1
    subst h1
    simp only [List.set_cons_zero]
    unfold Ms
    exact ⟨_, us', rfl, hs, Ms_mono hE _ _ h2⟩
  | c :: cs, us, k + 1, h, hk => by
    simp only [List.getElem?_cons_succ] at hk
    unfold Ms at h
    obtain ⟨u, us', rfl, h1, h2⟩ := h
    simp only [List.set_cons_succ]
    unfold Ms
    exact ⟨u, us', rfl, M_mono hE _ _ h1, ms_set hE hs cs us' k h2 hk⟩
theorem nils_ok {cs : List AV} {k : Nat} {v : Value} (hR : Rel G X) (hk : cs.findIdx? isNils = some k) (hm : M X (.agg cs) v) :
    ∃ X' : Cx, X'.w = X.w ∧ X'.H = X.H ++ [.vrow] ∧ Rel G X' ∧ Ext X X' ∧ EscI X.H X'.H [] ∧ M X' (.agg (cs.set k (.slc X.H.length 0 0 0))) v := by
  obtain ⟨w1, w2, w3, w4⟩ := vrow_ok hR
  refine ⟨⟨X.F, X.ι, X.H ++ [.vrow], X.w⟩, rfl, rfl, w1, w2, w3, ?_⟩
  unfold M at hm ⊢
  obtain ⟨vs, rfl, h⟩ := hm
  have hk' : cs[k]? = some .nils := by
    obtain ⟨h1, h2, _⟩ := List.findIdx?_eq_some_iff_getElem.1 hk
    rw [List.getElem?_eq_getElem h1]
    cases hx : cs[k] with
    | nils => rfl
    | _ => rw [hx] at h2; simp [isNils] at h2
  exact ⟨vs, rfl, ms_set w2 w4 cs _ k h hk'⟩
end
end Go.Pm
namespace Go.Pm
set_option linter.unusedVariables false
set_option linter.unusedSimpArgs false
section
variable {P : Program} {G : Nat → Option (List AV)} {X : Cx} {o : Oper} {a : Act} {T : List AV}
theorem frzC_Ms {X : Cx} (hR : Rel G X) (ls : List Nat) : ∀ (cs : List AV) (us : List Value), Ms X cs us → (∀ l ∈ killC X.H cs, l ∈ ls) → Ms ⟨X.F, X.ι, killAll X.H ls, X.w⟩ (cs.map (frzC1 X.H)) us
  | [], us, hm, _ => by unfold Ms at hm; simp only [List.map_nil]; unfold Ms; exact hm
  | c :: cs, us, hm, hk => by
    unfold Ms at hm
    simp only [List.map_cons]
    unfold Ms
    obtain ⟨u, vs, hv, hc, hs⟩ := hm
    refine ⟨u, vs, hv, ?_, frzC_Ms hR ls cs vs hs fun l hl => hk l (by simp only [killC, List.mem_append]; exact .inr hl)⟩
    have hmono := M_mono (kill_ok hR ls).2.1 c u hc
    unfold frzC1
    cases hb : big X.H c with
    | false => exact hmono
    | true =>
      cases hf : frz X.H c with
      | none => exact hmono
      | some v => exact frz_M hR ls c v u hc hf fun l hl => hk l (by simp only [killC, hb, List.mem_append]; exact .inl hl)
theorem aop'_ok {env : Env} {act : Nat} {r : R3} (henv : EnvOk P G env) (hR : Rel G X) (hF : Ms X T a.tmps.toList) (h : aop' P G env act o T X.H = some r) : OpOk P G X o a r := by
  unfold aop' at h
  split at h
  · simp only [Option.bind_eq_some_iff, Option.map_eq_some_iff] at h
    obtain ⟨r0, h0, v, hv, rfl⟩ := h
    intro K Q hK
    refine aop_ok henv hR hF h0 K Q fun u X' e1 e2 e3 e4 e5 => ?_
    rw [← e1] at hv
    obtain ⟨k1, k2, k3⟩ := kill_ok e2 (kills r0.1)
    have hm := frz_M e2 (kills r0.1) r0.1 v u e5 hv (fun l hl => hl)
    refine hK u ⟨X'.F, X'.ι, killAll X'.H (kills r0.1), X'.w⟩ (by rw [← e1]) k1 (e3.trans k2) ?_ hm
    simpa using EscI.trans e4 k3
  · split at h
    · obtain ⟨r0, h0, h1⟩ := Option.bind_eq_some_iff.1 h
      obtain ⟨v0, H0, E0⟩ := r0
      unfold trimA at h1
      simp only at h1
      split at h1
      · rename_i cs
        split at h1
        · rename_i k hk
          injection h1 with h1; subst h1
          intro K Q hK
          refine aop_ok henv hR hF h0 K Q fun u X' e1 e2 e3 e4 e5 => ?_
          simp only at e1 e4 e5
          subst e1
          obtain ⟨Y, y1, y2, y3, y4, y5, y6⟩ := nils_ok e2 hk e5
          rw [← y1]
          exact hK u Y y2 y3 (e3.trans y4) (by rw [← y2]; simpa using EscI.trans e4 y5) y6
        · cases h1
      · rename_i l k tot
        split at h1
        · rename_i z es hl
          split at h1
          · rename_i hc
            injection h1 with h1; subst h1
            obtain ⟨rfl, hk⟩ := hc
            intro K Q hK
            refine aop_ok henv hR hF h0 K Q fun u X' e1 e2 e3 e4 e5 => ?_
            simp only at e1 e4 e5
            subst e1
            obtain ⟨Y, y1, y2, y3, y4, y5, y6⟩ := trim_ok e2 hl hk e5
            rw [← y1]
            exact hK u Y y2 y3 (e3.trans y4) (by rw [← y2]; simpa using EscI.trans e4 y5) y6
          · cases h1
        · cases h1
      · cases h1
    · split at h
      · obtain ⟨r0, h0, h1⟩ := Option.bind_eq_some_iff.1 h
        obtain ⟨v0, H0, E0⟩ := r0
        unfold frzC at h1
        simp only at h1
        split at h1
        · rename_i cs
          injection h1 with h1; subst h1
          intro K Q hK
          refine aop_ok henv hR hF h0 K Q fun u X' e1 e2 e3 e4 e5 => ?_
          simp only at e1 e4 e5
          subst e1
          obtain ⟨k1, k2, k3⟩ := kill_ok e2 (killC X'.H cs)
          refine hK u ⟨X'.F, X'.ι, killAll X'.H (killC X'.H cs), X'.w⟩ rfl k1 (e3.trans k2) ?_ ?_
          · simpa using EscI.trans e4 k3
          · unfold M at e5 ⊢
            obtain ⟨vs, hv, hs⟩ := e5
            exact ⟨vs, hv, frzC_Ms e2 _ cs _ hs (fun l hl => hl)⟩
        · cases h1
      · exact aop_ok henv hR hF h

theorem want_ok {ops : Array Oper} {b : Bool} (hF : Ms X T a.tmps.toList) (h : wantA ops T o = some b) : Region.wanted o (yielded ops a.tmps) = b := by
  unfold wantA at h
  unfold Region.wanted
  split at h
  · rename_i hg
    injection h with h; subst h
    simp [hg]
  · rename_i j want hg
    simp only [hg]
    unfold yielded
    split at h
    · rename_i hd
      injection h with h; subst h
      simp [hd]
    · rename_i d hd
      have hl := Ms_length hF
      split at h
      · rename_i ht
        injection h with h; subst h
        have : a.tmps[d]? = none := by
          rw [List.getElem?_eq_none_iff] at ht
          have hsz : a.tmps.toList.length = a.tmps.size := Array.length_toList
          exact Array.getElem?_eq_none (by omega)
        simp [hd, this]
      · rename_i v ht
        injection h with h; subst h
        obtain ⟨u, hu, hm⟩ := Ms_get hF ht
        rw [M_bool] at hm; subst hm
        rw [Array.getElem?_toList] at hu
        simp [hd, hu]
      · rename_i vs ht
        injection h with h; subst h
        obtain ⟨u, hu, hm⟩ := Ms_get hF ht
        obtain ⟨us, rfl, _⟩ := M_tup hm
        rw [Array.getElem?_toList] at hu
        simp [hd, hu]
      · cases h

theorem put_defers (a : Act) (d : Option Tmp) (u : Value) : (a.put d u).defers = a.defers := by cases d <;> rfl

/-- One operation. -/
theorem step_ok {env : Env} (henv : EnvOk P G env) {hh : Hint} {id i : Nat} {ops : Array Oper} {s s1 : St} (ho : ops[i]? = some o) (hH : X.H = s.H) (hR : Rel G X) (hF : Ms X s.T a.tmps.toList) (h : opA P G env hh id ops i o s = some s1)
    {K : Act → World → Prop} {Q : Exit → Act → World → Prop}
    (hK : ∀ X1 a1 N, X1.H = s1.H → Rel G X1 → Ext X X1 → s1.E = N ++ s.E → EscI X.H X1.H N → Ms X1 s1.T a1.tmps.toList → a1.defers = a.defers → K a1 X1.w) : wpOp P ops Q i K a X.w := by
  unfold wpOp
  simp only [ho]
  unfold opA at h
  split at h
  · rename_i hw
    simp only [Option.map_eq_some_iff] at h
    obtain ⟨r, hr, rfl⟩ := h
    rw [want_ok hF hw]
    simp only [if_true]
    left
    rw [← hH] at hr
    refine aop'_ok henv hR hF hr K Q fun u X' e1 e2 e3 e4 e5 => ?_
    exact hK X' _ r.2.2 e1 e2 e3 rfl e4 (putA_ok (Ms_mono e3 _ _ hF) o.dst e5) (put_defers _ _ _)
  · rename_i hw
    injection h with h; subst h
    rw [want_ok hF hw]
    simp only [Bool.false_eq_true, if_false]
    exact hK X _ [] hH hR (Ext.refl X) rfl (EscI.refl _) (putA_ok hF o.dst (by unfold M; exact ⟨#[], rfl, by simp [Ms]⟩)) (put_defers _ _ _)
  · cases h

theorem ops_ok {env : Env} (henv : EnvOk P G env) {hh : Hint} {id : Nat} {ops : Array Oper} {Q : Exit → Act → World → Prop} : ∀ (rest : List Oper) (i : Nat) (X : Cx) (a : Act) (s s1 : St), (∀ k, rest[k]? = ops[i + k]?) → X.H = s.H → Rel G X → Ms X s.T a.tmps.toList → opsA P G env hh id ops rest i s = some s1 →
    (∀ X1 a1 N, X1.H = s1.H → Rel G X1 → Ext X X1 → s1.E = N ++ s.E → EscI X.H X1.H N → Ms X1 s1.T a1.tmps.toList → a1.defers = a.defers → Q .normal a1 X1.w) → wpOps P ops Q (List.range' i rest.length) a X.w
  | [], i, X, a, s, s1, hr, hH, hR, hF, h, hQ => by
    simp only [opsA, Option.some.injEq] at h
    subst h
    simp only [List.length_nil, List.range'_zero, wpOps]
    exact hQ X a [] hH hR (Ext.refl X) rfl (EscI.refl _) hF rfl
  | o :: rest, i, X, a, s, s1, hr, hH, hR, hF, h, hQ => by
    simp only [opsA, Option.bind_eq_some_iff] at h
    obtain ⟨s', h1, h2⟩ := h
    rw [List.length_cons, List.range'_succ, wpOps_cons]
    have ho : ops[i]? = some o := by have := hr 0; simpa using this.symm
    refine step_ok henv ho hH hR hF h1 fun X1 a1 N e1 e2 e3 e4 e5 e6 e7 => ?_
    refine ops_ok henv rest (i + 1) X1 a1 s' s1 (fun k => ?_) e1 e2 e6 h2 fun X2 a2 N2 f1 f2 f3 f4 f5 f6 f7 => ?_
    · have := hr (k + 1)
      rw [show i + 1 + k = i + (k + 1) by omega]
      simpa using this
    · exact hQ X2 a2 (N2 ++ N) f1 f2 (e3.trans f3) (by rw [f4, e4, List.append_assoc]) (e5.trans f5) f6 (f7.trans e7)
theorem region_ok {env : Env} (henv : EnvOk P G env) {hh : Hint} {id : Nat} {ops : Array Oper} {Q : Exit → Act → World → Prop} {s s1 : St} (hH : X.H = s.H) (hR : Rel G X) (hF : Ms X s.T a.tmps.toList) (h : opsA P G env hh id ops ops.toList 0 s = some s1)
    (hQ : ∀ X1 a1 N, X1.H = s1.H → Rel G X1 → Ext X X1 → s1.E = N ++ s.E → EscI X.H X1.H N → Ms X1 s1.T a1.tmps.toList → a1.defers = a.defers → Q .normal a1 X1.w) : (Code.region id ops false).wp P Q a X.w := by
  refine wp_region ?_
  rw [List.range_eq_range']
  have := ops_ok henv (Q := Q) ops.toList 0 X a s s1 (fun k => by simp) hH hR hF h hQ
  simpa using this
end
end Go.Pm
namespace Go.Pm
set_option linter.unusedVariables false
set_option linter.unusedSimpArgs false
section
variable {P : Program} {G : Nat → Option (List AV)} {env : Env} {hh : Hint} {id : Nat} {ops : Array Oper}
theorem opA_val (i : Nat) (o : Oper) (s : St) : opA P G env hh id ops i o s = (valA P G env hh id ops i o s.T s.H).map fun r => ⟨putA s.T o.dst r.1, r.2.1, r.2.2 ++ s.E⟩ := by
  unfold opA valA
  cases wantA ops s.T o with
  | none => rfl
  | some b => cases b <;> rfl

theorem evA_congr {T1 T2 : List AV} {x : Operand} (h : ∀ t, x = .tmp t → T1[t]? = T2[t]?) : evA G T1 x = evA G T2 x := by
  cases x with
  | tmp t => simp only [evA, List.getD, h t rfl]
  | _ => rfl
theorem map_ev {T1 T2 : List AV} {l : List Operand} (h : ∀ x ∈ l, evA G T1 x = evA G T2 x) : l.map (evA G T1) = l.map (evA G T2) := List.map_congr_left h
theorem mapp_ev {T1 T2 : List AV} {l : List (Nat × Operand)} (h : ∀ x ∈ l.map (·.2), evA G T1 x = evA G T2 x) : (l.map fun p => (p.1, evA G T1 p.2)) = l.map fun p => (p.1, evA G T2 p.2) :=
  List.map_congr_left fun p hp => by rw [h p.2 (List.mem_map.2 ⟨p, hp, rfl⟩)]
theorem mapq_ev {T1 T2 : List AV} {l : List (Nat × Operand)} (h : ∀ x ∈ l.map (·.2), evA G T1 x = evA G T2 x) : (l.map fun p => evA G T1 p.2) = l.map fun p => evA G T2 p.2 :=
  List.map_congr_left fun p hp => by rw [h p.2 (List.mem_map.2 ⟨p, hp, rfl⟩)]
theorem aop_congr {T1 T2 : List AV} {act : Nat} {o : Oper} {H : List AObj} (hT : ∀ x ∈ o.op.operands, evA G T1 x = evA G T2 x) : aop P G env act o T1 H = aop P G env act o T2 H := by
  obtain ⟨dst, op, ty, pos, after, guard⟩ := o
  cases op <;> simp only [Op.operands] at hT <;> simp only [aop]
  case build t ps => rw [mapp_ev (l := ps.toList) fun x hx => hT x (by simpa using hx)]
  case buildSlice t n ps => rw [mapp_ev (l := ps.toList) fun x hx => hT x (by simpa using hx), mapq_ev (l := ps.toList) fun x hx => hT x (by simpa using hx)]
  case makeFunc f fi ca =>
    cases f <;> simp only
    rw [map_ev (l := fi.toList) fun x hx => hT x (by simp [Array.mem_toList_iff.1 hx]), map_ev (l := ca.toList) fun x hx => hT x (by simp [Array.mem_toList_iff.1 hx])]
  case slice t x lo hi mx =>
    have e1 := hT x (by simp)
    have e2 : lo.map (evA G T1) = lo.map (evA G T2) := by cases lo with
      | none => rfl
      | some y => simp [hT y (by simp)]
    have e3 : hi.map (evA G T1) = hi.map (evA G T2) := by cases hi with
      | none => rfl
      | some y => simp [hT y (by simp)]
    have e4 : mx.map (evA G T1) = mx.map (evA G T2) := by cases mx with
      | none => rfl
      | some y => simp [hT y (by simp)]
    rw [e1, e2, e3, e4]
  case call c =>
    have ha : c.args.toList.map (evA G T1) = c.args.toList.map (evA G T2) := map_ev fun x hx => hT x (by simp [Call.operands, Array.mem_toList_iff.1 hx])
    cases hc : c.callee with
    | value f => simp only [hT f (by simp [Call.operands, hc]), ha]
    | invoke r m => rfl
    | builtin b =>
      cases b <;> simp only [ha]
      case len =>
        have hl : ∀ x, c.args.toList = [x] → evA G T1 x = evA G T2 x := fun x hx => hT x (by simp [Call.operands, ← Array.mem_toList_iff, hx])
        rcases hcl : c.args.toList with _ | ⟨x, _ | ⟨y, ys⟩⟩
        · rfl
        · have e := hl x hcl
          generalize (c.argTypes[0]?).bind P.underlying = d
          cases d with
          | none => rfl
          | some d => cases d <;> first | rfl | (simp only [e]; done)
        · rfl
      case delete =>
        have hl : ∀ x, x ∈ c.args.toList → evA G T1 x = evA G T2 x := fun x hx => hT x (by simp [Call.operands, Array.mem_toList_iff.1 hx])
        rcases hcl : c.args.toList with _ | ⟨x, _ | ⟨y, _ | ⟨z, zs⟩⟩⟩
        · rfl
        · rfl
        · rw [hcl] at hl
          have e1 := hl x (by simp)
          have e2 := hl y (by simp)
          generalize (c.argTypes[0]?).bind P.underlying = d
          cases d with
          | none => rfl
          | some d => cases d <;> first | rfl | (simp only [e1, e2]; done)
        · rfl
      case cap =>
        have hl : ∀ x, c.args.toList = [x] → evA G T1 x = evA G T2 x := fun x hx => hT x (by simp [Call.operands, ← Array.mem_toList_iff, hx])
        rcases hcl : c.args.toList with _ | ⟨x, _ | ⟨y, ys⟩⟩
        · rfl
        · have e := hl x hcl
          generalize (c.argTypes[0]?).bind P.underlying = d
          cases d with
          | none => rfl
          | some d => cases d <;> first | rfl | (simp only [e]; done)
        · rfl
      case append =>
        have hl : ∀ x, x ∈ c.args.toList → evA G T1 x = evA G T2 x := fun x hx => hT x (by simp [Call.operands, Array.mem_toList_iff.1 hx])
        rcases hcl : c.args.toList with _ | ⟨x, _ | ⟨y, _ | ⟨z, zs⟩⟩⟩
        · rfl
        · rfl
        · rw [hcl] at hl
          have e1 := hl x (by simp)
          have e2 := hl y (by simp)
          generalize c.argTypes[0]? = d1
          generalize c.argTypes[1]? = d2
          cases d1 <;> cases d2 <;> first | rfl | (simp only [e1, e2]; done)
        · rfl
  all_goals first
    | rfl
    | (simp only [hT _ (List.mem_toArray.2 (List.mem_singleton.2 rfl))]; done)
    | (simp at hT; simp [hT]; done)
theorem valA_congr {T1 T2 : List AV} {i : Nat} {o : Oper} {H : List AObj} (hT : ∀ t ∈ o.looksAt ops, T1[t]? = T2[t]?) : valA P G env hh id ops i o T1 H = valA P G env hh id ops i o T2 H := by
  have hw : wantA ops T1 o = wantA ops T2 o := by
    unfold wantA
    cases hg : o.guard with
    | none => rfl
    | some g =>
      obtain ⟨j, want⟩ := g
      simp only
      cases hd : (ops[j]?).bind (·.dst) with
      | none => rfl
      | some d => simp only [hT d (by simp [Oper.looksAt, hg, hd])]
  have ha : ∀ act, aop P G env act o T1 H = aop P G env act o T2 H := fun act => aop_congr fun x hx => evA_congr fun t ht => hT t (by
    subst ht
    exact List.mem_append_left _ (List.mem_filterMap.2 ⟨.tmp t, by simpa using hx, rfl⟩))
  unfold valA aop'
  rw [hw]
  simp only [ha]

theorem same_noH {H : List AObj} {v : Option AV} {r : R3} (H' : List AObj) (h : same H v = some r) : r.2 = (H, []) ∧ same H' v = some (r.1, H', []) := by
  unfold same at h ⊢
  cases v with
  | none => cases h
  | some v => simp only [Option.map_some, Option.some.injEq] at h; subst h; exact ⟨rfl, rfl⟩
theorem noH_ok {o : Oper} {T : List AV} {H : List AObj} {r : R3} (H' : List AObj) (hn : noH o = true) (h : aop P G env 0 o T H = some r) : r.2 = (H, []) ∧ aop P G env 0 o T H' = some (r.1, H', []) := by
  cases ho : o.op
  case move x => simp only [aop, ho] at h ⊢; exact same_noH H' h
  case assign x => simp only [aop, ho] at h ⊢; exact same_noH H' h
  case pick c a b =>
    simp only [aop, ho] at h ⊢
    split at h
    · exact same_noH H' h
    · cases h
  case build t ps =>
    simp only [aop, ho] at h ⊢
    split at h
    · split at h
      · rename_i hc; rw [if_pos hc]; exact same_noH H' h
      · cases h
    · split at h
      · rename_i hc
        simp only [Option.bind_eq_some_iff] at h
        obtain ⟨s, h1, h2⟩ := h
        obtain ⟨k1, k2⟩ := same_noH H' h2
        exact ⟨k1, by rw [if_pos hc]; simp only [Option.bind_eq_some_iff]; exact ⟨s, h1, k2⟩⟩
      · cases h
    · cases h
  case binOp op xt x y _ =>
    simp only [aop, ho] at h ⊢
    rw [if_neg (by omega)] at h ⊢
    simp only [Option.bind_eq_some_iff] at h ⊢
    obtain ⟨d, h1, h2⟩ := h
    obtain ⟨k1, k2⟩ := same_noH H' h2
    exact ⟨k1, ⟨d, h1, k2⟩⟩
  case unOp op _ x => simp only [aop, ho] at h ⊢; exact same_noH H' h
  case fieldAddr s x f =>
    simp only [aop, ho] at h ⊢
    split at h
    · simp only [Option.bind_eq_some_iff] at h ⊢
      obtain ⟨d, h1, z, h2, h3⟩ := h
      split at h3
      · rename_i hz
        obtain ⟨k1, k2⟩ := same_noH H' h3
        exact ⟨k1, ⟨d, h1, z, h2, by rw [if_pos hz]; exact k2⟩⟩
      · cases h3
    · cases h
  case field s x f =>
    simp only [aop, ho] at h ⊢
    split at h
    · simp only [Option.bind_eq_some_iff] at h ⊢
      obtain ⟨d, h1, z, h2, h3⟩ := h
      obtain ⟨k1, k2⟩ := same_noH H' h3
      exact ⟨k1, ⟨d, h1, z, h2, k2⟩⟩
    · cases h
  case makeInterface t x =>
    simp only [aop, ho] at h ⊢
    split at h
    · cases h
    · rename_i hi; rw [if_neg hi]; exact same_noH H' h
  case makeFunc f a b =>
    cases f <;> simp only [aop, ho] at h ⊢
    · exact same_noH H' h
    all_goals cases h
  case index t x ix =>
    simp only [aop, ho] at h ⊢
    split at h
    · simp only [Option.bind_eq_some_iff] at h ⊢
      obtain ⟨s, h1, h2⟩ := h
      split at h2
      · rename_i hi
        obtain ⟨k1, k2⟩ := same_noH H' h2
        exact ⟨k1, ⟨s, h1, by rw [if_pos hi]; exact k2⟩⟩
      · cases h2
    · split at h
      · rename_i hi; rw [if_pos hi]; exact same_noH H' h
      · cases h
    · cases h
  case extract x i =>
    simp only [aop, ho] at h ⊢
    split at h
    · exact same_noH H' h
    · cases h
  case typeAssert x a t ok =>
    simp only [aop, ho] at h ⊢
    split at h
    · cases h
    · rename_i hi
      rw [if_neg hi]
      split at h
      · split at h
        · rename_i hu
          simp only [Option.some.injEq] at h
          subst h
          exact ⟨rfl, by rw [if_pos hu]⟩
        · rename_i hu
          split at h
          · rename_i hok
            simp only [Option.bind_eq_some_iff] at h
            obtain ⟨z, h1, h2⟩ := h
            simp only [Option.some.injEq] at h2
            subst h2
            exact ⟨rfl, by rw [if_neg hu, if_pos hok]; simp only [Option.bind_eq_some_iff]; exact ⟨z, h1, rfl⟩⟩
          · cases h
      · split at h
        · rename_i hok
          simp only [Option.bind_eq_some_iff] at h
          obtain ⟨z, h1, h2⟩ := h
          simp only [Option.some.injEq] at h2
          subst h2
          exact ⟨rfl, by rw [if_pos hok]; simp only [Option.bind_eq_some_iff]; exact ⟨z, h1, rfl⟩⟩
        · cases h
      · cases h
  case nilCheck x =>
    simp only [aop, ho] at h ⊢
    split at h <;> first
      | (simp only [Option.some.injEq] at h; subst h; exact ⟨rfl, rfl⟩)
      | cases h
  case call c =>
    cases hc : c.callee with
    | builtin b =>
      cases b <;> simp only [noH, ho, hc, Bool.false_eq_true] at hn
      · simp only [aop, ho, hc] at h ⊢; exact same_noH H' h
      · simp only [aop, ho, hc] at h ⊢; exact same_noH H' h
    | _ => simp [noH, ho, hc] at hn
  all_goals simp [noH, ho] at hn
end
end Go.Pm
namespace Go.Pm
set_option linter.unusedVariables false
set_option linter.unusedSimpArgs false
section
variable {P : Program} {G : Nat → Option (List AV)} {env : Env} {hh : Hint} {id : Nat} {ops : Array Oper}
theorem mem_insN {a x : Nat} {l : List Nat} (h : x ∈ insN a l) : x = a ∨ x ∈ l := by
  unfold insN at h
  split at h
  · exact .inr h
  · simpa using h
theorem mem_uniN {x : Nat} : ∀ {a b : List Nat}, x ∈ uniN a b → x ∈ a ∨ x ∈ b
  | [], b, h => .inr h
  | c :: a, b, h => by
    have h' : x ∈ insN c (uniN a b) := h
    rcases mem_insN h' with rfl | h'
    · exact .inl (by simp)
    · rcases mem_uniN h' with h' | h'
      · exact .inl (by simp [h'])
      · exact .inr h'
theorem mem_anc1 {x : Nat} {L : List (List Nat)} : ∀ {l : List Nat}, x ∈ l.foldr (fun j acc => uniN (j :: L.getD j []) acc) [] → ∃ j ∈ l, x = j ∨ x ∈ L.getD j []
  | [], h => by simp at h
  | j :: l, h => by
    simp only [List.foldr] at h
    rcases mem_uniN h with h | h
    · exact ⟨j, by simp, by simpa using h⟩
    · obtain ⟨k, hk, h⟩ := mem_anc1 h
      exact ⟨k, by simp [hk], h⟩
theorem ancL_len : ∀ n, (ancL ops n).length = n
  | 0 => rfl
  | n + 1 => by simp [ancL, ancL_len n]
theorem ancL_pre {i : Nat} : ∀ {n m : Nat}, n ≤ m → i < n → (ancL ops m).getD i [] = (ancL ops n).getD i [] := by
  intro n m h hi
  induction h with
  | refl => rfl
  | @step k hk ih =>
    rw [← ih]
    have hk' : n ≤ k := hk
    simp only [List.getD, ancL]
    rw [List.getElem?_append_left (by rw [ancL_len]; omega)]
theorem anc_step {i x : Nat} (hi : i < ops.size) (h : x ∈ (ancL ops ops.size).getD i []) : ∃ j ∈ bnd ops i, x = j ∨ x ∈ (ancL ops ops.size).getD j [] := by
  rw [ancL_pre (n := i + 1) (by omega) (by omega)] at h
  have e : (ancL ops (i + 1)).getD i [] = (bnd ops i).foldr (fun j acc => uniN (j :: (ancL ops i).getD j []) acc) [] := by
    simp only [List.getD, ancL]
    rw [List.getElem?_append_right (by rw [ancL_len]; omega), ancL_len]
    simp
  rw [e] at h
  obtain ⟨j, hj, h⟩ := mem_anc1 h
  refine ⟨j, hj, ?_⟩
  rcases h with h | h
  · exact .inl h
  · right
    by_cases hji : j < i
    · rw [ancL_pre (n := i) (by omega) hji]; exact h
    · simp only [List.getD] at h
      rw [List.getElem?_eq_none (by rw [ancL_len]; omega)] at h
      simp at h
theorem closed_anc {D : Nat → Prop} (hb : ∀ i, i < ops.size → D i → ∀ j ∈ bnd ops i, D j) (hlt : ∀ i, i < ops.size → ∀ j ∈ bnd ops i, j < i) :
    ∀ (i : Nat), i < ops.size → (∀ j ∈ bnd ops i, D j) → ∀ x ∈ (ancL ops ops.size).getD i [], D x := by
  intro i
  induction i using Nat.strongRecOn with
  | _ i ih =>
    intro hi hD x hx
    obtain ⟨j, hj, h⟩ := anc_step hi hx
    rcases h with rfl | h
    · exact hD x hj
    · have hji := hlt i hi j hj
      exact ih j hji (by omega) (hb j (by omega) (hD j hj)) x h

theorem opsA_append {a b : List Oper} : ∀ {i : Nat} {s : St}, opsA P G env hh id ops (a ++ b) i s = (opsA P G env hh id ops a i s).bind fun s' => opsA P G env hh id ops b (i + a.length) s' := by
  induction a with
  | nil => intro i s; simp [opsA]
  | cons o a ih =>
    intro i s
    simp only [List.cons_append, opsA, List.length_cons, Option.bind_assoc]
    congr 1
    funext s'
    rw [ih, show i + 1 + a.length = i + (a.length + 1) by omega]
theorem stA_succ {s : St} {i : Nat} {o : Oper} (ho : ops[i]? = some o) : stA P G env hh id ops s (i + 1) = (stA P G env hh id ops s i).bind fun s' => opA P G env hh id ops i o s' := by
  unfold stA
  have hi : i < ops.toList.length := by have := (Array.getElem?_eq_some_iff.1 ho).1; simpa using this
  have hg : ops.toList[i]? = some o := by simpa using ho
  rw [List.take_add_one, hg, opsA_append]
  congr 1
  funext s'
  have hm : min i ops.size = i := Nat.min_eq_left (by have : ops.toList.length = ops.size := by simp
                                                      omega)
  simp [opsA, List.length_take, hm]
theorem stA_some {s s1 : St} (h : opsA P G env hh id ops ops.toList 0 s = some s1) : ∀ i, ∃ si, stA P G env hh id ops s i = some si := fun i => by
  unfold stA
  rw [← List.take_append_drop i ops.toList, opsA_append, Option.bind_eq_some_iff] at h
  obtain ⟨si, h1, _⟩ := h
  exact ⟨si, h1⟩

theorem putA_length (T : List AV) (d : Option Tmp) (v : AV) : (putA T d v).length = T.length := by cases d <;> simp [putA]
theorem putA_ne {T : List AV} {d : Option Tmp} {v : AV} {t : Nat} (h : d ≠ some t) : (putA T d v)[t]? = T[t]? := by
  cases d with
  | none => rfl
  | some d => simp only [putA]; rw [List.getElem?_set_ne (fun e => h (by rw [e]))]

/-- What the checks tell of the text's order. -/
structure Tr (P : Program) (G : Nat → Option (List AV)) (env : Env) (hh : Hint) (id : Nat) (ops : Array Oper) (st : Nat → St) (v : Nat → R3) : Prop where
  op : ∀ i o, ops[i]? = some o → valA P G env hh id ops i o (st i).T (st i).H = some (v i)
  nx : ∀ i o, ops[i]? = some o → st (i + 1) = ⟨putA (st i).T o.dst (v i).1, (v i).2.1, (v i).2.2 ++ (st i).E⟩
  rd : ∀ i o, ops[i]? = some o → isEv hh id i o = false → (v i).2 = ((st i).H, [])
  lo : ∀ i o e oe, ops[i]? = some o → isEv hh id i o = false → ops[e]? = some oe → isEv hh id e oe = true → e < i → e ∉ (ancL ops ops.size).getD i [] →
    valA P G env hh id ops i o (st i).T (st e).H = some ((v i).1, (st e).H, [])
  hi : ∀ i o e oe, ops[i]? = some o → isEv hh id i o = false → ops[e]? = some oe → isEv hh id e oe = true → i < e → i ∉ (ancL ops ops.size).getD e [] →
    valA P G env hh id ops i o (st i).T (st (e + 1)).H = some ((v i).1, (st (e + 1)).H, [])

theorem noH_val {i : Nat} {o : Oper} {T : List AV} {H : List AObj} {r : R3} (H' : List AObj) (hn : noH o = true) (ha : actOf hh id i = 0) (h : valA P G env hh id ops i o T H = some r) :
    r.2 = (H, []) ∧ valA P G env hh id ops i o T H' = some (r.1, H', []) := by
  unfold valA aop' at h ⊢
  rw [ha] at h ⊢
  simp only [Nat.reduceEqDiff, if_false] at h ⊢
  cases hw : wantA ops T o with
  | none => rw [hw] at h; cases h
  | some b =>
    rw [hw] at h
    cases b with
    | true => exact noH_ok H' hn h
    | false =>
      simp only [Option.some.injEq] at h
      subst h
      exact ⟨rfl, rfl⟩

theorem drawQ_self {i : Nat} {o : Oper} (ho : ops[i]? = some o) (he : isEv hh id i o = false) (hn : noH o = false) : (i, i) ∈ drawQ hh id ops := by
  have hi := (Array.getElem?_eq_some_iff.1 ho).1
  unfold drawQ
  simp only [List.mem_flatMap, List.mem_range]
  exact ⟨i, hi, by simp [ho, he, hn]⟩
theorem mem_evL {e : Nat} {oe : Oper} (ho : ops[e]? = some oe) (he : isEv hh id e oe = true) : e ∈ evL hh id ops := by
  have hi := (Array.getElem?_eq_some_iff.1 ho).1
  unfold evL
  simp only [List.mem_filter, List.mem_range]
  exact ⟨hi, by simp [ho, he]⟩
theorem drawQ_lo {i e : Nat} {o oe : Oper} (ho : ops[i]? = some o) (hv : isEv hh id i o = false) (hn : noH o = false) (hoe : ops[e]? = some oe) (he : isEv hh id e oe = true) (hlt : e < i)
    (ha : e ∉ (ancL ops ops.size).getD i []) : (i, e) ∈ drawQ hh id ops := by
  have hi := (Array.getElem?_eq_some_iff.1 ho).1
  unfold drawQ
  simp only [List.mem_flatMap, List.mem_range]
  refine ⟨i, hi, ?_⟩
  simp only [ho, hv, hn, Bool.or_self, Bool.false_eq_true, if_false, List.mem_cons, List.mem_filterMap]
  refine .inr ⟨e, mem_evL hoe he, ?_⟩
  simp only [hlt, if_true]
  rw [if_neg (by simpa using ha)]
theorem drawQ_hi {i e : Nat} {o oe : Oper} (ho : ops[i]? = some o) (hv : isEv hh id i o = false) (hn : noH o = false) (hoe : ops[e]? = some oe) (he : isEv hh id e oe = true) (hlt : i < e)
    (ha : i ∉ (ancL ops ops.size).getD e []) : (i, e + 1) ∈ drawQ hh id ops := by
  have hi := (Array.getElem?_eq_some_iff.1 ho).1
  unfold drawQ
  simp only [List.mem_flatMap, List.mem_range]
  refine ⟨i, hi, ?_⟩
  simp only [ho, hv, hn, Bool.or_self, Bool.false_eq_true, if_false, List.mem_cons, List.mem_filterMap]
  refine .inr ⟨e, mem_evL hoe he, ?_⟩
  rw [if_neg (by omega), if_neg (by simpa using ha)]
theorem ev_act {i : Nat} {o : Oper} (h : isEv hh id i o = false) : actOf hh id i = 0 ∨ (actOf hh id i = 8 ∧ ∃ t, o.op = .alloc t) ∨ (actOf hh id i = 9 ∧ ((∃ t n ps, o.op = .buildSlice t n ps) ∨ ∃ c, o.op = .call c ∧ c.callee = .builtin .append)) ∨ ((actOf hh id i = 12 ∨ actOf hh id i = 13 ∨ actOf hh id i = 14) ∧ ∃ c f, o.op = .call c ∧ c.callee = .value f) := by
  unfold isEv at h
  simp only [Bool.or_eq_false_iff] at h
  have h2 := h.2
  split at h2
  · rename_i h0; exact .inl h0
  · rename_i h0
    split at h2
    · rename_i t ho; exact .inr (.inl ⟨h0, t, ho⟩)
    · cases h2
  · rename_i h0
    split at h2
    · rename_i t n ps ho; exact .inr (.inr (.inl ⟨h0, .inl ⟨t, n, ps, ho⟩⟩))
    · rename_i c ho
      split at h2
      · rename_i hc; exact .inr (.inr (.inl ⟨h0, .inr ⟨c, ho, hc⟩⟩))
      · cases h2
    · cases h2
  · rename_i h0
    split at h2
    · rename_i c ho
      split at h2
      · rename_i f hc; exact .inr (.inr (.inr ⟨.inl h0, c, f, ho, hc⟩))
      · cases h2
    · cases h2
  · rename_i h0
    split at h2
    · rename_i c ho
      split at h2
      · rename_i f hc; exact .inr (.inr (.inr ⟨.inr (.inl h0), c, f, ho, hc⟩))
      · cases h2
    · cases h2
  · rename_i h0
    split at h2
    · rename_i c ho
      split at h2
      · rename_i f hc; exact .inr (.inr (.inr ⟨.inr (.inr h0), c, f, ho, hc⟩))
      · cases h2
    · cases h2
  · cases h2
theorem ev_act0 {i : Nat} {o : Oper} (h : isEv hh id i o = false) (hn : noH o = true) : actOf hh id i = 0 := by
  rcases ev_act h with h | ⟨_, t, ho⟩ | ⟨_, ⟨t, n, ps, ho⟩ | ⟨c, ho, hc⟩⟩ | ⟨_, c, f, ho, hc⟩
  · exact h
  · simp [noH, ho] at hn
  · simp [noH, ho] at hn
  · simp [noH, ho, hc] at hn
  · simp [noH, ho, hc] at hn
theorem tr_ok {s s1 : St} (h : opsA P G env hh id ops ops.toList 0 s = some s1) (hd : ∀ p ∈ drawQ hh id ops, DrawAt P G env hh id ops s p) :
    ∃ st v, Tr P G env hh id ops st v ∧ st 0 = s ∧ st ops.size = s1 := by
  have hst := stA_some h
  let st : Nat → St := fun i => (hst i).choose
  have est : ∀ i, stA P G env hh id ops s i = some (st i) := fun i => (hst i).choose_spec
  have hop : ∀ i o, ops[i]? = some o → opA P G env hh id ops i o (st i) = some (st (i + 1)) := fun i o ho => by
    have := est (i + 1)
    rw [stA_succ ho, est i] at this
    exact this
  have hval : ∀ i, ∃ r : R3, ∀ o, ops[i]? = some o → valA P G env hh id ops i o (st i).T (st i).H = some r ∧ st (i + 1) = ⟨putA (st i).T o.dst r.1, r.2.1, r.2.2 ++ (st i).E⟩ := fun i => by
    cases ho : ops[i]? with
    | none => exact ⟨(.bad, [], []), fun o h => by cases h⟩
    | some o =>
      have h1 := hop i o ho
      rw [opA_val, Option.map_eq_some_iff] at h1
      obtain ⟨r, h1, h2⟩ := h1
      exact ⟨r, fun o' h' => by injection h' with h'; subst h'; exact ⟨h1, h2.symm⟩⟩
  let v : Nat → R3 := fun i => (hval i).choose
  have hv : ∀ i o, ops[i]? = some o → valA P G env hh id ops i o (st i).T (st i).H = some (v i) ∧ st (i + 1) = ⟨putA (st i).T o.dst (v i).1, (v i).2.1, (v i).2.2 ++ (st i).E⟩ := fun i o ho => (hval i).choose_spec o ho
  have hat : ∀ i j o, ops[i]? = some o → (i, j) ∈ drawQ hh id ops → (v i).2 = ((st i).H, []) ∧ valA P G env hh id ops i o (st i).T (st j).H = some ((v i).1, (st j).H, []) := fun i j o ho hm => by
    obtain ⟨o', si, sj, r, h1, h2, h3, h4, h5⟩ := hd _ hm
    simp only at h1 h2 h3 h4 h5
    rw [ho] at h1; injection h1 with h1; subst h1
    rw [est] at h2; injection h2 with h2; subst h2
    rw [est] at h3; injection h3 with h3; subst h3
    rw [(hv i o ho).1] at h4
    injection h4 with h4
    exact ⟨by rw [h4], by rw [h4]; exact h5⟩
  refine ⟨st, v, ⟨fun i o ho => (hv i o ho).1, fun i o ho => (hv i o ho).2, fun i o ho he => ?_, fun i o e oe ho he hoe hee hlt ha => ?_, fun i o e oe ho he hoe hee hlt ha => ?_⟩, ?_, ?_⟩
  · cases hn : noH o with
    | true => exact (noH_val (st i).H hn (ev_act0 he hn) (hv i o ho).1).1
    | false => exact (hat i i o ho (drawQ_self ho he hn)).1
  · cases hn : noH o with
    | true => exact (noH_val (st e).H hn (ev_act0 he hn) (hv i o ho).1).2
    | false => exact (hat i e o ho (drawQ_lo ho he hn hoe hee hlt ha)).2
  · cases hn : noH o with
    | true => exact (noH_val (st (e + 1)).H hn (ev_act0 he hn) (hv i o ho).1).2
    | false => exact (hat i (e + 1) o ho (drawQ_hi ho he hn hoe hee hlt ha)).2
  · have := est 0
    simp only [stA, List.take_zero, opsA, Option.some.injEq] at this
    exact this.symm
  · have := est ops.size
    unfold stA at this
    rw [List.take_of_length_le (by simp), h, Option.some.injEq] at this
    exact this.symm

section tr
variable {st : Nat → St} {v : Nat → R3}
theorem tr_len (ht : Tr P G env hh id ops st v) : ∀ i, i ≤ ops.size → (st i).T.length = (st 0).T.length
  | 0, _ => rfl
  | i + 1, hi => by
    have ho : ops[i]? = some ops[i] := Array.getElem?_eq_getElem (by omega)
    rw [ht.nx i _ ho, putA_length, tr_len ht i (by omega)]
theorem tr_T (ht : Tr P G env hh id ops st v) {t k : Nat} : ∀ (k' : Nat), k ≤ k' → k' ≤ ops.size → (∀ i o, k ≤ i → i < k' → ops[i]? = some o → o.dst ≠ some t) → (st k').T[t]? = (st k).T[t]?
  | 0, h, _, _ => by obtain rfl : k = 0 := by omega
                     rfl
  | k' + 1, h, hn, hw => by
    rcases Nat.lt_or_ge k (k' + 1) with hlt | hge
    · have ho : ops[k']? = some ops[k'] := Array.getElem?_eq_getElem (by omega)
      rw [ht.nx k' _ ho]
      simp only
      rw [putA_ne (hw k' _ (by omega) (by omega) ho)]
      exact tr_T ht k' (by omega) (by omega) fun i o h1 h2 h3 => hw i o h1 (by omega) h3
    · obtain rfl : k = k' + 1 := by omega
      rfl
theorem tr_H (ht : Tr P G env hh id ops st v) {k : Nat} : ∀ (k' : Nat), k ≤ k' → k' ≤ ops.size → (∀ i o, k ≤ i → i < k' → ops[i]? = some o → isEv hh id i o = false) → (st k').H = (st k).H ∧ (st k').E = (st k).E
  | 0, h, _, _ => by obtain rfl : k = 0 := by omega
                     exact ⟨rfl, rfl⟩
  | k' + 1, h, hn, hw => by
    rcases Nat.lt_or_ge k (k' + 1) with hlt | hge
    · have ho : ops[k']? = some ops[k'] := Array.getElem?_eq_getElem (by omega)
      have h2 := ht.rd k' _ ho (hw k' _ (by omega) (by omega) ho)
      obtain ⟨i1, i2⟩ := tr_H ht k' (by omega) (by omega) fun i o h1 h2 h3 => hw i o h1 (by omega) h3
      rw [ht.nx k' _ ho]
      simp only [h2, List.nil_append]
      exact ⟨i1, i2⟩
    · obtain rfl : k = k' + 1 := by omega
      exact ⟨rfl, rfl⟩
end tr
/-- Where a state stands that has done the operations D. -/
structure Inv (hh : Hint) (id : Nat) (ops : Array Oper) (st : Nat → St) (D : Nat → Prop) (s : St) : Prop where
  len : s.T.length = (st 0).T.length
  tm : ∀ t k, k ≤ ops.size → (∀ i o, ops[i]? = some o → o.dst = some t → (D i ↔ i < k)) → s.T[t]? = (st k).T[t]?
  hp : ∀ k, k ≤ ops.size → (∀ i o, ops[i]? = some o → isEv hh id i o = true → (D i ↔ i < k)) → s.H = (st k).H ∧ s.E = (st k).E

theorem drawS_spec (h : drawS hh id ops = true) :
    (∀ i, i < ops.size → ∀ j ∈ bnd ops i, j < i) ∧
    (∀ i j x y, i < j → ops[i]? = some x → ops[j]? = some y → i ∉ (ancL ops ops.size).getD j [] → x.apart ops y = true ∧ ¬ (isEv hh id i x = true ∧ isEv hh id j y = true)) := by
  unfold drawS at h
  simp only [List.all_eq_true, List.mem_range, Bool.and_eq_true, decide_eq_true_eq] at h
  refine ⟨fun i hi j hj => (h i hi).1 j hj, fun i j x y hij hx hy ha => ?_⟩
  have hj := (Array.getElem?_eq_some_iff.1 hy).1
  have := (h j hj).2 i hij
  simp only [hx, hy, Bool.or_eq_true, List.contains_eq_mem, decide_eq_true_eq, ha, false_or, Bool.and_eq_true, Bool.not_eq_true'] at this
  refine ⟨this.1, fun ⟨a, b⟩ => ?_⟩
  rw [a, b] at this
  simp at this

theorem least {p : Nat → Prop} (n : Nat) : (∃ k, k < n ∧ p k ∧ ∀ i, i < k → ¬ p i) ∨ ∀ i, i < n → ¬ p i := by
  induction n with
  | zero => exact .inr fun i hi => by omega
  | succ n ih =>
    rcases ih with ⟨k, h1, h2, h3⟩ | ih
    · exact .inl ⟨k, by omega, h2, h3⟩
    · by_cases hp : p n
      · exact .inl ⟨n, by omega, hp, ih⟩
      · exact .inr fun i hi => by
          rcases Nat.lt_or_ge i n with h | h
          · exact ih i h
          · obtain rfl : i = n := by omega
            exact hp
theorem greatest {p : Nat → Prop} (n : Nat) : (∃ k, k < n ∧ p k ∧ ∀ i, k < i → i < n → ¬ p i) ∨ ∀ i, i < n → ¬ p i := by
  induction n with
  | zero => exact .inr fun i hi => by omega
  | succ n ih =>
    by_cases hp : p n
    · exact .inl ⟨n, by omega, hp, fun i h1 h2 => by omega⟩
    · rcases ih with ⟨k, h1, h2, h3⟩ | ih
      · refine .inl ⟨k, by omega, h2, fun i h4 h5 => ?_⟩
        rcases Nat.lt_or_ge i n with h | h
        · exact h3 i h4 h
        · obtain rfl : i = n := by omega
          exact hp
      · exact .inr fun i hi => by
          rcases Nat.lt_or_ge i n with h | h
          · exact ih i h
          · obtain rfl : i = n := by omega
            exact hp

theorem inv_step {st : Nat → St} {v : Nat → R3} (ht : Tr P G env hh id ops st v) (hs : drawS hh id ops = true) {D : Nat → Prop} {s : St} (hI : Inv hh id ops st D s)
    (hc : ∀ i, i < ops.size → D i → ∀ j ∈ bnd ops i, D j) {i : Nat} {o : Oper} (ho : ops[i]? = some o) (hni : ¬ D i) (hb : ∀ j ∈ bnd ops i, D j) :
    ∃ s', opA P G env hh id ops i o s = some s' ∧ Inv hh id ops st (fun k => D k ∨ k = i) s' := by
  obtain ⟨hlt, hcmp⟩ := drawS_spec hs
  have hin : i < ops.size := (Array.getElem?_eq_some_iff.1 ho).1
  have hanc : ∀ j, j < ops.size → D j → ∀ x ∈ (ancL ops ops.size).getD j [], D x := fun j hj hD => closed_anc hc hlt j hj (hc j hj hD)
  have hai : ∀ x ∈ (ancL ops ops.size).getD i [], D x := closed_anc hc hlt i hin hb
  -- of two that are bound, none is done before its elder
  have before : ∀ j oj, ops[j]? = some oj → j < i → j ∈ (ancL ops ops.size).getD i [] → D j := fun j oj hj hji hm => hai j hm
  have behind : ∀ j oj, ops[j]? = some oj → i < j → i ∈ (ancL ops ops.size).getD j [] → ¬ D j := fun j oj hj hij hm hD => hni (hanc j (Array.getElem?_eq_some_iff.1 hj).1 hD i hm)
  -- the operands
  have hT : ∀ t ∈ o.looksAt ops, s.T[t]? = (st i).T[t]? := fun t htl => by
    refine hI.tm t i (by omega) fun j oj hj hd => ?_
    rcases Nat.lt_trichotomy j i with hji | rfl | hij
    · refine ⟨fun _ => hji, fun _ => ?_⟩
      by_cases hm : j ∈ (ancL ops ops.size).getD i []
      · exact before j oj hj hji hm
      · exact absurd htl ((Oper.apart_spec (hcmp j i oj o hji hj ho hm).1).1 t hd)
    · exact ⟨fun h => absurd h hni, fun h => absurd h (by omega)⟩
    · refine ⟨fun h => ?_, fun h => by omega⟩
      by_cases hm : i ∈ (ancL ops ops.size).getD j []
      · exact absurd h (behind j oj hj hij hm)
      · exact absurd htl ((Oper.apart_spec (hcmp i j o oj hij ho hj hm).1).2.2 t hd)
  -- the temporaries behind it
  have hTn : ∀ (T' : List AV), T' = putA s.T o.dst (v i).1 → ∀ t k, k ≤ ops.size → (∀ j oj, ops[j]? = some oj → oj.dst = some t → ((D j ∨ j = i) ↔ j < k)) → T'[t]? = (st k).T[t]? := fun T' hT' t k hk hw => by
    subst hT'
    by_cases hd : o.dst = some t
    · have hik : i < k := (hw i o ho hd).1 (.inr rfl)
      have e1 : (st k).T[t]? = (st (i + 1)).T[t]? := by
        refine tr_T ht k (by omega) hk fun j oj h1 h2 hj hdj => ?_
        rcases (hw j oj hj hdj).2 h2 with hD | rfl
        · by_cases hm : i ∈ (ancL ops ops.size).getD j []
          · exact behind j oj hj (by omega) hm hD
          · exact absurd hdj ((Oper.apart_spec (hcmp i j o oj (by omega) ho hj hm).1).2.1 t hd)
        · omega
      rw [e1, ht.nx i o ho]
      simp only [hd, putA]
      by_cases htl : t < s.T.length
      · rw [List.getElem?_set_self htl, List.getElem?_set_self (by rw [tr_len ht i (by omega), ← hI.len]; exact htl)]
      · have l1 := tr_len ht i (by omega)
        have l2 := hI.len
        have htl' : s.T.length ≤ t := Nat.le_of_not_lt htl
        have a1 : (s.T.set t (v i).1).length ≤ t := by rw [List.length_set]; omega
        have a2 : ((st i).T.set t (v i).1).length ≤ t := by rw [List.length_set]; omega
        rw [List.getElem?_eq_none a1, List.getElem?_eq_none a2]
    · rw [putA_ne hd]
      refine hI.tm t k hk fun j oj hj hdj => ?_
      rw [← hw j oj hj hdj]
      exact ⟨.inl, fun h => h.elim (fun x => x) fun e => by subst e; rw [ho] at hj; injection hj with hj; subst hj; exact absurd hdj hd⟩
  cases hev : isEv hh id i o with
  | true =>
    obtain ⟨eH, eE⟩ := hI.hp i (by omega) fun j oj hj he => by
      rcases Nat.lt_trichotomy j i with hji | rfl | hij
      · refine ⟨fun _ => hji, fun _ => ?_⟩
        by_cases hm : j ∈ (ancL ops ops.size).getD i []
        · exact before j oj hj hji hm
        · exact absurd ⟨he, hev⟩ (hcmp j i oj o hji hj ho hm).2
      · exact ⟨fun h => absurd h hni, fun h => absurd h (by omega)⟩
      · refine ⟨fun h => ?_, fun h => by omega⟩
        by_cases hm : i ∈ (ancL ops ops.size).getD j []
        · exact absurd h (behind j oj hj hij hm)
        · exact absurd ⟨hev, he⟩ (hcmp i j o oj hij ho hj hm).2
    refine ⟨⟨putA s.T o.dst (v i).1, (v i).2.1, (v i).2.2 ++ s.E⟩, ?_, ⟨by rw [putA_length]; exact hI.len, hTn _ rfl, fun k hk hw => ?_⟩⟩
    · rw [opA_val, valA_congr (ops := ops) hT, eH, ht.op i o ho]; rfl
    · have hik : i < k := (hw i o ho hev).1 (.inr rfl)
      have e := tr_H ht (k := i + 1) k (by omega) hk fun j oj h1 h2 hj => by
        cases he : isEv hh id j oj with
        | false => rfl
        | true =>
          exfalso
          rcases (hw j oj hj he).2 h2 with hD | rfl
          · by_cases hm : i ∈ (ancL ops ops.size).getD j []
            · exact behind j oj hj (by omega) hm hD
            · exact absurd ⟨hev, he⟩ (hcmp i j o oj (by omega) ho hj hm).2
          · omega
      rw [e.1, e.2, ht.nx i o ho, ← eE]
      exact ⟨rfl, rfl⟩
  | false =>
    -- how many of those that change the heap are done
    have hk : ∃ k, k ≤ ops.size ∧ (∀ j oj, ops[j]? = some oj → isEv hh id j oj = true → (D j ↔ j < k)) := by
      rcases least (p := fun j => ∃ oj, ops[j]? = some oj ∧ isEv hh id j oj = true ∧ ¬ D j) ops.size with ⟨k, h1, ⟨ok, h2, h3, h4⟩, h5⟩ | h
      · refine ⟨k, by omega, fun j oj hj he => ⟨fun hD => ?_, fun hjk => ?_⟩⟩
        · rcases Nat.lt_trichotomy j k with h | rfl | h
          · exact h
          · exact absurd hD h4
          · by_cases hm : k ∈ (ancL ops ops.size).getD j []
            · exact absurd (hanc j (Array.getElem?_eq_some_iff.1 hj).1 hD k hm) h4
            · exact absurd ⟨h3, he⟩ (hcmp k j ok oj h h2 hj hm).2
        · exact Classical.byContradiction fun hD => h5 j hjk ⟨oj, hj, he, hD⟩
      · refine ⟨ops.size, by omega, fun j oj hj he => ⟨fun _ => (Array.getElem?_eq_some_iff.1 hj).1, fun hjn => ?_⟩⟩
        exact Classical.byContradiction fun hD => h j hjn ⟨oj, hj, he, hD⟩
    obtain ⟨k, hkn, hkD⟩ := hk
    obtain ⟨eH, eE⟩ := hI.hp k hkn hkD
    have hv : valA P G env hh id ops i o (st i).T s.H = some ((v i).1, s.H, []) := by
      have hself : valA P G env hh id ops i o (st i).T (st i).H = some ((v i).1, (st i).H, []) := by
        rw [ht.op i o ho]
        have := ht.rd i o ho hev
        rw [← this]
      rcases Nat.lt_or_ge i k with hik | hki
      · -- some are done that stand behind it
        rcases greatest (p := fun j => i < j ∧ ∃ oj, ops[j]? = some oj ∧ isEv hh id j oj = true) k with ⟨e, h1, ⟨h2, oe, h3, h4⟩, h5⟩ | h
        · have hD : D e := (hkD e oe h3 h4).2 h1
          have hm : i ∉ (ancL ops ops.size).getD e [] := fun hm => behind e oe h3 h2 hm hD
          have := ht.hi i o e oe ho hev h3 h4 h2 hm
          have e1 := (tr_H ht (k := e + 1) k (by omega) hkn fun j oj g1 g2 hj => by
            cases he : isEv hh id j oj with
            | false => rfl
            | true => exact absurd ⟨by omega, oj, hj, he⟩ (h5 j (by omega) g2)).1
          rw [eH, e1]; exact this
        · have e1 := (tr_H ht (k := i) k (by omega) hkn fun j oj g1 g2 hj => by
            cases he : isEv hh id j oj with
            | false => rfl
            | true =>
              rcases Nat.lt_or_ge i j with hij | hij
              · exact absurd ⟨hij, oj, hj, he⟩ (h j g2)
              · obtain rfl : j = i := by omega
                rw [ho] at hj; injection hj with hj; subst hj; rw [hev] at he; cases he).1
          rw [eH, e1]; exact hself
      · rcases least (p := fun j => k ≤ j ∧ ∃ oj, ops[j]? = some oj ∧ isEv hh id j oj = true) i with ⟨e, h1, ⟨h2, oe, h3, h4⟩, h5⟩ | h
        · have hD : ¬ D e := fun hD => by have := (hkD e oe h3 h4).1 hD; omega
          have hm : e ∉ (ancL ops ops.size).getD i [] := fun hm => hD (hai e hm)
          have := ht.lo i o e oe ho hev h3 h4 h1 hm
          have e1 := (tr_H ht (k := k) e h2 (by omega) fun j oj g1 g2 hj => by
            cases he : isEv hh id j oj with
            | false => rfl
            | true => exact absurd ⟨g1, oj, hj, he⟩ (h5 j g2)).1
          rw [eH, ← e1]; exact this
        · have e1 := (tr_H ht (k := k) i hki (by omega) fun j oj g1 g2 hj => by
            cases he : isEv hh id j oj with
            | false => rfl
            | true => exact absurd ⟨g1, oj, hj, he⟩ (h j g2)).1
          rw [eH, ← e1]; exact hself
    refine ⟨⟨putA s.T o.dst (v i).1, s.H, s.E⟩, ?_, ⟨by rw [putA_length]; exact hI.len, hTn _ rfl, fun k' hk' hw => ?_⟩⟩
    · rw [opA_val, valA_congr (ops := ops) hT, hv]; rfl
    · refine hI.hp k' hk' fun j oj hj he => ?_
      rw [← hw j oj hj he]
      exact ⟨.inl, fun h => h.elim (fun x => x) fun e => by subst e; rw [ho] at hj; injection hj with hj; subst hj; rw [hev] at he; cases he⟩

def dn (listed : Array Bool) (i : Nat) : Prop := listed.getD i false = true
theorem dn_set {listed : Array Bool} {i : Nat} (hi : i < listed.size) (k : Nat) : dn (listed.setIfInBounds i true) k ↔ dn listed k ∨ k = i := by
  unfold dn
  by_cases h : k = i
  · subst h; simp [hi]
  · simp [Array.getElem?_setIfInBounds_ne (Ne.symm h), h]
theorem mem_bnd {i j : Nat} {o : Oper} (ho : ops[i]? = some o) : j ∈ bnd ops i ↔ ∃ e ∈ o.after, Region.binds .any e = true ∧ e.on = j := by
  unfold bnd
  rw [ho]
  simp only [List.mem_map, List.mem_filter, Array.mem_toList_iff]
  exact ⟨fun ⟨e, ⟨h1, h2⟩, h3⟩ => ⟨e, h1, h2, h3⟩, fun ⟨e, h1, h2, h3⟩ => ⟨e, ⟨h1, h2⟩, h3⟩⟩
theorem Inv.congr {st : Nat → St} {D D' : Nat → Prop} {s : St} (h : Inv hh id ops st D s) (e : ∀ k, D' k ↔ D k) : Inv hh id ops st D' s :=
  ⟨h.len, fun t k hk hw => h.tm t k hk fun i o ho hd => (e i).symm.trans (hw i o ho hd), fun k hk hw => h.hp k hk fun i o ho hd => (e i).symm.trans (hw i o ho hd)⟩

/-- how many are not done -/
def left (listed : Array Bool) : Nat := listed.toList.countP (· == false)
theorem left_set {listed : Array Bool} {i : Nat} (hi : i < listed.size) (h : ¬ dn listed i) : left (listed.setIfInBounds i true) + 1 = left listed := by
  have hf : listed[i] = false := by
    unfold dn at h
    simp only [Array.getD_eq_getD_getElem?, Array.getElem?_eq_getElem hi, Option.getD_some, Bool.not_eq_true] at h
    exact h
  unfold left
  rw [Array.toList_setIfInBounds]
  have hi' : i < listed.toList.length := by simpa using hi
  rw [List.countP_set hi']
  have hg : listed.toList[i] = false := by simpa using hf
  have hpos : 0 < listed.toList.countP (· == false) := List.countP_pos_iff.2 ⟨listed.toList[i], List.getElem_mem hi', by rw [hg]; rfl⟩
  rw [hg]
  have e1 : ((false == false) = true) := rfl
  have e2 : ¬ ((true == false) = true) := by decide
  rw [if_pos e1, if_neg e2]
  omega
theorem left_zero {listed : Array Bool} (h : left listed = 0) {i : Nat} (hi : i < listed.size) : dn listed i := by
  unfold left at h
  rw [List.countP_eq_zero] at h
  have hi' : i < listed.toList.length := by simpa using hi
  have := h _ (List.getElem_mem hi')
  unfold dn
  simp only [Array.getElem_toList, beq_iff_eq, Bool.not_eq_false] at this
  simp [hi, this]

theorem any_ok (henv : EnvOk P G env) {st : Nat → St} {v : Nat → R3} (ht : Tr P G env hh id ops st v) (hs : drawS hh id ops = true) {Q : Exit → Act → World → Prop} :
    ∀ (fuel : Nat) (listed : Array Bool) (X : Cx) (a : Act) (s : St), listed.size = ops.size → left listed ≤ fuel → X.H = s.H → Rel G X → Ms X s.T a.tmps.toList → Inv hh id ops st (dn listed) s →
    (∀ i, i < ops.size → dn listed i → ∀ j ∈ bnd ops i, dn listed j) →
    (∀ X1 a1 N, X1.H = (st ops.size).H → Rel G X1 → Ext X X1 → (st ops.size).E = N ++ s.E → EscI X.H X1.H N → Ms X1 (st ops.size).T a1.tmps.toList → a1.defers = a.defers → Q .normal a1 X1.w) →
    wpAny P .any ops Q fuel listed a X.w := by
  intro fuel
  have hall : ∀ (listed : Array Bool) (X : Cx) (a : Act) (s : St), listed.size = ops.size → X.H = s.H → Rel G X → Ms X s.T a.tmps.toList → Inv hh id ops st (dn listed) s → (∀ i, i < ops.size → dn listed i) →
      (∀ X1 a1 N, X1.H = (st ops.size).H → Rel G X1 → Ext X X1 → (st ops.size).E = N ++ s.E → EscI X.H X1.H N → Ms X1 (st ops.size).T a1.tmps.toList → a1.defers = a.defers → Q .normal a1 X1.w) →
      Q .normal a X.w := fun listed X a s hsz hH hR hF hI hd hQ => by
    obtain ⟨e1, e2⟩ := hI.hp ops.size (Nat.le_refl _) fun i o ho _ => by
      have := (Array.getElem?_eq_some_iff.1 ho).1
      exact ⟨fun _ => this, fun _ => hd i this⟩
    have e3 : s.T = (st ops.size).T := by
      apply List.ext_getElem?
      intro t
      exact hI.tm t ops.size (Nat.le_refl _) fun i o ho _ => by
        have := (Array.getElem?_eq_some_iff.1 ho).1
        exact ⟨fun _ => this, fun _ => hd i this⟩
    exact hQ X a [] (hH.trans e1) hR (Ext.refl X) (by rw [e2]; rfl) (EscI.refl _) (by rw [← e3]; exact hF) rfl
  have hready : ∀ (listed : Array Bool), listed.size = ops.size → Region.ready .any ops listed = [] → ∀ i, i < ops.size → dn listed i := fun listed hsz hr => by
    obtain ⟨hlt, _⟩ := drawS_spec hs
    intro i
    induction i using Nat.strongRecOn with
    | _ i ih =>
      intro hi
      exact Classical.byContradiction fun hn => by
        have ho : ops[i]? = some ops[i] := Array.getElem?_eq_getElem hi
        have : i ∈ Region.ready .any ops listed := mem_ready.2 ⟨by
          unfold dn at hn
          simp only [Array.getD_eq_getD_getElem?, Array.getElem?_eq_getElem (show i < listed.size by omega), Option.getD_some, Bool.not_eq_true] at hn ⊢
          exact hn, _, ho, fun e he hb => by
            have hj : e.on ∈ bnd ops i := (mem_bnd ho).2 ⟨e, he, hb, rfl⟩
            have hji := hlt i hi _ hj
            exact ih _ hji (by omega)⟩
        rw [hr] at this
        cases this
  induction fuel with
  | zero =>
    intro listed X a s hsz hl hH hR hF hI hc hQ
    have hd : ∀ i, i < ops.size → dn listed i := fun i hi => left_zero (by omega) (by omega)
    refine ⟨?_, hall listed X a s hsz hH hR hF hI hd hQ⟩
    cases hr : Region.ready .any ops listed with
    | nil => rfl
    | cons i is =>
      exfalso
      have hm : i ∈ Region.ready .any ops listed := by rw [hr]; simp
      obtain ⟨h1, o, ho, _⟩ := mem_ready.1 hm
      have hi := (Array.getElem?_eq_some_iff.1 ho).1
      have := hd i hi
      unfold dn at this
      simp only [Array.getD_eq_getD_getElem?, Array.getElem?_eq_getElem (show i < listed.size by omega), Option.getD_some] at this h1
      rw [this] at h1; cases h1
  | succ fuel ih =>
    intro listed X a s hsz hl hH hR hF hI hc hQ
    refine ⟨fun hr => hall listed X a s hsz hH hR hF hI (hready listed hsz hr) hQ, fun i hi => ?_⟩
    obtain ⟨h1, o, ho, h2⟩ := mem_ready.1 hi
    have hin := (Array.getElem?_eq_some_iff.1 ho).1
    have hni : ¬ dn listed i := fun h => by
      unfold dn at h
      simp only [Array.getD_eq_getD_getElem?, Array.getElem?_eq_getElem (show i < listed.size by omega), Option.getD_some] at h h1
      rw [h] at h1; cases h1
    obtain ⟨s', g1, g2⟩ := inv_step ht hs hI hc ho hni (fun j hj => by
      obtain ⟨e, he, hb, rfl⟩ := (mem_bnd ho).1 hj
      exact h2 e he hb)
    have hls := left_set (show i < listed.size by omega) hni
    refine step_ok henv ho hH hR hF g1 fun X1 a1 N e1 e2 e3 e4 e5 e6 e7 => ?_
    refine ih _ X1 a1 s' (by simp [hsz]) (by omega) e1 e2 e6 (g2.congr fun k => dn_set (by omega) k) (fun k hk hd j hj => ?_) fun X2 a2 N2 f1 f2 f3 f4 f5 f6 f7 => ?_
    · rw [dn_set (by omega)] at hd ⊢
      rcases hd with hd | rfl
      · exact .inl (hc k hk hd j hj)
      · obtain ⟨e, he, hb, rfl⟩ := (mem_bnd ho).1 hj
        exact .inl (h2 e he hb)
    · exact hQ X2 a2 (N2 ++ N) f1 f2 (e3.trans f3) (by rw [f4, e4, List.append_assoc]) (e5.trans f5) f6 (f7.trans e7)

theorem draw_ok1 {X : Cx} {a : Act} (henv : EnvOk P G env) {Q : Exit → Act → World → Prop} {s s1 : St} (hH : X.H = s.H) (hR : Rel G X) (hF : Ms X s.T a.tmps.toList) (h : opsA P G env hh id ops ops.toList 0 s = some s1) (hd : DrawOk1 P G env hh id ops s)
    (hQ : ∀ X1 a1 N, X1.H = s1.H → Rel G X1 → Ext X X1 → s1.E = N ++ s.E → EscI X.H X1.H N → Ms X1 s1.T a1.tmps.toList → a1.defers = a.defers → Q .normal a1 X1.w) : (Code.region id ops true).wp P Q a X.w := by
  obtain ⟨hm, hs, hp⟩ := hd
  obtain ⟨st, v, ht, rfl, rfl⟩ := tr_ok h hp
  refine wp_region_any hm ?_
  obtain ⟨k1, k2, k3⟩ := world_ok hR (w' := { X.w with drawn := X.w.drawn + 1 }) rfl rfl rfl rfl
  have hno : ∀ i, ¬ dn (Array.replicate ops.size false) i := fun i h => by
    unfold dn at h
    simp only [Array.getD_eq_getD_getElem?, Array.getElem?_replicate] at h
    split at h <;> simp at h
  refine any_ok henv ht hs ops.size (Array.replicate ops.size false) ⟨X.F, X.ι, X.H, _⟩ a (st 0) (by simp) ?_ hH k1 (Ms_mono k2 _ _ hF) ⟨rfl, fun t k hk hw => ?_, fun k hk hw => ?_⟩ (fun i hi h => absurd h (hno i)) fun X1 a1 N f1 f2 f3 f4 f5 f6 f7 => ?_
  · unfold left
    rw [Array.toList_replicate]
    exact Nat.le_trans List.countP_le_length (by simp)
  · refine (tr_T ht k (by omega) hk fun i o h1 h2 h3 h4 => ?_).symm
    exact hno i ((hw i o h3 h4).2 h2)
  · have := tr_H ht (k := 0) k (by omega) hk fun i o h1 h2 h3 => by
      cases he : isEv hh id i o with
      | false => rfl
      | true => exact absurd ((hw i o h3 he).2 h2) (hno i)
    exact ⟨this.1.symm, this.2.symm⟩
  · exact hQ X1 a1 N f1 f2 (k2.trans f3) f4 f5 f6 f7

structure Sw (P : Program) (G : Nat → Option (List AV)) (env : Env) (hh : Hint) (id : Nat) (ops : Array Oper) (st : Nat → St) (v : Nat → R3) (p q : Nat) (Hm : List AObj) : Prop where
  lt : p < q
  qn : q < ops.size
  ep : ∀ o, ops[p]? = some o → isEv hh id p o = true
  eq : ∀ o, ops[q]? = some o → isEv hh id q o = true
  btw : ∀ i o, p < i → i < q → ops[i]? = some o → isEv hh id i o = false
  vq : ∀ o, ops[q]? = some o → valA P G env hh id ops q o (st q).T (st p).H = some ((v q).1, Hm, (v q).2.2)
  vp : ∀ o, ops[p]? = some o → valA P G env hh id ops p o (st p).T Hm = some ((v p).1, (st (q + 1)).H, (v p).2.2)
  es : (v p).2.2 ++ (v q).2.2 = (v q).2.2 ++ (v p).2.2
  rd : ∀ i o, ops[i]? = some o → isEv hh id i o = false → p ∉ (ancL ops ops.size).getD i [] → i ∉ (ancL ops ops.size).getD q [] → valA P G env hh id ops i o (st i).T Hm = some ((v i).1, Hm, [])
structure Inv2 (hh : Hint) (id : Nat) (ops : Array Oper) (st : Nat → St) (v : Nat → R3) (p q : Nat) (Hm : List AObj) (D : Nat → Prop) (s : St) : Prop where
  len : s.T.length = (st 0).T.length
  tm : ∀ t k, k ≤ ops.size → (∀ i o, ops[i]? = some o → o.dst = some t → (D i ↔ i < k)) → s.T[t]? = (st k).T[t]?
  hp : ∀ k, k ≤ ops.size → (∀ i o, ops[i]? = some o → isEv hh id i o = true → (D i ↔ i < k)) → s.H = (st k).H ∧ s.E = (st k).E
  hx : (∀ i o, ops[i]? = some o → isEv hh id i o = true → (D i ↔ (i < p ∨ i = q))) → s.H = Hm ∧ s.E = (v q).2.2 ++ (st p).E
theorem Inv2.congr {st : Nat → St} {v : Nat → R3} {p q : Nat} {Hm : List AObj} {D D' : Nat → Prop} {s : St} (h : Inv2 hh id ops st v p q Hm D s) (e : ∀ k, D' k ↔ D k) : Inv2 hh id ops st v p q Hm D' s :=
  ⟨h.len, fun t k hk hw => h.tm t k hk fun i o ho hd => (e i).symm.trans (hw i o ho hd), fun k hk hw => h.hp k hk fun i o ho hd => (e i).symm.trans (hw i o ho hd), fun hw => h.hx fun i o ho hd => (e i).symm.trans (hw i o ho hd)⟩
theorem drawS2_spec {p q : Nat} (h : drawS2 hh id ops p q = true) :
    p < q ∧ q < ops.size ∧ (∀ o, ops[p]? = some o → isEv hh id p o = true) ∧ (∀ o, ops[q]? = some o → isEv hh id q o = true) ∧ (∀ i o, p < i → i < q → ops[i]? = some o → isEv hh id i o = false) ∧
    (∀ i, i < ops.size → ∀ j ∈ bnd ops i, j < i) ∧
    (∀ i j x y, i < j → ops[i]? = some x → ops[j]? = some y → i ∉ (ancL ops ops.size).getD j [] → x.apart ops y = true ∧ ((isEv hh id i x = true ∧ isEv hh id j y = true) → i = p ∧ j = q)) := by
  unfold drawS2 at h
  simp only [Bool.and_eq_true, decide_eq_true_eq] at h
  obtain ⟨⟨⟨⟨h1, h2⟩, h3⟩, h4⟩, h5⟩ := h
  have hop : ops[p]? = some ops[p] := Array.getElem?_eq_getElem (by omega)
  have hoq : ops[q]? = some ops[q] := Array.getElem?_eq_getElem h2
  rw [hop, hoq] at h3
  simp only [Bool.and_eq_true] at h3
  simp only [List.all_eq_true, List.mem_range, Bool.and_eq_true, decide_eq_true_eq, Bool.or_eq_true] at h4 h5
  refine ⟨h1, h2, fun o ho => ?_, fun o ho => ?_, fun i o hpi hiq ho => ?_, fun i hi j hj => (h5 i hi).1 j hj, fun i j x y hij hx hy ha => ?_⟩
  · rw [hop] at ho; injection ho with ho; subst ho; exact h3.1
  · rw [hoq] at ho; injection ho with ho; subst ho; exact h3.2
  · have := h4 i (Array.getElem?_eq_some_iff.1 ho).1
    rw [ho] at this
    simp only [Bool.not_eq_true'] at this
    rcases this with (a | a) | a
    · omega
    · omega
    · exact a
  · have hj := (Array.getElem?_eq_some_iff.1 hy).1
    have := (h5 j hj).2 i hij
    simp only [hx, hy, List.contains_eq_mem, decide_eq_true_eq, ha, false_or, Bool.and_eq_true, Bool.not_eq_true', Bool.or_eq_true, beq_iff_eq] at this
    refine ⟨this.1, fun ⟨a, b⟩ => ?_⟩
    rw [a, b] at this
    simpa using this.2
theorem inv2_step {st : Nat → St} {v : Nat → R3} (ht : Tr P G env hh id ops st v) {p q : Nat} {Hm : List AObj} (hs : drawS2 hh id ops p q = true) (hsw : Sw P G env hh id ops st v p q Hm) {D : Nat → Prop} {s : St} (hI : Inv2 hh id ops st v p q Hm D s)
    (hc : ∀ i, i < ops.size → D i → ∀ j ∈ bnd ops i, D j) {i : Nat} {o : Oper} (ho : ops[i]? = some o) (hni : ¬ D i) (hb : ∀ j ∈ bnd ops i, D j) :
    ∃ s', opA P G env hh id ops i o s = some s' ∧ Inv2 hh id ops st v p q Hm (fun k => D k ∨ k = i) s' := by
  obtain ⟨hpq, hqn, hep, heq, hbtw, hlt, hcmp⟩ := drawS2_spec hs
  have hin : i < ops.size := (Array.getElem?_eq_some_iff.1 ho).1
  have hop : ops[p]? = some ops[p] := Array.getElem?_eq_getElem (by omega)
  have hoq : ops[q]? = some ops[q] := Array.getElem?_eq_getElem hqn
  have evp := hep _ hop
  have evq := heq _ hoq
  have hanc : ∀ j, j < ops.size → D j → ∀ x ∈ (ancL ops ops.size).getD j [], D x := fun j hj hD => closed_anc hc hlt j hj (hc j hj hD)
  have hai : ∀ x ∈ (ancL ops ops.size).getD i [], D x := closed_anc hc hlt i hin hb
  have before : ∀ j oj, ops[j]? = some oj → j < i → j ∈ (ancL ops ops.size).getD i [] → D j := fun j oj hj hji hm => hai j hm
  have behind : ∀ j oj, ops[j]? = some oj → i < j → i ∈ (ancL ops ops.size).getD j [] → ¬ D j := fun j oj hj hij hm hD => hni (hanc j (Array.getElem?_eq_some_iff.1 hj).1 hD i hm)
  -- events that stand in order
  have evord : ∀ j k oj ok, ops[j]? = some oj → ops[k]? = some ok → isEv hh id j oj = true → isEv hh id k ok = true → j < k → ¬ (j = p ∧ k = q) → D k → D j := fun j k oj ok hj hk ej ek hjk hne hD => by
    by_cases hm : j ∈ (ancL ops ops.size).getD k []
    · exact hanc k (Array.getElem?_eq_some_iff.1 hk).1 hD j hm
    · exact absurd ((hcmp j k oj ok hjk hj hk hm).2 ⟨ej, ek⟩) hne
  have evlo : ∀ j oj, ops[j]? = some oj → isEv hh id j oj = true → isEv hh id i o = true → j < i → ¬ (j = p ∧ i = q) → D j := fun j oj hj ej ei hji hne => by
    by_cases hm : j ∈ (ancL ops ops.size).getD i []
    · exact hai j hm
    · exact absurd ((hcmp j i oj o hji hj ho hm).2 ⟨ej, ei⟩) hne
  have evhi : ∀ j oj, ops[j]? = some oj → isEv hh id j oj = true → isEv hh id i o = true → i < j → ¬ (i = p ∧ j = q) → ¬ D j := fun j oj hj ej ei hij hne hD =>
    hni (evord i j o oj ho hj ei ej hij hne hD)
  -- the operands
  have hT : ∀ t ∈ o.looksAt ops, s.T[t]? = (st i).T[t]? := fun t htl => by
    refine hI.tm t i (by omega) fun j oj hj hd => ?_
    rcases Nat.lt_trichotomy j i with hji | rfl | hij
    · refine ⟨fun _ => hji, fun _ => ?_⟩
      by_cases hm : j ∈ (ancL ops ops.size).getD i []
      · exact before j oj hj hji hm
      · exact absurd htl ((Oper.apart_spec (hcmp j i oj o hji hj ho hm).1).1 t hd)
    · exact ⟨fun h => absurd h hni, fun h => absurd h (by omega)⟩
    · refine ⟨fun h => ?_, fun h => by omega⟩
      by_cases hm : i ∈ (ancL ops ops.size).getD j []
      · exact absurd h (behind j oj hj hij hm)
      · exact absurd htl ((Oper.apart_spec (hcmp i j o oj hij ho hj hm).1).2.2 t hd)
  -- the temporaries behind it
  have hTn : ∀ (T' : List AV), T' = putA s.T o.dst (v i).1 → ∀ t k, k ≤ ops.size → (∀ j oj, ops[j]? = some oj → oj.dst = some t → ((D j ∨ j = i) ↔ j < k)) → T'[t]? = (st k).T[t]? := fun T' hT' t k hk hw => by
    subst hT'
    by_cases hd : o.dst = some t
    · have hik : i < k := (hw i o ho hd).1 (.inr rfl)
      have e1 : (st k).T[t]? = (st (i + 1)).T[t]? := by
        refine tr_T ht k (by omega) hk fun j oj h1 h2 hj hdj => ?_
        rcases (hw j oj hj hdj).2 h2 with hD | rfl
        · by_cases hm : i ∈ (ancL ops ops.size).getD j []
          · exact behind j oj hj (by omega) hm hD
          · exact absurd hdj ((Oper.apart_spec (hcmp i j o oj (by omega) ho hj hm).1).2.1 t hd)
        · omega
      rw [e1, ht.nx i o ho]
      simp only [hd, putA]
      by_cases htl : t < s.T.length
      · rw [List.getElem?_set_self htl, List.getElem?_set_self (by rw [tr_len ht i (by omega), ← hI.len]; exact htl)]
      · have l1 := tr_len ht i (by omega)
        have l2 := hI.len
        have htl' : s.T.length ≤ t := Nat.le_of_not_lt htl
        have a1 : (s.T.set t (v i).1).length ≤ t := by rw [List.length_set]; omega
        have a2 : ((st i).T.set t (v i).1).length ≤ t := by rw [List.length_set]; omega
        rw [List.getElem?_eq_none a1, List.getElem?_eq_none a2]
    · rw [putA_ne hd]
      refine hI.tm t k hk fun j oj hj hdj => ?_
      rw [← hw j oj hj hdj]
      exact ⟨.inl, fun h => h.elim (fun x => x) fun e => by subst e; rw [ho] at hj; injection hj with hj; subst hj; exact absurd hdj hd⟩
  -- an event in the text's order
  have std : isEv hh id i o = true → (∀ j oj, ops[j]? = some oj → isEv hh id j oj = true → (D j ↔ j < i)) →
      ∃ s', opA P G env hh id ops i o s = some s' ∧ Inv2 hh id ops st v p q Hm (fun k => D k ∨ k = i) s' := fun hev hDi => by
    obtain ⟨eH, eE⟩ := hI.hp i (by omega) hDi
    refine ⟨⟨putA s.T o.dst (v i).1, (v i).2.1, (v i).2.2 ++ s.E⟩, ?_, ⟨by rw [putA_length]; exact hI.len, hTn _ rfl, fun k hk hw => ?_, fun hw => ?_⟩⟩
    · rw [opA_val, valA_congr (ops := ops) hT, eH, ht.op i o ho]; rfl
    · have hik : i < k := (hw i o ho hev).1 (.inr rfl)
      have e := tr_H ht (k := i + 1) k (by omega) hk fun j oj h1 h2 hj => by
        cases he : isEv hh id j oj with
        | false => rfl
        | true =>
          exfalso
          rcases (hw j oj hj he).2 h2 with hD | rfl
          · have := (hDi j oj hj he).1 hD; omega
          · omega
      rw [e.1, e.2, ht.nx i o ho, ← eE]
      exact ⟨rfl, rfl⟩
    · -- what is done would be all ahead of p, and q
      exfalso
      have hq := (hw q _ hoq evq).2 (.inr rfl)
      have hp' : ¬ (D p ∨ p = i) := fun h => by have := (hw p _ hop evp).1 h; omega
      have hi' := (hw i o ho hev).1 (.inr rfl)
      rcases hq with hq | hq
      · have := (hDi q _ hoq evq).1 hq
        exact hp' (.inl ((hDi p _ hop evp).2 (by omega)))
      · subst hq
        exact hp' (.inl ((hDi p _ hop evp).2 hpq))
  cases hev : isEv hh id i o with
  | true =>
    by_cases hip : i = p
    · by_cases hDq : D q
      · -- q is done ahead of it
        subst hip
        rw [ho] at hop; injection hop with hop
        have hset : ∀ j oj, ops[j]? = some oj → isEv hh id j oj = true → (D j ↔ (j < i ∨ j = q)) := fun j oj hj ej => by
          rcases Nat.lt_trichotomy j i with hji | rfl | hij
          · exact ⟨fun _ => .inl hji, fun _ => evlo j oj hj ej hev hji (by omega)⟩
          · exact ⟨fun h => absurd h hni, fun h => by omega⟩
          · by_cases hjq : j = q
            · subst hjq; exact ⟨fun _ => .inr rfl, fun _ => hDq⟩
            · exact ⟨fun h => absurd h (evhi j oj hj ej hev hij (by omega)), fun h => by omega⟩
        obtain ⟨eH, eE⟩ := hI.hx hset
        have hs1 : (st (q + 1)).E = (v q).2.2 ++ ((v i).2.2 ++ (st i).E) := by
          rw [ht.nx q _ hoq]
          simp only
          have := (tr_H ht (k := i + 1) q (by omega) (by omega) fun j oj h1 h2 hj => hbtw j oj (by omega) h2 hj).2
          rw [this, ht.nx i o ho]
        refine ⟨⟨putA s.T o.dst (v i).1, (st (q + 1)).H, (v i).2.2 ++ s.E⟩, ?_, ⟨by rw [putA_length]; exact hI.len, hTn _ rfl, fun k hk hw => ?_, fun hw => ?_⟩⟩
        · rw [opA_val, valA_congr (ops := ops) hT, eH, hsw.vp o ho]; rfl
        · have hqk : q < k := (hw q _ hoq evq).1 (.inl hDq)
          have e := tr_H ht (k := q + 1) k (by omega) hk fun j oj h1 h2 hj => by
            cases he : isEv hh id j oj with
            | false => rfl
            | true =>
              exfalso
              rcases (hw j oj hj he).2 h2 with hD | rfl
              · have := (hset j oj hj he).1 hD; omega
              · omega
          rw [e.1, e.2, hs1, eE]
          refine ⟨rfl, ?_⟩
          simp only
          rw [← List.append_assoc, hsw.es, List.append_assoc]
        · exfalso
          have := (hw i o ho hev).1 (.inr rfl); omega
      · refine std hev fun j oj hj ej => ?_
        rcases Nat.lt_trichotomy j i with hji | rfl | hij
        · exact ⟨fun _ => hji, fun _ => evlo j oj hj ej hev hji (by omega)⟩
        · exact ⟨fun h => absurd h hni, fun h => by omega⟩
        · refine ⟨fun h => ?_, fun h => by omega⟩
          by_cases hjq : j = q
          · subst hjq; exact absurd h hDq
          · exact absurd h (evhi j oj hj ej hev hij (by omega))
    · by_cases hiq : i = q
      · by_cases hDp : D p
        · refine std hev fun j oj hj ej => ?_
          rcases Nat.lt_trichotomy j i with hji | rfl | hij
          · refine ⟨fun _ => hji, fun _ => ?_⟩
            by_cases hjp : j = p
            · subst hjp; exact hDp
            · exact evlo j oj hj ej hev hji (by omega)
          · exact ⟨fun h => absurd h hni, fun h => by omega⟩
          · exact ⟨fun h => absurd h (evhi j oj hj ej hev hij (by omega)), fun h => by omega⟩
        · -- p is still to come
          subst hiq
          rw [ho] at hoq; injection hoq with hoq
          have hset : ∀ j oj, ops[j]? = some oj → isEv hh id j oj = true → (D j ↔ j < p) := fun j oj hj ej => by
            rcases Nat.lt_trichotomy j p with hjp | rfl | hpj
            · exact ⟨fun _ => hjp, fun _ => evlo j oj hj ej hev (by omega) (by omega)⟩
            · exact ⟨fun h => absurd h hDp, fun h => by omega⟩
            · refine ⟨fun h => ?_, fun h => by omega⟩
              by_cases hji : j = i
              · subst hji; exact absurd h hni
              · exact absurd (evord p j _ oj hop hj evp ej hpj (by omega) h) hDp
          obtain ⟨eH, eE⟩ := hI.hp p (by omega) hset
          refine ⟨⟨putA s.T o.dst (v i).1, Hm, (v i).2.2 ++ s.E⟩, ?_, ⟨by rw [putA_length]; exact hI.len, hTn _ rfl, fun k hk hw => ?_, fun hw => ?_⟩⟩
          · rw [opA_val, valA_congr (ops := ops) hT, eH, hsw.vq o ho]; rfl
          · exfalso
            have h1 := (hw i o ho hev).1 (.inr rfl)
            rcases (hw p _ hop evp).2 (by omega) with h | h
            · exact hDp h
            · omega
          · exact ⟨rfl, by simp only; rw [eE]⟩
      · refine std hev fun j oj hj ej => ?_
        rcases Nat.lt_trichotomy j i with hji | rfl | hij
        · exact ⟨fun _ => hji, fun _ => evlo j oj hj ej hev hji (by omega)⟩
        · exact ⟨fun h => absurd h hni, fun h => by omega⟩
        · exact ⟨fun h => absurd h (evhi j oj hj ej hev hij (by omega)), fun h => by omega⟩
  | false =>
    have fin : valA P G env hh id ops i o (st i).T s.H = some ((v i).1, s.H, []) → ∃ s', opA P G env hh id ops i o s = some s' ∧ Inv2 hh id ops st v p q Hm (fun k => D k ∨ k = i) s' := fun hv => by
      have hev' : ∀ j oj, ops[j]? = some oj → isEv hh id j oj = true → ((D j ∨ j = i) ↔ D j) := fun j oj hj he =>
        ⟨fun h => h.elim (fun x => x) (fun e => by subst e; rw [ho] at hj; injection hj with hj; subst hj; rw [hev] at he; cases he), .inl⟩
      refine ⟨⟨putA s.T o.dst (v i).1, s.H, s.E⟩, ?_, ⟨by rw [putA_length]; exact hI.len, hTn _ rfl, fun k' hk' hw => ?_, fun hw => ?_⟩⟩
      · rw [opA_val, valA_congr (ops := ops) hT, hv]; rfl
      · exact hI.hp k' hk' fun j oj hj he => (hev' j oj hj he).symm.trans (hw j oj hj he)
      · exact hI.hx fun j oj hj he => (hev' j oj hj he).symm.trans (hw j oj hj he)
    by_cases hx : D q ∧ ¬ D p
    · have hset : ∀ j oj, ops[j]? = some oj → isEv hh id j oj = true → (D j ↔ (j < p ∨ j = q)) := fun j oj hj ej => by
        rcases Nat.lt_trichotomy j p with hjp | rfl | hpj
        · exact ⟨fun _ => .inl hjp, fun _ => evord j q oj _ hj hoq ej evq (by omega) (by omega) hx.1⟩
        · exact ⟨fun h => absurd h hx.2, fun h => by omega⟩
        · by_cases hjq : j = q
          · subst hjq; exact ⟨fun _ => .inr rfl, fun _ => hx.1⟩
          · exact ⟨fun h => absurd (evord p j _ oj hop hj evp ej hpj (by omega) h) hx.2, fun h => by omega⟩
      obtain ⟨eH, eE⟩ := hI.hx hset
      refine fin ?_
      rw [eH]
      exact hsw.rd i o ho hev (fun hm => hx.2 (hai p hm)) fun hm => hni (hanc q hqn hx.1 i hm)
    · have ord : ∀ j k oj ok, ops[j]? = some oj → ops[k]? = some ok → isEv hh id j oj = true → isEv hh id k ok = true → j < k → D k → D j := fun j k oj ok hj hk ej ek hjk hD => by
        by_cases he : j = p ∧ k = q
        · obtain ⟨rfl, rfl⟩ := he
          exact Classical.byContradiction fun hn => hx ⟨hD, hn⟩
        · exact evord j k oj ok hj hk ej ek hjk he hD
      have hk : ∃ k, k ≤ ops.size ∧ (∀ j oj, ops[j]? = some oj → isEv hh id j oj = true → (D j ↔ j < k)) := by
        rcases least (p := fun j => ∃ oj, ops[j]? = some oj ∧ isEv hh id j oj = true ∧ ¬ D j) ops.size with ⟨k, h1, ⟨ok, h2, h3, h4⟩, h5⟩ | h
        · refine ⟨k, by omega, fun j oj hj he => ⟨fun hD => ?_, fun hjk => ?_⟩⟩
          · rcases Nat.lt_trichotomy j k with h | rfl | h
            · exact h
            · exact absurd hD h4
            · exact absurd (ord k j ok oj h2 hj h3 he h hD) h4
          · exact Classical.byContradiction fun hD => h5 j hjk ⟨oj, hj, he, hD⟩
        · refine ⟨ops.size, by omega, fun j oj hj he => ⟨fun _ => (Array.getElem?_eq_some_iff.1 hj).1, fun hjn => ?_⟩⟩
          exact Classical.byContradiction fun hD => h j hjn ⟨oj, hj, he, hD⟩
      obtain ⟨k, hkn, hkD⟩ := hk
      obtain ⟨eH, eE⟩ := hI.hp k hkn hkD
      refine fin ?_
      have hself : valA P G env hh id ops i o (st i).T (st i).H = some ((v i).1, (st i).H, []) := by
        rw [ht.op i o ho]
        have := ht.rd i o ho hev
        rw [← this]
      rcases Nat.lt_or_ge i k with hik | hki
      · rcases greatest (p := fun j => i < j ∧ ∃ oj, ops[j]? = some oj ∧ isEv hh id j oj = true) k with ⟨e, h1, ⟨h2, oe, h3, h4⟩, h5⟩ | h
        · have hD : D e := (hkD e oe h3 h4).2 h1
          have hm : i ∉ (ancL ops ops.size).getD e [] := fun hm => behind e oe h3 h2 hm hD
          have := ht.hi i o e oe ho hev h3 h4 h2 hm
          have e1 := (tr_H ht (k := e + 1) k (by omega) hkn fun j oj g1 g2 hj => by
            cases he : isEv hh id j oj with
            | false => rfl
            | true => exact absurd ⟨by omega, oj, hj, he⟩ (h5 j (by omega) g2)).1
          rw [eH, e1]; exact this
        · have e1 := (tr_H ht (k := i) k (by omega) hkn fun j oj g1 g2 hj => by
            cases he : isEv hh id j oj with
            | false => rfl
            | true =>
              rcases Nat.lt_or_ge i j with hij | hij
              · exact absurd ⟨hij, oj, hj, he⟩ (h j g2)
              · obtain rfl : j = i := by omega
                rw [ho] at hj; injection hj with hj; subst hj; rw [hev] at he; cases he).1
          rw [eH, e1]; exact hself
      · rcases least (p := fun j => k ≤ j ∧ ∃ oj, ops[j]? = some oj ∧ isEv hh id j oj = true) i with ⟨e, h1, ⟨h2, oe, h3, h4⟩, h5⟩ | h
        · have hD : ¬ D e := fun hD => by have := (hkD e oe h3 h4).1 hD; omega
          have hm : e ∉ (ancL ops ops.size).getD i [] := fun hm => hD (hai e hm)
          have := ht.lo i o e oe ho hev h3 h4 h1 hm
          have e1 := (tr_H ht (k := k) e h2 (by omega) fun j oj g1 g2 hj => by
            cases he : isEv hh id j oj with
            | false => rfl
            | true => exact absurd ⟨g1, oj, hj, he⟩ (h5 j g2)).1
          rw [eH, ← e1]; exact this
        · have e1 := (tr_H ht (k := k) i hki (by omega) fun j oj g1 g2 hj => by
            cases he : isEv hh id j oj with
            | false => rfl
            | true => exact absurd ⟨g1, oj, hj, he⟩ (h j g2)).1
          rw [eH, ← e1]; exact hself

theorem any2_ok (henv : EnvOk P G env) {st : Nat → St} {v : Nat → R3} (ht : Tr P G env hh id ops st v) {p q : Nat} {Hm : List AObj} (hs : drawS2 hh id ops p q = true) (hsw : Sw P G env hh id ops st v p q Hm) {Q : Exit → Act → World → Prop} :
    ∀ (fuel : Nat) (listed : Array Bool) (X : Cx) (a : Act) (s : St), listed.size = ops.size → left listed ≤ fuel → X.H = s.H → Rel G X → Ms X s.T a.tmps.toList → Inv2 hh id ops st v p q Hm (dn listed) s →
    (∀ i, i < ops.size → dn listed i → ∀ j ∈ bnd ops i, dn listed j) →
    (∀ X1 a1 N, X1.H = (st ops.size).H → Rel G X1 → Ext X X1 → (st ops.size).E = N ++ s.E → EscI X.H X1.H N → Ms X1 (st ops.size).T a1.tmps.toList → a1.defers = a.defers → Q .normal a1 X1.w) →
    wpAny P .any ops Q fuel listed a X.w := by
  have hlt : ∀ i, i < ops.size → ∀ j ∈ bnd ops i, j < i := (drawS2_spec hs).2.2.2.2.2.1
  intro fuel
  have hall : ∀ (listed : Array Bool) (X : Cx) (a : Act) (s : St), listed.size = ops.size → X.H = s.H → Rel G X → Ms X s.T a.tmps.toList → Inv2 hh id ops st v p q Hm (dn listed) s → (∀ i, i < ops.size → dn listed i) →
      (∀ X1 a1 N, X1.H = (st ops.size).H → Rel G X1 → Ext X X1 → (st ops.size).E = N ++ s.E → EscI X.H X1.H N → Ms X1 (st ops.size).T a1.tmps.toList → a1.defers = a.defers → Q .normal a1 X1.w) →
      Q .normal a X.w := fun listed X a s hsz hH hR hF hI hd hQ => by
    obtain ⟨e1, e2⟩ := hI.hp ops.size (Nat.le_refl _) fun i o ho _ => by
      have := (Array.getElem?_eq_some_iff.1 ho).1
      exact ⟨fun _ => this, fun _ => hd i this⟩
    have e3 : s.T = (st ops.size).T := by
      apply List.ext_getElem?
      intro t
      exact hI.tm t ops.size (Nat.le_refl _) fun i o ho _ => by
        have := (Array.getElem?_eq_some_iff.1 ho).1
        exact ⟨fun _ => this, fun _ => hd i this⟩
    exact hQ X a [] (hH.trans e1) hR (Ext.refl X) (by rw [e2]; rfl) (EscI.refl _) (by rw [← e3]; exact hF) rfl
  have hready : ∀ (listed : Array Bool), listed.size = ops.size → Region.ready .any ops listed = [] → ∀ i, i < ops.size → dn listed i := fun listed hsz hr => by
    intro i
    induction i using Nat.strongRecOn with
    | _ i ih =>
      intro hi
      exact Classical.byContradiction fun hn => by
        have ho : ops[i]? = some ops[i] := Array.getElem?_eq_getElem hi
        have : i ∈ Region.ready .any ops listed := mem_ready.2 ⟨by
          unfold dn at hn
          simp only [Array.getD_eq_getD_getElem?, Array.getElem?_eq_getElem (show i < listed.size by omega), Option.getD_some, Bool.not_eq_true] at hn ⊢
          exact hn, _, ho, fun e he hb => by
            have hj : e.on ∈ bnd ops i := (mem_bnd ho).2 ⟨e, he, hb, rfl⟩
            have hji := hlt i hi _ hj
            exact ih _ hji (by omega)⟩
        rw [hr] at this
        cases this
  induction fuel with
  | zero =>
    intro listed X a s hsz hl hH hR hF hI hc hQ
    have hd : ∀ i, i < ops.size → dn listed i := fun i hi => left_zero (by omega) (by omega)
    refine ⟨?_, hall listed X a s hsz hH hR hF hI hd hQ⟩
    cases hr : Region.ready .any ops listed with
    | nil => rfl
    | cons i is =>
      exfalso
      have hm : i ∈ Region.ready .any ops listed := by rw [hr]; simp
      obtain ⟨h1, o, ho, _⟩ := mem_ready.1 hm
      have hi := (Array.getElem?_eq_some_iff.1 ho).1
      have := hd i hi
      unfold dn at this
      simp only [Array.getD_eq_getD_getElem?, Array.getElem?_eq_getElem (show i < listed.size by omega), Option.getD_some] at this h1
      rw [this] at h1; cases h1
  | succ fuel ih =>
    intro listed X a s hsz hl hH hR hF hI hc hQ
    refine ⟨fun hr => hall listed X a s hsz hH hR hF hI (hready listed hsz hr) hQ, fun i hi => ?_⟩
    obtain ⟨h1, o, ho, h2⟩ := mem_ready.1 hi
    have hin := (Array.getElem?_eq_some_iff.1 ho).1
    have hni : ¬ dn listed i := fun h => by
      unfold dn at h
      simp only [Array.getD_eq_getD_getElem?, Array.getElem?_eq_getElem (show i < listed.size by omega), Option.getD_some] at h h1
      rw [h] at h1; cases h1
    obtain ⟨s', g1, g2⟩ := inv2_step ht hs hsw hI hc ho hni (fun j hj => by
      obtain ⟨e, he, hb, rfl⟩ := (mem_bnd ho).1 hj
      exact h2 e he hb)
    have hls := left_set (show i < listed.size by omega) hni
    refine step_ok henv ho hH hR hF g1 fun X1 a1 N e1 e2 e3 e4 e5 e6 e7 => ?_
    refine ih _ X1 a1 s' (by simp [hsz]) (by omega) e1 e2 e6 (g2.congr fun k => dn_set (by omega) k) (fun k hk hd j hj => ?_) fun X2 a2 N2 f1 f2 f3 f4 f5 f6 f7 => ?_
    · rw [dn_set (by omega)] at hd ⊢
      rcases hd with hd | rfl
      · exact .inl (hc k hk hd j hj)
      · obtain ⟨e, he, hb, rfl⟩ := (mem_bnd ho).1 hj
        exact .inl (h2 e he hb)
    · exact hQ X2 a2 (N2 ++ N) f1 f2 (e3.trans f3) (by rw [f4, e4, List.append_assoc]) (e5.trans f5) f6 (f7.trans e7)
theorem stA_tr {s : St} {st : Nat → St} {v : Nat → R3} (ht : Tr P G env hh id ops st v) (h0 : st 0 = s) : ∀ i, i ≤ ops.size → stA P G env hh id ops s i = some (st i)
  | 0, _ => by simp [stA, opsA, h0]
  | i + 1, hi => by
    have ho : ops[i]? = some ops[i] := Array.getElem?_eq_getElem (by omega)
    rw [stA_succ ho, stA_tr ht h0 i (by omega), Option.bind_some, opA_val, ht.op i _ ho, ht.nx i _ ho]; rfl
theorem swap_ok {X : Cx} {a : Act} (henv : EnvOk P G env) {Q : Exit → Act → World → Prop} {s s1 : St} (hH : X.H = s.H) (hR : Rel G X) (hF : Ms X s.T a.tmps.toList) (h : opsA P G env hh id ops ops.toList 0 s = some s1) (hd : SwapOk P G env hh id ops s)
    (hQ : ∀ X1 a1 N, X1.H = s1.H → Rel G X1 → Ext X X1 → s1.E = N ++ s.E → EscI X.H X1.H N → Ms X1 s1.T a1.tmps.toList → a1.defers = a.defers → Q .normal a1 X1.w) : (Code.region id ops true).wp P Q a X.w := by
  obtain ⟨hm, hp, p, q, hs, op, oq, sp, sq, sr, vp, vq, Hm, b1, b2, b3, b4, b5, b6, b7, b8, b9, b10, b11⟩ := hd
  obtain ⟨st, v, ht, h0, h1⟩ := tr_ok h hp
  obtain ⟨hpq, hqn, hep, heq, hbtw, hlt, hcmp⟩ := drawS2_spec hs
  have hst := stA_tr ht h0
  rw [hst p (by omega), Option.some.injEq] at b3
  rw [hst q (by omega), Option.some.injEq] at b4
  rw [hst (q + 1) (by omega), Option.some.injEq] at b5
  subst b3; subst b4; subst b5
  rw [ht.op p op b1, Option.some.injEq] at b6
  rw [ht.op q oq b2, Option.some.injEq] at b7
  subst b6; subst b7
  have hsw : Sw P G env hh id ops st v p q Hm := ⟨hpq, hqn, hep, heq, hbtw, fun o ho => by rw [b2] at ho; injection ho with ho; subst ho; exact b8, fun o ho => by rw [b1] at ho; injection ho with ho; subst ho; exact b9, b10, fun i o ho hev hpi hiq => by
    cases hn : noH o with
    | true => exact (noH_val Hm hn (ev_act0 hev hn) (ht.op i o ho)).2
    | false =>
      have hin := (Array.getElem?_eq_some_iff.1 ho).1
      obtain ⟨o', si, r, c1, c2, c3, c4⟩ := b11 i (by
        unfold swapQ
        simp only [List.mem_filter, List.mem_range]
        refine ⟨hin, ?_⟩
        rw [ho]
        simp only [hev, hn, Bool.not_false, Bool.true_and, List.contains_eq_mem, hpi, hiq, decide_false, Bool.and_self])
      rw [ho] at c1; injection c1 with c1; subst c1
      rw [hst i (by omega), Option.some.injEq] at c2
      subst c2
      rw [ht.op i o ho, Option.some.injEq] at c3
      rw [c3]; exact c4⟩
  subst h0; subst h1
  refine wp_region_any hm ?_
  obtain ⟨k1, k2, k3⟩ := world_ok hR (w' := { X.w with drawn := X.w.drawn + 1 }) rfl rfl rfl rfl
  have hno : ∀ i, ¬ dn (Array.replicate ops.size false) i := fun i h => by
    unfold dn at h
    simp only [Array.getD_eq_getD_getElem?, Array.getElem?_replicate] at h
    split at h <;> simp at h
  refine any2_ok henv ht hs hsw ops.size (Array.replicate ops.size false) ⟨X.F, X.ι, X.H, _⟩ a (st 0) (by simp) ?_ hH k1 (Ms_mono k2 _ _ hF) ⟨rfl, fun t k hk hw => ?_, fun k hk hw => ?_, fun hw => ?_⟩ (fun i hi h => absurd h (hno i)) fun X1 a1 N f1 f2 f3 f4 f5 f6 f7 => ?_
  · unfold left
    rw [Array.toList_replicate]
    exact Nat.le_trans List.countP_le_length (by simp)
  · refine (tr_T ht k (by omega) hk fun i o h1 h2 h3 h4 => ?_).symm
    exact hno i ((hw i o h3 h4).2 h2)
  · have := tr_H ht (k := 0) k (by omega) hk fun i o h1 h2 h3 => by
      cases he : isEv hh id i o with
      | false => rfl
      | true => exact absurd ((hw i o h3 he).2 h2) (hno i)
    exact ⟨this.1.symm, this.2.symm⟩
  · exact absurd ((hw q oq b2 (heq oq b2)).2 (.inr rfl)) (hno q)
  · exact hQ X1 a1 N f1 f2 (k2.trans f3) f4 f5 f6 f7
theorem draw_ok {X : Cx} {a : Act} (henv : EnvOk P G env) {Q : Exit → Act → World → Prop} {s s1 : St} (hH : X.H = s.H) (hR : Rel G X) (hF : Ms X s.T a.tmps.toList) (h : opsA P G env hh id ops ops.toList 0 s = some s1) (hd : DrawOk P G env hh id ops s)
    (hQ : ∀ X1 a1 N, X1.H = s1.H → Rel G X1 → Ext X X1 → s1.E = N ++ s.E → EscI X.H X1.H N → Ms X1 s1.T a1.tmps.toList → a1.defers = a.defers → Q .normal a1 X1.w) : (Code.region id ops true).wp P Q a X.w := by
  rcases hd with hd | hd
  · exact draw_ok1 henv hH hR hF h hd hQ
  · exact swap_ok henv hH hR hF h hd.2 hQ
end
end Go.Pm
namespace Go.Pm
set_option linter.unusedVariables false
set_option linter.unusedSimpArgs false
/-- What keeps values matched. -/
structure Tk0 (X Y : Cx) : Prop where
  im : ∀ b, X.im b → Y.im b
  cell : ∀ b, X.im b → ∀ j u, cellAt X.w b j = some u → cellAt Y.w b j = some u
  hlen : X.H.length ≤ Y.H.length
  grow : ∀ l t, l < X.H.length → lenOf Y.H l = some t → ∃ t0, lenOf X.H l = some t0 ∧ t0 ≤ t ∧
    (t0 = t → (isRow X.H[l]? → isRow Y.H[l]? ∧ ∀ b z, X.ι l = some (b, z) → Y.ι l = some (b, z) ∧ sizeAt Y.w b = sizeAt X.w b) ∧ (X.H[l]? = some .vrow → Y.H[l]? = some .vrow))
  mps : ∀ l, l < X.H.length → isMp Y.H[l]? → isMp X.H[l]? ∧ Y.ι l = X.ι l
  imf : ∀ b, X.fr.im b → Y.fr.im b
  cellf : ∀ b, X.fr.im b → ∀ j u, cellAt X.w b j = some u → cellAt Y.w b j = some u
theorem Tk0.fr {X Y : Cx} (h : Tk0 X Y) : Tk0 X.fr Y.fr := ⟨h.imf, h.cellf, h.hlen, h.grow, h.mps, h.imf, h.cellf⟩
mutual
theorem M_tr {X Y : Cx} (h : Tk0 X Y) : ∀ (v : AV) (u : Value), M X v u → M Y v u
  | .bad, _, _ => by unfold M; trivial
  | .int _ _, _, hm => by unfold M at hm ⊢; exact hm
  | .bool _, _, hm => by unfold M at hm ⊢; exact hm
  | .str _, _, hm => by unfold M at hm ⊢; exact hm
  | .nilp, _, hm => by unfold M at hm ⊢; exact hm
  | .nils, _, hm => by unfold M at hm ⊢; exact hm
  | .emp _, _, hm => by unfold M at hm ⊢; exact hm
  | .nilf, _, hm => by unfold M at hm ⊢; exact hm
  | .nili, _, hm => by unfold M at hm ⊢; exact hm
  | .nilm, _, hm => by unfold M at hm ⊢; exact hm
  | .lnt a, u, hm => by unfold M at hm ⊢; exact M_tr h.fr a u hm
  | .mp l, u, hm => by
    unfold M at hm ⊢
    obtain ⟨⟨h1, h0⟩, h2⟩ := hm
    refine ⟨⟨Nat.lt_of_lt_of_le h1 h.hlen, h0⟩, fun hy => ?_⟩
    obtain ⟨h3, h4⟩ := h.mps l h1 hy
    rw [h4]; exact h2 h3
  | .ptr l tot i off, u, hm => by
    unfold M at hm ⊢
    obtain ⟨⟨h1, h0⟩, h2, h3⟩ := hm
    refine ⟨⟨Nat.lt_of_lt_of_le h1 h.hlen, h0⟩, fun t ht => ?_, fun ht => ?_⟩
    · obtain ⟨t0, k0, k1, _⟩ := h.grow l t h1 ht
      exact Nat.le_trans (h2 _ k0) k1
    · obtain ⟨t0, k0, k1, k2⟩ := h.grow l tot h1 ht
      obtain rfl : t0 = tot := Nat.le_antisymm k1 (h2 _ k0)
      obtain ⟨b, z, hr, hi, hv⟩ := h3 k0
      obtain ⟨ra, ia⟩ := (k2 rfl).1 hr
      exact ⟨b, z, ra, (ia b z hi).1, hv⟩
  | .slc l off n tot, u, hm => by
    unfold M at hm ⊢
    obtain ⟨⟨h1, h0⟩, h2, h3⟩ := hm
    refine ⟨⟨Nat.lt_of_lt_of_le h1 h.hlen, h0⟩, fun t ht => ?_, fun ht => ?_⟩
    · obtain ⟨t0, k0, k1, _⟩ := h.grow l t h1 ht
      exact Nat.le_trans (h2 _ k0) k1
    · obtain ⟨t0, k0, k1, k2⟩ := h.grow l tot h1 ht
      obtain rfl : t0 = tot := Nat.le_antisymm k1 (h2 _ k0)
      rcases h3 k0 with ⟨hv, e⟩ | ⟨hr, A, c, b, z, s, hi, hv, a1, a2, a3, a4⟩
      · exact .inl ⟨(k2 rfl).2 hv, e⟩
      · obtain ⟨ra, ia⟩ := (k2 rfl).1 hr
        exact .inr ⟨ra, A, c, b, z, s, (ia b z hi).1, hv, a1, a2, (ia b z hi).2.trans a3, a4⟩
  | .ip cs, u, hm => by
    unfold M at hm ⊢
    obtain ⟨b, o, hv, hb, hc⟩ := hm
    exact ⟨b, o, hv, h.im b hb, Mc_tr h cs b o (h.cell b hb) hc⟩
  | .lst es, u, hm => by
    unfold M at hm ⊢
    obtain ⟨A, c, hv, hc, h1, he⟩ := hm
    refine ⟨A, c, hv, hc, h1, fun hn => ?_⟩
    obtain ⟨b, o, z, hA, hz, hb, hme⟩ := he hn
    exact ⟨b, o, z, hA, hz, h.im b hb, Me_tr h es b o z (h.cell b hb) hme⟩
  | .agg cs, u, hm => by
    unfold M at hm ⊢
    obtain ⟨vs, hv, hs⟩ := hm
    exact ⟨vs, hv, Ms_tr h cs vs.toList hs⟩
  | .tup cs, u, hm => by
    unfold M at hm ⊢
    obtain ⟨vs, hv, hs⟩ := hm
    exact ⟨vs, hv, Ms_tr h cs vs.toList hs⟩
  | .clo f fi ca, u, hm => by
    unfold M at hm ⊢
    obtain ⟨fv, cv, hv, ha, hb⟩ := hm
    exact ⟨fv, cv, hv, Ms_tr h fi _ ha, Ms_tr h ca _ hb⟩
  | .ifc t a, u, hm => by
    unfold M at hm ⊢
    obtain ⟨u, hv, ha⟩ := hm
    exact ⟨u, hv, M_tr h a u ha⟩
theorem Mc_tr {X Y : Cx} (h : Tk0 X Y) : ∀ (cs : List AV) (b o : Nat), (∀ j u, cellAt X.w b j = some u → cellAt Y.w b j = some u) → Mc X cs b o → Mc Y cs b o
  | [], _, _, _, _ => by unfold Mc; trivial
  | c :: cs, b, o, hb, hm => by
    unfold Mc at hm ⊢
    obtain ⟨⟨u, hu, hc⟩, hs⟩ := hm
    exact ⟨⟨u, hb _ _ hu, M_tr h c u hc⟩, Mc_tr h cs b (o + 1) hb hs⟩
theorem Me_tr {X Y : Cx} (h : Tk0 X Y) : ∀ (es : List AV) (b o z : Nat), (∀ j u, cellAt X.w b j = some u → cellAt Y.w b j = some u) → Me X es b o z → Me Y es b o z
  | [], _, _, _, _, _ => by unfold Me; trivial
  | e :: es, b, o, z, hb, hm => by
    cases e with
    | agg cs =>
      unfold Me at hm ⊢
      exact ⟨⟨hm.1.1, Mc_tr h cs b o hb hm.1.2⟩, Me_tr h es b (o + z) z hb hm.2⟩
    | _ =>
      unfold Me at hm ⊢
      obtain ⟨⟨hz, u, hu, hc⟩, hs⟩ := hm
      exact ⟨⟨hz, u, hb _ _ hu, M_tr h _ u hc⟩, Me_tr h es b (o + z) z hb hs⟩
theorem Ms_tr {X Y : Cx} (h : Tk0 X Y) : ∀ (cs : List AV) (vs : List Value), Ms X cs vs → Ms Y cs vs
  | [], _, hm => by unfold Ms at hm ⊢; exact hm
  | c :: cs, vs, hm => by
    unfold Ms at hm ⊢
    obtain ⟨u, us, hv, hc, hs⟩ := hm
    exact ⟨u, us, hv, M_tr h c u hc, Ms_tr h cs us hs⟩
end
section
variable {P : Program} {G : Nat → Option (List AV)} {env : Env} {hh : Hint} {id : Nat} {ops : Array Oper} {X : Cx}
/-- Ext, but for the fence. -/
def ExtR (X Y : Cx) : Prop := Ext ⟨Y.F, X.ι, X.H, X.w⟩ Y
theorem ExtR.step {X Y Z : Cx} (h : ExtR X Y) (k : Ext Y Z) : ExtR X Z := by
  unfold ExtR at h ⊢
  rw [k.for_]
  exact h.trans k
theorem maps_tr {G : Nat → Option (List AV)} {X Y : Cx} (hR : Rel G X) (hT : Tk0 X Y) (hm : ∀ (l : Nat) (es : List (AV × AV)), Y.H[l]? = some (AObj.mp es) → X.H[l]? = some (AObj.mp es))
    (hh : ∀ (b : Nat) (cs : Array MapEntry) (c : Nat), X.w.heap[b]? = some (.map cs c) → Y.w.heap[b]? = some (.map cs c)) :
    (∀ l es b z, Y.H[l]? = some (.mp es) → Y.ι l = some (b, z) → MapOk Y es b) ∧ ∀ (l : Nat) (es : List (AV × AV)), Y.H[l]? = some (AObj.mp es) → ∀ p ∈ es, p.2.bel 0 = true := by
  refine ⟨fun l es b z h1 h2 => ?_, fun l es h1 => hR.maps.2 l es (hm l es h1)⟩
  have h3 := hm l es h1
  have hl : l < X.H.length := (List.getElem?_eq_some_iff.1 h3).1
  have h4 := (hT.mps l hl (by rw [h1]; simp [isMp])).2
  rw [h4] at h2
  obtain ⟨cs, c, k1, k2, k3, k4⟩ := hR.maps.1 l es b z h3 h2
  exact ⟨cs, c, hh b cs c k1, EntM_map (fun v u _ hv => M_tr hT v u hv) (hR.maps.2 l es h3) k2, k3, k4⟩
/-- A new block that is to become a variable. -/
theorem fresh_ok (hR : Rel G X) (c : Array Value) (el : TypeId) :
    Rel G ⟨fun x k => X.F x k ∨ x = X.w.heap.size, X.ι, X.H, { X.w with heap := X.w.heap.push (.cells c el) }⟩ ∧
    (∀ T vs, Ms X T vs → Ms ⟨fun x k => X.F x k ∨ x = X.w.heap.size, X.ι, X.H, { X.w with heap := X.w.heap.push (.cells c el) }⟩ T vs) ∧
    ∀ X0, ExtR X0 X → ExtR X0 ⟨fun x k => X.F x k ∨ x = X.w.heap.size, X.ι, X.H, { X.w with heap := X.w.heap.push (.cells c el) }⟩ := by
  have hold : ∀ b, b < X.w.heap.size → (X.w.heap.push (.cells c el))[b]? = X.w.heap[b]? := fun b hb => by
    rw [Array.getElem?_push_lt hb]; simp [hb]
  obtain ⟨k1, k2, k3⟩ := push_im (w' := { X.w with heap := X.w.heap.push (.cells c el) }) hR hold (by simp) rfl rfl rfl
  have hcell : ∀ b j u, cellAt X.w b j = some u → cellAt { X.w with heap := X.w.heap.push (.cells c el) } b j = some u := fun b j u h => by
    have hb := lt_of_cellAt h
    unfold cellAt at h ⊢; simp only [hold b hb]; exact h
  have hsize : ∀ b s, sizeAt X.w b = some s → sizeAt { X.w with heap := X.w.heap.push (.cells c el) } b = some s := fun b s h => by
    have hb := lt_of_sizeAt h
    unfold sizeAt at h ⊢; simp only [hold b hb]; exact h
  have tk : Tk0 X ⟨fun x k => X.F x k ∨ x = X.w.heap.size, X.ι, X.H, { X.w with heap := X.w.heap.push (.cells c el) }⟩ :=
    ⟨fun b hb => ⟨⟨Nat.lt_of_lt_of_le hb.1.1 k2.size, fun k h => h.elim (hb.1.2 k) fun e => by have : b < X.w.heap.size := hb.1.1; omega⟩, hb.2⟩, fun b hb j u h => hcell b j u h, Nat.le_refl _, k2.grow, fun l _ h => ⟨h, rfl⟩,
     fun b hb => ⟨⟨Nat.lt_of_lt_of_le hb.1.1 k2.size, fun k h => h.elim (hb.1.2 k) fun e => by have : b < X.w.heap.size := hb.1.1; omega⟩, hb.2⟩, fun b hb j u h => hcell b j u h⟩
  refine ⟨⟨fun l z es b z' h1 h2 => ?_, fun l l' b z z' h1 h2 h3 h4 => hR.inj l l' b z z' h1 h2 h3 h4, maps_tr hR tk (fun _ _ h => h) (fun b cs c h => (hold b (Array.getElem?_eq_some_iff.1 h).1).trans h), fun g cs hg => ?_, hR.wf, fun b k hb => ?_, hR.gb⟩, fun T vs h => Ms_tr tk T vs h, fun X0 h => ?_⟩
  · obtain ⟨e1, e2, e3, ee, s, e4, e5, e6⟩ := hR.rows l z es b z' h1 h2
    exact ⟨e1, e2, Me_tr tk _ _ _ _ (fun j u hj => hcell b j u hj) e3, ee, s, hsize b s e4, e5, unmark_eq e6 (hold b (lt_of_sizeAt e4))⟩
  · obtain ⟨h1, h2⟩ := hR.glob g cs hg
    exact ⟨tk.im g h1, Mc_tr tk _ _ _ (tk.cell g h1) h2⟩
  · rcases hb with hb | rfl
    · exact ⟨Nat.lt_of_lt_of_le (hR.fb b k hb).1 k2.size, (hR.fb b k hb).2⟩
    · refine ⟨by simp, fun hw => ?_⟩
      have := hR.wr_lt (b := X.w.heap.size) hw
      omega
  · refine ⟨Nat.le_trans h.size k2.size, h.hlen, fun b hb hw => (hold b (Nat.lt_of_lt_of_le hb h.size)).trans (h.keep b hb hw), h.wr, fun l t hl ht => ?_, h.tape, h.os, h.output, rfl, h.mps⟩
    obtain ⟨t0, a1, a2, a3⟩ := h.grow l t hl ht
    refine ⟨t0, a1, a2, fun e => ⟨fun hr => ⟨((a3 e).1 hr).1, fun b z hb => ⟨(((a3 e).1 hr).2 b z hb).1, ?_⟩⟩, (a3 e).2⟩⟩
    obtain ⟨q1, q2⟩ := ((a3 e).1 hr).2 b z hb
    obtain ⟨z1, es1, he⟩ := isRow_some ((a3 e).1 hr).1
    obtain ⟨_, _, _, _, s, hs, _⟩ := hR.rows l z1 es1 b z he q1
    rw [← q2, hs]; exact hsize b s hs
/-- It becomes one. -/
theorem born_ok (hR : Rel G X) {b : Nat} {c : Array Value} {el : TypeId} (hb : ∀ k, X.F b k) (hc : X.w.heap[b]? = some (.cells c el)) {v : AV} {u : Value} (hm : M X v u) (hone : v.cells.all AV.one = true) (hl : v.cells.length = c.size) (h0 : v.cells ≠ []) :
    Rel G ⟨fun x k => X.F x k ∧ x ≠ b, upd X.ι X.H.length (b, v.cells.length), X.H ++ [.row v.cells.length [v]], X.w.setCells b 0 u.cells.toList⟩ ∧
    (∀ T vs, Ms X T vs → Ms ⟨fun x k => X.F x k ∧ x ≠ b, upd X.ι X.H.length (b, v.cells.length), X.H ++ [.row v.cells.length [v]], X.w.setCells b 0 u.cells.toList⟩ T vs) ∧
    EscI X.H (X.H ++ [.row v.cells.length [v]]) [] ∧
    M ⟨fun x k => X.F x k ∧ x ≠ b, upd X.ι X.H.length (b, v.cells.length), X.H ++ [.row v.cells.length [v]], X.w.setCells b 0 u.cells.toList⟩ (.ptr X.H.length 1 0 0) (.pointer (some ⟨b, 0, none⟩)) ∧
    ∀ X0, ExtR X0 X → X0.w.heap.size ≤ b → ExtR X0 ⟨fun x k => X.F x k ∧ x ≠ b, upd X.ι X.H.length (b, v.cells.length), X.H ++ [.row v.cells.length [v]], X.w.setCells b 0 u.cells.toList⟩ := by
  obtain ⟨f1, f2, f3, f4, f5, f6⟩ := setCells_facts b u.cells.toList 0 X.w
  have hms := cells_of hone hm
  have hul : u.cells.toList.length = v.cells.length := (Ms_length hms).symm
  have hsb : sizeAt X.w b = some c.size := by unfold sizeAt; rw [hc]
  have hnw : ¬ X.wr b := (hR.fb b true (hb true)).2
  have hz : 0 < v.cells.length := List.length_pos_iff.2 h0
  have hlt : ∀ l, l < X.H.length → (X.H ++ [AObj.row v.cells.length [v]])[l]? = X.H[l]? := fun l hl => List.getElem?_append_left hl
  have hnw' : (X.H ++ [AObj.row v.cells.length [v]])[X.H.length]? = some (.row v.cells.length [v]) := by simp
  have hrow : ∀ l z es, (X.H ++ [AObj.row v.cells.length [v]])[l]? = some (.row z es) → (l < X.H.length ∧ X.H[l]? = some (.row z es)) ∨ (l = X.H.length ∧ z = v.cells.length ∧ es = [v]) := fun l z es h => by
    rcases Nat.lt_or_ge l X.H.length with h1 | h1
    · rw [hlt l h1] at h; exact .inl ⟨h1, h⟩
    · have h2 : l < (X.H ++ [AObj.row v.cells.length [v]]).length := (List.getElem?_eq_some_iff.1 h).1
      simp at h2
      obtain rfl : l = X.H.length := by omega
      rw [hnw'] at h
      injection h with h; injection h with h3 h4
      exact .inr ⟨rfl, h3.symm, h4.symm⟩
  have hupd : ∀ l, l < X.H.length → upd X.ι X.H.length (b, v.cells.length) l = X.ι l := fun l hl => by unfold upd; rw [if_neg (by omega)]
  have hupd' : upd X.ι X.H.length (b, v.cells.length) X.H.length = some (b, v.cells.length) := by unfold upd; rw [if_pos rfl]
  have hcell : ∀ b', b' ≠ b → ∀ j u', cellAt X.w b' j = some u' → cellAt (X.w.setCells b 0 u.cells.toList) b' j = some u' := fun b' hne j u' h => by
    rw [cellAt_setCells_out (fun e => absurd e hne)]; exact h
  have hmp : ∀ (l : Nat) (es : List (AV × AV)), (X.H ++ [AObj.row v.cells.length [v]])[l]? = some (AObj.mp es) → l < X.H.length ∧ X.H[l]? = some (AObj.mp es) := fun l es h => by
    rcases Nat.lt_or_ge l X.H.length with h1 | h1
    · rw [hlt l h1] at h; exact ⟨h1, h⟩
    · have h2 : l < (X.H ++ [AObj.row v.cells.length [v]]).length := (List.getElem?_eq_some_iff.1 h).1
      simp at h2
      obtain rfl : l = X.H.length := by omega
      rw [hnw'] at h; cases h
  have how : ∀ l, isOwn (X.H ++ [AObj.row v.cells.length [v]])[l]? → (l < X.H.length ∧ isOwn X.H[l]?) ∨ l = X.H.length := fun l h => by
    rcases h with h | h
    · obtain ⟨z1, es1, he⟩ := isRow_some h
      rcases hrow l z1 es1 he with ⟨h1, h2⟩ | ⟨h1, _, _⟩
      · exact .inl ⟨h1, .inl (by rw [h2]; simp [isRow])⟩
      · exact .inr h1
    · obtain ⟨es1, he⟩ := isMp_some h
      obtain ⟨h1, h2⟩ := hmp l es1 he
      exact .inl ⟨h1, .inr (by rw [h2]; simp [isMp])⟩
  have hwr : ∀ b', (⟨fun x k => X.F x k ∧ x ≠ b, upd X.ι X.H.length (b, v.cells.length), X.H ++ [.row v.cells.length [v]], X.w.setCells b 0 u.cells.toList⟩ : Cx).wr b' → X.wr b' ∨ b' = b := fun b' ⟨l, z, hr, hi⟩ => by
    rcases how l hr with ⟨h1, h2⟩ | rfl
    · simp only at hi; rw [hupd l h1] at hi; exact .inl ⟨l, z, h2, hi⟩
    · simp only at hi; rw [hupd'] at hi; injection hi with hi; injection hi with hi _; exact .inr hi.symm
  have hgrow : ∀ l t, l < X.H.length → lenOf (X.H ++ [AObj.row v.cells.length [v]]) l = some t → lenOf X.H l = some t := fun l t hl h => by
    unfold lenOf at h ⊢; rw [hlt l hl] at h; exact h
  have tk : Tk0 X ⟨fun x k => X.F x k ∧ x ≠ b, upd X.ι X.H.length (b, v.cells.length), X.H ++ [.row v.cells.length [v]], X.w.setCells b 0 u.cells.toList⟩ :=
    ⟨fun b' hb' => ⟨⟨by rw [f1]; exact hb'.1.1, fun k h => hb'.1.2 k h.1⟩, fun hw => (hwr b' hw).elim hb'.2 fun e => by subst e; exact hb'.1.2 true (hb true)⟩,
     fun b' hb' j u' h => hcell b' (fun e => by subst e; exact hb'.1.2 true (hb true)) j u' h, by simp,
     fun l t hl ht => ⟨t, hgrow l t hl ht, Nat.le_refl _, fun _ => ⟨fun hr => ⟨by show isRow (X.H ++ [AObj.row v.cells.length [v]])[l]?; rw [hlt l hl]; exact hr, fun b' z hb' => ⟨(hupd l hl).trans hb', f2 b'⟩⟩, fun hv => (hlt l hl).trans hv⟩⟩, fun l hl hm => by
      have hm' : isMp (X.H ++ [AObj.row v.cells.length [v]])[l]? := hm
      rw [hlt l hl] at hm'
      exact ⟨hm', hupd l hl⟩,
     fun b' hb' => ⟨⟨by show b' < (X.w.setCells b 0 u.cells.toList).heap.size; rw [f1]; exact hb'.1.1, fun k h => hb'.1.2 k h.1⟩, fun hw => (hwr b' hw).elim hb'.2 fun e => by subst e; exact hb'.1.2 true (hb true)⟩,
     fun b' hb' j u' h => hcell b' (fun e => by subst e; exact hb'.1.2 true (hb true)) j u' h⟩
  refine ⟨⟨fun l z es b' z' h1 h2 => ?_, fun l l' b' z z' h1 h2 h3 h4 => ?_, maps_tr hR tk (fun l es h => (hmp l es h).2) (fun b' cs c' h => by
    have hne : b' ≠ b := fun e => by rw [e, hc] at h; cases h
    exact (f3 b' hne).trans h), fun g cs hg => ?_, fun l z es h => ?_, fun b' k hb' => ?_, hR.gb⟩, fun T vs h => Ms_tr tk T vs h, ?_, ?_, fun X0 h hge => ?_⟩
  · rcases hrow l z es h1 with ⟨hl1, hl2⟩ | ⟨rfl, rfl, rfl⟩
    · simp only at h2
      rw [hupd l hl1] at h2
      obtain ⟨e1, e2, e3, ee, s, e4, e5, e6⟩ := hR.rows l z es b' z' hl2 h2
      have hne : b' ≠ b := fun e => by subst e; exact hnw ⟨l, z', .inl (by rw [hl2]; simp [isRow]), h2⟩
      exact ⟨e1, e2, Me_tr tk _ _ _ _ (fun j u' hj => hcell b' hne j u' hj) e3, ee, s, (f2 b').trans e4, e5, unmark_setCells _ _ _ e6⟩
    · simp only at h2
      rw [hupd'] at h2
      injection h2 with h2; injection h2 with h3 h4
      subst h3; subst h4
      refine ⟨rfl, hz, Me_of_get fun i e he => ?_, fun e he => by simp at he; subst he; exact hone, c.size, (f2 b).trans hsb, by simp; omega, unmark_setCells _ _ _ ⟨c, el, 0, 0, hc, .inl rfl⟩⟩
      cases i with
      | succ i => simp at he
      | zero =>
        simp at he
        subst he
        refine ⟨rfl, Mc_of_vals (Ms_tr tk _ _ hms) fun j v' hj => ?_⟩
        have hj' := (List.getElem?_eq_some_iff.1 hj).1
        have := cellAt_setCells_in (w := X.w) (b := b) (o := 0) (vs := u.cells.toList) hsb (by omega) hj'
        simp only [Nat.zero_add, Nat.zero_mul] at this ⊢
        rw [this]; exact hj
  · simp only at h3 h4
    rcases how l h1 with ⟨a1, a2⟩ | rfl <;> rcases how l' h2 with ⟨c1, c2⟩ | rfl
    · rw [hupd l a1] at h3; rw [hupd l' c1] at h4
      exact hR.inj l l' b' z z' a2 c2 h3 h4
    · rw [hupd l a1] at h3; rw [hupd'] at h4
      injection h4 with h4; injection h4 with h4 _; subst h4
      exact absurd ⟨l, z, a2, h3⟩ hnw
    · rw [hupd'] at h3; rw [hupd l' c1] at h4
      injection h3 with h3; injection h3 with h3 _; subst h3
      exact absurd ⟨l', z', c2, h4⟩ hnw
    · rfl
  · obtain ⟨h1, h2⟩ := hR.glob g cs hg
    exact ⟨tk.im g h1, Mc_tr tk _ _ _ (tk.cell g h1) h2⟩
  · simp only [List.length_append, List.length_singleton]
    rcases hrow l z es h with ⟨a1, a2⟩ | ⟨_, _, rfl⟩
    · exact belL_mono (Nat.le_succ _) _ (hR.wf l z es a2)
    · simp only [belL, Bool.and_true]
      exact bel_mono (Nat.le_succ _) v (M_bel v u hm)
  · have := hR.fb b' k hb'.1
    exact ⟨by rw [f1]; exact this.1, fun hw => (hwr b' hw).elim this.2 hb'.2⟩
  · intro l z es h
    rcases hrow l z es h with ⟨a1, a2⟩ | ⟨rfl, _, rfl⟩
    · exact .inr fun m hm' hp => hp z es a2
    · exact .inr fun m hm' hp => by
        simp only [belL, Bool.and_true]
        exact bel_mono (Nat.le_of_lt hm') v (M_bel v u hm)
  · unfold M
    refine ⟨⟨by simp, _, rfl⟩, fun t ht => ?_, fun _ => ⟨b, v.cells.length, by simp [isRow], hupd', by simp⟩⟩
    simp [lenOf] at ht; omega
  · refine ⟨by rw [f1]; exact h.size, Nat.le_trans h.hlen (by simp), fun b' hb' hw => (f3 b' (by have : b' < X0.w.heap.size := hb'; omega)).trans (h.keep b' hb' hw), fun b' hb' hw => ?_, fun l t hl ht => ?_, f4.trans h.tape, f5.trans h.os, f6.trans h.output, rfl, fun l hl hm => ?_⟩
    rotate_right
    · have hl' : l < X.H.length := Nat.lt_of_lt_of_le hl h.hlen
      have hm' : isMp (X.H ++ [AObj.row v.cells.length [v]])[l]? := hm
      rw [hlt l hl'] at hm'
      obtain ⟨q1, q2⟩ := h.mps l hl hm'
      exact ⟨q1, (hupd l hl').trans q2⟩
    · rcases hwr b' hw with hw | rfl
      · exact h.wr b' hb' hw
      · have : b' < X0.w.heap.size := hb'
        omega
    · have hl' : l < X.H.length := Nat.lt_of_lt_of_le hl h.hlen
      obtain ⟨t0, a1, a2, a3⟩ := h.grow l t hl (hgrow l t hl' ht)
      refine ⟨t0, a1, a2, fun e => ⟨fun hr => ⟨by show isRow (X.H ++ [AObj.row v.cells.length [v]])[l]?; rw [hlt l hl']; exact ((a3 e).1 hr).1, fun b' z hb' => ⟨(hupd l hl').trans (((a3 e).1 hr).2 b' z hb').1, (f2 b').trans (((a3 e).1 hr).2 b' z hb').2⟩⟩, fun hv => (hlt l hl').trans ((a3 e).2 hv)⟩⟩

theorem put_tmps {a : Act} {d : Option Tmp} {u : Value} {t : Nat} (h : d ≠ some t) : (a.put d u).tmps[t]? = a.tmps[t]? := by
  cases d with
  | none => rfl
  | some d => simp only [Act.put]; exact Array.getElem?_setIfInBounds_ne (fun e => h (by rw [e]))
theorem step_ok' {env : Env} (henv : EnvOk P G env) {hh : Hint} {id i : Nat} {ops : Array Oper} {o : Oper} {a : Act} {s s1 : St} (ho : ops[i]? = some o) (hH : X.H = s.H) (hR : Rel G X) (hF : Ms X s.T a.tmps.toList) (h : opA P G env hh id ops i o s = some s1)
    {K : Act → World → Prop} {Q : Exit → Act → World → Prop}
    (hK : ∀ X1 a1 N, X1.H = s1.H → Rel G X1 → Ext X X1 → s1.E = N ++ s.E → EscI X.H X1.H N → Ms X1 s1.T a1.tmps.toList → a1.defers = a.defers → (∀ t, o.dst ≠ some t → a1.tmps[t]? = a.tmps[t]?) → K a1 X1.w) : wpOp P ops Q i K a X.w := by
  unfold wpOp
  simp only [ho]
  unfold opA at h
  split at h
  · rename_i hw
    simp only [Option.map_eq_some_iff] at h
    obtain ⟨r, hr, rfl⟩ := h
    rw [want_ok hF hw]
    simp only [if_true]
    left
    rw [← hH] at hr
    refine aop'_ok henv hR hF hr K Q fun u X' e1 e2 e3 e4 e5 => ?_
    exact hK X' _ r.2.2 e1 e2 e3 rfl e4 (putA_ok (Ms_mono e3 _ _ hF) o.dst e5) (put_defers _ _ _) fun t ht => put_tmps ht
  · rename_i hw
    injection h with h; subst h
    rw [want_ok hF hw]
    simp only [Bool.false_eq_true, if_false]
    exact hK X _ [] hH hR (Ext.refl X) rfl (EscI.refl _) (putA_ok hF o.dst (by unfold M; exact ⟨#[], rfl, by simp [Ms]⟩)) (put_defers _ _ _) fun t ht => put_tmps ht
  · cases h
theorem subA_size (l : List (Nat × Nat)) : (subA ops l).size = ops.size := by simp [subA]
theorem subA_get (l : List (Nat × Nat)) {i : Nat} {o : Oper} (h : ops[i]? = some o) : (subA ops l)[i]? = some (subOp ops l i o) := by
  have hi := (Array.getElem?_eq_some_iff.1 h).1
  simp only [subA, List.getElem?_toArray, List.getElem?_map, List.getElem?_range hi, Option.map_some]
  rw [Array.getD_eq_getD_getElem?, h]; rfl
theorem subOp_after (l : List (Nat × Nat)) (i : Nat) (o : Oper) : (subOp ops l i o).after = o.after ∧ (subOp ops l i o).guard = o.guard := by
  unfold subOp
  split
  · exact ⟨rfl, rfl⟩
  · split
    · split <;> exact ⟨rfl, rfl⟩
    · exact ⟨rfl, rfl⟩
theorem subA_bnd (l : List (Nat × Nat)) (i : Nat) : bnd (subA ops l) i = bnd ops i := by
  unfold bnd
  by_cases hi : i < ops.size
  · have ho : ops[i]? = some ops[i] := Array.getElem?_eq_getElem hi
    rw [ho, subA_get l ho]
    simp only [(subOp_after l i _).1]
  · rw [Array.getElem?_eq_none (by rw [subA_size]; omega), Array.getElem?_eq_none (by omega)]
/-- what a pair is -/
structure Pair (P : Program) (hh : Hint) (id : Nat) (ops : Array Oper) (m p s t : Nat) (ty : TypeId) (x : Operand) (op os : Oper) (z : AV) (n : Nat) : Prop where
  tm : t < m
  lt : p < s
  bd : p ∈ bnd ops s
  ap : actOf hh id p = 0
  as : actOf hh id s = 10
  gp : ops[p]? = some op
  gs : ops[s]? = some os
  hop : op.op = .alloc ty
  dp : op.dst = some t
  hos : os.op = .store ty (.tmp t) x
  ds : os.dst = none
  un : ∀ i o, ops[i]? = some o → o.dst = some t → i = p
  hz : zeroT P ty = some z
  one : z.cells.all AV.one = true
  hn : z.cells.length = n
  htk : ∃ ag, Go.Pm.tk P ty = some (ag, n)
theorem pair_of {m : Nat} {x : Nat × Nat} (h : subP P hh id ops m x = true) : ∃ t ty v op os z n, Pair P hh id ops m x.1 x.2 t ty v op os z n := by
  unfold subP at h
  simp only [Bool.and_eq_true, decide_eq_true_eq, List.contains_eq_mem, beq_iff_eq] at h
  obtain ⟨⟨⟨⟨h1, h2⟩, h3⟩, h4⟩, h5⟩ := h
  split at h5
  · rename_i p s hp hs
    split at h5
    · rename_i ty t ty' a v e1 e2 e3 e4
      simp only [Bool.and_eq_true, beq_iff_eq, List.all_eq_true, List.mem_range, Bool.or_eq_true, decide_eq_true_eq] at h5
      obtain ⟨⟨⟨⟨rfl, k2⟩, k5⟩, k3⟩, k4⟩ := h5
      split at k4
      · rename_i z n hz hn
        simp only [Bool.and_eq_true, decide_eq_true_eq] at k4
        have ha : a = .tmp t := by
          unfold isTmp at k2
          split at k2
          · simp only [beq_iff_eq] at k2; rw [k2]
          · cases k2
        subst ha
        refine ⟨t, ty, v, p, s, z, n.2, ⟨k5, h1, h2, h3, h4, hp, hs, e1, e2, e3, e4, fun i o ho hd => ?_, hz, k4.1, k4.2, n.1, by rw [hn]⟩⟩
        have := k3 i (Array.getElem?_eq_some_iff.1 ho).1
        rw [ho] at this
        rcases this with h | h
        · exact h
        · simp [hd] at h
      · cases k4
    · cases h5
  · cases h5
/-- the variables that are made and not yet stored: (store, block) -/
structure Fr (P : Program) (hh : Hint) (id : Nat) (ops : Array Oper) (m : Nat) (l : List (Nat × Nat)) (X0 : Cx) (D : Nat → Prop) (X : Cx) (a : Act) (fr : List (Nat × Nat)) : Prop where
  mem : ∀ x ∈ l, D x.1 → ¬ D x.2 → ∃ b, (x.2, b) ∈ fr
  act : ∀ s b, (s, b) ∈ fr → ∃ p t ty x op os z n c, (p, s) ∈ l ∧ Pair P hh id ops m p s t ty x op os z n ∧ D p ∧ ¬ D s ∧ a.tmps[t]? = some (.pointer (some ⟨b, 0, none⟩)) ∧ X0.w.heap.size ≤ b ∧ X.w.heap[b]? = some (.cells c ty) ∧ c.size = n
  F : ∀ b k, X.F b k ↔ X0.F b k ∨ ∃ s, (s, b) ∈ fr
  nd : ∀ s s' b, (s, b) ∈ fr → (s', b) ∈ fr → s = s'
  un : ∀ s b b', (s, b) ∈ fr → (s, b') ∈ fr → b = b'
/-- The simulation: the real operations against those with the stores in the variables' place. -/
theorem any4_ok (henv : EnvOk P G env) {l : List (Nat × Nat)} {m : Nat} (hB : subB P hh id ops m l = true) {st : Nat → St} {v : Nat → R3} (ht : Tr P G env hh id (subA ops l) st v) (hs : drawS hh id (subA ops l) = true) {X0 : Cx} (hfb0 : ∀ b k, X0.F b k → b < X0.w.heap.size) {E0 : List Nat} {dfs : List Deferred} {Q : Exit → Act → World → Prop}
    (hQ : ∀ X1 a1 N, X1.H = (st (subA ops l).size).H → Rel G X1 → Ext X0 X1 → (st (subA ops l).size).E = N ++ E0 → EscI X0.H X1.H N → Ms X1 (st (subA ops l).size).T a1.tmps.toList → a1.defers = dfs → Q .normal a1 X1.w) :
    ∀ (fuel : Nat) (listed : Array Bool) (X : Cx) (a : Act) (s : St) (fr : List (Nat × Nat)) (N : List Nat), listed.size = ops.size → left listed ≤ fuel → X.H = s.H → Rel G X → Ms X s.T a.tmps.toList → s.T.length = m → Inv hh id (subA ops l) st (dn listed) s →
    Fr P hh id ops m l X0 (dn listed) X a fr → ExtR X0 X → s.E = N ++ E0 → EscI X0.H X.H N → a.defers = dfs →
    (∀ i, i < ops.size → dn listed i → ∀ j ∈ bnd ops i, dn listed j) →
    wpAny P .any ops Q fuel listed a X.w := by
  have hsz' := subA_size (ops := ops) l
  have hlt : ∀ i, i < ops.size → ∀ j ∈ bnd ops i, j < i := fun i hi j hj => (drawS_spec hs).1 i (by omega) j (by rw [subA_bnd]; exact hj)
  have hpr : ∀ x ∈ l, ∃ t ty v op os z n, Pair P hh id ops m x.1 x.2 t ty v op os z n := fun x hx => by
    unfold subB at hB
    simp only [Bool.and_eq_true, List.all_eq_true] at hB
    exact pair_of (hB.1.2 x hx)
  have hgd : ∀ (i : Nat) (o : Oper), ops[i]? = some o → o.guard = none := fun i o ho => by
    unfold subB at hB
    simp only [Bool.and_eq_true, List.all_eq_true] at hB
    have := hB.1.1 o (Array.mem_toList_iff.2 (Array.mem_of_getElem? ho))
    simpa using this
  have hinj : ∀ x ∈ l, ∀ y ∈ l, x.1 = y.1 ↔ x.2 = y.2 := fun x hx y hy => by
    unfold subB at hB
    simp only [Bool.and_eq_true, List.all_eq_true, beq_iff_eq] at hB
    have := hB.2 x hx y hy
    constructor
    · intro e; rw [e] at this; simp at this; exact this
    · intro e; rw [e] at this; simp at this; exact this
  have hdup : ∀ x ∈ l, ∀ y ∈ l, x.2 = y.2 → x = y := fun x hx y hy e => Prod.ext ((hinj x hx y hy).2 e) e
  have hps : ∀ x ∈ l, ∀ y ∈ l, x.1 ≠ y.2 := fun x hx y hy e => by
    obtain ⟨t, ty, u, op, os, z, n, px⟩ := hpr x hx
    obtain ⟨t', ty', u', op', os', z', n', py⟩ := hpr y hy
    have h1 := px.gp; rw [e, py.gs] at h1; injection h1 with h1
    have := px.hop; rw [← h1, py.hos] at this; cases this
  intro fuel
  have hall : ∀ (listed : Array Bool) (X : Cx) (a : Act) (s : St) (fr : List (Nat × Nat)) (N : List Nat), listed.size = ops.size → X.H = s.H → Rel G X → Ms X s.T a.tmps.toList → Inv hh id (subA ops l) st (dn listed) s →
      Fr P hh id ops m l X0 (dn listed) X a fr → ExtR X0 X → s.E = N ++ E0 → EscI X0.H X.H N → a.defers = dfs → (∀ i, i < ops.size → dn listed i) → Q .normal a X.w := fun listed X a s fr N hsz hH hR hF hI hfr hE hes hesc hdf hd => by
    obtain ⟨e1, e2⟩ := hI.hp (subA ops l).size (Nat.le_refl _) fun i o ho _ => by
      have := (Array.getElem?_eq_some_iff.1 ho).1
      exact ⟨fun _ => this, fun _ => hd i (by omega)⟩
    have e3 : s.T = (st (subA ops l).size).T := by
      apply List.ext_getElem?
      intro t
      exact hI.tm t (subA ops l).size (Nat.le_refl _) fun i o ho _ => by
        have := (Array.getElem?_eq_some_iff.1 ho).1
        exact ⟨fun _ => this, fun _ => hd i (by omega)⟩
    have hF0 : X.F = X0.F := funext fun b => funext fun k => propext ⟨fun h => by
      rcases (hfr.F b k).1 h with h | ⟨s', h⟩
      · exact h
      · obtain ⟨p, t, ty, x, op, os, z, n, c, h1, h2, h3, h4, _⟩ := hfr.act s' b h
        exact absurd (hd s' (Array.getElem?_eq_some_iff.1 h2.gs).1) h4, fun h => (hfr.F b k).2 (.inl h)⟩
    have hE' : Ext X0 X := by
      unfold ExtR at hE
      rw [hF0] at hE; exact hE
    exact hQ X a N (hH.trans e1) hR hE' (by rw [← e2]; exact hes) hesc (by rw [← e3]; exact hF) hdf
  have hready : ∀ (listed : Array Bool), listed.size = ops.size → Region.ready .any ops listed = [] → ∀ i, i < ops.size → dn listed i := fun listed hsz hr => by
    intro i
    induction i using Nat.strongRecOn with
    | _ i ih =>
      intro hi
      exact Classical.byContradiction fun hn => by
        have ho : ops[i]? = some ops[i] := Array.getElem?_eq_getElem hi
        have : i ∈ Region.ready .any ops listed := mem_ready.2 ⟨by
          unfold dn at hn
          simp only [Array.getD_eq_getD_getElem?, Array.getElem?_eq_getElem (show i < listed.size by omega), Option.getD_some, Bool.not_eq_true] at hn ⊢
          exact hn, _, ho, fun e he hb => by
            have hj : e.on ∈ bnd ops i := (mem_bnd ho).2 ⟨e, he, hb, rfl⟩
            have hji := hlt i hi _ hj
            exact ih _ hji (by omega)⟩
        rw [hr] at this
        cases this
  induction fuel with
  | zero =>
    intro listed X a s fr N hsz hl hH hR hF hm hI hfr hE hes hesc hdf hc
    have hd : ∀ i, i < ops.size → dn listed i := fun i hi => left_zero (by omega) (by omega)
    refine ⟨?_, hall listed X a s fr N hsz hH hR hF hI hfr hE hes hesc hdf hd⟩
    cases hr : Region.ready .any ops listed with
    | nil => rfl
    | cons i is =>
      exfalso
      have hm : i ∈ Region.ready .any ops listed := by rw [hr]; simp
      obtain ⟨h1, o, ho, _⟩ := mem_ready.1 hm
      have hi := (Array.getElem?_eq_some_iff.1 ho).1
      have := hd i hi
      unfold dn at this
      simp only [Array.getD_eq_getD_getElem?, Array.getElem?_eq_getElem (show i < listed.size by omega), Option.getD_some] at this h1
      rw [this] at h1; cases h1
  | succ fuel ih =>
    intro listed X a s fr N hsz hl hH hR hF hm hI hfr hE hes hesc hdf hc
    refine ⟨fun hr => hall listed X a s fr N hsz hH hR hF hI hfr hE hes hesc hdf (hready listed hsz hr), fun i hi => ?_⟩
    obtain ⟨h1, o, ho, h2⟩ := mem_ready.1 hi
    have hin := (Array.getElem?_eq_some_iff.1 ho).1
    have hni : ¬ dn listed i := fun h => by
      unfold dn at h
      simp only [Array.getD_eq_getD_getElem?, Array.getElem?_eq_getElem (show i < listed.size by omega), Option.getD_some] at h h1
      rw [h] at h1; cases h1
    have hb : ∀ j ∈ bnd ops i, dn listed j := fun j hj => by
      obtain ⟨e, he, hb, rfl⟩ := (mem_bnd ho).1 hj
      exact h2 e he hb
    obtain ⟨s', g1, g2⟩ := inv_step ht hs hI (fun k hk hd j hj => hc k (by omega) hd j (by rw [← subA_bnd l]; exact hj)) (subA_get l ho) hni (fun j hj => hb j (by rw [← subA_bnd l]; exact hj))
    have hls := left_set (show i < listed.size by omega) hni
    have hc' : ∀ k, k < ops.size → dn (listed.setIfInBounds i true) k → ∀ j ∈ bnd ops k, dn (listed.setIfInBounds i true) j := fun k hk hd j hj => by
      rw [dn_set (by omega)] at hd ⊢
      rcases hd with hd | rfl
      · exact .inl (hc k hk hd j hj)
      · exact .inl (hb j hj)
    have hdn : ∀ k, dn (listed.setIfInBounds i true) k ↔ dn listed k ∨ k = i := fun k => dn_set (by omega) k
    have hTs : s.T.length = a.tmps.size := by rw [← Array.length_toList]; exact Ms_length hF
    have g3 : s'.T.length = m := by rw [g2.len, ← hI.len]; exact hm
    by_cases hp : ∃ x ∈ l, x.1 = i
    · -- a variable is made
      obtain ⟨x, hx, rfl⟩ := hp
      obtain ⟨t, ty, y, op, os, z, n, px⟩ := hpr x hx
      have e := px.gp; rw [ho] at e; injection e with e; subst e
      have hso : subOp ops l x.1 o = { o with op := nopO } := by unfold subOp; rw [if_pos (List.any_eq_true.2 ⟨x, hx, by simp⟩)]
      rw [hso] at g1
      have hs' : s' = ⟨s.T.set t .bad, s.H, s.E⟩ := by
        unfold opA at g1
        simp only [wantA, hgd _ _ ho, px.ap, aop', aop, nopO, same, evA, ofVal, ofVal1, px.dp, putA] at g1
        simpa using g1.symm
      obtain ⟨inf, zval, hi1, hi2, rfl, hzrun⟩ := zeroT_some px.hz
      have hms := cells_of px.one (M_ofVal X zval)
      obtain ⟨f1, f2, f3⟩ := fresh_ok hR zval.cells ty
      unfold wpOp
      simp only [ho]
      rw [if_pos (by unfold Region.wanted; simp [hgd _ _ ho])]
      left
      unfold Oper.wp
      have hrun : (execOp a.eval o).run P X.w = .ok (.value (.pointer (some ⟨X.w.heap.size, 0, none⟩))) { X.w with heap := X.w.heap.push (.cells zval.cells ty) } := by
        unfold execOp
        rw [px.hop]
        exact run_v (by simp [Instr.alloc, hzrun, newVar, newRow])
      rw [hrun]
      show wpAny P .any ops Q fuel _ (a.put o.dst _) _
      rw [px.dp]
      have hta : t < a.tmps.size := by have := px.tm; omega
      refine ih _ ⟨fun b k => X.F b k ∨ b = X.w.heap.size, X.ι, X.H, { X.w with heap := X.w.heap.push (.cells zval.cells ty) }⟩ _ s' ((x.2, X.w.heap.size) :: fr) N (by simp [hsz]) (by omega) (by rw [hs']; exact hH) f1 (by rw [hs']; exact putA_ok (f2 _ _ hF) (some t) (by unfold M; trivial)) g3 (g2.congr hdn) ?_ (f3 X0 hE) (by rw [hs']; exact hes) hesc hdf hc'
      have hold : ∀ b, b < X.w.heap.size → (X.w.heap.push (.cells zval.cells ty))[b]? = X.w.heap[b]? := fun b hb => by
        rw [Array.getElem?_push_lt hb]; simp [hb]
      have hblt : ∀ s b, (s, b) ∈ fr → b < X.w.heap.size := fun s b h => (hR.fb b true ((hfr.F b true).2 (.inr ⟨s, h⟩))).1
      have hx2 : ¬ dn listed x.2 := fun h => hni (hc x.2 (Array.getElem?_eq_some_iff.1 px.gs).1 h x.1 px.bd)
      have hx2f : ∀ b, (x.2, b) ∉ fr := fun b h => by
        obtain ⟨p, t', ty', x', op', os', z', n', c, k1, k2, k3, k4, _⟩ := hfr.act x.2 b h
        have := hdup (p, x.2) k1 x hx rfl
        rw [show p = x.1 by rw [← this]] at k3
        exact hni k3
      refine ⟨fun y hy hd1 hd2 => ?_, fun s b h => ?_, fun b k => ?_, fun s s1 b k1 k2 => ?_, fun s b b' k1 k2 => ?_⟩
      · rw [hdn] at hd1 hd2
        by_cases e : y.1 = x.1
        · have e2 := (hinj y hy x hx).1 e
          exact ⟨X.w.heap.size, by rw [e2]; simp⟩
        · obtain ⟨b, hb⟩ := hfr.mem y hy (hd1.resolve_right e) (fun h => hd2 (.inl h))
          exact ⟨b, by simp [hb]⟩
      · rcases List.mem_cons.1 h with e | h
        · injection e with e1 e2
          subst e1; subst e2
          refine ⟨x.1, t, ty, y, o, os, ofVal zval, n, zval.cells, hx, px, (hdn _).2 (.inr rfl), fun h => ?_, by simp [Act.put, hta], ?_, by simp, ?_⟩
          · rcases (hdn _).1 h with h | h
            · exact hx2 h
            · have := px.lt; omega
          · have : X0.w.heap.size ≤ X.w.heap.size := hE.size
            exact this
          · rw [← px.hn, Ms_length hms]; simp
        · obtain ⟨p, t', ty', x', op', os', z', n', c, k1, k2, k3, k4, k5, k6, k7, k8⟩ := hfr.act s b h
          refine ⟨p, t', ty', x', op', os', z', n', c, k1, k2, (hdn _).2 (.inl k3), fun h' => ?_, ?_, k6, by simp only [hold b (hblt s b h)]; exact k7, k8⟩
          · rcases (hdn _).1 h' with h' | h'
            · exact k4 h'
            · exact hps x hx (p, s) k1 h'.symm
          · rw [put_tmps (fun e => ?_)]
            · exact k5
            · injection e with e; subst e
              have := px.un p op' k2.gp k2.dp
              rw [this] at k3
              exact hni k3
      · show (X.F b k ∨ b = X.w.heap.size) ↔ _
        rw [hfr.F b k]
        simp only [List.mem_cons, Prod.mk.injEq]
        constructor
        · rintro ((h | ⟨s, h⟩) | h)
          · exact .inl h
          · exact .inr ⟨s, .inr h⟩
          · exact .inr ⟨x.2, .inl ⟨rfl, h⟩⟩
        · rintro (h | ⟨s, ⟨_, h⟩ | h⟩)
          · exact .inl (.inl h)
          · exact .inr h
          · exact .inl (.inr ⟨s, h⟩)
      · rcases List.mem_cons.1 k1 with e | k1 <;> rcases List.mem_cons.1 k2 with e' | k2
        · injection e with e1 _; injection e' with e2 _; rw [e1, e2]
        · injection e with _ e1; have := hblt _ _ k2; omega
        · injection e' with _ e1; have := hblt _ _ k1; omega
        · exact hfr.nd s s1 b k1 k2
      · rcases List.mem_cons.1 k1 with e | k1 <;> rcases List.mem_cons.1 k2 with e' | k2
        · injection e with _ e1; injection e' with _ e2; rw [e1, e2]
        · injection e with e1 _; rw [e1] at k2; exact absurd k2 (hx2f b')
        · injection e' with e1 _; rw [e1] at k1; exact absurd k1 (hx2f b)
        · exact hfr.un s b b' k1 k2
    · by_cases hq : ∃ x ∈ l, x.2 = i
      · -- it is stored
        obtain ⟨x, hx, rfl⟩ := hq
        obtain ⟨t, ty, y, op, os, z, n, px⟩ := hpr x hx
        have e := px.gs; rw [ho] at e; injection e with e; subst e
        have hfind : l.find? (fun w => w.2 == x.2) = some x := by
          cases hf : l.find? (fun w => w.2 == x.2) with
          | none =>
            rw [List.find?_eq_none] at hf
            exact absurd (beq_self_eq_true x.2) (by simpa using hf x hx)
          | some w =>
            have h1 := List.mem_of_find?_eq_some hf
            have h2 := List.find?_some hf
            rw [hdup w h1 x hx (by simpa using h2)]
        have hso : subOp ops l x.2 o = { o with dst := some t, op := .box ty y } := by
          unfold subOp
          rw [if_neg (fun h => by
            obtain ⟨w, h1, h2⟩ := List.any_eq_true.1 h
            exact hps w h1 x hx (by simpa using h2)), hfind]
          simp only [px.hos, px.gp, Option.bind_some, px.dp]
        rw [hso] at g1
        obtain ⟨ag, htk⟩ := px.htk
        have hs' : (evA G s.T y).cells.length = n ∧ newA (evA G s.T y) s.H = some (.ptr s.H.length 1 0 0, s.H ++ [.row (evA G s.T y).cells.length [evA G s.T y]], []) ∧ (evA G s.T y).cells ≠ [] ∧ (evA G s.T y).cells.all AV.one = true ∧
            s' = ⟨s.T.set t (.ptr s.H.length 1 0 0), s.H ++ [.row (evA G s.T y).cells.length [evA G s.T y]], s.E⟩ := by
          unfold opA at g1
          simp only [wantA, hgd _ _ ho, px.as, aop', aop, htk, Option.bind_some] at g1
          simp only [show ((10 : Nat) = 3) = False by simp, show ((10 : Nat) = 5) = False by simp, show ((10 : Nat) = 16) = False by simp, if_false, if_true] at g1
          by_cases hl : (evA G s.T y).cells.length = n
          · rw [if_pos hl] at g1
            unfold newA at g1 ⊢
            by_cases hc : (evA G s.T y).cells ≠ [] ∧ (evA G s.T y).cells.all AV.one = true
            · rw [if_pos hc] at g1 ⊢
              simp only [Option.map_some, Option.some.injEq, putA, List.nil_append] at g1
              exact ⟨hl, rfl, hc.1, hc.2, g1.symm⟩
            · rw [if_neg hc] at g1; simp at g1
          · rw [if_neg hl] at g1; simp at g1
        obtain ⟨q1, _, q2, q3, q4⟩ := hs'
        have hv := evA_ok hR hF y
        have hdp : dn listed x.1 := hb x.1 px.bd
        obtain ⟨b, hbf⟩ := hfr.mem x hx hdp hni
        obtain ⟨p, t', ty', x', op', os', z', n', c, k1, k2, k3, k4, k5, k6, k7, k8⟩ := hfr.act x.2 b hbf
        obtain rfl : p = x.1 := by have := hdup (p, x.2) k1 x hx rfl; rw [← this]
        have e1 := k2.gp; rw [px.gp] at e1; injection e1 with e1; subst e1
        have e2 := k2.gs; rw [ho] at e2; injection e2 with e2; subst e2
        obtain rfl : t' = t := by have := k2.dp; rw [px.dp] at this; injection this with this; exact this.symm
        have e3 := k2.hos; rw [px.hos] at e3; injection e3 with e3 _ e4; subst e3; subst e4
        obtain rfl : n' = n := by
          have h1 := k2.hn; have h2 := px.hn; have h3 := k2.hz; rw [px.hz] at h3; injection h3 with h3; subst h3; omega
        have hbF : ∀ k, X.F b k := fun k => (hfr.F b k).2 (.inr ⟨_, hbf⟩)
        obtain ⟨w1, w2, w3, w4, w5⟩ := born_ok hR hbF k7 hv q3 (by omega) q2
        obtain ⟨d, inf, _, _, _, _, _, hsz2⟩ := tk_some htk
        have hms := cells_of q3 hv
        have hul : (a.eval y).cells.toList.length = n' := by rw [← Ms_length hms, q1]
        have hrun : (Instr.storeAt ty (.pointer (some ⟨b, 0, none⟩)) (a.eval y)).run P X.w = .ok () (X.w.setCells b 0 (a.eval y).cells.toList) := by
          have hsb : sizeAt X.w b = some c.size := by unfold sizeAt; rw [k7]
          have h1 := run_storeCells_cells (P := P) b 0 (a.eval y).cells.toList 0 X.w
            (fun j hj => by rw [cell?_plain]; exact isSome_cellAt hsb (by omega)) (fun j hj => unmark_frozen ⟨c, ty, 0, 0, k7, .inl rfl⟩ hsb _ (by omega)) (one_all q3 hms)
          have h2 : (a.eval y).cells.size = n' := by rw [← Array.length_toList]; exact hul
          simpa [Instr.storeAt, Instr.sureAddr, storeVar, hsz2, h2] using h1
        unfold wpOp
        simp only [ho]
        rw [if_pos (by unfold Region.wanted; simp [hgd _ _ ho])]
        left
        unfold Oper.wp
        have hev : a.eval (.tmp t') = .pointer (some ⟨b, 0, none⟩) := by
          simp only [Act.eval]
          first
            | (rw [Array.getD_eq_getD_getElem?, k5]; rfl)
            | simp [k5]
        have hrun2 : (execOp a.eval o).run P X.w = .ok .skip (X.w.setCells b 0 (a.eval y).cells.toList) := by
          unfold execOp
          rw [px.hos]
          rw [← hev] at hrun
          exact run_u hrun
        rw [hrun2]
        show wpAny P .any ops Q fuel _ (a.put o.dst undef) _
        rw [px.ds]
        show wpAny P .any ops Q fuel _ a _
        have hset : ∀ (T : List AV) (us : List Value) (Y : Cx) (w : AV) (val : Value), Ms Y T us → us[t']? = some val → M Y w val → Ms Y (T.set t' w) us := fun T us Y w val h1 h2 h3 => by
          have := Ms_set h1 t' h3
          have e : us.set t' val = us := by
            apply List.ext_getElem?
            intro k
            by_cases hk : k = t'
            · subst hk
              rw [List.getElem?_set_self (List.getElem?_eq_some_iff.1 h2).1, h2]
            · rw [List.getElem?_set_ne (Ne.symm hk)]
          rwa [e] at this
        refine ih _ ⟨fun b' k => X.F b' k ∧ b' ≠ b, upd X.ι X.H.length (b, (evA G s.T y).cells.length), X.H ++ [.row (evA G s.T y).cells.length [evA G s.T y]], X.w.setCells b 0 (a.eval y).cells.toList⟩ a s' (fr.filter fun w => !(w.1 == x.2)) ([] ++ N) (by simp [hsz]) (by omega) (by rw [q4]; simp only; rw [hH]) w1 ?_ g3 (g2.congr hdn) ?_ (w5 X0 hE k6) (by rw [q4]; exact hes) (hesc.trans w3) hdf hc'
        · rw [q4]
          simp only
          refine hset _ _ _ _ _ (w2 _ _ hF) (by rw [Array.getElem?_toList]; exact k5) ?_
          rw [← hH]; exact w4
        · have hfm : ∀ s b', (s, b') ∈ (fr.filter fun w => !(w.1 == x.2)) ↔ (s, b') ∈ fr ∧ s ≠ x.2 := fun s b' => by
            rw [List.mem_filter]; simp
          refine ⟨fun y' hy hd1 hd2 => ?_, fun s b' h => ?_, fun b' k => ?_, fun s s1 b' k1 k2 => hfr.nd s s1 b' ((hfm _ _).1 k1).1 ((hfm _ _).1 k2).1, fun s b' b2 k1 k2 => hfr.un s b' b2 ((hfm _ _).1 k1).1 ((hfm _ _).1 k2).1⟩
          · rw [hdn] at hd1 hd2
            have hne : y'.2 ≠ x.2 := fun e => hd2 (.inr e)
            obtain ⟨b', hb'⟩ := hfr.mem y' hy (hd1.resolve_right (hps y' hy x hx)) (fun h => hd2 (.inl h))
            exact ⟨b', (hfm _ _).2 ⟨hb', hne⟩⟩
          · obtain ⟨h1, h2⟩ := (hfm _ _).1 h
            obtain ⟨p, t2, ty2, x2, op2, os2, z2, n2, c2, j1, j2, j3, j4, j5, j6, j7, j8⟩ := hfr.act s b' h1
            have hne : b' ≠ b := fun e => by subst e; exact h2 (hfr.nd s x.2 b' h1 hbf)
            refine ⟨p, t2, ty2, x2, op2, os2, z2, n2, c2, j1, j2, (hdn _).2 (.inl j3), fun h' => ?_, j5, j6, ?_, j8⟩
            · rcases (hdn _).1 h' with h' | h'
              · exact j4 h'
              · exact h2 h'
            · rw [(setCells_facts b _ 0 X.w).2.2.1 b' hne]; exact j7
          · constructor
            · rintro ⟨h1, h2⟩
              rcases (hfr.F b' k).1 h1 with h | ⟨s, h⟩
              · exact .inl h
              · exact .inr ⟨s, (hfm _ _).2 ⟨h, fun e => by subst e; exact h2 (hfr.un _ _ _ h hbf)⟩⟩
            · rintro (h | ⟨s, h⟩)
              · refine ⟨(hfr.F b' k).2 (.inl h), fun e => ?_⟩
                subst e
                have : b' < X0.w.heap.size := hfb0 b' k h
                omega
              · obtain ⟨h1, h2⟩ := (hfm _ _).1 h
                exact ⟨(hfr.F b' k).2 (.inr ⟨s, h1⟩), fun e => by subst e; exact h2 (hfr.nd s x.2 b' h1 hbf)⟩
      · -- any other
        have hso : subOp ops l i o = o := by
          unfold subOp
          rw [if_neg (fun h => by
            obtain ⟨w, h1, h2⟩ := List.any_eq_true.1 h
            exact hp ⟨w, h1, by simpa using h2⟩)]
          cases hf : l.find? (fun x => x.2 == i) with
          | none => rfl
          | some w => exact absurd ⟨w, List.mem_of_find?_eq_some hf, by simpa using List.find?_some hf⟩ hq
        rw [hso] at g1
        have g1' : opA P G env hh id ops i o s = some s' := by
          unfold opA at g1 ⊢
          simp only [wantA, hgd _ _ ho] at g1 ⊢
          exact g1
        refine step_ok' henv ho hH hR hF g1' fun X1 a1 N1 e1 e2 e3 e4 e5 e6 e7 e8 => ?_
        refine ih _ X1 a1 s' fr (N1 ++ N) (by simp [hsz]) (by omega) e1 e2 e6 g3 (g2.congr hdn) ?_ (hE.step e3) (by rw [e4, hes, List.append_assoc]) (hesc.trans e5) (e7.trans hdf) hc'
        refine ⟨fun x hx hd1 hd2 => ?_, fun s b h => ?_, fun b k => by rw [e3.for_]; exact hfr.F b k, hfr.nd, hfr.un⟩
        · rw [hdn] at hd1 hd2
          exact hfr.mem x hx (hd1.resolve_right fun e => hp ⟨x, hx, e⟩) fun h => hd2 (.inl h)
        · obtain ⟨p, t2, ty2, x2, op2, os2, z2, n2, c2, j1, j2, j3, j4, j5, j6, j7, j8⟩ := hfr.act s b h
          have hFb := hR.fb b true ((hfr.F b true).2 (.inr ⟨s, h⟩))
          refine ⟨p, t2, ty2, x2, op2, os2, z2, n2, c2, j1, j2, (hdn _).2 (.inl j3), fun h' => ?_, ?_, j6, (e3.keep b hFb.1 hFb.2).trans j7, j8⟩
          · rcases (hdn _).1 h' with h' | h'
            · exact j4 h'
            · exact hq ⟨(p, s), j1, h'⟩
          · rw [e8 t2 (fun e => ?_)]
            · exact j5
            · exact hp ⟨(p, s), j1, (j2.un i o ho e).symm⟩
theorem sub_ok {X : Cx} {a : Act} (henv : EnvOk P G env) {Q : Exit → Act → World → Prop} {l : List (Nat × Nat)} {s s1 : St} (hB : subB P hh id ops s.T.length l = true) (hH : X.H = s.H) (hR : Rel G X) (hF : Ms X s.T a.tmps.toList) (h : opsA P G env hh id (subA ops l) (subA ops l).toList 0 s = some s1) (hd : DrawOk1 P G env hh id (subA ops l) s)
    (hQ : ∀ X1 a1 N, X1.H = s1.H → Rel G X1 → Ext X X1 → s1.E = N ++ s.E → EscI X.H X1.H N → Ms X1 s1.T a1.tmps.toList → a1.defers = a.defers → Q .normal a1 X1.w) : (Code.region id ops true).wp P Q a X.w := by
  obtain ⟨hm, hs, hp⟩ := hd
  obtain ⟨st, v, ht, h0, h1⟩ := tr_ok h hp
  subst h0; subst h1
  refine wp_region_any hm ?_
  obtain ⟨k1, k2, k3⟩ := world_ok hR (w' := { X.w with drawn := X.w.drawn + 1 }) rfl rfl rfl rfl
  have hno : ∀ i, ¬ dn (Array.replicate ops.size false) i := fun i h => by
    unfold dn at h
    simp only [Array.getD_eq_getD_getElem?, Array.getElem?_replicate] at h
    split at h <;> simp at h
  refine any4_ok henv hB ht hs (X0 := X) (fun b k hb => (hR.fb b k hb).1) (fun X1 a1 N f1 f2 f3 f4 f5 f6 f7 => hQ X1 a1 N f1 f2 f3 f4 f5 f6 f7) ops.size (Array.replicate ops.size false) ⟨X.F, X.ι, X.H, _⟩ a (st 0) [] [] (by simp) ?_ hH k1 (Ms_mono k2 _ _ hF) rfl ⟨rfl, fun t k hk hw => ?_, fun k hk hw => ?_⟩ ⟨fun x hx hd => absurd hd (hno _), fun s b h => by simp at h, fun b k => by simp, fun s s1 b h => by simp at h, fun s b b' h => by simp at h⟩ k2 rfl (EscI.refl _) rfl (fun i hi h => absurd h (hno i))
  · unfold left
    rw [Array.toList_replicate]
    exact Nat.le_trans List.countP_le_length (by simp)
  · refine (tr_T ht k (by omega) hk fun i o h1 h2 h3 h4 => ?_).symm
    exact hno i ((hw i o h3 h4).2 h2)
  · have := tr_H ht (k := 0) k (by omega) hk fun i o h1 h2 h3 => by
      cases he : isEv hh id i o with
      | false => rfl
      | true => exact absurd ((hw i o h3 he).2 h2) (hno i)
    exact ⟨this.1.symm, this.2.symm⟩
end
end Go.Pm
