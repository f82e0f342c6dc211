/- Soundness: zeros behind nothing; the capacity of nothing. -/
import Derived.Test.YtclfnechcblmoaaDoorPm14
namespace Go.Pm
set_option linter.unusedVariables false
set_option linter.unusedSimpArgs false
section
variable {P : Program} {G : Nat → Option (List AV)} {X : Cx}
theorem cap_ok {ts : Array TypeId} {t e ty : TypeId} {x v : AV} {q : Value} (ht : ts[0]? = some t) (hd : P.underlying t = some (.slice e)) (hx : M X x q) (h : capA x = some v) :
    ∃ u, (Builtin.cap_ ts ty #[q]).run P X.w = .ok u X.w ∧ M X v u := by
  unfold capA at h
  split at h
  · injection h with h; subst h
    rw [M_nils] at hx; subst hx
    exact ⟨.int .i64 0, by simp [Builtin.cap_, ht, run_underlying hd, goInt], M_int.2 rfl⟩
  · cases h
theorem appZ_ok (hR : Rel G X) {ts : Array TypeId} {t e u ty : TypeId} {k : IntKind} {inf : TypeInfo} {ag : Bool} {z : Nat} {zv x y : AV} {p q : Value} {r : R3} (h0 : ts[0]? = some t) (h1 : ts[1]? = some u) (ht : P.underlying t = some (.slice e)) (hu : P.underlying u = some (.int k))
    (hz : tk P e = some (ag, z)) (hi : P.info? e = some inf) (hzv : zeroT P e = some zv) (hx : M X x p) (hy : M X y q) (h : appZ z inf.bytes zv x y X.H = some r) :
    ∃ v X', (Builtin.append_ ts ty #[p, q]).run P X.w = .ok v X'.w ∧ X'.H = r.2.1 ∧ Rel G X' ∧ Ext X X' ∧ EscI X.H r.2.1 r.2.2 ∧ M X' r.1 v := by
  unfold appZ at h
  split at h
  case h_2 => cases h
  rename_i kn n
  rw [M_nils] at hx; rw [M_int] at hy; subst hx; subst hy
  split at h
  case isFalse => cases h
  rename_i hc
  obtain ⟨c1, c2, c3, c4, c5, c6⟩ := hc
  injection h with h; subst h
  obtain ⟨d, i, _, _, _, _, _, hsz⟩ := tk_some hz
  obtain ⟨inf2, zval, hi2, hzz, rfl, hzrun⟩ := zeroT_some hzv
  have hms : Ms X (ofVal zval).cells zval.cells.toList := cells_of c6 (M_ofVal X zval)
  have hs : zval.cells.size = z := by rw [← Array.length_toList, ← Ms_length hms, c5]
  have hb48 : n ≤ 140737489400832 := by
    have : n * 1 ≤ n * inf.bytes := Int.mul_le_mul_of_nonneg_left (by omega) (by omega)
    omega
  have hwn := wrap64_id (n := n) (by omega) (by omega)
  obtain ⟨m, rfl⟩ : ∃ m : Nat, n = (m : Int) := ⟨n.toNat, by omega⟩
  have hm0 : 0 < m := by omega
  have hmb : m * inf.bytes ≤ 140737489400832 := by rw [← Int.natCast_mul] at c2; exact Int.ofNat_le.1 c2
  obtain ⟨k1, k2, k3⟩ := world_ok hR (w' := { X.w with drawn := X.w.drawn + 1 }) rfl rfl rfl rfl
  let cap : Nat := m + X.w.tape X.w.drawn (.appendCap m 0 e) % (2 ^ 63 - m)
  let c : Array Value := Builtin.zeroCells zval.cells m ++ Builtin.zeroCells zval.cells (cap - m)
  have hzc : ∀ j, (Builtin.zeroCells zval.cells j).size = j * z := fun j => by unfold Builtin.zeroCells; rw [Array.size_map, Array.size_range, hs]
  have hrun : (Builtin.append_ ts ty #[.slice none 0 0, .int kn (m : Int)]).run P X.w = .ok (.slice (some ⟨X.w.heap.size, 0, none⟩) m cap) { X.w with heap := X.w.heap.push (.cells c e), drawn := X.w.drawn + 1 } := by
    unfold Builtin.append_
    have e0 : (#[Value.slice none 0 0, .int kn (m : Int)] : Array Value)[0]? = some (.slice none 0 0) := rfl
    have e1 : (#[Value.slice none 0 0, .int kn (m : Int)] : Array Value)[1]? = some (.int kn m) := rfl
    have hmz : ¬ m * z = 0 := by
      have := Nat.mul_pos hm0 c4
      omega
    simp only [h0, h1, e0, e1, Sem.run_bind, run_underlying ht, run_underlying hu, Result.andThen_ok, hsz, Sem.run_pure, if_true, asInt, asIntOf, hwn, run_typeInfo _ hi]
    rw [if_neg (by omega)]
    simp only [Sem.run_pure, Sem.run_bind, Result.andThen_ok, run_typeInfo _ hi]
    rw [if_neg (by omega)]
    simp only [Sem.run_pure, Sem.run_bind, Result.andThen_ok, Int.toNat_natCast, Nat.zero_add]
    rw [if_neg (by omega)]
    simp only [Sem.run_bind, run_typeInfo _ hi, Result.andThen_ok]
    rw [if_neg (by
      have : IntKind.i64.max = 9223372036854775807 := by decide
      omega)]
    have hnc : Builtin.nextslicecap m 0 = m := by unfold Builtin.nextslicecap; rw [if_pos (by omega)]
    simp only [Sem.run_pure, Sem.run_bind, Result.andThen_ok, run_typeInfo _ hi, hnc]
    rw [if_neg (by omega)]
    simp only [Sem.run_pure, Sem.run_bind, Result.andThen_ok, run_choose, Question.forced, Bool.false_eq_true, if_false, Question.cut, run_askRoom, run_typeInfo _ hi, Builtin.firstCells, Bool.not_true, hmz, hzrun, newRow, run_newObj]
    simp [c, cap]
  have htold : Told (⟨X.F, X.ι, X.H, { X.w with drawn := X.w.drawn + 1 }⟩ : Cx) z (List.replicate m (ofVal zval)) (c.toList.take ((List.replicate m (ofVal zval)).length * z)) := by
    have h1 := zero_told (X := (⟨X.F, X.ι, X.H, { X.w with drawn := X.w.drawn + 1 }⟩ : Cx)) (zv := ofVal zval) (zval := zval) m (Ms_mono k2 _ _ hms) c5 c4
    have : c.toList.take ((List.replicate m (ofVal zval)).length * z) = ((Array.range (m * z)).map (zval.cells[· % zval.cells.size]!)).toList := by
      simp only [c, Array.toList_append, List.length_replicate]
      rw [List.take_append_of_le_length (by rw [Array.length_toList, hzc]; exact Nat.le_refl _), List.take_of_length_le (by rw [Array.length_toList, hzc]; exact Nat.le_refl _)]
      simp [Builtin.zeroCells, hs]
    rw [this]; exact h1
  obtain ⟨X', w1, w2, w3, w4, w5, w6⟩ := newrow_ok (X := (⟨X.F, X.ι, X.H, { X.w with drawn := X.w.drawn + 1 }⟩ : Cx)) (el := e) (m := cap) k1 c4 htold (fun e he => by rw [(List.mem_replicate.1 he).2]; exact c5) (fun e he => by rw [(List.mem_replicate.1 he).2]; exact c6) (by simp [cap]) (by
    simp only [c, Array.size_append, hzc]
    rw [← Nat.add_mul]
    congr 1
    simp only [cap]; omega)
  refine ⟨_, X', by rw [w1]; exact hrun, by simpa using w2, w3, k2.trans w4, by simpa using w5, by simpa using w6⟩
end
end Go.Pm
