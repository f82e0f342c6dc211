/- A part of the proof: what the functions of the program answer, as plain lists and numbers. -/
import Derived.RowKit
import Derived.WalkKit
import Derived.Lib.Walk
import Derived.Test.YtaoklfecdcakbaaDoorP10
namespace Go.Pm
open Go.Proofs Go.RowKit
set_option linter.unusedVariables false
set_option linter.unusedSimpArgs false
theorem toBytes_ints : ∀ {x : List AV} {l : List UInt8}, toBytes x = some l → ∃ xs : List Int, x = xs.map (AV.int .u8) ∧ l = Lib.bytesOf xs
  | [], l, h => by simp only [toBytes, Option.some.injEq] at h; exact ⟨[], rfl, h.symm⟩
  | v :: es, l, h => by
    unfold toBytes at h
    split at h
    · cases ‹v :: es = []›
    · rename_i n es' he
      injection he with he1 he2; subst he1; subst he2
      simp only [Option.map_eq_some_iff] at h
      obtain ⟨m, h1, rfl⟩ := h
      obtain ⟨xs, rfl, rfl⟩ := toBytes_ints h1
      exact ⟨n :: xs, rfl, rfl⟩
    · cases h
theorem bytesOf_ok {X : Cx} {P : Program} {x : List AV} {l : List UInt8} {v : Value} (h : toBytes x = some l) (hm : M X (.lst x) v) : (Extern.Bytes.bytesOf v).run P X.w = .ok ⟨l.toArray⟩ X.w := by
  obtain ⟨xs, rfl, rfl⟩ := toBytes_ints h
  unfold M at hm
  obtain ⟨A, c, rfl, h1, h2, h3⟩ := hm
  by_cases hx : xs = []
  · subst hx
    cases A with
    | none => rfl
    | some a => rfl
  · obtain ⟨b, o, z, rfl, h4, h5, h6⟩ := h3 (by simpa using hx)
    have hl := Lib.run_loadBytesX (P := P) X.w xs ⟨b, o, none⟩ .empty (fun j y hj => by
      have e : (⟨b, o, none⟩ : Addr).add j = ⟨b, o + j, none⟩ := by unfold Addr.add; split <;> simp_all
      have hg : (xs.map (AV.int .u8))[j]? = some (.int .u8 y) := by simp [hj]
      obtain ⟨k1, k2⟩ := Me_get h6 hg
      have hz : z = 1 := by simpa [AV.cells] using k1.symm
      subst hz
      simp only [AV.cells, Mc, Nat.mul_one] at k2
      obtain ⟨⟨u, k3, k4⟩, _⟩ := k2
      unfold M at k4
      subst k4
      rw [e, cell?_plain, k3])
    show (Extern.Bytes.loadBytes ⟨b, o, none⟩ (xs.map (AV.int .u8)).length .empty).run P X.w = _
    rw [List.length_map, hl]
    congr 1
    apply ByteArray.ext
    show (#[] : Array UInt8) ++ (Lib.bytesOf xs).toArray = (Lib.bytesOf xs).toArray
    simp
theorem compare_run {X : Cx} {P : Program} {x y : List AV} {l m : List UInt8} {u v : Value} (hx : toBytes x = some l) (hy : toBytes y = some m) (hu : M X (.lst x) u) (hv : M X (.lst y) v) :
    (Extern.BytealgCompare.compare #[u, v]).run P X.w = .ok (.int .i64 (Lib.compareBytes l m)) X.w := by
  change Sem.run P (do pure (goInt (Extern.BytealgCompare.cmp (← Extern.Bytes.bytesOf u) (← Extern.Bytes.bytesOf v)))) X.w = _
  simp only [Sem.run_bind, bytesOf_ok hx hu, bytesOf_ok hy hv, Result.andThen, Sem.run_pure]
  rw [Lib.cmp_eq]
  rfl
set_option maxHeartbeats 1000000 in
set_option maxRecDepth 100000 in
theorem compare_ok (a : List AV) (H : List AObj) (r : R3) (h : cmpF a H = some r) : SpecR C.P C.G n_bytes_Compare a H r := by
  unfold cmpF at h
  split at h
  · rename_i x y
    simp only [Option.bind_eq_some_iff] at h
    obtain ⟨l, hx, m, hy, h⟩ := h
    injection h with h; subst h
    intro X cargs hH hR hM
    simp only [Ms] at hM
    obtain ⟨u, us, e1, mu, v, vs, rfl, mv, rfl⟩ := hM
    obtain rfl : cargs = #[u, v] := by cases cargs; simp_all
    have run := compare_run (P := Tryd.prog) hx hy mu mv
    have key : Calls Tryd.prog 73 #[u, v] X.w fun e w' => e = .returned (.int .i64 (Lib.compareBytes l m)) ∧ w' = X.w := by
      go_enter Tryd.func73, Tryd.ntmps73
      go_wp2
      rw [run_callFunc_extern Tryd.func113 (by kernel_rfl) (by kernel_rfl) (by kernel_rfl) (e := Extern.BytealgCompare.compare) (by kernel_rfl), run]
      simp only [Result.andThen]
      rw [Oper.upon_value]
      go_wp2
      go_ret
      exact ⟨rfl, rfl⟩
    refine key.mono fun e w' he => ?_
    obtain ⟨rfl, rfl⟩ := he
    exact ⟨_, X, rfl, rfl, hH, hR, Ext.refl X, EscI.refl _, by simp [M]⟩
  · cases h
end Go.Pm
