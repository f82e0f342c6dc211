/- Proved: the law DiskKeeps of heartwoodlaw15 returns true for every input, and the inputs read behind the call as they read before. -/
import Derived.Test.YtahipmiaknbkoaaRows
import Derived.WalkKit
import Derived.ProofKit
import Derived.OpenShut
import Derived.ShutString
import Derived.ChangeOld
import Derived.Below
import Derived.SizedLaws
import Derived.Carry
import Derived.Test.YtahipmiaknbkoaaP15

namespace Go.Proofs.Ytahipmiaknbkoaa.diskKeeps
open Go.ChangeShapes Go.WideShapes Go.ChangeAt Go.RowKit Go.Pm
set_option linter.unusedVariables false
theorem own : ownKnob Try.prog.godebug = none := by kernel_rfl
theorem laidOut : laidOutB Try.prog = true := by kernel_rfl
set_option maxRecDepth 100000 in
theorem lifted (os : Os) (started : os.Started) (H : Type) (enc : TypeId × Value → H) :
    ReturnsInHanded {} Try.checked os 4 .any (Rows.diskKeepsSpec.pre6 enc Try.prog Try.f4 Rows.diskKeepsRow.domain false) (Rows.diskKeepsSpec.post enc Try.prog Try.f4 false true false false) := by
  refine returnsInHanded_of_change_sized (C := Try.checked) own started (by kernel_rfl) Try.func4
    (ChangeSpec.witness6 (enc := enc) (C := Try.checked) false ⟨#[], #[.slice none 0 0, .slice none 0 0, .int .i64 0, .slice none 0 0], []⟩ 8 (by kernel_rfl) (by kernel_rfl) (by kernel_rfl) (by kernel_rfl)) ?_
  intro W base args ds gs before hval0 hW hcnd hsz0 _
  have hval : ∀ (j : Nat) t v, Try.f4.params[j]? = some t → args[j]? = some v → Value.okWide Try.prog W .any base t v := hval0
  have hW' := hW
  obtain ⟨p, q, hA0, hV, rfl, hfz, hnd⟩ := hW
  have hA : DataW.TrodAll enc Try.prog W 0 (fun _ => true) true Try.f4.params.toList args.toList ds p := hA0
  have hsz : (DataW.weightsEach Try.prog (Try.f4.params.toList ++ Rows.diskKeepsSpec.plain.varTypes Try.prog) (ds ++ gs)).all (· ≤ reachBytes) = true := hsz0
  rw [Try.params4] at hA hval hsz
  obtain ⟨v0, vs0, d0, ds0, p0, q0, hargs, rfl, rfl, h0, r0⟩ := trodAll_cons hA
  obtain ⟨v1, vs1, d1, ds1, p1, q1, rfl, rfl, rfl, h1, r1⟩ := trodAll_cons r0
  obtain ⟨v2, vs2, d2, ds2, p2, q2, rfl, rfl, rfl, h2, r2⟩ := trodAll_cons r1
  obtain ⟨v3, vs3, d3, ds3, p3, q3, rfl, rfl, rfl, h3, r3⟩ := trodAll_cons r2
  obtain ⟨rfl, rfl, rfl⟩ := trodAll_nil r3
  obtain rfl : args = #[v0, v1, v2, v3] := by cases args; simp_all
  obtain ⟨rfl, rfl⟩ := trodVars_none hV
  have lt0 : ∀ x ∈ p0, x.block < W.heap.size := by obtain ⟨m, hm⟩ := h0; exact DataW.trod_lt m _ _ _ hm
  obtain ⟨a0, u0, l0, m0, e0, y0⟩ := arg_M (X := ⟨fun _ => False, fun _ => none, [], W⟩) (fun b hb => hb) (fun b hb => by obtain ⟨l, z, hr, _⟩ := hb; simp [isOwn, isRow, isMp] at hr) (k := 9) (by kernel_rfl) (hval 0 22 v0 rfl rfl) h0 (fun w hw => by have := List.all_eq_true.1 hsz w (DataW.weights_mem_each (j := 0) rfl rfl w hw); simpa using this)
  have lt1 : ∀ x ∈ p1, x.block < W.heap.size := by obtain ⟨m, hm⟩ := h1; exact DataW.trod_lt m _ _ _ hm
  obtain ⟨a1, u1, l1, m1, e1, y1⟩ := arg_M (X := ⟨fun _ => False, fun _ => none, [], W⟩) (fun b hb => hb) (fun b hb => by obtain ⟨l, z, hr, _⟩ := hb; simp [isOwn, isRow, isMp] at hr) (k := 9) (by kernel_rfl) (hval 1 33 v1 rfl rfl) h1 (fun w hw => by have := List.all_eq_true.1 hsz w (DataW.weights_mem_each (j := 1) rfl rfl w hw); simpa using this)
  have lt2 : ∀ x ∈ p2, x.block < W.heap.size := by obtain ⟨m, hm⟩ := h2; exact DataW.trod_lt m _ _ _ hm
  obtain ⟨a2, u2, l2, m2, e2, y2⟩ := arg_M (X := ⟨fun _ => False, fun _ => none, [], W⟩) (fun b hb => hb) (fun b hb => by obtain ⟨l, z, hr, _⟩ := hb; simp [isOwn, isRow, isMp] at hr) (k := 9) (by kernel_rfl) (hval 2 3 v2 rfl rfl) h2 (fun w hw => by have := List.all_eq_true.1 hsz w (DataW.weights_mem_each (j := 2) rfl rfl w hw); simpa using this)
  have lt3 : ∀ x ∈ p3, x.block < W.heap.size := by obtain ⟨m, hm⟩ := h3; exact DataW.trod_lt m _ _ _ hm
  obtain ⟨a3, u3, l3, m3, e3, y3⟩ := arg_M (X := ⟨fun _ => False, fun _ => none, [], W⟩) (fun b hb => hb) (fun b hb => by obtain ⟨l, z, hr, _⟩ := hb; simp [isOwn, isRow, isMp] at hr) (k := 9) (by kernel_rfl) (hval 3 34 v3 rfl rfl) h3 (fun w hw => by have := List.all_eq_true.1 hsz w (DataW.weights_mem_each (j := 3) rfl rfl w hw); simpa using this)
  refine (law_calls (C := C) C_I (fun g => rfl) (avs := [a0, a1, a2, a3]) (by simp only [Ms]; exact ⟨_, _, rfl, m0, ⟨_, _, rfl, m1, ⟨_, _, rfl, m2, ⟨_, _, rfl, m3, rfl⟩⟩⟩⟩) (diskKeeps_law e0 y0 e1 y1 e2 y2 e3 y3)).mono fun e W' ⟨he, bel⟩ => ?_
  subst he
  exact ⟨_, rfl, _, _, _, [], _, [], hW', trodAll_mk1 (shut_bool Try.underlying4 _), (trodAll_cons_mk (Below.trod laidOut (by kernel_rfl) (of_decide_eq_true (by kernel_rfl)) h0 bel lt0) (trodAll_cons_mk (Below.trod laidOut (by kernel_rfl) (of_decide_eq_true (by kernel_rfl)) h1 bel lt1) (trodAll_cons_mk (Below.trod laidOut (by kernel_rfl) (of_decide_eq_true (by kernel_rfl)) h2 bel lt2) (trodAll_cons_mk (Below.trod laidOut (by kernel_rfl) (of_decide_eq_true (by kernel_rfl)) h3 bel lt3) trodAll_mk0)))), rfl, bel.frame _, fun h => by cases h⟩
theorem over : Rows.diskKeepsRow.holds Try.pinned (OpenSpec.ofChange Rows.diskKeepsSpec) :=
  OpenClaim.holds_of_wide 4 Try.f4 rfl rfl rfl rfl rfl rfl rfl ⟨rfl, rfl, rfl, rfl, rfl⟩ rfl rfl rfl rfl rfl (by kernel_rfl) Try.func4 (by kernel_rfl)
    (of_decide_eq_true (by kernel_rfl)) (by unfold Func.isWrapper; first | (rw [if_pos (by decide +kernel)]; kernel_rfl) | (rw [if_neg (by decide +kernel)]; exact ⟨rfl, rfl⟩))
    (fun os started H enc _ => lifted os started H enc)
theorem proved : Rows.DiskKeepsSaid := over
#print axioms proved
end Go.Proofs.Ytahipmiaknbkoaa.diskKeeps
namespace Go.Proofs.Ytahipmiaknbkoaa
/-- The row, under a short name, for the claim. -/
theorem diskKeeps_holds : Rows.DiskKeepsSaid := diskKeeps.proved
end Go.Proofs.Ytahipmiaknbkoaa
