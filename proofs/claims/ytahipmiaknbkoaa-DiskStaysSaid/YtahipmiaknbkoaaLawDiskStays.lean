/- Proved: the law DiskStays of heartwoodlaw15 returns true for every input, and the input reads behind the call as it read before. -/
import Derived.Test.YtahipmiaknbkoaaRows
import Derived.WalkKit
import Derived.ProofKit
import Derived.OpenShut
import Derived.ShutString
import Derived.ChangeOld
import Derived.Below
import Derived.SizedLaws
import Derived.Carry
import Derived.Test.YtahipmiaknbkoaaP15

namespace Go.Proofs.Ytahipmiaknbkoaa.diskStays
open Go.ChangeShapes Go.WideShapes Go.ChangeAt Go.RowKit Go.Pm
set_option linter.unusedVariables false
theorem own : ownKnob Try.prog.godebug = none := by kernel_rfl
theorem laidOut : laidOutB Try.prog = true := by kernel_rfl
set_option maxRecDepth 100000 in
theorem lifted (os : Os) (started : os.Started) (H : Type) (enc : TypeId × Value → H) :
    ReturnsInHanded {} Try.checked os 3 .any (Rows.diskStaysSpec.pre6 enc Try.prog Try.f3 Rows.diskStaysRow.domain false) (Rows.diskStaysSpec.post enc Try.prog Try.f3 false true false false) := by
  refine returnsInHanded_of_change_sized (C := Try.checked) own started (by kernel_rfl) Try.func3
    (ChangeSpec.witness6 (enc := enc) (C := Try.checked) false ⟨#[], #[.slice none 0 0], []⟩ 8 (by kernel_rfl) (by kernel_rfl) (by kernel_rfl) (by kernel_rfl)) ?_
  intro W base args ds gs before hval0 hW hcnd hsz0 _
  have hval : ∀ (j : Nat) t v, Try.f3.params[j]? = some t → args[j]? = some v → Value.okWide Try.prog W .any base t v := hval0
  have hW' := hW
  obtain ⟨p, q, hA0, hV, rfl, hfz, hnd⟩ := hW
  have hA : DataW.TrodAll enc Try.prog W 0 (fun _ => true) true Try.f3.params.toList args.toList ds p := hA0
  have hsz : (DataW.weightsEach Try.prog (Try.f3.params.toList ++ Rows.diskStaysSpec.plain.varTypes Try.prog) (ds ++ gs)).all (· ≤ reachBytes) = true := hsz0
  rw [Try.params3] at hA hval hsz
  obtain ⟨v0, vs0, d0, ds0, p0, q0, hargs, rfl, rfl, h0, r0⟩ := trodAll_cons hA
  obtain ⟨rfl, rfl, rfl⟩ := trodAll_nil r0
  obtain rfl : args = #[v0] := by cases args; simp_all
  obtain ⟨rfl, rfl⟩ := trodVars_none hV
  have lt0 : ∀ x ∈ p0, x.block < W.heap.size := by obtain ⟨m, hm⟩ := h0; exact DataW.trod_lt m _ _ _ hm
  obtain ⟨a0, u0, l0, m0, e0, y0⟩ := arg_M (X := ⟨fun _ => False, fun _ => none, [], W⟩) (fun b hb => hb) (fun b hb => by obtain ⟨l, z, hr, _⟩ := hb; simp [isOwn, isRow, isMp] at hr) (k := 9) (by kernel_rfl) (hval 0 22 v0 rfl rfl) h0 (fun w hw => by have := List.all_eq_true.1 hsz w (DataW.weights_mem_each (j := 0) rfl rfl w hw); simpa using this)
  refine (law_calls (C := C) C_I (fun g => rfl) (avs := [a0]) (by simp only [Ms]; exact ⟨_, _, rfl, m0, rfl⟩) (diskStays_law e0 y0)).mono fun e W' ⟨he, bel⟩ => ?_
  subst he
  exact ⟨_, rfl, _, _, _, [], _, [], hW', trodAll_mk1 (shut_bool Try.underlying4 _), (trodAll_cons_mk (Below.trod laidOut (by kernel_rfl) (of_decide_eq_true (by kernel_rfl)) h0 bel lt0) trodAll_mk0), rfl, bel.frame _, fun h => by cases h⟩
theorem over : Rows.diskStaysRow.holds Try.pinned (OpenSpec.ofChange Rows.diskStaysSpec) :=
  OpenClaim.holds_of_wide 3 Try.f3 rfl rfl rfl rfl rfl rfl rfl ⟨rfl, rfl, rfl, rfl, rfl⟩ rfl rfl rfl rfl rfl (by kernel_rfl) Try.func3 (by kernel_rfl)
    (of_decide_eq_true (by kernel_rfl)) (by unfold Func.isWrapper; first | (rw [if_pos (by decide +kernel)]; kernel_rfl) | (rw [if_neg (by decide +kernel)]; exact ⟨rfl, rfl⟩))
    (fun os started H enc _ => lifted os started H enc)
theorem proved : Rows.DiskStaysSaid := over
#print axioms proved
end Go.Proofs.Ytahipmiaknbkoaa.diskStays
namespace Go.Proofs.Ytahipmiaknbkoaa
/-- The row, under a short name, for the claim. -/
theorem diskStays_holds : Rows.DiskStaysSaid := diskStays.proved
end Go.Proofs.Ytahipmiaknbkoaa
