/- Proved: the law WalStays of heartwoodlaw16 returns true for every input, and the inputs read behind the call as they read before. -/
import Derived.Test.YtahipmiaknbkoaaRows
import Derived.WalkKit
import Derived.ProofKit
import Derived.OpenShut
import Derived.ShutString
import Derived.ChangeOld
import Derived.Below
import Derived.SizedLaws
import Derived.Carry
import Derived.Test.YtahipmiaknbkoaaP49

namespace Go.Proofs.Ytahipmiaknbkoaa.walStays
open Go.ChangeShapes Go.WideShapes Go.ChangeAt Go.RowKit Go.Pm
set_option linter.unusedVariables false
theorem own : ownKnob Try.prog.godebug = none := by kernel_rfl
theorem laidOut : laidOutB Try.prog = true := by kernel_rfl
set_option maxRecDepth 100000 in
theorem lifted (os : Os) (started : os.Started) (H : Type) (enc : TypeId × Value → H) :
    ReturnsInHanded {} Try.checked os 7 .any (Rows.walStaysSpec.pre6 enc Try.prog Try.f7 Rows.walStaysRow.domain false) (Rows.walStaysSpec.post enc Try.prog Try.f7 false true false false) := by
  refine returnsInHanded_of_change_sized (C := Try.checked) own started (by kernel_rfl) Try.func7
    (ChangeSpec.witness6 (enc := enc) (C := Try.checked) false ⟨#[], #[.slice none 0 0, .slice none 0 0], []⟩ 8 (by kernel_rfl) (by kernel_rfl) (by kernel_rfl) (by kernel_rfl)) ?_
  intro W base args ds gs before hval0 hW hcnd hsz0 _
  have hval : ∀ (j : Nat) t v, Try.f7.params[j]? = some t → args[j]? = some v → Value.okWide Try.prog W .any base t v := hval0
  have hW' := hW
  obtain ⟨p, q, hA0, hV, rfl, hfz, hnd⟩ := hW
  have hA : DataW.TrodAll enc Try.prog W 0 (fun _ => true) true Try.f7.params.toList args.toList ds p := hA0
  have hsz : (DataW.weightsEach Try.prog (Try.f7.params.toList ++ Rows.walStaysSpec.plain.varTypes Try.prog) (ds ++ gs)).all (· ≤ reachBytes) = true := hsz0
  rw [Try.params7] at hA hval hsz
  obtain ⟨v0, vs0, d0, ds0, p0, q0, hargs, rfl, rfl, h0, r0⟩ := trodAll_cons hA
  obtain ⟨v1, vs1, d1, ds1, p1, q1, rfl, rfl, rfl, h1, r1⟩ := trodAll_cons r0
  obtain ⟨rfl, rfl, rfl⟩ := trodAll_nil r1
  obtain rfl : args = #[v0, v1] := by cases args; simp_all
  obtain ⟨rfl, rfl⟩ := trodVars_none hV
  have lt0 : ∀ x ∈ p0, x.block < W.heap.size := by obtain ⟨m, hm⟩ := h0; exact DataW.trod_lt m _ _ _ hm
  obtain ⟨a0, u0, l0, m0, e0, y0⟩ := arg_M (X := ⟨fun _ _ => False, fun _ => none, [], W⟩) (fun b k hb => hb) (fun b hb => by obtain ⟨l, z, hr, _⟩ := hb; simp [isOwn, isRow, isMp] at hr) (k := 9) (by kernel_rfl) (hval 0 22 v0 rfl rfl) h0 (fun w hw => by have := List.all_eq_true.1 hsz w (DataW.weights_mem_each (j := 0) rfl rfl w hw); simpa using this)
  have lt1 : ∀ x ∈ p1, x.block < W.heap.size := by obtain ⟨m, hm⟩ := h1; exact DataW.trod_lt m _ _ _ hm
  obtain ⟨a1, u1, l1, m1, e1, y1⟩ := arg_M (X := ⟨fun _ _ => False, fun _ => none, [], W⟩) (fun b k hb => hb) (fun b hb => by obtain ⟨l, z, hr, _⟩ := hb; simp [isOwn, isRow, isMp] at hr) (k := 9) (by kernel_rfl) (hval 1 22 v1 rfl rfl) h1 (fun w hw => by have := List.all_eq_true.1 hsz w (DataW.weights_mem_each (j := 1) rfl rfl w hw); simpa using this)
  refine (law_calls (C := C) C_I (fun g => rfl) (avs := [a0, a1]) (by simp only [Ms]; exact ⟨_, _, rfl, m0, ⟨_, _, rfl, m1, rfl⟩⟩) (walStays_law e0 y0 e1 y1)).mono fun e W' ⟨he, bel⟩ => ?_
  subst he
  exact ⟨_, rfl, _, _, _, [], _, [], hW', trodAll_mk1 (shut_bool Try.underlying4 _), (trodAll_cons_mk (Below.trod laidOut (by kernel_rfl) (of_decide_eq_true (by kernel_rfl)) h0 bel lt0) (trodAll_cons_mk (Below.trod laidOut (by kernel_rfl) (of_decide_eq_true (by kernel_rfl)) h1 bel lt1) trodAll_mk0)), rfl, bel.frame _, fun h => by cases h⟩
theorem over : Rows.walStaysRow.holds Try.pinned (OpenSpec.ofChange Rows.walStaysSpec) :=
  OpenClaim.holds_of_wide 7 Try.f7 rfl rfl rfl rfl rfl rfl rfl ⟨rfl, rfl, rfl, rfl, rfl⟩ rfl rfl rfl rfl rfl (by kernel_rfl) Try.func7 (by kernel_rfl)
    (of_decide_eq_true (by kernel_rfl)) (by unfold Func.isWrapper; first | (rw [if_pos (by decide +kernel)]; kernel_rfl) | (rw [if_neg (by decide +kernel)]; exact ⟨rfl, rfl⟩))
    (fun os started H enc _ => lifted os started H enc)
theorem proved : Rows.WalStaysSaid := over
#print axioms proved
end Go.Proofs.Ytahipmiaknbkoaa.walStays
namespace Go.Proofs.Ytahipmiaknbkoaa
/-- The row, under a short name, for the claim. -/
theorem walStays_holds : Rows.WalStaysSaid := walStays.proved
end Go.Proofs.Ytahipmiaknbkoaa
