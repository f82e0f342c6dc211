/- Proved: the law FoldStays of heartwoodlaw13 returns true for every input, and the inputs read behind the call as they read before. -/
import Derived.Test.YtaoklfecdcakbaaDoorRows
import Derived.WalkKit
import Derived.ProofKit
import Derived.OpenShut
import Derived.ShutString
import Derived.ChangeOld
import Derived.Below
import Derived.SizedLaws
import Derived.Carry
import Derived.Test.YtaoklfecdcakbaaDoorCards
import Derived.Test.YtaoklfecdcakbaaDoorTie
import Derived.Deep.DeepHandedRow
import Derived.Lib.LaidTab
import Derived.Test.YtaoklfecdcakbaaDoorP37

namespace Go.Proofs.YtaoklfecdcakbaaDoor.foldStays
open Go.ChangeShapes Go.WideShapes Go.ChangeAt Go.RowKit Go.Pm
set_option linter.unusedVariables false
theorem own : ownKnob Tryd.prog.godebug = none := by kernel_rfl
theorem laidOut : laidOutB Tryd.prog = true := by kernel_rfl
set_option maxRecDepth 100000 in
/-- A world for the witness: the two variables hold what their initialisers lay. -/
noncomputable def laidWorld (os : Os) : World :=
  { World.holding Tryd.prog os ⟨#[], #[], []⟩ with heap := (((World.holding Tryd.prog os ⟨#[], #[], []⟩).heap.modify 1 (fun x => match x with
      | .cells _ t frozen => .cells (hZ.map (Value.int .u32)).toArray t frozen
      | o => o)).modify 2 (fun x => match x with
      | .cells _ t frozen => .cells (kZ.map (Value.int .u32)).toArray t frozen
      | o => o)) }
theorem laid_met (os : Os) : laidMet Tryd.prog Rows.foldStaysRow.laid ((laidWorld os).forCall (fun _ _ => 0) ⟨#[], #[.slice none 0 0, .agg #[.int .i64 0, .int .i64 0, .slice none 0 0]], []⟩).memory :=
  laidMet_of_run' 8 (by kernel_rfl) (by kernel_rfl)

theorem reads (os : Os) {H : Type} (enc : TypeId × Value → H) : ∃ ds places, DataW.whole enc Tryd.prog ((laidWorld os).forCall (fun _ _ => 0) ⟨#[], #[.slice none 0 0, .agg #[.int .i64 0, .int .i64 0, .slice none 0 0]], []⟩).memory Tryd.f4.params.toList Rows.foldStaysSpec.vars false #[.slice none 0 0, .agg #[.int .i64 0, .int .i64 0, .slice none 0 0]].toList 8 = some (ds, [], places) :=
  ⟨[.nil, .agg [.lit (.int .i64 0), .lit (.int .i64 0), .nil]], [], by kernel_rfl⟩
set_option maxRecDepth 100000 in
theorem lifted (os : Os) (started : os.Started) (H : Type) (enc : TypeId × Value → H) (F : Stop.Interp) :
    ReturnsInHanded {} Tryd.checked os 4 .any ((OpenSpec.ofChange Rows.foldStaysSpec).preRow enc Tryd.prog Tryd.f4 Rows.foldStaysRow.domain false Rows.foldStaysRow.laid) (((OpenSpec.ofChange Rows.foldStaysSpec).at F).post enc Tryd.prog Tryd.f4 false true false false) := by
  obtain ⟨ds0, places, hx⟩ := reads os enc
  refine returnsInHanded_of_row (C := Tryd.checked) (s := OpenSpec.ofChange Rows.foldStaysSpec) own started (by kernel_rfl) Tryd.func4
    (witness_row_at (enc := enc) (C := Tryd.checked) false (laidWorld os) #[.slice none 0 0, .agg #[.int .i64 0, .int .i64 0, .slice none 0 0]] rfl (by kernel_rfl) (by kernel_rfl) (by kernel_rfl)
      (OpenSpec.preRow_of_cond 8 hx (by kernel_rfl) (fun k hk => by cases hk) (by kernel_rfl) (laid_met os))) ?_
  intro W base args ds gs before hval0 hW hcnd _ hsz0 hL _ _
  have hval : ∀ (j : Nat) t v, Tryd.f4.params[j]? = some t → args[j]? = some v → Value.okWide Tryd.prog W .any base t v := hval0
  have hW' := hW
  obtain ⟨p, q, hA0, hV, rfl, hfz, hnd⟩ := hW
  have hA : DataW.TrodAll enc Tryd.prog W 0 (fun _ => true) true Tryd.f4.params.toList args.toList ds p := hA0
  have hsz : (DataW.weightsEach Tryd.prog (Tryd.f4.params.toList ++ Rows.foldStaysSpec.plain.varTypes Tryd.prog) (ds ++ gs)).all (· ≤ reachBytes) = true := hsz0
  rw [Tryd.params4] at hA hval hsz
  obtain ⟨v0, vs0, d0, ds0, p0, q0, hargs, rfl, rfl, h0, r0⟩ := trodAll_cons hA
  obtain ⟨v1, vs1, d1, ds1, p1, q1, rfl, rfl, rfl, h1, r1⟩ := trodAll_cons r0
  obtain ⟨rfl, rfl, rfl⟩ := trodAll_nil r1
  obtain rfl : args = #[v0, v1] := by cases args; simp_all
  obtain ⟨rfl, rfl⟩ := trodVars_none hV
  have lt0 : ∀ x ∈ p0, x.block < W.heap.size := by obtain ⟨m, hm⟩ := h0; exact DataW.trod_lt m _ _ _ hm
  obtain ⟨a0, u0, l0, m0, e0, y0⟩ := arg_M (X := ⟨fun _ _ => False, fun _ => none, [], W⟩) (fun b k hb => hb) (fun b hb => by obtain ⟨l, z, hr, _⟩ := hb; simp [isOwn, isRow, isMp] at hr) (k := 9) (by kernel_rfl) (hval 0 45 v0 rfl rfl) h0 (fun w hw => by have := List.all_eq_true.1 hsz w (DataW.weights_mem_each (j := 0) rfl rfl w hw); simpa using this)
  have lt1 : ∀ x ∈ p1, x.block < W.heap.size := by obtain ⟨m, hm⟩ := h1; exact DataW.trod_lt m _ _ _ hm
  obtain ⟨a1, u1, l1, m1, e1, y1⟩ := arg_M (X := ⟨fun _ _ => False, fun _ => none, [], W⟩) (fun b k hb => hb) (fun b hb => by obtain ⟨l, z, hr, _⟩ := hb; simp [isOwn, isRow, isMp] at hr) (k := 9) (by kernel_rfl) (hval 1 65 v1 rfl rfl) h1 (fun w hw => by have := List.all_eq_true.1 hsz w (DataW.weights_mem_each (j := 1) rfl rfl w hw); simpa using this)
  refine (law_callsG (C := C) C_I (laid_G hL) C_B (avs := [a0, a1]) (by simp only [Ms]; exact ⟨_, _, rfl, m0, ⟨_, _, rfl, m1, rfl⟩⟩) (foldStays_law e0 y0 e1 y1)).mono fun e W' ⟨he, bel⟩ => ?_
  subst he
  exact ⟨_, rfl, _, _, _, [], _, [], hW', trodAll_mk1 (shut_bool Tryd.underlying4 _), (trodAll_cons_mk (Below.trod laidOut (by kernel_rfl) (of_decide_eq_true (by kernel_rfl)) h0 bel lt0) (trodAll_cons_mk (Below.trod laidOut (by kernel_rfl) (of_decide_eq_true (by kernel_rfl)) h1 bel lt1) trodAll_mk0)), rfl, bel.frame _, fun h => by cases h⟩
theorem over : Rows.foldStaysRow.holds Tryd.pinned (OpenSpec.ofChange Rows.foldStaysSpec) :=
  OpenClaim.holds_of_cond 4 Tryd.f4 rfl rfl rfl rfl rfl rfl rfl ⟨rfl, rfl, rfl, rfl, rfl⟩ rfl rfl rfl rfl rfl (by kernel_rfl) Tryd.func4 (by kernel_rfl)
    (of_decide_eq_true (by kernel_rfl)) (by unfold Func.isWrapper; first | (rw [if_pos (by decide +kernel)]; kernel_rfl) | (rw [if_neg (by decide +kernel)]; exact ⟨rfl, rfl⟩))
    (fun os started H enc _ F => by rw [OpenClaim.pre_eq_preRow]; exact lifted os started H enc F)
theorem proved : Rows.FoldStaysSaid := over
/-- No parameter wants a stand-in; the own looks are off. -/
theorem plain (f : FuncId) (fn : Func) (hf : Tryd.pinned.checked.prog.funcNamed "heartwood/heartwoodlaw13.FoldStays" = some f) (hfn : Tryd.pinned.checked.prog.funcs[f]? = some fn) :
    true = Tryd.pinned.checked.prog.looks [] ∧ ∀ (j : Nat) t, fn.params[j]? = some t → Tryd.pinned.checked.prog.wantsStandIn t = false := by
  obtain rfl : f = 4 := Option.some.inj ((show Tryd.prog.funcNamed "heartwood/heartwoodlaw13.FoldStays" = some 4 by kernel_rfl).symm.trans hf) |>.symm
  obtain rfl : fn = Tryd.f4 := (Option.some.inj (Tryd.func4.symm.trans hfn)).symm
  refine ⟨by kernel_rfl, fun j t ht => ?_⟩
  rw [Tryd.params4] at ht
  have hm : t ∈ [45, 65] := by simpa using Array.mem_of_getElem? ht
  have hall : ([45, 65] : List TypeId).all (fun t => Tryd.prog.wantsStandIn t == false) = true := by kernel_rfl
  have := List.all_eq_true.1 hall t hm
  exact (show Tryd.prog.wantsStandIn t = false by simpa using this)
theorem card : Rows.FoldStaysCardSaid :=
  Claim7.holds_tied_plain_at .later [] _ _ _ _ proved (fun _ h => by cases h) (by kernel_rfl) (fun _ h => by cases h) foldStays_row_tie rfl ⟨rfl, rfl⟩ (by kernel_rfl) rfl plain (by kernel_rfl)
#print axioms card
end Go.Proofs.YtaoklfecdcakbaaDoor.foldStays
namespace Go.Proofs.YtaoklfecdcakbaaDoor
/-- The row, under a short name, for the claim. -/
theorem foldStays_holds : Rows.FoldStaysCardSaid := foldStays.card
end Go.Proofs.YtaoklfecdcakbaaDoor
