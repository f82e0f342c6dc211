/- Proved: the law RaftPlays of heartwoodlaw19 returns true for every input whose bulk is at most 1048576, and the inputs read behind the call as they read before. -/
import Derived.Test.YtndkpoacbheemaaGreatRows
import Derived.WalkKit
import Derived.ProofKit
import Derived.OpenShut
import Derived.ShutString
import Derived.ChangeOld
import Derived.Below
import Derived.SizedLaws
import Derived.Carry
import Derived.JoinedCond
import Derived.Test.YtndkpoacbheemaaGreatP32

namespace Go.Proofs.YtndkpoacbheemaaGreat.raftPlays
open Go.ChangeShapes Go.WideShapes Go.ChangeAt Go.RowKit Go.Pm
set_option linter.unusedVariables false
theorem own : ownKnob Tryz.prog.godebug = none := by kernel_rfl
theorem laidOut : laidOutB Tryz.prog = true := by kernel_rfl
/-! ### what the bound on the bulk gives -/
theorem one_le {H : Type} (d : DataW H) : 1 ≤ Rows.uptoBulk d := by
 cases d with
 | lit l => cases l <;> simp [Rows.uptoBulk]
 | nil => simp [Rows.uptoBulk]
 | ptr d => simp [Rows.uptoBulk]
 | slice elems spare => simp [Rows.uptoBulk]
 | agg parts => simp [Rows.uptoBulk]
 | iface t d => simp [Rows.uptoBulk]
 | map entries => simp [Rows.uptoBulk]
 | held h => simp [Rows.uptoBulk]
theorem part_le {H : Type} {d : DataW H} : ∀ {l : List (DataW H)}, d ∈ l → Rows.uptoBulk d ≤ Rows.uptoBulkAll l
 | x :: r, h => by
  simp only [Rows.uptoBulkAll]
  rcases List.mem_cons.1 h with rfl | h
  · omega
  · have := part_le h; omega
theorem length_le {H : Type} : ∀ (l : List (DataW H)), l.length ≤ Rows.uptoBulkAll l
 | [] => by simp
 | x :: r => by have := one_le x; have := length_le r; simp only [Rows.uptoBulkAll, List.length_cons]; omega
theorem mem_all {H : Type} {P : Program} {e : TypeId} {w : Nat} : ∀ {ds : List (DataW H)}, w ∈ DataW.weightsAll P e ds → ∃ d ∈ ds, w ∈ d.weights P e
 | [], h => by simp [DataW.weightsAll] at h
 | x :: r, h => by
  simp only [DataW.weightsAll, List.mem_append] at h
  rcases h with h | h
  · exact ⟨x, by simp, h⟩
  · obtain ⟨d, h1, h2⟩ := mem_all h
    exact ⟨d, List.mem_cons_of_mem _ h1, h2⟩
theorem mem_each {H : Type} {P : Program} {w : Nat} : ∀ {ts : List TypeId} {ds : List (DataW H)}, w ∈ DataW.weightsEach P ts ds → ∃ t ∈ ts, ∃ d ∈ ds, w ∈ d.weights P t
 | t :: ts, d :: ds, h => by
  simp only [DataW.weightsEach, List.mem_append] at h
  rcases h with h | h
  · exact ⟨t, by simp, d, by simp, h⟩
  · obtain ⟨t', h1, d', h2, h3⟩ := mem_each h
    exact ⟨t', List.mem_cons_of_mem _ h1, d', List.mem_cons_of_mem _ h2, h3⟩
 | [], _, h => by simp [DataW.weightsEach] at h
 | _ :: _, [], h => by simp [DataW.weightsEach] at h
/-- types of plain data whose elements have few bytes: each type's parts are among them -/
def smallS : List TypeId := [3,4,5,22,24,25,27,31,32,34,36,38,55,86]
def smallT (P : Program) (_ : Nat) (t : TypeId) : Bool := smallS.contains t && smallS.all fun t => match P.underlying t with
 | some .bool | some (.int _) | some .string => true
 | some (.slice e) => smallS.contains e && decide (P.bytesOf e ≤ 4096)
 | some (.struct fs) => fs.toList.all fun f => smallS.contains f.type
 | some (.array _ e) => smallS.contains e
 | _ => false
theorem smallT_step {P : Program} {t : TypeId} (h : smallT P 0 t = true) : (match P.underlying t with
   | some .bool | some (.int _) | some .string => true
   | some (.slice e) => smallT P 0 e && decide (P.bytesOf e ≤ 4096)
   | some (.struct fs) => fs.toList.all fun f => smallT P 0 f.type
   | some (.array _ e) => smallT P 0 e
   | _ => false) = true := by
 simp only [smallT, Bool.and_eq_true, List.contains_eq_mem, decide_eq_true_eq] at h
 have h2 := List.all_eq_true.1 h.2 t h.1
 have hm : ∀ e, decide (e ∈ smallS) = true → smallT P 0 e = true := fun e he => by
   simp only [smallT, List.contains_eq_mem, he, Bool.true_and]
   exact h.2
 split at h2 <;> first | rfl | skip
 · simp only [Bool.and_eq_true] at h2 ⊢
   exact ⟨hm _ h2.1, h2.2⟩
 · simp only [List.all_eq_true] at h2 ⊢
   exact fun f hf => hm _ (h2 f hf)
 · exact hm _ h2
 · cases h2
theorem weights_bulk0 {H : Type} : ∀ (k : Nat) (t : TypeId) (d : DataW H), Rows.uptoBulk d ≤ k → smallT Tryz.prog 0 t = true → ∀ w ∈ d.weights Tryz.prog t, w ≤ 4096 * Rows.uptoBulk d
 | 0, t, d, hk, hp, w, hw => by have := one_le d; omega
 | k + 1, t, d, hk, hp, w, hw => by
  replace hp := smallT_step hp
  have up : ∀ {l : List (DataW H)} {x : DataW H} {e : TypeId}, x ∈ l → Rows.uptoBulkAll l + 1 ≤ Rows.uptoBulk d → smallT Tryz.prog 0 e = true → w ∈ x.weights Tryz.prog e → w ≤ 4096 * Rows.uptoBulk d := fun {l x e} hx hl hpe hwx => by
   have h2 := part_le hx
   have h1 := weights_bulk0 k e x (by omega) hpe w hwx
   exact Nat.le_trans h1 (Nat.mul_le_mul_left _ (by omega))
  cases d with
  | lit l =>
   cases l with
   | string b =>
     simp only [DataW.weights, List.mem_singleton] at hw
     simp only [Rows.uptoBulk]; omega
   | _ => simp [DataW.weights] at hw
  | nil => simp [DataW.weights] at hw
  | ptr d =>
   simp only [DataW.weights] at hw
   split at hw
   · rename_i hu; rw [hu] at hp; simp at hp
   · simp at hw
  | slice elems spare =>
   simp only [DataW.weights] at hw
   split at hw
   · rename_i e hu
     rw [hu] at hp
     simp only [Bool.and_eq_true] at hp
     simp only [List.mem_cons, List.mem_append] at hw
     have h1 := length_le elems
     have h2 := length_le spare
     have hb : Rows.uptoBulk (.slice elems spare : DataW H) = Rows.uptoBulkAll elems + Rows.uptoBulkAll spare + 1 := by simp only [Rows.uptoBulk]
     rcases hw with hw | hw | hw
     · rw [hw, Nat.mul_comm]
       exact Nat.mul_le_mul (of_decide_eq_true hp.2) (by omega)
     · obtain ⟨x, h3, h4⟩ := mem_all hw
       exact up h3 (by omega) hp.1 h4
     · obtain ⟨x, h3, h4⟩ := mem_all hw
       exact up h3 (by omega) hp.1 h4
   · simp at hw
  | agg parts =>
   have hb : Rows.uptoBulk (.agg parts : DataW H) = Rows.uptoBulkAll parts + 1 := by simp only [Rows.uptoBulk]
   simp only [DataW.weights] at hw
   split at hw
   · rename_i fs hu
     rw [hu] at hp
     simp only [List.all_eq_true] at hp
     obtain ⟨t', h1, x, h2, h3⟩ := mem_each hw
     obtain ⟨f, h4, rfl⟩ := List.mem_map.1 h1
     exact up h2 (by omega) (hp f h4) h3
   · rename_i n e hu
     rw [hu] at hp
     obtain ⟨x, h2, h3⟩ := mem_all hw
     exact up h2 (by omega) hp h3
   · simp at hw
  | iface t d => simp [DataW.weights] at hw
  | map entries =>
   simp only [DataW.weights] at hw
   split at hw
   · rename_i hu; rw [hu] at hp; simp at hp
   · simp at hw
  | held h => simp [DataW.weights] at hw
theorem weights_bulk {H : Type} (k : Nat) (t : TypeId) (d : DataW H) (hp : smallT Tryz.prog k t = true) : ∀ w ∈ d.weights Tryz.prog t, w ≤ 4096 * Rows.uptoBulk d := weights_bulk0 _ t d (Nat.le_refl _) hp
theorem bulk_weights {H : Type} {ds : List (DataW H)} {d : DataW H} {t : TypeId} {k : Nat} (hk : Rows.uptoSmall H ds = true) (hp : smallT Tryz.prog k t = true) (hd : d ∈ ds) : ∀ w ∈ d.weights Tryz.prog t, w ≤ 4096 * 1048576 := fun w hw => by
 have h1 := weights_bulk k t d hp w hw
 have h2 := part_le hd
 have h3 : Rows.uptoBulkAll ds ≤ 1048576 := of_decide_eq_true hk
 exact Nat.le_trans h1 (Nat.mul_le_mul_left _ (by omega))
set_option maxRecDepth 100000 in
theorem lifted (os : Os) (started : os.Started) (H : Type) (enc : TypeId × Value → H) (F : Stop.Interp) :
  ReturnsInHanded {} Tryz.checked os 4 .any ((Rows.OpenSpec.upto Rows.raftPlaysSpec).pre6 enc Tryz.prog Tryz.f4 Rows.raftPlaysUptoRow.domain false) (((Rows.OpenSpec.upto Rows.raftPlaysSpec).at F).post enc Tryz.prog Tryz.f4 false true false false) := by
 refine returnsInHanded_of_cond (C := Tryz.checked) (s := (Rows.OpenSpec.upto Rows.raftPlaysSpec)) (k := Rows.uptoSmall) rfl own started (by kernel_rfl) Tryz.func4
  (OpenSpec.witness (enc := enc) (C := Tryz.checked) (s := (Rows.OpenSpec.upto Rows.raftPlaysSpec)) (k := Rows.uptoSmall) rfl false ⟨#[], #[.int .i64 0, .agg #[.int .i64 0, .int .i64 0, .slice none 0 0, .slice none 0 0], .slice none 0 0], []⟩ 8 (by kernel_rfl) (by kernel_rfl) (by kernel_rfl)
   (x := ([.lit (.int .i64 0), .agg [.agg [.lit (.int .i64 0), .lit (.int .i64 0), .nil], .nil], .nil], [], [])) (by kernel_rfl) rfl (by kernel_rfl)) ?_
 intro W base args ds gs before hval0 hW hcnd hk _
 have hval : ∀ (j : Nat) t v, Tryz.f4.params[j]? = some t → args[j]? = some v → Value.okWide Tryz.prog W .any base t v := hval0
 have hW' := hW
 obtain ⟨p, q, hA0, hV, rfl, hfz, hnd⟩ := hW
 have hA : DataW.TrodAll enc Tryz.prog W 0 (fun _ => true) true Tryz.f4.params.toList args.toList ds p := hA0
 rw [Tryz.params4] at hA hval
 obtain ⟨v0, vs0, d0, ds0, p0, q0, hargs, rfl, rfl, h0, r0⟩ := trodAll_cons hA
 obtain ⟨v1, vs1, d1, ds1, p1, q1, rfl, rfl, rfl, h1, r1⟩ := trodAll_cons r0
 obtain ⟨v2, vs2, d2, ds2, p2, q2, rfl, rfl, rfl, h2, r2⟩ := trodAll_cons r1
 obtain ⟨rfl, rfl, rfl⟩ := trodAll_nil r2
 obtain rfl : args = #[v0, v1, v2] := by cases args; simp_all
 obtain ⟨rfl, rfl⟩ := trodVars_none hV
 have lt0 : ∀ x ∈ p0, x.block < W.heap.size := by obtain ⟨m, hm⟩ := h0; exact DataW.trod_lt m _ _ _ hm
 obtain ⟨a0, u0, l0, m0, e0, y0⟩ := arg_M (X := ⟨fun _ => False, fun _ => none, [], W⟩) (fun b hb => hb) (fun b hb => by obtain ⟨l, z, hr, _⟩ := hb; simp [isRow] at hr) (k := 9) (by kernel_rfl) (hval 0 3 v0 rfl rfl) h0 (bulk_weights hk (k := 9) (by kernel_rfl) (by simp))
 have lt1 : ∀ x ∈ p1, x.block < W.heap.size := by obtain ⟨m, hm⟩ := h1; exact DataW.trod_lt m _ _ _ hm
 obtain ⟨a1, u1, l1, m1, e1, y1⟩ := arg_M (X := ⟨fun _ => False, fun _ => none, [], W⟩) (fun b hb => hb) (fun b hb => by obtain ⟨l, z, hr, _⟩ := hb; simp [isRow] at hr) (k := 9) (by kernel_rfl) (hval 1 27 v1 rfl rfl) h1 (bulk_weights hk (k := 9) (by kernel_rfl) (by simp))
 have lt2 : ∀ x ∈ p2, x.block < W.heap.size := by obtain ⟨m, hm⟩ := h2; exact DataW.trod_lt m _ _ _ hm
 obtain ⟨a2, u2, l2, m2, e2, y2⟩ := arg_M (X := ⟨fun _ => False, fun _ => none, [], W⟩) (fun b hb => hb) (fun b hb => by obtain ⟨l, z, hr, _⟩ := hb; simp [isRow] at hr) (k := 9) (by kernel_rfl) (hval 2 55 v2 rfl rfl) h2 (bulk_weights hk (k := 9) (by kernel_rfl) (by simp))
 refine (law_calls (C := C) C_I (fun g => rfl) (avs := [a0, a1, a2]) (by simp only [Ms]; exact ⟨_, _, rfl, m0, ⟨_, _, rfl, m1, ⟨_, _, rfl, m2, rfl⟩⟩⟩) (raftPlays_law e0 y0 e1 y1 e2 y2)).mono fun e W' ⟨he, bel⟩ => ?_
 subst he
 exact ⟨_, rfl, _, _, _, [], _, [], hW', trodAll_mk1 (shut_bool Tryz.underlying4 _), (trodAll_cons_mk (Below.trod laidOut (by kernel_rfl) (of_decide_eq_true (by kernel_rfl)) h0 bel lt0) (trodAll_cons_mk (Below.trod laidOut (by kernel_rfl) (of_decide_eq_true (by kernel_rfl)) h1 bel lt1) (trodAll_cons_mk (Below.trod laidOut (by kernel_rfl) (of_decide_eq_true (by kernel_rfl)) h2 bel lt2) trodAll_mk0))), rfl, bel.frame _, fun h => by cases h⟩
theorem over : Rows.raftPlaysUptoRow.holds Tryz.pinned (Rows.OpenSpec.upto Rows.raftPlaysSpec) :=
 OpenClaim.holds_of_cond 4 Tryz.f4 rfl rfl rfl rfl rfl rfl rfl ⟨rfl, rfl, rfl, rfl, rfl⟩ rfl rfl rfl rfl rfl (by kernel_rfl) Tryz.func4 (by kernel_rfl)
  (of_decide_eq_true (by kernel_rfl)) (by unfold Func.isWrapper; first | (rw [if_pos (by decide +kernel)]; kernel_rfl) | (rw [if_neg (by decide +kernel)]; exact ⟨rfl, rfl⟩))
  (fun os started H enc _ F => lifted os started H enc F)
theorem proved : Rows.RaftPlaysUptoSaid := over
#print axioms proved
end Go.Proofs.YtndkpoacbheemaaGreat.raftPlays
namespace Go.Proofs.YtndkpoacbheemaaGreat
/-- The row, under a short name, for the claim. -/
theorem raftPlays_holds : Rows.RaftPlaysUptoSaid := raftPlays.proved
end Go.Proofs.YtndkpoacbheemaaGreat
