/- A part of the proof: what the functions of the program answer, as plain lists and numbers. -/
import Derived.WideShapes
import Derived.Test.YtahipmiaknbkoaaP6
namespace Go.Pm
set_option linter.unusedVariables false
set_option linter.unusedSimpArgs false
theorem arg_M {B : Nat} {P : Program} {X : Cx} {H : Type} {enc : TypeId × Value → H} {base base' : Nat} {r : Reach} {W : World} {spare : Nat → Bool} {held : Bool} (hF : ∀ b, ¬ X.F b) (hw : ∀ b, ¬ X.wr b) {k : Nat} {t : TypeId} {v : Value} {d : DataW H} {ps : List MemPlace}
    (hp : plainT P k t = true) (hv : Value.okWide P W r base' t v) (h : DataW.Trod enc P X.w base spare held t v d ps) (hwt : ∀ w ∈ d.weights P t, w ≤ B) : ∃ (a : AV) (fuel : Nat) (avs : List AV), M X a v ∧ a = mkE (agT P t) avs ∧ tyC P B fuel t avs := by
  obtain ⟨fuel, hf⟩ := h
  obtain ⟨avs, h1, h2, h3, h4⟩ := trod_M hF hw fuel k t _ _ _ hp hf hwt
  refine ⟨mkE (agT P t) avs, fuel, avs, ?_, rfl, h2⟩
  cases ha : agT P t with
  | true =>
    have : ∃ cs, v = .agg cs := by
      unfold Value.okWide at hv
      unfold agT at ha
      split at ha
      · rename_i hu; rw [hu] at hv; obtain ⟨cs, e, _⟩ := hv; exact ⟨cs, e⟩
      · rename_i hu; rw [hu] at hv; obtain ⟨cs, e, _⟩ := hv; exact ⟨cs, e⟩
      · cases ha
    obtain ⟨cs, rfl⟩ := this
    simp only [mkE, if_true]
    unfold M
    exact ⟨cs, rfl, h1⟩
  | false =>
    have hl := h4 ha
    have hc : v.cells.toList = [v] := by
      · obtain ⟨hp1, hp2⟩ : plainS P (closeL P k [t]) = true ∧ (closeL P k [t]).contains t = true := by
          unfold plainT at hp; simpa only [Bool.and_eq_true] using hp
        replace hp := List.all_eq_true.1 hp1 t (by simpa using hp2)
        unfold Value.okWide at hv
        unfold agT at ha
        split at hp
        · rename_i hu; rw [hu] at hv; simp only [Cell.okWide, hu] at hv; cases v <;> simp_all [Cell.ok, Value.cells]
        · rename_i hu; rw [hu] at hv; simp only [Cell.okWide, hu] at hv; cases v <;> simp_all [Cell.ok, Value.cells]
        · rename_i hu; rw [hu] at hv; simp only [Cell.okWide, hu] at hv; cases v <;> simp_all [Cell.ok, Value.cells]
        · rename_i hu; rw [hu] at hv; simp only [Cell.okWide, hu] at hv; cases v <;> simp_all [Cell.ok, Value.cells]
        · rename_i hu; rw [hu] at ha; cases ha
        · rename_i hu; rw [hu] at ha; cases ha
        · cases hp
    rw [hc] at h1
    rcases avs with _ | ⟨a, _ | ⟨b, l⟩⟩
    · simp at hl
    · simp only [mkE, Bool.false_eq_true, if_false, List.headD_cons]
      obtain ⟨u, us, e1, e2, e3⟩ := h1
      injection e1 with e1 e4; subst e1; exact e2
    · simp at hl
end Go.Pm
namespace Go.Pm
set_option linter.unusedVariables false
set_option linter.unusedSectionVars false
set_option linter.unusedSimpArgs false
structure KeyT (α : Type) [DecidableEq α] (kv : α → AV) (d : TypeDesc) : Prop where
  eq : ∀ a b, eqK (kv a) (kv b) = some (decide (a = b))
  ok : ∀ a, keyOk (some d) (kv a) = true
section
variable {α β : Type} [DecidableEq α] {kv : α → AV} {vv : β → AV} {d : TypeDesc}
def entA (kv : α → AV) (vv : β → AV) (p : α × β) : AV × AV := (kv p.1, vv p.2)
def mpo (kv : α → AV) (vv : β → AV) (es : List (α × β)) : AObj := .mp (es.map (entA kv vv))
def getL (k : α) : List (α × β) → Option β
  | [] => none
  | p :: es => if k = p.1 then some p.2 else getL k es
def putL (k : α) (v : β) : List (α × β) → List (α × β)
  | [] => [(k, v)]
  | p :: es => if k = p.1 then (k, v) :: es else p :: putL k v es
def delL (k : α) : List (α × β) → List (α × β)
  | [] => []
  | p :: es => if k = p.1 then es else p :: delL k es
def lookL (vv : β → AV) (z : AV) (ok : Bool) : Option β → AV
  | some v => if ok then .tup [vv v, .bool true] else vv v
  | none => if ok then .tup [z, .bool false] else z
theorem findM_mpo (hk : KeyT α kv d) (k : α) : ∀ (es : List (α × β)) (i : Nat), ∃ o, findM (kv k) (es.map (entA kv vv)) i = some o ∧ (∀ z ok, lookR z ok o = lookL vv z ok (getL k es)) ∧
    (∀ n v, o = some (n, v) → ∃ m, n = i + m ∧ (∀ w, (es.map (entA kv vv)).set m (kv k, vv w) = (putL k w es).map (entA kv vv)) ∧ (es.map (entA kv vv)).eraseIdx m = (delL k es).map (entA kv vv)) ∧
    (o = none → (∀ w, es.map (entA kv vv) ++ [(kv k, vv w)] = (putL k w es).map (entA kv vv)) ∧ delL k es = es)
  | [], i => ⟨none, rfl, fun z ok => by cases ok <;> rfl, (fun n v h => by cases h), fun _ => ⟨fun w => rfl, rfl⟩⟩
  | p :: es, i => by
    simp only [List.map_cons, findM, entA, hk.eq, Option.bind_some]
    by_cases h : k = p.1
    · refine ⟨some (i, vv p.2), by simp [h], fun z ok => by simp [lookR, lookL, getL, h], fun n v e => ?_, fun e => by cases e⟩
      injection e with e; injection e with e1 e2
      subst e1
      exact ⟨0, rfl, fun w => by simp [putL, h, entA], by simp [delL, h]⟩
    · obtain ⟨o, h1, h2, h3, h4⟩ := findM_mpo hk k es (i + 1)
      refine ⟨o, by simp [h]; exact h1, fun z ok => by rw [h2]; simp [getL, h], fun n v e => ?_, fun e => ?_⟩
      · obtain ⟨m, q1, q2, q3⟩ := h3 n v e
        refine ⟨m + 1, by omega, fun w => ?_, ?_⟩
        · simp only [List.set_cons_succ, putL, h, if_false, List.map_cons, entA]
          rw [← q2 w]
        · simp only [List.eraseIdx_cons_succ, delL, h, if_false, List.map_cons, entA]
          rw [← q3]
      · obtain ⟨q1, q2⟩ := h4 e
        refine ⟨fun w => ?_, by simp [delL, h, q2]⟩
        simp only [List.cons_append, putL, h, if_false, List.map_cons, entA]
        rw [← q1 w]
theorem lookV_mpo (hk : KeyT α kv d) {H : List AObj} {L : Nat} {es : List (α × β)} (hL : H[L]? = some (mpo kv vv es)) (z : AV) (ok : Bool) (k : α) : lookV (some d) z ok (.mp L) (kv k) H = some (lookL vv z ok (getL k es)) := by
  obtain ⟨o, h1, h2, _⟩ := findM_mpo (vv := vv) hk k es 0
  unfold lookV
  rw [if_pos (hk.ok k)]
  simp only [lookA, hL, mpo, h1, Option.map_some, h2]
theorem updK_mpo (hk : KeyT α kv d) {H : List AObj} {L : Nat} {es : List (α × β)} (hL : H[L]? = some (mpo kv vv es)) (k : α) (v : β) (hv : (vv v).bel 0 = true) (hl : es.length < 2^40) {γ : Type} {K : List AObj → Option γ} :
    updK (some d) (.mp L) (kv k) (vv v) H K = K (H.set L (mpo kv vv (putL k v es))) := by
  obtain ⟨o, h1, _, h3, h4⟩ := findM_mpo (vv := vv) hk k es 0
  unfold updK
  rw [if_pos (hk.ok k)]
  simp only [updA, hL, mpo, List.length_map]
  rw [if_pos ⟨hv, hl⟩, h1]
  simp only [Option.map_some, Option.bind_some]
  congr 2
  cases o with
  | none => simp only [putM]; rw [(h4 rfl).1]
  | some p =>
    obtain ⟨m, q1, q2, _⟩ := h3 p.1 p.2 rfl
    simp only [putM, q1, Nat.zero_add]
    rw [q2]
theorem lenW_mpo {H : List AObj} {L : Nat} {es : List (α × β)} (hL : H[L]? = some (mpo kv vv es)) : lenW (.mp L) H = some (.int .i64 (es.length : Int)) := by
  simp [lenW, lenM, hL, mpo]
theorem getL_put_self (k : α) (v : β) : ∀ es : List (α × β), getL k (putL k v es) = some v
  | [] => by simp [putL, getL]
  | p :: es => by
    unfold putL
    split
    · simp [getL]
    · rename_i h; simp [getL, h, getL_put_self k v es]
theorem getL_put_ne {k k' : α} (h : k' ≠ k) (v : β) : ∀ es : List (α × β), getL k' (putL k v es) = getL k' es
  | [] => by simp [putL, getL, h]
  | p :: es => by
    unfold putL
    split
    · rename_i e; subst e; simp [getL, h]
    · simp only [getL]; rw [getL_put_ne h v es]
theorem getL_mem {k : α} {v : β} : ∀ {es : List (α × β)}, getL k es = some v → (k, v) ∈ es
  | [], h => by cases h
  | p :: es, h => by
    unfold getL at h
    split at h
    · rename_i e; injection h with h; subst e; subst h; exact List.mem_cons_self ..
    · exact List.mem_cons_of_mem _ (getL_mem h)
theorem getL_none {k : α} : ∀ {es : List (α × β)}, getL k es = none ↔ ∀ p ∈ es, p.1 ≠ k
  | [] => by simp [getL]
  | p :: es => by
    unfold getL
    split
    · rename_i e; simp [e]
    · rename_i e
      rw [getL_none (es := es)]
      simp only [List.mem_cons, forall_eq_or_imp]
      exact ⟨fun h => ⟨fun q => e q.symm, h⟩, fun h => h.2⟩
theorem putL_keys (k : α) (v : β) : ∀ es : List (α × β), (putL k v es).map (·.1) = if getL k es = none then es.map (·.1) ++ [k] else es.map (·.1)
  | [] => rfl
  | p :: es => by
    unfold putL getL
    split
    · rename_i e; simp [e]
    · rename_i e
      simp only [List.map_cons]
      rw [putL_keys k v es]
      split <;> simp
end
def sv (l : List UInt8) : AV := .str ⟨l.toArray⟩
theorem bl_sv (l : List UInt8) : bl ⟨l.toArray⟩ = l := rfl
theorem keyS : KeyT (List UInt8) sv .string := ⟨fun a b => by simp only [sv, eqK, bl_sv]; congr, fun a => rfl⟩
end Go.Pm
namespace Go.Pm
set_option linter.unusedVariables false
def isF (t0 : TypeId) (args : List AV) (H : List AObj) : Option R3 :=
  match args with
  | [.ifc t (.int .i64 a), .ifc u (.int .i64 b)] => if t = t0 ∧ u = t0 ∧ a = b then some (.bool true, H, []) else none
  | _ => none
def keyL : AV × AV → Option (List UInt8)
  | (.str s, _) => some (bl s)
  | _ => none
def sortL (l : List (List UInt8)) : List (List UInt8) := l.mergeSort fun x y => decide (x ≤ y)
def sortF (g0 : FuncId) (args : List AV) (H : List AObj) : Option R3 :=
  match args with
  | [.clo g [] [.ptr l 1 0 0]] =>
    if g = g0 then
      match H[l]? with
      | some (.row 1 [.mp L]) => match H[L]? with
        | some (.mp es) => (es.mapM keyL).bind fun ks => if es.length < 2^40 ∧ ks.all (fun k => decide (k.length < 2^40)) = true then some (.lst ((sortL ks).map sv), H, []) else none
        | _ => none
      | _ => none
    else none
  | _ => none
def fileLen : AV → Option Nat
  | .agg [.lst bs, .int .i64 _] => some bs.length
  | _ => none
def sumLen : List (AV × AV) → Option Nat
  | [] => some 0
  | p :: es => (fileLen p.2).bind fun n => (sumLen es).map (n + ·)
def roomF (args : List AV) (H : List AObj) : Option R3 :=
  match args with
  | [.ptr D 1 0 0] =>
    match H[D]? with
    | some (.row 6 [.agg [.int .i64 sz, .mp L, a, b, c, d]]) => match H[L]? with
      | some (.mp es) => (sumLen es).bind fun s => if 0 ≤ sz ∧ sz < 2^62 ∧ s < 2^62 then some (.int .i64 (sz - s), H, []) else none
      | _ => none
    | _ => none
  | _ => none
/-- a function is taken for another -/
def addI (g : FuncId) (F : List AV → List AObj → Option R3) (I : FuncId → Option (List AV → List AObj → Option R3)) (f : FuncId) : Option (List AV → List AObj → Option R3) := if f = g then some F else I f
theorem addI_ok {g : FuncId} {F0 : List AV → List AObj → Option R3} {I : FuncId → Option (List AV → List AObj → Option R3)} {P : Program} {G : Nat → Option (List AV)} (h0 : ∀ a H r, F0 a H = some r → SpecR P G g a H r) (h1 : ∀ f F a H r, I f = some F → F a H = some r → SpecR P G f a H r) :
    ∀ f F a H r, addI g F0 I f = some F → F a H = some r → SpecR P G f a H r := fun f F a H r hF hr => by
  unfold addI at hF
  split at hF
  · rename_i hf; subst hf; injection hF with hF; subst hF; exact h0 a H r hr
  · exact h1 f F a H r hF hr
end Go.Pm
