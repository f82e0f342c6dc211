/- A part of the proof: what the functions of the program answer, as plain lists and numbers. -/
import Derived.WideShapes
import Derived.Test.YtahipmiaknbkoaaP6
namespace Go.Pm
set_option linter.unusedVariables false
set_option linter.unusedSimpArgs false
theorem arg_M {B : Nat} {P : Program} {X : Cx} {H : Type} {enc : TypeId × Value → H} {base base' : Nat} {r : Reach} {W : World} {spare : Nat → Bool} {held : Bool} (hF : ∀ b k, ¬ X.F b k) (hw : ∀ b, ¬ X.wr b) {k : Nat} {t : TypeId} {v : Value} {d : DataW H} {ps : List MemPlace}
    (hp : plainT P k t = true) (hv : Value.okWide P W r base' t v) (h : DataW.Trod enc P X.w base spare held t v d ps) (hwt : ∀ w ∈ d.weights P t, w ≤ B) : ∃ (a : AV) (fuel : Nat) (avs : List AV), M X a v ∧ a = mkE (agT P t) avs ∧ tyC P B fuel t avs := by
  obtain ⟨fuel, hf⟩ := h
  obtain ⟨avs, h1, h2, h3, h4⟩ := trod_M hF hw fuel k t _ _ _ hp hf hwt
  refine ⟨mkE (agT P t) avs, fuel, avs, ?_, rfl, h2⟩
  cases ha : agT P t with
  | true =>
    have : ∃ cs, v = .agg cs := by
      unfold Value.okWide at hv
      unfold agT at ha
      split at ha
      · rename_i hu; rw [hu] at hv; obtain ⟨cs, e, _⟩ := hv; exact ⟨cs, e⟩
      · rename_i hu; rw [hu] at hv; obtain ⟨cs, e, _⟩ := hv; exact ⟨cs, e⟩
      · cases ha
    obtain ⟨cs, rfl⟩ := this
    simp only [mkE, if_true]
    unfold M
    exact ⟨cs, rfl, h1⟩
  | false =>
    have hl := h4 ha
    have hc : v.cells.toList = [v] := by
      · obtain ⟨hp1, hp2⟩ : plainS P (closeL P k [t]) = true ∧ (closeL P k [t]).contains t = true := by
          unfold plainT at hp; simpa only [Bool.and_eq_true] using hp
        replace hp := List.all_eq_true.1 hp1 t (by simpa using hp2)
        unfold Value.okWide at hv
        unfold agT at ha
        split at hp
        · rename_i hu; rw [hu] at hv; simp only [Cell.okWide, hu] at hv; cases v <;> simp_all [Cell.ok, Value.cells]
        · rename_i hu; rw [hu] at hv; simp only [Cell.okWide, hu] at hv; cases v <;> simp_all [Cell.ok, Value.cells]
        · rename_i hu; rw [hu] at hv; simp only [Cell.okWide, hu] at hv; cases v <;> simp_all [Cell.ok, Value.cells]
        · rename_i hu; rw [hu] at hv; simp only [Cell.okWide, hu] at hv; cases v <;> simp_all [Cell.ok, Value.cells]
        · rename_i hu; rw [hu] at ha; cases ha
        · rename_i hu; rw [hu] at ha; cases ha
        · cases hp
    rw [hc] at h1
    rcases avs with _ | ⟨a, _ | ⟨b, l⟩⟩
    · simp at hl
    · simp only [mkE, Bool.false_eq_true, if_false, List.headD_cons]
      obtain ⟨u, us, e1, e2, e3⟩ := h1
      injection e1 with e1 e4; subst e1; exact e2
    · simp at hl
end Go.Pm
namespace Go.Pm
set_option linter.unusedVariables false
set_option linter.unusedSectionVars false
set_option linter.unusedSimpArgs false
structure KeyT (α : Type) [DecidableEq α] (kv : α → AV) (d : TypeDesc) : Prop where
  eq : ∀ a b, eqK (kv a) (kv b) = some (decide (a = b))
  ok : ∀ a, keyOk (some d) (kv a) = true
section
variable {α β : Type} [DecidableEq α] {kv : α → AV} {vv : β → AV} {d : TypeDesc}
def entA (kv : α → AV) (vv : β → AV) (p : α × β) : AV × AV := (kv p.1, vv p.2)
def mpo (kv : α → AV) (vv : β → AV) (es : List (α × β)) : AObj := .mp (es.map (entA kv vv))
def getL (k : α) : List (α × β) → Option β
  | [] => none
  | p :: es => if k = p.1 then some p.2 else getL k es
def putL (k : α) (v : β) : List (α × β) → List (α × β)
  | [] => [(k, v)]
  | p :: es => if k = p.1 then (k, v) :: es else p :: putL k v es
def delL (k : α) : List (α × β) → List (α × β)
  | [] => []
  | p :: es => if k = p.1 then es else p :: delL k es
def lookL (vv : β → AV) (z : AV) (ok : Bool) : Option β → AV
  | some v => if ok then .tup [vv v, .bool true] else vv v
  | none => if ok then .tup [z, .bool false] else z
theorem findM_mpo (hk : KeyT α kv d) (k : α) : ∀ (es : List (α × β)) (i : Nat), ∃ o, findM (kv k) (es.map (entA kv vv)) i = some o ∧ (∀ z ok, lookR z ok o = lookL vv z ok (getL k es)) ∧
    (∀ n v, o = some (n, v) → ∃ m, n = i + m ∧ (∀ w, (es.map (entA kv vv)).set m (kv k, vv w) = (putL k w es).map (entA kv vv)) ∧ (es.map (entA kv vv)).eraseIdx m = (delL k es).map (entA kv vv)) ∧
    (o = none → (∀ w, es.map (entA kv vv) ++ [(kv k, vv w)] = (putL k w es).map (entA kv vv)) ∧ delL k es = es)
  | [], i => ⟨none, rfl, fun z ok => by cases ok <;> rfl, (fun n v h => by cases h), fun _ => ⟨fun w => rfl, rfl⟩⟩
  | p :: es, i => by
    simp only [List.map_cons, findM, entA, hk.eq, Option.bind_some]
    by_cases h : k = p.1
    · refine ⟨some (i, vv p.2), by simp [h], fun z ok => by simp [lookR, lookL, getL, h], fun n v e => ?_, fun e => by cases e⟩
      injection e with e; injection e with e1 e2
      subst e1
      exact ⟨0, rfl, fun w => by simp [putL, h, entA], by simp [delL, h]⟩
    · obtain ⟨o, h1, h2, h3, h4⟩ := findM_mpo hk k es (i + 1)
      refine ⟨o, by simp [h]; exact h1, fun z ok => by rw [h2]; simp [getL, h], fun n v e => ?_, fun e => ?_⟩
      · obtain ⟨m, q1, q2, q3⟩ := h3 n v e
        refine ⟨m + 1, by omega, fun w => ?_, ?_⟩
        · simp only [List.set_cons_succ, putL, h, if_false, List.map_cons, entA]
          rw [← q2 w]
        · simp only [List.eraseIdx_cons_succ, delL, h, if_false, List.map_cons, entA]
          rw [← q3]
      · obtain ⟨q1, q2⟩ := h4 e
        refine ⟨fun w => ?_, by simp [delL, h, q2]⟩
        simp only [List.cons_append, putL, h, if_false, List.map_cons, entA]
        rw [← q1 w]
theorem lookV_mpo (hk : KeyT α kv d) {H : List AObj} {L : Nat} {es : List (α × β)} (hL : H[L]? = some (mpo kv vv es)) (z : AV) (ok : Bool) (k : α) : lookV (some d) z ok (.mp L) (kv k) H = some (lookL vv z ok (getL k es)) := by
  obtain ⟨o, h1, h2, _⟩ := findM_mpo (vv := vv) hk k es 0
  unfold lookV
  rw [if_pos (hk.ok k)]
  simp only [lookA, hL, mpo, h1, Option.map_some, h2]
theorem updK_mpo (hk : KeyT α kv d) {H : List AObj} {L : Nat} {es : List (α × β)} (hL : H[L]? = some (mpo kv vv es)) (k : α) (v : β) (hv : (vv v).bel 0 = true) (hl : es.length < 2^40) {γ : Type} {K : List AObj → Option γ} :
    updK (some d) (.mp L) (kv k) (vv v) H K = K (H.set L (mpo kv vv (putL k v es))) := by
  obtain ⟨o, h1, _, h3, h4⟩ := findM_mpo (vv := vv) hk k es 0
  unfold updK
  rw [if_pos (hk.ok k)]
  simp only [updA, hL, mpo, List.length_map]
  rw [if_pos ⟨hv, hl⟩, h1]
  simp only [Option.map_some, Option.bind_some]
  congr 2
  cases o with
  | none => simp only [putM]; rw [(h4 rfl).1]
  | some p =>
    obtain ⟨m, q1, q2, _⟩ := h3 p.1 p.2 rfl
    simp only [putM, q1, Nat.zero_add]
    rw [q2]
theorem delK_mpo (hk : KeyT α kv d) {H : List AObj} {L : Nat} {es : List (α × β)} (hL : H[L]? = some (mpo kv vv es)) (k : α) {γ : Type} {K : List AObj → Option γ} :
    delK (some d) (.mp L) (kv k) H K = K (H.set L (mpo kv vv (delL k es))) := by
  obtain ⟨o, h1, _, h3, h4⟩ := findM_mpo (vv := vv) hk k es 0
  unfold delK
  rw [if_pos (hk.ok k)]
  simp only [delA, hL, mpo]
  rw [h1]
  simp only [Option.map_some, Option.bind_some]
  congr 2
  cases o with
  | none => simp only [cutM]; rw [(h4 rfl).2]
  | some p =>
    obtain ⟨m, q1, _, q3⟩ := h3 p.1 p.2 rfl
    simp only [cutM, q1, Nat.zero_add]
    rw [q3]
omit [DecidableEq α] in
theorem lenW_mpo {H : List AObj} {L : Nat} {es : List (α × β)} (hL : H[L]? = some (mpo kv vv es)) : lenW (.mp L) H = some (.int .i64 (es.length : Int)) := by
  simp [lenW, lenM, hL, mpo]
theorem getL_mem {k : α} {v : β} : ∀ {es : List (α × β)}, getL k es = some v → (k, v) ∈ es
  | [], h => by cases h
  | p :: es, h => by
    unfold getL at h
    split at h
    · rename_i e; injection h with h; subst e; subst h; exact List.mem_cons_self ..
    · exact List.mem_cons_of_mem _ (getL_mem h)
theorem getL_none {k : α} : ∀ {es : List (α × β)}, getL k es = none ↔ ∀ p ∈ es, p.1 ≠ k
  | [] => by simp [getL]
  | p :: es => by
    unfold getL
    split
    · rename_i e; simp [e]
    · rename_i e
      rw [getL_none (es := es)]
      simp only [List.mem_cons, forall_eq_or_imp]
      exact ⟨fun h => ⟨fun q => e q.symm, h⟩, fun h => h.2⟩
theorem putL_keys (k : α) (v : β) : ∀ es : List (α × β), (putL k v es).map (·.1) = if getL k es = none then es.map (·.1) ++ [k] else es.map (·.1)
  | [] => rfl
  | p :: es => by
    unfold putL getL
    split
    · rename_i e; simp [e]
    · rename_i e
      simp only [List.map_cons]
      rw [putL_keys k v es]
      split <;> simp
end
def sv (l : List UInt8) : AV := .str ⟨l.toArray⟩
theorem bl_sv (l : List UInt8) : bl ⟨l.toArray⟩ = l := rfl
theorem keyS : KeyT (List UInt8) sv .string := ⟨fun a b => by simp only [sv, eqK, bl_sv]; congr, fun a => rfl⟩
end Go.Pm
namespace Go.Pm
set_option linter.unusedVariables false
set_option linter.unusedSimpArgs false
mutual
theorem lndW_good (g : AV → Option AV) (H : List AObj) : ∀ (v : AV), v.good = true → lndW g H v = some v
  | .bad, h => rfl
  | .int _ _, h => rfl
  | .bool _, h => rfl
  | .str _, h => rfl
  | .nilp, h => rfl
  | .ptr _ _ _ _, h => rfl
  | .ip _, h => rfl
  | .lst cs, h => by simp only [lndW]; rw [lndWL_good g H cs (by simpa [AV.good] using h)]; rfl
  | .nils, h => by simp [AV.good] at h
  | .emp _, h => by simp [AV.good] at h
  | .slc _ _ _ _, h => by simp [AV.good] at h
  | .agg cs, h => by simp only [lndW]; rw [lndWL_good g H cs (by simpa [AV.good] using h)]; rfl
  | .tup cs, h => by simp only [lndW]; rw [lndWL_good g H cs (by simpa [AV.good] using h)]; rfl
  | .clo _ _ _, h => rfl
  | .nilf, h => rfl
  | .ifc t v, h => rfl
  | .nili, h => rfl
  | .mp _, h => rfl
  | .nilm, h => rfl
  | .lnt _, h => rfl
theorem lndWL_good (g : AV → Option AV) (H : List AObj) : ∀ (vs : List AV), goodL vs = true → lndWL g H vs = some vs
  | [], h => rfl
  | c :: cs, h => by
    simp only [goodL, Bool.and_eq_true] at h
    simp only [lndWL, lndW_good g H c h.1, lndWL_good g H cs h.2, Option.bind_some, Option.map_some]
end
theorem lnd_good (H : List AObj) : ∀ (k : Nat) (v : AV), v.good = true → lnd H k v = some v
  | 0, v, h => by simp only [lnd, h, if_true]
  | k + 1, v, h => by simp only [lnd]; exact lndW_good _ H v h
mutual
theorem er_noL : ∀ (v : AV), v.noL = true → er v = v
  | .bad, h => rfl
  | .int _ _, h => rfl
  | .bool _, h => rfl
  | .str _, h => rfl
  | .nilp, h => rfl
  | .ptr _ _ _ _, h => rfl
  | .ip cs, h => by simp only [er]; rw [erL_noL cs (by simpa [AV.noL] using h)]
  | .lst cs, h => by simp only [er]; rw [erL_noL cs (by simpa [AV.noL] using h)]
  | .nils, h => rfl
  | .emp _, h => rfl
  | .slc _ _ _ _, h => rfl
  | .agg cs, h => by simp only [er]; rw [erL_noL cs (by simpa [AV.noL] using h)]
  | .tup cs, h => by simp only [er]; rw [erL_noL cs (by simpa [AV.noL] using h)]
  | .clo _ fi ca, h => by simp only [AV.noL, Bool.and_eq_true] at h; simp only [er]; rw [erL_noL fi h.1, erL_noL ca h.2]
  | .nilf, h => rfl
  | .ifc t v, h => by simp only [er]; rw [er_noL v (by simpa [AV.noL] using h)]
  | .nili, h => rfl
  | .mp _, h => rfl
  | .nilm, h => rfl
  | .lnt _, h => by simp [AV.noL] at h
theorem erL_noL : ∀ (vs : List AV), noLL vs = true → erL vs = vs
  | [], h => rfl
  | c :: cs, h => by
    simp only [noLL, Bool.and_eq_true] at h
    simp only [erL, er_noL c h.1, erL_noL cs h.2]
end
theorem noLL_all {vs : List AV} : noLL vs = true ↔ ∀ v ∈ vs, v.noL = true := by
  induction vs with
  | nil => simp [noLL]
  | cons v vs ih => simp [noLL, ih]
theorem noLL_map {α : Type} {f : α → AV} (hf : ∀ a, (f a).noL = true) (l : List α) : noLL (l.map f) = true := noLL_all.2 fun v hv => by
  obtain ⟨a, _, rfl⟩ := List.mem_map.1 hv; exact hf a
@[simp] theorem noL_u8 (b : UInt8) : (u8 b).noL = true := rfl
@[simp] theorem noLL_u8 (l : List UInt8) : noLL (l.map u8) = true := noLL_map noL_u8 l
@[simp] theorem noL_bys (l : List UInt8) : (bys l).noL = true := noLL_u8 l
@[simp] theorem lntWL_u8 (l : List UInt8) : lntWL (l.map u8) = l.map u8 := by
  rw [lntWL_map, List.map_map]; rfl
/-- bytes that are lent -/
def lbys (l : List UInt8) : AV := .lnt (bys l)
@[simp] theorem lenV_lbys (l : List UInt8) (H : List AObj) : lenV (lbys l) H = some (.int .i64 l.length) := by simp [lenV, lenA, lbys, bys]
@[simp] theorem good_lbys (l : List UInt8) : (lbys l).good = true := good_bys l
theorem cutA_lbys {l : List UInt8} {lo hi : Option AV} {H : List AObj} {i j : Nat} (hlo : boundA lo 0 = some (i : Int)) (hhi : boundA hi l.length = some (j : Int)) (h1 : i ≤ j) (h2 : j ≤ l.length) :
    cutA 1 (lbys l) lo hi none H = some (lbys ((l.take j).drop i)) := by
  have h := cutA_bys (H := H) hlo hhi h1 h2
  unfold lbys bys at h ⊢
  have e : boundA (none : Option AV) (↑(l.map u8).length) = some (↑(l.map u8).length) := rfl
  simp only [cutA, lenA, Option.bind_some] at h ⊢
  cases q1 : boundA hi (↑(l.map u8).length) with
  | none => rw [q1] at h; simp at h
  | some x =>
    cases q2 : boundA lo 0 with
    | none => rw [q1, q2] at h; simp at h
    | some y =>
      rw [q1, q2] at h
      simp only [Option.bind_some] at h ⊢
      rw [e] at h ⊢
      simp only [Option.bind_some] at h ⊢
      split at h
      · rename_i hc
        rw [if_pos hc]
        split at h
        · rename_i hz
          rw [if_pos hz]
          injection h with h; rw [h]
        · cases h
      · cases h
@[simp] theorem elemsA_lbys (l : List UInt8) (H : List AObj) : elemsA (lbys l) H = some (l.map u8) := by
  show some (lntWL (l.map u8)) = _
  rw [lntWL_u8]
theorem er_lbys (l : List UInt8) : er (lbys l) = bys l := er_noL _ (noL_bys l)
theorem mapO_good {g : AV → Option AV} (hg : ∀ v, v.good = true → g v = some v) : ∀ (l : List AV), goodL l = true → mapO g l = some l
  | [], _ => rfl
  | c :: cs, h => by
    simp only [goodL, Bool.and_eq_true] at h
    simp only [mapO, hg c h.1, mapO_good hg cs h.2, Option.bind_some, Option.map_some]
theorem lndE_good {g : AV → Option AV} (hg : ∀ v, v.good = true → g v = some v) : ∀ v : AV, v.good = true → lndE g v = some v := fun v h => by
  cases v with
  | agg cs => simp only [lndE]; rw [mapO_good hg cs (by simpa [AV.good] using h)]; rfl
  | _ => simp only [lndE]; exact hg _ h
/-- a row's bytes, lent -/
theorem lnd_row {H : List AObj} {k l n z : Nat} {es : List AV} (h : H[l]? = some (.row z es)) (hg : goodL es = true) (hn : n = es.length) : lndW (lnd H k) H (.slc l 0 n n) = some (.lnt (.lst es)) := by
  subst hn
  simp only [lndW, h, if_true, List.drop_zero, List.take_length]
  rw [mapO_good (lndE_good (lnd_good H k)) es hg]; rfl

section
variable {β : Type} {C : Cfg} {g : FuncId} {args as : List AV} {v : AV} {H : List AObj} {K : AV → List AObj → List Nat → Option β}
theorem calXK_13 (h0 : lndWL (lnd H 3) H args = some as) (hb : belL 0 as = true) (h : EV C (g + 2000000) as [] = some (v, [], [])) (hn : v.noL = true) : calXK (EV C) 13 g args H K = K v H [] := by
  simp [calXK, callX, callL, vrA, h0, hb, h, hn]
/-- on what is lent to oneself; the answer is flat -/
theorem calXK_12 (h1 : belL 0 args = true) (h0 : frzL H args = some as) (h : EV C g (erL as) [] = some (v, [], [])) (hb : belL 0 as = true) (hf : v.flat = true) : calXK (EV C) 12 g args H K = K v H [] := by
  simp [calXK, callX, callE, h1, h0, erL_bel, hb, h, hf]
theorem calXK_12g (hg : goodL args = true) (h : EV C g (erL args) [] = some (v, [], [])) (hf : v.flat = true) : calXK (EV C) 12 g args H K = K v H [] :=
  calXK_12 (belL_good 0 args hg) (frzL_good H args hg) h (belL_good 0 args hg) hf
end
end Go.Pm
