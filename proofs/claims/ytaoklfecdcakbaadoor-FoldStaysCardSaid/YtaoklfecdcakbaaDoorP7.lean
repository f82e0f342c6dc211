/- A part of the proof: what the functions of the program answer, as plain lists and numbers. -/
import Derived.WideShapes
import Derived.Test.YtaoklfecdcakbaaDoorP6
namespace Go.Pm
set_option linter.unusedVariables false
set_option linter.unusedSimpArgs false
theorem arg_M {B : Nat} {P : Program} {X : Cx} {H : Type} {enc : TypeId × Value → H} {base base' : Nat} {r : Reach} {W : World} {spare : Nat → Bool} {held : Bool} (hF : ∀ b k, ¬ X.F b k) (hw : ∀ b, ¬ X.wr b) {k : Nat} {t : TypeId} {v : Value} {d : DataW H} {ps : List MemPlace}
    (hp : plainT P k t = true) (hv : Value.okWide P W r base' t v) (h : DataW.Trod enc P X.w base spare held t v d ps) (hwt : ∀ w ∈ d.weights P t, w ≤ B) : ∃ (a : AV) (fuel : Nat) (avs : List AV), M X a v ∧ a = mkE (agT P t) avs ∧ tyC P B fuel t avs := by
  obtain ⟨fuel, hf⟩ := h
  obtain ⟨avs, h1, h2, h3, h4⟩ := trod_M hF hw fuel k t _ _ _ hp hf hwt
  refine ⟨mkE (agT P t) avs, fuel, avs, ?_, rfl, h2⟩
  cases ha : agT P t with
  | true =>
    have : ∃ cs, v = .agg cs := by
      unfold Value.okWide at hv
      unfold agT at ha
      split at ha
      · rename_i hu; rw [hu] at hv; obtain ⟨cs, e, _⟩ := hv; exact ⟨cs, e⟩
      · rename_i hu; rw [hu] at hv; obtain ⟨cs, e, _⟩ := hv; exact ⟨cs, e⟩
      · cases ha
    obtain ⟨cs, rfl⟩ := this
    simp only [mkE, if_true]
    unfold M
    exact ⟨cs, rfl, h1⟩
  | false =>
    have hl := h4 ha
    have hc : v.cells.toList = [v] := by
      · obtain ⟨hp1, hp2⟩ : plainS P (closeL P k [t]) = true ∧ (closeL P k [t]).contains t = true := by
          unfold plainT at hp; simpa only [Bool.and_eq_true] using hp
        replace hp := List.all_eq_true.1 hp1 t (by simpa using hp2)
        unfold Value.okWide at hv
        unfold agT at ha
        split at hp
        · rename_i hu; rw [hu] at hv; simp only [Cell.okWide, hu] at hv; cases v <;> simp_all [Cell.ok, Value.cells]
        · rename_i hu; rw [hu] at hv; simp only [Cell.okWide, hu] at hv; cases v <;> simp_all [Cell.ok, Value.cells]
        · rename_i hu; rw [hu] at hv; simp only [Cell.okWide, hu] at hv; cases v <;> simp_all [Cell.ok, Value.cells]
        · rename_i hu; rw [hu] at hv; simp only [Cell.okWide, hu] at hv; cases v <;> simp_all [Cell.ok, Value.cells]
        · rename_i hu; rw [hu] at ha; cases ha
        · rename_i hu; rw [hu] at ha; cases ha
        · cases hp
    rw [hc] at h1
    rcases avs with _ | ⟨a, _ | ⟨b, l⟩⟩
    · simp at hl
    · simp only [mkE, Bool.false_eq_true, if_false, List.headD_cons]
      obtain ⟨u, us, e1, e2, e3⟩ := h1
      injection e1 with e1 e4; subst e1; exact e2
    · simp at hl
end Go.Pm
namespace Go.Pm
set_option linter.unusedVariables false
section
variable {P : Program} {G : Nat → Option (List AV)} {env : Env} {h : Hint} {id : Nat} {ops : Array Oper}
theorem stA_of {s x : St} {i : Nat} (hh : opsK P G env h false id ops (ops.toList.take i) 0 s some = some x) : stA P G env h id ops s i = some x := by
  obtain ⟨s', h1, h2, _⟩ := opsK_some _ _ _ _ hh
  injection h2 with h2; subst h2; exact h1
theorem valD_of {i : Nat} {o : Oper} {T : List AV} {H : List AObj} {v : AV} (he : isEv h id i o = false) (hg : o.guard = none) (hh : aopD P G env (actOf h id i) o T H (fun v _ _ => some v) = some v) : valA P G env h id ops i o T H = some (v, H, []) := by
  obtain ⟨v', h1, h2⟩ := aopD_some he hh
  injection h2 with h2; subst h2
  unfold valA wantA; rw [hg]; exact h1
theorem valE_of {i : Nat} {o : Oper} {T : List AV} {H : List AObj} {r : R3} (hg : o.guard = none) (hh : aopK' P G env (actOf h id i) o T H (fun v H E => some (v, H, E)) = some r) : valA P G env h id ops i o T H = some r := by
  obtain ⟨r', h1, h2⟩ := aopK'_some hh
  injection h2 with h2; subst h2
  unfold valA wantA; rw [hg]; exact h1
theorem drawAt_of {s si sj : St} {i j : Nat} {o : Oper} {v : AV} (ho : ops[i]? = some o) (he : isEv h id i o = false) (hg : o.guard = none) (hi : stA P G env h id ops s i = some si) (hj : stA P G env h id ops s j = some sj)
    (h1 : aopD P G env (actOf h id i) o si.T si.H (fun v _ _ => some v) = some v) (h2 : aopD P G env (actOf h id i) o si.T sj.H (fun v _ _ => some v) = some v) : DrawAt P G env h id ops s (i, j) :=
  ⟨o, si, sj, v, ho, hi, hj, valD_of he hg h1, valD_of he hg h2⟩
theorem swapRd_of {s si : St} {Hm : List AObj} {i : Nat} {o : Oper} {v : AV} (ho : ops[i]? = some o) (he : isEv h id i o = false) (hg : o.guard = none) (hi : stA P G env h id ops s i = some si)
    (h1 : aopD P G env (actOf h id i) o si.T si.H (fun v _ _ => some v) = some v) (h2 : aopD P G env (actOf h id i) o si.T Hm (fun v _ _ => some v) = some v) : SwapRd P G env h id ops s Hm i :=
  ⟨o, si, v, ho, hi, valD_of he hg h1, valD_of he hg h2⟩
end
end Go.Pm
namespace Go.Pm
set_option linter.unusedVariables false
set_option linter.unusedSimpArgs false
mutual
theorem lndW_good (g : AV → Option AV) (H : List AObj) : ∀ (v : AV), v.good = true → lndW g H v = some v
  | .bad, h => rfl
  | .int _ _, h => rfl
  | .bool _, h => rfl
  | .str _, h => rfl
  | .nilp, h => rfl
  | .ptr _ _ _ _, h => rfl
  | .ip _, h => rfl
  | .lst cs, h => by simp only [lndW]; rw [lndWL_good g H cs (by simpa [AV.good] using h)]; rfl
  | .nils, h => by simp [AV.good] at h
  | .emp _, h => by simp [AV.good] at h
  | .slc _ _ _ _, h => by simp [AV.good] at h
  | .agg cs, h => by simp only [lndW]; rw [lndWL_good g H cs (by simpa [AV.good] using h)]; rfl
  | .tup cs, h => by simp only [lndW]; rw [lndWL_good g H cs (by simpa [AV.good] using h)]; rfl
  | .clo _ _ _, h => rfl
  | .nilf, h => rfl
  | .ifc t v, h => rfl
  | .nili, h => rfl
  | .mp _, h => rfl
  | .nilm, h => rfl
  | .lnt _, h => rfl
theorem lndWL_good (g : AV → Option AV) (H : List AObj) : ∀ (vs : List AV), goodL vs = true → lndWL g H vs = some vs
  | [], h => rfl
  | c :: cs, h => by
    simp only [goodL, Bool.and_eq_true] at h
    simp only [lndWL, lndW_good g H c h.1, lndWL_good g H cs h.2, Option.bind_some, Option.map_some]
end
theorem lnd_good (H : List AObj) : ∀ (k : Nat) (v : AV), v.good = true → lnd H k v = some v
  | 0, v, h => by simp only [lnd, h, if_true]
  | k + 1, v, h => by simp only [lnd]; exact lndW_good _ H v h
theorem noLL_all {vs : List AV} : noLL vs = true ↔ ∀ v ∈ vs, v.noL = true := by
  induction vs with
  | nil => simp [noLL]
  | cons v vs ih => simp [noLL, ih]
theorem noLL_map {α : Type} {f : α → AV} (hf : ∀ a, (f a).noL = true) (l : List α) : noLL (l.map f) = true := noLL_all.2 fun v hv => by
  obtain ⟨a, _, rfl⟩ := List.mem_map.1 hv; exact hf a
@[simp] theorem noL_u8 (b : UInt8) : (u8 b).noL = true := rfl
@[simp] theorem noLL_u8 (l : List UInt8) : noLL (l.map u8) = true := noLL_map noL_u8 l
@[simp] theorem noL_bys (l : List UInt8) : (bys l).noL = true := noLL_u8 l
@[simp] theorem lntWL_u8 (l : List UInt8) : lntWL (l.map u8) = l.map u8 := by
  rw [lntWL_map, List.map_map]; rfl
/-- bytes that are lent -/
def lbys (l : List UInt8) : AV := .lnt (bys l)
@[simp] theorem lenV_lbys (l : List UInt8) (H : List AObj) : lenV (lbys l) H = some (.int .i64 l.length) := by simp [lenV, lenA, lbys, bys]
@[simp] theorem good_lbys (l : List UInt8) : (lbys l).good = true := good_bys l
@[simp] theorem elemsA_lbys (l : List UInt8) (H : List AObj) : elemsA (lbys l) H = some (l.map u8) := by
  show some (lntWL (l.map u8)) = _
  rw [lntWL_u8]
theorem mapO_good {g : AV → Option AV} (hg : ∀ v, v.good = true → g v = some v) : ∀ (l : List AV), goodL l = true → mapO g l = some l
  | [], _ => rfl
  | c :: cs, h => by
    simp only [goodL, Bool.and_eq_true] at h
    simp only [mapO, hg c h.1, mapO_good hg cs h.2, Option.bind_some, Option.map_some]
theorem lndE_good {g : AV → Option AV} (hg : ∀ v, v.good = true → g v = some v) : ∀ v : AV, v.good = true → lndE g v = some v := fun v h => by
  cases v with
  | agg cs => simp only [lndE]; rw [mapO_good hg cs (by simpa [AV.good] using h)]; rfl
  | _ => simp only [lndE]; exact hg _ h
/-- a row's bytes, lent -/
theorem lnd_row {H : List AObj} {k l n z : Nat} {es : List AV} (h : H[l]? = some (.row z es)) (hg : goodL es = true) (hn : n = es.length) : lndW (lnd H k) H (.slc l 0 n n) = some (.lnt (.lst es)) := by
  subst hn
  simp only [lndW, h, if_true, List.drop_zero, List.take_length]
  rw [mapO_good (lndE_good (lnd_good H k)) es hg]; rfl

section
variable {β : Type} {C : Cfg} {g : FuncId} {args as : List AV} {v : AV} {H : List AObj} {K : AV → List AObj → List Nat → Option β}
theorem calXK_14 (h0 : lndWL (lnd H 3) H args = some as) (hb : belL 0 as = true) (h : EV C g as [] = some (v, [], [])) (hn : v.noL = true) : calXK (EV C) 14 g args H K = K v H [] := by
  simp [calXK, callX, callL, vrA, h0, hb, h, hn]
theorem calXK_14g (hg : goodL args = true) (h : EV C g args [] = some (v, [], [])) (hn : v.noL = true) : calXK (EV C) 14 g args H K = K v H [] :=
  calXK_14 (lndWL_good _ H args hg) (belL_good 0 args hg) h hn
end
end Go.Pm
namespace Go.Pm
set_option linter.unusedVariables false
section
variable {α β : Type}
@[congr] theorem obind_congr {a a' : Option α} {f : α → Option β} (h : a = a') : a.bind f = a'.bind f := by rw [h]
@[congr] theorem condK_congr {c c' : AV} {a b : Option β} (h : c = c') : condK c a b = condK c' a b := by rw [h]
@[congr] theorem splitK_congr {c c' : AV} {a b : Option β} (h : c = c') : splitK c a b = splitK c' a b := by rw [h]
@[congr] theorem condB_congr {c c' : Bool} {a : Option β} (h : c = c') : condB c a = condB c' a := by rw [h]
@[congr] theorem callK_congr {env : Env} {raw : Bool} {g : FuncId} {args args' : List AV} {H H' : List AObj} {K : AV → List AObj → List Nat → Option β} (h : args = args') (h2 : H = H') : callK env raw g args H K = callK env raw g args' H' K := by rw [h, h2]
@[congr] theorem valK_congr {P : Program} {env : Env} {raw : Bool} {f f' : AV} {args args' : List AV} {H H' : List AObj} {K : AV → List AObj → List Nat → Option β} (h0 : f = f') (h : args = args') (h2 : H = H') : valK P env raw f args H K = valK P env raw f' args' H' K := by rw [h0, h, h2]
@[congr] theorem newK_congr {x x' : AV} {H H' : List AObj} {K : AV → List AObj → List Nat → Option β} (h : x = x') (h2 : H = H') : newK x H K = newK x' H' K := by rw [h, h2]
@[congr] theorem litK_congr {z n : Nat} {z0 : AV} {ps ps' : List (Nat × AV)} {H H' : List AObj} {K : AV → List AObj → List Nat → Option β} (h : ps = ps') (h2 : H = H') : litK z n z0 ps H K = litK z n z0 ps' H' K := by rw [h, h2]
@[congr] theorem rawK_congr {z n : Nat} {z0 : AV} {ps ps' : List (Nat × AV)} {H H' : List AObj} {K : AV → List AObj → List Nat → Option β} (h : ps = ps') (h2 : H = H') : rawK z n z0 ps H K = rawK z n z0 ps' H' K := by rw [h, h2]
@[congr] theorem stoK_congr {s : Nat} {a a' v v' : AV} {H H' : List AObj} {K : List AObj → List Nat → Option β} (h : a = a') (h1 : v = v') (h2 : H = H') : stoK s a v H K = stoK s a' v' H' K := by rw [h, h1, h2]
@[congr] theorem mkK_congr {z b : Nat} {z0 n n' c c' : AV} {H H' : List AObj} {K : AV → List AObj → List Nat → Option β} (h : n = n') (h1 : c = c') (h2 : H = H') : mkK z b z0 n c H K = mkK z b z0 n' c' H' K := by rw [h, h1, h2]
@[congr] theorem appK_congr {z b : Nat} {x x' y y' : AV} {H H' : List AObj} {K : AV → List AObj → List Nat → Option β} (h : x = x') (h1 : y = y') (h2 : H = H') : appK z b x y H K = appK z b x' y' H' K := by rw [h, h1, h2]
@[congr] theorem frzK_congr {v v' : AV} {H H' : List AObj} {K : AV → List AObj → Option β} (h : v = v') (h2 : H = H') : frzK v H K = frzK v' H' K := by rw [h, h2]
@[congr] theorem drawK_congr {p p' : Prop} {a : Option β} (h : p = p') : drawK p a = drawK p' a := by rw [h]
end
end Go.Pm
