/- Soundness, part 12: any operation. -/
import Derived.Test.YtclfnechcblmoaaDoorPm25
import Derived.Test.YtclfnechcblmoaaDoorPm29
namespace Go.Pm
set_option linter.unusedVariables false
set_option linter.unusedSimpArgs false
section
variable {P : Program} {G : Nat → Option (List AV)} {X : Cx} {o : Oper} {a : Act} {T : List AV}

theorem run_v {s : Sem Value} {u : Value} {w w' : World} (h : s.run P w = .ok u w') : (do pure (Next.value (← s)) : Sem Next).run P w = .ok (.value u) w' := by simp [h]
theorem run_u {s : Sem Unit} {w w' : World} (h : s.run P w = .ok () w') : (do s; pure Next.skip : Sem Next).run P w = .ok .skip w' := by simp [h]

theorem vrow_ok (hR : Rel G X) : Rel G ⟨X.F, X.ι, X.H ++ [.vrow], X.w⟩ ∧ Ext X ⟨X.F, X.ι, X.H ++ [.vrow], X.w⟩ ∧ EscI X.H (X.H ++ [.vrow]) [] ∧ M ⟨X.F, X.ι, X.H ++ [.vrow], X.w⟩ (.slc X.H.length 0 0 0) (.slice none 0 0) := by
  have hg : ∀ l, l < X.H.length → (X.H ++ [AObj.vrow])[l]? = X.H[l]? := fun l h => List.getElem?_append_left h
  have hrow : ∀ l z es, (X.H ++ [AObj.vrow])[l]? = some (AObj.row z es) → X.H[l]? = some (AObj.row z es) := fun l z es h => by
    rcases Nat.lt_or_ge l X.H.length with hlt | hge
    · rwa [hg l hlt] at h
    · rw [List.getElem?_append_right hge] at h
      cases hk : l - X.H.length with
      | zero => rw [hk] at h; simp at h
      | succ k => rw [hk] at h; simp at h
  have hisr : ∀ l, isRow (X.H ++ [AObj.vrow])[l]? → isRow X.H[l]? := fun l h => by
    obtain ⟨z, es, he⟩ := isRow_some h
    rw [hrow l z es he]; simp [isRow]
  have hE : Ext X ⟨X.F, X.ι, X.H ++ [.vrow], X.w⟩ := by
    refine ⟨Nat.le_refl _, by simp, fun _ _ _ => rfl, fun b _ hw => ?_, fun l t hl h => ?_, rfl, rfl, rfl, rfl⟩
    · obtain ⟨l, z, hr, hi⟩ := hw
      exact ⟨l, z, hisr l hr, hi⟩
    · have hk : lenOf X.H l = some t := by simpa only [lenOf, hg l hl] using h
      exact ⟨t, hk, Nat.le_refl _, fun _ => ⟨fun hr => ⟨by show isRow (X.H ++ [AObj.vrow])[l]?; rw [hg l hl]; exact hr, fun _ _ h => ⟨h, rfl⟩⟩, fun hv => by rw [← hv]; exact hg l hl⟩⟩
  refine ⟨⟨fun l z es b z' h1 h2 => ?_, fun l l' b z z' h1 h2 h3 h4 => hR.inj l l' b z z' (hisr l h1) (hisr l' h2) h3 h4, fun g cs hg => ?_, fun l z es h => ?_, fb_keep hR hE, hR.gb⟩, hE, fun l z es h => .inr fun m hm hp => hp z es (hrow l z es h), ?_⟩
  · obtain ⟨e1, e2, e3, ee, s, e4, e5, e6⟩ := hR.rows l z es b z' (hrow l z es h1) h2
    exact ⟨e1, e2, Me_mono hE _ _ _ _ (fun j u hj => hj) e3, ee, s, e4, e5, e6⟩
  · obtain ⟨h1, h2⟩ := hR.glob g cs hg
    exact ⟨im_keep hE h1, Mc_mono hE _ _ _ (fun j u hj => hj) h2⟩
  · exact belL_mono (by simp) _ (hR.wf l z es (hrow l z es h))
  · unfold M
    refine ⟨⟨by simp, _, _, _, rfl⟩, fun t ht => ?_, fun _ => .inl ⟨by simp, rfl, rfl, rfl⟩⟩
    simp [lenOf] at ht; omega

theorem okF_some {g : FuncId} (h : okF P g = true) : ∃ fn, P.funcs[g]? = some fn ∧ fn.body.isSome = true ∧ fn.name ≠ "runtime.NumGoroutine" := by
  unfold okF at h
  split at h
  · rename_i fn hf
    simp only [Bool.and_eq_true, bne_iff_ne] at h
    exact ⟨fn, hf, h.1, h.2⟩
  · cases h
theorem run_call {c : Call} {ty : TypeId} {g : FuncId} {fi ca : Array Value} {f : Operand} {ρ : Operand → Value} {w : World} (hg : okF P g = true) (hc : c.callee = .value f) (hf : ρ f = .func (.func g) fi ca) :
    (do let d ← resolve ρ c ty; invoke d.target d.args : Sem Next).run P w = .ok (.enter g (fi ++ c.args.map ρ ++ ca)) w := by
  obtain ⟨fn, h1, h2, h3⟩ := okF_some hg
  have hb : ¬ fn.body = none := by intro hb; rw [hb] at h2; cases h2
  simp [resolve, hc, Deferred.ofValue, hf, invoke, callFunc, h1, h3, hb]

theorem upon_enter {g : FuncId} {args : Array Value} {w : World} (hrun : (execOp a.eval o).run P X.w = .ok (.enter g args) w) {K : Act → World → Prop} {Q : Exit → Act → World → Prop}
    (h : Calls P g args w fun e w' => ∃ u, e = .returned u ∧ K (a.put o.dst u) w') : o.wp P a X.w K Q := by
  unfold Oper.wp
  rw [hrun]
  simp only [Oper.upon]
  refine h.mono fun e w' he => ?_
  obtain ⟨u, rfl, hk⟩ := he
  exact hk

mutual
theorem flat_M {X Y : Cx} : ∀ (v : AV) (u : Value), v.flat = true → M X v u → M Y v u
  | .int _ _, u, h, hm => by unfold M at hm ⊢; exact hm
  | .bool _, u, h, hm => by unfold M at hm ⊢; exact hm
  | .str _, u, h, hm => by unfold M at hm ⊢; exact hm
  | .nilp, u, h, hm => by unfold M at hm ⊢; exact hm
  | .nils, u, h, hm => by unfold M at hm ⊢; exact hm
  | .emp _, u, h, hm => by unfold M at hm ⊢; exact hm
  | .nilf, u, h, hm => by unfold M at hm ⊢; exact hm
  | .nili, u, h, hm => by unfold M at hm ⊢; exact hm
  | .lst es, u, h, hm => by
    simp only [AV.flat, List.isEmpty_iff] at h
    subst h
    unfold M at hm ⊢
    obtain ⟨A, c, h1, h2, h3, h4⟩ := hm
    exact ⟨A, c, h1, h2, h3, fun hne => absurd rfl hne⟩
  | .agg cs, u, h, hm => by
    unfold M at hm ⊢
    obtain ⟨vs, h1, h2⟩ := hm
    exact ⟨vs, h1, flat_Ms cs _ (by simpa [AV.flat] using h) h2⟩
  | .tup cs, u, h, hm => by
    unfold M at hm ⊢
    obtain ⟨vs, h1, h2⟩ := hm
    exact ⟨vs, h1, flat_Ms cs _ (by simpa [AV.flat] using h) h2⟩
  | .ifc t v, u, h, hm => by
    unfold M at hm ⊢
    obtain ⟨q, h1, h2⟩ := hm
    exact ⟨q, h1, flat_M v _ (by simpa [AV.flat] using h) h2⟩
  | .bad, u, h, hm => by simp [AV.flat] at h
  | .ptr _ _ _ _, u, h, hm => by simp [AV.flat] at h
  | .ip _, u, h, hm => by simp [AV.flat] at h
  | .slc _ _ _ _, u, h, hm => by simp [AV.flat] at h
  | .clo _ _ _, u, h, hm => by simp [AV.flat] at h
theorem flat_Ms {X Y : Cx} : ∀ (vs : List AV) (us : List Value), flatL vs = true → Ms X vs us → Ms Y vs us
  | [], us, h, hm => by unfold Ms at hm ⊢; exact hm
  | c :: cs, us, h, hm => by
    simp only [flatL, Bool.and_eq_true] at h
    unfold Ms at hm ⊢
    obtain ⟨u, vs, h1, h2, h3⟩ := hm
    exact ⟨u, vs, h1, flat_M c _ h.1 h2, flat_Ms cs _ h.2 h3⟩
end
theorem call_ok {env : Env} (henv : EnvOk P G env) (hR : Rel G X) {raw : Bool} {g : FuncId} {args : List AV} {cargs : Array Value} {r : R3} (hm : Ms X args cargs.toList) (h : callA env raw g args X.H = some r) :
    Calls P g cargs X.w fun e w' => ∃ u X', X'.w = w' ∧ e = .returned u ∧ X'.H = r.2.1 ∧ Rel G X' ∧ Ext X X' ∧ EscI X.H X'.H r.2.2 ∧ M X' r.1 u := by
  unfold callA at h
  split at h
  · exact henv _ _ _ _ h X cargs rfl hR hm
  · simp only [Option.bind_eq_some_iff] at h
    obtain ⟨as, h1, h2⟩ := h
    obtain ⟨k1, k2, k3⟩ := kill_ok hR (killsL args)
    have hm' := frzL_M hR (killsL args) args as _ hm h1 (fun l hl => hl)
    split at h2
    case isTrue hb =>
      simp only [Option.bind_eq_some_iff] at h2
      obtain ⟨r0, h3, h4⟩ := h2
      split at h4
      case isFalse => cases h4
      rename_i hemp
      simp only [Bool.and_eq_true, List.isEmpty_iff] at hemp
      injection h4 with h4; subst h4
      refine (henv _ _ _ _ h3 (Cx.low ⟨X.F, X.ι, killAll X.H (killsL args), X.w⟩) cargs rfl (low_ok k1) (low_Ms (X := ⟨X.F, X.ι, killAll X.H (killsL args), X.w⟩) (Y := Cx.low ⟨X.F, X.ι, killAll X.H (killsL args), X.w⟩) rfl (fun b => low_im) _ _ hb hm')).mono fun e w' he => ?_
      obtain ⟨u, X', e1, e2, e3, e4, e5, e6, e7⟩ := he
      have hH : X'.H = [] := e3.trans hemp.1
      split
      · rename_i hfl
        subst e1
        obtain ⟨q1, q2, _⟩ := high_ok hR (Y := ⟨X.low.F, X'.ι, [], X'.w⟩) ⟨e5.size, Nat.le_refl _, fun b hb _ => e5.keep b hb low_wr, fun b _ hw => by obtain ⟨l, z, hr, _⟩ := hw; simp [isRow] at hr, fun l t hl _ => by simp [Cx.low] at hl, e5.tape, e5.os, e5.output, rfl⟩ rfl
        exact ⟨u, ⟨X.F, X.ι, X.H, X'.w⟩, rfl, e2, rfl, q1, q2, EscI.refl _, flat_M _ _ hfl e7⟩
      obtain ⟨q1, q2, q3⟩ := high_ok k1 e5 hH
      subst e1
      refine ⟨u, ⟨X.F, X.ι, killAll X.H (killsL args), X'.w⟩, rfl, e2, rfl, q1, k2.trans q2, by simpa using k3.trans (EscI.refl _), ?_⟩
      have hbel := M_bel _ _ e7
      rw [hH] at hbel
      exact low_M (X := X') (Y := ⟨X.F, X.ι, killAll X.H (killsL args), X'.w⟩) rfl q3 _ _ hbel e7
    refine (henv _ _ _ _ h2 ⟨X.F, X.ι, killAll X.H (killsL args), X.w⟩ cargs rfl k1 hm').mono fun e w' he => ?_
    obtain ⟨u, X', e1, e2, e3, e4, e5, e6, e7⟩ := he
    exact ⟨u, X', e1, e2, e3, e4, k2.trans e5, by simpa using k3.trans e6, e7⟩

theorem frzL_len {H : List AObj} : ∀ {cs cs' : List AV}, frzL H cs = some cs' → cs'.length = cs.length
  | [], cs', h => by simp only [frzL, Option.some.injEq] at h; subst h; rfl
  | c :: cs, cs', h => by
    simp only [frzL, Option.bind_eq_some_iff, Option.map_eq_some_iff] at h
    obtain ⟨c', _, ds, h2, rfl⟩ := h
    simp [frzL_len h2]
theorem frz_one {H : List AObj} {v v' : AV} (h1 : v.one = true) (h : frz H v = some v') : v'.one = true ∧ v'.cells = [v'] := by
  cases v with
  | agg _ | tup _ | bad => simp [AV.one] at h1
  | nils => simp only [frz, Option.some.injEq] at h; subst h; exact ⟨rfl, rfl⟩
  | slc l off n tot =>
    simp only [frz] at h
    (repeat' split at h) <;> (first | (injection h with h; subst h; exact ⟨rfl, rfl⟩) | cases h)
  | ifc t w =>
    simp only [frz, Option.map_eq_some_iff] at h
    obtain ⟨w', _, rfl⟩ := h
    exact ⟨rfl, rfl⟩
  | _ => simp only [frz, Option.some.injEq] at h; subst h; exact ⟨rfl, rfl⟩
theorem frzL_one {H : List AObj} : ∀ {cs cs' : List AV}, cs.all AV.one = true → frzL H cs = some cs' → cs'.all AV.one = true
  | [], cs', _, h => by simp only [frzL, Option.some.injEq] at h; subst h; rfl
  | c :: cs, cs', h1, h => by
    simp only [frzL, Option.bind_eq_some_iff, Option.map_eq_some_iff] at h
    obtain ⟨c', k1, ds, h2, rfl⟩ := h
    simp only [List.all_cons, Bool.and_eq_true] at h1 ⊢
    exact ⟨(frz_one h1.1 k1).1, frzL_one h1.2 h2⟩
theorem frz_cells {H : List AObj} {X' : Cx} {v v' : AV} {u : Value} {z : Nat} (hl : v.cells.length = z) (h1 : v.cells.all AV.one = true) (h : frz H v = some v') (hm : M X' v' u) :
    v'.cells.length = z ∧ v'.cells.all AV.one = true ∧ Ms X' v'.cells u.cells.toList := by
  cases v with
  | agg cs =>
    simp only [frz, Option.map_eq_some_iff] at h
    obtain ⟨cs', h2, rfl⟩ := h
    have h3 := frzL_one h1 h2
    exact ⟨by simp only [AV.cells] at hl ⊢; rw [frzL_len h2, hl], h3, cells_of h3 hm⟩
  | tup _ | bad => simp [AV.cells, AV.one] at h1
  | _ =>
    obtain ⟨g1, g2⟩ := frz_one (by simpa [AV.cells] using h1) h
    have h3 : v'.cells.all AV.one = true := by rw [g2]; simpa using g1
    exact ⟨by rw [g2]; simpa [AV.cells] using hl, h3, cells_of h3 hm⟩

theorem Ms_args {l : List Operand} {f : Operand → AV} {g : Operand → Value} (h : ∀ x, M X (f x) (g x)) : Ms X (l.map f) (l.map g) := Ms_map fun x _ => h x
theorem opt_ok {f : Operand → AV} {g : Operand → Value} (h : ∀ x, M X (f x) (g x)) (x : Option Operand) : (x.map f = none ∧ x.map g = none) ∨ ∃ y p, x.map f = some y ∧ x.map g = some p ∧ M X y p := by
  cases x with
  | none => exact .inl ⟨rfl, rfl⟩
  | some x => exact .inr ⟨_, _, rfl, rfl, h x⟩

theorem aop_ok {env : Env} {act : Nat} {r : R3} (henv : EnvOk P G env) (hR : Rel G X) (hF : Ms X T a.tmps.toList) (h : aop P G env act o T X.H = some r) : OpOk P G X o a r := by
  have ρ := fun x => evA_ok hR hF x
  unfold aop at h
  split at h
  · -- move
    rename_i x ho
    obtain ⟨v, hv, rfl⟩ := same_some h
    injection hv with hv; subst hv
    exact ok_same hR (by unfold execOp; rw [ho]; rfl) (ρ x)
  · -- assign
    rename_i x ho
    split at h
    · split at h
      · rename_i hx
        injection h with h; subst h
        have hm := ρ x
        rw [hx, M_nils] at hm
        obtain ⟨w1, w2, w3, w4⟩ := vrow_ok hR
        exact ok_to (X' := ⟨X.F, X.ι, X.H ++ [.vrow], X.w⟩) (by unfold execOp; rw [ho]; rfl) rfl w1 w2 w3 (by rw [hm]; exact w4)
      · cases h
    · obtain ⟨v, hv, rfl⟩ := same_some h
      injection hv with hv; subst hv
      exact ok_same hR (by unfold execOp; rw [ho]; rfl) (ρ x)
  · -- pick
    rename_i c x y ho
    split at h
    · rename_i t hc
      obtain ⟨v, hv, rfl⟩ := same_some h
      injection hv with hv; subst hv
      have hm := ρ c
      rw [hc, M_bool] at hm
      refine ok_same (u := if t then a.eval x else a.eval y) hR (by unfold execOp; rw [ho]; simp [hm, asBool]) ?_
      cases t
      · exact ρ y
      · exact ρ x
    · cases h
  · -- alloc
    rename_i t ho
    simp only [Option.bind_eq_some_iff] at h
    obtain ⟨z, hz, h⟩ := h
    obtain ⟨inf, zval, hi, hzz, rfl, hzrun⟩ := zeroT_some hz
    split at h
    · split at h
      · rename_i hc
        simp only [Bool.and_eq_true] at hc
        injection h with h; subst h
        obtain ⟨X', k1, k2, k3, k4, k6⟩ := newi_ok (P := P) (t := t) hR hc.2 (M_ofVal X zval)
        exact ok_to (by unfold execOp; rw [ho]; exact run_v (by simp [Instr.alloc, hzrun, k1])) k2 k3 k4 (EscI.refl _) k6
      · cases h
    obtain ⟨X', k1, k2, k3, k4, k5, k6⟩   := new_ok (P := P) (t := t) hR h (M_ofVal X zval)
    refine ok_to (by unfold execOp; rw [ho]; exact run_v (by simp [Instr.alloc, hzrun, k1])) k2 k3 k4 k5 k6
  · -- box
    rename_i t x ho
    obtain ⟨X', k1, k2, k3, k4, k5, k6⟩   := new_ok (P := P) (t := t) hR h (ρ x)
    exact ok_to (by unfold execOp; rw [ho]; exact run_v (by simp [Instr.box, k1])) k2 k3 k4 k5 k6
  · -- build
    rename_i t parts ho
    have hp : Parts X (parts.toList.map fun p => (p.1, evA G T p.2)) (parts.map fun (i, x) => (i, a.eval x)).toList := by
      rw [Array.toList_map]
      exact Parts_of ρ
    split at h
    · rename_i fs z hu hz
      split at h
      · rename_i hc
        obtain ⟨v, hv, rfl⟩ := same_some h
        simp only [Option.map_eq_some_iff] at hv
        obtain ⟨cs, hcs, rfl⟩ := hv
        obtain ⟨u, k1, k2⟩ := build_struct_ok hu hz hc.2 hp hc.1 hcs
        exact ok_same hR (by unfold execOp; rw [ho]; exact run_v k1) k2
      · cases h
    · rename_i n e z hu hz
      split at h
      · rename_i hc
        simp only [Option.bind_eq_some_iff] at h
        obtain ⟨s, hs, h⟩ := h
        obtain ⟨v, hv, rfl⟩ := same_some h
        simp only [Option.map_eq_some_iff] at hv
        obtain ⟨cs, hcs, rfl⟩ := hv
        obtain ⟨u, k1, k2⟩ := build_array_ok (ag := s.1) (z := s.2) hu hs hz hc hp hcs
        exact ok_same hR (by unfold execOp; rw [ho]; exact run_v k1) k2
      · cases h
    · cases h
  · -- buildSlice
    rename_i t n parts ho
    have hp : Parts X (parts.toList.map fun p => (p.1, evA G T p.2)) (parts.map fun (i, x) => (i, a.eval x)).toList := by
      rw [Array.toList_map]
      exact Parts_of ρ
    simp only [Option.bind_eq_some_iff] at h
    obtain ⟨e, he, s, hs, z, hz, h⟩ := h
    split at h
    case isFalse => cases h
    rename_i hc
    obtain ⟨c1, c2, c3, c4, c5⟩ := hc
    split at h
    · simp only [Option.map_eq_some_iff] at h
      obtain ⟨es, hes, rfl⟩ := h
      obtain ⟨c, k1, k2, k3, k4, k5⟩ := slice_lit_raw (ag := s.1) (z := s.2) hR (elemT_some he) hs hz c1 c2 c3 c4 c5 hp hes
      obtain ⟨X', w1, w2, w3, w4, w5, w6⟩ := newrow_ok (X := X) (c := c) (el := e) (m := n) hR c3 (by rw [List.take_of_length_le (by rw [k2.1]; exact Nat.le_refl _)]; exact k2) k3 k4 (by omega) (by rw [← Array.length_toList, k2.1, k5])
      refine ok_to (X' := X') (by rw [w1]; unfold execOp; rw [ho]; exact run_v k1) w2 w3 w4 w5 (by rw [k5] at w6; exact w6)
    · simp only [Option.bind_eq_some_iff, Option.map_eq_some_iff] at h
      obtain ⟨vs, hvs, z', hz', es, hes, rfl⟩ := h
      obtain ⟨q1, q2⟩ := Parts_zip hp
      have e1 : (parts.toList.map fun p => (p.1, evA G T p.2)).map (·.2) = parts.toList.map fun p => evA G T p.2 := by simp
      have e2 : (parts.toList.map fun p => (p.1, evA G T p.2)).map (·.1) = parts.toList.map (·.1) := by simp
      rw [e1] at q1
      rw [e2] at q2
      obtain ⟨k1, k2, k3⟩ := kill_ok hR (killsL (parts.toList.map fun p => evA G T p.2))
      have hm' := frzL_M hR _ _ _ _ q1 hvs (fun l hl => hl)
      have hp' := Parts_mk hm' q2
      obtain ⟨inf, zval, hi, hzz, rfl, hzrun⟩ := zeroT_some hz
      have hzm := frz_M hR (killsL (parts.toList.map fun p => evA G T p.2)) _ _ _ (M_ofVal X zval) hz' (fun l hl => by rw [kills_ofVal] at hl; cases hl)
      have hms0 : Ms X (ofVal zval).cells zval.cells.toList := cells_of c4 (M_ofVal X zval)
      have hs0 : zval.cells.size = s.2 := by rw [← Array.length_toList, ← Ms_length hms0, c2]
      -- the frozen zero value
      have hzf : z'.cells.length = s.2 ∧ z'.cells.all AV.one = true ∧ Ms ⟨X.F, X.ι, killAll X.H (killsL (parts.toList.map fun p => evA G T p.2)), X.w⟩ z'.cells zval.cells.toList := frz_cells c2 c4 hz' hzm
      obtain ⟨f1, f2, f3⟩ := hzf
      obtain ⟨d, i, _, _, _, _, _, hsz⟩ := tk_some (ag := s.1) (s := s.2) hs
      obtain ⟨cells', g1, g2, g3, g4, g5⟩ := fillS_ok (H := X.H) hp' (zero_told n f3 f1 c3) (fun e he => by rw [(List.mem_replicate.1 he).2]; exact f1) (fun e he => by rw [(List.mem_replicate.1 he).2]; exact f2) hes
      have hrun : (Instr.buildSlice t n (parts.map fun (i, x) => (i, a.eval x))).run P X.w = .ok (.slice (some ⟨X.w.heap.size, 0, none⟩) n n) { X.w with heap := X.w.heap.push (.cells cells' e) } := by
        unfold Instr.buildSlice
        simp only [Sem.run_bind, run_underlying (elemT_some he), Result.andThen_ok, hsz]
        rw [if_neg (by omega)]
        by_cases h0 : n * s.2 = 0
        · simp only [h0, if_true, Sem.run_bind, Sem.run_pure, Result.andThen_ok]
          have : ((Array.range 0).map fun x => (#[] : Array Value)[x % (#[] : Array Value).size]!) = (Array.range (n * s.2)).map (zval.cells[· % zval.cells.size]!) := by rw [h0]; simp
          rw [this, g1]
          simp [newRow]
        · simp only [h0, if_false, Sem.run_bind, Sem.run_pure, Result.andThen_ok, hzrun]
          rw [g1]
          simp [newRow]
      obtain ⟨w1, w2, w3⟩ := push_im (X := ⟨X.F, X.ι, killAll X.H (killsL (parts.toList.map fun p => evA G T p.2)), X.w⟩) (w' := { X.w with heap := X.w.heap.push (.cells cells' e) }) k1 (fun b hb => by
        show (X.w.heap.push _)[b]? = _
        have hb' : b < X.w.heap.size := hb
        rw [Array.getElem?_push_lt hb']; simp [hb']) (by simp) rfl rfl rfl
      refine ok_to (X' := ⟨X.F, X.ι, killAll X.H (killsL (parts.toList.map fun p => evA G T p.2)), { X.w with heap := X.w.heap.push (.cells cells' e) }⟩) (by unfold execOp; rw [ho]; exact run_v hrun) rfl w1 (k2.trans w2) k3 ?_
      have hlen : es.length = n := by simpa using g5
      rw [← hlen]
      refine lst_of c3 g4 w3 (Me_of_get fun i x hx => ?_) (Nat.le_refl _)
      obtain ⟨vs', m1, m2⟩ := g2.2 i x hx
      refine ⟨g3 x (List.mem_of_getElem? hx), Mc_of_vals (Ms_mono w2 _ _ m1) fun j v hj => ?_⟩
      have := m2 j v hj
      show cellAt { X.w with heap := X.w.heap.push (.cells cells' e) } _ _ = _
      simp only [cellAt, Array.getElem?_push_size, Nat.zero_add]
      simpa using this
  · -- load
    rename_i t x ho
    simp only [Option.bind_eq_some_iff] at h
    obtain ⟨s, hs, h⟩ := h
    obtain ⟨v, hv, rfl⟩ := same_some h
    obtain ⟨u, k1, k2⟩ := load_ok (ag := s.1) (s := s.2) hR hs (ρ x) hv
    exact ok_same hR (by unfold execOp; rw [ho]; exact run_v k1) k2
  · -- store
    rename_i t x y ho
    simp only [Option.bind_eq_some_iff, Option.map_eq_some_iff] at h
    obtain ⟨s, hs, q, hq, rfl⟩ := h
    obtain ⟨X', k1, k2, k3, k4, k5⟩ := store_ok (ag := s.1) (s := s.2) hR hs (ρ x) (ρ y) hq
    exact ok_skip (by unfold execOp; rw [ho]; exact run_u k1) k2 k3 k4 k5
  · -- nilCheck
    rename_i x ho
    have hm := ρ x
    split at h
    · rename_i l tot i off hx
      injection h with h; subst h
      rw [hx] at hm
      obtain ⟨q, hq⟩ := M_ptr hm
      exact ok_same (u := a.eval x) hR (by unfold execOp; rw [ho]; simp only [hq]; rfl) hm
    · rename_i cs hx
      injection h with h; subst h
      rw [hx] at hm
      obtain ⟨b, q, hq, _⟩ := M_ip hm
      exact ok_same (u := a.eval x) hR (by unfold execOp; rw [ho]; simp only [hq]; rfl) hm
    · rename_i f fi ca hx
      injection h with h; subst h
      rw [hx] at hm
      have hm2 := hm
      unfold M at hm2
      obtain ⟨fv, cv, hq, _⟩ := hm2
      exact ok_same (u := a.eval x) hR (by unfold execOp; rw [ho]; simp only [hq]; rfl) hm
    · cases h
  · -- binOp
    rename_i op xt x y yt ho
    simp only [Option.bind_eq_some_iff] at h
    obtain ⟨d, hd, h⟩ := h
    obtain ⟨v, hv, rfl⟩ := same_some h
    obtain ⟨u, k1, k2⟩ := bin_ok (op := op) hd (ρ x) (ρ y) hv
    exact ok_same hR (by unfold execOp; rw [ho]; exact run_v k1) k2
  · -- unOp
    rename_i op t x ho
    obtain ⟨v, hv, rfl⟩ := same_some h
    obtain ⟨u, k1, k2⟩ := un_ok (P := P) (ρ x) hv
    exact ok_same hR (by unfold execOp; rw [ho]; exact run_v k1) k2
  · -- convert
    rename_i src dst x ho
    have hm := ρ x
    split at h
    · rename_i _ k _ n h1 h2 h3
      obtain ⟨v, hv, rfl⟩ := same_some h
      injection hv with hv; subst hv
      rw [h3, M_int] at hm
      rename_i d1 _ _
      refine ok_same (u := .int k (k.wrap n)) hR ?_ (M_int.2 rfl)
      unfold execOp; rw [ho]
      refine run_v ?_
      cases d1 <;> simp [convert, run_underlying h1, run_underlying h2, hm, Conv.intToInt]
    · rename_i s h1 h2 h3
      obtain ⟨v, hv, rfl⟩ := same_some h
      injection hv with hv; subst hv
      rw [h3, M_str] at hm
      refine ok_same (u := .string s) hR ?_ (M_str.2 rfl)
      unfold execOp; rw [ho]
      exact run_v (by simp [convert, run_underlying h1, run_underlying h2, hm])
    · rename_i e s h1 h2 h3
      split at h
      · rename_i hu
        obtain ⟨v, hv, rfl⟩ := same_some h
        injection hv with hv; subst hv
        rw [h3, M_str] at hm
        obtain ⟨u, X', k1, k2, k3, k4, k5⟩ := str_bytes_ok (s := s) hR h1 h2 (isU8_some hu)
        exact ok_to (by unfold execOp; rw [ho]; exact run_v (by rw [hm]; exact k1)) k2 k3 k4 (EscI.refl _) k5
      · cases h
    · cases h
    · rename_i e h1 h2 hns
      split at h
      · rename_i hu
        obtain ⟨v, hv, rfl⟩ := same_some h
        simp only [Option.bind_eq_some_iff, Option.map_eq_some_iff] at hv
        obtain ⟨es, hes, l, hl, rfl⟩ := hv
        refine ok_same hR ?_ (M_str.2 rfl)
        unfold execOp; rw [ho]
        exact run_v (bytes_str_ok hR h1 h2 (isU8_some hu) hm hes (fun s hs => hns s hs) hl)
      · cases h
    · rename_i e0 e h1 h2
      split at h
      · rename_i hu
        obtain ⟨hsd, hu⟩ := hu
        simp only [beq_iff_eq] at hsd
        subst hsd
        obtain ⟨v, hv, rfl⟩ := same_some h
        obtain ⟨X', k1, k2, k3, k4, k5⟩ := cvR_ok hR h2 (isU8_some hu) hm hv
        exact ok_to (by unfold execOp; rw [ho]; exact run_v k1) k2 k3 k4 (EscI.refl _) k5
      · cases h
    · cases h
  · -- makeInterface
    rename_i t x ho
    split at h
    · cases h
    · rename_i hi
      obtain ⟨v, hv, rfl⟩ := same_some h
      injection hv with hv; subst hv
      obtain ⟨k1, k2⟩ := makeIface_ok hi (ρ x)
      exact ok_same hR (by unfold execOp; rw [ho]; exact run_v k1) k2
  · -- makeFunc
    rename_i f first cap ho
    obtain ⟨v, hv, rfl⟩ := same_some h
    injection hv with hv; subst hv
    refine ok_same (u := .func (.func f) (first.map a.eval) (cap.map a.eval)) hR (by unfold execOp; rw [ho]; rfl) ?_
    unfold M
    exact ⟨_, _, rfl, by rw [Array.toList_map]; exact Ms_args ρ, by rw [Array.toList_map]; exact Ms_args ρ⟩
  · -- slice
    rename_i t x lo hi mx ho
    split at h
    · rename_i e hu
      simp only [Option.bind_eq_some_iff] at h
      obtain ⟨s, hs, h⟩ := h
      obtain ⟨v, hv, rfl⟩ := same_some h
      obtain ⟨u, k1, k2⟩ := cut_slice_ok (ag := s.1) (z := s.2) hR hu hs (ρ x) (opt_ok ρ lo) (opt_ok ρ hi) (opt_ok ρ mx) hv
      exact ok_same hR (by unfold execOp; rw [ho]; exact run_v k1) k2
    · rename_i hu
      split at h
      · cases h
      · rename_i hmx
        obtain ⟨v, hv, rfl⟩ := same_some h
        obtain ⟨u, k1, k2⟩ := cut_str_ok (P := P) hu (ρ x) (opt_ok ρ lo) (opt_ok ρ hi) hv
        have : mx = none := by cases mx <;> simp_all
        subst this
        exact ok_same hR (by unfold execOp; rw [ho]; exact run_v k1) k2
    · cases h
  · -- fieldAddr
    rename_i s x f ho
    split at h
    · rename_i fs hu
      simp only [Option.bind_eq_some_iff] at h
      obtain ⟨fd, hf, z, hz, h⟩ := h
      split at h
      · rename_i hz0
        obtain ⟨v, hv, rfl⟩ := same_some h
        obtain ⟨u, k1, k2⟩ := fieldAddr_ok hu hf hz hz0 (ρ x) hv
        exact ok_same hR (by unfold execOp; rw [ho]; exact run_v k1) k2
      · cases h
    · cases h
  · -- field
    rename_i s x f ho
    split at h
    · rename_i fs cs hu hx
      simp only [Option.bind_eq_some_iff] at h
      obtain ⟨fd, hf, z, hz, h⟩ := h
      obtain ⟨v, hv, rfl⟩ := same_some h
      have hm := ρ x
      rw [hx] at hm
      obtain ⟨u, k1, k2⟩ := field_ok hu hf hz hm hv
      exact ok_same hR (by unfold execOp; rw [ho]; exact run_v k1) k2
    · cases h
  · -- indexAddr
    rename_i t x ix ho
    split at h
    · rename_i e k i hu hix
      have hm := ρ ix
      rw [hix, M_int] at hm
      simp only [Option.bind_eq_some_iff] at h
      obtain ⟨s, hs, h⟩ := h
      obtain ⟨v, hv, rfl⟩ := same_some h
      obtain ⟨u, k1, k2⟩ := index_slice_ok (ag := s.1) (z := s.2) (k := k) hR hu hs (ρ x) hv
      exact ok_same hR (by unfold execOp; rw [ho]; exact run_v (by rw [hm]; exact k1)) k2
    · rename_i n e k i hu hix
      have hm := ρ ix
      rw [hix, M_int] at hm
      simp only [Option.bind_eq_some_iff] at h
      obtain ⟨s, hs, h⟩ := h
      split at h
      · rename_i hc
        obtain ⟨v, hv, rfl⟩ := same_some h
        obtain ⟨u, k1, k2⟩ := index_array_ok (ag := s.1) (z := s.2) (k := k) hu hs (ρ x) hc.1 hc.2 hv
        exact ok_same hR (by unfold execOp; rw [ho]; exact run_v (by rw [hm]; exact k1)) k2
      · cases h
    · cases h
  · -- index
    rename_i t x ix ho
    have hmx := ρ x
    have hm := ρ ix
    split at h
    · rename_i n e cs k i hu hx hix
      rw [hix, M_int] at hm
      rw [hx] at hmx
      simp only [Option.bind_eq_some_iff] at h
      obtain ⟨s, hs, h⟩ := h
      split at h
      · rename_i hc
        obtain ⟨v, hv, rfl⟩ := same_some h
        obtain ⟨u, k1, k2⟩ := index_agg_ok (ag := s.1) (z := s.2) (k := k) hu hs hmx hc.1 hc.2 hv
        exact ok_same hR (by unfold execOp; rw [ho]; exact run_v (by rw [hm]; exact k1)) k2
      · cases h
    · rename_i s k i hu hx hix
      rw [hix, M_int] at hm
      rw [hx] at hmx
      split at h
      · rename_i hc
        obtain ⟨v, hv, rfl⟩ := same_some h
        obtain ⟨u, k1, k2⟩ := index_str_ok (P := P) (k := k) hu hmx hc hv
        exact ok_same hR (by unfold execOp; rw [ho]; exact run_v (by rw [hm]; exact k1)) k2
      · cases h
    · cases h
  · -- extract
    rename_i x i ho
    split at h
    · rename_i vs hx
      obtain ⟨v, hv, rfl⟩ := same_some h
      have hm := ρ x
      rw [hx] at hm
      obtain ⟨us, hq, hs⟩ := M_tup hm
      obtain ⟨u, hu, hmu⟩ := Ms_get hs hv
      rw [Array.getElem?_toList] at hu
      exact ok_same hR (by unfold execOp; rw [ho]; exact run_v (by simp [hq, Instr.extract, hu])) hmu
    · cases h
  · -- typeAssert
    rename_i x xt t ok ho
    split at h
    · cases h
    · rename_i hi
      obtain ⟨d, hd, hn⟩ := iface_no hi
      have hm := ρ x
      split at h
      · rename_i u v hx
        rw [hx] at hm
        obtain ⟨p, hq, hp⟩ := M_ifc hm
        split at h
        · rename_i hut
          subst hut
          injection h with h; subst h
          cases ok with
          | true =>
            refine ok_same (u := .tuple #[p, .bool true]) hR ?_ (by unfold M; exact ⟨_, rfl, by unfold Ms; exact ⟨p, _, rfl, hp, by unfold Ms; exact ⟨_, [], rfl, M_bool.2 rfl, by simp [Ms]⟩⟩⟩)
            unfold execOp; rw [ho]
            refine run_v ?_
            cases d <;> first | exact absurd rfl (hn _) | simp [Instr.typeAssert, run_underlying hd, hq]
          | false =>
            refine ok_same (u := p) hR ?_ hp
            unfold execOp; rw [ho]
            refine run_v ?_
            cases d <;> first | exact absurd rfl (hn _) | simp [Instr.typeAssert, run_underlying hd, hq]
        · rename_i hut
          split at h
          · rename_i hok
            simp only [Option.bind_eq_some_iff, Option.some.injEq] at h
            obtain ⟨z, hz, rfl⟩ := h
            obtain ⟨inf, zval, hi2, hzz, rfl, hzrun⟩ := zeroT_some hz
            refine ok_same (u := .tuple #[zval, .bool false]) hR ?_ (by unfold M; exact ⟨_, rfl, by unfold Ms; exact ⟨zval, _, rfl, M_ofVal X zval, by unfold Ms; exact ⟨_, [], rfl, M_bool.2 rfl, by simp [Ms]⟩⟩⟩)
            unfold execOp; rw [ho]
            refine run_v ?_
            cases d <;> first | exact absurd rfl (hn _) | simp [Instr.typeAssert, run_underlying hd, hq, hut, hok, hzrun]
          · cases h
      · rename_i hx
        rw [hx, M_nili] at hm
        split at h
        · rename_i hok
          simp only [Option.bind_eq_some_iff, Option.some.injEq] at h
          obtain ⟨z, hz, rfl⟩ := h
          obtain ⟨inf, zval, hi2, hzz, rfl, hzrun⟩ := zeroT_some hz
          refine ok_same (u := .tuple #[zval, .bool false]) hR ?_ (by unfold M; exact ⟨_, rfl, by unfold Ms; exact ⟨zval, _, rfl, M_ofVal X zval, by unfold Ms; exact ⟨_, [], rfl, M_bool.2 rfl, by simp [Ms]⟩⟩⟩)
          unfold execOp; rw [ho]
          refine run_v ?_
          cases d <;> first | exact absurd rfl (hn _) | simp [Instr.typeAssert, run_underlying hd, hm, hok, hzrun]
        · cases h
      · cases h
  · -- makeSlice
    rename_i t n c ho
    simp only [Option.bind_eq_some_iff] at h
    obtain ⟨e, he, s, hs, z, hz, i, hi, h⟩ := h
    obtain ⟨v, X', k1, k2, k3, k4, k5, k6⟩ := make_ok (ag := s.1) (z := s.2) hR (elemT_some he) hs hz hi (ρ n) (ρ c) h
    exact ok_to (by unfold execOp; rw [ho]; exact run_v k1) k2 k3 k4 k5 k6
  · -- call
    rename_i c ho
    have hms : ∀ l : Array Operand, Ms X (l.toList.map (evA G T)) (l.map a.eval).toList := fun l => by rw [Array.toList_map]; exact Ms_args ρ
    split at h
    · -- len
      rename_i hc
      have hex : ∀ {u : Value}, (Builtin.len_ c.argTypes o.type (c.args.map a.eval)).run P X.w = .ok u X.w → (execOp a.eval o).run P X.w = .ok (.value u) X.w := fun hk => by
        unfold execOp; rw [ho]
        simp [resolve, hc, invoke, builtin, hk]
      split at h
      · rename_i x n e hx hu
        obtain ⟨t, h0, hd⟩ := Option.bind_eq_some_iff.1 hu
        obtain ⟨v, hv, rfl⟩ := same_some h
        injection hv with hv; subst hv
        have hargs : c.args.map a.eval = #[a.eval x] := by apply Array.ext'; rw [Array.toList_map, hx]; rfl
        exact ok_same hR (hex (by rw [hargs]; exact len_array_ok h0 hd)) (M_int.2 rfl)
      · rename_i x hx hu
        obtain ⟨t, h0, hd⟩ := Option.bind_eq_some_iff.1 hu
        have hargs : c.args.map a.eval = #[a.eval x] := by apply Array.ext'; rw [Array.toList_map, hx]; rfl
        split at h
        · rename_i s hs
          obtain ⟨v, hv, rfl⟩ := same_some h
          injection hv with hv; subst hv
          have hm := ρ x
          rw [hs] at hm
          exact ok_same hR (hex (by rw [hargs]; exact len_str_ok h0 hd hm)) (M_int.2 rfl)
        · cases h
      · rename_i x e hx hu
        obtain ⟨t, h0, hd⟩ := Option.bind_eq_some_iff.1 hu
        have hargs : c.args.map a.eval = #[a.eval x] := by apply Array.ext'; rw [Array.toList_map, hx]; rfl
        obtain ⟨v, hv, rfl⟩ := same_some h
        simp only [Option.map_eq_some_iff] at hv
        obtain ⟨n, hn, rfl⟩ := hv
        exact ok_same hR (hex (by rw [hargs]; exact len_slice_ok h0 hd (ρ x) hn)) (M_int.2 rfl)
      · cases h
    · -- append
      rename_i hc
      split at h
      · rename_i x y t u hx h0 h1
        simp only [Option.bind_eq_some_iff] at h
        obtain ⟨e, he, s, hs, i, hi, z0, hz0, h⟩ := h
        split at h
        · rename_i hcc
          simp only [Option.bind_eq_some_iff] at h
          obtain ⟨ys, hys, h⟩ := h
          have hargs : c.args.map a.eval = #[a.eval x, a.eval y] := by apply Array.ext'; rw [Array.toList_map, hx]; rfl
          obtain ⟨v, X', k1, k2, k3, k4, k5, k6⟩ := append_ok (ag := s.1) (z := s.2) (ty := o.type) hR h0 h1 (elemT_some he) hcc.1 hs hi hz0 hcc.2.1 hcc.2.2 (ρ x) (ρ y) hys h
          refine ok_to (X' := X') ?_ k2 k3 k4 k5 k6
          unfold execOp; rw [ho]
          simp [resolve, hc, invoke, builtin, hargs, k1]
        · split at h
          · rename_i hint
            obtain ⟨k, hk⟩ : ∃ k, P.underlying u = some (.int k) := by
              unfold isInt at hint
              split at hint
              · exact ⟨_, by assumption⟩
              · cases hint
            have hargs : c.args.map a.eval = #[a.eval x, a.eval y] := by apply Array.ext'; rw [Array.toList_map, hx]; rfl
            obtain ⟨v, X', k1, k2, k3, k4, k5, k6⟩ := appZ_ok (ag := s.1) (z := s.2) (ty := o.type) hR h0 h1 (elemT_some he) hk hs hi hz0 (ρ x) (ρ y) h
            refine ok_to (X' := X') ?_ k2 k3 k4 k5 k6
            unfold execOp; rw [ho]
            simp [resolve, hc, invoke, builtin, hargs, k1]
          · cases h
      · cases h
    · -- cap
      rename_i hc
      split at h
      · rename_i x e hx hd
        obtain ⟨v, hv, rfl⟩ := same_some h
        obtain ⟨t, h0, hd⟩ := Option.bind_eq_some_iff.1 hd
        have hargs : c.args.map a.eval = #[a.eval x] := by apply Array.ext'; rw [Array.toList_map, hx]; rfl
        obtain ⟨u, k1, k2⟩ := cap_ok (ty := o.type) h0 hd (ρ x) hv
        refine ok_same hR ?_ k2
        unfold execOp; rw [ho]
        simp [resolve, hc, invoke, builtin, hargs, k1]
      · cases h
    · -- min
      rename_i hc
      obtain ⟨v, hv, rfl⟩ := same_some h
      obtain ⟨u, k1, k2⟩ := min_ok (P := P) (ts := c.argTypes) (ty := o.type) (hms c.args) hv
      refine ok_same hR ?_ k2
      unfold execOp; rw [ho]
      simp only [Array.toArray_toList] at k1
      simp [resolve, hc, invoke, builtin, k1]
    · -- max
      rename_i hc
      obtain ⟨v, hv, rfl⟩ := same_some h
      obtain ⟨u, k1, k2⟩ := max_ok (P := P) (ts := c.argTypes) (ty := o.type) (hms c.args) hv
      refine ok_same hR ?_ k2
      unfold execOp; rw [ho]
      simp only [Array.toArray_toList] at k1
      simp [resolve, hc, invoke, builtin, k1]
    · -- a function
      rename_i f hc
      split at h
      · rename_i g fi ca hx
        split at h
        · rename_i hg
          have hm := ρ f
          rw [hx] at hm
          unfold M at hm
          obtain ⟨fv, cv, hq, hfi, hca⟩ := hm
          intro K Q hK
          have hargs : Ms X (fi ++ c.args.toList.map (evA G T) ++ ca) (fv ++ c.args.map a.eval ++ cv).toList := by
            rw [Array.toList_append, Array.toList_append]
            exact Ms_append (Ms_append hfi (hms c.args)) hca
          refine upon_enter (g := g) (args := fv ++ c.args.map a.eval ++ cv) (by unfold execOp; rw [ho]; exact run_call hg hc hq) ?_
          refine (call_ok henv hR hargs h).mono fun e w' he => ?_
          obtain ⟨u, X', rfl, e2, e3, e4, e5, e6, e7⟩ := he
          exact ⟨u, e2, hK u X' e3 e4 e5 e6 e7⟩
        · cases h
      · cases h
    · cases h
  · cases h
end
end Go.Pm
