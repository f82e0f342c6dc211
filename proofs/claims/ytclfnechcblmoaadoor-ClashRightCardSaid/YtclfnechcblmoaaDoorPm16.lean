/- Soundness, part 13: a region in the order of its text. -/
import Derived.Test.YtclfnechcblmoaaDoorPm24
namespace Go.Pm
set_option linter.unusedVariables false
set_option linter.unusedSimpArgs false
section
variable {P : Program} {G : Nat → Option (List AV)} {X : Cx} {o : Oper} {a : Act} {T : List AV}

theorem aop'_ok {env : Env} {act : Nat} {r : R3} (henv : EnvOk P G env) (hR : Rel G X) (hF : Ms X T a.tmps.toList) (h : aop' P G env act o T X.H = some r) : OpOk P G X o a r := by
  unfold aop' at h
  split at h
  · simp only [Option.bind_eq_some_iff, Option.map_eq_some_iff] at h
    obtain ⟨r0, h0, v, hv, rfl⟩ := h
    intro K Q hK
    refine aop_ok henv hR hF h0 K Q fun u X' e1 e2 e3 e4 e5 => ?_
    rw [← e1] at hv
    obtain ⟨k1, k2, k3⟩ := kill_ok e2 (kills r0.1)
    have hm := frz_M e2 (kills r0.1) r0.1 v u e5 hv (fun l hl => hl)
    refine hK u ⟨X'.F, X'.ι, killAll X'.H (kills r0.1), X'.w⟩ (by rw [← e1]) k1 (e3.trans k2) ?_ hm
    simpa using EscI.trans e4 k3
  · split at h
    · obtain ⟨r0, h0, h1⟩ := Option.bind_eq_some_iff.1 h
      obtain ⟨v0, H0, E0⟩ := r0
      unfold trimA at h1
      simp only at h1
      split at h1
      · rename_i l k tot
        split at h1
        · rename_i z es hl
          split at h1
          · rename_i hc
            injection h1 with h1; subst h1
            obtain ⟨rfl, hk⟩ := hc
            intro K Q hK
            refine aop_ok henv hR hF h0 K Q fun u X' e1 e2 e3 e4 e5 => ?_
            simp only at e1 e4 e5
            subst e1
            obtain ⟨Y, y1, y2, y3, y4, y5, y6⟩ := trim_ok e2 hl hk e5
            rw [← y1]
            exact hK u Y y2 y3 (e3.trans y4) (by rw [← y2]; simpa using EscI.trans e4 y5) y6
          · cases h1
        · cases h1
      · cases h1
    · exact aop_ok henv hR hF h

theorem want_ok {ops : Array Oper} {b : Bool} (hF : Ms X T a.tmps.toList) (h : wantA ops T o = some b) : Region.wanted o (yielded ops a.tmps) = b := by
  unfold wantA at h
  unfold Region.wanted
  split at h
  · rename_i hg
    injection h with h; subst h
    simp [hg]
  · rename_i j want hg
    simp only [hg]
    unfold yielded
    split at h
    · rename_i hd
      injection h with h; subst h
      simp [hd]
    · rename_i d hd
      have hl := Ms_length hF
      split at h
      · rename_i ht
        injection h with h; subst h
        have : a.tmps[d]? = none := by
          rw [List.getElem?_eq_none_iff] at ht
          have hsz : a.tmps.toList.length = a.tmps.size := Array.length_toList
          exact Array.getElem?_eq_none (by omega)
        simp [hd, this]
      · rename_i v ht
        injection h with h; subst h
        obtain ⟨u, hu, hm⟩ := Ms_get hF ht
        rw [M_bool] at hm; subst hm
        rw [Array.getElem?_toList] at hu
        simp [hd, hu]
      · rename_i vs ht
        injection h with h; subst h
        obtain ⟨u, hu, hm⟩ := Ms_get hF ht
        obtain ⟨us, rfl, _⟩ := M_tup hm
        rw [Array.getElem?_toList] at hu
        simp [hd, hu]
      · cases h

theorem put_defers (a : Act) (d : Option Tmp) (u : Value) : (a.put d u).defers = a.defers := by cases d <;> rfl

/-- One operation. -/
theorem step_ok {env : Env} (henv : EnvOk P G env) {hh : Hint} {id i : Nat} {ops : Array Oper} {s s1 : St} (ho : ops[i]? = some o) (hH : X.H = s.H) (hR : Rel G X) (hF : Ms X s.T a.tmps.toList) (h : opA P G env hh id ops i o s = some s1)
    {K : Act → World → Prop} {Q : Exit → Act → World → Prop}
    (hK : ∀ X1 a1 N, X1.H = s1.H → Rel G X1 → Ext X X1 → s1.E = N ++ s.E → EscI X.H X1.H N → Ms X1 s1.T a1.tmps.toList → a1.defers = a.defers → K a1 X1.w) : wpOp P ops Q i K a X.w := by
  unfold wpOp
  simp only [ho]
  unfold opA at h
  split at h
  · rename_i hw
    simp only [Option.map_eq_some_iff] at h
    obtain ⟨r, hr, rfl⟩ := h
    rw [want_ok hF hw]
    simp only [if_true]
    left
    rw [← hH] at hr
    refine aop'_ok henv hR hF hr K Q fun u X' e1 e2 e3 e4 e5 => ?_
    exact hK X' _ r.2.2 e1 e2 e3 rfl e4 (putA_ok (Ms_mono e3 _ _ hF) o.dst e5) (put_defers _ _ _)
  · rename_i hw
    injection h with h; subst h
    rw [want_ok hF hw]
    simp only [Bool.false_eq_true, if_false]
    exact hK X _ [] hH hR (Ext.refl X) rfl (EscI.refl _) (putA_ok hF o.dst (by unfold M; exact ⟨#[], rfl, by simp [Ms]⟩)) (put_defers _ _ _)
  · cases h

theorem ops_ok {env : Env} (henv : EnvOk P G env) {hh : Hint} {id : Nat} {ops : Array Oper} {Q : Exit → Act → World → Prop} : ∀ (rest : List Oper) (i : Nat) (X : Cx) (a : Act) (s s1 : St), (∀ k, rest[k]? = ops[i + k]?) → X.H = s.H → Rel G X → Ms X s.T a.tmps.toList → opsA P G env hh id ops rest i s = some s1 →
    (∀ X1 a1 N, X1.H = s1.H → Rel G X1 → Ext X X1 → s1.E = N ++ s.E → EscI X.H X1.H N → Ms X1 s1.T a1.tmps.toList → a1.defers = a.defers → Q .normal a1 X1.w) → wpOps P ops Q (List.range' i rest.length) a X.w
  | [], i, X, a, s, s1, hr, hH, hR, hF, h, hQ => by
    simp only [opsA, Option.some.injEq] at h
    subst h
    simp only [List.length_nil, List.range'_zero, wpOps]
    exact hQ X a [] hH hR (Ext.refl X) rfl (EscI.refl _) hF rfl
  | o :: rest, i, X, a, s, s1, hr, hH, hR, hF, h, hQ => by
    simp only [opsA, Option.bind_eq_some_iff] at h
    obtain ⟨s', h1, h2⟩ := h
    rw [List.length_cons, List.range'_succ, wpOps_cons]
    have ho : ops[i]? = some o := by have := hr 0; simpa using this.symm
    refine step_ok henv ho hH hR hF h1 fun X1 a1 N e1 e2 e3 e4 e5 e6 e7 => ?_
    refine ops_ok henv rest (i + 1) X1 a1 s' s1 (fun k => ?_) e1 e2 e6 h2 fun X2 a2 N2 f1 f2 f3 f4 f5 f6 f7 => ?_
    · have := hr (k + 1)
      rw [show i + 1 + k = i + (k + 1) by omega]
      simpa using this
    · exact hQ X2 a2 (N2 ++ N) f1 f2 (e3.trans f3) (by rw [f4, e4, List.append_assoc]) (e5.trans f5) f6 (f7.trans e7)
theorem region_ok {env : Env} (henv : EnvOk P G env) {hh : Hint} {id : Nat} {ops : Array Oper} {Q : Exit → Act → World → Prop} {s s1 : St} (hH : X.H = s.H) (hR : Rel G X) (hF : Ms X s.T a.tmps.toList) (h : opsA P G env hh id ops ops.toList 0 s = some s1)
    (hQ : ∀ X1 a1 N, X1.H = s1.H → Rel G X1 → Ext X X1 → s1.E = N ++ s.E → EscI X.H X1.H N → Ms X1 s1.T a1.tmps.toList → a1.defers = a.defers → Q .normal a1 X1.w) : (Code.region id ops false).wp P Q a X.w := by
  refine wp_region ?_
  rw [List.range_eq_range']
  have := ops_ok henv (Q := Q) ops.toList 0 X a s s1 (fun k => by simp) hH hR hF h hQ
  simpa using this
end
end Go.Pm
