/- Soundness, part 14: code. -/
import Derived.Test.YtclfnechcblmoaaDoorPm20
import Derived.LoopN
namespace Go.Pm
set_option linter.unusedVariables false
set_option linter.unusedSimpArgs false
section
variable {P : Program} {G : Nat → Option (List AV)} {fn : Func}

/-- What must hold at the way out that the evaluator tells: from the state X on, of escapes E. -/
def OutOk (P : Program) (G : Nat → Option (List AV)) (fn : Func) (Q : Exit → Act → World → Prop) (X : Cx) (E : List Nat) (dfs : List Deferred) : Out → Prop
  | .nrm s1 => ∀ X1 a1 N, X1.H = s1.H → Rel G X1 → Ext X X1 → s1.E = N ++ E → EscI X.H X1.H N → Ms X1 s1.T a1.tmps.toList → a1.defers = dfs → Q .normal a1 X1.w
  | .ext id s1 => ∀ X1 a1 N, X1.H = s1.H → Rel G X1 → Ext X X1 → s1.E = N ++ E → EscI X.H X1.H N → Ms X1 s1.T a1.tmps.toList → a1.defers = dfs → Q (.exit id) a1 X1.w
  | .ret r H1 E1 => ∀ X1 a1 N u, X1.H = H1 → Rel G X1 → Ext X X1 → E1 = N ++ E → EscI X.H X1.H N → (results fn a1.tmps).run P X1.w = .ok u X1.w → M X1 r u → a1.defers = dfs → Q .ret a1 X1.w

theorem OutOk.shift {Q : Exit → Act → World → Prop} {X X2 : Cx} {E N : List Nat} {dfs : List Deferred} {o : Out} (h : OutOk P G fn Q X E dfs o) (hE : Ext X X2) (hesc : EscI X.H X2.H N) : OutOk P G fn Q X2 (N ++ E) dfs o := by
  cases o with
  | nrm s1 => exact fun X1 a1 N1 e1 e2 e3 e4 e5 e6 e7 => h X1 a1 (N1 ++ N) e1 e2 (hE.trans e3) (by rw [e4, List.append_assoc]) (hesc.trans e5) e6 e7
  | ext id s1 => exact fun X1 a1 N1 e1 e2 e3 e4 e5 e6 e7 => h X1 a1 (N1 ++ N) e1 e2 (hE.trans e3) (by rw [e4, List.append_assoc]) (hesc.trans e5) e6 e7
  | ret r H1 E1 => exact fun X1 a1 N1 u e1 e2 e3 e4 e5 e6 e7 e8 => h X1 a1 (N1 ++ N) u e1 e2 (hE.trans e3) (by rw [e4, List.append_assoc]) (hesc.trans e5) e6 e7 e8

theorem clear_ok {X : Cx} : ∀ {ts : List Nat} {T : List AV} {vs : List Value}, Ms X T vs → Ms X (clearA T ts) vs
  | [], T, vs, h => h
  | t :: ts, T, vs, h => by
    simp only [clearA]
    refine clear_ok ?_
    have hl := Ms_length h
    by_cases ht : t < T.length
    · have := Ms_set h t (c := .bad) (u := vs[t]'(by omega)) (by unfold M; trivial)
      rwa [List.set_getElem_self] at this
    · rwa [List.set_eq_of_length_le (by omega)]

def resF (tmps : Array Value) : ResultVar → Sem Value
  | .tmp t => pure (tmps.getD t undef)
  | .cell a t => do loadVar t (← asAddr (tmps.getD a undef))
theorem results_eq (fn : Func) (tmps : Array Value) : results fn tmps = (do
    let vs ← fn.results.mapM (resF tmps)
    pure (if h : vs.size = 1 then vs[0] else .tuple vs)) := by
  have : (fun x => match x with | .tmp t => pure (tmps.getD t undef) | .cell a t => do loadVar t (← asAddr (tmps.getD a undef)) : ResultVar → Sem Value) = resF tmps := by
    funext x; cases x <;> rfl
  unfold results
  rw [← this]
  rfl

theorem res_ok {X : Cx} {a : Act} {s : St} {r : AV} (hH : X.H = s.H) (hR : Rel G X) (hF : Ms X s.T a.tmps.toList) (h : resA P fn s = some r) : ∃ u, (results fn a.tmps).run P X.w = .ok u X.w ∧ M X r u := by
  unfold resA at h
  simp only [Option.map_eq_some_iff] at h
  obtain ⟨vs, hvs, hr⟩ := h
  have ρ : ∀ t, M X (s.T.getD t (.tup [])) (a.tmps.getD t undef) := fun t => evA_ok hR hF (.tmp t)
  have one : ∀ (x : ResultVar) (v : AV), resA1 P s x = some v → ∃ u, (resF a.tmps x).run P X.w = .ok u X.w ∧ M X v u := fun x v hx => by
    cases x with
    | tmp t =>
      simp only [resA1, Option.some.injEq] at hx
      subst hx
      exact ⟨_, rfl, ρ t⟩
    | cell b t =>
      simp only [resA1, Option.bind_eq_some_iff] at hx
      obtain ⟨z, hz, hx⟩ := hx
      rw [← hH] at hx
      obtain ⟨u, k1, k2⟩ := load_ok (ag := z.1) (s := z.2) hR hz (ρ b) hx
      refine ⟨u, ?_, k2⟩
      unfold Instr.loadAt Instr.sureAddr at k1
      simp only [resF]
      unfold asAddr
      generalize hq : a.tmps.getD b undef = q at k1 ⊢
      have hp := ρ b
      rw [hq] at hp
      cases hb : s.T.getD b (.tup []) with
      | ip cs =>
        rw [hb] at hp
        obtain ⟨b', o', rfl, _⟩ := M_ip hp
        simpa using k1
      | ptr l tot i off =>
        rw [hb] at hp
        obtain ⟨q', rfl⟩ := M_ptr hp
        simpa using k1
      | _ => rw [hb] at hx; simp [loadA] at hx
  have all : ∀ (l : List ResultVar) (vs : List AV), l.mapM (resA1 P s) = some vs → ∃ us : List Value, (l.mapM (resF a.tmps)).run P X.w = .ok us X.w ∧ Ms X vs us := fun l => by
    induction l with
    | nil => intro vs h; simp at h; subst h; exact ⟨[], by simp, by simp [Ms]⟩
    | cons x l ih =>
      intro vs h
      rw [List.mapM_cons] at h
      simp only [Option.bind_eq_bind, Option.bind_eq_some_iff, Option.pure_def, Option.some.injEq] at h
      obtain ⟨v, hv, ws, hws, rfl⟩ := h
      obtain ⟨u, k1, k2⟩ := one x v hv
      obtain ⟨us, k3, k4⟩ := ih ws hws
      refine ⟨u :: us, ?_, by unfold Ms; exact ⟨u, us, rfl, k2, k4⟩⟩
      rw [List.mapM_cons, Sem.run_bind, k1, Result.andThen_ok, Sem.run_bind, k3, Result.andThen_ok]
      rfl
  obtain ⟨us, k1, k2⟩ := all _ _ hvs
  have hl := Ms_length k2
  have hrun : (fn.results.mapM (resF a.tmps)).run P X.w = .ok us.toArray X.w := by
    rw [Array.mapM_eq_mapM_toList, Sem.run_map, k1]
    rfl
  cases vs with
  | nil =>
    simp at hr; subst hr
    have : us = [] := List.eq_nil_of_length_eq_zero (by simpa using hl.symm)
    subst this
    refine ⟨.tuple #[], ?_, by unfold M; exact ⟨_, rfl, by simpa using k2⟩⟩
    rw [results_eq, Sem.run_bind, hrun]; rfl
  | cons v vs =>
    cases vs with
    | nil =>
      simp at hr; subst hr
      unfold Ms at k2
      obtain ⟨u, us', rfl, hu, hus⟩ := k2
      unfold Ms at hus; subst hus
      refine ⟨u, ?_, hu⟩
      rw [results_eq, Sem.run_bind, hrun]; rfl
    | cons v2 vs =>
      simp at hr; subst hr
      refine ⟨.tuple us.toArray, ?_, by unfold M; exact ⟨_, rfl, by simpa using k2⟩⟩
      have h2 : us.toArray.size ≠ 1 := by simp at hl; simp; omega
      rw [results_eq, Sem.run_bind, hrun]
      simp only [Result.andThen_ok]
      rw [dif_neg h2]
      rfl

theorem lim_some {α : Type} {f : Nat → Option α} {x : α} (h : lim f = some x) : ∃ n, f n = some x := by
  unfold lim at h
  split at h
  · exact ⟨_, h⟩
  · cases h

theorem code_ok {env : Env} (henv : EnvOk P G env) {hh : Hint} : ∀ (c : Code) (Q : Exit → Act → World → Prop) (X : Cx) (a : Act) (s : St) (o : Out), X.H = s.H → Rel G X → Ms X s.T a.tmps.toList → runC P G env hh fn c s = some o →
    OutOk P G fn Q X s.E a.defers o → c.wp P Q a X.w := by
  intro c
  induction c with
  | skip =>
    intro Q X a s o hH hR hF h hQ
    simp only [runC, Option.some.injEq] at h
    subst h
    exact wp_skip (hQ X a [] hH hR (Ext.refl X) rfl (EscI.refl _) hF rfl)
  | label l =>
    intro Q X a s o hH hR hF h hQ
    simp only [runC, Option.some.injEq] at h
    subst h
    exact wp_label (hQ X a [] hH hR (Ext.refl X) rfl (EscI.refl _) hF rfl)
  | region id ops draw =>
    intro Q X a s o hH hR hF h hQ
    simp only [runC, Option.bind_eq_some_iff] at h
    obtain ⟨s1, h1, h⟩ := h
    cases draw with
    | true =>
      simp only [if_true] at h
      split at h
      · rename_i hd
        injection h with h; subst h
        exact draw_ok henv hH hR hF h1 hd hQ
      · cases h
    | false =>
      simp only [Bool.false_eq_true, if_false, Option.some.injEq] at h
      subst h
      exact region_ok henv hH hR hF h1 hQ
  | seq x y ihx ihy =>
    intro Q X a s o hH hR hF h hQ
    simp only [runC, Option.bind_eq_some_iff] at h
    obtain ⟨o1, h1, h2⟩ := h
    refine wp_seq (ihx _ X a s o1 hH hR hF h1 ?_)
    cases o1 with
    | nrm s1 =>
      simp only at h2
      intro X1 a1 N e1 e2 e3 e4 e5 e6 e7
      have hk : X1.H = (blkA hh (seqId y) s1).H ∧ Ms X1 (blkA hh (seqId y) s1).T a1.tmps.toList ∧ (blkA hh (seqId y) s1).E = s1.E := by
        unfold blkA
        split
        · exact ⟨e1, clear_ok e6, rfl⟩
        · exact ⟨e1, e6, rfl⟩
      refine ihy Q X1 a1 _ o hk.1 e2 hk.2.1 h2 ?_
      rw [hk.2.2, e4, e7]
      exact hQ.shift e3 e5
    | ext id s1 =>
      simp only [Option.some.injEq] at h2
      subst h2
      exact hQ
    | ret r H1 E1 =>
      simp only [Option.some.injEq] at h2
      subst h2
      exact hQ
  | cond b x y ihx ihy =>
    intro Q X a s o hH hR hF h hQ
    simp only [runC] at h
    split at h
    · rename_i t ht
      have hm := evA_ok hR hF b
      rw [ht, M_bool] at hm
      refine wp_cond hm ?_
      cases t with
      | true => simp only [if_true] at h ⊢; exact ihx Q X a s o hH hR hF h hQ
      | false => simp only [Bool.false_eq_true, if_false] at h ⊢; exact ihy Q X a s o hH hR hF h hQ
    · cases h
  | block id x ih =>
    intro Q X a s o hH hR hF h hQ
    simp only [runC, Option.bind_eq_some_iff] at h
    obtain ⟨o1, h1, h2⟩ := h
    have hb : ∀ s1 : St, OutOk P G fn Q X s.E a.defers (.nrm (blkA hh id s1)) → ∀ X1 a1 N, X1.H = s1.H → Rel G X1 → Ext X X1 → s1.E = N ++ s.E → EscI X.H X1.H N → Ms X1 s1.T a1.tmps.toList → a1.defers = a.defers → Q .normal a1 X1.w := by
      intro s1 hq X1 a1 N e1 e2 e3 e4 e5 e6 e7
      unfold blkA at hq
      split at hq
      · exact hq X1 a1 N e1 e2 e3 e4 e5 (clear_ok e6) e7
      · exact hq X1 a1 N e1 e2 e3 e4 e5 e6 e7
    refine wp_block (ih _ X a s o1 hH hR hF h1 ?_)
    cases o1 with
    | nrm s1 =>
      simp only [Option.some.injEq] at h2
      subst h2
      exact fun X1 a1 N e1 e2 e3 e4 e5 e6 e7 => hb s1 hQ X1 a1 N e1 e2 e3 e4 e5 e6 e7
    | ext i s1 =>
      simp only at h2
      split at h2
      · rename_i hi
        injection h2 with h2
        subst h2; subst hi
        intro X1 a1 N e1 e2 e3 e4 e5 e6 e7
        simp only [Exit.inBlock, if_true]
        exact hb s1 hQ X1 a1 N e1 e2 e3 e4 e5 e6 e7
      · rename_i hi
        injection h2 with h2
        subst h2
        intro X1 a1 N e1 e2 e3 e4 e5 e6 e7
        simp only [Exit.inBlock, hi, if_false]
        exact hQ X1 a1 N e1 e2 e3 e4 e5 e6 e7
    | ret r H1 E1 =>
      simp only [Option.some.injEq] at h2
      subst h2
      exact hQ
  | loop x ih =>
    intro Q X a s o hH hR hF h hQ
    simp only [runC] at h
    obtain ⟨n, hn⟩ := lim_some h
    refine wp_loop_rounds n ?_
    have key : ∀ (n : Nat) (X : Cx) (a : Act) (s : St), X.H = s.H → Rel G X → Ms X s.T a.tmps.toList → loopN (fun s => (runC P G env hh fn x ⟨s.T, s.H, []⟩).bind (roundA hh (firstReg x) s)) n s = some o → OutOk P G fn Q X s.E a.defers o → Code.rounds P x Q n a X.w := by
      intro n
      induction n with
      | zero => intro X a s _ _ _ h; simp [loopN] at h
      | succ n ihn =>
        intro X a s hH hR hF h hQ
        simp only [loopN, Option.bind_eq_some_iff] at h
        obtain ⟨o2, ⟨o1, h1, h2⟩, h3⟩ := h
        rw [rounds_succ]
        refine ih _ X a ⟨s.T, s.H, []⟩ o1 hH hR hF h1 ?_
        cases o1 with
        | nrm s' =>
          intro X1 a1 N e1 e2 e3 e4 e5 e6 e7
          simp only [List.append_nil] at e4
          subst e4
          show Code.rounds P x Q n a1 X1.w
          simp only [roundA] at h2
          split at h2
          · rename_i ts hts
            split at h2
            · injection h2 with h2
              subst h2
              refine ihn X1 a1 ⟨clearA s'.T ts, s'.H, s'.E ++ s.E⟩ e1 e2 (clear_ok e6) h3 ?_
              rw [e7]
              exact hQ.shift e3 e5
            · split at h2
              · rename_i hc
                injection h2 with h2
                subst h2
                obtain ⟨c1, c2⟩ := hc
                rw [← hH] at c1 c2
                obtain ⟨k1, k2, k3⟩ := cut_ok hR e2 e3 e5 (fun e he => by have := List.all_eq_true.1 c2 e he; simpa using this)
                refine ihn (X1.cut X.H.length) a1 ⟨clearA s'.T ts, s'.H.take s.H.length, s.E⟩ (by simp only [Cx.cut]; rw [e1, hH]) k1 (cut_Ms e3.hlen _ _ c1 (clear_ok e6)) h3 ?_
                rw [e7]
                have := hQ.shift (N := []) k2 k3
                simpa using this
              · cases h2
          · injection h2 with h2
            subst h2
            refine ihn X1 a1 ⟨s'.T, s'.H, s'.E ++ s.E⟩ e1 e2 e6 h3 ?_
            rw [e7]
            exact hQ.shift e3 e5
        | ext i s' =>
          simp only [roundA, Option.some.injEq] at h2
          subst h2
          simp only [Option.some.injEq] at h3
          subst h3
          intro X1 a1 N e1 e2 e3 e4 e5 e6 e7
          simp only [List.append_nil] at e4
          exact hQ X1 a1 N e1 e2 e3 (by rw [e4]) e5 e6 e7
        | ret r H1 E1 =>
          simp only [roundA, Option.some.injEq] at h2
          subst h2
          simp only [Option.some.injEq] at h3
          subst h3
          intro X1 a1 N u e1 e2 e3 e4 e5 e6 e7 e8
          simp only [List.append_nil] at e4
          exact hQ X1 a1 N u e1 e2 e3 (by rw [e4]) e5 e6 e7 e8
    exact key n X a ⟨clearA s.T _, s.H, s.E⟩ hH hR (clear_ok hF) hn hQ
  | exit id =>
    intro Q X a s o hH hR hF h hQ
    simp only [runC, Option.some.injEq] at h
    subst h
    exact wp_exit (hQ X a [] hH hR (Ext.refl X) rfl (EscI.refl _) hF rfl)
  | ret =>
    intro Q X a s o hH hR hF h hQ
    simp only [runC, Option.map_eq_some_iff] at h
    obtain ⟨r, hr, rfl⟩ := h
    obtain ⟨u, k1, k2⟩ := res_ok hH hR hF hr
    exact wp_ret (hQ X a [] u hH hR (Ext.refl X) rfl (EscI.refl _) k1 k2 rfl)
  | rangeFunc f ps x y => intro Q X a s o hH hR hF h hQ; simp [runC] at h
  | scope x => intro Q X a s o hH hR hF h hQ; simp [runC] at h
  | goto l => intro Q X a s o hH hR hF h hQ; simp [runC] at h
  | refuse w => intro Q X a s o hH hR hF h hQ; simp [runC] at h
end
end Go.Pm
