/- A part of the proof: what the functions of the program answer, as plain lists and numbers. -/
import Derived.LoopN
import Derived.Test.YtaoklfecdcakbaaDoorP3
namespace Go.Pm
set_option linter.unusedVariables false
set_option linter.unusedSimpArgs false
section
variable {P : Program} {G : Nat → Option (List AV)} {fn : Func}
/-- What must hold at the way out that the evaluator tells: from the state X on, of escapes E. -/
def OutOk (P : Program) (G : Nat → Option (List AV)) (fn : Func) (Q : Exit → Act → World → Prop) (X : Cx) (E : List Nat) (dfs : List Deferred) : Out → Prop
  | .nrm s1 => ∀ X1 a1 N, X1.H = s1.H → Rel G X1 → Ext X X1 → s1.E = N ++ E → EscI X.H X1.H N → Ms X1 s1.T a1.tmps.toList → a1.defers = dfs → Q .normal a1 X1.w
  | .ext id s1 => ∀ X1 a1 N, X1.H = s1.H → Rel G X1 → Ext X X1 → s1.E = N ++ E → EscI X.H X1.H N → Ms X1 s1.T a1.tmps.toList → a1.defers = dfs → Q (.exit id) a1 X1.w
  | .ret r H1 E1 => ∀ X1 a1 N u, X1.H = H1 → Rel G X1 → Ext X X1 → E1 = N ++ E → EscI X.H X1.H N → (results fn a1.tmps).run P X1.w = .ok u X1.w → M X1 r u → a1.defers = dfs → Q .ret a1 X1.w

theorem OutOk.shift {Q : Exit → Act → World → Prop} {X X2 : Cx} {E N : List Nat} {dfs : List Deferred} {o : Out} (h : OutOk P G fn Q X E dfs o) (hE : Ext X X2) (hesc : EscI X.H X2.H N) : OutOk P G fn Q X2 (N ++ E) dfs o := by
  cases o with
  | nrm s1 => exact fun X1 a1 N1 e1 e2 e3 e4 e5 e6 e7 => h X1 a1 (N1 ++ N) e1 e2 (hE.trans e3) (by rw [e4, List.append_assoc]) (hesc.trans e5) e6 e7
  | ext id s1 => exact fun X1 a1 N1 e1 e2 e3 e4 e5 e6 e7 => h X1 a1 (N1 ++ N) e1 e2 (hE.trans e3) (by rw [e4, List.append_assoc]) (hesc.trans e5) e6 e7
  | ret r H1 E1 => exact fun X1 a1 N1 u e1 e2 e3 e4 e5 e6 e7 e8 => h X1 a1 (N1 ++ N) u e1 e2 (hE.trans e3) (by rw [e4, List.append_assoc]) (hesc.trans e5) e6 e7 e8

theorem clear_ok {X : Cx} : ∀ {ts : List Nat} {T : List AV} {vs : List Value}, Ms X T vs → Ms X (clearA T ts) vs
  | [], T, vs, h => h
  | t :: ts, T, vs, h => by
    simp only [clearA]
    refine clear_ok ?_
    have hl := Ms_length h
    by_cases ht : t < T.length
    · have := Ms_set h t (c := .bad) (u := vs[t]'(by omega)) (by unfold M; trivial)
      rwa [List.set_getElem_self] at this
    · rwa [List.set_eq_of_length_le (by omega)]

def resF (tmps : Array Value) : ResultVar → Sem Value
  | .tmp t => pure (tmps.getD t undef)
  | .cell a t => do loadVar t (← asAddr (tmps.getD a undef))
theorem results_eq (fn : Func) (tmps : Array Value) : results fn tmps = (do
    let vs ← fn.results.mapM (resF tmps)
    pure (if h : vs.size = 1 then vs[0] else .tuple vs)) := by
  have : (fun x => match x with | .tmp t => pure (tmps.getD t undef) | .cell a t => do loadVar t (← asAddr (tmps.getD a undef)) : ResultVar → Sem Value) = resF tmps := by
    funext x; cases x <;> rfl
  unfold results
  rw [← this]
  rfl

theorem res_ok {X : Cx} {a : Act} {s : St} {r : AV} (hH : X.H = s.H) (hR : Rel G X) (hF : Ms X s.T a.tmps.toList) (h : resA P fn s = some r) : ∃ u, (results fn a.tmps).run P X.w = .ok u X.w ∧ M X r u := by
  unfold resA at h
  simp only [Option.map_eq_some_iff] at h
  obtain ⟨vs, hvs, hr⟩ := h
  have ρ : ∀ t, M X (s.T.getD t (.tup [])) (a.tmps.getD t undef) := fun t => evA_ok hR hF (.tmp t)
  have one : ∀ (x : ResultVar) (v : AV), resA1 P s x = some v → ∃ u, (resF a.tmps x).run P X.w = .ok u X.w ∧ M X v u := fun x v hx => by
    cases x with
    | tmp t =>
      simp only [resA1, Option.some.injEq] at hx
      subst hx
      exact ⟨_, rfl, ρ t⟩
    | cell b t =>
      simp only [resA1, Option.bind_eq_some_iff] at hx
      obtain ⟨z, hz, hx⟩ := hx
      rw [← hH] at hx
      obtain ⟨u, k1, k2⟩ := load_ok (ag := z.1) (s := z.2) hR hz (ρ b) hx
      refine ⟨u, ?_, k2⟩
      unfold Instr.loadAt Instr.sureAddr at k1
      simp only [resF]
      unfold asAddr
      generalize hq : a.tmps.getD b undef = q at k1 ⊢
      have hp := ρ b
      rw [hq] at hp
      cases hb : s.T.getD b (.tup []) with
      | ip cs =>
        rw [hb] at hp
        obtain ⟨b', o', rfl, _⟩ := M_ip hp
        simpa using k1
      | ptr l tot i off =>
        rw [hb] at hp
        obtain ⟨q', rfl⟩ := M_ptr hp
        simpa using k1
      | lnt y =>
        rw [hb] at hp hx
        cases y with
        | ip cs =>
          unfold M at hp
          obtain ⟨b', o', rfl, _⟩ := M_ip hp
          simpa using k1
        | _ => simp [loadA] at hx
      | _ => rw [hb] at hx; simp [loadA] at hx
  have all : ∀ (l : List ResultVar) (vs : List AV), l.mapM (resA1 P s) = some vs → ∃ us : List Value, (l.mapM (resF a.tmps)).run P X.w = .ok us X.w ∧ Ms X vs us := fun l => by
    induction l with
    | nil => intro vs h; simp at h; subst h; exact ⟨[], by simp, by simp [Ms]⟩
    | cons x l ih =>
      intro vs h
      rw [List.mapM_cons] at h
      simp only [Option.bind_eq_bind, Option.bind_eq_some_iff, Option.pure_def, Option.some.injEq] at h
      obtain ⟨v, hv, ws, hws, rfl⟩ := h
      obtain ⟨u, k1, k2⟩ := one x v hv
      obtain ⟨us, k3, k4⟩ := ih ws hws
      refine ⟨u :: us, ?_, by unfold Ms; exact ⟨u, us, rfl, k2, k4⟩⟩
      rw [List.mapM_cons, Sem.run_bind, k1, Result.andThen_ok, Sem.run_bind, k3, Result.andThen_ok]
      rfl
  obtain ⟨us, k1, k2⟩ := all _ _ hvs
  have hl := Ms_length k2
  have hrun : (fn.results.mapM (resF a.tmps)).run P X.w = .ok us.toArray X.w := by
    rw [Array.mapM_eq_mapM_toList, Sem.run_map, k1]
    rfl
  cases vs with
  | nil =>
    simp at hr; subst hr
    have : us = [] := List.eq_nil_of_length_eq_zero (by simpa using hl.symm)
    subst this
    refine ⟨.tuple #[], ?_, by unfold M; exact ⟨_, rfl, by simpa using k2⟩⟩
    rw [results_eq, Sem.run_bind, hrun]; rfl
  | cons v vs =>
    cases vs with
    | nil =>
      simp at hr; subst hr
      unfold Ms at k2
      obtain ⟨u, us', rfl, hu, hus⟩ := k2
      unfold Ms at hus; subst hus
      refine ⟨u, ?_, hu⟩
      rw [results_eq, Sem.run_bind, hrun]; rfl
    | cons v2 vs =>
      simp at hr; subst hr
      refine ⟨.tuple us.toArray, ?_, by unfold M; exact ⟨_, rfl, by simpa using k2⟩⟩
      have h2 : us.toArray.size ≠ 1 := by simp at hl; simp; omega
      rw [results_eq, Sem.run_bind, hrun]
      simp only [Result.andThen_ok]
      rw [dif_neg h2]
      rfl

theorem lim_some {α : Type} {f : Nat → Option α} {x : α} (h : lim f = some x) : ∃ n, f n = some x := by
  unfold lim at h
  split at h
  · exact ⟨_, h⟩
  · cases h

theorem code_ok {env : Env} (henv : EnvOk P G env) {hh : Hint} : ∀ (c : Code) (Q : Exit → Act → World → Prop) (X : Cx) (a : Act) (s : St) (o : Out), X.H = s.H → Rel G X → Ms X s.T a.tmps.toList → runC P G env hh fn c s = some o →
    OutOk P G fn Q X s.E a.defers o → c.wp P Q a X.w := by
  intro c
  induction c with
  | skip =>
    intro Q X a s o hH hR hF h hQ
    simp only [runC, Option.some.injEq] at h
    subst h
    exact wp_skip (hQ X a [] hH hR (Ext.refl X) rfl (EscI.refl _) hF rfl)
  | label l =>
    intro Q X a s o hH hR hF h hQ
    simp only [runC, Option.some.injEq] at h
    subst h
    exact wp_label (hQ X a [] hH hR (Ext.refl X) rfl (EscI.refl _) hF rfl)
  | region id ops draw =>
    intro Q X a s o hH hR hF h hQ
    cases draw with
    | true =>
      simp only [runC, Option.bind_eq_some_iff] at h
      obtain ⟨s1, h1, h⟩ := h
      split at h
      · rename_i hd
        injection h with h; subst h
        unfold subO at h1 hd
        split at h1
        · rename_i hl
          simp only [hl] at hd
          exact draw_ok henv hH hR hF h1 hd hQ
        · rename_i hl
          split at h1
          · rename_i hB
            have hd' : DrawOk P G env hh id (subA ops (subL hh id)) s := by
              split at hd
              · exact absurd ‹_› hl
              · split at hd
                · exact hd
                · rename_i hB'; rw [hB] at hB'; cases hB'
            rcases hd' with hd' | hd'
            · exact sub_ok henv hB hH hR hF h1 hd' hQ
            · exact absurd hd'.1 hl
          · rename_i hB
            have hd' : DrawOk P G env hh id ops s := by
              split at hd
              · exact absurd ‹_› hl
              · split at hd
                · rename_i hB'; rw [hB] at hB'; cases hB'
                · exact hd
            exact draw_ok henv hH hR hF h1 hd' hQ
      · cases h
    | false =>
      simp only [runC, Option.bind_eq_some_iff, Option.some.injEq] at h
      obtain ⟨s1, h1, rfl⟩ := h
      exact region_ok henv hH hR hF h1 hQ
  | seq x y ihx ihy =>
    intro Q X a s o hH hR hF h hQ
    simp only [runC, Option.bind_eq_some_iff] at h
    obtain ⟨o1, h1, h2⟩ := h
    refine wp_seq (ihx _ X a s o1 hH hR hF h1 ?_)
    cases o1 with
    | nrm s1 =>
      simp only at h2
      intro X1 a1 N e1 e2 e3 e4 e5 e6 e7
      have hk : X1.H = (blkA hh (seqId y) s1).H ∧ Ms X1 (blkA hh (seqId y) s1).T a1.tmps.toList ∧ (blkA hh (seqId y) s1).E = s1.E := by
        unfold blkA
        split
        · exact ⟨e1, clear_ok e6, rfl⟩
        · exact ⟨e1, e6, rfl⟩
      refine ihy Q X1 a1 _ o hk.1 e2 hk.2.1 h2 ?_
      rw [hk.2.2, e4, e7]
      exact hQ.shift e3 e5
    | ext id s1 =>
      simp only [Option.some.injEq] at h2
      subst h2
      exact hQ
    | ret r H1 E1 =>
      simp only [Option.some.injEq] at h2
      subst h2
      exact hQ
  | cond b x y ihx ihy =>
    intro Q X a s o hH hR hF h hQ
    simp only [runC] at h
    split at h
    · rename_i t ht
      have hm := evA_ok hR hF b
      rw [ht, M_bool] at hm
      refine wp_cond hm ?_
      cases t with
      | true => simp only [if_true] at h ⊢; exact ihx Q X a s o hH hR hF h hQ
      | false => simp only [Bool.false_eq_true, if_false] at h ⊢; exact ihy Q X a s o hH hR hF h hQ
    · cases h
  | block id x ih =>
    intro Q X a s o hH hR hF h hQ
    simp only [runC, Option.bind_eq_some_iff] at h
    obtain ⟨o1, h1, h2⟩ := h
    have hb : ∀ s1 : St, OutOk P G fn Q X s.E a.defers (.nrm (blkA hh id s1)) → ∀ X1 a1 N, X1.H = s1.H → Rel G X1 → Ext X X1 → s1.E = N ++ s.E → EscI X.H X1.H N → Ms X1 s1.T a1.tmps.toList → a1.defers = a.defers → Q .normal a1 X1.w := by
      intro s1 hq X1 a1 N e1 e2 e3 e4 e5 e6 e7
      unfold blkA at hq
      split at hq
      · exact hq X1 a1 N e1 e2 e3 e4 e5 (clear_ok e6) e7
      · exact hq X1 a1 N e1 e2 e3 e4 e5 e6 e7
    refine wp_block (ih _ X a s o1 hH hR hF h1 ?_)
    cases o1 with
    | nrm s1 =>
      simp only [Option.some.injEq] at h2
      subst h2
      exact fun X1 a1 N e1 e2 e3 e4 e5 e6 e7 => hb s1 hQ X1 a1 N e1 e2 e3 e4 e5 e6 e7
    | ext i s1 =>
      simp only at h2
      split at h2
      · rename_i hi
        injection h2 with h2
        subst h2; subst hi
        intro X1 a1 N e1 e2 e3 e4 e5 e6 e7
        simp only [Exit.inBlock, if_true]
        exact hb s1 hQ X1 a1 N e1 e2 e3 e4 e5 e6 e7
      · rename_i hi
        injection h2 with h2
        subst h2
        intro X1 a1 N e1 e2 e3 e4 e5 e6 e7
        simp only [Exit.inBlock, hi, if_false]
        exact hQ X1 a1 N e1 e2 e3 e4 e5 e6 e7
    | ret r H1 E1 =>
      simp only [Option.some.injEq] at h2
      subst h2
      exact hQ
  | loop x ih =>
    intro Q X a s o hH hR hF h hQ
    simp only [runC] at h
    obtain ⟨n, hn⟩ := lim_some h
    refine wp_loop_rounds n ?_
    have key : ∀ (n : Nat) (X : Cx) (a : Act) (s : St), X.H = s.H → Rel G X → Ms X s.T a.tmps.toList → loopN (fun s => (runC P G env hh fn x ⟨s.T, s.H, []⟩).bind (roundA hh (firstReg x) s)) n s = some o → OutOk P G fn Q X s.E a.defers o → Code.rounds P x Q n a X.w := by
      intro n
      induction n with
      | zero => intro X a s _ _ _ h; simp [loopN] at h
      | succ n ihn =>
        intro X a s hH hR hF h hQ
        simp only [loopN, Option.bind_eq_some_iff] at h
        obtain ⟨o2, ⟨o1, h1, h2⟩, h3⟩ := h
        rw [rounds_succ]
        refine ih _ X a ⟨s.T, s.H, []⟩ o1 hH hR hF h1 ?_
        cases o1 with
        | nrm s' =>
          intro X1 a1 N e1 e2 e3 e4 e5 e6 e7
          simp only [List.append_nil] at e4
          subst e4
          show Code.rounds P x Q n a1 X1.w
          simp only [roundA] at h2
          split at h2
          · rename_i ts hts
            split at h2
            · injection h2 with h2
              subst h2
              refine ihn X1 a1 ⟨clearA s'.T ts, s'.H, s'.E ++ s.E⟩ e1 e2 (clear_ok e6) h3 ?_
              rw [e7]
              exact hQ.shift e3 e5
            · split at h2
              · rename_i hc
                injection h2 with h2
                subst h2
                obtain ⟨c1, c2⟩ := hc
                rw [← hH] at c1 c2
                obtain ⟨k1, k2, k3⟩ := cut_ok hR e2 e3 e5 (fun e he => by have := List.all_eq_true.1 c2 e he; simpa using this)
                refine ihn (X1.cut X.H.length) a1 ⟨clearA s'.T ts, s'.H.take s.H.length, s.E⟩ (by simp only [Cx.cut]; rw [e1, hH]) k1 (cut_Ms e3.hlen _ _ c1 (clear_ok e6)) h3 ?_
                rw [e7]
                have := hQ.shift (N := []) k2 k3
                simpa using this
              · cases h2
          · injection h2 with h2
            subst h2
            refine ihn X1 a1 ⟨s'.T, s'.H, s'.E ++ s.E⟩ e1 e2 e6 h3 ?_
            rw [e7]
            exact hQ.shift e3 e5
        | ext i s' =>
          simp only [roundA, Option.some.injEq] at h2
          subst h2
          simp only [Option.some.injEq] at h3
          subst h3
          intro X1 a1 N e1 e2 e3 e4 e5 e6 e7
          simp only [List.append_nil] at e4
          exact hQ X1 a1 N e1 e2 e3 (by rw [e4]) e5 e6 e7
        | ret r H1 E1 =>
          simp only [roundA, Option.some.injEq] at h2
          subst h2
          simp only [Option.some.injEq] at h3
          subst h3
          intro X1 a1 N u e1 e2 e3 e4 e5 e6 e7 e8
          simp only [List.append_nil] at e4
          exact hQ X1 a1 N u e1 e2 e3 (by rw [e4]) e5 e6 e7 e8
    exact key n X a ⟨clearA s.T _, s.H, s.E⟩ hH hR (clear_ok hF) hn hQ
  | exit id =>
    intro Q X a s o hH hR hF h hQ
    simp only [runC, Option.some.injEq] at h
    subst h
    exact wp_exit (hQ X a [] hH hR (Ext.refl X) rfl (EscI.refl _) hF rfl)
  | ret =>
    intro Q X a s o hH hR hF h hQ
    simp only [runC, Option.map_eq_some_iff] at h
    obtain ⟨r, hr, rfl⟩ := h
    obtain ⟨u, k1, k2⟩ := res_ok hH hR hF hr
    exact wp_ret (hQ X a [] u hH hR (Ext.refl X) rfl (EscI.refl _) k1 k2 rfl)
  | rangeFunc f ps x y => intro Q X a s o hH hR hF h hQ; simp [runC] at h
  | scope x => intro Q X a s o hH hR hF h hQ; simp [runC] at h
  | goto l => intro Q X a s o hH hR hF h hQ; simp [runC] at h
  | refuse w => intro Q X a s o hH hR hF h hQ; simp [runC] at h
end
end Go.Pm
namespace Go.Pm
set_option linter.unusedVariables false
set_option linter.unusedSimpArgs false
section
variable {P : Program} {G : Nat → Option (List AV)} {fn : Func}
theorem end_ok {X0 X1 : Cx} {h : Hint} {r : AV} {E : List Nat} {r3 : R3} {u : Value} (hR0 : Rel G X0) (hR : Rel G X1) (hE : Ext X0 X1) (hesc : EscI X0.H X1.H E) (hm : M X1 r u) (hend : endA h X0.H.length r X1.H E = some r3) :
    ∃ X', X'.w = X1.w ∧ X'.H = r3.2.1 ∧ Rel G X' ∧ Ext X0 X' ∧ EscI X0.H X'.H r3.2.2 ∧ M X' r3.1 u := by
  unfold endA at hend
  simp only [Option.bind_eq_some_iff] at hend
  obtain ⟨p, hp, h2⟩ := hend
  have hfr : ∃ X2 : Cx, X2.w = X1.w ∧ X2.H = p.2 ∧ Rel G X2 ∧ Ext X0 X2 ∧ EscI X0.H X2.H E ∧ M X2 p.1 u := by
    split at hp
    · injection hp with hp; subst hp
      exact ⟨X1, rfl, rfl, hR, hE, hesc, hm⟩
    · simp only [Option.map_eq_some_iff] at hp
      obtain ⟨r', hr, rfl⟩ := hp
      obtain ⟨k1, k2, k3⟩ := kill_ok hR (kills r)
      exact ⟨⟨X1.F, X1.ι, killAll X1.H (kills r), X1.w⟩, rfl, rfl, k1, hE.trans k2, by simpa using hesc.trans k3, frz_M hR (kills r) r r' u hm hr (fun l hl => hl)⟩
  obtain ⟨X2, e1, e2, e3, e4, e5, e6⟩ := hfr
  split at h2
  · injection h2 with h2; subst h2
    exact ⟨X2, e1, e2, e3, e4, e5, e6⟩
  · split at h2
    · rename_i hc
      injection h2 with h2; subst h2
      obtain ⟨c1, c2⟩ := hc
      obtain ⟨k1, k2, k3⟩ := cut_ok hR0 e3 e4 e5 (fun e he => by have := List.all_eq_true.1 c2 e he; simpa using this)
      exact ⟨X2.cut X0.H.length, e1, by simp only [Cx.cut]; rw [e2], k1, k2, k3, cut_M e4.hlen _ _ c1 e6⟩
    · cases h2

theorem fn_ok {env : Env} (henv : EnvOk P G env) {hh : Hint} {f : FuncId} {args : List AV} {H : List AObj} {r : R3} (hf : P.funcs[base f]? = some fn) (h : fnA P G env hh fn args H = some r) : SpecR P G f args H r := by
  intro X cargs hH hR hM
  unfold fnA at h
  cases hb : fn.body with
  | none => rw [hb] at h; cases h
  | some c =>
    rw [hb] at h
    simp only [Option.bind_eq_some_iff] at h
    obtain ⟨o, h1, h2⟩ := h
    refine calls_of_wp hf hb ?_
    have hl := Ms_length hM
    have hsz : cargs.toList.length = cargs.size := Array.length_toList
    refine code_ok henv c _ X _ ⟨args ++ List.replicate (fn.ntmps - args.length) (.tup []), H, []⟩ o hH hR ?_ h1 ?_
    · simp only [Array.toList_append, Array.toList_replicate]
      rw [show fn.ntmps - args.length = fn.ntmps - cargs.size by omega]
      exact Ms_append hM (Ms_replicate (by unfold M; exact ⟨#[], rfl, by simp [Ms]⟩) _)
    · cases o with
      | nrm s =>
        simp only [Option.bind_eq_some_iff] at h2
        obtain ⟨rv, hrv, h3⟩ := h2
        intro X1 a1 N e1 e2 e3 e4 e5 e6 e7
        obtain ⟨u, k1, k2⟩ := res_ok e1 e2 e6 hrv
        simp only [List.append_nil] at e4
        rw [← e1, ← hH] at h3
        obtain ⟨X', g1, g2, g3, g4, g5, g6⟩ := end_ok hR e2 e3 (by rw [e4]; exact e5) k2 h3
        exact ⟨e7, u, k1, u, X', g1, rfl, g2, g3, g4, g5, g6⟩
      | ret rv H1 E1 =>
        simp only at h2
        intro X1 a1 N u e1 e2 e3 e4 e5 e6 e7 e8
        simp only [List.append_nil] at e4
        rw [← e1, ← hH] at h2
        obtain ⟨X', g1, g2, g3, g4, g5, g6⟩ := end_ok hR e2 e3 (by rw [e4]; exact e5) e7 h2
        exact ⟨e8, u, e6, u, X', g1, rfl, g2, g3, g4, g5, g6⟩
      | ext i s => simp at h2
end
theorem lim_eq {α : Type} {f : Nat → Option α} (hm : ∀ n x, f n = some x → f (n + 1) = some x) {n : Nat} {x : α} (h : f n = some x) : lim f = some x := by
  have mono : ∀ k n x, f n = some x → f (n + k) = some x := fun k => by
    induction k with
    | zero => intro n x h; exact h
    | succ k ih => intro n x h; exact hm _ _ (ih n x h)
  have hex : ∃ n, (f n).isSome := ⟨n, by rw [h]; rfl⟩
  unfold lim
  rw [dif_pos hex]
  obtain ⟨y, hy⟩ := Option.isSome_iff_exists.1 hex.choose_spec
  rw [hy]
  have h1 := mono hex.choose n x h
  have h2 := mono n hex.choose y hy
  rw [Nat.add_comm] at h2
  rw [h1] at h2
  exact h2.symm
theorem loopN_succ {F : St → Option Out} : ∀ (n : Nat) (s : St) (o : Out), loopN F n s = some o → loopN F (n + 1) s = some o
  | 0, s, o, h => by simp [loopN] at h
  | n + 1, s, o, h => by
    simp only [loopN, Option.bind_eq_some_iff] at h
    obtain ⟨o1, h1, h2⟩ := h
    rw [loopN]
    simp only [h1, Option.bind_some]
    cases o1 with
    | nrm s1 => exact loopN_succ n s1 o h2
    | ext i s1 => exact h2
    | ret r H E => exact h2
theorem loopL_of {F : St → Option Out} {n : Nat} {s : St} {o : Out} (h : loopN F n s = some o) : loopL F s = some o := lim_eq (fun n x hx => loopN_succ n s x hx) h
theorem loopN_mono {F F' : St → Option Out} (hF : ∀ s o, F s = some o → F' s = some o) : ∀ (n : Nat) (s : St) (o : Out), loopN F n s = some o → loopN F' n s = some o
  | 0, s, o, h => by simp [loopN] at h
  | n + 1, s, o, h => by
    simp only [loopN, Option.bind_eq_some_iff] at h
    obtain ⟨o1, h1, h2⟩ := h
    simp only [loopN, hF s o1 h1, Option.bind_some]
    cases o1 with
    | nrm s1 => exact loopN_mono hF n s1 o h2
    | ext i s1 => exact h2
    | ret r H E => exact h2
theorem loopL_mono {F F' : St → Option Out} (hF : ∀ s o, F s = some o → F' s = some o) {s : St} {o : Out} (h : loopL F s = some o) : loopL F' s = some o := by
  obtain ⟨n, hn⟩ := lim_some h
  exact loopL_of (loopN_mono hF n s o hn)
/-- One round of a loop. -/
theorem loopL_eq (F : St → Option Out) (s : St) : loopL F s = (F s).bind fun o => match o with
    | .nrm s' => loopL F s'
    | o => some o := by
  apply Option.ext
  intro o
  constructor
  · intro h
    obtain ⟨n, hn⟩ := lim_some h
    cases n with
    | zero => simp [loopN] at hn
    | succ n =>
      simp only [loopN, Option.bind_eq_some_iff] at hn
      obtain ⟨o1, h1, h2⟩ := hn
      simp only [h1, Option.bind_some]
      cases o1 with
      | nrm s1 => exact loopL_of h2
      | ext i s1 => exact h2
      | ret r H E => exact h2
  · intro h
    simp only [Option.bind_eq_some_iff] at h
    obtain ⟨o1, h1, h2⟩ := h
    cases o1 with
    | nrm s1 =>
      obtain ⟨n, hn⟩ := lim_some h2
      refine loopL_of (n := n + 1) ?_
      simp only [loopN, h1, Option.bind_some]
      exact hn
    | ext i s1 => exact loopL_of (n := 1) (by simp only [loopN, h1, Option.bind_some]; exact h2)
    | ret r H E => exact loopL_of (n := 1) (by simp only [loopN, h1, Option.bind_some]; exact h2)

def EnvLe (e1 e2 : Env) : Prop := ∀ f a H r, e1 f a H = some r → e2 f a H = some r
section
variable {P : Program} {G : Nat → Option (List AV)} {e1 e2 : Env}
theorem callX_mono (he : EnvLe e1 e2) {act : Nat} {g : FuncId} {args : List AV} {H : List AObj} {r : R3} (h : callX e1 act g args H = some r) : callX e2 act g args H = some r := by
  unfold callX at h ⊢
  split at h
  · rename_i h0
    rw [if_pos h0]
    unfold callE at h ⊢
    split at h
    · rename_i hb
      rw [if_pos hb]
      simp only [Option.bind_eq_some_iff] at h ⊢
      obtain ⟨as, h1, h2⟩ := h
      refine ⟨as, h1, ?_⟩
      split at h2
      · rename_i hb
        rw [if_pos hb]
        simp only [Option.bind_eq_some_iff] at h2 ⊢
        obtain ⟨r0, h3, h4⟩ := h2
        exact ⟨r0, he _ _ _ _ h3, h4⟩
      · cases h2
    · rename_i hb
      rw [if_neg hb]
      simp only [Option.bind_eq_some_iff] at h ⊢
      obtain ⟨as, h1, h2⟩ := h
      refine ⟨as, h1, ?_⟩
      split at h2
      · rename_i hb
        rw [if_pos hb]
        simp only [Option.bind_eq_some_iff] at h2 ⊢
        obtain ⟨r0, h3, h4⟩ := h2
        exact ⟨r0, he _ _ _ _ h3, h4⟩
      · cases h2
  · rename_i h0
    rw [if_neg h0]
    split at h
    · rename_i h1
      rw [if_pos h1]
      unfold callL at h ⊢
      simp only [Option.bind_eq_some_iff] at h ⊢
      obtain ⟨as, h1, h2⟩ := h
      refine ⟨as, h1, ?_⟩
      split at h2
      · rename_i hb
        rw [if_pos hb]
        simp only [Option.bind_eq_some_iff] at h2 ⊢
        obtain ⟨r0, h3, h4⟩ := h2
        exact ⟨r0, he _ _ _ _ h3, h4⟩
      · cases h2
    · cases h
theorem callA_mono (he : EnvLe e1 e2) {raw : Bool} {g : FuncId} {args : List AV} {H : List AObj} {r : R3} (h : callA e1 raw g args H = some r) : callA e2 raw g args H = some r := by
  unfold callA at h ⊢
  split at h
  · rename_i hr; rw [if_pos hr]; exact he _ _ _ _ h
  · rename_i hr
    rw [if_neg hr]
    simp only [Option.bind_eq_some_iff] at h ⊢
    obtain ⟨as, h1, h2⟩ := h
    refine ⟨as, h1, ?_⟩
    split at h2
    · rename_i hb
      rw [if_pos hb]
      simp only [Option.bind_eq_some_iff] at h2 ⊢
      obtain ⟨r0, h3, h4⟩ := h2
      exact ⟨r0, he _ _ _ _ h3, h4⟩
    · rename_i hb
      rw [if_neg hb]
      exact he _ _ _ _ h2
theorem aop_mono (he : EnvLe e1 e2) {act : Nat} {o : Oper} {T : List AV} {H : List AObj} {r : R3} (h : aop P G e1 act o T H = some r) : aop P G e2 act o T H = some r := by
  cases ho : o.op with
  | call c =>
    cases hc : c.callee with
    | value f =>
      simp only [aop, ho, hc] at h ⊢
      split at h
      · split at h
        · rename_i hg
          rw [if_pos hg]
          split at h
          · rename_i ha; rw [if_pos ha]; exact callX_mono he h
          · rename_i ha; rw [if_neg ha]; exact callA_mono he h
        · cases h
      · cases h
    | builtin b => cases b <;> (simp only [aop, ho, hc] at h ⊢; exact h)
    | invoke x m => simp only [aop, ho, hc] at h ⊢; exact h
  | makeFunc f a b => cases f <;> (simp only [aop, ho] at h ⊢; exact h)
  | _ => simp only [aop, ho] at h ⊢; exact h
theorem aop'_mono (he : EnvLe e1 e2) {act : Nat} {o : Oper} {T : List AV} {H : List AObj} {r : R3} (h : aop' P G e1 act o T H = some r) : aop' P G e2 act o T H = some r := by
  unfold aop' at h ⊢
  split at h
  · rename_i ha
    rw [if_pos ha]
    simp only [Option.bind_eq_some_iff] at h ⊢
    obtain ⟨r0, h0, h1⟩ := h
    exact ⟨r0, aop_mono he h0, h1⟩
  · rename_i ha
    rw [if_neg ha]
    split at h
    · rename_i hb
      rw [if_pos hb]
      simp only [Option.bind_eq_some_iff] at h ⊢
      obtain ⟨r0, h0, h1⟩ := h
      exact ⟨r0, aop_mono he h0, h1⟩
    · rename_i hb
      rw [if_neg hb]
      split at h
      · rename_i hc
        rw [if_pos hc]
        simp only [Option.bind_eq_some_iff] at h ⊢
        obtain ⟨r0, h0, h1⟩ := h
        exact ⟨r0, aop_mono he h0, h1⟩
      · rename_i hc
        rw [if_neg hc]
        exact aop_mono he h
theorem opA_mono (he : EnvLe e1 e2) {hh : Hint} {id i : Nat} {ops : Array Oper} {o : Oper} {s s1 : St} (h : opA P G e1 hh id ops i o s = some s1) : opA P G e2 hh id ops i o s = some s1 := by
  unfold opA at h ⊢
  split at h
  · simp only [Option.map_eq_some_iff] at h ⊢
    obtain ⟨r, hr, h2⟩ := h
    exact ⟨r, aop'_mono he hr, h2⟩
  · exact h
  · cases h
theorem opsA_mono (he : EnvLe e1 e2) {hh : Hint} {id : Nat} {ops : Array Oper} : ∀ {rest : List Oper} {i : Nat} {s s1 : St}, opsA P G e1 hh id ops rest i s = some s1 → opsA P G e2 hh id ops rest i s = some s1
  | [], i, s, s1, h => h
  | o :: rest, i, s, s1, h => by
    simp only [opsA, Option.bind_eq_some_iff] at h ⊢
    obtain ⟨s', h1, h2⟩ := h
    exact ⟨s', opA_mono he h1, opsA_mono he h2⟩
theorem valA_mono (he : EnvLe e1 e2) {hh : Hint} {id i : Nat} {ops : Array Oper} {o : Oper} {T : List AV} {H : List AObj} {r : R3} (h : valA P G e1 hh id ops i o T H = some r) : valA P G e2 hh id ops i o T H = some r := by
  unfold valA at h ⊢
  split at h
  · exact aop'_mono he h
  · exact h
  · cases h
theorem DrawAt_mono (he : EnvLe e1 e2) {hh : Hint} {id : Nat} {ops : Array Oper} {s : St} {p : Nat × Nat} (h : DrawAt P G e1 hh id ops s p) : DrawAt P G e2 hh id ops s p := by
  obtain ⟨o, si, sj, r, k1, k2, k3, k4, k5⟩ := h
  exact ⟨o, si, sj, r, k1, opsA_mono he k2, opsA_mono he k3, valA_mono he k4, valA_mono he k5⟩
theorem SwapRd_mono (he : EnvLe e1 e2) {hh : Hint} {id : Nat} {ops : Array Oper} {s : St} {Hm : List AObj} {i : Nat} (h : SwapRd P G e1 hh id ops s Hm i) : SwapRd P G e2 hh id ops s Hm i := by
  obtain ⟨o, si, r, k1, k2, k3, k4⟩ := h
  exact ⟨o, si, r, k1, opsA_mono he k2, valA_mono he k3, valA_mono he k4⟩
theorem DrawOk_mono (he : EnvLe e1 e2) {hh : Hint} {id : Nat} {ops : Array Oper} {s : St} (h : DrawOk P G e1 hh id ops s) : DrawOk P G e2 hh id ops s := by
  rcases h with ⟨h1, h2, h3⟩ | ⟨h0, h1, h2, p, q, h3, op, oq, sp, sq, sr, vp, vq, Hm, a1, a2, a3, a4, a5, a6, a7, a8, a9, a10, a11⟩
  · exact .inl ⟨h1, h2, fun p hp => DrawAt_mono he (h3 p hp)⟩
  · exact .inr ⟨h0, h1, fun p hp => DrawAt_mono he (h2 p hp), p, q, h3, op, oq, sp, sq, sr, vp, vq, Hm, a1, a2, opsA_mono he a3, opsA_mono he a4, opsA_mono he a5, valA_mono he a6, valA_mono he a7, valA_mono he a8, valA_mono he a9, a10, fun i hi => SwapRd_mono he (a11 i hi)⟩
theorem runC_mono (he : EnvLe e1 e2) {hh : Hint} {fn : Func} : ∀ (c : Code) (s : St) (o : Out), runC P G e1 hh fn c s = some o → runC P G e2 hh fn c s = some o := by
  intro c
  induction c with
  | region id ops draw =>
    intro s o h
    cases draw with
    | true =>
      simp only [runC, Option.bind_eq_some_iff] at h ⊢
      obtain ⟨s1, h1, h2⟩ := h
      refine ⟨s1, opsA_mono he h1, ?_⟩
      split at h2
      · rename_i hk
        rw [if_pos (DrawOk_mono he hk)]; exact h2
      · cases h2
    | false =>
      simp only [runC, Option.bind_eq_some_iff] at h ⊢
      obtain ⟨s1, h1, h2⟩ := h
      exact ⟨s1, opsA_mono he h1, h2⟩
  | seq x y ihx ihy =>
    intro s o h
    simp only [runC, Option.bind_eq_some_iff] at h ⊢
    obtain ⟨o1, h1, h2⟩ := h
    refine ⟨o1, ihx s o1 h1, ?_⟩
    cases o1 with
    | nrm s1 => exact ihy _ o h2
    | ext i s1 => exact h2
    | ret r H E => exact h2
  | cond b x y ihx ihy =>
    intro s o h
    simp only [runC] at h ⊢
    split at h
    · split at h
      · rename_i t _ ht; rw [if_pos ht]; exact ihx s o h
      · rename_i t _ ht; rw [if_neg ht]; exact ihy s o h
    · cases h
  | block id x ih =>
    intro s o h
    simp only [runC, Option.bind_eq_some_iff] at h ⊢
    obtain ⟨o1, h1, h2⟩ := h
    exact ⟨o1, ih s o1 h1, h2⟩
  | loop x ih =>
    intro s o h
    simp only [runC] at h ⊢
    refine loopL_mono (fun s o h => ?_) h
    simp only [Option.bind_eq_some_iff] at h ⊢
    obtain ⟨o1, h1, h2⟩ := h
    exact ⟨o1, ih _ o1 h1, h2⟩
  | _ => intro s o h; exact h
theorem fnA_mono (he : EnvLe e1 e2) {hh : Hint} {fn : Func} {args : List AV} {H : List AObj} {r : R3} (h : fnA P G e1 hh fn args H = some r) : fnA P G e2 hh fn args H = some r := by
  unfold fnA at h ⊢
  split at h
  · cases h
  · simp only [Option.bind_eq_some_iff] at h ⊢
    obtain ⟨o, h1, h2⟩ := h
    exact ⟨o, runC_mono he _ _ _ h1, h2⟩
end
section
variable (C : Cfg)
theorem evN_succ : ∀ k, EnvLe (evN C k) (evN C (k + 1))
  | 0 => fun f a H r h => by simp [evN] at h
  | k + 1 => fun f a H r h => by
    simp only [evN] at h ⊢
    split at h
    · exact h
    · split at h
      · exact fnA_mono (evN_succ k) h
      · cases h
theorem evN_le {k n : Nat} (h : k ≤ n) : EnvLe (evN C k) (evN C n) := by
  induction h with
  | refl => exact fun _ _ _ _ h => h
  | step _ ih => exact fun f a H r hr => evN_succ C _ f a H r (ih f a H r hr)
theorem EV_of {k : Nat} {f : FuncId} {a : List AV} {H : List AObj} {r : R3} (h : evN C k f a H = some r) : EV C f a H = some r := lim_eq (fun n x hx => evN_succ C n f a H x hx) h
theorem EV_some {f : FuncId} {a : List AV} {H : List AObj} {r : R3} (h : EV C f a H = some r) : ∃ k, evN C k f a H = some r := lim_some h
theorem evN_EV (k : Nat) : EnvLe (evN C k) (EV C) := fun f a H r h => EV_of C h

variable {P : Program} {G : Nat → Option (List AV)}
theorem callX_cont {act : Nat} {g : FuncId} {args : List AV} {H : List AObj} {r : R3} (h : callX (EV C) act g args H = some r) : ∃ k, callX (evN C k) act g args H = some r := by
  unfold callX at h ⊢
  split at h
  · rename_i h0
    simp only [if_pos h0]
    unfold callE at h ⊢
    split at h
    · rename_i hb
      simp only [if_pos hb]
      simp only [Option.bind_eq_some_iff] at h ⊢
      obtain ⟨as, h1, h2⟩ := h
      split at h2
      · rename_i hb
        simp only [Option.bind_eq_some_iff] at h2
        obtain ⟨r0, h3, h4⟩ := h2
        obtain ⟨k, hk⟩ := EV_some C h3
        exact ⟨k, as, h1, by rw [if_pos hb]; simp only [Option.bind_eq_some_iff]; exact ⟨r0, hk, h4⟩⟩
      · cases h2
    · rename_i hb
      simp only [if_neg hb]
      simp only [Option.bind_eq_some_iff] at h ⊢
      obtain ⟨as, h1, h2⟩ := h
      split at h2
      · rename_i hb
        simp only [Option.bind_eq_some_iff] at h2
        obtain ⟨r0, h3, h4⟩ := h2
        obtain ⟨k, hk⟩ := EV_some C h3
        exact ⟨k, as, h1, by rw [if_pos hb]; simp only [Option.bind_eq_some_iff]; exact ⟨r0, hk, h4⟩⟩
      · cases h2
  · rename_i h0
    simp only [if_neg h0]
    split at h
    · rename_i h1
      simp only [if_pos h1]
      unfold callL at h ⊢
      simp only [Option.bind_eq_some_iff] at h ⊢
      obtain ⟨as, h1, h2⟩ := h
      split at h2
      · rename_i hb
        simp only [Option.bind_eq_some_iff] at h2
        obtain ⟨r0, h3, h4⟩ := h2
        obtain ⟨k, hk⟩ := EV_some C h3
        exact ⟨k, as, h1, by rw [if_pos hb]; simp only [Option.bind_eq_some_iff]; exact ⟨r0, hk, h4⟩⟩
      · cases h2
    · cases h
theorem callA_cont {raw : Bool} {g : FuncId} {args : List AV} {H : List AObj} {r : R3} (h : callA (EV C) raw g args H = some r) : ∃ k, callA (evN C k) raw g args H = some r := by
  unfold callA at h ⊢
  split at h
  · rename_i hr
    obtain ⟨k, hk⟩ := EV_some C h
    exact ⟨k, by rw [if_pos hr]; exact hk⟩
  · rename_i hr
    simp only [Option.bind_eq_some_iff] at h
    obtain ⟨as, h1, h2⟩ := h
    split at h2
    · rename_i hb
      simp only [Option.bind_eq_some_iff] at h2
      obtain ⟨r0, h3, h4⟩ := h2
      obtain ⟨k, hk⟩ := EV_some C h3
      exact ⟨k, by rw [if_neg hr]; simp only [Option.bind_eq_some_iff]; exact ⟨as, h1, by rw [if_pos hb]; simp only [Option.bind_eq_some_iff]; exact ⟨r0, hk, h4⟩⟩⟩
    · rename_i hb
      obtain ⟨k, hk⟩ := EV_some C h2
      exact ⟨k, by rw [if_neg hr]; simp only [Option.bind_eq_some_iff]; exact ⟨as, h1, by rw [if_neg hb]; exact hk⟩⟩
theorem aop_cont {act : Nat} {o : Oper} {T : List AV} {H : List AObj} {r : R3} (h : aop P G (EV C) act o T H = some r) : ∃ k, aop P G (evN C k) act o T H = some r := by
  cases ho : o.op with
  | call c =>
    cases hc : c.callee with
    | value f =>
      simp only [aop, ho, hc] at h ⊢
      split at h
      · split at h
        · rename_i hg
          split at h
          · rename_i ha
            obtain ⟨k, hk⟩ := callX_cont C h
            exact ⟨k, by rw [if_pos hg, if_pos ha]; exact hk⟩
          · rename_i ha
            obtain ⟨k, hk⟩ := callA_cont C h
            exact ⟨k, by rw [if_pos hg, if_neg ha]; exact hk⟩
        · cases h
      · cases h
    | builtin b => exact ⟨0, by cases b <;> (simp only [aop, ho, hc] at h ⊢; exact h)⟩
    | invoke x m => exact ⟨0, by simp only [aop, ho, hc] at h ⊢; exact h⟩
  | makeFunc f a b => exact ⟨0, by cases f <;> (simp only [aop, ho] at h ⊢; exact h)⟩
  | _ => exact ⟨0, by simp only [aop, ho] at h ⊢; exact h⟩
theorem aop'_cont {act : Nat} {o : Oper} {T : List AV} {H : List AObj} {r : R3} (h : aop' P G (EV C) act o T H = some r) : ∃ k, aop' P G (evN C k) act o T H = some r := by
  unfold aop' at h ⊢
  split at h
  · rename_i ha
    simp only [Option.bind_eq_some_iff] at h
    obtain ⟨r0, h0, h1⟩ := h
    obtain ⟨k, hk⟩ := aop_cont C h0
    exact ⟨k, by rw [if_pos ha]; simp only [Option.bind_eq_some_iff]; exact ⟨r0, hk, h1⟩⟩
  · rename_i ha
    split at h
    · rename_i hb
      simp only [Option.bind_eq_some_iff] at h
      obtain ⟨r0, h0, h1⟩ := h
      obtain ⟨k, hk⟩ := aop_cont C h0
      exact ⟨k, by rw [if_neg ha, if_pos hb]; simp only [Option.bind_eq_some_iff]; exact ⟨r0, hk, h1⟩⟩
    · rename_i hb
      split at h
      · rename_i hc
        simp only [Option.bind_eq_some_iff] at h
        obtain ⟨r0, h0, h1⟩ := h
        obtain ⟨k, hk⟩ := aop_cont C h0
        exact ⟨k, by rw [if_neg ha, if_neg hb, if_pos hc]; simp only [Option.bind_eq_some_iff]; exact ⟨r0, hk, h1⟩⟩
      · rename_i hc
        obtain ⟨k, hk⟩ := aop_cont C h
        exact ⟨k, by rw [if_neg ha, if_neg hb, if_neg hc]; exact hk⟩
theorem opA_cont {hh : Hint} {id i : Nat} {ops : Array Oper} {o : Oper} {s s1 : St} (h : opA P G (EV C) hh id ops i o s = some s1) : ∃ k, opA P G (evN C k) hh id ops i o s = some s1 := by
  unfold opA at h ⊢
  split at h
  · simp only [Option.map_eq_some_iff] at h ⊢
    obtain ⟨r, hr, h2⟩ := h
    obtain ⟨k, hk⟩ := aop'_cont C hr
    exact ⟨k, r, hk, h2⟩
  · exact ⟨0, h⟩
  · cases h
theorem opsA_cont {hh : Hint} {id : Nat} {ops : Array Oper} : ∀ {rest : List Oper} {i : Nat} {s s1 : St}, opsA P G (EV C) hh id ops rest i s = some s1 → ∃ k, opsA P G (evN C k) hh id ops rest i s = some s1
  | [], i, s, s1, h => ⟨0, h⟩
  | o :: rest, i, s, s1, h => by
    simp only [opsA, Option.bind_eq_some_iff] at h ⊢
    obtain ⟨s', h1, h2⟩ := h
    obtain ⟨k1, g1⟩ := opA_cont C h1
    obtain ⟨k2, g2⟩ := opsA_cont h2
    exact ⟨max k1 k2, s', opA_mono (evN_le C (Nat.le_max_left ..)) g1, opsA_mono (evN_le C (Nat.le_max_right ..)) g2⟩
theorem valA_cont {hh : Hint} {id i : Nat} {ops : Array Oper} {o : Oper} {T : List AV} {H : List AObj} {r : R3} (h : valA P G (EV C) hh id ops i o T H = some r) : ∃ k, valA P G (evN C k) hh id ops i o T H = some r := by
  unfold valA at h ⊢
  split at h
  · exact aop'_cont C h
  · exact ⟨0, h⟩
  · cases h
theorem all_cont {α : Type} {p : Nat → α → Prop} (hm : ∀ k n a, k ≤ n → p k a → p n a) : ∀ (l : List α), (∀ a ∈ l, ∃ k, p k a) → ∃ k, ∀ a ∈ l, p k a
  | [], _ => ⟨0, fun _ h => by cases h⟩
  | a :: l, h => by
    obtain ⟨k1, h1⟩ := h a (by simp)
    obtain ⟨k2, h2⟩ := all_cont hm l fun b hb => h b (by simp [hb])
    refine ⟨max k1 k2, fun b hb => ?_⟩
    rcases List.mem_cons.1 hb with rfl | hb
    · exact hm k1 _ _ (Nat.le_max_left ..) h1
    · exact hm k2 _ _ (Nat.le_max_right ..) (h2 b hb)
theorem DrawAt_cont {hh : Hint} {id : Nat} {ops : Array Oper} {s : St} {l : List (Nat × Nat)} (h3 : ∀ p ∈ l, DrawAt P G (EV C) hh id ops s p) : ∃ k, ∀ p ∈ l, DrawAt P G (evN C k) hh id ops s p :=
  all_cont (p := fun k p => DrawAt P G (evN C k) hh id ops s p) (fun k n p hkn hp => DrawAt_mono (evN_le C hkn) hp) l fun p hp => by
    obtain ⟨o, si, sj, r, k1, k2, k3, k4, k5⟩ := h3 p hp
    obtain ⟨n2, g2⟩ := opsA_cont C k2
    obtain ⟨n3, g3⟩ := opsA_cont C k3
    obtain ⟨n4, g4⟩ := valA_cont C k4
    obtain ⟨n5, g5⟩ := valA_cont C k5
    refine ⟨max (max n2 n3) (max n4 n5), o, si, sj, r, k1, opsA_mono (evN_le C ?_) g2, opsA_mono (evN_le C ?_) g3, valA_mono (evN_le C ?_) g4, valA_mono (evN_le C ?_) g5⟩ <;> omega
theorem SwapRd_cont {hh : Hint} {id : Nat} {ops : Array Oper} {s : St} {Hm : List AObj} {l : List Nat} (h3 : ∀ i ∈ l, SwapRd P G (EV C) hh id ops s Hm i) : ∃ k, ∀ i ∈ l, SwapRd P G (evN C k) hh id ops s Hm i :=
  all_cont (p := fun k i => SwapRd P G (evN C k) hh id ops s Hm i) (fun k n p hkn hp => SwapRd_mono (evN_le C hkn) hp) l fun p hp => by
    obtain ⟨o, si, r, k1, k2, k3, k4⟩ := h3 p hp
    obtain ⟨n2, g2⟩ := opsA_cont C k2
    obtain ⟨n3, g3⟩ := valA_cont C k3
    obtain ⟨n4, g4⟩ := valA_cont C k4
    refine ⟨max n2 (max n3 n4), o, si, r, k1, opsA_mono (evN_le C ?_) g2, valA_mono (evN_le C ?_) g3, valA_mono (evN_le C ?_) g4⟩ <;> omega
theorem DrawOk_cont {hh : Hint} {id : Nat} {ops : Array Oper} {s : St} (h : DrawOk P G (EV C) hh id ops s) : ∃ k, DrawOk P G (evN C k) hh id ops s := by
  rcases h with ⟨h1, h2, h3⟩ | ⟨h0, h1, h2, p, q, h3, op, oq, sp, sq, sr, vp, vq, Hm, a1, a2, a3, a4, a5, a6, a7, a8, a9, a10, a11⟩
  · obtain ⟨k, hk⟩ := DrawAt_cont C h3
    exact ⟨k, .inl ⟨h1, h2, hk⟩⟩
  · obtain ⟨n1, g1⟩ := DrawAt_cont C h2
    obtain ⟨n3, g3⟩ := opsA_cont C a3
    obtain ⟨n4, g4⟩ := opsA_cont C a4
    obtain ⟨n5, g5⟩ := opsA_cont C a5
    obtain ⟨n6, g6⟩ := valA_cont C a6
    obtain ⟨n7, g7⟩ := valA_cont C a7
    obtain ⟨n8, g8⟩ := valA_cont C a8
    obtain ⟨n9, g9⟩ := valA_cont C a9
    obtain ⟨n11, g11⟩ := SwapRd_cont C a11
    refine ⟨n1 + n3 + n4 + n5 + n6 + n7 + n8 + n9 + n11, .inr ⟨h0, h1, fun p hp => DrawAt_mono (evN_le C ?_) (g1 p hp), p, q, h3, op, oq, sp, sq, sr, vp, vq, Hm, a1, a2, opsA_mono (evN_le C ?_) g3, opsA_mono (evN_le C ?_) g4, opsA_mono (evN_le C ?_) g5, valA_mono (evN_le C ?_) g6, valA_mono (evN_le C ?_) g7, valA_mono (evN_le C ?_) g8, valA_mono (evN_le C ?_) g9, a10, fun i hi => SwapRd_mono (evN_le C ?_) (g11 i hi)⟩⟩ <;> omega
theorem runC_cont {hh : Hint} {fn : Func} : ∀ (c : Code) (s : St) (o : Out), runC P G (EV C) hh fn c s = some o → ∃ k, runC P G (evN C k) hh fn c s = some o := by
  intro c
  induction c with
  | region id ops draw =>
    intro s o h
    cases draw with
    | true =>
      simp only [runC, Option.bind_eq_some_iff] at h ⊢
      obtain ⟨s1, h1, h2⟩ := h
      obtain ⟨k, hk⟩ := opsA_cont C h1
      split at h2
      · rename_i hw
        obtain ⟨k2, hk2⟩ := DrawOk_cont C hw
        exact ⟨max k k2, s1, opsA_mono (evN_le C (Nat.le_max_left ..)) hk, by rw [if_pos (DrawOk_mono (evN_le C (Nat.le_max_right ..)) hk2)]; exact h2⟩
      · cases h2
    | false =>
      simp only [runC, Option.bind_eq_some_iff] at h ⊢
      obtain ⟨s1, h1, h2⟩ := h
      obtain ⟨k, hk⟩ := opsA_cont C h1
      exact ⟨k, s1, hk, h2⟩
  | seq x y ihx ihy =>
    intro s o h
    simp only [runC, Option.bind_eq_some_iff] at h ⊢
    obtain ⟨o1, h1, h2⟩ := h
    obtain ⟨k1, g1⟩ := ihx s o1 h1
    cases o1 with
    | nrm s1 =>
      obtain ⟨k2, g2⟩ := ihy _ o h2
      exact ⟨max k1 k2, .nrm s1, runC_mono (evN_le C (Nat.le_max_left ..)) _ _ _ g1, runC_mono (evN_le C (Nat.le_max_right ..)) _ _ _ g2⟩
    | ext i s1 => exact ⟨k1, _, g1, h2⟩
    | ret r H E => exact ⟨k1, _, g1, h2⟩
  | cond b x y ihx ihy =>
    intro s o h
    simp only [runC] at h ⊢
    split at h
    · split at h
      · rename_i t _ ht
        obtain ⟨k, hk⟩ := ihx s o h
        exact ⟨k, by rw [if_pos ht]; exact hk⟩
      · rename_i t _ ht
        obtain ⟨k, hk⟩ := ihy s o h
        exact ⟨k, by rw [if_neg ht]; exact hk⟩
    · cases h
  | block id x ih =>
    intro s o h
    simp only [runC, Option.bind_eq_some_iff] at h ⊢
    obtain ⟨o1, h1, h2⟩ := h
    obtain ⟨k, hk⟩ := ih s o1 h1
    exact ⟨k, o1, hk, h2⟩
  | loop x ih =>
    intro s o h
    simp only [runC] at h ⊢
    obtain ⟨n, hn⟩ := lim_some h
    have key : ∀ (n : Nat) (s : St), loopN (fun s => (runC P G (EV C) hh fn x ⟨s.T, s.H, []⟩).bind (roundA hh (firstReg x) s)) n s = some o → ∃ k, loopN (fun s => (runC P G (evN C k) hh fn x ⟨s.T, s.H, []⟩).bind (roundA hh (firstReg x) s)) n s = some o := by
      intro n
      induction n with
      | zero => intro s h; simp [loopN] at h
      | succ n ihn =>
        intro s h
        simp only [loopN, Option.bind_eq_some_iff] at h
        obtain ⟨o2, ⟨o1, h1, h2⟩, h3⟩ := h
        obtain ⟨k1, g1⟩ := ih _ o1 h1
        cases o2 with
        | nrm s1 =>
          obtain ⟨k2, g2⟩ := ihn s1 h3
          refine ⟨max k1 k2, ?_⟩
          simp only [loopN, Option.bind_eq_some_iff]
          refine ⟨.nrm s1, ⟨o1, runC_mono (evN_le C (Nat.le_max_left ..)) _ _ _ g1, h2⟩, ?_⟩
          refine loopN_mono (fun s o h => ?_) n s1 o g2
          simp only [Option.bind_eq_some_iff] at h ⊢
          obtain ⟨o3, h4, h5⟩ := h
          exact ⟨o3, runC_mono (evN_le C (Nat.le_max_right ..)) _ _ _ h4, h5⟩
        | ext i s1 =>
          refine ⟨k1, ?_⟩
          simp only [loopN, Option.bind_eq_some_iff]
          exact ⟨.ext i s1, ⟨o1, g1, h2⟩, h3⟩
        | ret r H E =>
          refine ⟨k1, ?_⟩
          simp only [loopN, Option.bind_eq_some_iff]
          exact ⟨.ret r H E, ⟨o1, g1, h2⟩, h3⟩
    obtain ⟨k, hk⟩ := key n _ hn
    exact ⟨k, loopL_of hk⟩
  | _ => intro s o h; exact ⟨0, h⟩

/-- A function is what its text says. -/
theorem EV_eq {f : FuncId} {fn : Func} (hI : C.I f = none) (hf : C.P.funcs[base f]? = some fn) (a : List AV) (H : List AObj) : EV C f a H = fnA C.P C.G (EV C) (C.hint f) fn a H := by
  apply Option.ext
  intro r
  constructor
  · intro h
    obtain ⟨k, hk⟩ := EV_some C h
    cases k with
    | zero => simp [evN] at hk
    | succ k =>
      simp only [evN, hI, hf] at hk
      exact fnA_mono (evN_EV C k) hk
  · intro h
    have : ∃ k, fnA C.P C.G (evN C k) (C.hint f) fn a H = some r := by
      unfold fnA at h ⊢
      cases hb : fn.body with
      | none => rw [hb] at h; cases h
      | some c =>
        rw [hb] at h
        simp only [Option.bind_eq_some_iff] at h ⊢
        obtain ⟨o, h1, h2⟩ := h
        obtain ⟨k, hk⟩ := runC_cont C _ _ _ h1
        exact ⟨k, o, hk, h2⟩
    obtain ⟨k, hk⟩ := this
    exact EV_of C (k := k + 1) (by simp only [evN, hI, hf]; exact hk)
theorem EV_I {f : FuncId} {F : List AV → List AObj → Option R3} (hI : C.I f = some F) (a : List AV) (H : List AObj) : EV C f a H = F a H := by
  apply Option.ext
  intro r
  constructor
  · intro h
    obtain ⟨k, hk⟩ := EV_some C h
    cases k with
    | zero => simp [evN] at hk
    | succ k => simpa only [evN, hI] using hk
  · intro h
    exact EV_of C (k := 1) (by simp only [evN, hI]; exact h)

/-- SOUND: what the evaluator finds, Go does. -/
theorem EV_ok (hI : ∀ f F a H r, C.I f = some F → F a H = some r → SpecR C.P C.G f a H r) : EnvOk C.P C.G (EV C) := by
  have key : ∀ k, EnvOk C.P C.G (evN C k) := fun k => by
    induction k with
    | zero => intro f a H r h; simp [evN] at h
    | succ k ih =>
      intro f a H r h
      simp only [evN] at h
      split at h
      · rename_i F hF
        exact hI f F a H r hF h
      · split at h
        · rename_i fn hf
          exact fn_ok ih hf h
        · cases h
  intro f a H r h
  obtain ⟨k, hk⟩ := EV_some C h
  exact key k f a H r hk
end
end Go.Pm
namespace Go.Pm
set_option linter.unusedVariables false
set_option linter.unusedSimpArgs false
def pickA (c a b : AV) : Option AV := match c with | .bool t => some (if t = true then a else b) | _ => none
def nilsK {β : Type} (x : AV) (H : List AObj) (K : AV → List AObj → List Nat → Option β) : Option β := match x with
  | .nils => K (.slc H.length 0 0 0) (H ++ [.vrow]) []
  | _ => none
def newK {β : Type} (x : AV) (H : List AObj) (K : AV → List AObj → List Nat → Option β) : Option β := (newA x H).bind fun r => K r.1 r.2.1 r.2.2
def placeL (place : Nat → Option (Nat × Nat)) : List (Nat × AV) → Option (List (Nat × Nat × AV))
  | [] => some []
  | (i, v) :: rest => match place i with
    | none => none
    | some p => match placeL place rest with
      | none => none
      | some ps => some ((p.1, p.2, v) :: ps)
def fillB (cells : List AV) : List (Nat × Nat × AV) → Option (List AV)
  | [] => some cells
  | (off, size, v) :: rest =>
    if v.cells.length = size ∧ off + size ≤ cells.length ∧ v.isBad = false then fillB (cells.take off ++ v.cells ++ cells.drop (off + size)) rest else none
def litK {β : Type} (z n : Nat) (zero : AV) (ps : List (Nat × AV)) (H : List AObj) (K : AV → List AObj → List Nat → Option β) : Option β :=
  ((frzL H (ps.map (·.2))).bind fun vs => (frz H zero).bind fun zr =>
    (setS z H (List.replicate n zr) ((ps.map (·.1)).zip vs)).map fun es => (.lst es, killAll H (killsL (ps.map (·.2))), [])).bind fun (r : R3) => K r.1 r.2.1 r.2.2
def rawK {β : Type} (z n : Nat) (zero : AV) (ps : List (Nat × AV)) (H : List AObj) (K : AV → List AObj → List Nat → Option β) : Option β :=
  (setS z H (List.replicate n zero) ps).bind fun es => K (.slc H.length 0 n n) (H ++ [.row z es]) []
def stoK {β : Type} (s : Nat) (a v : AV) (H : List AObj) (K : List AObj → List Nat → Option β) : Option β := (storeA s a v H).bind fun r => K r.1 r.2
def nilA (x : AV) : Option AV := match x with
  | .ptr l tot i off => some (.ptr l tot i off)
  | .ip cs => some (.ip cs)
  | .lnt (.ip cs) => some (.lnt (.ip cs))
  | .clo f fi ca => some (.clo f fi ca)
  | _ => none
def cvI (k : IntKind) (x : AV) : Option AV := match x with | .int _ n => some (.int k (k.wrap n)) | _ => none
def cvS (x : AV) : Option AV := match x with | .str s => some (.str s) | _ => none
def cvB (x : AV) : Option AV := match x with | .str s => some (.lst (bytesA s)) | _ => none
def cvL (x : AV) (H : List AObj) : Option AV := match x with | .str _ => none | x => (elemsA x H).bind fun es => (toBytes es).map fun l => .str ⟨l.toArray⟩
def fldA (ag : Bool) (s off : Nat) (x : AV) : Option AV := match x with | .agg cs => ldv ag s (cs.drop off) | _ => none
def ixA (z : Nat) (x ix : AV) (H : List AObj) : Option AV := match ix with | .int _ i => indexA z x i H | _ => none
def arA (n s : Nat) (x ix : AV) : Option AV := match ix with | .int _ i => if 0 ≤ i ∧ i < n then offA x (i.toNat * s) else none | _ => none
def ixV (n : Nat) (ag : Bool) (s : Nat) (x ix : AV) : Option AV := match x, ix with | .agg cs, .int _ i => if 0 ≤ i ∧ i < n then ldv ag s (cs.drop (i.toNat * s)) else none | _, _ => none
def ixS (x ix : AV) : Option AV := match x, ix with | .str s, .int _ i => if 0 ≤ i then (bl s)[i.toNat]?.map fun b => .int .u8 b.toNat else none | _, _ => none
def extA (x : AV) (i : Nat) : Option AV := match x with | .tup vs => vs[i]? | _ => none
def tasA (t : TypeId) (ok : Bool) (z : Option AV) (x : AV) : Option AV := match x with
  | .ifc u v => if u = t then some (if ok then .tup [v, .bool true] else v) else if ok then z.map fun z => .tup [z, .bool false] else none
  | .nili => if ok then z.map fun z => .tup [z, .bool false] else none
  | _ => none
def mkK {β : Type} (z by_ : Nat) (zero n c : AV) (H : List AObj) (K : AV → List AObj → List Nat → Option β) : Option β := (makeA z by_ zero n c H).bind fun r => K r.1 r.2.1 r.2.2
def lenS (x : AV) : Option AV := match x with | .str s => some (.int .i64 s.size) | _ => none
def lenV (x : AV) (H : List AObj) : Option AV := (lenA x H).map fun (n : Nat) => AV.int .i64 (n : Int)
def appK {β : Type} (z by_ : Nat) (x y : AV) (H : List AObj) (K : AV → List AObj → List Nat → Option β) : Option β :=
  ((elemsA y H).bind fun ys => appendA z by_ x ys H).bind fun r => K r.1 r.2.1 r.2.2
def appD (z by_ : Nat) (x y : AV) (H : List AObj) : Option AV := (elemsA y H).bind fun ys => appF z by_ x ys
def zapK {β : Type} (z by_ : Nat) (zero x n : AV) (H : List AObj) (K : AV → List AObj → List Nat → Option β) : Option β := (appZ z by_ zero x n H).bind fun r => K r.1 r.2.1 r.2.2
def callK {β : Type} (env : Env) (raw : Bool) (g : FuncId) (args : List AV) (H : List AObj) (K : AV → List AObj → List Nat → Option β) : Option β := (callA env raw g args H).bind fun r => K r.1 r.2.1 r.2.2
def calXK {β : Type} (env : Env) (act : Nat) (g : FuncId) (args : List AV) (H : List AObj) (K : AV → List AObj → List Nat → Option β) : Option β := (callX env act g args H).bind fun r => K r.1 r.2.1 r.2.2
def valK {β : Type} (P : Program) (env : Env) (raw : Bool) (f : AV) (args : List AV) (H : List AObj) (K : AV → List AObj → List Nat → Option β) : Option β := match f with
  | .clo g fi ca => if okF P g = true then callK env raw g (fi ++ args ++ ca) H K else none
  | _ => none

def mpK {β : Type} (H : List AObj) (K : AV → List AObj → List Nat → Option β) : Option β := K (.mp H.length) (H ++ [.mp []]) []
def lookV (d : Option TypeDesc) (z : AV) (ok : Bool) (x k : AV) (H : List AObj) : Option AV := if keyOk d k = true then lookA z ok x k H else none
def updK {β : Type} (d : Option TypeDesc) (x k v : AV) (H : List AObj) (K : List AObj → Option β) : Option β := (if keyOk d k = true then updA x k v H else none).bind K
def delK {β : Type} (d : Option TypeDesc) (x k : AV) (H : List AObj) (K : List AObj → Option β) : Option β := (if keyOk d k = true then delA x k H else none).bind K
def lenW (x : AV) (H : List AObj) : Option AV := (lenM x H).map fun (n : Nat) => AV.int .i64 (n : Int)
theorem fillA_place (place : Nat → Option (Nat × Nat)) : ∀ (ps : List (Nat × AV)) (cells cs : List AV), (placeL place ps).bind (fillB cells) = some cs ↔ fillA place cells ps = some cs
  | [], cells, cs => by simp [placeL, fillB, fillA]
  | (i, v) :: rest, cells, cs => by
    simp only [placeL, fillA]
    cases hp : place i with
    | none => simp
    | some p =>
      obtain ⟨off, size⟩ := p
      simp only
      have ih := fillA_place place rest (cells.take off ++ v.cells ++ cells.drop (off + size)) cs
      cases hr : placeL place rest with
      | none =>
        rw [hr] at ih
        simp only [Option.bind_none, reduceCtorEq, false_iff] at ih ⊢
        split
        · exact ih
        · simp
      | some ps =>
        rw [hr] at ih
        simp only [Option.bind_some, fillB] at ih ⊢
        split
        · exact ih
        · simp

/-- one operation -/
def sizK {β : Type} (n : Nat) (v : AV) (x : Option β) : Option β := if v.cells.length = n then x else none
def aopK {β : Type} (P : Program) (G : Nat → Option (List AV)) (env : Env) (act : Nat) (o : Oper) (T : List AV) (H : List AObj) (K : AV → List AObj → List Nat → Option β) : Option β :=
  match o.op with
  | .move x => K (evA G T x) H []
  | .assign x => match act with
    | 2 => nilsK (evA G T x) H K
    | _ => K (evA G T x) H []
  | .pick c a b => (pickA (evA G T c) (evA G T a) (evA G T b)).bind fun v => K v H []
  | .alloc t => match zeroT P t with
    | some z => match act with
      | 8 => if (!z.cells.isEmpty && z.cells.all AV.one) = true then K (.ip z.cells) H [] else none
      | _ => newK z H K
    | none => none
  | .box t x => match act with
    | 10 => match tk P t with
      | some s => sizK s.2 (evA G T x) (newK (evA G T x) H K)
      | none => none
    | _ => newK (evA G T x) H K
  | .build t parts =>
    match P.underlying t, zeroT P t with
    | some (.struct fs), some z =>
      if (fs.toList.all fun f => (tk P f.type).isSome) = true ∧ z.isBad = false then
        match placeL (fun i => (fs[i]?).bind fun f => (tk P f.type).map fun s => (f.offset, s.2)) (parts.toList.map fun p => (p.1, evA G T p.2)) with
        | some ps => (fillB z.cells ps).bind fun cs => K (.agg cs) H []
        | none => none
      else none
    | some (.array _ e), some z =>
      if z.isBad = false then
        match tk P e with
        | some s => match placeL (fun i => some (i * s.2, s.2)) (parts.toList.map fun p => (p.1, evA G T p.2)) with
          | some ps => (fillB z.cells ps).bind fun cs => K (.agg cs) H []
          | none => none
        | none => none
      else none
    | _, _ => none
  | .buildSlice t n parts =>
    match elemT P t with
    | some e => match tk P e, zeroT P e with
      | some s, some z =>
        if n * s.2 ≤ 16777216 ∧ z.cells.length = s.2 ∧ 0 < s.2 ∧ z.cells.all AV.one = true ∧ z.isBad = false then
          match act with
          | 1 => rawK s.2 n z (parts.toList.map fun p => (p.1, evA G T p.2)) H K
          | 9 => match n, parts.toList with
            | 0, [] => K (.emp none) H []
            | _, _ => none
          | _ => litK s.2 n z (parts.toList.map fun p => (p.1, evA G T p.2)) H K
        else none
      | _, _ => none
    | none => none
  | .load t a => match tk P t with
    | some s => (loadA s.1 s.2 (evA G T a) H).bind fun v => K v H []
    | none => none
  | .store t a v => match tk P t with
    | some s => stoK s.2 (evA G T a) (evA G T v) H fun H' E' => K (.tup []) H' E'
    | none => none
  | .nilCheck x => (nilA (evA G T x)).bind fun v => K v H []
  | .binOp op xt x y _ => match act with
    | 15 => (nilR op (P.underlying xt) (evA G T x) (evA G T y) H).bind fun v => K v H []
    | _ => match P.underlying xt with
    | some d => (binA op d (cmpT P) (isCst x || isCst y) (evA G T x) (evA G T y)).bind fun v => K v H []
    | none => none
  | .unOp op _ x => (unA op (evA G T x)).bind fun v => K v H []
  | .convert src dst x =>
    match P.underlying src, P.underlying dst with
    | some (.int _), some (.int k) => (cvI k (evA G T x)).bind fun v => K v H []
    | some .string, some .string => (cvS (evA G T x)).bind fun v => K v H []
    | some .string, some (.slice e) => if isU8 P e = true then (cvB (evA G T x)).bind fun v => K v H [] else none
    | some (.slice e), some .string => if isU8 P e = true then (cvL (evA G T x) H).bind fun v => K v H [] else none
    | some (.slice _), some (.slice e) => if (src == dst) = true ∧ isU8 P e = true then (cvR (evA G T x) H).bind fun v => K v H [] else none
    | _, _ => none
  | .makeInterface t x => if isIface P t = true then none else K (.ifc t (evA G T x)) H []
  | .makeFunc (.func f) first cap => K (.clo f (first.toList.map (evA G T)) (cap.toList.map (evA G T))) H []
  | .slice t x lo hi mx =>
    match P.underlying t with
    | some (.slice e) => match tk P e with
      | some s => (cutA s.2 (evA G T x) (lo.map (evA G T)) (hi.map (evA G T)) (mx.map (evA G T)) H).bind fun v => K v H []
      | none => none
    | some .string => match mx with
      | none => (cutS (evA G T x) (lo.map (evA G T)) (hi.map (evA G T))).bind fun v => K v H []
      | some _ => none
    | _ => none
  | .fieldAddr s x f =>
    match P.underlying s with
    | some (.struct fs) => match fs[f]? with
      | some f => match tk P f.type with
        | some z => if 0 < z.2 then (offA (evA G T x) f.offset).bind fun v => K v H [] else none
        | none => none
      | none => none
    | _ => none
  | .field s x f =>
    match P.underlying s with
    | some (.struct fs) => match fs[f]? with
      | some f => match tk P f.type with
        | some z => (fldA z.1 z.2 f.offset (evA G T x)).bind fun v => K v H []
        | none => none
      | none => none
    | _ => none
  | .indexAddr t x ix =>
    match P.underlying t with
    | some (.slice e) => match tk P e with
      | some s => (ixA s.2 (evA G T x) (evA G T ix) H).bind fun v => K v H []
      | none => none
    | some (.array n e) => match tk P e with
      | some s => (arA n s.2 (evA G T x) (evA G T ix)).bind fun v => K v H []
      | none => none
    | _ => none
  | .index t x ix =>
    match P.underlying t with
    | some (.array n e) => match tk P e with
      | some s => (ixV n s.1 s.2 (evA G T x) (evA G T ix)).bind fun v => K v H []
      | none => none
    | some .string => (ixS (evA G T x) (evA G T ix)).bind fun v => K v H []
    | _ => none
  | .extract x i => (extA (evA G T x) i).bind fun v => K v H []
  | .typeAssert x _ t ok => if isIface P t = true then none else (tasA t ok (zeroT P t) (evA G T x)).bind fun v => K v H []
  | .makeMap t r => match P.underlying t, r with
    | some (.map _ _), none => mpK H K
    | _, _ => none
  | .lookup t x k ok => match P.underlying t with
    | some (.map kt et) => match zeroT P et with
      | some z => (lookV (P.underlying kt) z ok (evA G T x) (evA G T k) H).bind fun v => K v H []
      | none => none
    | _ => none
  | .mapUpdate t x k v => match P.underlying t with
    | some (.map kt _) => updK (P.underlying kt) (evA G T x) (evA G T k) (evA G T v) H fun H' => K (.tup []) H' []
    | _ => none
  | .makeSlice t n c =>
    match elemT P t with
    | some e => match tk P e, zeroT P e, P.info? e with
      | some s, some z, some i => mkK s.2 i.bytes z (evA G T n) (evA G T c) H K
      | _, _, _ => none
    | none => none
  | .call c =>
    match c.callee with
    | .builtin .len =>
      match (c.argTypes[0]?).bind P.underlying, c.args.toList with
      | some (.array n _), [_] => K (.int .i64 n) H []
      | some .string, [x] => (lenS (evA G T x)).bind fun v => K v H []
      | some (.slice _), [x] => (lenV (evA G T x) H).bind fun v => K v H []
      | some (.map _ _), [x] => (lenW (evA G T x) H).bind fun v => K v H []
      | _, _ => none
    | .builtin .delete =>
      match (c.argTypes[0]?).bind P.underlying, c.args.toList with
      | some (.map kt _), [x, k] => delK (P.underlying kt) (evA G T x) (evA G T k) H fun H' => K (.tup []) H' []
      | _, _ => none
    | .builtin .append =>
      match c.args.toList, c.argTypes[0]?, c.argTypes[1]? with
      | [x, y], some t, some u =>
        match elemT P t with
        | some e => match tk P e, P.info? e, zeroT P e with
          | some s, some i, some z0 =>
            if noInt P u = true ∧ z0.cells.length = s.2 ∧ z0.isBad = false then
              match act with
              | 9 => (appD s.2 i.bytes (evA G T x) (evA G T y) H).bind fun v => K v H []
              | _ => appK s.2 i.bytes (evA G T x) (evA G T y) H K
            else if isInt P u = true ∧ act ≠ 9 then zapK s.2 i.bytes z0 (evA G T x) (evA G T y) H K else none
          | _, _, _ => none
        | none => none
      | _, _, _ => none
    | .builtin .cap =>
      match c.args.toList, (c.argTypes[0]?).bind P.underlying with
      | [x], some (.slice _) => (capA (evA G T x)).bind fun v => K v H []
      | _, _ => none
    | .builtin .min => (minA (c.args.toList.map (evA G T))).bind fun v => K v H []
    | .builtin .max => (maxA (c.args.toList.map (evA G T))).bind fun v => K v H []
    | .value (.func g) => if okF P g = true then (match act with
      | 12 => calXK env 12 g (c.args.toList.map (evA G T)) H K
      | 13 => calXK env 13 g (c.args.toList.map (evA G T)) H K
      | 14 => calXK env 14 g (c.args.toList.map (evA G T)) H K
      | act => callK env (rawA act) (vrA act g) (c.args.toList.map (evA G T)) H K) else none
    | .value f => match act with
      | 7 => none
      | 12 => none
      | 13 => none
      | 14 => none
      | _ => valK P env (act == 1) (evA G T f) (c.args.toList.map (evA G T)) H K
    | _ => none
  | _ => none
theorem bind_s {α β : Type} {v : Option α} {f : α → Option β} {x : β} (h : (v.bind f) = some x) : ∃ a, v = some a ∧ f a = some x := Option.bind_eq_some_iff.1 h
section
variable {β : Type} {P : Program} {G : Nat → Option (List AV)} {env : Env} {act : Nat} {o : Oper} {T : List AV} {H : List AObj} {K : AV → List AObj → List Nat → Option β}
theorem callK_some {raw : Bool} {g : FuncId} {args : List AV} {x : β} (h : callK env raw g args H K = some x) : ∃ r, callA env raw g args H = some r ∧ K r.1 r.2.1 r.2.2 = some x := bind_s h
/-- what the one finds the other finds (that is all that is needed) -/
theorem aopK_some {x : β} (h : aopK P G env act o T H K = some x) : ∃ r, aop P G env act o T H = some r ∧ K r.1 r.2.1 r.2.2 = some x := by
  cases ho : o.op
  case move y => simp only [aopK, ho] at h; exact ⟨_, by simp only [aop, ho]; rfl, h⟩
  case assign y =>
    simp only [aopK, ho] at h
    split at h
    · unfold nilsK at h
      split at h
      · rename_i hv; exact ⟨(.slc H.length 0 0 0, H ++ [.vrow], []), by simp only [aop, ho, hv, if_true], h⟩
      · cases h
    · rename_i hne; exact ⟨_, by simp only [aop, ho]; rw [if_neg hne]; rfl, h⟩
  case pick c a b =>
    simp only [aopK, ho] at h
    obtain ⟨v, h1, h2⟩ := bind_s h
    unfold pickA at h1
    split at h1
    · rename_i t hv; injection h1 with h1; subst h1; exact ⟨_, by simp only [aop, ho, hv]; rfl, h2⟩
    · cases h1
  case alloc t =>
    simp only [aopK, ho] at h
    split at h
    · rename_i z hz
      split at h
      · split at h
        · rename_i hc
          exact ⟨(.ip z.cells, H, []), by simp only [aop, ho, hz, Option.bind_some, if_true]; rw [if_pos hc], h⟩
        · cases h
      · rename_i hne
        obtain ⟨r, h1, h2⟩ := bind_s h
        exact ⟨r, by simp only [aop, ho, hz, Option.bind_some]; rw [if_neg hne]; exact h1, h2⟩
    · cases h
  case box t y =>
    simp only [aopK, ho] at h
    split at h
    · split at h
      · rename_i s hs
        unfold sizK at h
        split at h
        · rename_i hl
          obtain ⟨r, h1, h2⟩ := bind_s h
          exact ⟨r, by simp only [aop, ho, if_true, hs, Option.bind_some]; rw [if_pos hl]; exact h1, h2⟩
        · cases h
      · cases h
    · rename_i hne
      obtain ⟨r, h1, h2⟩ := bind_s h
      exact ⟨r, by simp only [aop, ho]; rw [if_neg hne]; exact h1, h2⟩
  case build t ps =>
    simp only [aopK, ho] at h
    split at h
    · rename_i fs z hf hz
      split at h
      · rename_i hc
        split at h
        · rename_i ps' hp
          obtain ⟨cs, h1, h2⟩ := bind_s h
          have hfl := (fillA_place _ _ _ cs).1 (by rw [hp]; exact h1)
          exact ⟨(.agg cs, H, []), by simp only [aop, ho, hf, hz]; rw [if_pos hc, hfl]; rfl, h2⟩
        · cases h
      · cases h
    · rename_i n e z hf hz
      split at h
      · rename_i hc
        split at h
        · rename_i s hs
          split at h
          · rename_i ps' hp
            obtain ⟨cs, h1, h2⟩ := bind_s h
            have hfl := (fillA_place _ _ _ cs).1 (by rw [hp]; exact h1)
            exact ⟨(.agg cs, H, []), by simp only [aop, ho, hf, hz]; rw [if_pos hc, hs, Option.bind_some, hfl]; rfl, h2⟩
          · cases h
        · cases h
      · cases h
    · cases h
  case buildSlice t n ps =>
    simp only [aopK, ho] at h
    split at h
    · rename_i e he
      split at h
      · rename_i s z hs hz
        split at h
        · rename_i hc
          split at h
          · unfold rawK at h
            obtain ⟨es, h1, h2⟩ := bind_s h
            exact ⟨(.slc H.length 0 n n, H ++ [.row s.2 es], []), by simp only [aop, ho, he, hs, hz, Option.bind_some]; rw [if_pos hc]; simp only [if_true, h1, Option.map_some], h2⟩
          · split at h
            · rename_i hp
              exact ⟨(.emp none, H, []), by simp only [aop, ho, he, hs, hz, Option.bind_some]; rw [if_pos hc]; simp [hp], h⟩
            · cases h
          · rename_i hne hne9
            unfold litK at h
            obtain ⟨r, h1, h2⟩ := bind_s h
            simp only [List.map_map, Function.comp_def] at h1
            exact ⟨r, by simp only [aop, ho, he, hs, hz, Option.bind_some]; rw [if_pos hc]; rw [if_neg hne, if_neg hne9]; exact h1, h2⟩
        · cases h
      · cases h
    · cases h
  case load t a =>
    simp only [aopK, ho] at h
    split at h
    · rename_i s hs
      obtain ⟨v, h1, h2⟩ := bind_s h
      exact ⟨(v, H, []), by simp only [aop, ho, hs, Option.bind_some, h1]; rfl, h2⟩
    · cases h
  case store t a v =>
    simp only [aopK, ho] at h
    split at h
    · rename_i s hs
      obtain ⟨r, h1, h2⟩ := bind_s h
      exact ⟨(.tup [], r.1, r.2), by simp only [aop, ho, hs, Option.bind_some, h1]; rfl, h2⟩
    · cases h
  case nilCheck y =>
    simp only [aopK, ho] at h
    obtain ⟨v, h1, h2⟩ := bind_s h
    refine ⟨(v, H, []), ?_, h2⟩
    simp only [aop, ho]
    unfold nilA at h1
    split at h1 <;> first | (cases h1; done) | (rename_i hv; injection h1 with h1; subst h1; simp only [hv])
  case binOp op xt y z _ =>
    simp only [aopK, ho] at h
    split at h
    · obtain ⟨v, h1, h2⟩ := bind_s h
      exact ⟨(v, H, []), by simp only [aop, ho, if_true, h1]; rfl, h2⟩
    rename_i h15
    split at h
    · rename_i d hd
      obtain ⟨v, h1, h2⟩ := bind_s h
      exact ⟨(v, H, []), by simp only [aop, ho, hd, Option.bind_some, h1]; rw [if_neg (fun e => h15 e)]; rfl, h2⟩
    · cases h
  case unOp op _ y =>
    simp only [aopK, ho] at h
    obtain ⟨v, h1, h2⟩ := bind_s h
    exact ⟨(v, H, []), by simp only [aop, ho, h1]; rfl, h2⟩
  case convert src dst y =>
    simp only [aopK, ho] at h
    split at h
    · rename_i k0 k e1 e2
      obtain ⟨v, h1, h2⟩ := bind_s h
      unfold cvI at h1
      split at h1
      · rename_i hv; injection h1 with h1; subst h1; exact ⟨_, by simp only [aop, ho, e1, e2, hv]; rfl, h2⟩
      · cases h1
    · rename_i e1 e2
      obtain ⟨v, h1, h2⟩ := bind_s h
      unfold cvS at h1
      split at h1
      · rename_i hv; injection h1 with h1; subst h1; exact ⟨_, by simp only [aop, ho, e1, e2, hv]; rfl, h2⟩
      · cases h1
    · rename_i e e1 e2
      split at h
      · rename_i hu
        obtain ⟨v, h1, h2⟩ := bind_s h
        unfold cvB at h1
        split at h1
        · rename_i s hv; injection h1 with h1; subst h1; exact ⟨(.lst (bytesA s), H, []), by simp only [aop, ho, e1, e2, hv]; rw [if_pos hu]; rfl, h2⟩
        · cases h1
      · cases h
    · rename_i e e1 e2
      split at h
      · rename_i hu
        obtain ⟨v, h1, h2⟩ := bind_s h
        unfold cvL at h1
        split at h1
        · cases h1
        · rename_i hv
          refine ⟨(v, H, []), ?_, h2⟩
          simp only [aop, ho, e1, e2]
          generalize evA G T y = w at hv h1
          cases w <;> first
            | exact absurd rfl (hv _)
            | (rw [if_pos hu, h1]; rfl)
      · cases h
    · rename_i e0 e e1 e2
      split at h
      · rename_i hu
        obtain ⟨v, h1, h2⟩ := bind_s h
        refine ⟨(v, H, []), ?_, h2⟩
        simp only [aop, ho, e1, e2]
        generalize evA G T y = w at h1
        cases w <;> first
          | (simp only [cvR] at h1; cases h1; done)
          | (rw [if_pos hu, h1]; rfl)
      · cases h
    · cases h
  case makeInterface t y =>
    simp only [aopK, ho] at h
    split at h
    · cases h
    · rename_i hi; exact ⟨_, by simp only [aop, ho]; rw [if_neg hi]; rfl, h⟩
  case makeFunc f a b =>
    cases f <;> simp only [aopK, ho] at h
    · exact ⟨_, by simp only [aop, ho]; rfl, h⟩
    all_goals cases h
  case slice t y lo hi mx =>
    simp only [aopK, ho] at h
    split at h
    · rename_i e he
      split at h
      · rename_i s hs
        obtain ⟨v, h1, h2⟩ := bind_s h
        exact ⟨(v, H, []), by simp only [aop, ho, he, hs, Option.bind_some, h1]; rfl, h2⟩
      · cases h
    · rename_i he
      split at h
      · obtain ⟨v, h1, h2⟩ := bind_s h
        exact ⟨(v, H, []), by simp only [aop, ho, he, h1]; rfl, h2⟩
      · cases h
    · cases h
  case fieldAddr s y f =>
    simp only [aopK, ho] at h
    split at h
    · rename_i fs hf
      split at h
      · rename_i f' hf'
        split at h
        · rename_i z hz
          split at h
          · rename_i hp
            obtain ⟨v, h1, h2⟩ := bind_s h
            exact ⟨(v, H, []), by simp only [aop, ho, hf, hf', hz, Option.bind_some, h1]; rw [if_pos hp]; rfl, h2⟩
          · cases h
        · cases h
      · cases h
    · cases h
  case field s y f =>
    simp only [aopK, ho] at h
    split at h
    · rename_i fs hf
      split at h
      · rename_i f' hf'
        split at h
        · rename_i z hz
          obtain ⟨v, h1, h2⟩ := bind_s h
          unfold fldA at h1
          split at h1
          · rename_i cs hv
            exact ⟨(v, H, []), by simp only [aop, ho, hf, hf', hz, Option.bind_some, hv, h1]; rfl, h2⟩
          · cases h1
        · cases h
      · cases h
    · cases h
  case indexAddr t y ix =>
    simp only [aopK, ho] at h
    split at h
    · rename_i e he
      split at h
      · rename_i s hs
        obtain ⟨v, h1, h2⟩ := bind_s h
        unfold ixA at h1
        split at h1
        · rename_i k i hv
          exact ⟨(v, H, []), by simp only [aop, ho, he, hv, hs, Option.bind_some, h1]; rfl, h2⟩
        · cases h1
      · cases h
    · rename_i n e he
      split at h
      · rename_i s hs
        obtain ⟨v, h1, h2⟩ := bind_s h
        unfold arA at h1
        split at h1
        · rename_i k i hv
          split at h1
          · rename_i hi
            exact ⟨(v, H, []), by simp only [aop, ho, he, hv, hs, Option.bind_some]; rw [if_pos hi, h1]; rfl, h2⟩
          · cases h1
        · cases h1
      · cases h
    · cases h
  case index t y ix =>
    simp only [aopK, ho] at h
    split at h
    · rename_i n e he
      split at h
      · rename_i s hs
        obtain ⟨v, h1, h2⟩ := bind_s h
        unfold ixV at h1
        split at h1
        · rename_i cs k i hy hv
          split at h1
          · rename_i hi
            exact ⟨(v, H, []), by simp only [aop, ho, he, hy, hv, hs, Option.bind_some]; rw [if_pos hi, h1]; rfl, h2⟩
          · cases h1
        · cases h1
      · cases h
    · rename_i he
      obtain ⟨v, h1, h2⟩ := bind_s h
      unfold ixS at h1
      split at h1
      · rename_i s k i hy hv
        split at h1
        · rename_i hi
          exact ⟨(v, H, []), by simp only [aop, ho, he, hy, hv]; rw [if_pos hi, h1]; rfl, h2⟩
        · cases h1
      · cases h1
    · cases h
  case extract y i =>
    simp only [aopK, ho] at h
    obtain ⟨v, h1, h2⟩ := bind_s h
    unfold extA at h1
    split at h1
    · rename_i vs hv
      exact ⟨(v, H, []), by simp only [aop, ho, hv, h1]; rfl, h2⟩
    · cases h1
  case typeAssert y t0 t ok =>
    simp only [aopK, ho] at h
    split at h
    · cases h
    · rename_i hi
      obtain ⟨v, h1, h2⟩ := bind_s h
      refine ⟨(v, H, []), ?_, h2⟩
      simp only [aop, ho]
      rw [if_neg hi]
      unfold tasA at h1
      split at h1
      · rename_i u w hv
        simp only [hv]
        split at h1
        · rename_i hu; rw [if_pos hu]; injection h1 with h1; subst h1; rfl
        · rename_i hu
          rw [if_neg hu]
          split at h1
          · rename_i hok
            rw [if_pos hok]
            simp only [Option.map_eq_some_iff] at h1
            obtain ⟨z, h3, rfl⟩ := h1
            rw [h3]; rfl
          · cases h1
      · rename_i hv
        simp only [hv]
        split at h1
        · rename_i hok
          rw [if_pos hok]
          simp only [Option.map_eq_some_iff] at h1
          obtain ⟨z, h3, rfl⟩ := h1
          rw [h3]; rfl
        · cases h1
      · cases h1
  case makeMap t r =>
    simp only [aopK, ho] at h
    split at h
    · rename_i _ e1 e2; unfold mpK at h; exact ⟨(.mp H.length, H ++ [.mp []], []), by simp only [aop, ho, e2], h⟩
    · cases h
  case lookup t y k ok =>
    simp only [aopK, ho] at h
    split at h
    · rename_i kt et e1
      split at h
      · rename_i z hz
        obtain ⟨v, h1, h2⟩ := bind_s h
        unfold lookV at h1
        split at h1
        · rename_i hc
          exact ⟨(v, H, []), by simp only [aop, ho, e1]; rw [if_pos hc, hz, Option.bind_some, h1]; rfl, h2⟩
        · cases h1
      · cases h
    · cases h
  case mapUpdate t y k v =>
    simp only [aopK, ho] at h
    split at h
    · rename_i kt et e1
      obtain ⟨H', h1, h2⟩ := bind_s h
      split at h1
      · rename_i hc
        exact ⟨(.tup [], H', []), by simp only [aop, ho, e1]; rw [if_pos hc, h1]; rfl, h2⟩
      · cases h1
    · cases h
  case makeSlice t n c =>
    simp only [aopK, ho] at h
    split at h
    · rename_i e he
      split at h
      · rename_i s z i hs hz hi
        obtain ⟨r, h1, h2⟩ := bind_s h
        exact ⟨r, by simp only [aop, ho, he, hs, hz, hi, Option.bind_some]; exact h1, h2⟩
      · cases h
    · cases h
  case call c =>
    cases hc : c.callee with
    | value f =>
      have hv : ∀ f, c.callee = .value f → act ≠ 7 → ¬ (act = 12 ∨ act = 13 ∨ act = 14) → valK P env (act == 1) (evA G T f) (c.args.toList.map (evA G T)) H K = some x → ∃ r, aop P G env act o T H = some r ∧ K r.1 r.2.1 r.2.2 = some x := fun f hc h7 h12 h => by
        have hr : rawA act = (act == 1) := by simp [rawA, h7]
        have hg : ∀ g, vrA act g = g := fun g => by unfold vrA; rw [if_neg h7, if_neg (fun h => h12 (.inr (.inl h)))]
        unfold valK at h
        split at h
        · rename_i g fi ca hf
          split at h
          · rename_i hok
            obtain ⟨r, h1, h2⟩ := callK_some h
            exact ⟨r, by simp only [aop, ho, hc, hf, hr, hg]; rw [if_pos hok, if_neg h12]; exact h1, h2⟩
          · cases h
        · cases h
      cases f with
      | func g =>
        simp only [aopK, ho, hc] at h
        split at h
        · rename_i hok
          split at h
          · obtain ⟨r, h1, h2⟩ := bind_s h
            exact ⟨r, by simp only [aop, ho, hc, evA]; rw [if_pos hok, if_pos (by simp)]; simpa using h1, h2⟩
          · obtain ⟨r, h1, h2⟩ := bind_s h
            exact ⟨r, by simp only [aop, ho, hc, evA]; rw [if_pos hok, if_pos (by simp)]; simpa using h1, h2⟩
          · obtain ⟨r, h1, h2⟩ := bind_s h
            exact ⟨r, by simp only [aop, ho, hc, evA]; rw [if_pos hok, if_pos (by simp)]; simpa using h1, h2⟩
          rename_i h12 h13 h14
          obtain ⟨r, h1, h2⟩ := callK_some h
          exact ⟨r, by simp only [aop, ho, hc, evA]; rw [if_pos hok, if_neg (fun h => h.elim h12 fun h => h.elim h13 h14)]; simpa using h1, h2⟩
        · cases h
      | _ =>
        simp only [aopK, ho, hc] at h
        split at h
        · cases h
        · cases h
        · cases h
        · cases h
        · rename_i h7 h12 h13 h14; exact hv _ hc (fun e => h7 e) (fun h => h.elim h12 fun h => h.elim h13 h14) h
    | invoke r m => simp only [aopK, ho, hc] at h; cases h
    | builtin b =>
      cases b
      case len =>
        simp only [aopK, ho, hc] at h
        split at h
        · rename_i e1 e2; exact ⟨_, by simp only [aop, ho, hc, e1, e2]; rfl, h⟩
        · rename_i y e1 e2
          obtain ⟨v, h1, h2⟩ := bind_s h
          unfold lenS at h1
          split at h1
          · rename_i hv; injection h1 with h1; subst h1; exact ⟨_, by simp only [aop, ho, hc, e1, e2, hv]; rfl, h2⟩
          · cases h1
        · rename_i e y e1 e2
          obtain ⟨v, h1, h2⟩ := bind_s h
          unfold lenV at h1
          exact ⟨(v, H, []), by simp only [aop, ho, hc, e1, e2, h1]; rfl, h2⟩
        · rename_i e1 e2
          obtain ⟨v, h1, h2⟩ := bind_s h
          unfold lenW at h1
          exact ⟨(v, H, []), by simp only [aop, ho, hc, e1, e2, h1]; rfl, h2⟩
        · cases h
      case delete =>
        simp only [aopK, ho, hc] at h
        split at h
        · rename_i kt _ y k e1 e2
          obtain ⟨H', h1, h2⟩ := bind_s h
          split at h1
          · rename_i hk
            exact ⟨(.tup [], H', []), by simp only [aop, ho, hc, e1, e2]; rw [if_pos hk, h1]; rfl, h2⟩
          · cases h1
        · cases h
      case append =>
        simp only [aopK, ho, hc] at h
        split at h
        · rename_i y z t u e1 e2 e3
          split at h
          · rename_i e he
            split at h
            · rename_i s i z0 hs hi hz
              split at h
              · rename_i hcond
                split at h
                · obtain ⟨v, h1, h2⟩ := bind_s h
                  unfold appD at h1
                  obtain ⟨ys, h3, h4⟩ := bind_s h1
                  exact ⟨(v, H, []), by simp only [aop, ho, hc, e1, e2, e3, he, hs, hi, hz, Option.bind_some]; rw [if_pos hcond, h3, Option.bind_some, if_pos trivial, h4]; rfl, h2⟩
                · rename_i hn9
                  unfold appK at h
                  obtain ⟨r, h1, h2⟩ := bind_s h
                  exact ⟨r, by simp only [aop, ho, hc, e1, e2, e3, he, hs, hi, hz, Option.bind_some]; rw [if_pos hcond]; simp only [if_neg hn9]; exact h1, h2⟩
              · rename_i hcond
                split at h
                · rename_i hint
                  unfold zapK at h
                  obtain ⟨r, h1, h2⟩ := bind_s h
                  exact ⟨r, by simp only [aop, ho, hc, e1, e2, e3, he, hs, hi, hz, Option.bind_some]; rw [if_neg hcond, if_pos hint]; exact h1, h2⟩
                · cases h
            · cases h
          · cases h
        · cases h
      case cap =>
        simp only [aopK, ho, hc] at h
        split at h
        · rename_i y e e1 e2
          obtain ⟨v, h1, h2⟩ := bind_s h
          exact ⟨(v, H, []), by simp only [aop, ho, hc, e1, e2, h1]; rfl, h2⟩
        · cases h
      case min =>
        simp only [aopK, ho, hc] at h
        obtain ⟨v, h1, h2⟩ := bind_s h
        exact ⟨(v, H, []), by simp only [aop, ho, hc, h1]; rfl, h2⟩
      case max =>
        simp only [aopK, ho, hc] at h
        obtain ⟨v, h1, h2⟩ := bind_s h
        exact ⟨(v, H, []), by simp only [aop, ho, hc, h1]; rfl, h2⟩
      all_goals (simp only [aopK, ho, hc] at h; cases h)
  all_goals (simp only [aopK, ho] at h; cases h)
end
end Go.Pm
namespace Go.Pm
set_option linter.unusedVariables false
set_option linter.unusedSimpArgs false
def splitK {β : Type} (v : AV) (a b : Option β) : Option β := match v with
  | .bool true => a
  | .bool false => b
  | _ => none
def condK {β : Type} (v : AV) (a b : Option β) : Option β := match v with
  | .bool true => a
  | .bool false => b
  | _ => none
def condB {β : Type} (b : Bool) (x : Option β) : Option β := match b with
  | true => x
  | false => none
open Classical in
noncomputable def drawK {β : Type} (p : Prop) (x : Option β) : Option β := if p then x else none

def trmK {β : Type} (v : AV) (H : List AObj) (E : List Nat) (K : AV → List AObj → List Nat → Option β) : Option β := (trimA (v, H, E)).bind fun r => K r.1 r.2.1 r.2.2
def frcK {β : Type} (v : AV) (H : List AObj) (E : List Nat) (K : AV → List AObj → List Nat → Option β) : Option β := (frzC (v, H, E)).bind fun r => K r.1 r.2.1 r.2.2
def frzK {β : Type} (v : AV) (H : List AObj) (K : AV → List AObj → Option β) : Option β := (frz H v).bind fun v' => K v' (killAll H (kills v))
def cAt : Code → List Nat → Code
  | .seq a _, 0 :: p => cAt a p
  | .seq _ b, 1 :: p => cAt b p
  | .cond _ a _, 0 :: p => cAt a p
  | .cond _ _ b, 1 :: p => cAt b p
  | .block _ c, 0 :: p => cAt c p
  | .loop c, 0 :: p => cAt c p
  | c, _ => c
def bodyOf (f : Func) : Code := f.body.getD .skip
def opsOf1 (id : Nat) : Code → Option (Array Oper)
  | .region i ops _ => if i == id then some ops else none
  | .seq a b => (opsOf1 id a).or (opsOf1 id b)
  | .cond _ a b => (opsOf1 id a).or (opsOf1 id b)
  | .block _ c => opsOf1 id c
  | .loop c => opsOf1 id c
  | _ => none
def opsOf (f : Func) (id : Nat) : Array Oper := (opsOf1 id (bodyOf f)).getD #[]
def pat (n : Nat) : List (Nat × AV) → List AV
  | [] => List.replicate n .bad
  | (i, v) :: l => (pat n l).set i v
def clr (n : Nat) (live : List Nat) : List Nat := (List.range n).filter fun i => !live.contains i
section
variable {β : Type} (P : Program) (G : Nat → Option (List AV)) (env : Env) (h : Hint)
def aopK' (act : Nat) (o : Oper) (T : List AV) (H : List AObj) (K : AV → List AObj → List Nat → Option β) : Option β :=
  match act with
  | 3 => aopK P G env 0 o T H fun v H' E => frzK v H' fun v' H'' => K v' H'' E
  | 5 => aopK P G env 0 o T H fun v H' E => trmK v H' E K
  | 16 => aopK P G env 0 o T H fun v H' E => frcK v H' E K
  | act => aopK P G env act o T H K
def callD (g : FuncId) (args : List AV) (H : List AObj) : Option AV :=
  (frzL H args).bind fun as => if belL 0 as = true then (env g as []).bind fun r => if (r.2.1.isEmpty && r.2.2.isEmpty && (r.1.flat || (killsL args).isEmpty)) = true then some r.1 else none else none
def valD (f : AV) (args : List AV) (H : List AObj) : Option AV := match f with
  | .clo g fi ca => if okF P g = true then callD env g (fi ++ args ++ ca) H else none
  | _ => none
def litD (z n : Nat) (zero : AV) (ps : List (Nat × AV)) (H : List AObj) : Option AV :=
  if (killsL (ps.map (·.2))).isEmpty = true then (frzL H (ps.map (·.2))).bind fun vs => (frz H zero).bind fun zr =>
    (setS z H (List.replicate n zr) ((ps.map (·.1)).zip vs)).map fun es => .lst es else none
def aopD0 (o : Oper) (T : List AV) (H : List AObj) (K : AV → List AObj → List Nat → Option β) : Option β :=
  match o.op with
  | .call c => match c.callee with
    | .value (.func g) => if okF P g = true then (callD env g (c.args.toList.map (evA G T)) H).bind fun v => K v H [] else none
    | .value f => (valD P env (evA G T f) (c.args.toList.map (evA G T)) H).bind fun v => K v H []
    | _ => aopK P G env 0 o T H K
  | .buildSlice t n parts => match elemT P t with
    | some e => match tk P e, zeroT P e with
      | some s, some z =>
        if n * s.2 ≤ 16777216 ∧ z.cells.length = s.2 ∧ 0 < s.2 ∧ z.cells.all AV.one = true ∧ z.isBad = false then
          (litD s.2 n z (parts.toList.map fun p => (p.1, evA G T p.2)) H).bind fun v => K v H []
        else none
      | _, _ => none
    | none => none
  | _ => aopK P G env 0 o T H K

def aopD (act : Nat) (o : Oper) (T : List AV) (H : List AObj) (K : AV → List AObj → List Nat → Option β) : Option β := match act with
  | 8 => aopK P G env 8 o T H K
  | 9 => aopK P G env 9 o T H K
  | 12 => aopK P G env 12 o T H K
  | 13 => aopK P G env 13 o T H K
  | 14 => aopK P G env 14 o T H K
  | _ => aopD0 P G env o T H K
/-- does a guard look at operation i -/
def isG (ops : Array Oper) (i : Nat) : Bool := ops.toList.any fun o => match o.guard with | some (j, _) => j == i | none => false
def gK (g : Bool) (v : AV) (f : AV → Option β) : Option β := match g with
  | true => splitK v (f (.bool true)) (f (.bool false))
  | false => f v
/-- what is to be done: 0 nothing, 1 the operation -/
def wantK (ops : Array Oper) (T : List AV) (o : Oper) : Nat := match o.guard with
  | none => 1
  | some (j, want) => match (ops[j]?).bind (·.dst) with
    | none => 0
    | some d => match T[d]? with
      | some (.bool b) => match (b == want) with
        | true => 1
        | false => 0
      | some (.tup _) => 0
      | none => 0
      | _ => 2
/-- the operations of a region; dr: in any order -/
def opsK (dr : Bool) (id : Nat) (ops : Array Oper) : List Oper → Nat → St → (St → Option β) → Option β
  | [], _, s, K => K s
  | o :: os, i, s, K =>
    match wantK ops s.T o with
    | 0 => opsK dr id ops os (i + 1) ⟨putA s.T o.dst (.tup []), s.H, s.E⟩ K
    | 1 => match dr with
      | true => match isEv h id i o with
        | true => aopK' P G env (actOf h id i) o s.T s.H fun v H E => gK (isG ops i) v fun v => opsK dr id ops os (i + 1) ⟨putA s.T o.dst v, H, E ++ s.E⟩ K
        | false => aopD P G env (actOf h id i) o s.T s.H fun v H E => gK (isG ops i) v fun v => opsK dr id ops os (i + 1) ⟨putA s.T o.dst v, H, E ++ s.E⟩ K
      | false => aopK' P G env (actOf h id i) o s.T s.H fun v H E => gK (isG ops i) v fun v => opsK dr id ops os (i + 1) ⟨putA s.T o.dst v, H, E ++ s.E⟩ K
    | _ => none
/-- each of these has the same value at heap H too -/
noncomputable def againK (id : Nat) (H : List AObj) (k : Option β) : List (Nat × Oper × List AV × AV) → Option β
  | [] => k
  | p :: rest => drawK ((aopD P G env (actOf h id p.1) p.2.1 p.2.2.1 H fun v _ _ => some v) = some p.2.2.2) (againK id H k rest)
/-- it has the same value at these heaps too -/
noncomputable def beforeK (act : Nat) (o : Oper) (T : List AV) (v : AV) (k : Option β) : List (Nat × List AObj) → Option β
  | [] => k
  | p :: rest => drawK ((aopD P G env act o T p.2 fun v _ _ => some v) = some v) (beforeK act o T v k rest)
/-- the operations of a region in any order, with what is to be shown of the readings -/
noncomputable def opsR (id : Nat) (ops : Array Oper) (A : List (List Nat)) : List Oper → Nat → St → List (Nat × List AObj) → List (Nat × Oper × List AV × AV) → (St → Option β) → Option β
  | [], _, s, _, _, K => K s
  | o :: os, i, s, hs, pe, K =>
    match isEv h id i o with
    | true => match wantK ops s.T o with
      | 0 => againK P G env h id s.H (opsR id ops A os (i + 1) ⟨putA s.T o.dst (.tup []), s.H, s.E⟩ (hs ++ [(i, s.H)]) pe K) (pe.filter fun p => !(A.getD i []).contains p.1)
      | 1 => aopK' P G env (actOf h id i) o s.T s.H fun v H E => gK (isG ops i) v fun v =>
        againK P G env h id H (opsR id ops A os (i + 1) ⟨putA s.T o.dst v, H, E ++ s.E⟩ (hs ++ [(i, s.H)]) pe K) (pe.filter fun p => !(A.getD i []).contains p.1)
      | _ => none
    | false => match wantK ops s.T o with
      | 0 => opsR id ops A os (i + 1) ⟨putA s.T o.dst (.tup []), s.H, s.E⟩ hs pe K
      | 1 => aopD P G env (actOf h id i) o s.T s.H fun v H E => gK (isG ops i) v fun v => match noH o with
        | true => opsR id ops A os (i + 1) ⟨putA s.T o.dst v, H, E ++ s.E⟩ hs pe K
        | false => beforeK P G env (actOf h id i) o s.T v (opsR id ops A os (i + 1) ⟨putA s.T o.dst v, H, E ++ s.E⟩ hs (pe ++ [(i, o, s.T, v)]) K) (hs.filter fun p => !(A.getD i []).contains p.1)
      | _ => none
def drawF (id : Nat) (ops : Array Oper) : Bool := P.follows .mixedOrders && drawS h id ops && (drawQ h id ops).all fun p => p.1 == p.2
def seqK (run : St → Option β) (K : Out → Option β) : Out → Option β
  | .nrm s => run s
  | o => K o
def blkK (id : Nat) (K : Out → Option β) : Out → Option β
  | .nrm s => K (.nrm (blkA h id s))
  | .ext i s => match i == id with
    | true => K (.nrm (blkA h id s))
    | false => K (.ext i s)
  | o => K o
def rndK (k : Nat) (H0 : List AObj) (E0 : List Nat) (K : Out → Option β) : Out → Option β
  | .nrm s => match look h.loops k with
    | some ts => match h.open_.contains k with
      | true => K (.nrm ⟨clearA s.T ts, s.H, s.E ++ E0⟩)
      | false => condB ((s.E.all fun e => decide (H0.length ≤ e)) && belL H0.length (clearA s.T ts)) (K (.nrm ⟨clearA s.T ts, s.H.take H0.length, E0⟩))
    | none => K (.nrm ⟨s.T, s.H, s.E ++ E0⟩)
  | .ret r H E => K (.ret r H (E ++ E0))
  | .ext i s => K (.ext i ⟨s.T, s.H, s.E ++ E0⟩)
noncomputable def loopK (fn : Func) (c : Code) (K : Out → Option β) (s : St) : Option β :=
  (loopL (fun s => (runC P G env h fn c ⟨s.T, s.H, []⟩).bind (roundA h (firstReg c) s)) s).bind K
def resK (s : St) : List ResultVar → List AV → (List AV → Option β) → Option β
  | [], vs, K => K vs
  | .tmp t :: rs, vs, K => resK s rs (vs ++ [s.T.getD t (.tup [])]) K
  | .cell a t :: rs, vs, K => match tk P t with
    | some z => (loadA z.1 z.2 (s.T.getD a (.tup [])) s.H).bind fun v => resK s rs (vs ++ [v]) K
    | none => none
def oneR : List AV → AV
  | [v] => v
  | vs => .tup vs
def setB (T : List AV) (c : Operand) (b : Bool) : List AV := match c with
  | .tmp t => T.set t (.bool b)
  | _ => T
noncomputable def runK (fn : Func) : Code → St → (Out → Option β) → Option β
  | .skip, s, K => K (.nrm s)
  | .label _, s, K => K (.nrm s)
  | .region id ops draw, s, K => match draw with
    | true => match subL h id with
      | [] => match h.swaps.any (fun x => x.1 == id), drawF P h id ops with
        | true, _ => drawK (SwapOk P G env h id ops s) (opsK P G env h false id ops ops.toList 0 s fun s' => K (.nrm s'))
        | false, true => opsK P G env h true id ops ops.toList 0 s fun s' => K (.nrm s')
        | false, false => match P.follows .mixedOrders && drawS h id ops with
          | true => opsR P G env h id ops (ancL ops ops.size) ops.toList 0 s [] [] fun s' => K (.nrm s')
          | false => none
      | l => match subB P h id ops s.T.length l, P.follows .mixedOrders && drawS h id (subA ops l) with
        | true, true => opsR P G env h id (subA ops l) (ancL (subA ops l) (subA ops l).size) (subA ops l).toList 0 s [] [] fun s' => K (.nrm s')
        | _, _ => none
    | false => opsK P G env h false id ops ops.toList 0 s fun s' => K (.nrm s')
  | .seq a b, s, K => runK fn a s (seqK (fun s' => runK fn b (blkA h (seqId b) s') K) K)
  | .cond c a b, s, K => condK (evA G s.T c) (runK fn a ⟨setB s.T c true, s.H, s.E⟩ K) (runK fn b ⟨setB s.T c false, s.H, s.E⟩ K)
  | .block id c, s, K => runK fn c s (blkK h id K)
  | .loop c, s, K => loopK P G env h fn c K ⟨clearA s.T ((look h.loops (firstReg c)).getD []), s.H, s.E⟩
  | .exit id, s, K => K (.ext id s)
  | .ret, s, K => resK P s fn.results.toList [] fun vs => K (.ret (oneR vs) s.H s.E)
  | _, _, _ => none
/-- where it goes on behind a part of the text -/
noncomputable def kAt (fn : Func) : Code → List Nat → List (List AObj × List Nat) → (Out → Option β) → (Out → Option β)
  | .seq a b, 0 :: p, cx, K => kAt fn a p cx (seqK (fun s' => runK P G env h fn b (blkA h (seqId b) s') K) K)
  | .seq _ b, 1 :: p, cx, K => kAt fn b p cx K
  | .cond _ a _, 0 :: p, cx, K => kAt fn a p cx K
  | .cond _ _ b, 1 :: p, cx, K => kAt fn b p cx K
  | .block id c, 0 :: p, cx, K => kAt fn c p cx (blkK h id K)
  | .loop c, 0 :: p, (H0, E0) :: cx, K => kAt fn c p cx (rndK h (firstReg c) H0 E0 (seqK (fun s' => loopK P G env h fn c K s') K))
  | _, _, _, K => K
/-- the end of a call -/
def endB (raw keep : Bool) (n : Nat) (r : AV) (H : List AObj) (E : List Nat) : Option R3 := endA { raw := raw, keep := keep } n r H E
def endK (fn : Func) (n : Nat) : Out → Option R3
  | .nrm s => resK P s fn.results.toList [] fun vs => endB h.raw h.keep n (oneR vs) s.H s.E
  | .ret r H E => endB h.raw h.keep n r H E
  | .ext _ _ => none
noncomputable def fnK (fn : Func) (args : List AV) (H : List AObj) : Option R3 :=
  match fn.body with
  | some c => runK P G env h fn c ⟨args ++ List.replicate (fn.ntmps - args.length) (.tup []), H, []⟩ (endK P h fn H.length)
  | none => none
end
section
variable {β : Type} {P : Program} {G : Nat → Option (List AV)} {env : Env} {h : Hint}
theorem frzK_some {v : AV} {H : List AObj} {K : AV → List AObj → Option β} {x : β} (hh : frzK v H K = some x) : ∃ v', frz H v = some v' ∧ K v' (killAll H (kills v)) = some x := bind_s hh
theorem aopK'_some {act : Nat} {o : Oper} {T : List AV} {H : List AObj} {K : AV → List AObj → List Nat → Option β} {x : β} (hh : aopK' P G env act o T H K = some x) :
    ∃ r, aop' P G env act o T H = some r ∧ K r.1 r.2.1 r.2.2 = some x := by
  unfold aopK' at hh
  split at hh
  · obtain ⟨r, h1, h2⟩ := aopK_some hh
    obtain ⟨v', h3, h4⟩ := frzK_some h2
    exact ⟨(v', killAll r.2.1 (kills r.1), r.2.2), by simp only [aop', if_true, h1, Option.bind_some, h3, Option.map_some], h4⟩
  · obtain ⟨r, h1, h2⟩ := aopK_some hh
    obtain ⟨r', h3, h4⟩ := bind_s h2
    exact ⟨r', by unfold aop'; rw [if_neg (by decide), if_pos rfl, h1]; exact h3, h4⟩
  · obtain ⟨r, h1, h2⟩ := aopK_some hh
    obtain ⟨r', h3, h4⟩ := bind_s h2
    exact ⟨r', by unfold aop'; rw [if_neg (by decide), if_neg (by decide), if_pos rfl, h1]; exact h3, h4⟩
  · rename_i hne hne2 hne3
    obtain ⟨r, h1, h2⟩ := aopK_some hh
    exact ⟨r, by unfold aop'; rw [if_neg hne, if_neg hne2, if_neg hne3]; exact h1, h2⟩
theorem callD_some {g : FuncId} {args : List AV} {H : List AObj} {v : AV} (hh : callD env g args H = some v) : callA env false g args H = some (v, H, []) := by
  unfold callD at hh
  obtain ⟨as, h1, h2⟩ := bind_s hh
  split at h2
  · rename_i hb
    obtain ⟨r, h3, h4⟩ := bind_s h2
    split at h4
    · rename_i he
      injection h4 with h4; subst h4
      simp only [Bool.and_eq_true, Bool.or_eq_true] at he
      unfold callA
      simp only [Bool.false_eq_true, if_false, h1, Option.bind_some, hb, if_true, h3, he.1.1, he.1.2, Bool.and_self]
      rcases he.2 with hf | hk
      · rw [if_pos hf]
      · have hk' : killsL args = [] := by simpa using hk
        rw [hk']; simp [killAll]
    · cases h4
  · cases h2
theorem act9_same {o : Oper} {T : List AV} {H : List AObj} {r : R3} (ho9 : (∃ t n ps, o.op = .buildSlice t n ps) ∨ ∃ c, o.op = .call c ∧ c.callee = .builtin .append) (h1 : aop P G env 9 o T H = some r) : r.2 = (H, []) := by
  rcases ho9 with ⟨t, n, ps, ho⟩ | ⟨c, ho, hc⟩
  · simp only [aop, ho, Option.bind_eq_some_iff] at h1
    obtain ⟨e, he, s, hs, z, hz, h1⟩ := h1
    split at h1
    · rw [if_neg (by decide), if_pos trivial] at h1
      split at h1
      · injection h1 with h1; rw [← h1]
      · cases h1
    · cases h1
  · simp only [aop, ho, hc] at h1
    split at h1
    · simp only [Option.bind_eq_some_iff] at h1
      obtain ⟨e, he, s, hs, i, hi, z0, hz0, h1⟩ := h1
      split at h1
      · simp only [Option.bind_eq_some_iff, if_true] at h1
        obtain ⟨ys, hys, h1⟩ := h1
        exact (same_noH H h1).1
      · rw [if_neg (fun h => h.2 rfl)] at h1; cases h1
    · cases h1
theorem callX_same {act : Nat} {o : Oper} {T : List AV} {H : List AObj} {r : R3} {c : Call} {f : Operand} (ha : act = 12 ∨ act = 13 ∨ act = 14) (ho : o.op = .call c) (hc : c.callee = .value f) (h1 : aop P G env act o T H = some r) : r.2 = (H, []) := by
  simp only [aop, ho, hc] at h1
  split at h1
  · split at h1
    · unfold callX at h1
      split at h1
      · unfold callE at h1
        split at h1
        · obtain ⟨as, _, h2⟩ := Option.bind_eq_some_iff.1 h1
          split at h2
          · obtain ⟨r0, _, h3⟩ := Option.bind_eq_some_iff.1 h2
            split at h3
            · injection h3 with h3; rw [← h3]
            · cases h3
          · cases h2
        · obtain ⟨as, _, h2⟩ := Option.bind_eq_some_iff.1 h1
          split at h2
          · obtain ⟨r0, _, h3⟩ := Option.bind_eq_some_iff.1 h2
            split at h3
            · injection h3 with h3; rw [← h3]
            · cases h3
          · cases h2
      · split at h1
        · unfold callL at h1
          obtain ⟨as, _, h2⟩ := Option.bind_eq_some_iff.1 h1
          split at h2
          · obtain ⟨r0, _, h3⟩ := Option.bind_eq_some_iff.1 h2
            split at h3
            · injection h3 with h3; rw [← h3]
            · cases h3
          · cases h2
        · cases h1
    · cases h1
  · cases h1
/-- an operation that reads -/
theorem aopD_some {o : Oper} {T : List AV} {H : List AObj} {K : AV → List AObj → List Nat → Option β} {x : β} {id i : Nat} (hev : isEv h id i o = false) (hh : aopD P G env (actOf h id i) o T H K = some x) :
    ∃ v, aop' P G env (actOf h id i) o T H = some (v, H, []) ∧ K v H [] = some x := by
  rcases ev_act hev with h0 | ⟨h8, t8, ho8⟩ | ⟨h9, ho9⟩ | ⟨h12, c12, f12, ho12, hc12⟩
  case inr.inr.inr =>
    have key : ∀ act, (act = 12 ∨ act = 13 ∨ act = 14) → aopK P G env act o T H K = some x → ∃ v, aop' P G env act o T H = some (v, H, []) ∧ K v H [] = some x := fun act ha hh => by
      obtain ⟨r, h1, h2⟩ := aopK_some hh
      have : r.2 = (H, []) := callX_same ha ho12 hc12 h1
      obtain ⟨v, H', E'⟩ := r
      simp only [Prod.mk.injEq] at this
      obtain ⟨rfl, rfl⟩ := this
      exact ⟨v, by unfold aop'; rw [if_neg (by omega), if_neg (by omega), if_neg (by omega)]; exact h1, h2⟩
    rcases h12 with h12 | h12 | h12
    · rw [h12] at hh ⊢; exact key 12 (.inl rfl) hh
    · rw [h12] at hh ⊢; exact key 13 (.inr (.inl rfl)) hh
    · rw [h12] at hh ⊢; exact key 14 (.inr (.inr rfl)) hh
  case inr.inr.inl =>
    rw [h9] at hh ⊢
    obtain ⟨r, h1, h2⟩ := aopK_some (P := P) (G := G) (env := env) (act := 9) (show aopK P G env 9 o T H K = some x from hh)
    have : r.2 = (H, []) := act9_same ho9 h1
    obtain ⟨v, H', E'⟩ := r
    simp only [Prod.mk.injEq] at this
    obtain ⟨rfl, rfl⟩ := this
    exact ⟨v, by unfold aop'; rw [if_neg (by decide), if_neg (by decide), if_neg (by decide)]; exact h1, h2⟩
  case inr.inl =>
    rw [h8] at hh ⊢
    obtain ⟨r, h1, h2⟩ := aopK_some (P := P) (G := G) (env := env) (act := 8) (show aopK P G env 8 o T H K = some x from hh)
    have : r.2 = (H, []) := by
      simp only [aop, ho8, if_true, Option.bind_eq_some_iff] at h1
      obtain ⟨z, _, h1⟩ := h1
      split at h1
      · injection h1 with h1; rw [← h1]
      · cases h1
    obtain ⟨v, H', E'⟩ := r
    simp only [Prod.mk.injEq] at this
    obtain ⟨rfl, rfl⟩ := this
    exact ⟨v, by unfold aop'; rw [if_neg (by decide), if_neg (by decide), if_neg (by decide)]; exact h1, h2⟩
  rw [h0] at hh ⊢
  replace hh : aopD0 P G env o T H K = some x := hh
  have hsame : ∀ {v : Option AV} {r : R3}, same H v = some r → r.2 = (H, []) := fun {v r} e => (same_noH H e).1
  have hgo : (∀ r, aop P G env 0 o T H = some r → r.2 = (H, [])) → aopK P G env 0 o T H K = some x → ∃ v, aop' P G env 0 o T H = some (v, H, []) ∧ K v H [] = some x := fun hs hk => by
    obtain ⟨r, h1, h2⟩ := aopK_some hk
    have := hs r h1
    obtain ⟨v, H', E'⟩ := r
    simp only [Prod.mk.injEq] at this
    obtain ⟨rfl, rfl⟩ := this
    exact ⟨v, by unfold aop'; rw [if_neg (by decide), if_neg (by decide), if_neg (by decide)]; exact h1, h2⟩
  cases hn : noH o with
  | true =>
    have hk : aopK P G env 0 o T H K = some x := by
      unfold aopD0 at hh
      split at hh
      · rename_i c ho
        split at hh
        · rename_i g hc; simp [noH, ho, hc] at hn
        · rename_i f _ hc; simp [noH, ho, hc] at hn
        · exact hh
      · rename_i ho; simp [noH, ho] at hn
      · exact hh
    exact hgo (fun r hr => (noH_ok H hn hr).1) hk
  | false =>
    cases ho : o.op
    case buildSlice t n ps =>
      simp only [aopD0, ho] at hh
      split at hh
      · rename_i e he
        split at hh
        · rename_i s z hs hz
          split at hh
          · rename_i hc
            obtain ⟨v, h1, h2⟩ := bind_s hh
            unfold litD at h1
            split at h1
            · rename_i hk
              have hk' : killsL ((ps.toList.map fun p => (p.1, evA G T p.2)).map (·.2)) = [] := by simpa using hk
              obtain ⟨vs, h3, h4⟩ := bind_s h1
              obtain ⟨zr, h5, h6⟩ := bind_s h4
              simp only [Option.map_eq_some_iff] at h6
              obtain ⟨es, h7, rfl⟩ := h6
              simp only [List.map_map, Function.comp_def] at h3 h7 hk'
              refine ⟨_, ?_, h2⟩
              unfold aop'
              rw [if_neg (by decide), if_neg (by decide), if_neg (by decide)]
              simp only [aop, ho, he, hs, hz, Option.bind_some]
              rw [if_pos hc, if_neg (by decide), if_neg (by decide), h3]
              simp only [Option.bind_some, h5, h7, Option.map_some, hk', killAll]
            · cases h1
          · cases hh
        · cases hh
      · cases hh
    case call c =>
      cases hc : c.callee with
      | value f =>
        have hv : ∀ f, c.callee = .value f → ((valD P env (evA G T f) (c.args.toList.map (evA G T)) H).bind fun v => K v H []) = some x → ∃ v, aop' P G env 0 o T H = some (v, H, []) ∧ K v H [] = some x := fun f hc hk => by
          obtain ⟨v, h1, h2⟩ := bind_s hk
          unfold valD at h1
          split at h1
          · rename_i g fi ca hf
            split at h1
            · rename_i hok
              refine ⟨v, ?_, h2⟩
              unfold aop'
              rw [if_neg (by decide), if_neg (by decide), if_neg (by decide)]
              simp only [aop, ho, hc, hf]
              rw [if_pos hok, if_neg (by decide)]
              exact callD_some h1
            · cases h1
          · cases h1
        cases f with
        | func g =>
          simp only [aopD0, ho, hc] at hh
          split at hh
          · rename_i hok
            refine hv _ hc ?_
            simp only [evA, valD]
            rw [if_pos hok]
            simpa using hh
          · cases hh
        | _ => simp only [aopD0, ho, hc] at hh; exact hv _ hc hh
      | invoke r m => simp only [aopD0, ho, hc] at hh; simp only [aopK, ho, hc] at hh; cases hh
      | builtin b =>
        simp only [aopD0, ho, hc] at hh
        refine hgo (fun r hr => ?_) hh
        cases b
        case len =>
          simp only [aop, ho, hc] at hr
          split at hr
          · exact hsame hr
          · split at hr
            · exact hsame hr
            · cases hr
          · exact hsame hr
          · exact hsame hr
          · cases hr
        case delete => simp [isEv, ho, hc, h0] at hev
        case append => simp [isEv, ho, hc, h0] at hev
        case cap =>
          simp only [aop, ho, hc] at hr
          split at hr
          · exact hsame hr
          · cases hr
        case min => simp [noH, ho, hc] at hn
        case max => simp [noH, ho, hc] at hn
        all_goals (simp only [aop, ho, hc] at hr; cases hr)
    case lookup t y k ok =>
      simp only [aopD0, ho] at hh
      refine hgo (fun r hr => ?_) hh
      simp only [aop, ho] at hr
      split at hr
      · split at hr
        · obtain ⟨z, _, h2⟩ := bind_s hr
          exact hsame h2
        · cases hr
      · cases hr
    case makeMap t r => simp [isEv, ho, h0] at hev
    case mapUpdate t y k v => simp [isEv, ho, h0] at hev
    case load t a =>
      simp only [aopD0, ho] at hh
      refine hgo (fun r hr => ?_) hh
      simp only [aop, ho] at hr
      obtain ⟨s, _, h2⟩ := bind_s hr
      exact hsame h2
    case indexAddr t y ix =>
      simp only [aopD0, ho] at hh
      refine hgo (fun r hr => ?_) hh
      simp only [aop, ho] at hr
      split at hr
      · obtain ⟨s, _, h2⟩ := bind_s hr
        exact hsame h2
      · obtain ⟨s, _, h2⟩ := bind_s hr
        split at h2
        · exact hsame h2
        · cases h2
      · cases hr
    case slice t y lo hi mx =>
      simp only [aopD0, ho] at hh
      refine hgo (fun r hr => ?_) hh
      simp only [aop, ho] at hr
      split at hr
      · obtain ⟨s, _, h2⟩ := bind_s hr
        exact hsame h2
      · split at hr
        · cases hr
        · exact hsame hr
      · cases hr
    case convert a b y =>
      simp only [aopD0, ho] at hh
      refine hgo (fun r hr => ?_) hh
      simp only [aop, ho] at hr
      split at hr
      · exact hsame hr
      · exact hsame hr
      · split at hr
        · exact hsame hr
        · cases hr
      · cases hr
      · split at hr
        · exact hsame hr
        · cases hr
      · split at hr
        · exact hsame hr
        · cases hr
      · cases hr
    case alloc t => simp [isEv, ho, h0] at hev
    case box t y => simp [isEv, ho, h0] at hev
    case store t a v => simp [isEv, ho, h0] at hev
    case makeSlice t a v => simp [isEv, ho, h0] at hev
    all_goals first
      | (simp [noH, ho] at hn; done)
      | (simp only [aopD0, ho] at hh; simp only [aopK, ho] at hh; cases hh)
end
end Go.Pm
namespace Go.Pm
set_option linter.unusedVariables false
set_option linter.unusedSimpArgs false
section
variable {β : Type} {P : Program} {G : Nat → Option (List AV)} {env : Env} {h : Hint}
theorem gK_some {g : Bool} {v : AV} {f : AV → Option β} {x : β} (hh : gK g v f = some x) : f v = some x := by
  unfold gK at hh
  split at hh
  · unfold splitK at hh
    split at hh
    · exact hh
    · exact hh
    · cases hh
  · exact hh
theorem set_self {T : List AV} {d : Nat} {v : AV} (hd : T[d]? = some v) : T.set d v = T := by
  obtain ⟨h1, rfl⟩ := List.getElem?_eq_some_iff.1 hd
  exact List.set_getElem_self h1

def Told' (P : Program) (G : Nat → Option (List AV)) (env : Env) (h : Hint) (id : Nat) (ops : Array Oper) (rest : List Oper) (i : Nat) (s : St) : Prop :=
  ∀ (k : Nat) (o : Oper), rest[k]? = some o → isEv h id (i + k) o = false → ∃ (sj : St) (r : AV), opsA P G env h id ops (rest.take k) i s = some sj ∧ valA P G env h id ops (i + k) o sj.T sj.H = some (r, sj.H, [])

theorem told_cons {id : Nat} {ops : Array Oper} {o : Oper} {os : List Oper} {i : Nat} {s s1 : St} (h1 : opA P G env h id ops i o s = some s1)
    (h2 : isEv h id i o = false → ∃ r : AV, valA P G env h id ops i o s.T s.H = some (r, s.H, [])) (h3 : Told' P G env h id ops os (i + 1) s1) : Told' P G env h id ops (o :: os) i s := fun k o' ho hev => by
  cases k with
  | zero =>
    simp only [List.getElem?_cons_zero, Option.some.injEq] at ho
    subst ho
    obtain ⟨r, hr⟩ := h2 hev
    exact ⟨s, r, rfl, hr⟩
  | succ k =>
    simp only [List.getElem?_cons_succ] at ho
    rw [show i + (k + 1) = i + 1 + k by omega] at hev ⊢
    obtain ⟨sj, r, k1, k2⟩ := h3 k o' ho hev
    exact ⟨sj, r, by simp only [List.take, opsA, h1, Option.bind_some]; exact k1, k2⟩

theorem opsK_some {dr : Bool} {id : Nat} {ops : Array Oper} {x : β} : ∀ (rest : List Oper) (i : Nat) (s : St) (K : St → Option β), opsK P G env h dr id ops rest i s K = some x →
    ∃ s', opsA P G env h id ops rest i s = some s' ∧ K s' = some x ∧ (dr = true → Told' P G env h id ops rest i s)
  | [], i, s, K, hh => ⟨s, rfl, hh, fun _ k o ho => by simp at ho⟩
  | o :: os, i, s, K, hh => by
    -- an operation that is done
    have run : wantA ops s.T o = some true → (∃ v H' E', aop' P G env (actOf h id i) o s.T s.H = some (v, H', E') ∧ (dr = true → isEv h id i o = false → H' = s.H ∧ E' = []) ∧ opsK P G env h dr id ops os (i + 1) ⟨putA s.T o.dst v, H', E' ++ s.E⟩ K = some x) →
        ∃ s', opsA P G env h id ops (o :: os) i s = some s' ∧ K s' = some x ∧ (dr = true → Told' P G env h id ops (o :: os) i s) := fun hw hk => by
      obtain ⟨v, H', E', h1, h2, h3⟩ := hk
      have ho : opA P G env h id ops i o s = some ⟨putA s.T o.dst v, H', E' ++ s.E⟩ := by unfold opA; rw [hw]; simp only [h1, Option.map_some]
      obtain ⟨s', k1, k2, k3⟩ := opsK_some os (i + 1) _ K h3
      refine ⟨s', by simp only [opsA, ho, Option.bind_some]; exact k1, k2, fun hdr => told_cons ho (fun hev => ⟨v, ?_⟩) (k3 hdr)⟩
      obtain ⟨rfl, rfl⟩ := h2 hdr hev
      unfold valA; rw [hw]; exact h1
    have skip : wantA ops s.T o = some false → opsK P G env h dr id ops os (i + 1) ⟨putA s.T o.dst (.tup []), s.H, s.E⟩ K = some x →
        ∃ s', opsA P G env h id ops (o :: os) i s = some s' ∧ K s' = some x ∧ (dr = true → Told' P G env h id ops (o :: os) i s) := fun hw h3 => by
      have ho : opA P G env h id ops i o s = some ⟨putA s.T o.dst (.tup []), s.H, s.E⟩ := by unfold opA; rw [hw]
      obtain ⟨s', k1, k2, k3⟩ := opsK_some os (i + 1) _ K h3
      refine ⟨s', by simp only [opsA, ho, Option.bind_some]; exact k1, k2, fun hdr => told_cons ho (fun hev => ⟨.tup [], ?_⟩) (k3 hdr)⟩
      unfold valA; rw [hw]
    have evd : isEv h id i o = true ∨ dr = false → (aopK' P G env (actOf h id i) o s.T s.H fun v H E => gK (isG ops i) v fun v => opsK P G env h dr id ops os (i + 1) ⟨putA s.T o.dst v, H, E ++ s.E⟩ K) = some x →
        ∃ v H' E', aop' P G env (actOf h id i) o s.T s.H = some (v, H', E') ∧ (dr = true → isEv h id i o = false → H' = s.H ∧ E' = []) ∧ opsK P G env h dr id ops os (i + 1) ⟨putA s.T o.dst v, H', E' ++ s.E⟩ K = some x := fun he hk => by
      obtain ⟨⟨v, H', E'⟩, h1, h2⟩ := aopK'_some hk
      refine ⟨v, H', E', h1, fun hdr hev => ?_, gK_some h2⟩
      rcases he with he | he
      · rw [he] at hev; cases hev
      · rw [he] at hdr; cases hdr
    have rdd : isEv h id i o = false → (aopD P G env (actOf h id i) o s.T s.H fun v H E => gK (isG ops i) v fun v => opsK P G env h dr id ops os (i + 1) ⟨putA s.T o.dst v, H, E ++ s.E⟩ K) = some x →
        ∃ v H' E', aop' P G env (actOf h id i) o s.T s.H = some (v, H', E') ∧ (dr = true → isEv h id i o = false → H' = s.H ∧ E' = []) ∧ opsK P G env h dr id ops os (i + 1) ⟨putA s.T o.dst v, H', E' ++ s.E⟩ K = some x := fun he hk => by
      obtain ⟨v, h1, h2⟩ := aopD_some he hk
      exact ⟨v, s.H, [], h1, fun _ _ => ⟨rfl, rfl⟩, gK_some h2⟩
    rw [opsK.eq_def] at hh
    simp only at hh
    have hwant : (wantK ops s.T o = 0 → wantA ops s.T o = some false) ∧ (wantK ops s.T o = 1 → wantA ops s.T o = some true) := by
      unfold wantK wantA
      cases hg : o.guard with
      | none => simp
      | some g =>
        obtain ⟨j, want⟩ := g
        simp only
        cases hd : (ops[j]?).bind (·.dst) with
        | none => simp
        | some d =>
          simp only
          cases hT : s.T[d]? with
          | none => simp
          | some v =>
            cases v <;> simp
            rename_i b
            cases b <;> cases want <;> simp
    split at hh
    · rename_i hw; exact skip (hwant.1 hw) hh
    · rename_i hw
      refine run (hwant.2 hw) ?_
      rcases Bool.eq_false_or_eq_true dr with hdr | hdr
      · rw [hdr] at hh
        rcases Bool.eq_false_or_eq_true (isEv h id i o) with he | he
        · rw [he] at hh; exact evd (.inl he) (by rw [hdr]; exact hh)
        · rw [he] at hh; exact rdd he (by rw [hdr]; exact hh)
      · rw [hdr] at hh; exact evd (.inr hdr) (by rw [hdr]; exact hh)
    · cases hh

theorem drawF_ok {id : Nat} {ops : Array Oper} {s : St} (hf : drawF P h id ops = true) (ht : Told' P G env h id ops ops.toList 0 s) : DrawOk1 P G env h id ops s := by
  unfold drawF at hf
  simp only [Bool.and_eq_true, List.all_eq_true, beq_iff_eq] at hf
  obtain ⟨⟨h1, h2⟩, h3⟩ := hf
  refine ⟨h1, h2, fun p hp => ?_⟩
  have e := h3 p hp
  have hev : ∃ o, ops[p.1]? = some o ∧ isEv h id p.1 o = false := by
    unfold drawQ at hp
    simp only [List.mem_flatMap, List.mem_range] at hp
    obtain ⟨i, hi, hp⟩ := hp
    cases ho : ops[i]? with
    | none => rw [ho] at hp; simp at hp
    | some o =>
      rw [ho] at hp
      simp only at hp
      split at hp
      · simp at hp
      · rename_i hn
        simp only [Bool.or_eq_true, not_or, Bool.not_eq_true] at hn
        have : p.1 = i := by
          simp only [List.mem_cons, List.mem_filterMap] at hp
          rcases hp with rfl | ⟨e', _, hp⟩
          · rfl
          · split at hp
            · split at hp
              · cases hp
              · injection hp with hp; rw [← hp]
            · split at hp
              · cases hp
              · injection hp with hp; rw [← hp]
        exact ⟨o, by rw [this]; exact ho, by rw [this]; exact hn.1⟩
  obtain ⟨o, ho, hev⟩ := hev
  obtain ⟨sj, r, k1, k2⟩ := ht p.1 o (by simpa using ho) (by simpa using hev)
  simp only [Nat.zero_add] at k2
  exact ⟨o, sj, sj, r, ho, k1, by rw [← e]; exact k1, k2, k2⟩

theorem drawK_some {p : Prop} {v : Option β} {x : β} (hh : drawK p v = some x) : p ∧ v = some x := by
  unfold drawK at hh
  split at hh
  · exact ⟨by assumption, hh⟩
  · cases hh
theorem againK_some {id : Nat} {H : List AObj} {k : Option β} {x : β} : ∀ {l : List (Nat × Oper × List AV × AV)}, againK P G env h id H k l = some x → k = some x ∧ ∀ p ∈ l, (aopD P G env (actOf h id p.1) p.2.1 p.2.2.1 H fun v _ _ => some v) = some p.2.2.2
  | [], hh => ⟨hh, fun p hp => by simp at hp⟩
  | p :: rest, hh => by
    obtain ⟨h1, h2⟩ := drawK_some hh
    obtain ⟨k1, k2⟩ := againK_some h2
    exact ⟨k1, fun q hq => by rcases List.mem_cons.1 hq with rfl | hq
                              · exact h1
                              · exact k2 q hq⟩
theorem beforeK_some {act : Nat} {o : Oper} {T : List AV} {v : AV} {k : Option β} {x : β} : ∀ {l : List (Nat × List AObj)}, beforeK P G env act o T v k l = some x → k = some x ∧ ∀ p ∈ l, (aopD P G env act o T p.2 fun v _ _ => some v) = some v
  | [], hh => ⟨hh, fun p hp => by simp at hp⟩
  | p :: rest, hh => by
    obtain ⟨h1, h2⟩ := drawK_some hh
    obtain ⟨k1, k2⟩ := beforeK_some h2
    exact ⟨k1, fun q hq => by rcases List.mem_cons.1 hq with rfl | hq
                              · exact h1
                              · exact k2 q hq⟩
theorem want_eq (ops : Array Oper) (T : List AV) (o : Oper) : (wantK ops T o = 0 → wantA ops T o = some false) ∧ (wantK ops T o = 1 → wantA ops T o = some true) := by
  unfold wantK wantA
  cases hg : o.guard with
  | none => simp
  | some g =>
    obtain ⟨j, want⟩ := g
    simp only
    cases hd : (ops[j]?).bind (·.dst) with
    | none => simp
    | some d =>
      simp only
      cases hT : T[d]? with
      | none => simp
      | some v =>
        cases v <;> simp
        rename_i b
        cases b <;> cases want <;> simp
theorem aopD_at {o : Oper} {T : List AV} {H : List AObj} {v : AV} {id i : Nat} {ops : Array Oper} (hev : isEv h id i o = false) (hw : wantA ops T o = some true) (hh : (aopD P G env (actOf h id i) o T H fun v _ _ => some v) = some v) : valA P G env h id ops i o T H = some (v, H, []) := by
  obtain ⟨v', h1, h2⟩ := aopD_some hev hh
  injection h2 with h2; subst h2
  unfold valA; rw [hw]; exact h1

structure RInv (P : Program) (G : Nat → Option (List AV)) (env : Env) (h : Hint) (id : Nat) (ops : Array Oper) (s0 : St) (i : Nat) (s : St) (hs : List (Nat × List AObj)) (pe : List (Nat × Oper × List AV × AV)) : Prop where
  st : stA P G env h id ops s0 i = some s
  hv : ∀ e, e < i → e ∈ evL h id ops → ∃ se, stA P G env h id ops s0 e = some se ∧ (e, se.H) ∈ hs
  pv : ∀ k, k < i → ∀ o, ops[k]? = some o → isEv h id k o = false → noH o = false → ∃ sk r, stA P G env h id ops s0 k = some sk ∧
    ((wantA ops sk.T o = some true ∧ (k, o, sk.T, r) ∈ pe ∧ valA P G env h id ops k o sk.T sk.H = some (r, sk.H, [])) ∨ ∀ H, valA P G env h id ops k o sk.T H = some (r, H, []))
  dq : ∀ p ∈ drawQ h id ops, p.1 < i → p.2 ≤ i → DrawAt P G env h id ops s0 p

theorem drawQ_of {id : Nat} {ops : Array Oper} {p : Nat × Nat} (hp : p ∈ drawQ h id ops) : ∃ o, ops[p.1]? = some o ∧ isEv h id p.1 o = false ∧ noH o = false ∧
    (p.2 = p.1 ∨ (p.2 ∈ evL h id ops ∧ p.2 < p.1 ∧ ((ancL ops ops.size).getD p.1 []).contains p.2 = false) ∨ ∃ e, p.2 = e + 1 ∧ e ∈ evL h id ops ∧ p.1 ≤ e ∧ ((ancL ops ops.size).getD e []).contains p.1 = false) := by
  unfold drawQ at hp
  simp only [List.mem_flatMap, List.mem_range] at hp
  obtain ⟨i, hi, hp⟩ := hp
  cases ho : ops[i]? with
  | none => rw [ho] at hp; simp at hp
  | some o =>
    rw [ho] at hp
    simp only at hp
    split at hp
    · simp at hp
    · rename_i hn
      simp only [Bool.or_eq_true, not_or, Bool.not_eq_true] at hn
      simp only [List.mem_cons, List.mem_filterMap] at hp
      rcases hp with rfl | ⟨e, he, hp⟩
      · exact ⟨o, ho, hn.1, hn.2, .inl rfl⟩
      · split at hp
        · rename_i hlt
          split at hp
          · cases hp
          · rename_i hc
            injection hp with hp; subst hp
            exact ⟨o, ho, hn.1, hn.2, .inr (.inl ⟨he, hlt, by simpa using hc⟩)⟩
        · rename_i hlt
          split at hp
          · cases hp
          · rename_i hc
            injection hp with hp; subst hp
            exact ⟨o, ho, hn.1, hn.2, .inr (.inr ⟨e, rfl, he, by omega, by simpa using hc⟩)⟩

theorem evL_of {id : Nat} {ops : Array Oper} {e : Nat} {o : Oper} (ho : ops[e]? = some o) : e ∈ evL h id ops ↔ isEv h id e o = true := by
  unfold evL
  simp only [List.mem_filter, List.mem_range, ho]
  exact ⟨fun h => h.2, fun h => ⟨(Array.getElem?_eq_some_iff.1 ho).1, h⟩⟩

theorem RInv.ev {id : Nat} {ops : Array Oper} {s0 s s1 : St} {i : Nat} {o : Oper} {hs : List (Nat × List AObj)} {pe : List (Nat × Oper × List AV × AV)} (I : RInv P G env h id ops s0 i s hs pe) (ho : ops[i]? = some o) (hev : isEv h id i o = true)
    (h1 : opA P G env h id ops i o s = some s1) (hag : ∀ p ∈ pe.filter (fun p => !((ancL ops ops.size).getD i []).contains p.1), (aopD P G env (actOf h id p.1) p.2.1 p.2.2.1 s1.H fun v _ _ => some v) = some p.2.2.2) :
    RInv P G env h id ops s0 (i + 1) s1 (hs ++ [(i, s.H)]) pe := by
  have hst : stA P G env h id ops s0 (i + 1) = some s1 := by rw [stA_succ ho, I.st]; exact h1
  refine ⟨hst, fun e he hm => ?_, fun k hk o' ho' he hn => ?_, fun p hp h2 h3 => ?_⟩
  · rcases Nat.lt_or_ge e i with hlt | hge
    · obtain ⟨se, k1, k2⟩ := I.hv e hlt hm
      exact ⟨se, k1, List.mem_append_left _ k2⟩
    · obtain rfl : e = i := by omega
      exact ⟨s, I.st, by simp⟩
  · rcases Nat.lt_or_ge k i with hlt | hge
    · exact I.pv k hlt o' ho' he hn
    · obtain rfl : k = i := by omega
      rw [ho] at ho'; injection ho' with ho'; subst ho'; rw [hev] at he; cases he
  · obtain ⟨o', ho', he', hn', hc⟩ := drawQ_of hp
    rcases Nat.lt_or_ge p.1 i with hlt | hge
    · rcases Nat.lt_or_ge i p.2 with hl2 | hg2
      · have e2 : p.2 = i + 1 := by omega
        rcases hc with hc | ⟨_, hc, _⟩ | ⟨e, hc, hm, hle, hA⟩
        · omega
        · omega
        · obtain rfl : e = i := by omega
          obtain ⟨sk, r, k1, k2⟩ := I.pv p.1 hlt o' ho' he' hn'
          rcases k2 with ⟨kw, kp, kv⟩ | kv
          · have := hag _ (List.mem_filter.2 ⟨kp, by simp only [hA, Bool.not_false]⟩)
            exact ⟨o', sk, s1, r, ho', k1, by rw [e2]; exact hst, kv, aopD_at he' kw this⟩
          · exact ⟨o', sk, s1, r, ho', k1, by rw [e2]; exact hst, kv _, kv _⟩
      · exact I.dq p hp hlt hg2
    · have e1 : p.1 = i := by omega
      rw [e1, ho] at ho'; injection ho' with ho'; subst ho'; rw [e1, hev] at he'; cases he'

theorem RInv.rd {id : Nat} {ops : Array Oper} {s0 s s1 : St} {i : Nat} {o : Oper} {hs : List (Nat × List AObj)} {pe pe' : List (Nat × Oper × List AV × AV)} (I : RInv P G env h id ops s0 i s hs pe) (ho : ops[i]? = some o) (hev : isEv h id i o = false)
    (h1 : opA P G env h id ops i o s = some s1) (hsub : ∀ p ∈ pe, p ∈ pe')
    (hv : noH o = false → ∃ r, ((wantA ops s.T o = some true ∧ (i, o, s.T, r) ∈ pe' ∧ valA P G env h id ops i o s.T s.H = some (r, s.H, []) ∧ ∀ p ∈ hs.filter (fun p => !((ancL ops ops.size).getD i []).contains p.1), (aopD P G env (actOf h id i) o s.T p.2 fun v _ _ => some v) = some r) ∨ ∀ H, valA P G env h id ops i o s.T H = some (r, H, []))) :
    RInv P G env h id ops s0 (i + 1) s1 hs pe' := by
  have hst : stA P G env h id ops s0 (i + 1) = some s1 := by rw [stA_succ ho, I.st]; exact h1
  refine ⟨hst, fun e he hm => ?_, fun k hk o' ho' he hn => ?_, fun p hp h2 h3 => ?_⟩
  · rcases Nat.lt_or_ge e i with hlt | hge
    · exact I.hv e hlt hm
    · obtain rfl : e = i := by omega
      rw [evL_of ho, hev] at hm; cases hm
  · rcases Nat.lt_or_ge k i with hlt | hge
    · obtain ⟨sk, r, k1, k2⟩ := I.pv k hlt o' ho' he hn
      exact ⟨sk, r, k1, k2.imp (fun k => ⟨k.1, hsub _ k.2.1, k.2.2⟩) fun k => k⟩
    · obtain rfl : k = i := by omega
      rw [ho] at ho'; injection ho' with ho'; subst ho'
      obtain ⟨r, hr⟩ := hv hn
      exact ⟨s, r, I.st, hr.imp (fun k => ⟨k.1, k.2.1, k.2.2.1⟩) fun k => k⟩
  · obtain ⟨o', ho', he', hn', hc⟩ := drawQ_of hp
    rcases Nat.lt_or_ge p.1 i with hlt | hge
    · rcases Nat.lt_or_ge i p.2 with hl2 | hg2
      · rcases hc with hc | ⟨_, hc, _⟩ | ⟨e, hc, hm, hle, hA⟩
        · omega
        · omega
        · obtain rfl : e = i := by omega
          rw [evL_of ho, hev] at hm; cases hm
      · exact I.dq p hp hlt hg2
    · have e1 : p.1 = i := by omega
      rw [e1, ho] at ho'; injection ho' with ho'; subst ho'
      obtain ⟨r, hr⟩ := hv hn'
      rcases hc with hc | ⟨hm, hlt, hA⟩ | ⟨e, hc, hm, hle, hA⟩
      · refine ⟨o, s, s, r, by rw [e1]; exact ho, by rw [e1]; exact I.st, by rw [hc, e1]; exact I.st, ?_, ?_⟩ <;> rw [e1] <;>
          exact hr.elim (fun k => k.2.2.1) (fun k => k _)
      · obtain ⟨se, k1, k2⟩ := I.hv p.2 (by omega) hm
        refine ⟨o, s, se, r, by rw [e1]; exact ho, by rw [e1]; exact I.st, k1, by rw [e1]; exact hr.elim (fun k => k.2.2.1) (fun k => k _), ?_⟩
        rw [e1]
        rcases hr with ⟨kw, _, _, kb⟩ | kv
        · rw [e1] at hA
          exact aopD_at hev kw (kb _ (List.mem_filter.2 ⟨k2, by simp only [hA, Bool.not_false]⟩))
        · exact kv _
      · exfalso
        have : e = i := by omega
        subst this
        rw [evL_of ho, hev] at hm; cases hm

theorem opsR_some {id : Nat} {ops : Array Oper} {x : β} {s0 : St} : ∀ (rest : List Oper) (i : Nat) (s : St) (hs : List (Nat × List AObj)) (pe : List (Nat × Oper × List AV × AV)) (K : St → Option β),
    opsR P G env h id ops (ancL ops ops.size) rest i s hs pe K = some x → (∀ k, rest[k]? = ops[i + k]?) → RInv P G env h id ops s0 i s hs pe →
    ∃ s' hs' pe', opsA P G env h id ops rest i s = some s' ∧ K s' = some x ∧ RInv P G env h id ops s0 (i + rest.length) s' hs' pe'
  | [], i, s, hs, pe, K, hh, hr, I => ⟨s, hs, pe, rfl, hh, I⟩
  | o :: os, i, s, hs, pe, K, hh, hr, I => by
    have ho : ops[i]? = some o := by have := hr 0; simpa using this.symm
    have hr' : ∀ k, os[k]? = ops[i + 1 + k]? := fun k => by have := hr (k + 1); rw [List.getElem?_cons_succ] at this; rw [this]; congr 1; omega
    have fin : ∀ {s1 : St} {hs1 : List (Nat × List AObj)} {pe1 : List (Nat × Oper × List AV × AV)}, opA P G env h id ops i o s = some s1 → RInv P G env h id ops s0 (i + 1) s1 hs1 pe1 → opsR P G env h id ops (ancL ops ops.size) os (i + 1) s1 hs1 pe1 K = some x →
        ∃ s' hs' pe', opsA P G env h id ops (o :: os) i s = some s' ∧ K s' = some x ∧ RInv P G env h id ops s0 (i + (o :: os).length) s' hs' pe' := fun h1 h2 h3 => by
      obtain ⟨s', hs', pe', k1, k2, k3⟩ := opsR_some os (i + 1) _ _ _ K h3 hr' h2
      exact ⟨s', hs', pe', by simp only [opsA, h1, Option.bind_some]; exact k1, k2, by rw [List.length_cons, show i + (os.length + 1) = i + 1 + os.length by omega]; exact k3⟩
    rw [opsR.eq_def] at hh
    simp only at hh
    split at hh
    · rename_i hev
      split at hh
      · rename_i hw
        have ha := (want_eq ops s.T o).1 hw
        have h1 : opA P G env h id ops i o s = some ⟨putA s.T o.dst (.tup []), s.H, s.E⟩ := by unfold opA; rw [ha]
        obtain ⟨k1, k2⟩ := againK_some hh
        exact fin h1 (I.ev ho hev h1 k2) k1
      · rename_i hw
        have ha := (want_eq ops s.T o).2 hw
        obtain ⟨⟨v, H', E'⟩, e1, e2⟩ := aopK'_some hh
        have e3 := gK_some e2
        have h1 : opA P G env h id ops i o s = some ⟨putA s.T o.dst v, H', E' ++ s.E⟩ := by unfold opA; rw [ha]; simp only [e1, Option.map_some]
        obtain ⟨k1, k2⟩ := againK_some e3
        exact fin h1 (I.ev ho hev h1 k2) k1
      · cases hh
    · rename_i hev
      split at hh
      · rename_i hw
        have ha := (want_eq ops s.T o).1 hw
        have h1 : opA P G env h id ops i o s = some ⟨putA s.T o.dst (.tup []), s.H, s.E⟩ := by unfold opA; rw [ha]
        exact fin h1 (I.rd ho hev h1 (fun p hp => hp) fun _ => ⟨.tup [], .inr fun H => by unfold valA; rw [ha]⟩) hh
      · rename_i hw
        have ha := (want_eq ops s.T o).2 hw
        obtain ⟨v, e1, e2⟩ := aopD_some hev hh
        have e3 := gK_some e2
        have h1 : opA P G env h id ops i o s = some ⟨putA s.T o.dst v, s.H, [] ++ s.E⟩ := by unfold opA; rw [ha]; simp only [e1, Option.map_some]
        have hval : valA P G env h id ops i o s.T s.H = some (v, s.H, []) := by unfold valA; rw [ha]; exact e1
        split at e3
        · rename_i hn
          exact fin h1 (I.rd ho hev h1 (fun p hp => hp) fun hn' => by rw [hn] at hn'; cases hn') e3
        · rename_i hn
          obtain ⟨k1, k2⟩ := beforeK_some e3
          exact fin h1 (I.rd ho hev h1 (fun p hp => List.mem_append_left _ hp) fun _ => ⟨v, .inl ⟨ha, by simp, hval, k2⟩⟩) k1
      · cases hh
theorem RInv.zero {id : Nat} {ops : Array Oper} {s : St} : RInv P G env h id ops s 0 s [] [] := by
  refine ⟨by simp [stA, opsA], fun e he => by omega, fun k hk => by omega, fun p hp h1 => by omega⟩

theorem opsR_draw {id : Nat} {ops : Array Oper} {s : St} {K : Out → Option β} {x : β} (hf : (P.follows .mixedOrders && drawS h id ops) = true)
    (hh : opsR P G env h id ops (ancL ops ops.size) ops.toList 0 s [] [] (fun s' => K (.nrm s')) = some x) : ∃ s', opsA P G env h id ops ops.toList 0 s = some s' ∧ DrawOk1 P G env h id ops s ∧ K (.nrm s') = some x := by
  simp only [Bool.and_eq_true] at hf
  obtain ⟨s', hs', pe', h1, h2, h3⟩ := opsR_some (s0 := s) _ _ _ _ _ _ hh (fun k => by simp) RInv.zero
  refine ⟨s', h1, ⟨hf.1, hf.2, fun p hp => ?_⟩, h2⟩
  obtain ⟨o, ho, _, _, hc⟩ := drawQ_of hp
  have hlt := (Array.getElem?_eq_some_iff.1 ho).1
  have hl : 0 + ops.toList.length = ops.size := by simp
  refine h3.dq p hp (by omega) ?_
  rcases hc with hc | ⟨_, hc, _⟩ | ⟨e, hc, hm, _, _⟩
  · omega
  · omega
  · have : e < ops.size := by unfold evL at hm; simpa using (List.mem_filter.1 hm).1
    omega
theorem region_some {fn : Func} {id : Nat} {ops : Array Oper} {draw : Bool} {s : St} {K : Out → Option β} {x : β} (hh : runK P G env h fn (.region id ops draw) s K = some x) :
    ∃ s', runC P G env h fn (.region id ops draw) s = some (.nrm s') ∧ K (.nrm s') = some x := by
  simp only [runK] at hh
  cases draw with
  | true =>
    simp only [runC]
    simp only at hh
    split at hh
    · rename_i hl
      have e : subO P h id ops s.T.length = ops := by unfold subO; rw [hl]
      rw [e]
      split at hh
      · unfold drawK at hh
        split at hh
        · rename_i hw
          obtain ⟨s', h1, h2, _⟩ := opsK_some _ _ _ _ hh
          exact ⟨s', by rw [h1]; simp only [Option.bind_some]; rw [if_pos (.inr ⟨hl, hw⟩)], h2⟩
        · cases hh
      · rename_i hf
        obtain ⟨s', h1, h2, h3⟩ := opsK_some _ _ _ _ hh
        exact ⟨s', by rw [h1]; simp only [Option.bind_some]; rw [if_pos (.inl (drawF_ok hf (h3 rfl)))], h2⟩
      · split at hh
        · rename_i hf
          obtain ⟨s', h1, hd, h2⟩ := opsR_draw hf hh
          exact ⟨s', by rw [h1]; simp only [Option.bind_some]; rw [if_pos (.inl hd)], h2⟩
        · cases hh
    · rename_i hl
      split at hh
      · rename_i hB hf
        have e : subO P h id ops s.T.length = subA ops (subL h id) := by
          unfold subO
          split
          · exact absurd ‹_› hl
          · rw [hB]
        rw [e]
        obtain ⟨s', h1, hd, h2⟩ := opsR_draw hf hh
        exact ⟨s', by rw [h1]; simp only [Option.bind_some]; rw [if_pos (.inl hd)], h2⟩
      · cases hh
  | false =>
    simp only [runC]
    obtain ⟨s', h1, h2, _⟩ := opsK_some _ _ _ _ hh
    exact ⟨s', by rw [h1]; rfl, h2⟩
theorem resK_some {s : St} {x : β} : ∀ (rs : List ResultVar) (vs : List AV) (K : List AV → Option β), resK P s rs vs K = some x → ∃ us, rs.mapM (resA1 P s) = some us ∧ K (vs ++ us) = some x
  | [], vs, K, hh => ⟨[], by simp, by rw [List.append_nil]; exact hh⟩
  | .tmp t :: rs, vs, K, hh => by
    obtain ⟨us, h1, h2⟩ := resK_some rs _ K hh
    exact ⟨s.T.getD t (.tup []) :: us, by simp [List.mapM_cons, resA1, h1], by simpa using h2⟩
  | .cell a t :: rs, vs, K, hh => by
    simp only [resK] at hh
    split at hh
    · rename_i z hz
      obtain ⟨v, h1, h2⟩ := bind_s hh
      obtain ⟨us, h3, h4⟩ := resK_some rs _ K h2
      exact ⟨v :: us, by rw [List.mapM_cons]; simp only [resA1, hz, Option.bind_some, h1, h3]; rfl, by simpa using h4⟩
    · cases hh
theorem resA_some {fn : Func} {s : St} {K : AV → Option β} {x : β} (hh : (resK P s fn.results.toList [] fun vs => K (oneR vs)) = some x) : ∃ r, resA P fn s = some r ∧ K r = some x := by
  obtain ⟨us, h1, h2⟩ := resK_some _ _ _ hh
  refine ⟨oneR us, ?_, by simpa using h2⟩
  unfold resA
  rw [h1]
  simp only [Option.map_some, Option.some.injEq]
  unfold oneR
  rcases us with _ | ⟨v, _ | ⟨w, us⟩⟩ <;> rfl

theorem condK_some {v : AV} {a b : Option β} {x : β} (hh : condK v a b = some x) : (v = .bool true ∧ a = some x) ∨ (v = .bool false ∧ b = some x) := by
  unfold condK at hh
  split at hh
  · exact .inl ⟨rfl, hh⟩
  · exact .inr ⟨rfl, hh⟩
  · cases hh
theorem condB_some {b : Bool} {v : Option β} {x : β} (hh : condB b v = some x) : b = true ∧ v = some x := by
  unfold condB at hh
  split at hh
  · exact ⟨rfl, hh⟩
  · cases hh
theorem setB_self {T : List AV} {c : Operand} {b : Bool} (hc : evA G T c = .bool b) : setB T c b = T := by
  unfold setB
  split
  · rename_i t
    simp only [evA, List.getD] at hc
    cases ht : T[t]? with
    | none => rw [ht] at hc; cases hc
    | some v =>
      rw [ht] at hc
      simp only [Option.getD_some] at hc
      subst hc
      exact set_self ht
  · rfl
theorem rndK_some {k : Nat} {s : St} {o : Out} {K : Out → Option β} {x : β} (hh : rndK h k s.H s.E K o = some x) : ∃ o', roundA h k s o = some o' ∧ K o' = some x := by
  unfold rndK at hh
  unfold roundA
  split at hh
  · split at hh
    · rename_i ts hl
      rw [hl]
      simp only
      split at hh
      · rename_i ho
        rw [if_pos ho]
        exact ⟨_, rfl, hh⟩
      · rename_i ho
        obtain ⟨hb, hh⟩ := condB_some hh
        simp only [Bool.and_eq_true] at hb
        rw [if_neg (by rw [ho]; decide), if_pos ⟨hb.2, hb.1⟩]
        exact ⟨_, rfl, hh⟩
    · rename_i hl
      rw [hl]
      exact ⟨_, rfl, hh⟩
  · exact ⟨_, rfl, hh⟩
  · exact ⟨_, rfl, hh⟩

theorem runK_some {fn : Func} {x : β} : ∀ (c : Code) (s : St) (K : Out → Option β), runK P G env h fn c s K = some x → ∃ o, runC P G env h fn c s = some o ∧ K o = some x := by
  intro c
  induction c with
  | skip => intro s K hh; exact ⟨_, rfl, hh⟩
  | label l => intro s K hh; exact ⟨_, rfl, hh⟩
  | region id ops draw =>
    intro s K hh
    obtain ⟨s', h1, h2⟩ := region_some hh
    exact ⟨_, h1, h2⟩
  | seq a b iha ihb =>
    intro s K hh
    simp only [runK] at hh
    obtain ⟨o, h1, h2⟩ := iha _ _ hh
    simp only [runC, h1, Option.bind_some]
    cases o with
    | nrm s' => exact ihb _ _ h2
    | ret r H E => exact ⟨_, rfl, h2⟩
    | ext i s' => exact ⟨_, rfl, h2⟩
  | cond c a b iha ihb =>
    intro s K hh
    simp only [runK] at hh
    simp only [runC]
    rcases condK_some hh with ⟨hc, hh⟩ | ⟨hc, hh⟩
    · rw [setB_self hc] at hh
      rw [hc]
      exact iha _ _ hh
    · rw [setB_self hc] at hh
      rw [hc]
      exact ihb _ _ hh
  | block id c ih =>
    intro s K hh
    simp only [runK] at hh
    obtain ⟨o, h1, h2⟩ := ih _ _ hh
    simp only [runC, h1, Option.bind_some]
    cases o with
    | nrm s' => exact ⟨_, rfl, h2⟩
    | ret r H E => exact ⟨_, rfl, h2⟩
    | ext i s' =>
      simp only [blkK] at h2
      split at h2
      · rename_i he
        simp only [beq_iff_eq] at he
        exact ⟨_, by simp only [he, if_true], h2⟩
      · rename_i he
        simp only [beq_eq_false_iff_ne] at he
        exact ⟨_, by simp only [he, if_false], h2⟩
  | loop c ih =>
    intro s K hh
    simp only [runK, loopK] at hh
    obtain ⟨o, h1, h2⟩ := bind_s hh
    exact ⟨o, by simp only [runC]; exact h1, h2⟩
  | exit id => intro s K hh; exact ⟨_, rfl, hh⟩
  | ret =>
    intro s K hh
    simp only [runK] at hh
    obtain ⟨r, h1, h2⟩ := resA_some (K := fun r => K (.ret r s.H s.E)) hh
    exact ⟨_, by simp only [runC, h1, Option.map_some], h2⟩
  | _ => intro s K hh; simp only [runK] at hh; cases hh

/-- One round of a loop. -/
theorem loop_step {fn : Func} {c : Code} {K : Out → Option β} {s : St} {x : β}
    (hh : runK P G env h fn c ⟨s.T, s.H, []⟩ (rndK h (firstReg c) s.H s.E (seqK (fun s' => loopK P G env h fn c K s') K)) = some x) : loopK P G env h fn c K s = some x := by
  obtain ⟨o, h1, h2⟩ := runK_some _ _ _ hh
  obtain ⟨o', h3, h4⟩ := rndK_some h2
  unfold loopK
  rw [loopL_eq]
  simp only [h1, Option.bind_some, h3]
  cases o' with
  | nrm s' => exact h4
  | ret r H E => exact h4
  | ext i s' => exact h4

theorem loop_step' {fn : Func} {c : Code} {K : Out → Option β} {s : St} {x : β} {X : Option β}
    (e : runK P G env h fn c ⟨s.T, s.H, []⟩ (rndK h (firstReg c) s.H s.E (seqK (fun s' => loopK P G env h fn c K s') K)) = X) (hh : X = some x) : loopK P G env h fn c K s = some x := loop_step (e.trans hh)
theorem endK_some {fn : Func} {n : Nat} {o : Out} {r : R3} (hh : endK P h fn n o = some r) : (match (generalizing := false) o with
      | .nrm s => (resA P fn s).bind fun r => endA h n r s.H s.E
      | .ret r H' E => endA h n r H' E
      | .ext _ _ => none) = some r := by
  unfold endK at hh
  split at hh
  · obtain ⟨v, h1, h2⟩ := resA_some (K := fun v => endB h.raw h.keep n v _ _) hh
    simp only [h1, Option.bind_some]
    exact h2
  · exact hh
  · cases hh
theorem fnK_some {fn : Func} {args : List AV} {H : List AObj} {r : R3} (hh : fnK P G env h fn args H = some r) : fnA P G env h fn args H = some r := by
  unfold fnK at hh
  unfold fnA
  split at hh
  · rename_i c hb
    obtain ⟨o, h1, h2⟩ := runK_some _ _ _ hh
    simp only [hb, h1, Option.bind_some]
    exact endK_some h2
  · cases hh
end
/-- A function does what its text does. -/
theorem EV_of_fnK {C : Cfg} {f : FuncId} {fn : Func} {a : List AV} {H : List AObj} {r : R3} (hI : C.I f = none) (hf : C.P.funcs[base f]? = some fn) (hh : fnK C.P C.G (EV C) (C.hint f) fn a H = some r) : EV C f a H = some r := by
  rw [EV_eq C hI hf]
  exact fnK_some hh
theorem EV_of_fnK' {C : Cfg} {f : FuncId} {fn : Func} {a : List AV} {H : List AObj} {r : R3} {X : Option R3} (hI : C.I f = none) (hf : C.P.funcs[base f]? = some fn) (e : fnK C.P C.G (EV C) (C.hint f) fn a H = X) (hh : X = some r) : EV C f a H = some r :=
  EV_of_fnK hI hf (e.trans hh)
end Go.Pm
