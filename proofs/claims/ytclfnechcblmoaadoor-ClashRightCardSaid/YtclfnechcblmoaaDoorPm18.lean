/- Soundness, part 15: functions; the evaluator's equations. -/
import Derived.Test.YtclfnechcblmoaaDoorPm17
namespace Go.Pm
set_option linter.unusedVariables false
set_option linter.unusedSimpArgs false
section
variable {P : Program} {G : Nat → Option (List AV)} {fn : Func}

theorem end_ok {X0 X1 : Cx} {h : Hint} {r : AV} {E : List Nat} {r3 : R3} {u : Value} (hR0 : Rel G X0) (hR : Rel G X1) (hE : Ext X0 X1) (hesc : EscI X0.H X1.H E) (hm : M X1 r u) (hend : endA h X0.H.length r X1.H E = some r3) :
    ∃ X', X'.w = X1.w ∧ X'.H = r3.2.1 ∧ Rel G X' ∧ Ext X0 X' ∧ EscI X0.H X'.H r3.2.2 ∧ M X' r3.1 u := by
  unfold endA at hend
  simp only [Option.bind_eq_some_iff] at hend
  obtain ⟨p, hp, h2⟩ := hend
  have hfr : ∃ X2 : Cx, X2.w = X1.w ∧ X2.H = p.2 ∧ Rel G X2 ∧ Ext X0 X2 ∧ EscI X0.H X2.H E ∧ M X2 p.1 u := by
    split at hp
    · injection hp with hp; subst hp
      exact ⟨X1, rfl, rfl, hR, hE, hesc, hm⟩
    · simp only [Option.map_eq_some_iff] at hp
      obtain ⟨r', hr, rfl⟩ := hp
      obtain ⟨k1, k2, k3⟩ := kill_ok hR (kills r)
      exact ⟨⟨X1.F, X1.ι, killAll X1.H (kills r), X1.w⟩, rfl, rfl, k1, hE.trans k2, by simpa using hesc.trans k3, frz_M hR (kills r) r r' u hm hr (fun l hl => hl)⟩
  obtain ⟨X2, e1, e2, e3, e4, e5, e6⟩ := hfr
  split at h2
  · injection h2 with h2; subst h2
    exact ⟨X2, e1, e2, e3, e4, e5, e6⟩
  · split at h2
    · rename_i hc
      injection h2 with h2; subst h2
      obtain ⟨c1, c2⟩ := hc
      obtain ⟨k1, k2, k3⟩ := cut_ok hR0 e3 e4 e5 (fun e he => by have := List.all_eq_true.1 c2 e he; simpa using this)
      exact ⟨X2.cut X0.H.length, e1, by simp only [Cx.cut]; rw [e2], k1, k2, k3, cut_M e4.hlen _ _ c1 e6⟩
    · cases h2

theorem fn_ok {env : Env} (henv : EnvOk P G env) {hh : Hint} {f : FuncId} {args : List AV} {H : List AObj} {r : R3} (hf : P.funcs[f]? = some fn) (h : fnA P G env hh fn args H = some r) : SpecR P G f args H r := by
  intro X cargs hH hR hM
  unfold fnA at h
  cases hb : fn.body with
  | none => rw [hb] at h; cases h
  | some c =>
    rw [hb] at h
    simp only [Option.bind_eq_some_iff] at h
    obtain ⟨o, h1, h2⟩ := h
    refine calls_of_wp hf hb ?_
    have hl := Ms_length hM
    have hsz : cargs.toList.length = cargs.size := Array.length_toList
    refine code_ok henv c _ X _ ⟨args ++ List.replicate (fn.ntmps - args.length) (.tup []), H, []⟩ o hH hR ?_ h1 ?_
    · simp only [Array.toList_append, Array.toList_replicate]
      rw [show fn.ntmps - args.length = fn.ntmps - cargs.size by omega]
      exact Ms_append hM (Ms_replicate (by unfold M; exact ⟨#[], rfl, by simp [Ms]⟩) _)
    · cases o with
      | nrm s =>
        simp only [Option.bind_eq_some_iff] at h2
        obtain ⟨rv, hrv, h3⟩ := h2
        intro X1 a1 N e1 e2 e3 e4 e5 e6 e7
        obtain ⟨u, k1, k2⟩ := res_ok e1 e2 e6 hrv
        simp only [List.append_nil] at e4
        rw [← e1, ← hH] at h3
        obtain ⟨X', g1, g2, g3, g4, g5, g6⟩ := end_ok hR e2 e3 (by rw [e4]; exact e5) k2 h3
        exact ⟨e7, u, k1, u, X', g1, rfl, g2, g3, g4, g5, g6⟩
      | ret rv H1 E1 =>
        simp only at h2
        intro X1 a1 N u e1 e2 e3 e4 e5 e6 e7 e8
        simp only [List.append_nil] at e4
        rw [← e1, ← hH] at h2
        obtain ⟨X', g1, g2, g3, g4, g5, g6⟩ := end_ok hR e2 e3 (by rw [e4]; exact e5) e7 h2
        exact ⟨e8, u, e6, u, X', g1, rfl, g2, g3, g4, g5, g6⟩
      | ext i s => simp at h2
end

/-! ### the evaluator's equations -/
theorem lim_eq {α : Type} {f : Nat → Option α} (hm : ∀ n x, f n = some x → f (n + 1) = some x) {n : Nat} {x : α} (h : f n = some x) : lim f = some x := by
  have mono : ∀ k n x, f n = some x → f (n + k) = some x := fun k => by
    induction k with
    | zero => intro n x h; exact h
    | succ k ih => intro n x h; exact hm _ _ (ih n x h)
  have hex : ∃ n, (f n).isSome := ⟨n, by rw [h]; rfl⟩
  unfold lim
  rw [dif_pos hex]
  obtain ⟨y, hy⟩ := Option.isSome_iff_exists.1 hex.choose_spec
  rw [hy]
  have h1 := mono hex.choose n x h
  have h2 := mono n hex.choose y hy
  rw [Nat.add_comm] at h2
  rw [h1] at h2
  exact h2.symm
theorem loopN_succ {F : St → Option Out} : ∀ (n : Nat) (s : St) (o : Out), loopN F n s = some o → loopN F (n + 1) s = some o
  | 0, s, o, h => by simp [loopN] at h
  | n + 1, s, o, h => by
    simp only [loopN, Option.bind_eq_some_iff] at h
    obtain ⟨o1, h1, h2⟩ := h
    rw [loopN]
    simp only [h1, Option.bind_some]
    cases o1 with
    | nrm s1 => exact loopN_succ n s1 o h2
    | ext i s1 => exact h2
    | ret r H E => exact h2
theorem loopL_of {F : St → Option Out} {n : Nat} {s : St} {o : Out} (h : loopN F n s = some o) : loopL F s = some o := lim_eq (fun n x hx => loopN_succ n s x hx) h
theorem loopN_mono {F F' : St → Option Out} (hF : ∀ s o, F s = some o → F' s = some o) : ∀ (n : Nat) (s : St) (o : Out), loopN F n s = some o → loopN F' n s = some o
  | 0, s, o, h => by simp [loopN] at h
  | n + 1, s, o, h => by
    simp only [loopN, Option.bind_eq_some_iff] at h
    obtain ⟨o1, h1, h2⟩ := h
    simp only [loopN, hF s o1 h1, Option.bind_some]
    cases o1 with
    | nrm s1 => exact loopN_mono hF n s1 o h2
    | ext i s1 => exact h2
    | ret r H E => exact h2
theorem loopL_mono {F F' : St → Option Out} (hF : ∀ s o, F s = some o → F' s = some o) {s : St} {o : Out} (h : loopL F s = some o) : loopL F' s = some o := by
  obtain ⟨n, hn⟩ := lim_some h
  exact loopL_of (loopN_mono hF n s o hn)
/-- One round of a loop. -/
theorem loopL_eq (F : St → Option Out) (s : St) : loopL F s = (F s).bind fun o => match o with
    | .nrm s' => loopL F s'
    | o => some o := by
  apply Option.ext
  intro o
  constructor
  · intro h
    obtain ⟨n, hn⟩ := lim_some h
    cases n with
    | zero => simp [loopN] at hn
    | succ n =>
      simp only [loopN, Option.bind_eq_some_iff] at hn
      obtain ⟨o1, h1, h2⟩ := hn
      simp only [h1, Option.bind_some]
      cases o1 with
      | nrm s1 => exact loopL_of h2
      | ext i s1 => exact h2
      | ret r H E => exact h2
  · intro h
    simp only [Option.bind_eq_some_iff] at h
    obtain ⟨o1, h1, h2⟩ := h
    cases o1 with
    | nrm s1 =>
      obtain ⟨n, hn⟩ := lim_some h2
      refine loopL_of (n := n + 1) ?_
      simp only [loopN, h1, Option.bind_some]
      exact hn
    | ext i s1 => exact loopL_of (n := 1) (by simp only [loopN, h1, Option.bind_some]; exact h2)
    | ret r H E => exact loopL_of (n := 1) (by simp only [loopN, h1, Option.bind_some]; exact h2)

def EnvLe (e1 e2 : Env) : Prop := ∀ f a H r, e1 f a H = some r → e2 f a H = some r
section
variable {P : Program} {G : Nat → Option (List AV)} {e1 e2 : Env}
theorem callA_mono (he : EnvLe e1 e2) {raw : Bool} {g : FuncId} {args : List AV} {H : List AObj} {r : R3} (h : callA e1 raw g args H = some r) : callA e2 raw g args H = some r := by
  unfold callA at h ⊢
  split at h
  · rename_i hr; rw [if_pos hr]; exact he _ _ _ _ h
  · rename_i hr
    rw [if_neg hr]
    simp only [Option.bind_eq_some_iff] at h ⊢
    obtain ⟨as, h1, h2⟩ := h
    refine ⟨as, h1, ?_⟩
    split at h2
    · rename_i hb
      rw [if_pos hb]
      simp only [Option.bind_eq_some_iff] at h2 ⊢
      obtain ⟨r0, h3, h4⟩ := h2
      exact ⟨r0, he _ _ _ _ h3, h4⟩
    · rename_i hb
      rw [if_neg hb]
      exact he _ _ _ _ h2
theorem aop_mono (he : EnvLe e1 e2) {act : Nat} {o : Oper} {T : List AV} {H : List AObj} {r : R3} (h : aop P G e1 act o T H = some r) : aop P G e2 act o T H = some r := by
  cases ho : o.op with
  | call c =>
    cases hc : c.callee with
    | value f =>
      simp only [aop, ho, hc] at h ⊢
      split at h
      · split at h
        · rename_i hg; rw [if_pos hg]; exact callA_mono he h
        · cases h
      · cases h
    | builtin b => cases b <;> (simp only [aop, ho, hc] at h ⊢; exact h)
    | invoke x m => simp only [aop, ho, hc] at h ⊢; exact h
  | makeFunc f a b => cases f <;> (simp only [aop, ho] at h ⊢; exact h)
  | _ => simp only [aop, ho] at h ⊢; exact h
theorem aop'_mono (he : EnvLe e1 e2) {act : Nat} {o : Oper} {T : List AV} {H : List AObj} {r : R3} (h : aop' P G e1 act o T H = some r) : aop' P G e2 act o T H = some r := by
  unfold aop' at h ⊢
  split at h
  · rename_i ha
    rw [if_pos ha]
    simp only [Option.bind_eq_some_iff] at h ⊢
    obtain ⟨r0, h0, h1⟩ := h
    exact ⟨r0, aop_mono he h0, h1⟩
  · rename_i ha
    rw [if_neg ha]
    split at h
    · rename_i hb
      rw [if_pos hb]
      simp only [Option.bind_eq_some_iff] at h ⊢
      obtain ⟨r0, h0, h1⟩ := h
      exact ⟨r0, aop_mono he h0, h1⟩
    · rename_i hb
      rw [if_neg hb]
      exact aop_mono he h
theorem opA_mono (he : EnvLe e1 e2) {hh : Hint} {id i : Nat} {ops : Array Oper} {o : Oper} {s s1 : St} (h : opA P G e1 hh id ops i o s = some s1) : opA P G e2 hh id ops i o s = some s1 := by
  unfold opA at h ⊢
  split at h
  · simp only [Option.map_eq_some_iff] at h ⊢
    obtain ⟨r, hr, h2⟩ := h
    exact ⟨r, aop'_mono he hr, h2⟩
  · exact h
  · cases h
theorem opsA_mono (he : EnvLe e1 e2) {hh : Hint} {id : Nat} {ops : Array Oper} : ∀ {rest : List Oper} {i : Nat} {s s1 : St}, opsA P G e1 hh id ops rest i s = some s1 → opsA P G e2 hh id ops rest i s = some s1
  | [], i, s, s1, h => h
  | o :: rest, i, s, s1, h => by
    simp only [opsA, Option.bind_eq_some_iff] at h ⊢
    obtain ⟨s', h1, h2⟩ := h
    exact ⟨s', opA_mono he h1, opsA_mono he h2⟩
theorem valA_mono (he : EnvLe e1 e2) {hh : Hint} {id i : Nat} {ops : Array Oper} {o : Oper} {T : List AV} {H : List AObj} {r : R3} (h : valA P G e1 hh id ops i o T H = some r) : valA P G e2 hh id ops i o T H = some r := by
  unfold valA at h ⊢
  split at h
  · exact aop'_mono he h
  · exact h
  · cases h
theorem DrawOk_mono (he : EnvLe e1 e2) {hh : Hint} {id : Nat} {ops : Array Oper} {s : St} (h : DrawOk P G e1 hh id ops s) : DrawOk P G e2 hh id ops s := by
  obtain ⟨h1, h2, h3⟩ := h
  refine ⟨h1, h2, fun p hp => ?_⟩
  obtain ⟨o, si, sj, r, k1, k2, k3, k4, k5⟩ := h3 p hp
  exact ⟨o, si, sj, r, k1, opsA_mono he k2, opsA_mono he k3, valA_mono he k4, valA_mono he k5⟩
theorem runC_mono (he : EnvLe e1 e2) {hh : Hint} {fn : Func} : ∀ (c : Code) (s : St) (o : Out), runC P G e1 hh fn c s = some o → runC P G e2 hh fn c s = some o := by
  intro c
  induction c with
  | region id ops draw =>
    intro s o h
    simp only [runC, Option.bind_eq_some_iff] at h ⊢
    obtain ⟨s1, h1, h2⟩ := h
    refine ⟨s1, opsA_mono he h1, ?_⟩
    split at h2
    · rename_i hd
      rw [if_pos hd]
      split at h2
      · rename_i hk
        rw [if_pos (DrawOk_mono he hk)]; exact h2
      · cases h2
    · rename_i hd
      rw [if_neg hd]; exact h2
  | seq x y ihx ihy =>
    intro s o h
    simp only [runC, Option.bind_eq_some_iff] at h ⊢
    obtain ⟨o1, h1, h2⟩ := h
    refine ⟨o1, ihx s o1 h1, ?_⟩
    cases o1 with
    | nrm s1 => exact ihy _ o h2
    | ext i s1 => exact h2
    | ret r H E => exact h2
  | cond b x y ihx ihy =>
    intro s o h
    simp only [runC] at h ⊢
    split at h
    · split at h
      · rename_i t _ ht; rw [if_pos ht]; exact ihx s o h
      · rename_i t _ ht; rw [if_neg ht]; exact ihy s o h
    · cases h
  | block id x ih =>
    intro s o h
    simp only [runC, Option.bind_eq_some_iff] at h ⊢
    obtain ⟨o1, h1, h2⟩ := h
    exact ⟨o1, ih s o1 h1, h2⟩
  | loop x ih =>
    intro s o h
    simp only [runC] at h ⊢
    refine loopL_mono (fun s o h => ?_) h
    simp only [Option.bind_eq_some_iff] at h ⊢
    obtain ⟨o1, h1, h2⟩ := h
    exact ⟨o1, ih _ o1 h1, h2⟩
  | _ => intro s o h; exact h
theorem fnA_mono (he : EnvLe e1 e2) {hh : Hint} {fn : Func} {args : List AV} {H : List AObj} {r : R3} (h : fnA P G e1 hh fn args H = some r) : fnA P G e2 hh fn args H = some r := by
  unfold fnA at h ⊢
  split at h
  · cases h
  · simp only [Option.bind_eq_some_iff] at h ⊢
    obtain ⟨o, h1, h2⟩ := h
    exact ⟨o, runC_mono he _ _ _ h1, h2⟩
end

section
variable (C : Cfg)
theorem evN_succ : ∀ k, EnvLe (evN C k) (evN C (k + 1))
  | 0 => fun f a H r h => by simp [evN] at h
  | k + 1 => fun f a H r h => by
    simp only [evN] at h ⊢
    split at h
    · exact h
    · split at h
      · exact fnA_mono (evN_succ k) h
      · cases h
theorem evN_le {k n : Nat} (h : k ≤ n) : EnvLe (evN C k) (evN C n) := by
  induction h with
  | refl => exact fun _ _ _ _ h => h
  | step _ ih => exact fun f a H r hr => evN_succ C _ f a H r (ih f a H r hr)
theorem EV_of {k : Nat} {f : FuncId} {a : List AV} {H : List AObj} {r : R3} (h : evN C k f a H = some r) : EV C f a H = some r := lim_eq (fun n x hx => evN_succ C n f a H x hx) h
theorem EV_some {f : FuncId} {a : List AV} {H : List AObj} {r : R3} (h : EV C f a H = some r) : ∃ k, evN C k f a H = some r := lim_some h
theorem evN_EV (k : Nat) : EnvLe (evN C k) (EV C) := fun f a H r h => EV_of C h

/-! what the whole evaluator finds, a bounded one finds -/
variable {P : Program} {G : Nat → Option (List AV)}
theorem callA_cont {raw : Bool} {g : FuncId} {args : List AV} {H : List AObj} {r : R3} (h : callA (EV C) raw g args H = some r) : ∃ k, callA (evN C k) raw g args H = some r := by
  unfold callA at h ⊢
  split at h
  · rename_i hr
    obtain ⟨k, hk⟩ := EV_some C h
    exact ⟨k, by rw [if_pos hr]; exact hk⟩
  · rename_i hr
    simp only [Option.bind_eq_some_iff] at h
    obtain ⟨as, h1, h2⟩ := h
    split at h2
    · rename_i hb
      simp only [Option.bind_eq_some_iff] at h2
      obtain ⟨r0, h3, h4⟩ := h2
      obtain ⟨k, hk⟩ := EV_some C h3
      exact ⟨k, by rw [if_neg hr]; simp only [Option.bind_eq_some_iff]; exact ⟨as, h1, by rw [if_pos hb]; simp only [Option.bind_eq_some_iff]; exact ⟨r0, hk, h4⟩⟩⟩
    · rename_i hb
      obtain ⟨k, hk⟩ := EV_some C h2
      exact ⟨k, by rw [if_neg hr]; simp only [Option.bind_eq_some_iff]; exact ⟨as, h1, by rw [if_neg hb]; exact hk⟩⟩
theorem aop_cont {act : Nat} {o : Oper} {T : List AV} {H : List AObj} {r : R3} (h : aop P G (EV C) act o T H = some r) : ∃ k, aop P G (evN C k) act o T H = some r := by
  cases ho : o.op with
  | call c =>
    cases hc : c.callee with
    | value f =>
      simp only [aop, ho, hc] at h ⊢
      split at h
      · split at h
        · rename_i hg
          obtain ⟨k, hk⟩ := callA_cont C h
          exact ⟨k, by rw [if_pos hg]; exact hk⟩
        · cases h
      · cases h
    | builtin b => exact ⟨0, by cases b <;> (simp only [aop, ho, hc] at h ⊢; exact h)⟩
    | invoke x m => exact ⟨0, by simp only [aop, ho, hc] at h ⊢; exact h⟩
  | makeFunc f a b => exact ⟨0, by cases f <;> (simp only [aop, ho] at h ⊢; exact h)⟩
  | _ => exact ⟨0, by simp only [aop, ho] at h ⊢; exact h⟩
theorem aop'_cont {act : Nat} {o : Oper} {T : List AV} {H : List AObj} {r : R3} (h : aop' P G (EV C) act o T H = some r) : ∃ k, aop' P G (evN C k) act o T H = some r := by
  unfold aop' at h ⊢
  split at h
  · rename_i ha
    simp only [Option.bind_eq_some_iff] at h
    obtain ⟨r0, h0, h1⟩ := h
    obtain ⟨k, hk⟩ := aop_cont C h0
    exact ⟨k, by rw [if_pos ha]; simp only [Option.bind_eq_some_iff]; exact ⟨r0, hk, h1⟩⟩
  · rename_i ha
    split at h
    · rename_i hb
      simp only [Option.bind_eq_some_iff] at h
      obtain ⟨r0, h0, h1⟩ := h
      obtain ⟨k, hk⟩ := aop_cont C h0
      exact ⟨k, by rw [if_neg ha, if_pos hb]; simp only [Option.bind_eq_some_iff]; exact ⟨r0, hk, h1⟩⟩
    · rename_i hb
      obtain ⟨k, hk⟩ := aop_cont C h
      exact ⟨k, by rw [if_neg ha, if_neg hb]; exact hk⟩
theorem opA_cont {hh : Hint} {id i : Nat} {ops : Array Oper} {o : Oper} {s s1 : St} (h : opA P G (EV C) hh id ops i o s = some s1) : ∃ k, opA P G (evN C k) hh id ops i o s = some s1 := by
  unfold opA at h ⊢
  split at h
  · simp only [Option.map_eq_some_iff] at h ⊢
    obtain ⟨r, hr, h2⟩ := h
    obtain ⟨k, hk⟩ := aop'_cont C hr
    exact ⟨k, r, hk, h2⟩
  · exact ⟨0, h⟩
  · cases h
theorem opsA_cont {hh : Hint} {id : Nat} {ops : Array Oper} : ∀ {rest : List Oper} {i : Nat} {s s1 : St}, opsA P G (EV C) hh id ops rest i s = some s1 → ∃ k, opsA P G (evN C k) hh id ops rest i s = some s1
  | [], i, s, s1, h => ⟨0, h⟩
  | o :: rest, i, s, s1, h => by
    simp only [opsA, Option.bind_eq_some_iff] at h ⊢
    obtain ⟨s', h1, h2⟩ := h
    obtain ⟨k1, g1⟩ := opA_cont C h1
    obtain ⟨k2, g2⟩ := opsA_cont h2
    exact ⟨max k1 k2, s', opA_mono (evN_le C (Nat.le_max_left ..)) g1, opsA_mono (evN_le C (Nat.le_max_right ..)) g2⟩
theorem valA_cont {hh : Hint} {id i : Nat} {ops : Array Oper} {o : Oper} {T : List AV} {H : List AObj} {r : R3} (h : valA P G (EV C) hh id ops i o T H = some r) : ∃ k, valA P G (evN C k) hh id ops i o T H = some r := by
  unfold valA at h ⊢
  split at h
  · exact aop'_cont C h
  · exact ⟨0, h⟩
  · cases h
theorem all_cont {α : Type} {p : Nat → α → Prop} (hm : ∀ k n a, k ≤ n → p k a → p n a) : ∀ (l : List α), (∀ a ∈ l, ∃ k, p k a) → ∃ k, ∀ a ∈ l, p k a
  | [], _ => ⟨0, fun _ h => by cases h⟩
  | a :: l, h => by
    obtain ⟨k1, h1⟩ := h a (by simp)
    obtain ⟨k2, h2⟩ := all_cont hm l fun b hb => h b (by simp [hb])
    refine ⟨max k1 k2, fun b hb => ?_⟩
    rcases List.mem_cons.1 hb with rfl | hb
    · exact hm k1 _ _ (Nat.le_max_left ..) h1
    · exact hm k2 _ _ (Nat.le_max_right ..) (h2 b hb)
theorem DrawOk_cont {hh : Hint} {id : Nat} {ops : Array Oper} {s : St} (h : DrawOk P G (EV C) hh id ops s) : ∃ k, DrawOk P G (evN C k) hh id ops s := by
  obtain ⟨h1, h2, h3⟩ := h
  obtain ⟨k, hk⟩ := all_cont (p := fun k p => DrawAt P G (evN C k) hh id ops s p) (fun k n p hkn hp => by
    obtain ⟨o, si, sj, r, k1, k2, k3, k4, k5⟩ := hp
    exact ⟨o, si, sj, r, k1, opsA_mono (evN_le C hkn) k2, opsA_mono (evN_le C hkn) k3, valA_mono (evN_le C hkn) k4, valA_mono (evN_le C hkn) k5⟩) (drawQ hh id ops) fun p hp => by
    obtain ⟨o, si, sj, r, k1, k2, k3, k4, k5⟩ := h3 p hp
    obtain ⟨n2, g2⟩ := opsA_cont C k2
    obtain ⟨n3, g3⟩ := opsA_cont C k3
    obtain ⟨n4, g4⟩ := valA_cont C k4
    obtain ⟨n5, g5⟩ := valA_cont C k5
    refine ⟨max (max n2 n3) (max n4 n5), o, si, sj, r, k1, opsA_mono (evN_le C ?_) g2, opsA_mono (evN_le C ?_) g3, valA_mono (evN_le C ?_) g4, valA_mono (evN_le C ?_) g5⟩ <;> omega
  exact ⟨k, h1, h2, hk⟩
theorem runC_cont {hh : Hint} {fn : Func} : ∀ (c : Code) (s : St) (o : Out), runC P G (EV C) hh fn c s = some o → ∃ k, runC P G (evN C k) hh fn c s = some o := by
  intro c
  induction c with
  | region id ops draw =>
    intro s o h
    simp only [runC, Option.bind_eq_some_iff] at h ⊢
    obtain ⟨s1, h1, h2⟩ := h
    obtain ⟨k, hk⟩ := opsA_cont C h1
    split at h2
    · rename_i hd
      split at h2
      · rename_i hw
        obtain ⟨k2, hk2⟩ := DrawOk_cont C hw
        exact ⟨max k k2, s1, opsA_mono (evN_le C (Nat.le_max_left ..)) hk, by rw [if_pos hd, if_pos (DrawOk_mono (evN_le C (Nat.le_max_right ..)) hk2)]; exact h2⟩
      · cases h2
    · rename_i hd
      exact ⟨k, s1, hk, by rw [if_neg hd]; exact h2⟩
  | seq x y ihx ihy =>
    intro s o h
    simp only [runC, Option.bind_eq_some_iff] at h ⊢
    obtain ⟨o1, h1, h2⟩ := h
    obtain ⟨k1, g1⟩ := ihx s o1 h1
    cases o1 with
    | nrm s1 =>
      obtain ⟨k2, g2⟩ := ihy _ o h2
      exact ⟨max k1 k2, .nrm s1, runC_mono (evN_le C (Nat.le_max_left ..)) _ _ _ g1, runC_mono (evN_le C (Nat.le_max_right ..)) _ _ _ g2⟩
    | ext i s1 => exact ⟨k1, _, g1, h2⟩
    | ret r H E => exact ⟨k1, _, g1, h2⟩
  | cond b x y ihx ihy =>
    intro s o h
    simp only [runC] at h ⊢
    split at h
    · split at h
      · rename_i t _ ht
        obtain ⟨k, hk⟩ := ihx s o h
        exact ⟨k, by rw [if_pos ht]; exact hk⟩
      · rename_i t _ ht
        obtain ⟨k, hk⟩ := ihy s o h
        exact ⟨k, by rw [if_neg ht]; exact hk⟩
    · cases h
  | block id x ih =>
    intro s o h
    simp only [runC, Option.bind_eq_some_iff] at h ⊢
    obtain ⟨o1, h1, h2⟩ := h
    obtain ⟨k, hk⟩ := ih s o1 h1
    exact ⟨k, o1, hk, h2⟩
  | loop x ih =>
    intro s o h
    simp only [runC] at h ⊢
    obtain ⟨n, hn⟩ := lim_some h
    have key : ∀ (n : Nat) (s : St), loopN (fun s => (runC P G (EV C) hh fn x ⟨s.T, s.H, []⟩).bind (roundA hh (firstReg x) s)) n s = some o → ∃ k, loopN (fun s => (runC P G (evN C k) hh fn x ⟨s.T, s.H, []⟩).bind (roundA hh (firstReg x) s)) n s = some o := by
      intro n
      induction n with
      | zero => intro s h; simp [loopN] at h
      | succ n ihn =>
        intro s h
        simp only [loopN, Option.bind_eq_some_iff] at h
        obtain ⟨o2, ⟨o1, h1, h2⟩, h3⟩ := h
        obtain ⟨k1, g1⟩ := ih _ o1 h1
        cases o2 with
        | nrm s1 =>
          obtain ⟨k2, g2⟩ := ihn s1 h3
          refine ⟨max k1 k2, ?_⟩
          simp only [loopN, Option.bind_eq_some_iff]
          refine ⟨.nrm s1, ⟨o1, runC_mono (evN_le C (Nat.le_max_left ..)) _ _ _ g1, h2⟩, ?_⟩
          refine loopN_mono (fun s o h => ?_) n s1 o g2
          simp only [Option.bind_eq_some_iff] at h ⊢
          obtain ⟨o3, h4, h5⟩ := h
          exact ⟨o3, runC_mono (evN_le C (Nat.le_max_right ..)) _ _ _ h4, h5⟩
        | ext i s1 =>
          refine ⟨k1, ?_⟩
          simp only [loopN, Option.bind_eq_some_iff]
          exact ⟨.ext i s1, ⟨o1, g1, h2⟩, h3⟩
        | ret r H E =>
          refine ⟨k1, ?_⟩
          simp only [loopN, Option.bind_eq_some_iff]
          exact ⟨.ret r H E, ⟨o1, g1, h2⟩, h3⟩
    obtain ⟨k, hk⟩ := key n _ hn
    exact ⟨k, loopL_of hk⟩
  | _ => intro s o h; exact ⟨0, h⟩

/-- A function is what its text says. -/
theorem EV_eq {f : FuncId} {fn : Func} (hI : C.I f = none) (hf : C.P.funcs[f]? = some fn) (a : List AV) (H : List AObj) : EV C f a H = fnA C.P C.G (EV C) (C.hint f) fn a H := by
  apply Option.ext
  intro r
  constructor
  · intro h
    obtain ⟨k, hk⟩ := EV_some C h
    cases k with
    | zero => simp [evN] at hk
    | succ k =>
      simp only [evN, hI, hf] at hk
      exact fnA_mono (evN_EV C k) hk
  · intro h
    have : ∃ k, fnA C.P C.G (evN C k) (C.hint f) fn a H = some r := by
      unfold fnA at h ⊢
      cases hb : fn.body with
      | none => rw [hb] at h; cases h
      | some c =>
        rw [hb] at h
        simp only [Option.bind_eq_some_iff] at h ⊢
        obtain ⟨o, h1, h2⟩ := h
        obtain ⟨k, hk⟩ := runC_cont C _ _ _ h1
        exact ⟨k, o, hk, h2⟩
    obtain ⟨k, hk⟩ := this
    exact EV_of C (k := k + 1) (by simp only [evN, hI, hf]; exact hk)
theorem EV_I {f : FuncId} {F : List AV → List AObj → Option R3} (hI : C.I f = some F) (a : List AV) (H : List AObj) : EV C f a H = F a H := by
  apply Option.ext
  intro r
  constructor
  · intro h
    obtain ⟨k, hk⟩ := EV_some C h
    cases k with
    | zero => simp [evN] at hk
    | succ k => simpa only [evN, hI] using hk
  · intro h
    exact EV_of C (k := 1) (by simp only [evN, hI]; exact h)

/-- SOUND: what the evaluator finds, Go does. -/
theorem EV_ok (hI : ∀ f F a H r, C.I f = some F → F a H = some r → SpecR C.P C.G f a H r) : EnvOk C.P C.G (EV C) := by
  have key : ∀ k, EnvOk C.P C.G (evN C k) := fun k => by
    induction k with
    | zero => intro f a H r h; simp [evN] at h
    | succ k ih =>
      intro f a H r h
      simp only [evN] at h
      split at h
      · rename_i F hF
        exact hI f F a H r hF h
      · split at h
        · rename_i fn hf
          exact fn_ok ih hf h
        · cases h
  intro f a H r h
  obtain ⟨k, hk⟩ := EV_some C h
  exact key k f a H r hk
end
end Go.Pm
