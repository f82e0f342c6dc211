/- What the evaluator in continuation-passing style finds, the evaluator finds. -/
import Derived.Test.YtclfnechcblmoaaDoorPm22
namespace Go.Pm
set_option linter.unusedVariables false
set_option linter.unusedSimpArgs false
section
variable {β : Type} {P : Program} {G : Nat → Option (List AV)} {env : Env} {h : Hint}
theorem gK_some {g : Bool} {v : AV} {f : AV → Option β} {x : β} (hh : gK g v f = some x) : f v = some x := by
  unfold gK at hh
  split at hh
  · unfold splitK at hh
    split at hh
    · exact hh
    · exact hh
    · cases hh
  · exact hh
theorem set_self {T : List AV} {d : Nat} {v : AV} (hd : T[d]? = some v) : T.set d v = T := by
  obtain ⟨h1, rfl⟩ := List.getElem?_eq_some_iff.1 hd
  exact List.set_getElem_self h1

def Told' (P : Program) (G : Nat → Option (List AV)) (env : Env) (h : Hint) (id : Nat) (ops : Array Oper) (rest : List Oper) (i : Nat) (s : St) : Prop :=
  ∀ (k : Nat) (o : Oper), rest[k]? = some o → isEv h id (i + k) o = false → ∃ (sj : St) (r : AV), opsA P G env h id ops (rest.take k) i s = some sj ∧ valA P G env h id ops (i + k) o sj.T sj.H = some (r, sj.H, [])

theorem told_cons {id : Nat} {ops : Array Oper} {o : Oper} {os : List Oper} {i : Nat} {s s1 : St} (h1 : opA P G env h id ops i o s = some s1)
    (h2 : isEv h id i o = false → ∃ r : AV, valA P G env h id ops i o s.T s.H = some (r, s.H, [])) (h3 : Told' P G env h id ops os (i + 1) s1) : Told' P G env h id ops (o :: os) i s := fun k o' ho hev => by
  cases k with
  | zero =>
    simp only [List.getElem?_cons_zero, Option.some.injEq] at ho
    subst ho
    obtain ⟨r, hr⟩ := h2 hev
    exact ⟨s, r, rfl, hr⟩
  | succ k =>
    simp only [List.getElem?_cons_succ] at ho
    rw [show i + (k + 1) = i + 1 + k by omega] at hev ⊢
    obtain ⟨sj, r, k1, k2⟩ := h3 k o' ho hev
    exact ⟨sj, r, by simp only [List.take, opsA, h1, Option.bind_some]; exact k1, k2⟩

theorem opsK_some {dr : Bool} {id : Nat} {ops : Array Oper} {x : β} : ∀ (rest : List Oper) (i : Nat) (s : St) (K : St → Option β), opsK P G env h dr id ops rest i s K = some x →
    ∃ s', opsA P G env h id ops rest i s = some s' ∧ K s' = some x ∧ (dr = true → Told' P G env h id ops rest i s)
  | [], i, s, K, hh => ⟨s, rfl, hh, fun _ k o ho => by simp at ho⟩
  | o :: os, i, s, K, hh => by
    -- an operation that is done
    have run : wantA ops s.T o = some true → (∃ v H' E', aop' P G env (actOf h id i) o s.T s.H = some (v, H', E') ∧ (dr = true → isEv h id i o = false → H' = s.H ∧ E' = []) ∧ opsK P G env h dr id ops os (i + 1) ⟨putA s.T o.dst v, H', E' ++ s.E⟩ K = some x) →
        ∃ s', opsA P G env h id ops (o :: os) i s = some s' ∧ K s' = some x ∧ (dr = true → Told' P G env h id ops (o :: os) i s) := fun hw hk => by
      obtain ⟨v, H', E', h1, h2, h3⟩ := hk
      have ho : opA P G env h id ops i o s = some ⟨putA s.T o.dst v, H', E' ++ s.E⟩ := by unfold opA; rw [hw]; simp only [h1, Option.map_some]
      obtain ⟨s', k1, k2, k3⟩ := opsK_some os (i + 1) _ K h3
      refine ⟨s', by simp only [opsA, ho, Option.bind_some]; exact k1, k2, fun hdr => told_cons ho (fun hev => ⟨v, ?_⟩) (k3 hdr)⟩
      obtain ⟨rfl, rfl⟩ := h2 hdr hev
      unfold valA; rw [hw]; exact h1
    have skip : wantA ops s.T o = some false → opsK P G env h dr id ops os (i + 1) ⟨putA s.T o.dst (.tup []), s.H, s.E⟩ K = some x →
        ∃ s', opsA P G env h id ops (o :: os) i s = some s' ∧ K s' = some x ∧ (dr = true → Told' P G env h id ops (o :: os) i s) := fun hw h3 => by
      have ho : opA P G env h id ops i o s = some ⟨putA s.T o.dst (.tup []), s.H, s.E⟩ := by unfold opA; rw [hw]
      obtain ⟨s', k1, k2, k3⟩ := opsK_some os (i + 1) _ K h3
      refine ⟨s', by simp only [opsA, ho, Option.bind_some]; exact k1, k2, fun hdr => told_cons ho (fun hev => ⟨.tup [], ?_⟩) (k3 hdr)⟩
      unfold valA; rw [hw]
    have evd : isEv h id i o = true ∨ dr = false → (aopK' P G env (actOf h id i) o s.T s.H fun v H E => gK (isG ops i) v fun v => opsK P G env h dr id ops os (i + 1) ⟨putA s.T o.dst v, H, E ++ s.E⟩ K) = some x →
        ∃ v H' E', aop' P G env (actOf h id i) o s.T s.H = some (v, H', E') ∧ (dr = true → isEv h id i o = false → H' = s.H ∧ E' = []) ∧ opsK P G env h dr id ops os (i + 1) ⟨putA s.T o.dst v, H', E' ++ s.E⟩ K = some x := fun he hk => by
      obtain ⟨⟨v, H', E'⟩, h1, h2⟩ := aopK'_some hk
      refine ⟨v, H', E', h1, fun hdr hev => ?_, gK_some h2⟩
      rcases he with he | he
      · rw [he] at hev; cases hev
      · rw [he] at hdr; cases hdr
    have rdd : isEv h id i o = false → (aopD P G env (actOf h id i) o s.T s.H fun v H E => gK (isG ops i) v fun v => opsK P G env h dr id ops os (i + 1) ⟨putA s.T o.dst v, H, E ++ s.E⟩ K) = some x →
        ∃ v H' E', aop' P G env (actOf h id i) o s.T s.H = some (v, H', E') ∧ (dr = true → isEv h id i o = false → H' = s.H ∧ E' = []) ∧ opsK P G env h dr id ops os (i + 1) ⟨putA s.T o.dst v, H', E' ++ s.E⟩ K = some x := fun he hk => by
      obtain ⟨v, h1, h2⟩ := aopD_some he hk
      exact ⟨v, s.H, [], h1, fun _ _ => ⟨rfl, rfl⟩, gK_some h2⟩
    rw [opsK.eq_def] at hh
    simp only at hh
    have hwant : (wantK ops s.T o = 0 → wantA ops s.T o = some false) ∧ (wantK ops s.T o = 1 → wantA ops s.T o = some true) := by
      unfold wantK wantA
      cases hg : o.guard with
      | none => simp
      | some g =>
        obtain ⟨j, want⟩ := g
        simp only
        cases hd : (ops[j]?).bind (·.dst) with
        | none => simp
        | some d =>
          simp only
          cases hT : s.T[d]? with
          | none => simp
          | some v =>
            cases v <;> simp
            rename_i b
            cases b <;> cases want <;> simp
    split at hh
    · rename_i hw; exact skip (hwant.1 hw) hh
    · rename_i hw
      refine run (hwant.2 hw) ?_
      rcases Bool.eq_false_or_eq_true dr with hdr | hdr
      · rw [hdr] at hh
        rcases Bool.eq_false_or_eq_true (isEv h id i o) with he | he
        · rw [he] at hh; exact evd (.inl he) (by rw [hdr]; exact hh)
        · rw [he] at hh; exact rdd he (by rw [hdr]; exact hh)
      · rw [hdr] at hh; exact evd (.inr hdr) (by rw [hdr]; exact hh)
    · cases hh

theorem drawF_ok {id : Nat} {ops : Array Oper} {s : St} (hf : drawF P h id ops = true) (ht : Told' P G env h id ops ops.toList 0 s) : DrawOk P G env h id ops s := by
  unfold drawF at hf
  simp only [Bool.and_eq_true, List.all_eq_true, beq_iff_eq] at hf
  obtain ⟨⟨h1, h2⟩, h3⟩ := hf
  refine ⟨h1, h2, fun p hp => ?_⟩
  have e := h3 p hp
  have hev : ∃ o, ops[p.1]? = some o ∧ isEv h id p.1 o = false := by
    unfold drawQ at hp
    simp only [List.mem_flatMap, List.mem_range] at hp
    obtain ⟨i, hi, hp⟩ := hp
    cases ho : ops[i]? with
    | none => rw [ho] at hp; simp at hp
    | some o =>
      rw [ho] at hp
      simp only at hp
      split at hp
      · simp at hp
      · rename_i hn
        simp only [Bool.or_eq_true, not_or, Bool.not_eq_true] at hn
        have : p.1 = i := by
          simp only [List.mem_cons, List.mem_filterMap] at hp
          rcases hp with rfl | ⟨e', _, hp⟩
          · rfl
          · split at hp
            · split at hp
              · cases hp
              · injection hp with hp; rw [← hp]
            · split at hp
              · cases hp
              · injection hp with hp; rw [← hp]
        exact ⟨o, by rw [this]; exact ho, by rw [this]; exact hn.1⟩
  obtain ⟨o, ho, hev⟩ := hev
  obtain ⟨sj, r, k1, k2⟩ := ht p.1 o (by simpa using ho) (by simpa using hev)
  simp only [Nat.zero_add] at k2
  exact ⟨o, sj, sj, r, ho, k1, by rw [← e]; exact k1, k2, k2⟩

theorem drawK_some {p : Prop} {v : Option β} {x : β} (hh : drawK p v = some x) : p ∧ v = some x := by
  unfold drawK at hh
  split at hh
  · exact ⟨by assumption, hh⟩
  · cases hh
/-! ### regions with readings that meet several heaps -/
theorem againK_some {id : Nat} {H : List AObj} {k : Option β} {x : β} : ∀ {l : List (Nat × Oper × List AV × AV)}, againK P G env h id H k l = some x → k = some x ∧ ∀ p ∈ l, (aopD P G env (actOf h id p.1) p.2.1 p.2.2.1 H fun v _ _ => some v) = some p.2.2.2
  | [], hh => ⟨hh, fun p hp => by simp at hp⟩
  | p :: rest, hh => by
    obtain ⟨h1, h2⟩ := drawK_some hh
    obtain ⟨k1, k2⟩ := againK_some h2
    exact ⟨k1, fun q hq => by rcases List.mem_cons.1 hq with rfl | hq
                              · exact h1
                              · exact k2 q hq⟩
theorem beforeK_some {act : Nat} {o : Oper} {T : List AV} {v : AV} {k : Option β} {x : β} : ∀ {l : List (Nat × List AObj)}, beforeK P G env act o T v k l = some x → k = some x ∧ ∀ p ∈ l, (aopD P G env act o T p.2 fun v _ _ => some v) = some v
  | [], hh => ⟨hh, fun p hp => by simp at hp⟩
  | p :: rest, hh => by
    obtain ⟨h1, h2⟩ := drawK_some hh
    obtain ⟨k1, k2⟩ := beforeK_some h2
    exact ⟨k1, fun q hq => by rcases List.mem_cons.1 hq with rfl | hq
                              · exact h1
                              · exact k2 q hq⟩
theorem gK_some' {g : Bool} {v : AV} {f : AV → Option β} {x : β} (hh : gK g v f = some x) : f v = some x := gK_some hh
theorem want_eq (ops : Array Oper) (T : List AV) (o : Oper) : (wantK ops T o = 0 → wantA ops T o = some false) ∧ (wantK ops T o = 1 → wantA ops T o = some true) := by
  unfold wantK wantA
  cases hg : o.guard with
  | none => simp
  | some g =>
    obtain ⟨j, want⟩ := g
    simp only
    cases hd : (ops[j]?).bind (·.dst) with
    | none => simp
    | some d =>
      simp only
      cases hT : T[d]? with
      | none => simp
      | some v =>
        cases v <;> simp
        rename_i b
        cases b <;> cases want <;> simp
theorem aopD_at {o : Oper} {T : List AV} {H : List AObj} {v : AV} {id i : Nat} {ops : Array Oper} (hev : isEv h id i o = false) (hw : wantA ops T o = some true) (hh : (aopD P G env (actOf h id i) o T H fun v _ _ => some v) = some v) : valA P G env h id ops i o T H = some (v, H, []) := by
  obtain ⟨v', h1, h2⟩ := aopD_some hev hh
  injection h2 with h2; subst h2
  unfold valA; rw [hw]; exact h1

structure RInv (P : Program) (G : Nat → Option (List AV)) (env : Env) (h : Hint) (id : Nat) (ops : Array Oper) (s0 : St) (i : Nat) (s : St) (hs : List (Nat × List AObj)) (pe : List (Nat × Oper × List AV × AV)) : Prop where
  st : stA P G env h id ops s0 i = some s
  hv : ∀ e, e < i → e ∈ evL h id ops → ∃ se, stA P G env h id ops s0 e = some se ∧ (e, se.H) ∈ hs
  pv : ∀ k, k < i → ∀ o, ops[k]? = some o → isEv h id k o = false → noH o = false → ∃ sk r, stA P G env h id ops s0 k = some sk ∧
    ((wantA ops sk.T o = some true ∧ (k, o, sk.T, r) ∈ pe ∧ valA P G env h id ops k o sk.T sk.H = some (r, sk.H, [])) ∨ ∀ H, valA P G env h id ops k o sk.T H = some (r, H, []))
  dq : ∀ p ∈ drawQ h id ops, p.1 < i → p.2 ≤ i → DrawAt P G env h id ops s0 p

theorem drawQ_of {id : Nat} {ops : Array Oper} {p : Nat × Nat} (hp : p ∈ drawQ h id ops) : ∃ o, ops[p.1]? = some o ∧ isEv h id p.1 o = false ∧ noH o = false ∧
    (p.2 = p.1 ∨ (p.2 ∈ evL h id ops ∧ p.2 < p.1 ∧ ((ancL ops ops.size).getD p.1 []).contains p.2 = false) ∨ ∃ e, p.2 = e + 1 ∧ e ∈ evL h id ops ∧ p.1 ≤ e ∧ ((ancL ops ops.size).getD e []).contains p.1 = false) := by
  unfold drawQ at hp
  simp only [List.mem_flatMap, List.mem_range] at hp
  obtain ⟨i, hi, hp⟩ := hp
  cases ho : ops[i]? with
  | none => rw [ho] at hp; simp at hp
  | some o =>
    rw [ho] at hp
    simp only at hp
    split at hp
    · simp at hp
    · rename_i hn
      simp only [Bool.or_eq_true, not_or, Bool.not_eq_true] at hn
      simp only [List.mem_cons, List.mem_filterMap] at hp
      rcases hp with rfl | ⟨e, he, hp⟩
      · exact ⟨o, ho, hn.1, hn.2, .inl rfl⟩
      · split at hp
        · rename_i hlt
          split at hp
          · cases hp
          · rename_i hc
            injection hp with hp; subst hp
            exact ⟨o, ho, hn.1, hn.2, .inr (.inl ⟨he, hlt, by simpa using hc⟩)⟩
        · rename_i hlt
          split at hp
          · cases hp
          · rename_i hc
            injection hp with hp; subst hp
            exact ⟨o, ho, hn.1, hn.2, .inr (.inr ⟨e, rfl, he, by omega, by simpa using hc⟩)⟩

theorem evL_of {id : Nat} {ops : Array Oper} {e : Nat} {o : Oper} (ho : ops[e]? = some o) : e ∈ evL h id ops ↔ isEv h id e o = true := by
  unfold evL
  simp only [List.mem_filter, List.mem_range, ho]
  exact ⟨fun h => h.2, fun h => ⟨(Array.getElem?_eq_some_iff.1 ho).1, h⟩⟩

theorem RInv.ev {id : Nat} {ops : Array Oper} {s0 s s1 : St} {i : Nat} {o : Oper} {hs : List (Nat × List AObj)} {pe : List (Nat × Oper × List AV × AV)} (I : RInv P G env h id ops s0 i s hs pe) (ho : ops[i]? = some o) (hev : isEv h id i o = true)
    (h1 : opA P G env h id ops i o s = some s1) (hag : ∀ p ∈ pe.filter (fun p => !((ancL ops ops.size).getD i []).contains p.1), (aopD P G env (actOf h id p.1) p.2.1 p.2.2.1 s1.H fun v _ _ => some v) = some p.2.2.2) :
    RInv P G env h id ops s0 (i + 1) s1 (hs ++ [(i, s.H)]) pe := by
  have hst : stA P G env h id ops s0 (i + 1) = some s1 := by rw [stA_succ ho, I.st]; exact h1
  refine ⟨hst, fun e he hm => ?_, fun k hk o' ho' he hn => ?_, fun p hp h2 h3 => ?_⟩
  · rcases Nat.lt_or_ge e i with hlt | hge
    · obtain ⟨se, k1, k2⟩ := I.hv e hlt hm
      exact ⟨se, k1, List.mem_append_left _ k2⟩
    · obtain rfl : e = i := by omega
      exact ⟨s, I.st, by simp⟩
  · rcases Nat.lt_or_ge k i with hlt | hge
    · exact I.pv k hlt o' ho' he hn
    · obtain rfl : k = i := by omega
      rw [ho] at ho'; injection ho' with ho'; subst ho'; rw [hev] at he; cases he
  · obtain ⟨o', ho', he', hn', hc⟩ := drawQ_of hp
    rcases Nat.lt_or_ge p.1 i with hlt | hge
    · rcases Nat.lt_or_ge i p.2 with hl2 | hg2
      · have e2 : p.2 = i + 1 := by omega
        rcases hc with hc | ⟨_, hc, _⟩ | ⟨e, hc, hm, hle, hA⟩
        · omega
        · omega
        · obtain rfl : e = i := by omega
          obtain ⟨sk, r, k1, k2⟩ := I.pv p.1 hlt o' ho' he' hn'
          rcases k2 with ⟨kw, kp, kv⟩ | kv
          · have := hag _ (List.mem_filter.2 ⟨kp, by simp only [hA, Bool.not_false]⟩)
            exact ⟨o', sk, s1, r, ho', k1, by rw [e2]; exact hst, kv, aopD_at he' kw this⟩
          · exact ⟨o', sk, s1, r, ho', k1, by rw [e2]; exact hst, kv _, kv _⟩
      · exact I.dq p hp hlt hg2
    · have e1 : p.1 = i := by omega
      rw [e1, ho] at ho'; injection ho' with ho'; subst ho'; rw [e1, hev] at he'; cases he'

theorem RInv.rd {id : Nat} {ops : Array Oper} {s0 s s1 : St} {i : Nat} {o : Oper} {hs : List (Nat × List AObj)} {pe pe' : List (Nat × Oper × List AV × AV)} (I : RInv P G env h id ops s0 i s hs pe) (ho : ops[i]? = some o) (hev : isEv h id i o = false)
    (h1 : opA P G env h id ops i o s = some s1) (hsub : ∀ p ∈ pe, p ∈ pe')
    (hv : noH o = false → ∃ r, ((wantA ops s.T o = some true ∧ (i, o, s.T, r) ∈ pe' ∧ valA P G env h id ops i o s.T s.H = some (r, s.H, []) ∧ ∀ p ∈ hs.filter (fun p => !((ancL ops ops.size).getD i []).contains p.1), (aopD P G env (actOf h id i) o s.T p.2 fun v _ _ => some v) = some r) ∨ ∀ H, valA P G env h id ops i o s.T H = some (r, H, []))) :
    RInv P G env h id ops s0 (i + 1) s1 hs pe' := by
  have hst : stA P G env h id ops s0 (i + 1) = some s1 := by rw [stA_succ ho, I.st]; exact h1
  refine ⟨hst, fun e he hm => ?_, fun k hk o' ho' he hn => ?_, fun p hp h2 h3 => ?_⟩
  · rcases Nat.lt_or_ge e i with hlt | hge
    · exact I.hv e hlt hm
    · obtain rfl : e = i := by omega
      rw [evL_of ho, hev] at hm; cases hm
  · rcases Nat.lt_or_ge k i with hlt | hge
    · obtain ⟨sk, r, k1, k2⟩ := I.pv k hlt o' ho' he hn
      exact ⟨sk, r, k1, k2.imp (fun k => ⟨k.1, hsub _ k.2.1, k.2.2⟩) fun k => k⟩
    · obtain rfl : k = i := by omega
      rw [ho] at ho'; injection ho' with ho'; subst ho'
      obtain ⟨r, hr⟩ := hv hn
      exact ⟨s, r, I.st, hr.imp (fun k => ⟨k.1, k.2.1, k.2.2.1⟩) fun k => k⟩
  · obtain ⟨o', ho', he', hn', hc⟩ := drawQ_of hp
    rcases Nat.lt_or_ge p.1 i with hlt | hge
    · rcases Nat.lt_or_ge i p.2 with hl2 | hg2
      · rcases hc with hc | ⟨_, hc, _⟩ | ⟨e, hc, hm, hle, hA⟩
        · omega
        · omega
        · obtain rfl : e = i := by omega
          rw [evL_of ho, hev] at hm; cases hm
      · exact I.dq p hp hlt hg2
    · have e1 : p.1 = i := by omega
      rw [e1, ho] at ho'; injection ho' with ho'; subst ho'
      obtain ⟨r, hr⟩ := hv hn'
      rcases hc with hc | ⟨hm, hlt, hA⟩ | ⟨e, hc, hm, hle, hA⟩
      · refine ⟨o, s, s, r, by rw [e1]; exact ho, by rw [e1]; exact I.st, by rw [hc, e1]; exact I.st, ?_, ?_⟩ <;> rw [e1] <;>
          exact hr.elim (fun k => k.2.2.1) (fun k => k _)
      · obtain ⟨se, k1, k2⟩ := I.hv p.2 (by omega) hm
        refine ⟨o, s, se, r, by rw [e1]; exact ho, by rw [e1]; exact I.st, k1, by rw [e1]; exact hr.elim (fun k => k.2.2.1) (fun k => k _), ?_⟩
        rw [e1]
        rcases hr with ⟨kw, _, _, kb⟩ | kv
        · rw [e1] at hA
          exact aopD_at hev kw (kb _ (List.mem_filter.2 ⟨k2, by simp only [hA, Bool.not_false]⟩))
        · exact kv _
      · exfalso
        have : e = i := by omega
        subst this
        rw [evL_of ho, hev] at hm; cases hm

theorem opsR_some {id : Nat} {ops : Array Oper} {x : β} {s0 : St} : ∀ (rest : List Oper) (i : Nat) (s : St) (hs : List (Nat × List AObj)) (pe : List (Nat × Oper × List AV × AV)) (K : St → Option β),
    opsR P G env h id ops (ancL ops ops.size) rest i s hs pe K = some x → (∀ k, rest[k]? = ops[i + k]?) → RInv P G env h id ops s0 i s hs pe →
    ∃ s' hs' pe', opsA P G env h id ops rest i s = some s' ∧ K s' = some x ∧ RInv P G env h id ops s0 (i + rest.length) s' hs' pe'
  | [], i, s, hs, pe, K, hh, hr, I => ⟨s, hs, pe, rfl, hh, I⟩
  | o :: os, i, s, hs, pe, K, hh, hr, I => by
    have ho : ops[i]? = some o := by have := hr 0; simpa using this.symm
    have hr' : ∀ k, os[k]? = ops[i + 1 + k]? := fun k => by have := hr (k + 1); rw [List.getElem?_cons_succ] at this; rw [this]; congr 1; omega
    have fin : ∀ {s1 : St} {hs1 : List (Nat × List AObj)} {pe1 : List (Nat × Oper × List AV × AV)}, opA P G env h id ops i o s = some s1 → RInv P G env h id ops s0 (i + 1) s1 hs1 pe1 → opsR P G env h id ops (ancL ops ops.size) os (i + 1) s1 hs1 pe1 K = some x →
        ∃ s' hs' pe', opsA P G env h id ops (o :: os) i s = some s' ∧ K s' = some x ∧ RInv P G env h id ops s0 (i + (o :: os).length) s' hs' pe' := fun h1 h2 h3 => by
      obtain ⟨s', hs', pe', k1, k2, k3⟩ := opsR_some os (i + 1) _ _ _ K h3 hr' h2
      exact ⟨s', hs', pe', by simp only [opsA, h1, Option.bind_some]; exact k1, k2, by rw [List.length_cons, show i + (os.length + 1) = i + 1 + os.length by omega]; exact k3⟩
    rw [opsR.eq_def] at hh
    simp only at hh
    split at hh
    · rename_i hev
      split at hh
      · rename_i hw
        have ha := (want_eq ops s.T o).1 hw
        have h1 : opA P G env h id ops i o s = some ⟨putA s.T o.dst (.tup []), s.H, s.E⟩ := by unfold opA; rw [ha]
        obtain ⟨k1, k2⟩ := againK_some hh
        exact fin h1 (I.ev ho hev h1 k2) k1
      · rename_i hw
        have ha := (want_eq ops s.T o).2 hw
        obtain ⟨⟨v, H', E'⟩, e1, e2⟩ := aopK'_some hh
        have e3 := gK_some e2
        have h1 : opA P G env h id ops i o s = some ⟨putA s.T o.dst v, H', E' ++ s.E⟩ := by unfold opA; rw [ha]; simp only [e1, Option.map_some]
        obtain ⟨k1, k2⟩ := againK_some e3
        exact fin h1 (I.ev ho hev h1 k2) k1
      · cases hh
    · rename_i hev
      split at hh
      · rename_i hw
        have ha := (want_eq ops s.T o).1 hw
        have h1 : opA P G env h id ops i o s = some ⟨putA s.T o.dst (.tup []), s.H, s.E⟩ := by unfold opA; rw [ha]
        exact fin h1 (I.rd ho hev h1 (fun p hp => hp) fun _ => ⟨.tup [], .inr fun H => by unfold valA; rw [ha]⟩) hh
      · rename_i hw
        have ha := (want_eq ops s.T o).2 hw
        obtain ⟨v, e1, e2⟩ := aopD_some hev hh
        have e3 := gK_some e2
        have h1 : opA P G env h id ops i o s = some ⟨putA s.T o.dst v, s.H, [] ++ s.E⟩ := by unfold opA; rw [ha]; simp only [e1, Option.map_some]
        have hval : valA P G env h id ops i o s.T s.H = some (v, s.H, []) := by unfold valA; rw [ha]; exact e1
        split at e3
        · rename_i hn
          exact fin h1 (I.rd ho hev h1 (fun p hp => hp) fun hn' => by rw [hn] at hn'; cases hn') e3
        · rename_i hn
          obtain ⟨k1, k2⟩ := beforeK_some e3
          exact fin h1 (I.rd ho hev h1 (fun p hp => List.mem_append_left _ hp) fun _ => ⟨v, .inl ⟨ha, by simp, hval, k2⟩⟩) k1
      · cases hh
theorem RInv.zero {id : Nat} {ops : Array Oper} {s : St} : RInv P G env h id ops s 0 s [] [] := by
  refine ⟨by simp [stA, opsA], fun e he => by omega, fun k hk => by omega, fun p hp h1 => by omega⟩

theorem region_some {fn : Func} {id : Nat} {ops : Array Oper} {draw : Bool} {s : St} {K : Out → Option β} {x : β} (hh : runK P G env h fn (.region id ops draw) s K = some x) :
    ∃ s', runC P G env h fn (.region id ops draw) s = some (.nrm s') ∧ K (.nrm s') = some x := by
  simp only [runK] at hh
  simp only [runC]
  split at hh
  · split at hh
    · rename_i hf
      obtain ⟨s', h1, h2, h3⟩ := opsK_some _ _ _ _ hh
      exact ⟨s', by rw [h1]; simp only [Option.bind_some, if_true]; rw [if_pos (drawF_ok hf (h3 rfl))], h2⟩
    · split at hh
      · rename_i hf
        simp only [Bool.and_eq_true] at hf
        obtain ⟨s', hs', pe', h1, h2, h3⟩ := opsR_some (s0 := s) _ _ _ _ _ _ hh (fun k => by simp) RInv.zero
        have hd : DrawOk P G env h id ops s := ⟨hf.1, hf.2, fun p hp => by
          obtain ⟨o, ho, _, _, hc⟩ := drawQ_of hp
          have hlt := (Array.getElem?_eq_some_iff.1 ho).1
          have hl : 0 + ops.toList.length = ops.size := by simp
          refine h3.dq p hp (by omega) ?_
          rcases hc with hc | ⟨_, hc, _⟩ | ⟨e, hc, hm, _, _⟩
          · omega
          · omega
          · have : e < ops.size := by unfold evL at hm; simpa using (List.mem_filter.1 hm).1
            omega⟩
        exact ⟨s', by rw [h1]; simp only [Option.bind_some, if_true]; rw [if_pos hd], h2⟩
      · cases hh
  · obtain ⟨s', h1, h2, _⟩ := opsK_some _ _ _ _ hh
    exact ⟨s', by rw [h1]; rfl, h2⟩

theorem resK_some {s : St} {x : β} : ∀ (rs : List ResultVar) (vs : List AV) (K : List AV → Option β), resK P s rs vs K = some x → ∃ us, rs.mapM (resA1 P s) = some us ∧ K (vs ++ us) = some x
  | [], vs, K, hh => ⟨[], by simp, by rw [List.append_nil]; exact hh⟩
  | .tmp t :: rs, vs, K, hh => by
    obtain ⟨us, h1, h2⟩ := resK_some rs _ K hh
    exact ⟨s.T.getD t (.tup []) :: us, by simp [List.mapM_cons, resA1, h1], by simpa using h2⟩
  | .cell a t :: rs, vs, K, hh => by
    simp only [resK] at hh
    split at hh
    · rename_i z hz
      obtain ⟨v, h1, h2⟩ := bind_s hh
      obtain ⟨us, h3, h4⟩ := resK_some rs _ K h2
      exact ⟨v :: us, by rw [List.mapM_cons]; simp only [resA1, hz, Option.bind_some, h1, h3]; rfl, by simpa using h4⟩
    · cases hh
theorem resA_some {fn : Func} {s : St} {K : AV → Option β} {x : β} (hh : (resK P s fn.results.toList [] fun vs => K (oneR vs)) = some x) : ∃ r, resA P fn s = some r ∧ K r = some x := by
  obtain ⟨us, h1, h2⟩ := resK_some _ _ _ hh
  refine ⟨oneR us, ?_, by simpa using h2⟩
  unfold resA
  rw [h1]
  simp only [Option.map_some, Option.some.injEq]
  unfold oneR
  rcases us with _ | ⟨v, _ | ⟨w, us⟩⟩ <;> rfl

theorem condK_some {v : AV} {a b : Option β} {x : β} (hh : condK v a b = some x) : (v = .bool true ∧ a = some x) ∨ (v = .bool false ∧ b = some x) := by
  unfold condK at hh
  split at hh
  · exact .inl ⟨rfl, hh⟩
  · exact .inr ⟨rfl, hh⟩
  · cases hh
theorem condB_some {b : Bool} {v : Option β} {x : β} (hh : condB b v = some x) : b = true ∧ v = some x := by
  unfold condB at hh
  split at hh
  · exact ⟨rfl, hh⟩
  · cases hh
theorem setB_self {T : List AV} {c : Operand} {b : Bool} (hc : evA G T c = .bool b) : setB T c b = T := by
  unfold setB
  split
  · rename_i t
    simp only [evA, List.getD] at hc
    cases ht : T[t]? with
    | none => rw [ht] at hc; cases hc
    | some v =>
      rw [ht] at hc
      simp only [Option.getD_some] at hc
      subst hc
      exact set_self ht
  · rfl
theorem rndK_some {k : Nat} {s : St} {o : Out} {K : Out → Option β} {x : β} (hh : rndK h k s.H s.E K o = some x) : ∃ o', roundA h k s o = some o' ∧ K o' = some x := by
  unfold rndK at hh
  unfold roundA
  split at hh
  · split at hh
    · rename_i ts hl
      rw [hl]
      simp only
      split at hh
      · rename_i ho
        rw [if_pos ho]
        exact ⟨_, rfl, hh⟩
      · rename_i ho
        obtain ⟨hb, hh⟩ := condB_some hh
        simp only [Bool.and_eq_true] at hb
        rw [if_neg (by rw [ho]; decide), if_pos ⟨hb.2, hb.1⟩]
        exact ⟨_, rfl, hh⟩
    · rename_i hl
      rw [hl]
      exact ⟨_, rfl, hh⟩
  · exact ⟨_, rfl, hh⟩
  · exact ⟨_, rfl, hh⟩

theorem runK_some {fn : Func} {x : β} : ∀ (c : Code) (s : St) (K : Out → Option β), runK P G env h fn c s K = some x → ∃ o, runC P G env h fn c s = some o ∧ K o = some x := by
  intro c
  induction c with
  | skip => intro s K hh; exact ⟨_, rfl, hh⟩
  | label l => intro s K hh; exact ⟨_, rfl, hh⟩
  | region id ops draw =>
    intro s K hh
    obtain ⟨s', h1, h2⟩ := region_some hh
    exact ⟨_, h1, h2⟩
  | seq a b iha ihb =>
    intro s K hh
    simp only [runK] at hh
    obtain ⟨o, h1, h2⟩ := iha _ _ hh
    simp only [runC, h1, Option.bind_some]
    cases o with
    | nrm s' => exact ihb _ _ h2
    | ret r H E => exact ⟨_, rfl, h2⟩
    | ext i s' => exact ⟨_, rfl, h2⟩
  | cond c a b iha ihb =>
    intro s K hh
    simp only [runK] at hh
    simp only [runC]
    rcases condK_some hh with ⟨hc, hh⟩ | ⟨hc, hh⟩
    · rw [setB_self hc] at hh
      rw [hc]
      exact iha _ _ hh
    · rw [setB_self hc] at hh
      rw [hc]
      exact ihb _ _ hh
  | block id c ih =>
    intro s K hh
    simp only [runK] at hh
    obtain ⟨o, h1, h2⟩ := ih _ _ hh
    simp only [runC, h1, Option.bind_some]
    cases o with
    | nrm s' => exact ⟨_, rfl, h2⟩
    | ret r H E => exact ⟨_, rfl, h2⟩
    | ext i s' =>
      simp only [blkK] at h2
      split at h2
      · rename_i he
        simp only [beq_iff_eq] at he
        exact ⟨_, by simp only [he, if_true], h2⟩
      · rename_i he
        simp only [beq_eq_false_iff_ne] at he
        exact ⟨_, by simp only [he, if_false], h2⟩
  | loop c ih =>
    intro s K hh
    simp only [runK, loopK] at hh
    obtain ⟨o, h1, h2⟩ := bind_s hh
    exact ⟨o, by simp only [runC]; exact h1, h2⟩
  | exit id => intro s K hh; exact ⟨_, rfl, hh⟩
  | ret =>
    intro s K hh
    simp only [runK] at hh
    obtain ⟨r, h1, h2⟩ := resA_some (K := fun r => K (.ret r s.H s.E)) hh
    exact ⟨_, by simp only [runC, h1, Option.map_some], h2⟩
  | _ => intro s K hh; simp only [runK] at hh; cases hh

/-- One round of a loop. -/
theorem loop_step {fn : Func} {c : Code} {K : Out → Option β} {s : St} {x : β}
    (hh : runK P G env h fn c ⟨s.T, s.H, []⟩ (rndK h (firstReg c) s.H s.E (seqK (fun s' => loopK P G env h fn c K s') K)) = some x) : loopK P G env h fn c K s = some x := by
  obtain ⟨o, h1, h2⟩ := runK_some _ _ _ hh
  obtain ⟨o', h3, h4⟩ := rndK_some h2
  unfold loopK
  rw [loopL_eq]
  simp only [h1, Option.bind_some, h3]
  cases o' with
  | nrm s' => exact h4
  | ret r H E => exact h4
  | ext i s' => exact h4

theorem loop_step' {fn : Func} {c : Code} {K : Out → Option β} {s : St} {x : β} {X : Option β}
    (e : runK P G env h fn c ⟨s.T, s.H, []⟩ (rndK h (firstReg c) s.H s.E (seqK (fun s' => loopK P G env h fn c K s') K)) = X) (hh : X = some x) : loopK P G env h fn c K s = some x := loop_step (e.trans hh)
theorem endK_some {fn : Func} {n : Nat} {o : Out} {r : R3} (hh : endK P h fn n o = some r) : (match (generalizing := false) o with
      | .nrm s => (resA P fn s).bind fun r => endA h n r s.H s.E
      | .ret r H' E => endA h n r H' E
      | .ext _ _ => none) = some r := by
  unfold endK at hh
  split at hh
  · obtain ⟨v, h1, h2⟩ := resA_some (K := fun v => endB h.raw h.keep n v _ _) hh
    simp only [h1, Option.bind_some]
    exact h2
  · exact hh
  · cases hh
theorem fnK_some {fn : Func} {args : List AV} {H : List AObj} {r : R3} (hh : fnK P G env h fn args H = some r) : fnA P G env h fn args H = some r := by
  unfold fnK at hh
  unfold fnA
  split at hh
  · rename_i c hb
    obtain ⟨o, h1, h2⟩ := runK_some _ _ _ hh
    simp only [hb, h1, Option.bind_some]
    exact endK_some h2
  · cases hh
end
/-- A function does what its text does. -/
theorem EV_of_fnK {C : Cfg} {f : FuncId} {fn : Func} {a : List AV} {H : List AObj} {r : R3} (hI : C.I f = none) (hf : C.P.funcs[f]? = some fn) (hh : fnK C.P C.G (EV C) (C.hint f) fn a H = some r) : EV C f a H = some r := by
  rw [EV_eq C hI hf]
  exact fnK_some hh
theorem EV_of_fnK' {C : Cfg} {f : FuncId} {fn : Func} {a : List AV} {H : List AObj} {r : R3} {X : Option R3} (hI : C.I f = none) (hf : C.P.funcs[f]? = some fn) (e : fnK C.P C.G (EV C) (C.hint f) fn a H = X) (hh : X = some r) : EV C f a H = some r :=
  EV_of_fnK hI hf (e.trans hh)
end Go.Pm
