/- Soundness of regions whose operations come in any order. -/
import Derived.Test.YtclfnechcblmoaaDoorPm16
namespace Go.Pm
set_option linter.unusedVariables false
set_option linter.unusedSimpArgs false
section
variable {P : Program} {G : Nat → Option (List AV)} {env : Env} {hh : Hint} {id : Nat} {ops : Array Oper}

theorem opA_val (i : Nat) (o : Oper) (s : St) : opA P G env hh id ops i o s = (valA P G env hh id ops i o s.T s.H).map fun r => ⟨putA s.T o.dst r.1, r.2.1, r.2.2 ++ s.E⟩ := by
  unfold opA valA
  cases wantA ops s.T o with
  | none => rfl
  | some b => cases b <;> rfl

/-! ### what it depends on -/
theorem evA_congr {T1 T2 : List AV} {x : Operand} (h : ∀ t, x = .tmp t → T1[t]? = T2[t]?) : evA G T1 x = evA G T2 x := by
  cases x with
  | tmp t => simp only [evA, List.getD, h t rfl]
  | _ => rfl
theorem map_ev {T1 T2 : List AV} {l : List Operand} (h : ∀ x ∈ l, evA G T1 x = evA G T2 x) : l.map (evA G T1) = l.map (evA G T2) := List.map_congr_left h
theorem mapp_ev {T1 T2 : List AV} {l : List (Nat × Operand)} (h : ∀ x ∈ l.map (·.2), evA G T1 x = evA G T2 x) : (l.map fun p => (p.1, evA G T1 p.2)) = l.map fun p => (p.1, evA G T2 p.2) :=
  List.map_congr_left fun p hp => by rw [h p.2 (List.mem_map.2 ⟨p, hp, rfl⟩)]
theorem mapq_ev {T1 T2 : List AV} {l : List (Nat × Operand)} (h : ∀ x ∈ l.map (·.2), evA G T1 x = evA G T2 x) : (l.map fun p => evA G T1 p.2) = l.map fun p => evA G T2 p.2 :=
  List.map_congr_left fun p hp => by rw [h p.2 (List.mem_map.2 ⟨p, hp, rfl⟩)]
theorem aop_congr {T1 T2 : List AV} {act : Nat} {o : Oper} {H : List AObj} (hT : ∀ x ∈ o.op.operands, evA G T1 x = evA G T2 x) : aop P G env act o T1 H = aop P G env act o T2 H := by
  obtain ⟨dst, op, ty, pos, after, guard⟩ := o
  cases op <;> simp only [Op.operands] at hT <;> simp only [aop]
  case build t ps => rw [mapp_ev (l := ps.toList) fun x hx => hT x (by simpa using hx)]
  case buildSlice t n ps => rw [mapp_ev (l := ps.toList) fun x hx => hT x (by simpa using hx), mapq_ev (l := ps.toList) fun x hx => hT x (by simpa using hx)]
  case makeFunc f fi ca =>
    cases f <;> simp only
    rw [map_ev (l := fi.toList) fun x hx => hT x (by simp [Array.mem_toList_iff.1 hx]), map_ev (l := ca.toList) fun x hx => hT x (by simp [Array.mem_toList_iff.1 hx])]
  case slice t x lo hi mx =>
    have e1 := hT x (by simp)
    have e2 : lo.map (evA G T1) = lo.map (evA G T2) := by cases lo with
      | none => rfl
      | some y => simp [hT y (by simp)]
    have e3 : hi.map (evA G T1) = hi.map (evA G T2) := by cases hi with
      | none => rfl
      | some y => simp [hT y (by simp)]
    have e4 : mx.map (evA G T1) = mx.map (evA G T2) := by cases mx with
      | none => rfl
      | some y => simp [hT y (by simp)]
    rw [e1, e2, e3, e4]
  case call c =>
    have ha : c.args.toList.map (evA G T1) = c.args.toList.map (evA G T2) := map_ev fun x hx => hT x (by simp [Call.operands, Array.mem_toList_iff.1 hx])
    cases hc : c.callee with
    | value f => simp only [hT f (by simp [Call.operands, hc]), ha]
    | invoke r m => rfl
    | builtin b =>
      cases b <;> simp only [ha]
      case len =>
        have hl : ∀ x, c.args.toList = [x] → evA G T1 x = evA G T2 x := fun x hx => hT x (by simp [Call.operands, ← Array.mem_toList_iff, hx])
        rcases hcl : c.args.toList with _ | ⟨x, _ | ⟨y, ys⟩⟩
        · rfl
        · have e := hl x hcl
          generalize (c.argTypes[0]?).bind P.underlying = d
          cases d with
          | none => rfl
          | some d => cases d <;> first | rfl | (simp only [e]; done)
        · rfl
      case cap =>
        have hl : ∀ x, c.args.toList = [x] → evA G T1 x = evA G T2 x := fun x hx => hT x (by simp [Call.operands, ← Array.mem_toList_iff, hx])
        rcases hcl : c.args.toList with _ | ⟨x, _ | ⟨y, ys⟩⟩
        · rfl
        · have e := hl x hcl
          generalize (c.argTypes[0]?).bind P.underlying = d
          cases d with
          | none => rfl
          | some d => cases d <;> first | rfl | (simp only [e]; done)
        · rfl
      case append =>
        have hl : ∀ x, x ∈ c.args.toList → evA G T1 x = evA G T2 x := fun x hx => hT x (by simp [Call.operands, Array.mem_toList_iff.1 hx])
        rcases hcl : c.args.toList with _ | ⟨x, _ | ⟨y, _ | ⟨z, zs⟩⟩⟩
        · rfl
        · rfl
        · rw [hcl] at hl
          have e1 := hl x (by simp)
          have e2 := hl y (by simp)
          generalize c.argTypes[0]? = d1
          generalize c.argTypes[1]? = d2
          cases d1 <;> cases d2 <;> first | rfl | (simp only [e1, e2]; done)
        · rfl
  all_goals first
    | rfl
    | (simp only [hT _ (List.mem_toArray.2 (List.mem_singleton.2 rfl))]; done)
    | (simp at hT; simp [hT]; done)
theorem valA_congr {T1 T2 : List AV} {i : Nat} {o : Oper} {H : List AObj} (hT : ∀ t ∈ o.looksAt ops, T1[t]? = T2[t]?) : valA P G env hh id ops i o T1 H = valA P G env hh id ops i o T2 H := by
  have hw : wantA ops T1 o = wantA ops T2 o := by
    unfold wantA
    cases hg : o.guard with
    | none => rfl
    | some g =>
      obtain ⟨j, want⟩ := g
      simp only
      cases hd : (ops[j]?).bind (·.dst) with
      | none => rfl
      | some d => simp only [hT d (by simp [Oper.looksAt, hg, hd])]
  have ha : ∀ act, aop P G env act o T1 H = aop P G env act o T2 H := fun act => aop_congr fun x hx => evA_congr fun t ht => hT t (by
    subst ht
    exact List.mem_append_left _ (List.mem_filterMap.2 ⟨.tmp t, by simpa using hx, rfl⟩))
  unfold valA aop'
  rw [hw]
  simp only [ha]

theorem same_noH {H : List AObj} {v : Option AV} {r : R3} (H' : List AObj) (h : same H v = some r) : r.2 = (H, []) ∧ same H' v = some (r.1, H', []) := by
  unfold same at h ⊢
  cases v with
  | none => cases h
  | some v => simp only [Option.map_some, Option.some.injEq] at h; subst h; exact ⟨rfl, rfl⟩
theorem noH_ok {o : Oper} {T : List AV} {H : List AObj} {r : R3} (H' : List AObj) (hn : noH o = true) (h : aop P G env 0 o T H = some r) : r.2 = (H, []) ∧ aop P G env 0 o T H' = some (r.1, H', []) := by
  cases ho : o.op
  case move x => simp only [aop, ho] at h ⊢; exact same_noH H' h
  case assign x => simp only [aop, ho] at h ⊢; exact same_noH H' h
  case pick c a b =>
    simp only [aop, ho] at h ⊢
    split at h
    · exact same_noH H' h
    · cases h
  case build t ps =>
    simp only [aop, ho] at h ⊢
    split at h
    · split at h
      · rename_i hc; rw [if_pos hc]; exact same_noH H' h
      · cases h
    · split at h
      · rename_i hc
        simp only [Option.bind_eq_some_iff] at h
        obtain ⟨s, h1, h2⟩ := h
        obtain ⟨k1, k2⟩ := same_noH H' h2
        exact ⟨k1, by rw [if_pos hc]; simp only [Option.bind_eq_some_iff]; exact ⟨s, h1, k2⟩⟩
      · cases h
    · cases h
  case binOp op xt x y _ =>
    simp only [aop, ho, Option.bind_eq_some_iff] at h ⊢
    obtain ⟨d, h1, h2⟩ := h
    obtain ⟨k1, k2⟩ := same_noH H' h2
    exact ⟨k1, ⟨d, h1, k2⟩⟩
  case unOp op _ x => simp only [aop, ho] at h ⊢; exact same_noH H' h
  case fieldAddr s x f =>
    simp only [aop, ho] at h ⊢
    split at h
    · simp only [Option.bind_eq_some_iff] at h ⊢
      obtain ⟨d, h1, z, h2, h3⟩ := h
      split at h3
      · rename_i hz
        obtain ⟨k1, k2⟩ := same_noH H' h3
        exact ⟨k1, ⟨d, h1, z, h2, by rw [if_pos hz]; exact k2⟩⟩
      · cases h3
    · cases h
  case field s x f =>
    simp only [aop, ho] at h ⊢
    split at h
    · simp only [Option.bind_eq_some_iff] at h ⊢
      obtain ⟨d, h1, z, h2, h3⟩ := h
      obtain ⟨k1, k2⟩ := same_noH H' h3
      exact ⟨k1, ⟨d, h1, z, h2, k2⟩⟩
    · cases h
  case makeInterface t x =>
    simp only [aop, ho] at h ⊢
    split at h
    · cases h
    · rename_i hi; rw [if_neg hi]; exact same_noH H' h
  case makeFunc f a b =>
    cases f <;> simp only [aop, ho] at h ⊢
    · exact same_noH H' h
    all_goals cases h
  case index t x ix =>
    simp only [aop, ho] at h ⊢
    split at h
    · simp only [Option.bind_eq_some_iff] at h ⊢
      obtain ⟨s, h1, h2⟩ := h
      split at h2
      · rename_i hi
        obtain ⟨k1, k2⟩ := same_noH H' h2
        exact ⟨k1, ⟨s, h1, by rw [if_pos hi]; exact k2⟩⟩
      · cases h2
    · split at h
      · rename_i hi; rw [if_pos hi]; exact same_noH H' h
      · cases h
    · cases h
  case extract x i =>
    simp only [aop, ho] at h ⊢
    split at h
    · exact same_noH H' h
    · cases h
  case typeAssert x a t ok =>
    simp only [aop, ho] at h ⊢
    split at h
    · cases h
    · rename_i hi
      rw [if_neg hi]
      split at h
      · split at h
        · rename_i hu
          simp only [Option.some.injEq] at h
          subst h
          exact ⟨rfl, by rw [if_pos hu]⟩
        · rename_i hu
          split at h
          · rename_i hok
            simp only [Option.bind_eq_some_iff] at h
            obtain ⟨z, h1, h2⟩ := h
            simp only [Option.some.injEq] at h2
            subst h2
            exact ⟨rfl, by rw [if_neg hu, if_pos hok]; simp only [Option.bind_eq_some_iff]; exact ⟨z, h1, rfl⟩⟩
          · cases h
      · split at h
        · rename_i hok
          simp only [Option.bind_eq_some_iff] at h
          obtain ⟨z, h1, h2⟩ := h
          simp only [Option.some.injEq] at h2
          subst h2
          exact ⟨rfl, by rw [if_pos hok]; simp only [Option.bind_eq_some_iff]; exact ⟨z, h1, rfl⟩⟩
        · cases h
      · cases h
  case nilCheck x =>
    simp only [aop, ho] at h ⊢
    split at h <;> first
      | (simp only [Option.some.injEq] at h; subst h; exact ⟨rfl, rfl⟩)
      | cases h
  case call c =>
    cases hc : c.callee with
    | builtin b =>
      cases b <;> simp only [noH, ho, hc, Bool.false_eq_true] at hn
      · simp only [aop, ho, hc] at h ⊢; exact same_noH H' h
      · simp only [aop, ho, hc] at h ⊢; exact same_noH H' h
    | _ => simp [noH, ho, hc] at hn
  all_goals simp [noH, ho] at hn
end
end Go.Pm
