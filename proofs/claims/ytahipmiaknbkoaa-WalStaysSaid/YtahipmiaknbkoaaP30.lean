/- A part of the proof: what the functions of the program answer, as plain lists and numbers. -/
import Derived.Test.YtahipmiaknbkoaaP29
namespace Go.Pm
set_option linter.unusedVariables false
set_option linter.unusedSimpArgs false
theorem tot_put (nm : List UInt8) (f : Fil) : ∀ fs : List (List UInt8 × Fil), totF (putL nm f fs) + ((getL nm fs).getD ⟨[], 0⟩).b.length = totF fs + f.b.length
  | [] => by simp [putL, getL, totF]
  | p :: fs => by
    have ih := tot_put nm f fs
    unfold putL getL
    simp only [totF, List.map_cons, List.sum_cons] at ih ⊢
    split
    · simp only [List.map_cons, List.sum_cons, Option.getD_some]; omega
    · simp only [List.map_cons, List.sum_cons]; omega
theorem mem_put {nm : List UInt8} {f : Fil} : ∀ {fs : List (List UInt8 × Fil)} {p : List UInt8 × Fil}, p ∈ putL nm f fs → p = (nm, f) ∨ p ∈ fs
  | [], p, h => by simp only [putL, List.mem_singleton] at h; exact .inl h
  | q :: fs, p, h => by
    unfold putL at h
    split at h
    · rcases List.mem_cons.1 h with h | h
      · exact .inl h
      · exact .inr (List.mem_cons_of_mem _ h)
    · rcases List.mem_cons.1 h with h | h
      · exact .inr (by rw [h]; exact List.mem_cons_self ..)
      · exact (mem_put h).imp id (List.mem_cons_of_mem _)
theorem put_nd {nm : List UInt8} {f : Fil} {fs : List (List UInt8 × Fil)} (h : (fs.map (·.1)).Nodup) : ((putL nm f fs).map (·.1)).Nodup := by
  rw [putL_keys]
  split
  · rename_i hn
    rw [List.nodup_append]
    refine ⟨h, by simp, fun a ha b hb => ?_⟩
    simp only [List.mem_singleton] at hb
    subst hb
    obtain ⟨p, hp, rfl⟩ := List.mem_map.1 ha
    exact fun e => getL_none.1 hn p hp e
  · exact h
theorem put_len {nm : List UInt8} {f : Fil} : ∀ (fs : List (List UInt8 × Fil)), (putL nm f fs).length = if getL nm fs = none then fs.length + 1 else fs.length
  | [] => rfl
  | q :: fs => by
    unfold putL getL
    split
    · simp
    · simp only [List.length_cons, put_len fs]
      split <;> rfl
theorem del_sub {α β : Type} [DecidableEq α] (k : α) : ∀ l : List (α × β), (delL k l).Sublist l
  | [] => List.Sublist.refl _
  | p :: l => by
    unfold delL
    split
    · exact List.sublist_cons_self _ _
    · exact (del_sub k l).cons_cons _
theorem tot_sub {a b : List (List UInt8 × Fil)} (h : a.Sublist b) : totF a ≤ totF b := by
  induction h with
  | slnil => exact Nat.le_refl _
  | cons p h ih => simp only [totF, List.map_cons, List.sum_cons] at ih ⊢; omega
  | cons_cons p h ih => simp only [totF, List.map_cons, List.sum_cons] at ih ⊢; omega
theorem newD_ok {sz : Int} (h0 : 0 ≤ sz) (h1 : sz < 2^40) : (newD sz).ok := ⟨h0, h1, by simp [newD, totF]; exact h0, by simp [newD], by simp [newD], by simp [newD], by simp [newD]⟩
theorem stepD_ok {d : Dk} (h : d.ok) : (stepF d).2.ok := by
  have e1 := step_fs d; have e2 := step_sz d
  exact ⟨by rw [e2]; exact h.s0, by rw [e2]; exact h.s1, by rw [e1, e2]; exact h.t, by rw [e1]; exact h.nd, by rw [e1]; exact h.n8, by rw [e1]; exact h.sy, by rw [e1]; exact h.nl⟩
theorem put_ok {d : Dk} (h : d.ok) {nm : List UInt8} {f : Fil} (ht : (f.b.length : Int) ≤ (fileOf nm d).b.length + roomOf d) (h8 : getL nm d.fs = none → d.fs.length < 8) (hs : 0 ≤ f.sy ∧ f.sy ≤ f.b.length) (hn : nm.length < 2^40) : (putF d nm f).ok := by
  have t1 := tot_put nm f d.fs
  have t2 := h.t
  have t3 := h.n8
  unfold roomOf fileOf at ht
  refine ⟨h.s0, h.s1, ?_, put_nd h.nd, ?_, fun p hp => ?_, fun p hp => ?_⟩
  · show ((totF (putL nm f d.fs) : Nat) : Int) ≤ d.sz; omega
  · show (putL nm f d.fs).length ≤ 8
    rw [put_len]; split
    · have := h8 ‹_›; omega
    · exact t3
  · rcases mem_put hp with rfl | hp
    · exact hs
    · exact h.sy p hp
  · rcases mem_put hp with rfl | hp
    · exact hn
    · exact h.nl p hp
theorem named_len {nm : List UInt8} (h : namedF nm = true) : nm.length < 2^40 := by
  unfold namedF at h
  simp only [Bool.and_eq_true, decide_eq_true_eq] at h
  omega
theorem file_ok {d : Dk} (h : d.ok) (nm : List UInt8) : 0 ≤ (fileOf nm d).sy ∧ (fileOf nm d).sy ≤ (fileOf nm d).b.length := by
  unfold fileOf
  cases hg : getL nm d.fs with
  | none => simp
  | some f => exact h.sy _ (getL_mem hg)
theorem append_ok' {d : Dk} (h : d.ok) (nm b : List UInt8) : (appendF d nm b).2.ok := by
  unfold appendF
  split
  · exact h
  · split
    · split
      · exact h
      · rename_i hr
        split
        · exact h
        · rename_i hn
          have hf := file_ok h nm
          refine stepD_ok (put_ok h (by simp only [List.length_append]; omega) (fun e => ?_) ⟨hf.1, by simp only [List.length_append]; omega⟩ (named_len ‹_›))
          rw [e] at hn
          simp only [Option.isNone_none, true_and] at hn
          omega
    · exact h
theorem get_of_there {d : Dk} {nm : List UInt8} (h : thereF d nm = 0) : getL nm d.fs = some (fileOf nm d) := by
  obtain ⟨f, hf, _⟩ := there_some h
  unfold fileOf; rw [hf]; rfl
theorem file_step (d : Dk) (nm : List UInt8) : fileOf nm (stepF d).2 = fileOf nm d := by unfold fileOf; rw [step_fs]
theorem room_nn {d : Dk} (h : d.ok) : 0 ≤ roomOf d := by have := h.t; unfold roomOf; omega
theorem sync_ok {d : Dk} (h : d.ok) (nm : List UInt8) : (syncF d nm).2.ok := by
  unfold syncF
  split
  · rename_i ht
    split
    · have hs := stepD_ok h
      have hr := room_nn hs
      refine put_ok hs ?_ (fun e => ?_) ⟨by simp, by simp⟩ (h.nl _ (getL_mem (get_of_there ht)))
      · rw [file_step]; show ((fileOf nm d).b.length : Int) ≤ _; omega
      · rw [step_fs, get_of_there ht] at e; cases e
    · exact stepD_ok h
  · exact h
theorem subD_ok {d d' : Dk} (h : d.ok) (hs : d'.fs.Sublist d.fs) (e : d'.sz = d.sz) : d'.ok := by
  have h1 := tot_sub hs; have h2 := h.t; have h3 := hs.length_le; have h4 := h.n8
  exact ⟨by rw [e]; exact h.s0, by rw [e]; exact h.s1, by rw [e]; omega, (hs.map _).nodup h.nd, by omega, fun p hp => h.sy p (hs.subset hp), fun p hp => h.nl p (hs.subset hp)⟩
theorem remove_ok {d : Dk} (h : d.ok) (nm : List UInt8) : (removeF d nm).2.ok := by
  unfold removeF
  split
  · split
    · exact subD_ok h (del_sub nm d.fs) (step_sz d)
    · exact stepD_ok h
  · exact h
end Go.Pm
