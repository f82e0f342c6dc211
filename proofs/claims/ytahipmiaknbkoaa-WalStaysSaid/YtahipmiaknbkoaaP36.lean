/- A part of the proof: what the functions of the program answer, as plain lists and numbers. -/
import Derived.Test.YtahipmiaknbkoaaP35
namespace Go.Pm
set_option linter.unusedVariables false
set_option linter.unusedSimpArgs false
def Free (n : Int) (d : Dk) : Prop := d.off = false ∧ (d.has = false ∨ (n ≤ d.bud ∧ d.bud < 2^62))
theorem Free.mono {n m : Int} {d : Dk} (h : Free n d) (hm : m ≤ n) : Free m d := ⟨h.1, h.2.imp id fun q => ⟨by omega, q.2⟩⟩
theorem step_free {d : Dk} {n : Int} (h : Free (n + 1) d) (h0 : 0 ≤ n) : (stepF d).1 = true ∧ Free n (stepF d).2 := by
  obtain ⟨h1, h2⟩ := h
  unfold stepF Free
  cases hh : d.has with
  | false => simp [hh, h1]
  | true =>
    rcases h2 with h2 | ⟨h2, h3⟩
    · rw [hh] at h2; cases h2
    · have : d.bud ≠ 0 := by omega
      have e : IntKind.i64.wrap (d.bud - 1) = d.bud - 1 := wrap64 (by omega) (by omega)
      simp only [this, if_false, if_true, e, h1, true_and]
      exact .inr ⟨by omega, by omega⟩
section
variable {d : Dk} {nm b : List UInt8} {f : Fil} {n : Int}
def appFs (d : Dk) (nm b : List UInt8) : List (List UInt8 × Fil) := putL nm ⟨(fileOf nm d).b ++ b, (fileOf nm d).sy⟩ d.fs
theorem append_free (h : Free (n + 1) d) (h0 : 0 ≤ n) (hn : namedF nm = true) (hr : (b.length : Int) ≤ roomOf d) (h8 : (getL nm d.fs).isNone = true → d.fs.length < 8) :
    (appendF d nm b).2.fs = appFs d nm b ∧ (appendF d nm b).2.sz = d.sz ∧ (appendF d nm b).1 = 0 ∧ Free n (appendF d nm b).2 := by
  rw [appendF_go h.1 hn hr h8]
  obtain ⟨h1, h2⟩ := step_free (d := putF d nm ⟨(fileOf nm d).b ++ b, (fileOf nm d).sy⟩) h h0
  exact ⟨step_fs _, step_sz _, by simp [stepE, h1], h2⟩
theorem there0 (hoff : d.off = false) (hg : getL nm d.fs = some f) : thereF d nm = 0 ∧ fileOf nm d = f := by
  unfold thereF fileOf; rw [hg, hoff]; simp
theorem sync_free (h : Free (n + 1) d) (h0 : 0 ≤ n) (hg : getL nm d.fs = some f) :
    (syncF d nm).2.sz = d.sz ∧ (syncF d nm).1 = 0 ∧ Free n (syncF d nm).2 ∧ (syncF d nm).2.fs = putL nm ⟨f.b, f.b.length⟩ d.fs := by
  obtain ⟨h1, h2⟩ := there0 h.1 hg
  obtain ⟨h3, h4⟩ := step_free h h0
  unfold syncF
  rw [if_pos h1, h2, if_pos h3]
  exact ⟨step_sz d, rfl, h4, by show putL _ _ (stepF d).2.fs = _; rw [step_fs]⟩
theorem remove_free (h : Free (n + 1) d) (h0 : 0 ≤ n) (hg : getL nm d.fs = some f) : (removeF d nm).2.sz = d.sz ∧ (removeF d nm).1 = 0 ∧ Free n (removeF d nm).2 ∧ (removeF d nm).2.fs = delL nm d.fs := by
  obtain ⟨h1, h2⟩ := there0 h.1 hg
  obtain ⟨h3, h4⟩ := step_free h h0
  unfold removeF
  rw [if_pos h1, if_pos h3]
  exact ⟨step_sz d, rfl, h4, rfl⟩
end
theorem new_free (sz n : Int) : Free n (newD sz) := ⟨rfl, .inl rfl⟩
theorem log_ne : nLog ≠ nNew := by decide
theorem named_log : namedF nLog = true := by decide
theorem put_log1 (f g : Fil) : putL nLog f [(nLog, g)] = [(nLog, f)] := by unfold putL; rw [if_pos rfl]
theorem get_log1 (g : Fil) (fs : List (List UInt8 × Fil)) : getL nLog ((nLog, g) :: fs) = some g := by unfold getL; rw [if_pos rfl]
/-- the first Write -/
theorem write_first {d : Dk} {ls : List (List UInt8)} {n : Int} (h : Free (n + 2) d) (h0 : 0 ≤ n) (hfs : d.fs = []) (hl : longs ls = false) (hr : ((framesF ls).length : Int) ≤ d.sz) :
    (writeF d ls).1 = 0 ∧ Free n (writeF d ls).2 ∧ (writeF d ls).2.sz = d.sz ∧ (writeF d ls).2.fs = [(nLog, ⟨framesF ls, (framesF ls).length⟩)] := by
  obtain ⟨a1, a2, a3, a4⟩ := append_free (n := n + 1) (nm := nLog) (b := framesF ls) (h.mono (by omega)) (by omega) named_log (by unfold roomOf; rw [hfs]; simpa [totF] using hr) (fun _ => by rw [hfs]; decide)
  have e : fileOf nLog d = ⟨[], 0⟩ := by unfold fileOf; rw [hfs]; rfl
  have a5 : (appendF d nLog (framesF ls)).2.fs = [(nLog, ⟨framesF ls, 0⟩)] := by rw [a1]; unfold appFs; rw [e, hfs]; rfl
  obtain ⟨s1, s2, s3, s4⟩ := sync_free (n := n) (nm := nLog) a4 h0 (by rw [a5, get_log1])
  unfold writeF
  rw [if_neg (by rw [hl]; simp), if_pos a3]
  exact ⟨s2, s3, s1.trans a2, by rw [s4, a5, put_log1]⟩
end Go.Pm
