/- A part of the proof: what the functions of the program answer, as plain lists and numbers. -/
import Derived.Test.YtclfnechcblmoaaDoorP9
import Derived.Test.YtclfnechcblmoaaDoorP19
import Derived.Test.YtclfnechcblmoaaDoorP26
import Derived.Test.YtclfnechcblmoaaDoorP29
namespace Go.Pm
open Go.Proofs
set_option linter.unusedVariables false
set_option linter.unusedSimpArgs false
theorem code_loop (n : Int) (hn : n ≤ 13) : ∀ (m : Nat) (c : Int) (E : List Nat), c + m = n → 1 ≤ c → law00_Code_J4 0 (errA n) (.int .i64 c) [] E = some (.int .i64 n, [], [])
  | 0, c, E, h, hc => by
    refine law00_Code_J4_of ?_
    have : c = n := by omega
    subst this
    simp -implicitDefEqProofs only [eqlE _ _ _ (show c ≠ 0 by omega), hn, ZS, Nat.reduceAdd]
    exact endB_good rfl
  | m + 1, c, E, h, hc => by
    refine law00_Code_J4_of ?_
    have h1 : ¬ n = c := by omega
    have h2 : c ≤ 13 := by omega
    have e3 : IntKind.i64.wrap (c + 1) = c + 1 := by rw [wrap64] <;> omega
    simp -implicitDefEqProofs only [eqlE _ _ _ (show c ≠ 0 by omega), h1, h2, add_int, e3, ZS, Nat.reduceAdd]
    exact code_loop n hn m (c + 1) E (by omega) (by omega)
theorem Code_ok (n : Int) (h0 : 0 ≤ n) (h1 : n ≤ 13) : EV C n_law00_Code [errA n] [] = some (.int .i64 n, [], []) := by
  refine law00_Code_of ?_
  simp -implicitDefEqProofs only [eqlE0, ZS, Nat.reduceAdd]
  split
  · rename_i h; subst h; exact endB_good rfl
  · exact code_loop n h1 (n - 1).toNat 1 [] (by omega) (by omega)
theorem check_range (t : Tre) : 0 ≤ checkF t ∧ checkF t ≤ 5 := by unfold checkF; split <;> (try split) <;> omega
theorem dig_range (w : Int) (t : Tre) : 0 ≤ (digF w t).1 ∧ (digF w t).1 ≤ 5 := by
  have := check_range t
  unfold digF
  split
  · simp
  · split
    · split <;> simp
    · exact this
end Go.Pm
namespace Go.Pm
open Go.Proofs
set_option linter.unusedVariables false
set_option linter.unusedSimpArgs false
mutual
def nodesF : Tre → List Tre
  | .mk k a b c ks => match nodesL ks with
    | l :: r :: _ => l ++ .mk k a b c ks :: r
    | _ => []
def nodesL : List Tre → List (List Tre)
  | [] => []
  | t :: ts => nodesF t :: nodesL ts
end
theorem nodes_nil {t : Tre} (h : t.kids = []) : nodesF t = [] := by
  cases t with | mk k a b c ks => simp only [Tre.kids] at h; subst h; rw [nodesF]; rfl
theorem nodes_two {t l r : Tre} (h : t.kids = [l, r]) : nodesF t = nodesF l ++ t :: nodesF r := by
  cases t with | mk k a b c ks => simp only [Tre.kids] at h; subst h; rw [nodesF]; rfl
theorem formed_two {t : Tre} (h : formedF t = true) : t.kids = [] ∨ ∃ l r, t.kids = [l, r] := by
  by_cases h0 : t.kind = 0
  · rw [formedF_eq, Bool.and_eq_true] at h
    have h1 := h.1
    simp only [formed1, h0, if_true, decide_eq_true_eq] at h1
    exact .inl (List.length_eq_zero_iff.1 (by omega))
  · by_cases h3 : t.kind = 3
    · rw [formedF_eq, Bool.and_eq_true] at h
      have h1 := h.1
      simp only [formed1] at h1
      rw [if_neg h0, if_neg (by omega), if_neg (by omega), if_pos h3, decide_eq_true_eq] at h1
      exact .inl (List.length_eq_zero_iff.1 (by omega))
    · obtain ⟨_, _, _, l, r, hk⟩ := formed_node h h0 h3
      exact .inr ⟨l, r, hk⟩
theorem ld_box {H : List AObj} {b : Nat} {t : Tre} (h : H[b]? = some (.row 5 [t.av])) : loadA true 5 (.ptr b 1 0 0) H = some t.av := by
  rw [av_eq] at h ⊢; exact ld_agg h rfl
theorem ld_boxs {H : List AObj} {b : Nat} {t : Tre} (h : H[b]? = some (.row 5 [t.av])) : loadA false 1 (.ptr b 1 0 4) H = some (kidsA t.kids) := by
  rw [av_eq] at h; exact ld_fld h rfl
end Go.Pm
namespace Go.Pm
open Go.Proofs
set_option linter.unusedVariables false
set_option linter.unusedSimpArgs false
abbrev Bs := List UInt8
theorem appK_fresh {β : Type} {z by_ : Nat} {x y : AV} {ys : List AV} {H : List AObj} {K : AV → List AObj → List Nat → Option β} (hx : x = .emp none ∨ x = .nils) (hy : elemsA y H = some ys) (hne : ys.isEmpty = false) (hz : lz z ys = true) (h1 : 0 < z) (h2 : 0 < by_) (h3 : by_ ≤ 1048576) (h4 : ys.length * by_ ≤ 140737489400832) :
    appK z by_ x y H K = K (.slc H.length 0 ys.length ys.length) (H ++ [.row z ys]) [] := by
  unfold appK appendA
  rw [hy, Option.bind_some]
  rcases hx with rfl | rfl <;> simp [hne, hz, h1, h2, h3, h4]
end Go.Pm
namespace Go.Pm
open Go.Proofs
set_option linter.unusedVariables false
set_option linter.unusedSimpArgs false
theorem ldb_k {H : List AObj} {b : Nat} {t : Tre} (h : H[b]? = some (.row 5 [t.av])) : loadA false 1 (.ptr b 1 0 0) H = some (.int .i64 t.kind) := by rw [av_eq] at h; exact ld_fld h rfl
theorem ldb_a {H : List AObj} {b : Nat} {t : Tre} (h : H[b]? = some (.row 5 [t.av])) : loadA false 1 (.ptr b 1 0 1) H = some (bys t.key) := by rw [av_eq] at h; exact ld_fld h rfl
theorem ldb_b {H : List AObj} {b : Nat} {t : Tre} (h : H[b]? = some (.row 5 [t.av])) : loadA false 1 (.ptr b 1 0 2) H = some (bys t.value) := by rw [av_eq] at h; exact ld_fld h rfl
end Go.Pm
namespace Go.Pm
open Go.Proofs
set_option linter.unusedVariables false
set_option linter.unusedSimpArgs false
theorem map_some {α β : Type} (f : α → β) (x : α) : (some x).map f = some (f x) := rfl
end Go.Pm
namespace Go.Pm
open Go.Proofs
set_option linter.unusedVariables false
set_option linter.unusedSimpArgs false
mutual
def parts : Tre → Nat
  | .mk k a b c ks => 1 + partsL ks
def partsL : List Tre → Nat
  | [] => 0
  | t :: ts => parts t + partsL ts
end
theorem parts_eq (t : Tre) : parts t = 1 + partsL t.kids := by cases t with | mk k a b c ks => rw [parts]; rfl
theorem lightL_parts {d : Int} : ∀ (ks : List Tre), (∀ t ∈ ks, ∀ l d, 0 ≤ lightF t l d → lightF t l d + (parts t : Int) ≤ l) → ∀ l, 0 ≤ lightL ks l d → lightL ks l d + (partsL ks : Int) ≤ l
  | [], _, l, h => by rw [lightL] at h ⊢; simp [partsL]
  | t :: ts, hh, l, h => by
    rw [lightL] at h ⊢
    rw [partsL]
    split at h
    · omega
    · rename_i hn
      rw [if_neg hn]
      have h1 := hh t (by simp) l (d - 1) (by omega)
      have h2 := lightL_parts (d := d) ts (fun k hk => hh k (List.mem_cons_of_mem _ hk)) _ h
      omega
theorem lightF_parts (t : Tre) : ∀ l d, 0 ≤ lightF t l d → lightF t l d + (parts t : Int) ≤ l := by
  induction t using Tre.ind with
  | h t ih =>
    intro l d h
    rw [lightF_eq] at h ⊢
    split at h
    · omega
    · rename_i h1
      split at h
      · omega
      · rename_i h2
        rw [if_neg h1, if_neg h2]
        have := lightL_parts (d := d) t.kids ih (l - 1) h
        rw [parts_eq]; omega
theorem nodes_parts (t : Tre) : (nodesF t).length ≤ parts t := by
  induction t using Tre.ind with
  | h t ih =>
    cases t with
    | mk k a b c ks =>
      rw [nodesF, parts]
      match ks, ih with
      | [], _ => simp [nodesL]
      | [x], _ => simp [nodesL]
      | x :: y :: tl, ih =>
        have h1 := ih x (by simp [Tre.kids])
        have h2 := ih y (by simp [Tre.kids])
        simp only [nodesL, partsL, List.length_append, List.length_cons]; omega
end Go.Pm
namespace Go.Pm
open Go.Proofs
set_option linter.unusedVariables false
set_option linter.unusedSimpArgs false
theorem small2_parts {t : Tre} (h : smallF t = true) : parts t ≤ 200 := by
  simp only [smallF, decide_eq_true_eq] at h
  have := lightF_parts t 200 100 h
  omega
end Go.Pm
