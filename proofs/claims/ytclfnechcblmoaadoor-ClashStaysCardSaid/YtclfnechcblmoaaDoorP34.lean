/- A part of the proof: what the functions of the program answer, as plain lists and numbers. -/
import Derived.Test.YtclfnechcblmoaaDoorP9
import Derived.Test.YtclfnechcblmoaaDoorP30
import Derived.Test.YtclfnechcblmoaaDoorP32
import Derived.Test.YtclfnechcblmoaaDoorP33
namespace Go.Pm
open Go.Proofs
set_option linter.unusedVariables false
set_option linter.unusedSimpArgs false
theorem sameT_self (t : Tre) : t.ok → EV C n_ref04_Same [t.av, t.av] [] = some (.bool true, [], []) := by
  induction t using Tre.ind with
  | h t ih =>
    intro ht
    obtain ⟨_, _, _, hk, hks⟩ := (ok_eq t).1 ht
    have loop : ∀ (m i : Nat) (E : List Nat), i + m = t.kids.length → ref04_Same_J4 0 (.ptr 0 1 0 0) (.ptr 1 1 0 0) (.int .i64 (i : Int)) [.row 5 [t.av], .row 5 [t.av]] E = some (.bool true, [], []) := by
      intro m
      induction m with
      | zero =>
        intro i E h
        refine ref04_Same_J4_of ?_
        have e1 : ¬ ((i : Int) < (t.kids.length : Int)) := by omega
        simp -implicitDefEqProofs only [e1, ZS, ZT, Nat.reduceAdd]
        exact endB_good rfl
      | succ m ihm =>
        intro i E h
        refine ref04_Same_J4_of ?_
        have hi : i < t.kids.length := by omega
        have e1 : ((i : Int) < (t.kids.length : Int)) := by omega
        have e3 : IntKind.i64.wrap ((i : Int) + 1) = ((i + 1 : Nat) : Int) := w64 (by omega) (by omega)
        have cs : ∀ H, callD (EV C) n_ref04_Same [t.kids[i].av, t.kids[i].av] H = some (.bool true) := fun H => callD_ok (by simp [goodL]) (ih _ (List.getElem_mem hi) (hks _ (List.getElem_mem hi)))
        simp -implicitDefEqProofs only [e1, ixA_kids (List.getElem?_eq_getElem hi), cs, add_int, e3, ZS, ZT, Nat.reduceAdd]
        exact ihm (i + 1) E (by omega)
    refine ref04_Same_of ?_
    simp -implicitDefEqProofs only [ne_eq, not_true_eq_false, ZS, ZT, Nat.reduceAdd]
    exact loop t.kids.length 0 _ (by omega)
end Go.Pm
namespace Go.Pm
open Go.Proofs
set_option linter.unusedVariables false
set_option linter.unusedSimpArgs false
theorem Cel.wr {G : List AObj} {c : AV} (h : Cel G c) {l : Nat} {bs bs' : Bs} (hl : G[l]? = some (.row 1 (bs.map u8))) (hn : bs'.length = bs.length) : Cel (G.set l (.row 1 (bs'.map u8))) c := by
  rcases h with h | ⟨l', n, cs, h1, h2, h3, h4⟩
  · exact .inl h
  · by_cases e : l = l'
    · subst e
      rw [hl] at h2
      injection h2 with h2; injection h2 with _ h2
      have : cs.length = bs.length := by have := congrArg List.length h2; simpa using this.symm
      exact .inr ⟨l, n, bs', h1, List.getElem?_set_self (List.getElem?_eq_some_iff.1 hl).1, by omega, h4⟩
    · exact .inr ⟨l', n, cs, h1, by rw [List.getElem?_set_ne e]; exact h2, h3, h4⟩
theorem set_ne1 {G : List AObj} {l o z : Nat} {es bs : List AV} {X : AObj} (hl : G[l]? = some (.row 1 bs)) (ho : G[o]? = some (.row z es)) (hz : z ≠ 1) : (G.set l X)[o]? = some (.row z es) := by
  rw [List.getElem?_set_ne]
  · exact ho
  · intro e; subst e; rw [hl] at ho; simp at ho; exact hz ho.1.symm
theorem ix_row1 {H : List AObj} {m n i : Nat} {es : List AV} (h : H[m]? = some (.row 1 es)) (hn : es.length = n) (hi : i < n) : ixA 1 (.slc m 0 n n) (.int .i64 (i : Int)) H = some (.ptr m n i 0) := by
  simp [ixA, indexA, h, hn]; omega
theorem ld_row1 {H : List AObj} {m n i : Nat} {l : List UInt8} (h : H[m]? = some (.row 1 (l.map u8))) (hn : l.length = n) (hi : i < l.length) : loadA false 1 (.ptr m n i 0) H = some (u8 l[i]) := by
  simp [loadA, h, hn, ldv, List.getElem?_eq_getElem hi, AV.cells, u8]
theorem sto_u8 {H : List AObj} {m n i : Nat} {l : List UInt8} {v : UInt8} {K : List AObj → List Nat → Option R3} (h : H[m]? = some (.row 1 (l.map u8))) (hn : l.length = n) (hi : i < l.length) : stoK 1 (.ptr m n i 0) (u8 v) H K = K (H.set m (.row 1 ((l.set i v).map u8))) [] := by
  have h2 : storeA 1 (.ptr m n i 0) (u8 v) H = some (H.set m (.row 1 ((l.set i v).map u8)), []) := by
    simp [storeA, h, hn, List.getElem?_eq_getElem hi, AV.cells, u8, setC, set1, AV.one, escs, belL, AV.bel, List.map_set]
  unfold stoK; rw [h2]; rfl
theorem add_u8 (x : UInt8) : ∃ v : UInt8, binA .add (Go.TypeDesc.int Go.IntKind.u8) (cmpT Tryd.prog) true (u8 x) (.int .u8 1) = some (u8 v) := by
  refine ⟨UInt8.ofNat (x.toNat + 1), ?_⟩
  rw [show u8 x = .int .u8 (x.toNat : Int) from rfl, add_int]
  congr 1
theorem lenV_sl1 {H : List AObj} {m n : Nat} {es : List AV} (h : H[m]? = some (.row 1 es)) (hn : es.length = n) : lenV (.slc m 0 n n) H = some (.int .i64 (n : Int)) := by simp [lenV, lenA, lenOf, h, hn]
end Go.Pm
