/- A part of the proof: what the functions of the program answer, as plain lists and numbers. -/
import Derived.Test.YtclfnechcblmoaaDoorP7
import Derived.Test.YtclfnechcblmoaaDoorP30
import Derived.Test.YtclfnechcblmoaaDoorP31
namespace Go.Pm
open Go.Proofs
set_option linter.unusedVariables false
set_option linter.unusedSimpArgs false
theorem appD_fresh {z by_ : Nat} {x y : AV} {ys : List AV} {H : List AObj} (hx : freshA x = true) (hy : elemsA y H = some ys) (hz : lz z ys = true) (h1 : 0 < z) (h2 : 0 < by_) (h3 : by_ ≤ 1048576) (h4 : ys.length * by_ ≤ 140737489400832) :
    appD z by_ x y H = some (.lst ys) := by
  unfold appD appF
  rw [hy, Option.bind_some, if_pos ⟨hx, fun _ => ⟨hz, h1, h2, h3, h4⟩⟩]
theorem appDb (l : Bs) (h : l.length ≤ 140737489400000) (H : List AObj) : appD 1 1 (AV.emp none) (bys l) H = some (bys l) := appD_fresh rfl rfl (lz_u8 l) (by decide) (by decide) (by decide) (by rw [List.length_map]; omega)
theorem drawT {α β : Type} (a : α) (x : Option β) : drawK (a = a) x = x := if_pos rfl
theorem trm_tre {β : Type} (k a b c : AV) (ha : isNils a = false) (hb : isNils b = false) (hc : isNils c = false) (hk : isNils k = false) (H : List AObj) (K : AV → List AObj → List Nat → Option β) :
    trmK (.agg [k, a, b, c, .nils]) H [] K = K (.agg [k, a, b, c, .slc H.length 0 0 0]) (H ++ [.vrow]) [] := by
  have e : [k, a, b, c, AV.nils].findIdx? isNils = some 4 := by
    simp only [List.findIdx?_cons, hk, ha, hb, hc, show isNils AV.nils = true from rfl]; rfl
  unfold trmK trimA
  simp only [e]
  rfl
theorem siz5 {β : Type} (k a b c d : AV) (x : Option β) : sizK 5 (.agg [k, a, b, c, d]) x = x := by unfold sizK; exact if_pos (show (AV.agg [k, a, b, c, d]).cells.length = 5 from rfl)
theorem fill_abc {β : Type} (k : Int) (a b c : AV) (ha : a.cells = [a]) (hb : b.cells = [b]) (hc : c.cells = [c]) (ga : a.isBad = false) (gb : b.isBad = false) (gc : c.isBad = false) (K : List AV → Option β) :
    (fillB (AV.cells (.agg [(.int .i64 0), .nils, .nils, .nils, .nils])) [(0, 1, (.int .i64 k)), (1, 1, a), (2, 1, b), (3, 1, c)]).bind K = K [.int .i64 k, a, b, c, .nils] := by
  have hz : (AV.agg [(.int .i64 0), .nils, .nils, .nils, .nils]).cells = [(.int .i64 0), .nils, .nils, .nils, .nils] := rfl
  have hi : (AV.int .i64 k).cells = [.int .i64 k] := rfl
  have gi : (AV.int .i64 k).isBad = false := rfl
  simp [fillB, hz, hi, gi, ha, hb, hc, ga, gb, gc]
mutual
/-- lengths that a copy has room for -/
def Tre.fit : Tre → Prop
  | .mk k a b c ks => a.length ≤ 2^40 ∧ b.length ≤ 2^40 ∧ c.length ≤ 2^40 ∧ ks.length ≤ 2^40 ∧ fitL ks
def fitL : List Tre → Prop
  | [] => True
  | t :: ts => t.fit ∧ fitL ts
end
theorem fitL_all : ∀ (l : List Tre), fitL l ↔ ∀ t ∈ l, t.fit
  | [] => by simp [fitL]
  | t :: ts => by simp [fitL, fitL_all ts]
theorem fit_eq (t : Tre) : t.fit ↔ t.key.length ≤ 2^40 ∧ t.value.length ≤ 2^40 ∧ t.digest.length ≤ 2^40 ∧ t.kids.length ≤ 2^40 ∧ ∀ k ∈ t.kids, k.fit := by
  cases t with
  | mk k a b c ks => rw [Tre.fit, fitL_all]; rfl
end Go.Pm
namespace Go.Pm
open Go.Proofs
set_option linter.unusedVariables false
set_option linter.unusedSimpArgs false
/-- bytes that one may write to, or none -/
def Cel (G : List AObj) (c : AV) : Prop := c = .emp none ∨ ∃ l n bs, c = .slc l 0 n n ∧ G[l]? = some (.row 1 ((bs : Bs).map u8)) ∧ bs.length = n ∧ n ≤ 2^40
theorem app_l {G X : List AObj} {l : Nat} {o : AObj} (h : G[l]? = some o) : (G ++ X)[l]? = some o := by
  rw [List.getElem?_append_left (List.getElem?_eq_some_iff.1 h).1]; exact h
theorem Cel.app {G : List AObj} {c : AV} (h : Cel G c) (X : List AObj) : Cel (G ++ X) c := by
  rcases h with h | ⟨l, n, bs, h1, h2, h3⟩
  · exact .inl h
  · exact .inr ⟨l, n, bs, h1, app_l h2, h3⟩
theorem Cel.set {G : List AObj} {c : AV} (h : Cel G c) {o z : Nat} {es : List AV} (ho : G[o]? = some (vro z es)) (hz : z ≠ 1) (X : AObj) : Cel (G.set o X) c := by
  rcases h with h | ⟨l, n, bs, h1, h2, h3⟩
  · exact .inl h
  · refine .inr ⟨l, n, bs, h1, ?_, h3⟩
    rw [List.getElem?_set_ne]
    · exact h2
    · intro e; subst e
      rw [h2] at ho
      unfold vro at ho
      split at ho
      · simp at ho
      · simp at ho; exact hz ho.1.symm
theorem raw_one {β : Type} (z : Nat) (zero v : AV) (h1 : v.cells.length = z) (h2 : v.cells.all AV.one = true) (H : List AObj) (K : AV → List AObj → List Nat → Option β) :
    rawK z 1 zero [(0, v)] H K = K (.slc H.length 0 1 1) (H ++ [.row z [v]]) [] := by
  unfold rawK
  simp only [List.replicate, setS, h1, h2, List.length_cons, List.length_nil, List.set_cons_zero]
  rfl
end Go.Pm
