/- The abstract values, what it means that a Go value in a world is one of them, and how that lasts. -/
import Derived.Orders
import Derived.Laws.Sem
import Derived.KernelRfl
namespace Go.Pm
set_option linter.unusedVariables false

inductive AV where
  | bad
  | int (k : IntKind) (n : Int)
  | bool (b : Bool)
  | str (s : ByteArray)
  | nilp
  | ptr (l tot i off : Nat)
  | ip (cs : List AV)
  | lst (es : List AV)
  | nils
  | emp (isnil : Bool)
  | slc (l off n tot : Nat)
  | agg (cs : List AV)
  | tup (vs : List AV)
  | clo (f : FuncId) (first cap : List AV)
  | nilf
  | ifc (t : TypeId) (v : AV)
  | nili
  deriving Inhabited

def AV.cells : AV → List AV
  | .agg cs => cs
  | v => [v]
/-- A value that fills one cell. -/
def AV.one : AV → Bool
  | .agg _ | .tup _ | .bad => false
  | _ => true

/-- Elements that may lie in cells. -/
def oneL (es : List AV) : Prop := ∀ e ∈ es, e.cells.all AV.one = true

inductive AObj where
  | row (z : Nat) (es : List AV)
  | vrow
  | dead
  deriving Inhabited

def lenOf (H : List AObj) (l : Nat) : Option Nat :=
  match H[l]? with
  | some (.row _ es) => some es.length
  | some .vrow => some 0
  | _ => none

structure Cx where
  F : Nat → Prop
  ι : Nat → Option (Nat × Nat)
  H : List AObj
  w : World

def cellAt (w : World) (b j : Nat) : Option Value :=
  match w.heap[b]? with
  | some (.cells c _ _) => c[j]?
  | _ => none
def sizeAt (w : World) (b : Nat) : Option Nat :=
  match w.heap[b]? with
  | some (.cells c _ _) => some c.size
  | _ => none

theorem cell?_plain (w : World) (b j : Nat) : w.cell? ⟨b, j, none⟩ = cellAt w b j := by
  unfold World.cell? cellAt; simp only [Option.isSome_none, Bool.false_eq_true, if_false]; rfl

def isRow : Option AObj → Prop
  | some (.row _ _) => True
  | _ => False

/-- The blocks that may be written: those of live rows. -/
def Cx.wr (X : Cx) (b : Nat) : Prop := ∃ l z, isRow X.H[l]? ∧ X.ι l = some (b, z)
/-- A block that nobody writes. -/
def Cx.im (X : Cx) (b : Nat) : Prop := (b < X.w.heap.size ∧ ¬ X.F b) ∧ ¬ X.wr b

mutual
def M (X : Cx) : AV → Value → Prop
  | .bad, _ => True
  | .int k n, v => v = .int k n
  | .bool b, v => v = .bool b
  | .str s, v => v = .string s
  | .nilp, v => v = .pointer none
  | .ptr l tot i off, v => (l < X.H.length ∧ ∃ q, v = .pointer (some q)) ∧ (∀ t, lenOf X.H l = some t → tot ≤ t) ∧ (lenOf X.H l = some tot → ∃ b z, isRow X.H[l]? ∧ X.ι l = some (b, z) ∧ v = .pointer (some ⟨b, i * z + off, none⟩))
  | .ip cs, v => ∃ b o, v = .pointer (some ⟨b, o, none⟩) ∧ X.im b ∧ Mc X cs b o
  | .lst es, v => ∃ A c, v = .slice A es.length c ∧ es.length ≤ c ∧ oneL es ∧ (es ≠ [] → ∃ b o z, A = some ⟨b, o, none⟩ ∧ 0 < z ∧ X.im b ∧ Me X es b o z)
  | .nils, v => v = .slice none 0 0
  | .emp b, v => ∃ A c, v = .slice A 0 c ∧ A.isNone = b
  | .slc l off n tot, v => (l < X.H.length ∧ ∃ A m c, v = .slice A m c) ∧ (∀ t, lenOf X.H l = some t → tot ≤ t) ∧ (lenOf X.H l = some tot →
      (X.H[l]? = some .vrow ∧ off = 0 ∧ n = 0 ∧ v = .slice none 0 0) ∨
      (isRow X.H[l]? ∧ ∃ A c b z s, X.ι l = some (b, z) ∧ v = .slice A n c ∧ off + n ≤ tot ∧ n ≤ c ∧ sizeAt X.w b = some s ∧ (c = 0 ∨ (A = some ⟨b, off * z, none⟩ ∧ (off + c) * z ≤ s))))
  | .agg cs, v => ∃ vs, v = .agg vs ∧ Ms X cs vs.toList
  | .tup cs, v => ∃ vs, v = .tuple vs ∧ Ms X cs vs.toList
  | .clo f fi ca, v => ∃ fv cv, v = .func (.func f) fv cv ∧ Ms X fi fv.toList ∧ Ms X ca cv.toList
  | .nilf, v => v = .nilFunc
  | .ifc t a, v => ∃ u, v = .iface t u ∧ M X a u
  | .nili, v => v = .nilIface
/-- cells from place o of block b on -/
def Mc (X : Cx) : List AV → Nat → Nat → Prop
  | [], _, _ => True
  | c :: cs, b, o => (∃ u, cellAt X.w b o = some u ∧ M X c u) ∧ Mc X cs b (o + 1)
/-- elements of z cells each from place o of block b on -/
def Me (X : Cx) : List AV → Nat → Nat → Nat → Prop
  | [], _, _, _ => True
  | .agg cs :: es, b, o, z => (cs.length = z ∧ Mc X cs b o) ∧ Me X es b (o + z) z
  | e :: es, b, o, z => (z = 1 ∧ ∃ u, cellAt X.w b o = some u ∧ M X e u) ∧ Me X es b (o + z) z
def Ms (X : Cx) : List AV → List Value → Prop
  | [], vs => vs = []
  | c :: cs, vs => ∃ u us, vs = u :: us ∧ M X c u ∧ Ms X cs us
end

/-- What may come of a state: what isn't written stays, rows only grow. -/
structure Ext (X Y : Cx) : Prop where
  size : X.w.heap.size ≤ Y.w.heap.size
  hlen : X.H.length ≤ Y.H.length
  keep : ∀ b, b < X.w.heap.size → ¬ X.wr b → Y.w.heap[b]? = X.w.heap[b]?
  wr : ∀ b, b < X.w.heap.size → Y.wr b → X.wr b
  grow : ∀ l t, l < X.H.length → lenOf Y.H l = some t → ∃ t0, lenOf X.H l = some t0 ∧ t0 ≤ t ∧
    (t0 = t → (isRow X.H[l]? → isRow Y.H[l]? ∧ ∀ b z, X.ι l = some (b, z) → Y.ι l = some (b, z) ∧ sizeAt Y.w b = sizeAt X.w b) ∧ (X.H[l]? = some .vrow → Y.H[l]? = some .vrow))
  tape : Y.w.tape = X.w.tape
  os : Y.w.os = X.w.os
  output : Y.w.output = X.w.output
  for_ : Y.F = X.F

theorem isRow_len {o : Option AObj} {H : List AObj} {l : Nat} (h : isRow H[l]?) : ∃ z es, H[l]? = some (.row z es) := by
  unfold isRow at h
  split at h
  · exact ⟨_, _, ‹_›⟩
  · exact h.elim

theorem Ext.refl (X : Cx) : Ext X X :=
  ⟨Nat.le_refl _, Nat.le_refl _, fun _ _ _ => rfl, fun _ _ h => h, fun l t _ h => ⟨t, h, Nat.le_refl _, fun _ => ⟨fun hr => ⟨hr, fun _ _ h => ⟨h, rfl⟩⟩, fun h => h⟩⟩, rfl, rfl, rfl, rfl⟩

theorem Ext.trans {X Y Z : Cx} (h : Ext X Y) (k : Ext Y Z) : Ext X Z where
  size := Nat.le_trans h.size k.size
  hlen := Nat.le_trans h.hlen k.hlen
  keep b hb hm := by
    rw [k.keep b (Nat.lt_of_lt_of_le hb h.size) (fun hy => hm (h.wr b hb hy)), h.keep b hb hm]
  wr b hb hm := h.wr b hb (k.wr b (Nat.lt_of_lt_of_le hb h.size) hm)
  grow l t hl ht := by
    obtain ⟨t1, h1, le1, e1⟩ := k.grow l t (Nat.lt_of_lt_of_le hl h.hlen) ht
    obtain ⟨t0, h0, le0, e0⟩ := h.grow l t1 hl h1
    refine ⟨t0, h0, Nat.le_trans le0 le1, fun e => ?_⟩
    have ea : t0 = t1 := by omega
    have eb : t1 = t := by omega
    obtain ⟨ra, va⟩ := e0 ea
    obtain ⟨rb, vb⟩ := e1 eb
    refine ⟨fun hr => ?_, fun hv => vb (va hv)⟩
    obtain ⟨ry, sy⟩ := ra hr
    obtain ⟨rz, sz⟩ := rb ry
    refine ⟨rz, fun b z hb => ?_⟩
    obtain ⟨i1, s1⟩ := sy b z hb
    obtain ⟨i2, s2⟩ := sz b z i1
    exact ⟨i2, s2.trans s1⟩
  tape := k.tape.trans h.tape
  os := k.os.trans h.os
  output := k.output.trans h.output
  for_ := k.for_.trans h.for_

theorem lt_of_cellAt {w : World} {b j : Nat} {u : Value} (h : cellAt w b j = some u) : b < w.heap.size := by
  unfold cellAt at h
  split at h
  · rename_i c e f hb
    exact (Array.getElem?_eq_some_iff.1 hb).1
  · cases h

theorem cellAt_keep {X Y : Cx} (h : Ext X Y) {b j : Nat} {u : Value} (hm : ¬ X.wr b) (hc : cellAt X.w b j = some u) : cellAt Y.w b j = some u := by
  unfold cellAt at hc ⊢
  rw [h.keep b (lt_of_cellAt (w := X.w) (j := j) (u := u) (by unfold cellAt; exact hc)) hm]
  exact hc
theorem im_keep {X Y : Cx} (h : Ext X Y) {b : Nat} (hm : X.im b) : Y.im b := ⟨⟨Nat.lt_of_lt_of_le hm.1.1 h.size, h.for_ ▸ hm.1.2⟩, fun hy => hm.2 (h.wr b hm.1.1 hy)⟩

mutual
theorem M_mono {X Y : Cx} (h : Ext X Y) : ∀ (v : AV) (u : Value), M X v u → M Y v u
  | .bad, _, _ => by unfold M; trivial
  | .int _ _, _, hm => by unfold M at hm ⊢; exact hm
  | .bool _, _, hm => by unfold M at hm ⊢; exact hm
  | .str _, _, hm => by unfold M at hm ⊢; exact hm
  | .nilp, _, hm => by unfold M at hm ⊢; exact hm
  | .nils, _, hm => by unfold M at hm ⊢; exact hm
  | .emp _, _, hm => by unfold M at hm ⊢; exact hm
  | .nilf, _, hm => by unfold M at hm ⊢; exact hm
  | .nili, _, hm => by unfold M at hm ⊢; exact hm
  | .ptr l tot i off, u, hm => by
    unfold M at hm ⊢
    obtain ⟨⟨h1, h0⟩, h2, h3⟩ := hm
    refine ⟨⟨Nat.lt_of_lt_of_le h1 h.hlen, h0⟩, fun t ht => ?_, fun ht => ?_⟩
    · obtain ⟨t0, k0, k1, _⟩ := h.grow l t h1 ht
      exact Nat.le_trans (h2 _ k0) k1
    · obtain ⟨t0, k0, k1, k2⟩ := h.grow l tot h1 ht
      obtain rfl : t0 = tot := Nat.le_antisymm k1 (h2 _ k0)
      obtain ⟨b, z, hr, hi, hv⟩ := h3 k0
      obtain ⟨ra, ia⟩ := (k2 rfl).1 hr
      exact ⟨b, z, ra, (ia b z hi).1, hv⟩
  | .slc l off n tot, u, hm => by
    unfold M at hm ⊢
    obtain ⟨⟨h1, h0⟩, h2, h3⟩ := hm
    refine ⟨⟨Nat.lt_of_lt_of_le h1 h.hlen, h0⟩, fun t ht => ?_, fun ht => ?_⟩
    · obtain ⟨t0, k0, k1, _⟩ := h.grow l t h1 ht
      exact Nat.le_trans (h2 _ k0) k1
    · obtain ⟨t0, k0, k1, k2⟩ := h.grow l tot h1 ht
      obtain rfl : t0 = tot := Nat.le_antisymm k1 (h2 _ k0)
      rcases h3 k0 with ⟨hv, e⟩ | ⟨hr, A, c, b, z, s, hi, hv, a1, a2, a3, a4⟩
      · exact .inl ⟨(k2 rfl).2 hv, e⟩
      · obtain ⟨ra, ia⟩ := (k2 rfl).1 hr
        exact .inr ⟨ra, A, c, b, z, s, (ia b z hi).1, hv, a1, a2, (ia b z hi).2.trans a3, a4⟩
  | .ip cs, u, hm => by
    unfold M at hm ⊢
    obtain ⟨b, o, hv, hb, hc⟩ := hm
    exact ⟨b, o, hv, im_keep h hb, Mc_mono h cs b o (fun j u => cellAt_keep h hb.2) hc⟩
  | .lst es, u, hm => by
    unfold M at hm ⊢
    obtain ⟨A, c, hv, hc, h1, he⟩ := hm
    refine ⟨A, c, hv, hc, h1, fun hn => ?_⟩
    obtain ⟨b, o, z, hA, hz, hb, hme⟩ := he hn
    exact ⟨b, o, z, hA, hz, im_keep h hb, Me_mono h es b o z (fun j u => cellAt_keep h hb.2) hme⟩
  | .agg cs, u, hm => by
    unfold M at hm ⊢
    obtain ⟨vs, hv, hs⟩ := hm
    exact ⟨vs, hv, Ms_mono h cs vs.toList hs⟩
  | .tup cs, u, hm => by
    unfold M at hm ⊢
    obtain ⟨vs, hv, hs⟩ := hm
    exact ⟨vs, hv, Ms_mono h cs vs.toList hs⟩
  | .clo f fi ca, u, hm => by
    unfold M at hm ⊢
    obtain ⟨fv, cv, hv, ha, hb⟩ := hm
    exact ⟨fv, cv, hv, Ms_mono h fi _ ha, Ms_mono h ca _ hb⟩
  | .ifc t a, u, hm => by
    unfold M at hm ⊢
    obtain ⟨u, hv, ha⟩ := hm
    exact ⟨u, hv, M_mono h a u ha⟩
theorem Mc_mono {X Y : Cx} (h : Ext X Y) : ∀ (cs : List AV) (b o : Nat), (∀ j u, cellAt X.w b j = some u → cellAt Y.w b j = some u) → Mc X cs b o → Mc Y cs b o
  | [], _, _, _, _ => by unfold Mc; trivial
  | c :: cs, b, o, hb, hm => by
    unfold Mc at hm ⊢
    obtain ⟨⟨u, hu, hc⟩, hs⟩ := hm
    exact ⟨⟨u, hb _ _ hu, M_mono h c u hc⟩, Mc_mono h cs b (o + 1) hb hs⟩
theorem Me_mono {X Y : Cx} (h : Ext X Y) : ∀ (es : List AV) (b o z : Nat), (∀ j u, cellAt X.w b j = some u → cellAt Y.w b j = some u) → Me X es b o z → Me Y es b o z
  | [], _, _, _, _, _ => by unfold Me; trivial
  | e :: es, b, o, z, hb, hm => by
    cases e with
    | agg cs =>
      unfold Me at hm ⊢
      exact ⟨⟨hm.1.1, Mc_mono h cs b o hb hm.1.2⟩, Me_mono h es b (o + z) z hb hm.2⟩
    | _ =>
      unfold Me at hm ⊢
      obtain ⟨⟨hz, u, hu, hc⟩, hs⟩ := hm
      exact ⟨⟨hz, u, hb _ _ hu, M_mono h _ u hc⟩, Me_mono h es b (o + z) z hb hs⟩
theorem Ms_mono {X Y : Cx} (h : Ext X Y) : ∀ (cs : List AV) (vs : List Value), Ms X cs vs → Ms Y cs vs
  | [], _, hm => by unfold Ms at hm ⊢; exact hm
  | c :: cs, vs, hm => by
    unfold Ms at hm ⊢
    obtain ⟨u, us, hv, hc, hs⟩ := hm
    exact ⟨u, us, hv, M_mono h c u hc, Ms_mono h cs us hs⟩
end

end Go.Pm
