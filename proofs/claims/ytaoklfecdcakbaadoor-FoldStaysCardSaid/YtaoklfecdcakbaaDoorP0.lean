/- A part of the proof: what the functions of the program answer, as plain lists and numbers. -/
import Derived.Orders
import Derived.Laws.Sem
import Derived.KernelRfl
namespace Go.Pm
set_option linter.unusedVariables false
inductive AV where
  | bad
  | int (k : IntKind) (n : Int)
  | bool (b : Bool)
  | str (s : ByteArray)
  | nilp
  | ptr (l tot i off : Nat)
  | ip (cs : List AV)
  | lst (es : List AV)
  | nils
  | emp (k : Option Bool)
  | slc (l off n tot : Nat)
  | agg (cs : List AV)
  | tup (vs : List AV)
  | clo (f : FuncId) (first cap : List AV)
  | nilf
  | ifc (t : TypeId) (v : AV)
  | nili
  | mp (l : Nat)
  | nilm
  | lnt (v : AV)
  deriving Inhabited

def AV.cells : AV → List AV
  | .agg cs => cs
  | v => [v]
/-- A value that fills one cell. -/
def AV.one : AV → Bool
  | .agg _ | .tup _ | .bad => false
  | .lnt v => v.one
  | _ => true

/-- Elements that may lie in cells. -/
def oneL (es : List AV) : Prop := ∀ e ∈ es, e.cells.all AV.one = true

inductive AObj where
  | row (z : Nat) (es : List AV)
  | vrow
  | dead
  | mp (es : List (AV × AV))
  deriving Inhabited

def lenOf (H : List AObj) (l : Nat) : Option Nat :=
  match H[l]? with
  | some (.row _ es) => some es.length
  | some .vrow => some 0
  | _ => none

structure Cx where
  F : Nat → Bool → Prop
  ι : Nat → Option (Nat × Nat)
  H : List AObj
  w : World

def cellAt (w : World) (b j : Nat) : Option Value :=
  match w.heap[b]? with
  | some (.cells c _ _) => c[j]?
  | _ => none
def sizeAt (w : World) (b : Nat) : Option Nat :=
  match w.heap[b]? with
  | some (.cells c _ _) => some c.size
  | _ => none

theorem cell?_plain (w : World) (b j : Nat) : w.cell? ⟨b, j, none⟩ = cellAt w b j := by
  unfold World.cell? cellAt; simp only [Option.isSome_none, Bool.false_eq_true, if_false]; rfl

def isRow : Option AObj → Prop
  | some (.row _ _) => True
  | _ => False

def isMp : Option AObj → Prop
  | some (.mp _) => True
  | _ => False
/-- a row or a map of one's own -/
def isOwn (o : Option AObj) : Prop := isRow o ∨ isMp o

/-- The blocks that may be written: those of live rows and maps. -/
def Cx.wr (X : Cx) (b : Nat) : Prop := ∃ l z, isOwn X.H[l]? ∧ X.ι l = some (b, z)
/-- A block that nobody writes. -/
def Cx.im (X : Cx) (b : Nat) : Prop := (b < X.w.heap.size ∧ ∀ k, ¬ X.F b k) ∧ ¬ X.wr b
/-- The same, with what is lent taken for one's own data. -/
def Cx.fr (X : Cx) : Cx := ⟨fun b _ => X.F b true, X.ι, X.H, X.w⟩

mutual
def M (X : Cx) : AV → Value → Prop
  | .bad, _ => True
  | .int k n, v => v = .int k n
  | .bool b, v => v = .bool b
  | .str s, v => v = .string s
  | .nilp, v => v = .pointer none
  | .ptr l tot i off, v => (l < X.H.length ∧ ∃ q, v = .pointer (some q)) ∧ (∀ t, lenOf X.H l = some t → tot ≤ t) ∧ (lenOf X.H l = some tot → ∃ b z, isRow X.H[l]? ∧ X.ι l = some (b, z) ∧ v = .pointer (some ⟨b, i * z + off, none⟩))
  | .ip cs, v => ∃ b o, v = .pointer (some ⟨b, o, none⟩) ∧ X.im b ∧ Mc X cs b o
  | .lst es, v => ∃ A c, v = .slice A es.length c ∧ es.length ≤ c ∧ oneL es ∧ (es ≠ [] → ∃ b o z, A = some ⟨b, o, none⟩ ∧ 0 < z ∧ X.im b ∧ Me X es b o z)
  | .nils, v => v = .slice none 0 0
  | .emp k, v => ∃ A c, v = .slice A 0 c ∧ (∀ b, k = some b → A.isNone = b) ∧ (k = none → c = 0)
  | .slc l off n tot, v => (l < X.H.length ∧ ∃ A m c, v = .slice A m c) ∧ (∀ t, lenOf X.H l = some t → tot ≤ t) ∧ (lenOf X.H l = some tot →
      (X.H[l]? = some .vrow ∧ off = 0 ∧ n = 0 ∧ v = .slice none 0 0) ∨
      (isRow X.H[l]? ∧ ∃ A c b z s, X.ι l = some (b, z) ∧ v = .slice A n c ∧ off + n ≤ tot ∧ n ≤ c ∧ sizeAt X.w b = some s ∧ (c = 0 ∨ (A = some ⟨b, off * z, none⟩ ∧ (off + c) * z ≤ s))))
  | .agg cs, v => ∃ vs, v = .agg vs ∧ Ms X cs vs.toList
  | .tup cs, v => ∃ vs, v = .tuple vs ∧ Ms X cs vs.toList
  | .clo f fi ca, v => ∃ fv cv, v = .func (.func f) fv cv ∧ Ms X fi fv.toList ∧ Ms X ca cv.toList
  | .nilf, v => v = .nilFunc
  | .ifc t a, v => ∃ u, v = .iface t u ∧ M X a u
  | .nili, v => v = .nilIface
  | .mp l, v => (l < X.H.length ∧ ∃ b, v = .map (some b)) ∧ (isMp X.H[l]? → ∃ b z, X.ι l = some (b, z) ∧ v = .map (some b))
  | .nilm, v => v = .map none
  | .lnt a, v => M X.fr a v
/-- cells from place o of block b on -/
def Mc (X : Cx) : List AV → Nat → Nat → Prop
  | [], _, _ => True
  | c :: cs, b, o => (∃ u, cellAt X.w b o = some u ∧ M X c u) ∧ Mc X cs b (o + 1)
/-- elements of z cells each from place o of block b on -/
def Me (X : Cx) : List AV → Nat → Nat → Nat → Prop
  | [], _, _, _ => True
  | .agg cs :: es, b, o, z => (cs.length = z ∧ Mc X cs b o) ∧ Me X es b (o + z) z
  | e :: es, b, o, z => (z = 1 ∧ ∃ u, cellAt X.w b o = some u ∧ M X e u) ∧ Me X es b (o + z) z
def Ms (X : Cx) : List AV → List Value → Prop
  | [], vs => vs = []
  | c :: cs, vs => ∃ u us, vs = u :: us ∧ M X c u ∧ Ms X cs us
end
/-- What may come of a state: what isn't written stays, rows only grow. -/
structure Ext (X Y : Cx) : Prop where
  size : X.w.heap.size ≤ Y.w.heap.size
  hlen : X.H.length ≤ Y.H.length
  keep : ∀ b, b < X.w.heap.size → ¬ X.wr b → Y.w.heap[b]? = X.w.heap[b]?
  wr : ∀ b, b < X.w.heap.size → Y.wr b → X.wr b
  grow : ∀ l t, l < X.H.length → lenOf Y.H l = some t → ∃ t0, lenOf X.H l = some t0 ∧ t0 ≤ t ∧
    (t0 = t → (isRow X.H[l]? → isRow Y.H[l]? ∧ ∀ b z, X.ι l = some (b, z) → Y.ι l = some (b, z) ∧ sizeAt Y.w b = sizeAt X.w b) ∧ (X.H[l]? = some .vrow → Y.H[l]? = some .vrow))
  tape : Y.w.tape = X.w.tape
  os : Y.w.os = X.w.os
  output : Y.w.output = X.w.output
  for_ : Y.F = X.F
  mps : ∀ l, l < X.H.length → isMp Y.H[l]? → isMp X.H[l]? ∧ Y.ι l = X.ι l

theorem Ext.fr {X Y : Cx} (h : Ext X Y) : Ext X.fr Y.fr :=
  ⟨h.size, h.hlen, h.keep, h.wr, h.grow, h.tape, h.os, h.output, by show (fun b _ => Y.F b true) = fun b _ => X.F b true; rw [h.for_], h.mps⟩

theorem Ext.refl (X : Cx) : Ext X X :=
  ⟨Nat.le_refl _, Nat.le_refl _, fun _ _ _ => rfl, fun _ _ h => h, fun l t _ h => ⟨t, h, Nat.le_refl _, fun _ => ⟨fun hr => ⟨hr, fun _ _ h => ⟨h, rfl⟩⟩, fun h => h⟩⟩, rfl, rfl, rfl, rfl, fun l _ h => ⟨h, rfl⟩⟩

theorem Ext.trans {X Y Z : Cx} (h : Ext X Y) (k : Ext Y Z) : Ext X Z where
  size := Nat.le_trans h.size k.size
  hlen := Nat.le_trans h.hlen k.hlen
  keep b hb hm := by
    rw [k.keep b (Nat.lt_of_lt_of_le hb h.size) (fun hy => hm (h.wr b hb hy)), h.keep b hb hm]
  wr b hb hm := h.wr b hb (k.wr b (Nat.lt_of_lt_of_le hb h.size) hm)
  grow l t hl ht := by
    obtain ⟨t1, h1, le1, e1⟩ := k.grow l t (Nat.lt_of_lt_of_le hl h.hlen) ht
    obtain ⟨t0, h0, le0, e0⟩ := h.grow l t1 hl h1
    refine ⟨t0, h0, Nat.le_trans le0 le1, fun e => ?_⟩
    have ea : t0 = t1 := by omega
    have eb : t1 = t := by omega
    obtain ⟨ra, va⟩ := e0 ea
    obtain ⟨rb, vb⟩ := e1 eb
    refine ⟨fun hr => ?_, fun hv => vb (va hv)⟩
    obtain ⟨ry, sy⟩ := ra hr
    obtain ⟨rz, sz⟩ := rb ry
    refine ⟨rz, fun b z hb => ?_⟩
    obtain ⟨i1, s1⟩ := sy b z hb
    obtain ⟨i2, s2⟩ := sz b z i1
    exact ⟨i2, s2.trans s1⟩
  tape := k.tape.trans h.tape
  os := k.os.trans h.os
  output := k.output.trans h.output
  for_ := k.for_.trans h.for_
  mps l hl hm := by
    obtain ⟨h1, h2⟩ := k.mps l (Nat.lt_of_lt_of_le hl h.hlen) hm
    obtain ⟨h3, h4⟩ := h.mps l hl h1
    exact ⟨h3, h2.trans h4⟩

theorem lt_of_cellAt {w : World} {b j : Nat} {u : Value} (h : cellAt w b j = some u) : b < w.heap.size := by
  unfold cellAt at h
  split at h
  · rename_i c e f hb
    exact (Array.getElem?_eq_some_iff.1 hb).1
  · cases h

theorem cellAt_keep {X Y : Cx} (h : Ext X Y) {b j : Nat} {u : Value} (hm : ¬ X.wr b) (hc : cellAt X.w b j = some u) : cellAt Y.w b j = some u := by
  unfold cellAt at hc ⊢
  rw [h.keep b (lt_of_cellAt (w := X.w) (j := j) (u := u) (by unfold cellAt; exact hc)) hm]
  exact hc
theorem im_keep {X Y : Cx} (h : Ext X Y) {b : Nat} (hm : X.im b) : Y.im b := ⟨⟨Nat.lt_of_lt_of_le hm.1.1 h.size, h.for_ ▸ hm.1.2⟩, fun hy => hm.2 (h.wr b hm.1.1 hy)⟩

mutual
theorem M_mono {X Y : Cx} (h : Ext X Y) : ∀ (v : AV) (u : Value), M X v u → M Y v u
  | .bad, _, _ => by unfold M; trivial
  | .int _ _, _, hm => by unfold M at hm ⊢; exact hm
  | .bool _, _, hm => by unfold M at hm ⊢; exact hm
  | .str _, _, hm => by unfold M at hm ⊢; exact hm
  | .nilp, _, hm => by unfold M at hm ⊢; exact hm
  | .nils, _, hm => by unfold M at hm ⊢; exact hm
  | .emp _, _, hm => by unfold M at hm ⊢; exact hm
  | .nilf, _, hm => by unfold M at hm ⊢; exact hm
  | .nili, _, hm => by unfold M at hm ⊢; exact hm
  | .nilm, _, hm => by unfold M at hm ⊢; exact hm
  | .lnt a, u, hm => by unfold M at hm ⊢; exact M_mono h.fr a u hm
  | .mp l, u, hm => by
    unfold M at hm ⊢
    obtain ⟨⟨h1, h0⟩, h2⟩ := hm
    refine ⟨⟨Nat.lt_of_lt_of_le h1 h.hlen, h0⟩, fun hy => ?_⟩
    obtain ⟨h3, h4⟩ := h.mps l h1 hy
    rw [h4]; exact h2 h3
  | .ptr l tot i off, u, hm => by
    unfold M at hm ⊢
    obtain ⟨⟨h1, h0⟩, h2, h3⟩ := hm
    refine ⟨⟨Nat.lt_of_lt_of_le h1 h.hlen, h0⟩, fun t ht => ?_, fun ht => ?_⟩
    · obtain ⟨t0, k0, k1, _⟩ := h.grow l t h1 ht
      exact Nat.le_trans (h2 _ k0) k1
    · obtain ⟨t0, k0, k1, k2⟩ := h.grow l tot h1 ht
      obtain rfl : t0 = tot := Nat.le_antisymm k1 (h2 _ k0)
      obtain ⟨b, z, hr, hi, hv⟩ := h3 k0
      obtain ⟨ra, ia⟩ := (k2 rfl).1 hr
      exact ⟨b, z, ra, (ia b z hi).1, hv⟩
  | .slc l off n tot, u, hm => by
    unfold M at hm ⊢
    obtain ⟨⟨h1, h0⟩, h2, h3⟩ := hm
    refine ⟨⟨Nat.lt_of_lt_of_le h1 h.hlen, h0⟩, fun t ht => ?_, fun ht => ?_⟩
    · obtain ⟨t0, k0, k1, _⟩ := h.grow l t h1 ht
      exact Nat.le_trans (h2 _ k0) k1
    · obtain ⟨t0, k0, k1, k2⟩ := h.grow l tot h1 ht
      obtain rfl : t0 = tot := Nat.le_antisymm k1 (h2 _ k0)
      rcases h3 k0 with ⟨hv, e⟩ | ⟨hr, A, c, b, z, s, hi, hv, a1, a2, a3, a4⟩
      · exact .inl ⟨(k2 rfl).2 hv, e⟩
      · obtain ⟨ra, ia⟩ := (k2 rfl).1 hr
        exact .inr ⟨ra, A, c, b, z, s, (ia b z hi).1, hv, a1, a2, (ia b z hi).2.trans a3, a4⟩
  | .ip cs, u, hm => by
    unfold M at hm ⊢
    obtain ⟨b, o, hv, hb, hc⟩ := hm
    exact ⟨b, o, hv, im_keep h hb, Mc_mono h cs b o (fun j u => cellAt_keep h hb.2) hc⟩
  | .lst es, u, hm => by
    unfold M at hm ⊢
    obtain ⟨A, c, hv, hc, h1, he⟩ := hm
    refine ⟨A, c, hv, hc, h1, fun hn => ?_⟩
    obtain ⟨b, o, z, hA, hz, hb, hme⟩ := he hn
    exact ⟨b, o, z, hA, hz, im_keep h hb, Me_mono h es b o z (fun j u => cellAt_keep h hb.2) hme⟩
  | .agg cs, u, hm => by
    unfold M at hm ⊢
    obtain ⟨vs, hv, hs⟩ := hm
    exact ⟨vs, hv, Ms_mono h cs vs.toList hs⟩
  | .tup cs, u, hm => by
    unfold M at hm ⊢
    obtain ⟨vs, hv, hs⟩ := hm
    exact ⟨vs, hv, Ms_mono h cs vs.toList hs⟩
  | .clo f fi ca, u, hm => by
    unfold M at hm ⊢
    obtain ⟨fv, cv, hv, ha, hb⟩ := hm
    exact ⟨fv, cv, hv, Ms_mono h fi _ ha, Ms_mono h ca _ hb⟩
  | .ifc t a, u, hm => by
    unfold M at hm ⊢
    obtain ⟨u, hv, ha⟩ := hm
    exact ⟨u, hv, M_mono h a u ha⟩
theorem Mc_mono {X Y : Cx} (h : Ext X Y) : ∀ (cs : List AV) (b o : Nat), (∀ j u, cellAt X.w b j = some u → cellAt Y.w b j = some u) → Mc X cs b o → Mc Y cs b o
  | [], _, _, _, _ => by unfold Mc; trivial
  | c :: cs, b, o, hb, hm => by
    unfold Mc at hm ⊢
    obtain ⟨⟨u, hu, hc⟩, hs⟩ := hm
    exact ⟨⟨u, hb _ _ hu, M_mono h c u hc⟩, Mc_mono h cs b (o + 1) hb hs⟩
theorem Me_mono {X Y : Cx} (h : Ext X Y) : ∀ (es : List AV) (b o z : Nat), (∀ j u, cellAt X.w b j = some u → cellAt Y.w b j = some u) → Me X es b o z → Me Y es b o z
  | [], _, _, _, _, _ => by unfold Me; trivial
  | e :: es, b, o, z, hb, hm => by
    cases e with
    | agg cs =>
      unfold Me at hm ⊢
      exact ⟨⟨hm.1.1, Mc_mono h cs b o hb hm.1.2⟩, Me_mono h es b (o + z) z hb hm.2⟩
    | _ =>
      unfold Me at hm ⊢
      obtain ⟨⟨hz, u, hu, hc⟩, hs⟩ := hm
      exact ⟨⟨hz, u, hb _ _ hu, M_mono h _ u hc⟩, Me_mono h es b (o + z) z hb hs⟩
theorem Ms_mono {X Y : Cx} (h : Ext X Y) : ∀ (cs : List AV) (vs : List Value), Ms X cs vs → Ms Y cs vs
  | [], _, hm => by unfold Ms at hm ⊢; exact hm
  | c :: cs, vs, hm => by
    unfold Ms at hm ⊢
    obtain ⟨u, us, hv, hc, hs⟩ := hm
    exact ⟨u, us, hv, M_mono h c u hc, Ms_mono h cs us hs⟩
end
end Go.Pm
namespace Go.Pm
set_option linter.unusedVariables false
def AV.isBad : AV → Bool
  | .bad | .tup _ => true
  | .lnt v => !v.one
  | _ => false

mutual
/-- All that it refers to stands below m. -/
def AV.bel (m : Nat) : AV → Bool
  | .ptr l _ _ _ => decide (l < m)
  | .slc l _ _ _ => decide (l < m)
  | .mp l => decide (l < m)
  | .ip cs => belL m cs
  | .lst cs => belL m cs
  | .agg cs => belL m cs
  | .tup cs => belL m cs
  | .clo _ fi ca => belL m fi && belL m ca
  | .ifc _ v => v.bel m
  | .lnt v => v.bel m
  | _ => true
def belL (m : Nat) : List AV → Bool
  | [] => true
  | c :: cs => c.bel m && belL m cs
end
mutual
/-- Data that nothing can change any more. -/
def AV.good : AV → Bool
  | .ptr .. | .slc .. | .nils | .emp _ | .bad | .mp _ => false
  | .ip cs => goodL cs
  | .lst cs => goodL cs
  | .agg cs => goodL cs
  | .tup cs => goodL cs
  | .clo _ fi ca => goodL fi && goodL ca
  | .ifc _ v => v.good
  | .lnt v => v.good
  | _ => true
def goodL : List AV → Bool
  | [] => true
  | c :: cs => c.good && goodL cs
end
mutual
/-- It refers to nothing. -/
def AV.flat : AV → Bool
  | .int _ _ | .bool _ | .str _ | .nilp | .nils | .emp _ | .nilf | .nili | .nilm => true
  | .lst es => es.isEmpty
  | .agg cs => flatL cs
  | .tup cs => flatL cs
  | .ifc _ v => v.flat
  | _ => false
def flatL : List AV → Bool
  | [] => true
  | c :: cs => c.flat && flatL cs
end
mutual
/-- what stands in lent memory -/
def lntW : AV → AV
  | .lst es => .lnt (.lst es)
  | .ip cs => .lnt (.ip cs)
  | .agg cs => .agg (lntWL cs)
  | .tup cs => .tup (lntWL cs)
  | .ifc t v => .ifc t (lntW v)
  | .clo f fi ca => .clo f (lntWL fi) (lntWL ca)
  | v => v
def lntWL : List AV → List AV
  | [] => []
  | c :: cs => lntW c :: lntWL cs
end
mutual
/-- the same, as if nothing were lent -/
def er : AV → AV
  | .lst es => .lst (erL es)
  | .ip cs => .ip (erL cs)
  | .agg cs => .agg (erL cs)
  | .tup cs => .tup (erL cs)
  | .ifc t v => .ifc t (er v)
  | .clo f fi ca => .clo f (erL fi) (erL ca)
  | .lnt v => er v
  | v => v
def erL : List AV → List AV
  | [] => []
  | c :: cs => er c :: erL cs
end
mutual
/-- nothing of it is lent -/
def AV.noL : AV → Bool
  | .lnt _ => false
  | .ip cs => noLL cs
  | .lst cs => noLL cs
  | .agg cs => noLL cs
  | .tup cs => noLL cs
  | .clo _ fi ca => noLL fi && noLL ca
  | .ifc _ v => v.noL
  | _ => true
def noLL : List AV → Bool
  | [] => true
  | c :: cs => c.noL && noLL cs
end
def ofVal1 : Value → AV
  | .bool b => .bool b
  | .int k n => .int k n
  | .string s => .str s
  | .pointer none => .nilp
  | .slice none 0 0 => .nils
  | .nilIface => .nili
  | .nilFunc => .nilf
  | .map none => .nilm
  | .tuple vs => if vs.size = 0 then .tup [] else .bad
  | _ => .bad
def ofVal : Value → AV
  | .agg cs => .agg (cs.toList.map ofVal1)
  | v => ofVal1 v

section types
variable (P : Program)
/-- is it a struct or an array; how many cells -/
def tk (t : TypeId) : Option (Bool × Nat) :=
  match P.underlying t, P.info? t with
  | some d, some i => some ((match d with | .struct _ | .array _ _ => true | _ => false), i.size)
  | _, _ => none
def elemT (t : TypeId) : Option TypeId :=
  match P.underlying t with
  | some (.slice e) => some e
  | _ => none
def zeroT (t : TypeId) : Option AV := (P.info? t).bind fun i => i.zero.map ofVal
def isInt (t : TypeId) : Bool := match P.underlying t with | some (.int _) => true | _ => false
end types
def ldv (ag : Bool) (s : Nat) (cs : List AV) : Option AV :=
  if ag then (if s ≤ cs.length then some (.agg (cs.take s)) else none) else cs[0]?
def loadA (ag : Bool) (s : Nat) (p : AV) (H : List AObj) : Option AV :=
  match p with
  | .ip cs => ldv ag s cs
  | .lnt (.ip cs) => (ldv ag s cs).map lntW
  | .ptr l tot i off =>
    match H[l]? with
    | some (.row _ es) => if es.length = tot then es[i]?.bind fun e => ldv ag s (e.cells.drop off) else none
    | _ => none
  | _ => none
def set1 (off : Nat) (vs : List AV) : Option AV :=
  match off, vs with
  | 0, [v] => some v
  | _, _ => none
def setC (e : AV) (off : Nat) (vs : List AV) : Option AV :=
  match e with
  | .agg cs => if off + vs.length ≤ cs.length then some (.agg (cs.take off ++ vs ++ cs.drop (off + vs.length))) else none
  | _ => set1 off vs
def escs (l : Nat) (vs : List AV) : List Nat := if belL (l + 1) vs then [] else [l]
def storeA (s : Nat) (p v : AV) (H : List AObj) : Option (List AObj × List Nat) :=
  match p with
  | .ptr l tot i off =>
    match H[l]? with
    | some (.row z es) =>
      if es.length = tot ∧ v.cells.length = s ∧ v.cells.all AV.one = true then
        es[i]?.bind fun e => (setC e off v.cells).map fun e' => (H.set l (.row z (es.set i e')), escs l v.cells)
      else none
    | _ => none
  | _ => none
def newA (v : AV) (H : List AObj) : Option (AV × List AObj × List Nat) :=
  if v.cells ≠ [] ∧ v.cells.all AV.one = true then some (.ptr H.length 1 0 0, H ++ [.row v.cells.length [v]], []) else none
def fillA (place : Nat → Option (Nat × Nat)) (cells : List AV) : List (Nat × AV) → Option (List AV)
  | [] => some cells
  | (i, v) :: rest =>
    match place i with
    | none => none
    | some (off, size) =>
      if v.cells.length = size ∧ off + size ≤ cells.length ∧ v.isBad = false then fillA place (cells.take off ++ v.cells ++ cells.drop (off + size)) rest
      else none

def bitsA (op : BinOp) (k : IntKind) (x y : Int) : Int :=
  let a := BitVec.ofInt k.bits x
  let b := BitVec.ofInt k.bits y
  match op with
  | .and => k.wrap (a &&& b).toNat
  | .or => k.wrap (a ||| b).toNat
  | .xor => k.wrap (a ^^^ b).toNat
  | _ => k.wrap (a &&& ~~~b).toNat
def bl (s : ByteArray) : List UInt8 := s.data.toList
/-- x == y; c: is one of the two a constant -/
def eqA (t : TypeDesc) (cmp : TypeId → Bool) (c : Bool) (x y : AV) : Option Bool :=
  match t, x, y with
  | .bool, .bool a, .bool b => some (decide (a = b))
  | .pointer _, .nilp, .nilp => some true
  | .pointer _, .nilp, .ip _ => some false
  | .pointer _, .ip _, .nilp => some false
  | .pointer _, .ptr _ _ _ _, .nilp => some false
  | .slice _, .nils, .nils => some true
  | .slice _, .emp (some b), .nils => some b
  | .slice _, .lst es, .nils => if es.isEmpty then none else some false
  | .slice _, .lnt (.lst es), .nils => if es.isEmpty then none else some false
  | .interface _, .nili, .nili => if c then some true else none
  | .interface _, .nili, .ifc _ _ => some false
  | .interface _, .ifc _ _, .nili => some false
  | .interface _, .ifc s (.int k a), .ifc u (.int k' b) => if s = u then (if cmp s = true ∧ k = k' then some (decide (a = b)) else none) else some false
  | _, _, _ => none
/-- arrays of numbers -/
def eqIs : List AV → List AV → Option Bool
  | [], [] => some true
  | .int k a :: xs, .int k' b :: ys => if k = k' then (if a = b then eqIs xs ys else some false) else none
  | _, _ => none
def eqI (t : TypeDesc) (cmp : TypeId → Bool) (xs ys : List AV) : Option Bool :=
  match t with
  | .array n e => if cmp e = true ∧ xs.length = n ∧ ys.length = n then eqIs xs ys else none
  | _ => none
/-- x op y; cx, cy: is the operand a constant -/
def binA (op : BinOp) (t : TypeDesc) (cmp : TypeId → Bool) (c : Bool) (x y : AV) : Option AV :=
  match op, x, y with
  | .shl, .int k a, .int _ b => if b < 0 then none else some (.int k (k.wrap (a * 2 ^ (min b.toNat k.bits))))
  | .shr, .int k a, .int _ b => if b < 0 then none else some (.int k (a.fdiv (2 ^ (min b.toNat k.bits))))
  | op, .int k a, .int k' b =>
    if k = k' then
      match op with
      | .add => some (.int k (k.wrap (a + b)))
      | .sub => some (.int k (k.wrap (a - b)))
      | .mul => some (.int k (k.wrap (a * b)))
      | .quo => if b = 0 then none else some (.int k (k.wrap (a.tdiv b)))
      | .rem => if b = 0 then none else some (.int k (a.tmod b))
      | .and => some (.int k (bitsA .and k a b))
      | .or => some (.int k (bitsA .or k a b))
      | .xor => some (.int k (bitsA .xor k a b))
      | .andNot => some (.int k (bitsA .andNot k a b))
      | .eql => some (.bool (decide (a = b)))
      | .neq => some (.bool (!decide (a = b)))
      | .lss => some (.bool (decide (a < b)))
      | .leq => some (.bool (decide (a ≤ b)))
      | .gtr => some (.bool (decide (b < a)))
      | .geq => some (.bool (decide (b ≤ a)))
      | _ => none
    else none
  | .add, .str a, .str b => if a.size + b.size ≤ 9223372036854775807 then some (.str (a ++ b)) else none
  | .eql, .str a, .str b => some (.bool (decide (bl a = bl b)))
  | .neq, .str a, .str b => some (.bool (!decide (bl a = bl b)))
  | .lss, .str a, .str b => some (.bool (Op.bytesLess (bl a) (bl b)))
  | .leq, .str a, .str b => some (.bool (Op.bytesLess (bl a) (bl b) || decide (bl a = bl b)))
  | .gtr, .str a, .str b => some (.bool (!(Op.bytesLess (bl a) (bl b) || decide (bl a = bl b))))
  | .geq, .str a, .str b => some (.bool (!Op.bytesLess (bl a) (bl b)))
  | .eql, .agg xs, .agg ys => (eqI t cmp xs ys).map .bool
  | .neq, .agg xs, .agg ys => (eqI t cmp xs ys).map fun r => .bool (!r)
  | .eql, x, y => (eqA t cmp c x y).map .bool
  | .neq, x, y => (eqA t cmp c x y).map fun r => .bool (!r)
  | _, _, _ => none
def unA (op : UnOp) (x : AV) : Option AV :=
  match op, x with
  | .neg, .int k n => some (.int k (k.wrap (0 - n)))
  | .xor, .int k n => some (.int k (bitsA .xor k (if k.signed then -1 else k.max) n))
  | .not, .bool b => some (.bool (!b))
  | _, _ => none
def bytesA (s : ByteArray) : List AV := (bl s).map fun b => .int .u8 b.toNat
def elemsA (x : AV) (H : List AObj) : Option (List AV) :=
  match x with
  | .lst es => some es
  | .lnt (.lst es) => some (lntWL es)
  | .nils => some []
  | .emp _ => some []
  | .str s => some (bytesA s)
  | .slc l off n tot =>
    match H[l]? with
    | some (.row _ es) => if es.length = tot then some ((es.drop off).take n) else none
    | some .vrow => if tot = 0 then some [] else none
    | _ => none
  | _ => none
def lenA (x : AV) (H : List AObj) : Option Nat :=
  match x with
  | .lst es => some es.length
  | .lnt (.lst es) => some es.length
  | .nils => some 0
  | .emp _ => some 0
  | .slc l off n tot => if lenOf H l = some tot then some n else none
  | _ => none
def toBytes : List AV → Option (List UInt8)
  | [] => some []
  | .int .u8 n :: es => (toBytes es).map (UInt8.ofNat n.toNat :: ·)
  | _ => none
def cvR (x : AV) (H : List AObj) : Option AV := match x with
  | .slc l off n tot => match H[l]? with
    | some (.row _ es) => if es.length = tot ∧ 0 < n then some (.slc l off n tot) else none
    | _ => none
  | _ => none
/-- the element's address -/
def indexA (z : Nat) (x : AV) (i : Int) (H : List AObj) : Option AV :=
  match x with
  | .lst es => if 0 ≤ i then es[i.toNat]?.bind fun e => if e.cells.length = z then some (.ip e.cells) else none else none
  | .lnt (.lst es) => if 0 ≤ i then es[i.toNat]?.bind fun e => if e.cells.length = z then some (.lnt (.ip e.cells)) else none else none
  | .slc l off n tot =>
    match H[l]? with
    | some (.row z' es) => if 0 ≤ i ∧ i < n ∧ es.length = tot ∧ z' = z then some (.ptr l tot (off + i.toNat) 0) else none
    | _ => none
  | _ => none
def offA (p : AV) (k : Nat) : Option AV :=
  match p with
  | .ip cs => some (.ip (cs.drop k))
  | .lnt (.ip cs) => some (.lnt (.ip (cs.drop k)))
  | .ptr l tot i off => some (.ptr l tot i (off + k))
  | _ => none
def boundA (x : Option AV) (d : Int) : Option Int :=
  match x with
  | none => some d
  | some (.int _ h) => some h
  | _ => none
def lz (z : Nat) : List AV → Bool
  | [] => true
  | e :: _ => e.cells.length == z
/-- low, high, most -/
def cutA (z : Nat) (x : AV) (lo hi : Option AV) (mx : Option AV) (H : List AObj) : Option AV :=
  (lenA x H).bind fun n => (boundA hi n).bind fun h => (boundA lo 0).bind fun l => (boundA mx n).bind fun m =>
  if 0 ≤ l ∧ l ≤ h ∧ h ≤ m ∧ m ≤ n ∧ (mx.isSome = true → hi.isSome = true) then
    match x with
    | .lst es => if lz z es = true then some (.lst ((es.take h.toNat).drop l.toNat)) else none
    | .lnt (.lst es) => if lz z es = true then some (.lnt (.lst ((es.take h.toNat).drop l.toNat))) else none
    | .nils => some .nils
    | .slc r off _ tot =>
      match H[r]? with
      | some (.row z' _) => if mx.isSome = true ∨ z' ≠ z then none else some (.slc r (off + l.toNat) (h - l).toNat tot)
      | _ => none
    | _ => none
  else none
def cutS (x : AV) (lo hi : Option AV) : Option AV :=
  match x with
  | .str s => (boundA hi s.size).bind fun h => (boundA lo 0).bind fun l =>
    if 0 ≤ l ∧ l ≤ h ∧ h ≤ s.size then some (.str (s.extract l.toNat h.toNat)) else none
  | _ => none
/-- ys behind x; z cells, by_ bytes an element -/
def appendA (z by_ : Nat) (x : AV) (ys : List AV) (H : List AObj) : Option (AV × List AObj × List Nat) :=
  if ys.isEmpty then (if (lenA x H).isSome then some (x, H, []) else none)
  else if lz z ys = true ∧ 0 < z ∧ 0 < by_ ∧ by_ ≤ 1048576 then
    match x with
    | .nils => if ys.length * by_ ≤ 140737489400832 then some (.slc H.length 0 ys.length ys.length, H ++ [.row z ys], []) else none
    | .emp none => if ys.length * by_ ≤ 140737489400832 then some (.slc H.length 0 ys.length ys.length, H ++ [.row z ys], []) else none
    | .slc l off n tot =>
      if (n + ys.length) * by_ ≤ 140737489400832 then
        match H[l]? with
        | some (.row z' es) =>
          if es.length = tot ∧ off = 0 ∧ n = tot ∧ z' = z then some (.slc l 0 (n + ys.length) (tot + ys.length), H.set l (.row z (es ++ ys)), escs l ys) else none
        | some .vrow => if tot = 0 ∧ off = 0 ∧ n = 0 then some (.slc l 0 ys.length ys.length, H.set l (.row z ys), escs l ys) else none
        | _ => none
      else none
    | _ => none
  else none
/-- ys behind a fresh empty slice: data of its own -/
def freshA : AV → Bool
  | .nils => true
  | .emp none => true
  | _ => false
def appF (z by_ : Nat) (x : AV) (ys : List AV) : Option AV :=
  if freshA x = true ∧ (ys.isEmpty = false → lz z ys = true ∧ 0 < z ∧ 0 < by_ ∧ by_ ≤ 1048576 ∧ ys.length * by_ ≤ 140737489400832) then some (.lst ys) else none
def capA (x : AV) : Option AV := match x with
  | .nils => some (.int .i64 0)
  | _ => none
/-- as many zeros behind nothing -/
def appZ (z by_ : Nat) (zero x n : AV) (H : List AObj) : Option (AV × List AObj × List Nat) :=
  match x, n with
  | .nils, .int _ k =>
    if 0 < k ∧ k * by_ ≤ 140737489400832 ∧ 0 < by_ ∧ 0 < z ∧ zero.cells.length = z ∧ zero.cells.all AV.one = true then
      some (.slc H.length 0 k.toNat k.toNat, H ++ [.row z (List.replicate k.toNat zero)], [])
    else none
  | _, _ => none
def makeA (z by_ : Nat) (zero : AV) (n c : AV) (H : List AObj) : Option (AV × List AObj × List Nat) :=
  match n, c with
  | .int _ a, .int _ b =>
    if 0 ≤ a ∧ a ≤ b ∧ b * by_ ≤ 281474976710656 ∧ 0 < by_ ∧ 0 < z ∧ zero.cells.length = z ∧ zero.cells.all AV.one = true then
      some (.slc H.length 0 a.toNat a.toNat, H ++ [.row z (List.replicate a.toNat zero)], [])
    else none
  | _, _ => none
def minA : List AV → Option AV
  | [.int k a, .int _ b] => some (.int k (if b < a then b else a))
  | _ => none
def maxA : List AV → Option AV
  | [.int k a, .int _ b] => some (.int k (if b > a then b else a))
  | _ => none

def eqK : AV → AV → Option Bool
  | .int k a, .int k' b => if k = k' then some (decide (a = b)) else none
  | .str a, .str b => some (decide (bl a = bl b))
  | _, _ => none
/-- where a key stands among a map's entries, and what stands there -/
def findM (k : AV) : List (AV × AV) → Nat → Option (Option (Nat × AV))
  | [], _ => some none
  | p :: es, i => (eqK k p.1).bind fun b => if b = true then some (some (i, p.2)) else findM k es (i + 1)
def keyOk (d : Option TypeDesc) (k : AV) : Bool :=
  match d, k with
  | some (.int a), .int b _ => a == b
  | some .string, .str _ => true
  | _, _ => false
def lookR (z : AV) (ok : Bool) : Option (Nat × AV) → AV
  | some p => if ok then .tup [p.2, .bool true] else p.2
  | none => if ok then .tup [z, .bool false] else z
def lookA (z : AV) (ok : Bool) (x k : AV) (H : List AObj) : Option AV :=
  match x with
  | .nilm => some (lookR z ok none)
  | .mp l => match H[l]? with
    | some (.mp es) => (findM k es 0).map (lookR z ok)
    | _ => none
  | _ => none
def putM (k v : AV) (es : List (AV × AV)) : Option (Nat × AV) → List (AV × AV)
  | some p => es.set p.1 (k, v)
  | none => es ++ [(k, v)]
def updA (x k v : AV) (H : List AObj) : Option (List AObj) :=
  match x with
  | .mp l => match H[l]? with
    | some (.mp es) => if v.bel 0 = true ∧ es.length < 2^40 then (findM k es 0).map fun o => H.set l (.mp (putM k v es o)) else none
    | _ => none
  | _ => none
def cutM (es : List (AV × AV)) : Option (Nat × AV) → List (AV × AV)
  | some p => es.eraseIdx p.1
  | none => es
def delA (x k : AV) (H : List AObj) : Option (List AObj) :=
  match x with
  | .mp l => match H[l]? with
    | some (.mp es) => (findM k es 0).map fun o => H.set l (.mp (cutM es o))
    | _ => none
  | _ => none
def lenM (x : AV) (H : List AObj) : Option Nat :=
  match x with
  | .nilm => some 0
  | .mp l => match H[l]? with
    | some (.mp es) => some es.length
    | _ => none
  | _ => none

mutual
def frz (H : List AObj) : AV → Option AV
  | .nils => some (.lst [])
  | .emp _ => some (.lst [])
  | .slc l off n tot =>
    match H[l]? with
    | some (.row _ es) => if es.length = tot then some (.lst ((es.drop off).take n)) else none
    | some .vrow => if tot = 0 then some (.lst []) else none
    | _ => none
  | .agg cs => (frzL H cs).map .agg
  | .tup cs => (frzL H cs).map .tup
  | .ifc t v => (frz H v).map (.ifc t)
  | v => some v
def frzL (H : List AObj) : List AV → Option (List AV)
  | [] => some []
  | c :: cs => (frz H c).bind fun c' => (frzL H cs).map (c' :: ·)
end
def mapO (g : AV → Option AV) : List AV → Option (List AV)
  | [] => some []
  | c :: cs => (g c).bind fun c' => (mapO g cs).map (c' :: ·)
/-- a row's element -/
def lndE (g : AV → Option AV) : AV → Option AV
  | .agg cs => (mapO g cs).map .agg
  | v => g v
mutual
/-- rows that are lent: what they hold, lent; g: what becomes of a row's elements -/
def lndW (g : AV → Option AV) (H : List AObj) : AV → Option AV
  | .slc l off n tot =>
    match H[l]? with
    | some (.row _ es) => if es.length = tot then (mapO (lndE g) ((es.drop off).take n)).map fun es' => .lnt (.lst es') else none
    | some .vrow => if tot = 0 then some (.lst []) else none
    | _ => none
  | .nils => some (.lst [])
  | .emp _ => some (.lnt (.lst []))
  | .lst es => (lndWL g H es).map .lst
  | .agg cs => (lndWL g H cs).map .agg
  | .tup cs => (lndWL g H cs).map .tup
  | .lnt v => some (.lnt v)
  | v => some v
def lndWL (g : AV → Option AV) (H : List AObj) : List AV → Option (List AV)
  | [] => some []
  | c :: cs => (lndW g H c).bind fun c' => (lndWL g H cs).map (c' :: ·)
end
def lnd (H : List AObj) : Nat → AV → Option AV
  | 0 => fun v => if v.good = true then some v else none
  | k + 1 => lndW (lnd H k) H
mutual
def kills : AV → List Nat
  | .slc l _ _ _ => [l]
  | .agg cs => killsL cs
  | .tup cs => killsL cs
  | .ifc _ v => kills v
  | _ => []
def killsL : List AV → List Nat
  | [] => []
  | c :: cs => kills c ++ killsL cs
end
/-- a row of structs -/
def big (H : List AObj) : AV → Bool
  | .slc l _ _ tot => match H[l]? with
    | some (.row z es) => decide (1 < z) && es.length == tot
    | _ => false
  | _ => false
def frzC1 (H : List AObj) (c : AV) : AV := match big H c with
  | true => (frz H c).getD c
  | false => c
def killC (H : List AObj) : List AV → List Nat
  | [] => []
  | c :: cs => (match big H c with | true => kills c | false => []) ++ killC H cs
def killAll (H : List AObj) : List Nat → List AObj
  | [] => H
  | l :: ls => killAll (H.set l .dead) ls

end Go.Pm
namespace Go.Pm
set_option linter.unusedVariables false
abbrev R3 := AV × List AObj × List Nat
abbrev Env := FuncId → List AV → List AObj → Option R3
structure St where
  T : List AV
  H : List AObj
  E : List Nat
inductive Out where
  | nrm (s : St)
  | ret (r : AV) (H : List AObj) (E : List Nat)
  | ext (id : Nat) (s : St)

structure Hint where
  keep : Bool := false
  raw : Bool := false
  acts : List (Nat × Nat × Nat) := []
  loops : List (Nat × List Nat) := []
  blks : List (Nat × List Nat) := []
  open_ : List Nat := []
  evs : List (Nat × Nat) := []
  swaps : List (Nat × Nat × Nat) := []
  subs : List (Nat × Nat × Nat) := []

def evA (G : Nat → Option (List AV)) (T : List AV) : Operand → AV
  | .tmp t => T.getD t (.tup [])
  | .const v => ofVal v
  | .global g => match G g with | some cs => .ip cs | none => .bad
  | .func f => .clo f [] []
def isCst : Operand → Bool
  | .const _ => true
  | _ => false
def putA (T : List AV) (d : Option Tmp) (v : AV) : List AV :=
  match d with
  | some d => T.set d v
  | none => T
def clearA (T : List AV) : List Nat → List AV
  | [] => T
  | t :: ts => clearA (T.set t .bad) ts
def wantA (ops : Array Oper) (T : List AV) (o : Oper) : Option Bool :=
  match o.guard with
  | none => some true
  | some (j, want) =>
    match (ops[j]?).bind (·.dst) with
    | none => some false
    | some d => match T[d]? with
      | none => some false
      | some (.bool b) => some (b == want)
      | some (.tup _) => some false
      | _ => none

/-- a function's other form, whose result stays a row of its own, is named by a number of its own -/
def base (f : FuncId) : FuncId := f % 1000000
def rawA (act : Nat) : Bool := act == 1 || act == 7
def vrA (act : Nat) (g : FuncId) : FuncId := if act = 7 then g + 1000000 else if act = 13 then g + 2000000 else g
def okF (P : Program) (g : FuncId) : Bool :=
  decide (g < 1000000) && match P.funcs[g]? with
  | some fn => fn.body.isSome && (fn.name != "runtime.NumGoroutine")
  | none => false
def callA (env : Env) (raw : Bool) (g : FuncId) (args : List AV) (H : List AObj) : Option R3 :=
  if raw then env g args H else (frzL H args).bind fun as =>
    if belL 0 as = true then (env g as []).bind fun r => if r.2.1.isEmpty && r.2.2.isEmpty then some (r.1, if r.1.flat = true then H else killAll H (killsL args), []) else none
    else env g as (killAll H (killsL args))
/-- a call on what is lent, as if it were not; what it answers may be lent -/
def callE (env : Env) (g : FuncId) (args : List AV) (H : List AObj) : Option R3 :=
  if belL 0 args = true then (frzL H args).bind fun as =>
    if belL 0 (erL as) = true then (env g (erL as) []).bind fun r => if r.2.1.isEmpty && r.2.2.isEmpty then some (if r.1.flat = true then r.1 else lntW r.1, H, []) else none else none
  else (lndWL (lnd H 3) H args).bind fun as =>
    if belL 0 (erL as) = true then (env g (erL as) []).bind fun r => if r.2.1.isEmpty && r.2.2.isEmpty && r.1.flat then some (r.1, H, []) else none else none
/-- a call that rows are lent to; what it answers is its own -/
def callL (env : Env) (g : FuncId) (args : List AV) (H : List AObj) : Option R3 :=
  (lndWL (lnd H 3) H args).bind fun as =>
    if belL 0 as = true then (env g as []).bind fun r => if r.2.1.isEmpty && r.2.2.isEmpty && r.1.noL then some (r.1, H, []) else none
    else none
def callX (env : Env) (act : Nat) (g : FuncId) (args : List AV) (H : List AObj) : Option R3 :=
  if act = 12 then callE env g args H else if act = 13 ∨ act = 14 then callL env (vrA act g) args H else none
def setS (z : Nat) (H : List AObj) (es : List AV) : List (Nat × AV) → Option (List AV)
  | [] => some es
  | (i, v) :: rest =>
    if v.cells.length = z ∧ i < es.length ∧ v.cells.all AV.one = true then setS z H (es.set i v) rest else none
def cmpT (P : Program) (s : TypeId) : Bool := isInt P s && (((P.info? s).map fun i => i.comparable && i.size == 1).getD false)
def isU8 (P : Program) (t : TypeId) : Bool := match P.underlying t with | some (.int .u8) => true | _ => false
def noInt (P : Program) (t : TypeId) : Bool := match P.underlying t with | some (.int _) => false | none => false | _ => true
def isIface (P : Program) (t : TypeId) : Bool := match P.underlying t with | some (.interface _) => true | none => true | _ => false

/-- is a part of a row nil: not if it has something -/
def nilR (op : BinOp) (t : Option TypeDesc) (x y : AV) (H : List AObj) : Option AV :=
  match t, x, y with
  | some (.slice _), .slc l _ n tot, .nils => if lenOf H l = some tot ∧ 0 < n then (match op with
    | .eql => some (.bool false)
    | .neq => some (.bool true)
    | _ => none) else none
  | _, _, _ => none
def same (H : List AObj) (v : Option AV) : Option R3 := v.map fun v => (v, H, [])

def aop (P : Program) (G : Nat → Option (List AV)) (env : Env) (act : Nat) (o : Oper) (T : List AV) (H : List AObj) : Option R3 :=
  match o.op with
  | .move x => same H (some (evA G T x))
  | .assign x =>
    if act = 2 then (match evA G T x with | .nils => some (.slc H.length 0 0 0, H ++ [.vrow], []) | _ => none)
    else same H (some (evA G T x))
  | .pick c a b => match evA G T c with | .bool t => same H (some (if t = true then evA G T a else evA G T b)) | _ => none
  | .alloc t => (zeroT P t).bind fun z => if act = 8 then (if (!z.cells.isEmpty && z.cells.all AV.one) = true then some (.ip z.cells, H, []) else none) else newA z H
  | .box t x => if act = 10 then (tk P t).bind fun s => if (evA G T x).cells.length = s.2 then newA (evA G T x) H else none else newA (evA G T x) H
  | .build t parts =>
    match P.underlying t, zeroT P t with
    | some (.struct fs), some z =>
      if (fs.toList.all fun f => (tk P f.type).isSome) = true ∧ z.isBad = false then
      same H ((fillA (fun i => (fs[i]?).bind fun f => (tk P f.type).map fun s => (f.offset, s.2)) z.cells (parts.toList.map fun p => (p.1, evA G T p.2))).map .agg) else none
    | some (.array _ e), some z =>
      if z.isBad = false then (tk P e).bind fun s => same H ((fillA (fun i => some (i * s.2, s.2)) z.cells (parts.toList.map fun p => (p.1, evA G T p.2))).map .agg) else none
    | _, _ => none
  | .buildSlice t n parts =>
    (elemT P t).bind fun e => (tk P e).bind fun s => (zeroT P e).bind fun z =>
    if n * s.2 ≤ 16777216 ∧ z.cells.length = s.2 ∧ 0 < s.2 ∧ z.cells.all AV.one = true ∧ z.isBad = false then
      if act = 1 then
        (setS s.2 H (List.replicate n z) (parts.toList.map fun p => (p.1, evA G T p.2))).map fun es => (.slc H.length 0 n n, H ++ [.row s.2 es], [])
      else if act = 9 then (if n = 0 ∧ parts.toList.isEmpty = true then some (.emp none, H, []) else none)
      else
        (frzL H (parts.toList.map fun p => evA G T p.2)).bind fun vs => (frz H z).bind fun z =>
        (setS s.2 H (List.replicate n z) ((parts.toList.map (·.1)).zip vs)).map fun es => (.lst es, killAll H (killsL (parts.toList.map fun p => evA G T p.2)), [])
    else none
  | .load t a => (tk P t).bind fun s => same H (loadA s.1 s.2 (evA G T a) H)
  | .store t a v => (tk P t).bind fun s => (storeA s.2 (evA G T a) (evA G T v) H).map fun r => (.tup [], r.1, r.2)
  | .nilCheck x => match evA G T x with
    | .ptr l tot i off => some (.ptr l tot i off, H, [])
    | .ip cs => some (.ip cs, H, [])
    | .lnt (.ip cs) => some (.lnt (.ip cs), H, [])
    | .clo f fi ca => some (.clo f fi ca, H, [])
    | _ => none
  | .binOp op xt x y _ => if act = 15 then same H (nilR op (P.underlying xt) (evA G T x) (evA G T y) H) else (P.underlying xt).bind fun d => same H (binA op d (cmpT P) (isCst x || isCst y) (evA G T x) (evA G T y))
  | .unOp op _ x => same H (unA op (evA G T x))
  | .convert src dst x =>
    match P.underlying src, P.underlying dst, evA G T x with
    | some _, some (.int k), .int _ n => same H (some (.int k (k.wrap n)))
    | some (.string), some (.string), .str s => same H (some (.str s))
    | some (.string), some (.slice e), .str s => if isU8 P e = true then same H (some (.lst (bytesA s))) else none
    | some (.slice e), some .string, .str _ => none
    | some (.slice e), some .string, x => if isU8 P e = true then same H ((elemsA x H).bind fun es => (toBytes es).map fun l => .str ⟨l.toArray⟩) else none
    | some (.slice _), some (.slice e), x => if (src == dst) = true ∧ isU8 P e = true then same H (cvR x H) else none
    | _, _, _ => none
  | .makeInterface t x => if isIface P t = true then none else same H (some (.ifc t (evA G T x)))
  | .makeFunc (.func f) first cap => same H (some (.clo f (first.toList.map (evA G T)) (cap.toList.map (evA G T))))
  | .slice t x lo hi mx =>
    match P.underlying t with
    | some (.slice e) => (tk P e).bind fun s => same H (cutA s.2 (evA G T x) (lo.map (evA G T)) (hi.map (evA G T)) (mx.map (evA G T)) H)
    | some .string => if mx.isSome then none else same H (cutS (evA G T x) (lo.map (evA G T)) (hi.map (evA G T)))
    | _ => none
  | .fieldAddr s x f =>
    match P.underlying s with
    | some (.struct fs) => (fs[f]?).bind fun f => (tk P f.type).bind fun z => if 0 < z.2 then same H (offA (evA G T x) f.offset) else none
    | _ => none
  | .field s x f =>
    match P.underlying s, evA G T x with
    | some (.struct fs), .agg cs => (fs[f]?).bind fun f => (tk P f.type).bind fun z => same H (ldv z.1 z.2 (cs.drop f.offset))
    | _, _ => none
  | .indexAddr t x ix =>
    match P.underlying t, evA G T ix with
    | some (.slice e), .int _ i => (tk P e).bind fun s => same H (indexA s.2 (evA G T x) i H)
    | some (.array n e), .int _ i => (tk P e).bind fun s => if 0 ≤ i ∧ i < n then same H (offA (evA G T x) (i.toNat * s.2)) else none
    | _, _ => none
  | .index t x ix =>
    match P.underlying t, evA G T x, evA G T ix with
    | some (.array n e), .agg cs, .int _ i => (tk P e).bind fun s => if 0 ≤ i ∧ i < n then same H (ldv s.1 s.2 (cs.drop (i.toNat * s.2))) else none
    | some .string, .str s, .int _ i => if 0 ≤ i then same H ((bl s)[i.toNat]?.map fun b => .int .u8 b.toNat) else none
    | _, _, _ => none
  | .extract x i => match evA G T x with | .tup vs => same H vs[i]? | _ => none
  | .typeAssert x _ t ok =>
    if isIface P t = true then none else
    match evA G T x with
    | .ifc u v => if u = t then some (if ok then .tup [v, .bool true] else v, H, []) else if ok then (zeroT P t).bind fun z => some (.tup [z, .bool false], H, []) else none
    | .nili => if ok then (zeroT P t).bind fun z => some (.tup [z, .bool false], H, []) else none
    | _ => none
  | .makeMap t r => match P.underlying t, r with
    | some (.map _ _), none => some (.mp H.length, H ++ [.mp []], [])
    | _, _ => none
  | .lookup t x k ok => match P.underlying t with
    | some (.map kt et) => if keyOk (P.underlying kt) (evA G T k) = true then (zeroT P et).bind fun z => same H (lookA z ok (evA G T x) (evA G T k) H) else none
    | _ => none
  | .mapUpdate t x k v => match P.underlying t with
    | some (.map kt _) => if keyOk (P.underlying kt) (evA G T k) = true then (updA (evA G T x) (evA G T k) (evA G T v) H).map fun H' => (.tup [], H', []) else none
    | _ => none
  | .makeSlice t n c => (elemT P t).bind fun e => (tk P e).bind fun s => (zeroT P e).bind fun z => (P.info? e).bind fun i => makeA s.2 i.bytes z (evA G T n) (evA G T c) H
  | .call c =>
    match c.callee with
    | .builtin .len =>
      match c.args.toList, (c.argTypes[0]?).bind P.underlying with
      | [_], some (.array n _) => same H (some (.int .i64 n))
      | [x], some .string => match evA G T x with | .str s => same H (some (.int .i64 s.size)) | _ => none
      | [x], some (.slice _) => same H ((lenA (evA G T x) H).map fun (n : Nat) => AV.int .i64 (n : Int))
      | [x], some (.map _ _) => same H ((lenM (evA G T x) H).map fun (n : Nat) => AV.int .i64 (n : Int))
      | _, _ => none
    | .builtin .delete =>
      match c.args.toList, (c.argTypes[0]?).bind P.underlying with
      | [x, k], some (.map kt _) => if keyOk (P.underlying kt) (evA G T k) = true then (delA (evA G T x) (evA G T k) H).map fun H' => (.tup [], H', []) else none
      | _, _ => none
    | .builtin .append =>
      match c.args.toList, c.argTypes[0]?, c.argTypes[1]? with
      | [x, y], some t, some u =>
        (elemT P t).bind fun e => (tk P e).bind fun s => (P.info? e).bind fun i => (zeroT P e).bind fun z0 =>
        if noInt P u = true ∧ z0.cells.length = s.2 ∧ z0.isBad = false then
          (elemsA (evA G T y) H).bind fun ys => if act = 9 then same H (appF s.2 i.bytes (evA G T x) ys) else appendA s.2 i.bytes (evA G T x) ys H
        else if isInt P u = true ∧ act ≠ 9 then appZ s.2 i.bytes z0 (evA G T x) (evA G T y) H
        else none
      | _, _, _ => none
    | .builtin .cap =>
      match c.args.toList, (c.argTypes[0]?).bind P.underlying with
      | [x], some (.slice _) => same H (capA (evA G T x))
      | _, _ => none
    | .builtin .min => same H (minA (c.args.toList.map (evA G T)))
    | .builtin .max => same H (maxA (c.args.toList.map (evA G T)))
    | .value f =>
      match evA G T f with
      | .clo g fi ca => if okF P g = true then (if act = 12 ∨ act = 13 ∨ act = 14 then callX env act g (fi ++ c.args.toList.map (evA G T) ++ ca) H else callA env (rawA act) (vrA act g) (fi ++ c.args.toList.map (evA G T) ++ ca) H) else none
      | _ => none
    | _ => none
  | _ => none
/-- the beginning of a row becomes a row of its own; the row is let go -/
def isNils : AV → Bool | .nils => true | _ => false
def trimA (r : R3) : Option R3 :=
  match r.1 with
  | .agg cs => match cs.findIdx? isNils with
    | some k => some (.agg (cs.set k (.slc r.2.1.length 0 0 0)), r.2.1 ++ [.vrow], r.2.2)
    | none => none
  | .slc l 0 k tot => match r.2.1[l]? with
    | some (.row z es) => if es.length = tot ∧ k ≤ tot then some (.slc r.2.1.length 0 k k, (r.2.1.set l .dead) ++ [.row z (es.take k)], r.2.2) else none
    | _ => none
  | _ => none
/-- a struct's rows of structs become data -/
def frzC (r : R3) : Option R3 := match r.1 with
  | .agg cs => some (.agg (cs.map (frzC1 r.2.1)), killAll r.2.1 (killC r.2.1 cs), r.2.2)
  | _ => none
/-- with what a hint asks for behind it -/
def aop' (P : Program) (G : Nat → Option (List AV)) (env : Env) (act : Nat) (o : Oper) (T : List AV) (H : List AObj) : Option R3 :=
  if act = 3 then (aop P G env 0 o T H).bind fun r => (frz r.2.1 r.1).map fun v => (v, killAll r.2.1 (kills r.1), r.2.2)
  else if act = 5 then (aop P G env 0 o T H).bind trimA
  else if act = 16 then (aop P G env 0 o T H).bind frzC
  else aop P G env act o T H

def actOf (h : Hint) (id i : Nat) : Nat := ((h.acts.find? fun a => a.1 == id && a.2.1 == i).map (·.2.2)).getD 0

def opA (P : Program) (G : Nat → Option (List AV)) (env : Env) (h : Hint) (id : Nat) (ops : Array Oper) (i : Nat) (o : Oper) (s : St) : Option St :=
  match wantA ops s.T o with
  | some true => (aop' P G env (actOf h id i) o s.T s.H).map fun r => ⟨putA s.T o.dst r.1, r.2.1, r.2.2 ++ s.E⟩
  | some false => some ⟨putA s.T o.dst (.tup []), s.H, s.E⟩
  | none => none
def opsA (P : Program) (G : Nat → Option (List AV)) (env : Env) (h : Hint) (id : Nat) (ops : Array Oper) : List Oper → Nat → St → Option St
  | [], _, s => some s
  | o :: os, i, s => (opA P G env h id ops i o s).bind fun s' => opsA P G env h id ops os (i + 1) s'

/-- what an operation yields -/
def valA (P : Program) (G : Nat → Option (List AV)) (env : Env) (h : Hint) (id : Nat) (ops : Array Oper) (i : Nat) (o : Oper) (T : List AV) (H : List AObj) : Option R3 :=
  match wantA ops T o with
  | some true => aop' P G env (actOf h id i) o T H
  | some false => some (.tup [], H, [])
  | none => none
/-- the state ahead of operation i, in the text's order -/
def stA (P : Program) (G : Nat → Option (List AV)) (env : Env) (h : Hint) (id : Nat) (ops : Array Oper) (s : St) (i : Nat) : Option St := opsA P G env h id ops (ops.toList.take i) 0 s
/-- what it binds itself to -/
def bnd (ops : Array Oper) (i : Nat) : List Nat := match ops[i]? with
  | some o => (o.after.toList.filter (Region.binds .any ·)).map (·.on)
  | none => []
def insN (a : Nat) (l : List Nat) : List Nat := if l.contains a then l else a :: l
def uniN (a b : List Nat) : List Nat := a.foldr insN b
/-- all that stands ahead of each -/
def ancL (ops : Array Oper) : Nat → List (List Nat)
  | 0 => []
  | n + 1 => ancL ops n ++ [(bnd ops n).foldr (fun j acc => uniN (j :: (ancL ops n).getD j []) acc) []]
/-- it may change the heap -/
def isEv (h : Hint) (id i : Nat) (o : Oper) : Bool :=
  h.evs.contains (id, i) || match actOf h id i with
    | 0 => (match o.op with
      | .alloc _ | .box _ _ | .makeSlice _ _ _ | .store _ _ _ | .makeMap _ _ | .mapUpdate _ _ _ _ => true
      | .call c => (match c.callee with | .builtin .append => true | .builtin .delete => true | _ => false)
      | _ => false)
    | 8 => (match o.op with | .alloc _ => false | _ => true)
    | 9 => (match o.op with
      | .buildSlice _ _ _ => false
      | .call c => (match c.callee with | .builtin .append => false | _ => true)
      | _ => true)
    | 12 => (match o.op with
      | .call c => (match c.callee with | .value _ => false | _ => true)
      | _ => true)
    | 13 => (match o.op with
      | .call c => (match c.callee with | .value _ => false | _ => true)
      | _ => true)
    | 14 => (match o.op with
      | .call c => (match c.callee with | .value _ => false | _ => true)
      | _ => true)
    | _ => true
/-- it looks at no heap -/
def noH (o : Oper) : Bool :=
  match o.op with
  | .move _ | .assign _ | .pick _ _ _ | .build _ _ | .binOp _ _ _ _ _ | .unOp _ _ _ | .fieldAddr _ _ _ | .field _ _ _ | .makeInterface _ _ | .makeFunc _ _ _ | .index _ _ _ | .extract _ _ | .typeAssert _ _ _ _ | .nilCheck _ => true
  | .call c => (match c.callee with | .builtin .min => true | .builtin .max => true | _ => false)
  | _ => false
def evL (h : Hint) (id : Nat) (ops : Array Oper) : List Nat := (List.range ops.size).filter fun i => match ops[i]? with | some o => isEv h id i o | none => false
def drawS (h : Hint) (id : Nat) (ops : Array Oper) : Bool :=
  let A := ancL ops ops.size
  (List.range ops.size).all fun j =>
    ((bnd ops j).all fun i => decide (i < j)) &&
    (List.range j).all fun i => (A.getD j []).contains i || match ops[i]?, ops[j]? with
      | some x, some y => x.apart ops y && !(isEv h id i x && isEv h id j y)
      | _, _ => true
/-- where each reading operation must have its value too -/
def drawQ (h : Hint) (id : Nat) (ops : Array Oper) : List (Nat × Nat) :=
  let A := ancL ops ops.size
  (List.range ops.size).flatMap fun i => match ops[i]? with
    | some o => if isEv h id i o || noH o then [] else
      (i, i) :: (evL h id ops).filterMap fun e => if e < i then (if (A.getD i []).contains e then none else some (i, e)) else (if (A.getD e []).contains i then none else some (i, e + 1))
    | none => []
def DrawAt (P : Program) (G : Nat → Option (List AV)) (env : Env) (h : Hint) (id : Nat) (ops : Array Oper) (s : St) (p : Nat × Nat) : Prop :=
  ∃ o si sj r, ops[p.1]? = some o ∧ stA P G env h id ops s p.1 = some si ∧ stA P G env h id ops s p.2 = some sj ∧
    valA P G env h id ops p.1 o si.T si.H = some (r, si.H, []) ∧ valA P G env h id ops p.1 o si.T sj.H = some (r, sj.H, [])
def DrawOk1 (P : Program) (G : Nat → Option (List AV)) (env : Env) (h : Hint) (id : Nat) (ops : Array Oper) (s : St) : Prop :=
  P.follows .mixedOrders = true ∧ drawS h id ops = true ∧ ∀ p ∈ drawQ h id ops, DrawAt P G env h id ops s p
/-- two heap-changing operations, p and q, may come in either order -/
def drawS2 (h : Hint) (id : Nat) (ops : Array Oper) (p q : Nat) : Bool :=
  let A := ancL ops ops.size
  decide (p < q) && decide (q < ops.size) && (match ops[p]?, ops[q]? with | some x, some y => isEv h id p x && isEv h id q y | _, _ => false) &&
  ((List.range ops.size).all fun i => decide (i ≤ p) || decide (q ≤ i) || match ops[i]? with | some o => !isEv h id i o | none => true) &&
  (List.range ops.size).all fun j =>
    ((bnd ops j).all fun i => decide (i < j)) &&
    (List.range j).all fun i => (A.getD j []).contains i || match ops[i]?, ops[j]? with
      | some x, some y => x.apart ops y && (!(isEv h id i x && isEv h id j y) || (i == p && j == q))
      | _, _ => true
/-- the readings that may meet the heap between the two -/
def swapQ (h : Hint) (id : Nat) (ops : Array Oper) (p q : Nat) : List Nat :=
  let A := ancL ops ops.size
  (List.range ops.size).filter fun i => match ops[i]? with
    | some o => !(isEv h id i o) && !(noH o) && !(A.getD i []).contains p && !(A.getD q []).contains i
    | none => false
def SwapRd (P : Program) (G : Nat → Option (List AV)) (env : Env) (h : Hint) (id : Nat) (ops : Array Oper) (s : St) (Hm : List AObj) (i : Nat) : Prop :=
  ∃ o si r, ops[i]? = some o ∧ stA P G env h id ops s i = some si ∧ valA P G env h id ops i o si.T si.H = some (r, si.H, []) ∧ valA P G env h id ops i o si.T Hm = some (r, Hm, [])
def SwapAt (P : Program) (G : Nat → Option (List AV)) (env : Env) (h : Hint) (id : Nat) (ops : Array Oper) (s : St) (p q : Nat) : Prop :=
  ∃ op oq sp sq sr vp vq Hm, ops[p]? = some op ∧ ops[q]? = some oq ∧ stA P G env h id ops s p = some sp ∧ stA P G env h id ops s q = some sq ∧ stA P G env h id ops s (q + 1) = some sr ∧
    valA P G env h id ops p op sp.T sp.H = some vp ∧ valA P G env h id ops q oq sq.T sq.H = some vq ∧
    valA P G env h id ops q oq sq.T sp.H = some (vq.1, Hm, vq.2.2) ∧ valA P G env h id ops p op sp.T Hm = some (vp.1, sr.H, vp.2.2) ∧ vp.2.2 ++ vq.2.2 = vq.2.2 ++ vp.2.2 ∧
    ∀ i ∈ swapQ h id ops p q, SwapRd P G env h id ops s Hm i
def SwapOk (P : Program) (G : Nat → Option (List AV)) (env : Env) (h : Hint) (id : Nat) (ops : Array Oper) (s : St) : Prop :=
  P.follows .mixedOrders = true ∧ (∀ p ∈ drawQ h id ops, DrawAt P G env h id ops s p) ∧ ∃ p q, drawS2 h id ops p q = true ∧ SwapAt P G env h id ops s p q
def subL (h : Hint) (id : Nat) : List (Nat × Nat) := (h.subs.filter fun x => x.1 == id).map (·.2)
def DrawOk (P : Program) (G : Nat → Option (List AV)) (env : Env) (h : Hint) (id : Nat) (ops : Array Oper) (s : St) : Prop :=
  DrawOk1 P G env h id ops s ∨ (subL h id = [] ∧ SwapOk P G env h id ops s)

/-- what says that nothing is known -/
def nopO : Op := .move (.const (.pointer (some ⟨0, 0, none⟩)))
/-- l, r := a, b: variables that are made and then stored once, each, in a region: (alloc, store); the store stands for both -/
def subOp (ops : Array Oper) (l : List (Nat × Nat)) (i : Nat) (o : Oper) : Oper :=
  if l.any (fun x => x.1 == i) = true then { o with op := nopO }
  else match l.find? (fun x => x.2 == i) with
    | some x => match o.op with
      | .store t _ v => { o with dst := (ops[x.1]?).bind (·.dst), op := .box t v }
      | _ => o
    | none => o
def isTmp : Operand → Nat → Bool
  | .tmp a, t => a == t
  | _, _ => false
def subP (P : Program) (h : Hint) (id : Nat) (ops : Array Oper) (m : Nat) (x : Nat × Nat) : Bool :=
  decide (x.1 < x.2) && (bnd ops x.2).contains x.1 && actOf h id x.1 == 0 && actOf h id x.2 == 10 && match ops[x.1]?, ops[x.2]? with
  | some p, some s => match p.op, p.dst, s.op, s.dst with
    | .alloc ty, some t, .store ty' a _, none => ty == ty' && isTmp a t && decide (t < m) && ((List.range ops.size).all fun i => i == x.1 || match ops[i]? with | some o => o.dst != some t | none => true) &&
      match zeroT P ty, tk P ty with
      | some z, some n => z.cells.all AV.one && decide (z.cells.length = n.2)
      | _, _ => false
    | _, _, _, _ => false
  | _, _ => false
def subB (P : Program) (h : Hint) (id : Nat) (ops : Array Oper) (m : Nat) (l : List (Nat × Nat)) : Bool :=
  ops.toList.all (fun o => o.guard.isNone) && l.all (subP P h id ops m) && l.all fun x => l.all fun y => (x.1 == y.1) == (x.2 == y.2)
def subA (ops : Array Oper) (l : List (Nat × Nat)) : Array Oper := Array.mk ((List.range ops.size).map fun i => subOp ops l i (ops.getD i default))
def subO (P : Program) (h : Hint) (id : Nat) (ops : Array Oper) (m : Nat) : Array Oper :=
  match subL h id with
  | [] => ops
  | l => match subB P h id ops m l with
    | true => subA ops l
    | false => ops

open Classical in
noncomputable def lim {α : Type} (f : Nat → Option α) : Option α :=
  if h : ∃ n, (f n).isSome then f h.choose else none
def loopN (F : St → Option Out) : Nat → St → Option Out
  | 0, _ => none
  | n + 1, s => (F s).bind fun o => match o with
    | .nrm s' => loopN F n s'
    | o => some o
noncomputable def loopL (F : St → Option Out) (s : St) : Option Out := lim fun n => loopN F n s

def firstReg : Code → Nat
  | .region id _ _ => id
  | .seq a _ => firstReg a
  | .block _ c => firstReg c
  | .loop c => firstReg c
  | _ => 0
/-- the place behind which the second part of a sequence begins -/
def seqId (b : Code) : Nat := 1000000 + firstReg b
def look (l : List (Nat × List Nat)) (k : Nat) : Option (List Nat) := (l.find? fun p => p.1 == k).map (·.2)
/-- the end of a round: what was made in it is let go -/
def roundA (h : Hint) (k : Nat) (s : St) (o : Out) : Option Out :=
  match o with
  | .nrm s' =>
    match look h.loops k with
    | some ts =>
      if h.open_.contains k then some (.nrm ⟨clearA s'.T ts, s'.H, s'.E ++ s.E⟩)
      else if belL s.H.length (clearA s'.T ts) = true ∧ (s'.E.all fun e => decide (s.H.length ≤ e)) = true then some (.nrm ⟨clearA s'.T ts, s'.H.take s.H.length, s.E⟩)
      else none
    | none => some (.nrm ⟨s'.T, s'.H, s'.E ++ s.E⟩)
  | .ret r H E => some (.ret r H (E ++ s.E))
  | .ext i s' => some (.ext i ⟨s'.T, s'.H, s'.E ++ s.E⟩)
def blkA (h : Hint) (id : Nat) (s : St) : St :=
  match look h.blks id with
  | some ts => ⟨clearA s.T ts, s.H, s.E⟩
  | none => s
def resA1 (P : Program) (s : St) : ResultVar → Option AV
  | .tmp t => some (s.T.getD t (.tup []))
  | .cell a t => (tk P t).bind fun z => loadA z.1 z.2 (s.T.getD a (.tup [])) s.H
def resA (P : Program) (fn : Func) (s : St) : Option AV :=
  (fn.results.toList.mapM (resA1 P s)).map fun vs => match vs with
    | [v] => v
    | vs => .tup vs

open Classical in
noncomputable def runC (P : Program) (G : Nat → Option (List AV)) (env : Env) (h : Hint) (fn : Func) : Code → St → Option Out
  | .skip, s => some (.nrm s)
  | .label _, s => some (.nrm s)
  | .region id ops draw, s => match draw with
    | true => (opsA P G env h id (subO P h id ops s.T.length) (subO P h id ops s.T.length).toList 0 s).bind fun s' => if DrawOk P G env h id (subO P h id ops s.T.length) s then some (.nrm s') else none
    | false => (opsA P G env h id ops ops.toList 0 s).bind fun s' => some (.nrm s')
  | .seq a b, s => (runC P G env h fn a s).bind fun o => match o with
    | .nrm s' => runC P G env h fn b (blkA h (seqId b) s')
    | o => some o
  | .cond c a b, s => match evA G s.T c with
    | .bool t => if t = true then runC P G env h fn a s else runC P G env h fn b s
    | _ => none
  | .block id c, s => (runC P G env h fn c s).bind fun o => match o with
    | .nrm s' => some (.nrm (blkA h id s'))
    | .ext i s' => if i = id then some (.nrm (blkA h id s')) else some (.ext i s')
    | o => some o
  | .loop c, s => loopL (fun s => (runC P G env h fn c ⟨s.T, s.H, []⟩).bind (roundA h (firstReg c) s)) ⟨clearA s.T ((look h.loops (firstReg c)).getD []), s.H, s.E⟩
  | .exit id, s => some (.ext id s)
  | .ret, s => (resA P fn s).map fun r => .ret r s.H s.E
  | _, _ => none

/-- the end of a call -/
def endA (h : Hint) (n : Nat) (r : AV) (H : List AObj) (E : List Nat) : Option R3 :=
  (if h.raw then some (r, H) else (frz H r).map fun r' => (r', killAll H (kills r))).bind fun p =>
  if h.keep then some (p.1, p.2, E)
  else if p.1.bel n = true ∧ (E.all fun e => decide (n ≤ e)) = true then some (p.1, p.2.take n, []) else none
noncomputable def fnA (P : Program) (G : Nat → Option (List AV)) (env : Env) (h : Hint) (fn : Func) (args : List AV) (H : List AObj) : Option R3 :=
  match fn.body with
  | none => none
  | some c =>
    (runC P G env h fn c ⟨args ++ List.replicate (fn.ntmps - args.length) (.tup []), H, []⟩).bind fun o => match o with
      | .nrm s => (resA P fn s).bind fun r => endA h H.length r s.H s.E
      | .ret r H' E => endA h H.length r H' E
      | .ext _ _ => none

structure Cfg where
  P : Program
  G : Nat → Option (List AV)
  I : FuncId → Option (List AV → List AObj → Option R3)
  hint : FuncId → Hint
noncomputable def evN (C : Cfg) : Nat → Env
  | 0 => fun _ _ _ => none
  | k + 1 => fun f a H => match C.I f with
    | some F => F a H
    | none => match C.P.funcs[base f]? with
      | some fn => fnA C.P C.G (evN C k) (C.hint f) fn a H
      | none => none
noncomputable def EV (C : Cfg) : Env := fun f a H => lim fun k => evN C k f a H

end Go.Pm
