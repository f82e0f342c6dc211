/- The abstract values, what it means that a Go value in a world is one of them, and how that lasts. -/
import Derived.Orders
import Derived.Laws.Sem
import Derived.KernelRfl
import Derived.Laws.IdiomCopy
import Derived.ChangeKeysEq
import Derived.Laws.Entries
namespace Go.Pm
set_option linter.unusedVariables false

inductive AV where
  | bad
  | int (k : IntKind) (n : Int)
  | bool (b : Bool)
  | str (s : ByteArray)
  | nilp
  | ptr (l tot i off : Nat)
  | ip (cs : List AV)
  | lst (es : List AV)
  | nils
  | emp (isnil : Bool)
  | slc (l off n tot : Nat)
  | agg (cs : List AV)
  | tup (vs : List AV)
  | clo (f : FuncId) (first cap : List AV)
  | nilf
  | ifc (t : TypeId) (v : AV)
  | nili
  deriving Inhabited

def AV.cells : AV → List AV
  | .agg cs => cs
  | v => [v]
/-- A value that fills one cell. -/
def AV.one : AV → Bool
  | .agg _ | .tup _ | .bad => false
  | _ => true

/-- Elements that may lie in cells. -/
def oneL (es : List AV) : Prop := ∀ e ∈ es, e.cells.all AV.one = true

inductive AObj where
  | row (z : Nat) (es : List AV)
  | vrow
  | dead
  deriving Inhabited

def lenOf (H : List AObj) (l : Nat) : Option Nat :=
  match H[l]? with
  | some (.row _ es) => some es.length
  | some .vrow => some 0
  | _ => none

structure Cx where
  F : Nat → Prop
  ι : Nat → Option (Nat × Nat)
  H : List AObj
  w : World

def cellAt (w : World) (b j : Nat) : Option Value :=
  match w.heap[b]? with
  | some (.cells c _ _) => c[j]?
  | _ => none
def sizeAt (w : World) (b : Nat) : Option Nat :=
  match w.heap[b]? with
  | some (.cells c _ _) => some c.size
  | _ => none

theorem cell?_plain (w : World) (b j : Nat) : w.cell? ⟨b, j, none⟩ = cellAt w b j := by
  unfold World.cell? cellAt; simp only [Option.isSome_none, Bool.false_eq_true, if_false]; rfl

def isRow : Option AObj → Prop
  | some (.row _ _) => True
  | _ => False

/-- The blocks that may be written: those of live rows. -/
def Cx.wr (X : Cx) (b : Nat) : Prop := ∃ l z, isRow X.H[l]? ∧ X.ι l = some (b, z)
/-- A block that nobody writes. -/
def Cx.im (X : Cx) (b : Nat) : Prop := (b < X.w.heap.size ∧ ¬ X.F b) ∧ ¬ X.wr b

mutual
def M (X : Cx) : AV → Value → Prop
  | .bad, _ => True
  | .int k n, v => v = .int k n
  | .bool b, v => v = .bool b
  | .str s, v => v = .string s
  | .nilp, v => v = .pointer none
  | .ptr l tot i off, v => (l < X.H.length ∧ ∃ q, v = .pointer (some q)) ∧ (∀ t, lenOf X.H l = some t → tot ≤ t) ∧ (lenOf X.H l = some tot → ∃ b z, isRow X.H[l]? ∧ X.ι l = some (b, z) ∧ v = .pointer (some ⟨b, i * z + off, none⟩))
  | .ip cs, v => ∃ b o, v = .pointer (some ⟨b, o, none⟩) ∧ X.im b ∧ Mc X cs b o
  | .lst es, v => ∃ A c, v = .slice A es.length c ∧ es.length ≤ c ∧ oneL es ∧ (es ≠ [] → ∃ b o z, A = some ⟨b, o, none⟩ ∧ 0 < z ∧ X.im b ∧ Me X es b o z)
  | .nils, v => v = .slice none 0 0
  | .emp b, v => ∃ A c, v = .slice A 0 c ∧ A.isNone = b
  | .slc l off n tot, v => (l < X.H.length ∧ ∃ A m c, v = .slice A m c) ∧ (∀ t, lenOf X.H l = some t → tot ≤ t) ∧ (lenOf X.H l = some tot →
      (X.H[l]? = some .vrow ∧ off = 0 ∧ n = 0 ∧ v = .slice none 0 0) ∨
      (isRow X.H[l]? ∧ ∃ A c b z s, X.ι l = some (b, z) ∧ v = .slice A n c ∧ off + n ≤ tot ∧ n ≤ c ∧ sizeAt X.w b = some s ∧ (c = 0 ∨ (A = some ⟨b, off * z, none⟩ ∧ (off + c) * z ≤ s))))
  | .agg cs, v => ∃ vs, v = .agg vs ∧ Ms X cs vs.toList
  | .tup cs, v => ∃ vs, v = .tuple vs ∧ Ms X cs vs.toList
  | .clo f fi ca, v => ∃ fv cv, v = .func (.func f) fv cv ∧ Ms X fi fv.toList ∧ Ms X ca cv.toList
  | .nilf, v => v = .nilFunc
  | .ifc t a, v => ∃ u, v = .iface t u ∧ M X a u
  | .nili, v => v = .nilIface
/-- cells from place o of block b on -/
def Mc (X : Cx) : List AV → Nat → Nat → Prop
  | [], _, _ => True
  | c :: cs, b, o => (∃ u, cellAt X.w b o = some u ∧ M X c u) ∧ Mc X cs b (o + 1)
/-- elements of z cells each from place o of block b on -/
def Me (X : Cx) : List AV → Nat → Nat → Nat → Prop
  | [], _, _, _ => True
  | .agg cs :: es, b, o, z => (cs.length = z ∧ Mc X cs b o) ∧ Me X es b (o + z) z
  | e :: es, b, o, z => (z = 1 ∧ ∃ u, cellAt X.w b o = some u ∧ M X e u) ∧ Me X es b (o + z) z
def Ms (X : Cx) : List AV → List Value → Prop
  | [], vs => vs = []
  | c :: cs, vs => ∃ u us, vs = u :: us ∧ M X c u ∧ Ms X cs us
end

/-- What may come of a state: what isn't written stays, rows only grow. -/
structure Ext (X Y : Cx) : Prop where
  size : X.w.heap.size ≤ Y.w.heap.size
  hlen : X.H.length ≤ Y.H.length
  keep : ∀ b, b < X.w.heap.size → ¬ X.wr b → Y.w.heap[b]? = X.w.heap[b]?
  wr : ∀ b, b < X.w.heap.size → Y.wr b → X.wr b
  grow : ∀ l t, l < X.H.length → lenOf Y.H l = some t → ∃ t0, lenOf X.H l = some t0 ∧ t0 ≤ t ∧
    (t0 = t → (isRow X.H[l]? → isRow Y.H[l]? ∧ ∀ b z, X.ι l = some (b, z) → Y.ι l = some (b, z) ∧ sizeAt Y.w b = sizeAt X.w b) ∧ (X.H[l]? = some .vrow → Y.H[l]? = some .vrow))
  tape : Y.w.tape = X.w.tape
  os : Y.w.os = X.w.os
  output : Y.w.output = X.w.output
  for_ : Y.F = X.F

theorem isRow_len {o : Option AObj} {H : List AObj} {l : Nat} (h : isRow H[l]?) : ∃ z es, H[l]? = some (.row z es) := by
  unfold isRow at h
  split at h
  · exact ⟨_, _, ‹_›⟩
  · exact h.elim

theorem Ext.refl (X : Cx) : Ext X X :=
  ⟨Nat.le_refl _, Nat.le_refl _, fun _ _ _ => rfl, fun _ _ h => h, fun l t _ h => ⟨t, h, Nat.le_refl _, fun _ => ⟨fun hr => ⟨hr, fun _ _ h => ⟨h, rfl⟩⟩, fun h => h⟩⟩, rfl, rfl, rfl, rfl⟩

theorem Ext.trans {X Y Z : Cx} (h : Ext X Y) (k : Ext Y Z) : Ext X Z where
  size := Nat.le_trans h.size k.size
  hlen := Nat.le_trans h.hlen k.hlen
  keep b hb hm := by
    rw [k.keep b (Nat.lt_of_lt_of_le hb h.size) (fun hy => hm (h.wr b hb hy)), h.keep b hb hm]
  wr b hb hm := h.wr b hb (k.wr b (Nat.lt_of_lt_of_le hb h.size) hm)
  grow l t hl ht := by
    obtain ⟨t1, h1, le1, e1⟩ := k.grow l t (Nat.lt_of_lt_of_le hl h.hlen) ht
    obtain ⟨t0, h0, le0, e0⟩ := h.grow l t1 hl h1
    refine ⟨t0, h0, Nat.le_trans le0 le1, fun e => ?_⟩
    have ea : t0 = t1 := by omega
    have eb : t1 = t := by omega
    obtain ⟨ra, va⟩ := e0 ea
    obtain ⟨rb, vb⟩ := e1 eb
    refine ⟨fun hr => ?_, fun hv => vb (va hv)⟩
    obtain ⟨ry, sy⟩ := ra hr
    obtain ⟨rz, sz⟩ := rb ry
    refine ⟨rz, fun b z hb => ?_⟩
    obtain ⟨i1, s1⟩ := sy b z hb
    obtain ⟨i2, s2⟩ := sz b z i1
    exact ⟨i2, s2.trans s1⟩
  tape := k.tape.trans h.tape
  os := k.os.trans h.os
  output := k.output.trans h.output
  for_ := k.for_.trans h.for_

theorem lt_of_cellAt {w : World} {b j : Nat} {u : Value} (h : cellAt w b j = some u) : b < w.heap.size := by
  unfold cellAt at h
  split at h
  · rename_i c e f hb
    exact (Array.getElem?_eq_some_iff.1 hb).1
  · cases h

theorem cellAt_keep {X Y : Cx} (h : Ext X Y) {b j : Nat} {u : Value} (hm : ¬ X.wr b) (hc : cellAt X.w b j = some u) : cellAt Y.w b j = some u := by
  unfold cellAt at hc ⊢
  rw [h.keep b (lt_of_cellAt (w := X.w) (j := j) (u := u) (by unfold cellAt; exact hc)) hm]
  exact hc
theorem im_keep {X Y : Cx} (h : Ext X Y) {b : Nat} (hm : X.im b) : Y.im b := ⟨⟨Nat.lt_of_lt_of_le hm.1.1 h.size, h.for_ ▸ hm.1.2⟩, fun hy => hm.2 (h.wr b hm.1.1 hy)⟩

mutual
theorem M_mono {X Y : Cx} (h : Ext X Y) : ∀ (v : AV) (u : Value), M X v u → M Y v u
  | .bad, _, _ => by unfold M; trivial
  | .int _ _, _, hm => by unfold M at hm ⊢; exact hm
  | .bool _, _, hm => by unfold M at hm ⊢; exact hm
  | .str _, _, hm => by unfold M at hm ⊢; exact hm
  | .nilp, _, hm => by unfold M at hm ⊢; exact hm
  | .nils, _, hm => by unfold M at hm ⊢; exact hm
  | .emp _, _, hm => by unfold M at hm ⊢; exact hm
  | .nilf, _, hm => by unfold M at hm ⊢; exact hm
  | .nili, _, hm => by unfold M at hm ⊢; exact hm
  | .ptr l tot i off, u, hm => by
    unfold M at hm ⊢
    obtain ⟨⟨h1, h0⟩, h2, h3⟩ := hm
    refine ⟨⟨Nat.lt_of_lt_of_le h1 h.hlen, h0⟩, fun t ht => ?_, fun ht => ?_⟩
    · obtain ⟨t0, k0, k1, _⟩ := h.grow l t h1 ht
      exact Nat.le_trans (h2 _ k0) k1
    · obtain ⟨t0, k0, k1, k2⟩ := h.grow l tot h1 ht
      obtain rfl : t0 = tot := Nat.le_antisymm k1 (h2 _ k0)
      obtain ⟨b, z, hr, hi, hv⟩ := h3 k0
      obtain ⟨ra, ia⟩ := (k2 rfl).1 hr
      exact ⟨b, z, ra, (ia b z hi).1, hv⟩
  | .slc l off n tot, u, hm => by
    unfold M at hm ⊢
    obtain ⟨⟨h1, h0⟩, h2, h3⟩ := hm
    refine ⟨⟨Nat.lt_of_lt_of_le h1 h.hlen, h0⟩, fun t ht => ?_, fun ht => ?_⟩
    · obtain ⟨t0, k0, k1, _⟩ := h.grow l t h1 ht
      exact Nat.le_trans (h2 _ k0) k1
    · obtain ⟨t0, k0, k1, k2⟩ := h.grow l tot h1 ht
      obtain rfl : t0 = tot := Nat.le_antisymm k1 (h2 _ k0)
      rcases h3 k0 with ⟨hv, e⟩ | ⟨hr, A, c, b, z, s, hi, hv, a1, a2, a3, a4⟩
      · exact .inl ⟨(k2 rfl).2 hv, e⟩
      · obtain ⟨ra, ia⟩ := (k2 rfl).1 hr
        exact .inr ⟨ra, A, c, b, z, s, (ia b z hi).1, hv, a1, a2, (ia b z hi).2.trans a3, a4⟩
  | .ip cs, u, hm => by
    unfold M at hm ⊢
    obtain ⟨b, o, hv, hb, hc⟩ := hm
    exact ⟨b, o, hv, im_keep h hb, Mc_mono h cs b o (fun j u => cellAt_keep h hb.2) hc⟩
  | .lst es, u, hm => by
    unfold M at hm ⊢
    obtain ⟨A, c, hv, hc, h1, he⟩ := hm
    refine ⟨A, c, hv, hc, h1, fun hn => ?_⟩
    obtain ⟨b, o, z, hA, hz, hb, hme⟩ := he hn
    exact ⟨b, o, z, hA, hz, im_keep h hb, Me_mono h es b o z (fun j u => cellAt_keep h hb.2) hme⟩
  | .agg cs, u, hm => by
    unfold M at hm ⊢
    obtain ⟨vs, hv, hs⟩ := hm
    exact ⟨vs, hv, Ms_mono h cs vs.toList hs⟩
  | .tup cs, u, hm => by
    unfold M at hm ⊢
    obtain ⟨vs, hv, hs⟩ := hm
    exact ⟨vs, hv, Ms_mono h cs vs.toList hs⟩
  | .clo f fi ca, u, hm => by
    unfold M at hm ⊢
    obtain ⟨fv, cv, hv, ha, hb⟩ := hm
    exact ⟨fv, cv, hv, Ms_mono h fi _ ha, Ms_mono h ca _ hb⟩
  | .ifc t a, u, hm => by
    unfold M at hm ⊢
    obtain ⟨u, hv, ha⟩ := hm
    exact ⟨u, hv, M_mono h a u ha⟩
theorem Mc_mono {X Y : Cx} (h : Ext X Y) : ∀ (cs : List AV) (b o : Nat), (∀ j u, cellAt X.w b j = some u → cellAt Y.w b j = some u) → Mc X cs b o → Mc Y cs b o
  | [], _, _, _, _ => by unfold Mc; trivial
  | c :: cs, b, o, hb, hm => by
    unfold Mc at hm ⊢
    obtain ⟨⟨u, hu, hc⟩, hs⟩ := hm
    exact ⟨⟨u, hb _ _ hu, M_mono h c u hc⟩, Mc_mono h cs b (o + 1) hb hs⟩
theorem Me_mono {X Y : Cx} (h : Ext X Y) : ∀ (es : List AV) (b o z : Nat), (∀ j u, cellAt X.w b j = some u → cellAt Y.w b j = some u) → Me X es b o z → Me Y es b o z
  | [], _, _, _, _, _ => by unfold Me; trivial
  | e :: es, b, o, z, hb, hm => by
    cases e with
    | agg cs =>
      unfold Me at hm ⊢
      exact ⟨⟨hm.1.1, Mc_mono h cs b o hb hm.1.2⟩, Me_mono h es b (o + z) z hb hm.2⟩
    | _ =>
      unfold Me at hm ⊢
      obtain ⟨⟨hz, u, hu, hc⟩, hs⟩ := hm
      exact ⟨⟨hz, u, hb _ _ hu, M_mono h _ u hc⟩, Me_mono h es b (o + z) z hb hs⟩
theorem Ms_mono {X Y : Cx} (h : Ext X Y) : ∀ (cs : List AV) (vs : List Value), Ms X cs vs → Ms Y cs vs
  | [], _, hm => by unfold Ms at hm ⊢; exact hm
  | c :: cs, vs, hm => by
    unfold Ms at hm ⊢
    obtain ⟨u, us, hv, hc, hs⟩ := hm
    exact ⟨u, us, hv, M_mono h c u hc, Ms_mono h cs us hs⟩
end

end Go.Pm

/- The evaluator: Go's elaborated code on abstract values. -/
namespace Go.Pm
set_option linter.unusedVariables false

def AV.isBad : AV → Bool
  | .bad | .tup _ => true
  | _ => false

mutual
/-- All that it refers to stands below m. -/
def AV.bel (m : Nat) : AV → Bool
  | .ptr l _ _ _ => decide (l < m)
  | .slc l _ _ _ => decide (l < m)
  | .ip cs => belL m cs
  | .lst cs => belL m cs
  | .agg cs => belL m cs
  | .tup cs => belL m cs
  | .clo _ fi ca => belL m fi && belL m ca
  | .ifc _ v => v.bel m
  | _ => true
def belL (m : Nat) : List AV → Bool
  | [] => true
  | c :: cs => c.bel m && belL m cs
end
mutual
/-- Data that nothing can change any more. -/
def AV.good : AV → Bool
  | .ptr .. | .slc .. | .nils | .emp _ | .bad => false
  | .ip cs => goodL cs
  | .lst cs => goodL cs
  | .agg cs => goodL cs
  | .tup cs => goodL cs
  | .clo _ fi ca => goodL fi && goodL ca
  | .ifc _ v => v.good
  | _ => true
def goodL : List AV → Bool
  | [] => true
  | c :: cs => c.good && goodL cs
end

mutual
/-- It refers to nothing. -/
def AV.flat : AV → Bool
  | .int _ _ | .bool _ | .str _ | .nilp | .nils | .emp _ | .nilf | .nili => true
  | .lst es => es.isEmpty
  | .agg cs => flatL cs
  | .tup cs => flatL cs
  | .ifc _ v => v.flat
  | _ => false
def flatL : List AV → Bool
  | [] => true
  | c :: cs => c.flat && flatL cs
end

def ofVal1 : Value → AV
  | .bool b => .bool b
  | .int k n => .int k n
  | .string s => .str s
  | .pointer none => .nilp
  | .slice none 0 0 => .nils
  | .nilIface => .nili
  | .nilFunc => .nilf
  | .tuple vs => if vs.size = 0 then .tup [] else .bad
  | _ => .bad
def ofVal : Value → AV
  | .agg cs => .agg (cs.toList.map ofVal1)
  | v => ofVal1 v

section types
variable (P : Program)
/-- is it a struct or an array; how many cells -/
def tk (t : TypeId) : Option (Bool × Nat) :=
  match P.underlying t, P.info? t with
  | some d, some i => some ((match d with | .struct _ | .array _ _ => true | _ => false), i.size)
  | _, _ => none
def elemT (t : TypeId) : Option TypeId :=
  match P.underlying t with
  | some (.slice e) => some e
  | _ => none
def zeroT (t : TypeId) : Option AV := (P.info? t).bind fun i => i.zero.map ofVal
def isInt (t : TypeId) : Bool := match P.underlying t with | some (.int _) => true | _ => false
end types

/-! ### what an operation does -/
def ldv (ag : Bool) (s : Nat) (cs : List AV) : Option AV :=
  if ag then (if s ≤ cs.length then some (.agg (cs.take s)) else none) else cs[0]?
def loadA (ag : Bool) (s : Nat) (p : AV) (H : List AObj) : Option AV :=
  match p with
  | .ip cs => ldv ag s cs
  | .ptr l tot i off =>
    match H[l]? with
    | some (.row _ es) => if es.length = tot then es[i]?.bind fun e => ldv ag s (e.cells.drop off) else none
    | _ => none
  | _ => none
def set1 (off : Nat) (vs : List AV) : Option AV :=
  match off, vs with
  | 0, [v] => some v
  | _, _ => none
def setC (e : AV) (off : Nat) (vs : List AV) : Option AV :=
  match e with
  | .agg cs => if off + vs.length ≤ cs.length then some (.agg (cs.take off ++ vs ++ cs.drop (off + vs.length))) else none
  | _ => set1 off vs
def escs (l : Nat) (vs : List AV) : List Nat := if belL (l + 1) vs then [] else [l]
def storeA (s : Nat) (p v : AV) (H : List AObj) : Option (List AObj × List Nat) :=
  match p with
  | .ptr l tot i off =>
    match H[l]? with
    | some (.row z es) =>
      if es.length = tot ∧ v.cells.length = s ∧ v.cells.all AV.one = true then
        es[i]?.bind fun e => (setC e off v.cells).map fun e' => (H.set l (.row z (es.set i e')), escs l v.cells)
      else none
    | _ => none
  | _ => none
def newA (v : AV) (H : List AObj) : Option (AV × List AObj × List Nat) :=
  if v.cells ≠ [] ∧ v.cells.all AV.one = true then some (.ptr H.length 1 0 0, H ++ [.row v.cells.length [v]], []) else none
def fillA (place : Nat → Option (Nat × Nat)) (cells : List AV) : List (Nat × AV) → Option (List AV)
  | [] => some cells
  | (i, v) :: rest =>
    match place i with
    | none => none
    | some (off, size) =>
      if v.cells.length = size ∧ off + size ≤ cells.length ∧ v.isBad = false then fillA place (cells.take off ++ v.cells ++ cells.drop (off + size)) rest
      else none

/-! #### integers, strings -/
def bitsA (op : BinOp) (k : IntKind) (x y : Int) : Int :=
  let a := BitVec.ofInt k.bits x
  let b := BitVec.ofInt k.bits y
  match op with
  | .and => k.wrap (a &&& b).toNat
  | .or => k.wrap (a ||| b).toNat
  | .xor => k.wrap (a ^^^ b).toNat
  | _ => k.wrap (a &&& ~~~b).toNat
def bl (s : ByteArray) : List UInt8 := s.data.toList
/-- x == y; c: is one of the two a constant -/
def eqA (t : TypeDesc) (cmp : TypeId → Bool) (c : Bool) (x y : AV) : Option Bool :=
  match t, x, y with
  | .bool, .bool a, .bool b => some (decide (a = b))
  | .pointer _, .nilp, .nilp => some true
  | .pointer _, .nilp, .ip _ => some false
  | .pointer _, .ip _, .nilp => some false
  | .pointer _, .ptr _ _ _ _, .nilp => some false
  | .slice _, .nils, .nils => some true
  | .slice _, .emp b, .nils => some b
  | .slice _, .lst es, .nils => if es.isEmpty then none else some false
  | .interface _, .nili, .nili => if c then some true else none
  | .interface _, .nili, .ifc _ _ => some false
  | .interface _, .ifc _ _, .nili => some false
  | .interface _, .ifc s (.int k a), .ifc u (.int k' b) => if s = u then (if cmp s = true ∧ k = k' then some (decide (a = b)) else none) else some false
  | _, _, _ => none
/-- x op y; cx, cy: is the operand a constant -/
def binA (op : BinOp) (t : TypeDesc) (cmp : TypeId → Bool) (c : Bool) (x y : AV) : Option AV :=
  match op, x, y with
  | .shl, .int k a, .int _ b => if b < 0 then none else some (.int k (k.wrap (a * 2 ^ (min b.toNat k.bits))))
  | .shr, .int k a, .int _ b => if b < 0 then none else some (.int k (a.fdiv (2 ^ (min b.toNat k.bits))))
  | op, .int k a, .int k' b =>
    if k = k' then
      match op with
      | .add => some (.int k (k.wrap (a + b)))
      | .sub => some (.int k (k.wrap (a - b)))
      | .mul => some (.int k (k.wrap (a * b)))
      | .quo => if b = 0 then none else some (.int k (k.wrap (a.tdiv b)))
      | .rem => if b = 0 then none else some (.int k (a.tmod b))
      | .and => some (.int k (bitsA .and k a b))
      | .or => some (.int k (bitsA .or k a b))
      | .xor => some (.int k (bitsA .xor k a b))
      | .andNot => some (.int k (bitsA .andNot k a b))
      | .eql => some (.bool (decide (a = b)))
      | .neq => some (.bool (!decide (a = b)))
      | .lss => some (.bool (decide (a < b)))
      | .leq => some (.bool (decide (a ≤ b)))
      | .gtr => some (.bool (decide (b < a)))
      | .geq => some (.bool (decide (b ≤ a)))
      | _ => none
    else none
  | .add, .str a, .str b => if a.size + b.size ≤ 9223372036854775807 then some (.str (a ++ b)) else none
  | .eql, .str a, .str b => some (.bool (decide (bl a = bl b)))
  | .neq, .str a, .str b => some (.bool (!decide (bl a = bl b)))
  | .lss, .str a, .str b => some (.bool (Op.bytesLess (bl a) (bl b)))
  | .leq, .str a, .str b => some (.bool (Op.bytesLess (bl a) (bl b) || decide (bl a = bl b)))
  | .gtr, .str a, .str b => some (.bool (!(Op.bytesLess (bl a) (bl b) || decide (bl a = bl b))))
  | .geq, .str a, .str b => some (.bool (!Op.bytesLess (bl a) (bl b)))
  | .eql, x, y => (eqA t cmp c x y).map .bool
  | .neq, x, y => (eqA t cmp c x y).map fun r => .bool (!r)
  | _, _, _ => none
def unA (op : UnOp) (x : AV) : Option AV :=
  match op, x with
  | .neg, .int k n => some (.int k (k.wrap (0 - n)))
  | .xor, .int k n => some (.int k (bitsA .xor k (if k.signed then -1 else k.max) n))
  | .not, .bool b => some (.bool (!b))
  | _, _ => none
/-! #### slices -/
def bytesA (s : ByteArray) : List AV := (bl s).map fun b => .int .u8 b.toNat
def elemsA (x : AV) (H : List AObj) : Option (List AV) :=
  match x with
  | .lst es => some es
  | .nils => some []
  | .emp _ => some []
  | .str s => some (bytesA s)
  | .slc l off n tot =>
    match H[l]? with
    | some (.row _ es) => if es.length = tot then some ((es.drop off).take n) else none
    | some .vrow => if tot = 0 then some [] else none
    | _ => none
  | _ => none
def lenA (x : AV) (H : List AObj) : Option Nat :=
  match x with
  | .lst es => some es.length
  | .nils => some 0
  | .emp _ => some 0
  | .slc l off n tot => if lenOf H l = some tot then some n else none
  | _ => none
def toBytes : List AV → Option (List UInt8)
  | [] => some []
  | .int .u8 n :: es => (toBytes es).map (UInt8.ofNat n.toNat :: ·)
  | _ => none
def cvR (x : AV) (H : List AObj) : Option AV := match x with
  | .slc l off n tot => match H[l]? with
    | some (.row _ es) => if es.length = tot ∧ 0 < n then some (.slc l off n tot) else none
    | _ => none
  | _ => none
/-- the element's address -/
def indexA (z : Nat) (x : AV) (i : Int) (H : List AObj) : Option AV :=
  match x with
  | .lst es => if 0 ≤ i then es[i.toNat]?.bind fun e => if e.cells.length = z then some (.ip e.cells) else none else none
  | .slc l off n tot =>
    match H[l]? with
    | some (.row z' es) => if 0 ≤ i ∧ i < n ∧ es.length = tot ∧ z' = z then some (.ptr l tot (off + i.toNat) 0) else none
    | _ => none
  | _ => none
def offA (p : AV) (k : Nat) : Option AV :=
  match p with
  | .ip cs => some (.ip (cs.drop k))
  | .ptr l tot i off => some (.ptr l tot i (off + k))
  | _ => none
def boundA (x : Option AV) (d : Int) : Option Int :=
  match x with
  | none => some d
  | some (.int _ h) => some h
  | _ => none
def lz (z : Nat) : List AV → Bool
  | [] => true
  | e :: _ => e.cells.length == z
/-- low, high, most -/
def cutA (z : Nat) (x : AV) (lo hi : Option AV) (mx : Option AV) (H : List AObj) : Option AV :=
  (lenA x H).bind fun n => (boundA hi n).bind fun h => (boundA lo 0).bind fun l => (boundA mx n).bind fun m =>
  if 0 ≤ l ∧ l ≤ h ∧ h ≤ m ∧ m ≤ n ∧ (mx.isSome = true → hi.isSome = true) then
    match x with
    | .lst es => if lz z es = true then some (.lst ((es.take h.toNat).drop l.toNat)) else none
    | .nils => some .nils
    | .slc r off _ tot =>
      match H[r]? with
      | some (.row z' _) => if mx.isSome = true ∨ z' ≠ z then none else some (.slc r (off + l.toNat) (h - l).toNat tot)
      | _ => none
    | _ => none
  else none
def cutS (x : AV) (lo hi : Option AV) : Option AV :=
  match x with
  | .str s => (boundA hi s.size).bind fun h => (boundA lo 0).bind fun l =>
    if 0 ≤ l ∧ l ≤ h ∧ h ≤ s.size then some (.str (s.extract l.toNat h.toNat)) else none
  | _ => none
/-- ys behind x; z cells, by_ bytes an element -/
def appendA (z by_ : Nat) (x : AV) (ys : List AV) (H : List AObj) : Option (AV × List AObj × List Nat) :=
  if ys.isEmpty then (if (lenA x H).isSome then some (x, H, []) else none)
  else if lz z ys = true ∧ 0 < z ∧ 0 < by_ ∧ by_ ≤ 1048576 then
    match x with
    | .nils => if ys.length * by_ ≤ 140737489400832 then some (.slc H.length 0 ys.length ys.length, H ++ [.row z ys], []) else none
    | .slc l off n tot =>
      if (n + ys.length) * by_ ≤ 140737489400832 then
        match H[l]? with
        | some (.row z' es) =>
          if es.length = tot ∧ off = 0 ∧ n = tot ∧ z' = z then some (.slc l 0 (n + ys.length) (tot + ys.length), H.set l (.row z (es ++ ys)), escs l ys) else none
        | some .vrow => if tot = 0 ∧ off = 0 ∧ n = 0 then some (.slc l 0 ys.length ys.length, H.set l (.row z ys), escs l ys) else none
        | _ => none
      else none
    | _ => none
  else none
def capA (x : AV) : Option AV := match x with
  | .nils => some (.int .i64 0)
  | _ => none
/-- as many zeros behind nothing -/
def appZ (z by_ : Nat) (zero x n : AV) (H : List AObj) : Option (AV × List AObj × List Nat) :=
  match x, n with
  | .nils, .int _ k =>
    if 0 < k ∧ k * by_ ≤ 140737489400832 ∧ 0 < by_ ∧ 0 < z ∧ zero.cells.length = z ∧ zero.cells.all AV.one = true then
      some (.slc H.length 0 k.toNat k.toNat, H ++ [.row z (List.replicate k.toNat zero)], [])
    else none
  | _, _ => none
def makeA (z by_ : Nat) (zero : AV) (n c : AV) (H : List AObj) : Option (AV × List AObj × List Nat) :=
  match n, c with
  | .int _ a, .int _ b =>
    if 0 ≤ a ∧ a ≤ b ∧ b * by_ ≤ 281474976710656 ∧ 0 < by_ ∧ 0 < z ∧ zero.cells.length = z ∧ zero.cells.all AV.one = true then
      some (.slc H.length 0 a.toNat a.toNat, H ++ [.row z (List.replicate a.toNat zero)], [])
    else none
  | _, _ => none
def minA : List AV → Option AV
  | [.int k a, .int _ b] => some (.int k (if b < a then b else a))
  | _ => none
def maxA : List AV → Option AV
  | [.int k a, .int _ b] => some (.int k (if b > a then b else a))
  | _ => none

/-! ### freezing: what was a row of one's own becomes data -/
mutual
def frz (H : List AObj) : AV → Option AV
  | .nils => some (.lst [])
  | .emp _ => some (.lst [])
  | .slc l off n tot =>
    match H[l]? with
    | some (.row _ es) => if es.length = tot ∧ goodL es = true then some (.lst ((es.drop off).take n)) else none
    | some .vrow => if tot = 0 then some (.lst []) else none
    | _ => none
  | .agg cs => (frzL H cs).map .agg
  | .tup cs => (frzL H cs).map .tup
  | .ifc t v => (frz H v).map (.ifc t)
  | v => some v
def frzL (H : List AObj) : List AV → Option (List AV)
  | [] => some []
  | c :: cs => (frz H c).bind fun c' => (frzL H cs).map (c' :: ·)
end
mutual
def kills : AV → List Nat
  | .slc l _ _ _ => [l]
  | .agg cs => killsL cs
  | .tup cs => killsL cs
  | .ifc _ v => kills v
  | _ => []
def killsL : List AV → List Nat
  | [] => []
  | c :: cs => kills c ++ killsL cs
end
def killAll (H : List AObj) : List Nat → List AObj
  | [] => H
  | l :: ls => killAll (H.set l .dead) ls

end Go.Pm

/- The evaluator, second part: operations, regions, code, functions. -/
namespace Go.Pm
set_option linter.unusedVariables false

abbrev R3 := AV × List AObj × List Nat
abbrev Env := FuncId → List AV → List AObj → Option R3
structure St where
  T : List AV
  H : List AObj
  E : List Nat
inductive Out where
  | nrm (s : St)
  | ret (r : AV) (H : List AObj) (E : List Nat)
  | ext (id : Nat) (s : St)

structure Hint where
  keep : Bool := false
  raw : Bool := false
  acts : List (Nat × Nat × Nat) := []
  loops : List (Nat × List Nat) := []
  blks : List (Nat × List Nat) := []
  open_ : List Nat := []
  evs : List (Nat × Nat) := []
  swaps : List (Nat × Nat × Nat) := []
  subs : List (Nat × Nat × Nat) := []

def evA (G : Nat → Option (List AV)) (T : List AV) : Operand → AV
  | .tmp t => T.getD t (.tup [])
  | .const v => ofVal v
  | .global g => match G g with | some cs => .ip cs | none => .bad
  | .func f => .clo f [] []
def isCst : Operand → Bool
  | .const _ => true
  | _ => false
def putA (T : List AV) (d : Option Tmp) (v : AV) : List AV :=
  match d with
  | some d => T.set d v
  | none => T
def clearA (T : List AV) : List Nat → List AV
  | [] => T
  | t :: ts => clearA (T.set t .bad) ts
def wantA (ops : Array Oper) (T : List AV) (o : Oper) : Option Bool :=
  match o.guard with
  | none => some true
  | some (j, want) =>
    match (ops[j]?).bind (·.dst) with
    | none => some false
    | some d => match T[d]? with
      | none => some false
      | some (.bool b) => some (b == want)
      | some (.tup _) => some false
      | _ => none

/-- a function's other form, whose result stays a row of its own, is named by a number of its own -/
def base (f : FuncId) : FuncId := f % 1000000
def rawA (act : Nat) : Bool := act == 1 || act == 7
def vrA (act : Nat) (g : FuncId) : FuncId := if act = 7 then g + 1000000 else g
def okF (P : Program) (g : FuncId) : Bool :=
  decide (g < 1000000) && match P.funcs[g]? with
  | some fn => fn.body.isSome && (fn.name != "runtime.NumGoroutine")
  | none => false
def callA (env : Env) (raw : Bool) (g : FuncId) (args : List AV) (H : List AObj) : Option R3 :=
  if raw then env g args H else (frzL H args).bind fun as =>
    if belL 0 as = true then (env g as []).bind fun r => if r.2.1.isEmpty && r.2.2.isEmpty then some (r.1, if r.1.flat = true then H else killAll H (killsL args), []) else none
    else env g as (killAll H (killsL args))
def setS (z : Nat) (H : List AObj) (es : List AV) : List (Nat × AV) → Option (List AV)
  | [] => some es
  | (i, v) :: rest =>
    if v.cells.length = z ∧ i < es.length ∧ v.cells.all AV.one = true then setS z H (es.set i v) rest else none
def cmpT (P : Program) (s : TypeId) : Bool := isInt P s && (((P.info? s).map (·.comparable)).getD false)
def isU8 (P : Program) (t : TypeId) : Bool := match P.underlying t with | some (.int .u8) => true | _ => false
def noInt (P : Program) (t : TypeId) : Bool := match P.underlying t with | some (.int _) => false | none => false | _ => true
def isIface (P : Program) (t : TypeId) : Bool := match P.underlying t with | some (.interface _) => true | none => true | _ => false

def same (H : List AObj) (v : Option AV) : Option R3 := v.map fun v => (v, H, [])

def aop (P : Program) (G : Nat → Option (List AV)) (env : Env) (act : Nat) (o : Oper) (T : List AV) (H : List AObj) : Option R3 :=
  match o.op with
  | .move x => same H (some (evA G T x))
  | .assign x =>
    if act = 2 then (match evA G T x with | .nils => some (.slc H.length 0 0 0, H ++ [.vrow], []) | _ => none)
    else same H (some (evA G T x))
  | .pick c a b => match evA G T c with | .bool t => same H (some (if t = true then evA G T a else evA G T b)) | _ => none
  | .alloc t => (zeroT P t).bind fun z => if act = 8 then (if (!z.cells.isEmpty && z.cells.all AV.one) = true then some (.ip z.cells, H, []) else none) else newA z H
  | .box t x => if act = 10 then (tk P t).bind fun s => if (evA G T x).cells.length = s.2 then newA (evA G T x) H else none else newA (evA G T x) H
  | .build t parts =>
    match P.underlying t, zeroT P t with
    | some (.struct fs), some z =>
      if (fs.toList.all fun f => (tk P f.type).isSome) = true ∧ z.isBad = false then
      same H ((fillA (fun i => (fs[i]?).bind fun f => (tk P f.type).map fun s => (f.offset, s.2)) z.cells (parts.toList.map fun p => (p.1, evA G T p.2))).map .agg) else none
    | some (.array _ e), some z =>
      if z.isBad = false then (tk P e).bind fun s => same H ((fillA (fun i => some (i * s.2, s.2)) z.cells (parts.toList.map fun p => (p.1, evA G T p.2))).map .agg) else none
    | _, _ => none
  | .buildSlice t n parts =>
    (elemT P t).bind fun e => (tk P e).bind fun s => (zeroT P e).bind fun z =>
    if n * s.2 ≤ 16777216 ∧ z.cells.length = s.2 ∧ 0 < s.2 ∧ z.cells.all AV.one = true ∧ z.isBad = false then
      if act = 1 then
        (setS s.2 H (List.replicate n z) (parts.toList.map fun p => (p.1, evA G T p.2))).map fun es => (.slc H.length 0 n n, H ++ [.row s.2 es], [])
      else
        (frzL H (parts.toList.map fun p => evA G T p.2)).bind fun vs => (frz H z).bind fun z =>
        (setS s.2 H (List.replicate n z) ((parts.toList.map (·.1)).zip vs)).map fun es => (.lst es, killAll H (killsL (parts.toList.map fun p => evA G T p.2)), [])
    else none
  | .load t a => (tk P t).bind fun s => same H (loadA s.1 s.2 (evA G T a) H)
  | .store t a v => (tk P t).bind fun s => (storeA s.2 (evA G T a) (evA G T v) H).map fun r => (.tup [], r.1, r.2)
  | .nilCheck x => match evA G T x with
    | .ptr l tot i off => some (.ptr l tot i off, H, [])
    | .ip cs => some (.ip cs, H, [])
    | .clo f fi ca => some (.clo f fi ca, H, [])
    | _ => none
  | .binOp op xt x y _ => (P.underlying xt).bind fun d => same H (binA op d (cmpT P) (isCst x || isCst y) (evA G T x) (evA G T y))
  | .unOp op _ x => same H (unA op (evA G T x))
  | .convert src dst x =>
    match P.underlying src, P.underlying dst, evA G T x with
    | some _, some (.int k), .int _ n => same H (some (.int k (k.wrap n)))
    | some (.string), some (.string), .str s => same H (some (.str s))
    | some (.string), some (.slice e), .str s => if isU8 P e = true then same H (some (.lst (bytesA s))) else none
    | some (.slice e), some .string, .str _ => none
    | some (.slice e), some .string, x => if isU8 P e = true then same H ((elemsA x H).bind fun es => (toBytes es).map fun l => .str ⟨l.toArray⟩) else none
    | some (.slice _), some (.slice e), x => if (src == dst) = true ∧ isU8 P e = true then same H (cvR x H) else none
    | _, _, _ => none
  | .makeInterface t x => if isIface P t = true then none else same H (some (.ifc t (evA G T x)))
  | .makeFunc (.func f) first cap => same H (some (.clo f (first.toList.map (evA G T)) (cap.toList.map (evA G T))))
  | .slice t x lo hi mx =>
    match P.underlying t with
    | some (.slice e) => (tk P e).bind fun s => same H (cutA s.2 (evA G T x) (lo.map (evA G T)) (hi.map (evA G T)) (mx.map (evA G T)) H)
    | some .string => if mx.isSome then none else same H (cutS (evA G T x) (lo.map (evA G T)) (hi.map (evA G T)))
    | _ => none
  | .fieldAddr s x f =>
    match P.underlying s with
    | some (.struct fs) => (fs[f]?).bind fun f => (tk P f.type).bind fun z => if 0 < z.2 then same H (offA (evA G T x) f.offset) else none
    | _ => none
  | .field s x f =>
    match P.underlying s, evA G T x with
    | some (.struct fs), .agg cs => (fs[f]?).bind fun f => (tk P f.type).bind fun z => same H (ldv z.1 z.2 (cs.drop f.offset))
    | _, _ => none
  | .indexAddr t x ix =>
    match P.underlying t, evA G T ix with
    | some (.slice e), .int _ i => (tk P e).bind fun s => same H (indexA s.2 (evA G T x) i H)
    | some (.array n e), .int _ i => (tk P e).bind fun s => if 0 ≤ i ∧ i < n then same H (offA (evA G T x) (i.toNat * s.2)) else none
    | _, _ => none
  | .index t x ix =>
    match P.underlying t, evA G T x, evA G T ix with
    | some (.array n e), .agg cs, .int _ i => (tk P e).bind fun s => if 0 ≤ i ∧ i < n then same H (ldv s.1 s.2 (cs.drop (i.toNat * s.2))) else none
    | some .string, .str s, .int _ i => if 0 ≤ i then same H ((bl s)[i.toNat]?.map fun b => .int .u8 b.toNat) else none
    | _, _, _ => none
  | .extract x i => match evA G T x with | .tup vs => same H vs[i]? | _ => none
  | .typeAssert x _ t ok =>
    if isIface P t = true then none else
    match evA G T x with
    | .ifc u v => if u = t then some (if ok then .tup [v, .bool true] else v, H, []) else if ok then (zeroT P t).bind fun z => some (.tup [z, .bool false], H, []) else none
    | .nili => if ok then (zeroT P t).bind fun z => some (.tup [z, .bool false], H, []) else none
    | _ => none
  | .makeSlice t n c => (elemT P t).bind fun e => (tk P e).bind fun s => (zeroT P e).bind fun z => (P.info? e).bind fun i => makeA s.2 i.bytes z (evA G T n) (evA G T c) H
  | .call c =>
    match c.callee with
    | .builtin .len =>
      match c.args.toList, (c.argTypes[0]?).bind P.underlying with
      | [_], some (.array n _) => same H (some (.int .i64 n))
      | [x], some .string => match evA G T x with | .str s => same H (some (.int .i64 s.size)) | _ => none
      | [x], some (.slice _) => same H ((lenA (evA G T x) H).map fun (n : Nat) => AV.int .i64 (n : Int))
      | _, _ => none
    | .builtin .append =>
      match c.args.toList, c.argTypes[0]?, c.argTypes[1]? with
      | [x, y], some t, some u =>
        (elemT P t).bind fun e => (tk P e).bind fun s => (P.info? e).bind fun i => (zeroT P e).bind fun z0 =>
        if noInt P u = true ∧ z0.cells.length = s.2 ∧ z0.isBad = false then
          (elemsA (evA G T y) H).bind fun ys => appendA s.2 i.bytes (evA G T x) ys H
        else if isInt P u = true then appZ s.2 i.bytes z0 (evA G T x) (evA G T y) H
        else none
      | _, _, _ => none
    | .builtin .cap =>
      match c.args.toList, (c.argTypes[0]?).bind P.underlying with
      | [x], some (.slice _) => same H (capA (evA G T x))
      | _, _ => none
    | .builtin .min => same H (minA (c.args.toList.map (evA G T)))
    | .builtin .max => same H (maxA (c.args.toList.map (evA G T)))
    | .value f =>
      match evA G T f with
      | .clo g fi ca => if okF P g = true then callA env (rawA act) (vrA act g) (fi ++ c.args.toList.map (evA G T) ++ ca) H else none
      | _ => none
    | _ => none
  | _ => none
/-- the beginning of a row becomes a row of its own; the row is let go -/
def trimA (r : R3) : Option R3 :=
  match r.1 with
  | .slc l 0 k tot => match r.2.1[l]? with
    | some (.row z es) => if es.length = tot ∧ k ≤ tot then some (.slc r.2.1.length 0 k k, (r.2.1.set l .dead) ++ [.row z (es.take k)], r.2.2) else none
    | _ => none
  | _ => none
/-- with what a hint asks for behind it -/
def aop' (P : Program) (G : Nat → Option (List AV)) (env : Env) (act : Nat) (o : Oper) (T : List AV) (H : List AObj) : Option R3 :=
  if act = 3 then (aop P G env 0 o T H).bind fun r => (frz r.2.1 r.1).map fun v => (v, killAll r.2.1 (kills r.1), r.2.2)
  else if act = 5 then (aop P G env 0 o T H).bind trimA
  else aop P G env act o T H

def actOf (h : Hint) (id i : Nat) : Nat := ((h.acts.find? fun a => a.1 == id && a.2.1 == i).map (·.2.2)).getD 0

def opA (P : Program) (G : Nat → Option (List AV)) (env : Env) (h : Hint) (id : Nat) (ops : Array Oper) (i : Nat) (o : Oper) (s : St) : Option St :=
  match wantA ops s.T o with
  | some true => (aop' P G env (actOf h id i) o s.T s.H).map fun r => ⟨putA s.T o.dst r.1, r.2.1, r.2.2 ++ s.E⟩
  | some false => some ⟨putA s.T o.dst (.tup []), s.H, s.E⟩
  | none => none
def opsA (P : Program) (G : Nat → Option (List AV)) (env : Env) (h : Hint) (id : Nat) (ops : Array Oper) : List Oper → Nat → St → Option St
  | [], _, s => some s
  | o :: os, i, s => (opA P G env h id ops i o s).bind fun s' => opsA P G env h id ops os (i + 1) s'

/-! ### regions whose operations come in any order -/
/-- what an operation yields -/
def valA (P : Program) (G : Nat → Option (List AV)) (env : Env) (h : Hint) (id : Nat) (ops : Array Oper) (i : Nat) (o : Oper) (T : List AV) (H : List AObj) : Option R3 :=
  match wantA ops T o with
  | some true => aop' P G env (actOf h id i) o T H
  | some false => some (.tup [], H, [])
  | none => none
/-- the state ahead of operation i, in the text's order -/
def stA (P : Program) (G : Nat → Option (List AV)) (env : Env) (h : Hint) (id : Nat) (ops : Array Oper) (s : St) (i : Nat) : Option St := opsA P G env h id ops (ops.toList.take i) 0 s
/-- what it binds itself to -/
def bnd (ops : Array Oper) (i : Nat) : List Nat := match ops[i]? with
  | some o => (o.after.toList.filter (Region.binds .any ·)).map (·.on)
  | none => []
def insN (a : Nat) (l : List Nat) : List Nat := if l.contains a then l else a :: l
def uniN (a b : List Nat) : List Nat := a.foldr insN b
/-- all that stands ahead of each -/
def ancL (ops : Array Oper) : Nat → List (List Nat)
  | 0 => []
  | n + 1 => ancL ops n ++ [(bnd ops n).foldr (fun j acc => uniN (j :: (ancL ops n).getD j []) acc) []]
/-- it may change the heap -/
def isEv (h : Hint) (id i : Nat) (o : Oper) : Bool :=
  h.evs.contains (id, i) || match actOf h id i with
    | 0 => (match o.op with
      | .alloc _ | .box _ _ | .makeSlice _ _ _ | .store _ _ _ => true
      | .call c => (match c.callee with | .builtin .append => true | _ => false)
      | _ => false)
    | 8 => (match o.op with | .alloc _ => false | _ => true)
    | _ => true
/-- it looks at no heap -/
def noH (o : Oper) : Bool :=
  match o.op with
  | .move _ | .assign _ | .pick _ _ _ | .build _ _ | .binOp _ _ _ _ _ | .unOp _ _ _ | .fieldAddr _ _ _ | .field _ _ _ | .makeInterface _ _ | .makeFunc _ _ _ | .index _ _ _ | .extract _ _ | .typeAssert _ _ _ _ | .nilCheck _ => true
  | .call c => (match c.callee with | .builtin .min => true | .builtin .max => true | _ => false)
  | _ => false
def evL (h : Hint) (id : Nat) (ops : Array Oper) : List Nat := (List.range ops.size).filter fun i => match ops[i]? with | some o => isEv h id i o | none => false
def drawS (h : Hint) (id : Nat) (ops : Array Oper) : Bool :=
  let A := ancL ops ops.size
  (List.range ops.size).all fun j =>
    ((bnd ops j).all fun i => decide (i < j)) &&
    (List.range j).all fun i => (A.getD j []).contains i || match ops[i]?, ops[j]? with
      | some x, some y => x.apart ops y && !(isEv h id i x && isEv h id j y)
      | _, _ => true
/-- where each reading operation must have its value too -/
def drawQ (h : Hint) (id : Nat) (ops : Array Oper) : List (Nat × Nat) :=
  let A := ancL ops ops.size
  (List.range ops.size).flatMap fun i => match ops[i]? with
    | some o => if isEv h id i o || noH o then [] else
      (i, i) :: (evL h id ops).filterMap fun e => if e < i then (if (A.getD i []).contains e then none else some (i, e)) else (if (A.getD e []).contains i then none else some (i, e + 1))
    | none => []
def DrawAt (P : Program) (G : Nat → Option (List AV)) (env : Env) (h : Hint) (id : Nat) (ops : Array Oper) (s : St) (p : Nat × Nat) : Prop :=
  ∃ o si sj r, ops[p.1]? = some o ∧ stA P G env h id ops s p.1 = some si ∧ stA P G env h id ops s p.2 = some sj ∧
    valA P G env h id ops p.1 o si.T si.H = some (r, si.H, []) ∧ valA P G env h id ops p.1 o si.T sj.H = some (r, sj.H, [])
def DrawOk1 (P : Program) (G : Nat → Option (List AV)) (env : Env) (h : Hint) (id : Nat) (ops : Array Oper) (s : St) : Prop :=
  P.follows .mixedOrders = true ∧ drawS h id ops = true ∧ ∀ p ∈ drawQ h id ops, DrawAt P G env h id ops s p
/-- two heap-changing operations, p and q, may come in either order -/
def drawS2 (h : Hint) (id : Nat) (ops : Array Oper) (p q : Nat) : Bool :=
  let A := ancL ops ops.size
  decide (p < q) && decide (q < ops.size) && (match ops[p]?, ops[q]? with | some x, some y => isEv h id p x && isEv h id q y | _, _ => false) &&
  ((List.range ops.size).all fun i => decide (i ≤ p) || decide (q ≤ i) || match ops[i]? with | some o => !isEv h id i o | none => true) &&
  (List.range ops.size).all fun j =>
    ((bnd ops j).all fun i => decide (i < j)) &&
    (List.range j).all fun i => (A.getD j []).contains i || match ops[i]?, ops[j]? with
      | some x, some y => x.apart ops y && (!(isEv h id i x && isEv h id j y) || (i == p && j == q))
      | _, _ => true
/-- the readings that may meet the heap between the two -/
def swapQ (h : Hint) (id : Nat) (ops : Array Oper) (p q : Nat) : List Nat :=
  let A := ancL ops ops.size
  (List.range ops.size).filter fun i => match ops[i]? with
    | some o => !(isEv h id i o) && !(noH o) && !(A.getD i []).contains p && !(A.getD q []).contains i
    | none => false
def SwapRd (P : Program) (G : Nat → Option (List AV)) (env : Env) (h : Hint) (id : Nat) (ops : Array Oper) (s : St) (Hm : List AObj) (i : Nat) : Prop :=
  ∃ o si r, ops[i]? = some o ∧ stA P G env h id ops s i = some si ∧ valA P G env h id ops i o si.T si.H = some (r, si.H, []) ∧ valA P G env h id ops i o si.T Hm = some (r, Hm, [])
def SwapAt (P : Program) (G : Nat → Option (List AV)) (env : Env) (h : Hint) (id : Nat) (ops : Array Oper) (s : St) (p q : Nat) : Prop :=
  ∃ op oq sp sq sr vp vq Hm, ops[p]? = some op ∧ ops[q]? = some oq ∧ stA P G env h id ops s p = some sp ∧ stA P G env h id ops s q = some sq ∧ stA P G env h id ops s (q + 1) = some sr ∧
    valA P G env h id ops p op sp.T sp.H = some vp ∧ valA P G env h id ops q oq sq.T sq.H = some vq ∧
    valA P G env h id ops q oq sq.T sp.H = some (vq.1, Hm, vq.2.2) ∧ valA P G env h id ops p op sp.T Hm = some (vp.1, sr.H, vp.2.2) ∧ vp.2.2 ++ vq.2.2 = vq.2.2 ++ vp.2.2 ∧
    ∀ i ∈ swapQ h id ops p q, SwapRd P G env h id ops s Hm i
def SwapOk (P : Program) (G : Nat → Option (List AV)) (env : Env) (h : Hint) (id : Nat) (ops : Array Oper) (s : St) : Prop :=
  P.follows .mixedOrders = true ∧ (∀ p ∈ drawQ h id ops, DrawAt P G env h id ops s p) ∧ ∃ p q, drawS2 h id ops p q = true ∧ SwapAt P G env h id ops s p q
def subL (h : Hint) (id : Nat) : List (Nat × Nat) := (h.subs.filter fun x => x.1 == id).map (·.2)
def DrawOk (P : Program) (G : Nat → Option (List AV)) (env : Env) (h : Hint) (id : Nat) (ops : Array Oper) (s : St) : Prop :=
  DrawOk1 P G env h id ops s ∨ (subL h id = [] ∧ SwapOk P G env h id ops s)

/-- what says that nothing is known -/
def nopO : Op := .move (.const (.pointer (some ⟨0, 0, none⟩)))
/-- l, r := a, b: variables that are made and then stored once, each, in a region: (alloc, store); the store stands for both -/
def subOp (ops : Array Oper) (l : List (Nat × Nat)) (i : Nat) (o : Oper) : Oper :=
  if l.any (fun x => x.1 == i) = true then { o with op := nopO }
  else match l.find? (fun x => x.2 == i) with
    | some x => match o.op with
      | .store t _ v => { o with dst := (ops[x.1]?).bind (·.dst), op := .box t v }
      | _ => o
    | none => o
def isTmp : Operand → Nat → Bool
  | .tmp a, t => a == t
  | _, _ => false
def subP (P : Program) (h : Hint) (id : Nat) (ops : Array Oper) (m : Nat) (x : Nat × Nat) : Bool :=
  decide (x.1 < x.2) && (bnd ops x.2).contains x.1 && actOf h id x.1 == 0 && actOf h id x.2 == 10 && match ops[x.1]?, ops[x.2]? with
  | some p, some s => match p.op, p.dst, s.op, s.dst with
    | .alloc ty, some t, .store ty' a _, none => ty == ty' && isTmp a t && decide (t < m) && ((List.range ops.size).all fun i => i == x.1 || match ops[i]? with | some o => o.dst != some t | none => true) &&
      match zeroT P ty, tk P ty with
      | some z, some n => z.cells.all AV.one && decide (z.cells.length = n.2)
      | _, _ => false
    | _, _, _, _ => false
  | _, _ => false
def subB (P : Program) (h : Hint) (id : Nat) (ops : Array Oper) (m : Nat) (l : List (Nat × Nat)) : Bool :=
  ops.toList.all (fun o => o.guard.isNone) && l.all (subP P h id ops m) && l.all fun x => l.all fun y => (x.1 == y.1) == (x.2 == y.2)
def subA (ops : Array Oper) (l : List (Nat × Nat)) : Array Oper := Array.mk ((List.range ops.size).map fun i => subOp ops l i (ops.getD i default))
def subO (P : Program) (h : Hint) (id : Nat) (ops : Array Oper) (m : Nat) : Array Oper :=
  match subL h id with
  | [] => ops
  | l => match subB P h id ops m l with
    | true => subA ops l
    | false => ops

open Classical in
noncomputable def lim {α : Type} (f : Nat → Option α) : Option α :=
  if h : ∃ n, (f n).isSome then f h.choose else none
def loopN (F : St → Option Out) : Nat → St → Option Out
  | 0, _ => none
  | n + 1, s => (F s).bind fun o => match o with
    | .nrm s' => loopN F n s'
    | o => some o
noncomputable def loopL (F : St → Option Out) (s : St) : Option Out := lim fun n => loopN F n s

def firstReg : Code → Nat
  | .region id _ _ => id
  | .seq a _ => firstReg a
  | .block _ c => firstReg c
  | .loop c => firstReg c
  | _ => 0
/-- the place behind which the second part of a sequence begins -/
def seqId (b : Code) : Nat := 1000000 + firstReg b
def look (l : List (Nat × List Nat)) (k : Nat) : Option (List Nat) := (l.find? fun p => p.1 == k).map (·.2)
/-- the end of a round: what was made in it is let go -/
def roundA (h : Hint) (k : Nat) (s : St) (o : Out) : Option Out :=
  match o with
  | .nrm s' =>
    match look h.loops k with
    | some ts =>
      if h.open_.contains k then some (.nrm ⟨clearA s'.T ts, s'.H, s'.E ++ s.E⟩)
      else if belL s.H.length (clearA s'.T ts) = true ∧ (s'.E.all fun e => decide (s.H.length ≤ e)) = true then some (.nrm ⟨clearA s'.T ts, s'.H.take s.H.length, s.E⟩)
      else none
    | none => some (.nrm ⟨s'.T, s'.H, s'.E ++ s.E⟩)
  | .ret r H E => some (.ret r H (E ++ s.E))
  | .ext i s' => some (.ext i ⟨s'.T, s'.H, s'.E ++ s.E⟩)
def blkA (h : Hint) (id : Nat) (s : St) : St :=
  match look h.blks id with
  | some ts => ⟨clearA s.T ts, s.H, s.E⟩
  | none => s
def resA1 (P : Program) (s : St) : ResultVar → Option AV
  | .tmp t => some (s.T.getD t (.tup []))
  | .cell a t => (tk P t).bind fun z => loadA z.1 z.2 (s.T.getD a (.tup [])) s.H
def resA (P : Program) (fn : Func) (s : St) : Option AV :=
  (fn.results.toList.mapM (resA1 P s)).map fun vs => match vs with
    | [v] => v
    | vs => .tup vs

open Classical in
noncomputable def runC (P : Program) (G : Nat → Option (List AV)) (env : Env) (h : Hint) (fn : Func) : Code → St → Option Out
  | .skip, s => some (.nrm s)
  | .label _, s => some (.nrm s)
  | .region id ops draw, s => match draw with
    | true => (opsA P G env h id (subO P h id ops s.T.length) (subO P h id ops s.T.length).toList 0 s).bind fun s' => if DrawOk P G env h id (subO P h id ops s.T.length) s then some (.nrm s') else none
    | false => (opsA P G env h id ops ops.toList 0 s).bind fun s' => some (.nrm s')
  | .seq a b, s => (runC P G env h fn a s).bind fun o => match o with
    | .nrm s' => runC P G env h fn b (blkA h (seqId b) s')
    | o => some o
  | .cond c a b, s => match evA G s.T c with
    | .bool t => if t = true then runC P G env h fn a s else runC P G env h fn b s
    | _ => none
  | .block id c, s => (runC P G env h fn c s).bind fun o => match o with
    | .nrm s' => some (.nrm (blkA h id s'))
    | .ext i s' => if i = id then some (.nrm (blkA h id s')) else some (.ext i s')
    | o => some o
  | .loop c, s => loopL (fun s => (runC P G env h fn c ⟨s.T, s.H, []⟩).bind (roundA h (firstReg c) s)) ⟨clearA s.T ((look h.loops (firstReg c)).getD []), s.H, s.E⟩
  | .exit id, s => some (.ext id s)
  | .ret, s => (resA P fn s).map fun r => .ret r s.H s.E
  | _, _ => none

/-- the end of a call -/
def endA (h : Hint) (n : Nat) (r : AV) (H : List AObj) (E : List Nat) : Option R3 :=
  (if h.raw then some (r, H) else (frz H r).map fun r' => (r', killAll H (kills r))).bind fun p =>
  if h.keep then some (p.1, p.2, E)
  else if p.1.bel n = true ∧ (E.all fun e => decide (n ≤ e)) = true then some (p.1, p.2.take n, []) else none
noncomputable def fnA (P : Program) (G : Nat → Option (List AV)) (env : Env) (h : Hint) (fn : Func) (args : List AV) (H : List AObj) : Option R3 :=
  match fn.body with
  | none => none
  | some c =>
    (runC P G env h fn c ⟨args ++ List.replicate (fn.ntmps - args.length) (.tup []), H, []⟩).bind fun o => match o with
      | .nrm s => (resA P fn s).bind fun r => endA h H.length r s.H s.E
      | .ret r H' E => endA h H.length r H' E
      | .ext _ _ => none

structure Cfg where
  P : Program
  G : Nat → Option (List AV)
  I : FuncId → Option (List AV → List AObj → Option R3)
  hint : FuncId → Hint
noncomputable def evN (C : Cfg) : Nat → Env
  | 0 => fun _ _ _ => none
  | k + 1 => fun f a H => match C.I f with
    | some F => F a H
    | none => match C.P.funcs[base f]? with
      | some fn => fnA C.P C.G (evN C k) (C.hint f) fn a H
      | none => none
noncomputable def EV (C : Cfg) : Env := fun f a H => lim fun k => evN C k f a H

end Go.Pm

/- Soundness, part 1: the state's relation, reading, small facts. -/
namespace Go.Pm
set_option linter.unusedVariables false
set_option linter.unusedSimpArgs false

/-! ### memory -/
theorem setCells_facts (b : Nat) : ∀ (vs : List Value) (o : Nat) (w : World),
    (w.setCells b o vs).heap.size = w.heap.size ∧ (∀ b', sizeAt (w.setCells b o vs) b' = sizeAt w b') ∧
    (∀ b', b' ≠ b → (w.setCells b o vs).heap[b']? = w.heap[b']?) ∧
    (w.setCells b o vs).tape = w.tape ∧ (w.setCells b o vs).os = w.os ∧ (w.setCells b o vs).output = w.output
  | [], o, w => ⟨rfl, fun _ => rfl, fun _ _ => rfl, rfl, rfl, rfl⟩
  | v :: vs, o, w => by
    obtain ⟨h1, h2, h3, h4, h5, h6⟩ := setCells_facts b vs (o + 1) (w.setCell ⟨b, o, none⟩ v)
    have e : w.setCells b o (v :: vs) = (w.setCell ⟨b, o, none⟩ v).setCells b (o + 1) vs := rfl
    rw [e]
    refine ⟨h1.trans (by simp), fun b' => (h2 b').trans ?_, fun b' hb => (h3 b' hb).trans ?_, h4, h5, h6⟩
    · unfold sizeAt World.setCell
      simp only [Array.getElem?_modify]
      by_cases hb : b = b'
      · subst hb
        simp only [if_true]
        cases hh : w.heap[b]? with
        | none => rfl
        | some ob => cases ob <;> simp
      · simp [hb]
    · unfold World.setCell
      simp only [Array.getElem?_modify]
      simp [Ne.symm hb]
theorem isSome_cellAt {w : World} {b s j : Nat} (hs : sizeAt w b = some s) (h : j < s) : (cellAt w b j).isSome = true := by
  unfold sizeAt at hs
  unfold cellAt
  cases hb : w.heap[b]? with
  | none => rw [hb] at hs; cases hs
  | some o =>
    rw [hb] at hs
    cases o <;> simp at hs ⊢
    omega
theorem cellAt_setCells_in {w : World} {b o : Nat} {vs : List Value} {s : Nat} (hs : sizeAt w b = some s) (hf : o + vs.length ≤ s) {j : Nat} (hj : j < vs.length) :
    cellAt (w.setCells b o vs) b (o + j) = vs[j]? := by
  have := World.cell?_setCells_in b vs o w (fun j hj => ?_) j hj
  · rw [cell?_plain] at this
    rw [this, List.getElem?_eq_getElem hj]
  · rw [cell?_plain]
    rename_i j' hj'
    exact isSome_cellAt hs (by omega)
theorem cellAt_setCells_out {w : World} {b o : Nat} {vs : List Value} {b' j : Nat} (h : b' = b → j < o ∨ o + vs.length ≤ j) :
    cellAt (w.setCells b o vs) b' j = cellAt w b' j := by
  have := World.cell?_setCells_out b vs o w ⟨b', j, none⟩ (fun e _ => h e)
  rwa [cell?_plain, cell?_plain] at this

/-! ### what is matched -/
theorem Ms_length {X : Cx} : ∀ {cs : List AV} {vs : List Value}, Ms X cs vs → cs.length = vs.length
  | [], _, h => by unfold Ms at h; simp [h]
  | _ :: _, _, h => by unfold Ms at h; obtain ⟨u, us, rfl, _, h⟩ := h; simp [Ms_length h]
theorem Ms_get {X : Cx} : ∀ {cs : List AV} {vs : List Value}, Ms X cs vs → ∀ {i : Nat} {c : AV}, cs[i]? = some c → ∃ u, vs[i]? = some u ∧ M X c u
  | [], _, h, i, c, hc => by simp at hc
  | d :: ds, _, h, i, c, hc => by
    unfold Ms at h
    obtain ⟨u, us, rfl, hd, h⟩ := h
    cases i with
    | zero => simp at hc; subst hc; exact ⟨u, rfl, hd⟩
    | succ i => simp at hc ⊢; exact Ms_get h hc
theorem Ms_set {X : Cx} : ∀ {cs : List AV} {vs : List Value}, Ms X cs vs → ∀ (i : Nat) {c : AV} {u : Value}, M X c u → Ms X (cs.set i c) (vs.set i u)
  | [], _, h, i, c, u, hc => by unfold Ms at h; subst h; simp [Ms]
  | d :: ds, _, h, i, c, u, hc => by
    unfold Ms at h
    obtain ⟨u', us, rfl, hd, h⟩ := h
    cases i with
    | zero => simp only [List.set]; unfold Ms; exact ⟨u, us, rfl, hc, h⟩
    | succ i => simp only [List.set]; unfold Ms; exact ⟨u', _, rfl, hd, Ms_set h i hc⟩
theorem Ms_append {X : Cx} : ∀ {cs ds : List AV} {vs us : List Value}, Ms X cs vs → Ms X ds us → Ms X (cs ++ ds) (vs ++ us)
  | [], _, _, _, h, k => by unfold Ms at h; subst h; simpa using k
  | c :: cs, ds, _, us, h, k => by
    unfold Ms at h
    obtain ⟨u, us', rfl, hd, h⟩ := h
    simp only [List.cons_append]
    unfold Ms
    exact ⟨u, _, rfl, hd, Ms_append h k⟩
theorem Ms_replicate {X : Cx} {c : AV} {u : Value} (h : M X c u) : ∀ n, Ms X (List.replicate n c) (List.replicate n u)
  | 0 => by simp [Ms]
  | n + 1 => by rw [List.replicate_succ, List.replicate_succ]; unfold Ms; exact ⟨u, _, rfl, h, Ms_replicate h n⟩
theorem Ms_map {X : Cx} {α : Type} {f : α → AV} {g : α → Value} : ∀ {l : List α}, (∀ x ∈ l, M X (f x) (g x)) → Ms X (l.map f) (l.map g)
  | [], _ => by simp [Ms]
  | x :: l, h => by simp only [List.map]; unfold Ms; exact ⟨_, _, rfl, h x (by simp), Ms_map fun y hy => h y (by simp [hy])⟩
theorem Ms_take {X : Cx} : ∀ {cs : List AV} {vs : List Value}, Ms X cs vs → ∀ n, Ms X (cs.take n) (vs.take n)
  | [], _, h, n => by unfold Ms at h; subst h; simp [Ms]
  | c :: cs, _, h, n => by
    unfold Ms at h
    obtain ⟨u, us, rfl, hd, h⟩ := h
    cases n with
    | zero => simp [Ms]
    | succ n => simp only [List.take]; unfold Ms; exact ⟨u, _, rfl, hd, Ms_take h n⟩
theorem Ms_drop {X : Cx} : ∀ {cs : List AV} {vs : List Value}, Ms X cs vs → ∀ n, Ms X (cs.drop n) (vs.drop n)
  | [], _, h, n => by unfold Ms at h; subst h; simp [Ms]
  | c :: cs, _, h, n => by
    have h0 := h
    unfold Ms at h
    obtain ⟨u, us, rfl, hd, h⟩ := h
    cases n with
    | zero => simpa using h0
    | succ n => simpa using Ms_drop h n
theorem Mc_drop {X : Cx} : ∀ {cs : List AV} {b o : Nat}, Mc X cs b o → ∀ n, n ≤ cs.length → Mc X (cs.drop n) b (o + n)
  | [], b, o, h, n, hn => by simp [Mc]
  | c :: cs, b, o, h, n, hn => by
    cases n with
    | zero => simpa using h
    | succ n =>
      unfold Mc at h
      have := Mc_drop h.2 n (by simp at hn; omega)
      simpa [Nat.add_assoc, Nat.add_comm 1 n] using this
theorem Mc_take {X : Cx} : ∀ {cs : List AV} {b o : Nat}, Mc X cs b o → ∀ n, Mc X (cs.take n) b o
  | [], b, o, h, n => by simp [Mc]
  | c :: cs, b, o, h, n => by
    cases n with
    | zero => simp [Mc]
    | succ n => unfold Mc at h; simp only [List.take]; unfold Mc; exact ⟨h.1, Mc_take h.2 n⟩
/-- The cells as values. -/
theorem Mc_vals {X : Cx} : ∀ {cs : List AV} {b o : Nat}, Mc X cs b o → ∃ vs : List Value, vs.length = cs.length ∧ Ms X cs vs ∧ ∀ j v, vs[j]? = some v → cellAt X.w b (o + j) = some v
  | [], b, o, h => ⟨[], rfl, by simp [Ms], by simp⟩
  | c :: cs, b, o, h => by
    unfold Mc at h
    obtain ⟨⟨u, hu, hc⟩, hs⟩ := h
    obtain ⟨vs, hl, hm, hv⟩ := Mc_vals hs
    refine ⟨u :: vs, by simp [hl], by unfold Ms; exact ⟨u, vs, rfl, hc, hm⟩, fun j v hj => ?_⟩
    cases j with
    | zero => simp at hj; subst hj; exact hu
    | succ j => simp at hj; have := hv j v hj; rwa [show o + 1 + j = o + (j + 1) by omega] at this
theorem Mc_of_vals {X : Cx} : ∀ {cs : List AV} {vs : List Value} {b o : Nat}, Ms X cs vs → (∀ j v, vs[j]? = some v → cellAt X.w b (o + j) = some v) → Mc X cs b o
  | [], _, b, o, h, hv => by simp [Mc]
  | c :: cs, _, b, o, h, hv => by
    unfold Ms at h
    obtain ⟨u, us, rfl, hc, h⟩ := h
    unfold Mc
    refine ⟨⟨u, by simpa using hv 0 u rfl, hc⟩, Mc_of_vals h fun j v hj => ?_⟩
    have := hv (j + 1) v (by simpa using hj)
    rwa [show o + (j + 1) = o + 1 + j by omega] at this

/-- An element's own cells, in any of the two spellings. -/
theorem Me_cons {X : Cx} {e : AV} {es : List AV} {b o z : Nat} (h : Me X (e :: es) b o z) : (e.cells.length = z ∧ Mc X e.cells b o) ∧ Me X es b (o + z) z := by
  cases e with
  | agg cs => unfold Me at h; exact ⟨h.1, h.2⟩
  | _ =>
    unfold Me at h
    obtain ⟨⟨hz, hu⟩, hs⟩ := h
    exact ⟨⟨by simp [AV.cells, hz], by simp only [AV.cells]; unfold Mc; exact ⟨hu, by simp [Mc]⟩⟩, hs⟩
theorem Me_mk {X : Cx} {e : AV} {es : List AV} {b o z : Nat} (h1 : e.cells.length = z) (h2 : Mc X e.cells b o) (h : Me X es b (o + z) z) : Me X (e :: es) b o z := by
  cases e with
  | agg cs => unfold Me; exact ⟨⟨h1, h2⟩, h⟩
  | _ => unfold Me; simp only [AV.cells] at h1 h2; unfold Mc at h2; exact ⟨⟨h1.symm, h2.1⟩, h⟩
theorem Me_get {X : Cx} : ∀ {es : List AV} {b o z : Nat}, Me X es b o z → ∀ {i : Nat} {e : AV}, es[i]? = some e → e.cells.length = z ∧ Mc X e.cells b (o + i * z)
  | [], b, o, z, h, i, e, he => by simp at he
  | d :: ds, b, o, z, h, i, e, he => by
    have hc := Me_cons h
    cases i with
    | zero => simp at he; subst he; simpa using hc.1
    | succ i =>
      simp at he
      have := Me_get hc.2 he
      rwa [show o + z + i * z = o + (i + 1) * z by rw [Nat.succ_mul]; omega] at this
theorem Me_of_get {X : Cx} : ∀ {es : List AV} {b o z : Nat}, (∀ i e, es[i]? = some e → e.cells.length = z ∧ Mc X e.cells b (o + i * z)) → Me X es b o z
  | [], b, o, z, h => by simp [Me]
  | d :: ds, b, o, z, h => by
    have h0 := h 0 d rfl
    refine Me_mk h0.1 (by simpa using h0.2) (Me_of_get fun i e he => ?_)
    have := h (i + 1) e (by simpa using he)
    rwa [show o + (i + 1) * z = o + z + i * z by rw [Nat.succ_mul]; omega] at this

/-- A block none of whose cells is marked. -/
def unmark (w : World) (b : Nat) : Prop := ∃ c e lo hi, w.heap[b]? = some (.cells c e (lo, hi)) ∧ (lo = hi ∨ c.size ≤ lo)
theorem unmark_frozen {w : World} {b s : Nat} (h : unmark w b) (hs : sizeAt w b = some s) (j : Nat) (hj : j < s) : w.frozen? ⟨b, j, none⟩ = false := by
  obtain ⟨c, e, lo, hi, h1, h2⟩ := h
  unfold sizeAt at hs
  rw [h1] at hs
  simp only [Option.some.injEq] at hs
  unfold World.frozen?
  simp only [h1]
  rcases h2 with rfl | h2
  · simp only [Bool.and_eq_false_iff, decide_eq_false_iff_not]; omega
  · simp only [Bool.and_eq_false_iff, decide_eq_false_iff_not]; omega
theorem unmark_eq {w w' : World} {b : Nat} (h : unmark w b) (he : w'.heap[b]? = w.heap[b]?) : unmark w' b := by
  obtain ⟨c, e, lo, hi, h1, h2⟩ := h
  exact ⟨c, e, lo, hi, he.trans h1, h2⟩
theorem unmark_setCell {w : World} {b : Nat} {a : Addr} {v : Value} (h : unmark w b) : unmark (w.setCell a v) b := by
  obtain ⟨c, e, lo, hi, h1, h2⟩ := h
  unfold unmark World.setCell
  simp only [Array.getElem?_modify]
  by_cases hb : a.block = b
  · subst hb
    simp only [if_true, h1, Option.map_some]
    split
    · exact ⟨c, e, lo, hi, rfl, h2⟩
    · exact ⟨c.setIfInBounds a.off v, e, lo, hi, rfl, by simpa using h2⟩
  · simp only [hb, if_false]
    exact ⟨c, e, lo, hi, h1, h2⟩
theorem unmark_setCells {b' : Nat} {b : Nat} : ∀ (vs : List Value) (o : Nat) (w : World), unmark w b' → unmark (w.setCells b o vs) b'
  | [], o, w, h => h
  | v :: vs, o, w, h => unmark_setCells vs (o + 1) _ (unmark_setCell h)

/-- The world is as the abstract heap tells. -/
structure Rel (G : Nat → Option (List AV)) (X : Cx) : Prop where
  rows : ∀ l z es b z', X.H[l]? = some (.row z es) → X.ι l = some (b, z') → z' = z ∧ 0 < z ∧ Me X es b 0 z ∧ oneL es ∧
    ∃ s, sizeAt X.w b = some s ∧ es.length * z ≤ s ∧ unmark X.w b
  inj : ∀ l l' b z z', isRow X.H[l]? → isRow X.H[l']? → X.ι l = some (b, z) → X.ι l' = some (b, z') → l = l'
  glob : ∀ g cs, G g = some cs → X.im g ∧ Mc X cs g 0
  wf : ∀ (l z : Nat) (es : List AV), X.H[l]? = some (AObj.row z es) → belL X.H.length es = true
  fb : ∀ b, X.F b → b < X.w.heap.size ∧ ¬ X.wr b
  gb : ∀ g cs, G g = some cs → belL 0 cs = true

theorem fb_keep {G : Nat → Option (List AV)} {X Y : Cx} (hR : Rel G X) (hE : Ext X Y) : ∀ b, Y.F b → b < Y.w.heap.size ∧ ¬ Y.wr b := fun b hb =>
  have h := hR.fb b (hE.for_ ▸ hb)
  ⟨Nat.lt_of_lt_of_le h.1 hE.size, fun hw => h.2 (hE.wr b h.1 hw)⟩

theorem isRow_some {o : Option AObj} (h : isRow o) : ∃ z es, o = some (.row z es) := by
  unfold isRow at h
  split at h
  · exact ⟨_, _, rfl⟩
  · exact h.elim
theorem lt_of_sizeAt {w : World} {b s : Nat} (h : sizeAt w b = some s) : b < w.heap.size := by
  unfold sizeAt at h
  split at h
  · rename_i c e f hb; exact (Array.getElem?_eq_some_iff.1 hb).1
  · cases h
theorem Rel.wr_lt {G} {X : Cx} (h : Rel G X) {b : Nat} (hb : X.wr b) : b < X.w.heap.size := by
  obtain ⟨l, z, hr, hi⟩ := hb
  obtain ⟨z', es, he⟩ := isRow_some hr
  obtain ⟨_, _, _, _, s, hs, _⟩ := h.rows l z' es b z he hi
  exact lt_of_sizeAt hs

theorem M_ofVal1 (X : Cx) (v : Value) : M X (ofVal1 v) v := by
  cases v with
  | pointer a => cases a <;> simp [ofVal1, M]
  | slice a l c =>
    cases a with
    | none => cases l <;> cases c <;> simp [ofVal1, M]
    | some a => simp [ofVal1, M]
  | tuple vs =>
    simp only [ofVal1]
    split
    · rename_i h
      unfold M; exact ⟨vs, rfl, by simp [Ms, Array.eq_empty_of_size_eq_zero h]⟩
    · simp [M]
  | _ => simp [ofVal1, M]
theorem M_ofVal (X : Cx) (v : Value) : M X (ofVal v) v := by
  unfold ofVal
  split
  · rename_i cs
    unfold M
    exact ⟨cs, rfl, by simpa using Ms_map (f := ofVal1) (g := id) (fun x _ => M_ofVal1 X x)⟩
  · exact M_ofVal1 X v
theorem evA_ok {G} {X : Cx} (hR : Rel G X) {T : List AV} {a : Act} (hF : Ms X T a.tmps.toList) (x : Operand) : M X (evA G T x) (a.eval x) := by
  cases x with
  | tmp t =>
    simp only [evA, Act.eval]
    have hl := Ms_length hF
    by_cases h : t < T.length
    · obtain ⟨u, hu, hm⟩ := Ms_get hF (List.getElem?_eq_getElem h)
      rw [Array.getElem?_toList] at hu
      rw [show T.getD t (.tup []) = T[t] by simp [List.getD, List.getElem?_eq_getElem h], show a.tmps.getD t undef = u by rw [Array.getD_eq_getD_getElem?, hu]; rfl]
      exact hm
    · have h3 : a.tmps.size ≤ t := by
        have h2 : a.tmps.toList.length = a.tmps.size := Array.length_toList
        have h4 : T.length ≤ t := Nat.le_of_not_lt h
        omega
      rw [show T.getD t (.tup []) = .tup [] by simp [List.getD, List.getElem?_eq_none (Nat.le_of_not_lt h)],
        show a.tmps.getD t undef = undef by rw [Array.getD_eq_getD_getElem?, Array.getElem?_eq_none h3]; rfl]
      unfold M
      exact ⟨#[], rfl, by simp [Ms]⟩
  | const v => exact M_ofVal X v
  | global g =>
    simp only [evA, Act.eval]
    cases hg : G g with
    | none => simp [M]
    | some cs =>
      simp only []
      unfold M
      obtain ⟨h1, h2⟩ := hR.glob g cs hg
      exact ⟨g, 0, rfl, h1, h2⟩
  | func f => simp only [evA, Act.eval]; unfold M; exact ⟨#[], #[], rfl, by simp [Ms], by simp [Ms]⟩
theorem putA_ok {X : Cx} {T : List AV} {a : Act} (hF : Ms X T a.tmps.toList) (d : Option Tmp) {v : AV} {u : Value} (h : M X v u) : Ms X (putA T d v) (a.put d u).tmps.toList := by
  cases d with
  | none => exact hF
  | some d => simp only [putA, Act.put, Array.toList_setIfInBounds]; exact Ms_set hF d h

end Go.Pm

/- Soundness, part 2: how a state goes on: a new block, a row written, a row moved, values let go. -/
namespace Go.Pm
set_option linter.unusedVariables false
set_option linter.unusedSimpArgs false

mutual
theorem bel_mono {m n : Nat} (h : m ≤ n) : ∀ (v : AV), v.bel m = true → v.bel n = true
  | .ptr l _ _ _, hv => by simp only [AV.bel, decide_eq_true_eq] at hv ⊢; omega
  | .slc l _ _ _, hv => by simp only [AV.bel, decide_eq_true_eq] at hv ⊢; omega
  | .ip cs, hv => by simp only [AV.bel] at hv ⊢; exact belL_mono h cs hv
  | .lst cs, hv => by simp only [AV.bel] at hv ⊢; exact belL_mono h cs hv
  | .agg cs, hv => by simp only [AV.bel] at hv ⊢; exact belL_mono h cs hv
  | .tup cs, hv => by simp only [AV.bel] at hv ⊢; exact belL_mono h cs hv
  | .clo _ a b, hv => by simp only [AV.bel, Bool.and_eq_true] at hv ⊢; exact ⟨belL_mono h a hv.1, belL_mono h b hv.2⟩
  | .ifc _ v, hv => by simp only [AV.bel] at hv ⊢; exact bel_mono h v hv
  | .bad, _ | .int _ _, _ | .bool _, _ | .str _, _ | .nilp, _ | .nils, _ | .emp _, _ | .nilf, _ | .nili, _ => by simp [AV.bel]
theorem belL_mono {m n : Nat} (h : m ≤ n) : ∀ (cs : List AV), belL m cs = true → belL n cs = true
  | [], _ => by simp [belL]
  | c :: cs, hv => by simp only [belL, Bool.and_eq_true] at hv ⊢; exact ⟨bel_mono h c hv.1, belL_mono h cs hv.2⟩
end
mutual
/-- Whatever is matched refers to what is there. -/
theorem M_bel {X : Cx} : ∀ (v : AV) (u : Value), M X v u → v.bel X.H.length = true
  | .ptr l _ _ _, _, h => by unfold M at h; simp only [AV.bel, decide_eq_true_eq]; exact h.1.1
  | .slc l _ _ _, _, h => by unfold M at h; simp only [AV.bel, decide_eq_true_eq]; exact h.1.1
  | .ip cs, _, h => by unfold M at h; obtain ⟨b, o, _, _, hc⟩ := h; simp only [AV.bel]; exact Mc_bel cs b o hc
  | .lst [], _, h => by simp [AV.bel, belL]
  | .lst (e :: es), _, h => by
    unfold M at h; obtain ⟨A, c, _, _, _, he⟩ := h
    obtain ⟨b, o, z, _, _, _, hm⟩ := he (by simp)
    simp only [AV.bel]; exact Me_bel (e :: es) b o z hm
  | .agg cs, _, h => by unfold M at h; obtain ⟨vs, _, hs⟩ := h; simp only [AV.bel]; exact Ms_bel cs _ hs
  | .tup cs, _, h => by unfold M at h; obtain ⟨vs, _, hs⟩ := h; simp only [AV.bel]; exact Ms_bel cs _ hs
  | .clo _ a b, _, h => by
    unfold M at h; obtain ⟨fv, cv, _, h1, h2⟩ := h
    simp only [AV.bel, Bool.and_eq_true]; exact ⟨Ms_bel a _ h1, Ms_bel b _ h2⟩
  | .ifc _ v, _, h => by unfold M at h; obtain ⟨u, _, hu⟩ := h; simp only [AV.bel]; exact M_bel v u hu
  | .bad, _, _ | .int _ _, _, _ | .bool _, _, _ | .str _, _, _ | .nilp, _, _ | .nils, _, _ | .emp _, _, _ | .nilf, _, _ | .nili, _, _ => by simp [AV.bel]
theorem Mc_bel {X : Cx} : ∀ (cs : List AV) (b o : Nat), Mc X cs b o → belL X.H.length cs = true
  | [], _, _, _ => by simp [belL]
  | c :: cs, b, o, h => by
    unfold Mc at h
    obtain ⟨⟨u, _, hu⟩, hs⟩ := h
    simp only [belL, Bool.and_eq_true]; exact ⟨M_bel c u hu, Mc_bel cs b (o + 1) hs⟩
theorem Me_bel {X : Cx} : ∀ (es : List AV) (b o z : Nat), Me X es b o z → belL X.H.length es = true
  | [], _, _, _, _ => by simp [belL]
  | e :: es, b, o, z, h => by
    cases e with
    | agg cs =>
      unfold Me at h
      simp only [belL, Bool.and_eq_true]
      exact ⟨by simp only [AV.bel]; exact Mc_bel cs b o h.1.2, Me_bel es b (o + z) z h.2⟩
    | _ =>
      unfold Me at h
      obtain ⟨⟨_, u, _, hu⟩, hs⟩ := h
      simp only [belL, Bool.and_eq_true]
      exact ⟨M_bel _ u hu, Me_bel es b (o + z) z hs⟩
theorem Ms_bel {X : Cx} : ∀ (cs : List AV) (vs : List Value), Ms X cs vs → belL X.H.length cs = true
  | [], _, _ => by simp [belL]
  | c :: cs, vs, h => by
    unfold Ms at h
    obtain ⟨u, us, rfl, hu, hs⟩ := h
    simp only [belL, Bool.and_eq_true]; exact ⟨M_bel c u hu, Ms_bel cs us hs⟩
end

/-- What was written refers to nothing younger, but for the rows in E. -/
def EscI (H0 H : List AObj) (E : List Nat) : Prop :=
  ∀ l z es, H[l]? = some (.row z es) → l ∈ E ∨ ∀ m, l < m → (∀ z0 es0, H0[l]? = some (.row z0 es0) → belL m es0 = true) → belL m es = true
theorem EscI.refl (H : List AObj) : EscI H H [] := fun l z es h => .inr fun m hm hp => hp z es h
theorem EscI.trans {H0 H1 H2 : List AObj} {E F : List Nat} (h : EscI H0 H1 E) (k : EscI H1 H2 F) : EscI H0 H2 (F ++ E) := fun l z es hl => by
  rcases k l z es hl with hk | hk
  · exact .inl (by simp [hk])
  · by_cases hE : l ∈ E
    · exact .inl (by simp [hE])
    · refine .inr fun m hm hp => hk m hm fun z1 es1 h1 => ?_
      rcases h l z1 es1 h1 with hh | hh
      · exact absurd hh hE
      · exact hh m hm hp

/-- Another world of the same heap. -/
theorem world_ok {G : Nat → Option (List AV)} {X : Cx} (hR : Rel G X) {w' : World} (hh : w'.heap = X.w.heap) (ht : w'.tape = X.w.tape) (ho : w'.os = X.w.os) (hu : w'.output = X.w.output) :
    Rel G ⟨X.F, X.ι, X.H, w'⟩ ∧ Ext X ⟨X.F, X.ι, X.H, w'⟩ ∧ EscI X.H X.H [] := by
  have hc : ∀ b j, cellAt w' b j = cellAt X.w b j := fun b j => by unfold cellAt; rw [hh]
  have hs : ∀ b, sizeAt w' b = sizeAt X.w b := fun b => by unfold sizeAt; rw [hh]
  have hE : Ext X ⟨X.F, X.ι, X.H, w'⟩ :=
    ⟨by simp [hh], Nat.le_refl _, fun b _ _ => by simp [hh], fun b _ hw => hw, fun l t hl h => ⟨t, h, Nat.le_refl _, fun _ => ⟨fun hr => ⟨hr, fun b z hb => ⟨hb, hs b⟩⟩, fun h => h⟩⟩, ht, ho, hu, rfl⟩
  refine ⟨⟨fun l z es b z' h1 h2 => ?_, fun l l' b z z' h1 h2 h3 h4 => hR.inj l l' b z z' h1 h2 h3 h4, fun g cs hg => ?_, hR.wf, fb_keep hR hE, hR.gb⟩, hE, EscI.refl _⟩
  · obtain ⟨e1, e2, e3, ee, s, e4, e5, e6⟩ := hR.rows l z es b z' h1 h2
    refine ⟨e1, e2, Me_mono hE _ _ _ _ (fun j u hj => (hc b j).trans hj) e3, ee, s, (hs b).trans e4, e5, unmark_eq e6 (by show w'.heap[b]? = _; rw [hh])⟩
  · obtain ⟨h1, h2⟩ := hR.glob g cs hg
    exact ⟨im_keep hE h1, Mc_mono hE _ _ _ (fun j u hj => (hc g j).trans hj) h2⟩

def upd (ι : Nat → Option (Nat × Nat)) (l : Nat) (x : Nat × Nat) : Nat → Option (Nat × Nat) := fun k => if k = l then some x else ι k

/-- A new block becomes the block of row l: a new one (at the end), an empty one's, or one that grew. -/
theorem push_ok {G : Nat → Option (List AV)} {X : Cx} (hR : Rel G X) {w' : World} {c : Array Value} {el : TypeId} {fr : Nat × Nat}
    (hh : w'.heap = X.w.heap.push (.cells c el fr)) (ht : w'.tape = X.w.tape) (ho : w'.os = X.w.os) (hu : w'.output = X.w.output)
    {z : Nat} {es : List AV} (hz : 0 < z) (hc : ∀ i e, es[i]? = some e → e.cells.length = z ∧ ∃ vs, Ms X e.cells vs ∧ ∀ j v, vs[j]? = some v → c[i * z + j]? = some v)
    (hone : oneL es) (hs : es.length * z ≤ c.size) (hf : fr.1 = fr.2 ∨ c.size ≤ fr.1)
    {H' : List AObj} {l : Nat} (hl : H'[l]? = some (.row z es)) (hoth : ∀ k, k ≠ l → H'[k]? = X.H[k]?) (hlen : X.H.length ≤ H'.length)
    (hgrow : l < X.H.length → ∃ t0, lenOf X.H l = some t0 ∧ t0 < es.length) {E : List Nat} (hesc : EscI X.H H' E) :
    Rel G ⟨X.F, upd X.ι l (X.w.heap.size, z), H', w'⟩ ∧ Ext X ⟨X.F, upd X.ι l (X.w.heap.size, z), H', w'⟩ := by
  have hold : ∀ b, b < X.w.heap.size → w'.heap[b]? = X.w.heap[b]? := fun b hb => by
    rw [hh, Array.getElem?_push_lt hb]; simp [hb]
  have hnew : w'.heap[X.w.heap.size]? = some (.cells c el fr) := by rw [hh]; simp
  have hcell : ∀ b j u, cellAt X.w b j = some u → cellAt w' b j = some u := fun b j u h => by
    have hb := lt_of_cellAt h
    unfold cellAt at h ⊢; rw [hold b hb]; exact h
  have hsize : ∀ b s, sizeAt X.w b = some s → sizeAt w' b = some s := fun b s h => by
    have hb := lt_of_sizeAt h
    unfold sizeAt at h ⊢; rw [hold b hb]; exact h
  have hE : Ext X ⟨X.F, upd X.ι l (X.w.heap.size, z), H', w'⟩ := by
    refine ⟨by simp [hh], hlen, fun b hb _ => hold b hb, fun b hb hw => ?_, fun k t hk hkt => ?_, ht, ho, hu, rfl⟩
    · obtain ⟨k, z', hr, hi⟩ := hw
      simp only [upd] at hr hi
      by_cases e : k = l
      · simp only [e, if_true] at hi
        injection hi with hi; injection hi with hi _; omega
      · simp only [e, if_false] at hi
        rw [hoth k e] at hr
        exact ⟨k, z', hr, hi⟩
    · by_cases e : k = l
      · subst e
        obtain ⟨t0, h0, hlt⟩ := hgrow hk
        have : t = es.length := by
          simp only [lenOf, hl] at hkt; injection hkt with hkt; exact hkt.symm
        exact ⟨t0, h0, by omega, fun e => by omega⟩
      · have hk' : lenOf X.H k = some t := by simpa only [lenOf, hoth k e] using hkt
        refine ⟨t, hk', Nat.le_refl _, fun _ => ⟨fun hr => ⟨?_, fun b z' hb => ⟨by simp only [upd, e, if_false]; exact hb, ?_⟩⟩, fun hv => by rw [← hv]; exact hoth k e⟩⟩
        · show isRow H'[k]?
          rw [hoth k e]; exact hr
        · obtain ⟨z1, es1, he⟩ := isRow_some hr
          obtain ⟨_, _, _, _, s, hs, _⟩ := hR.rows k z1 es1 b z' he hb
          rw [hs]; exact hsize b s hs
  have hme : ∀ i e, es[i]? = some e → e.cells.length = z ∧ Mc ⟨X.F, upd X.ι l (X.w.heap.size, z), H', w'⟩ e.cells X.w.heap.size (0 + i * z) := fun i e he => by
    obtain ⟨h1, vs, h2, h3⟩ := hc i e he
    refine ⟨h1, Mc_of_vals (Ms_mono hE _ _ h2) fun j v hj => ?_⟩
    show cellAt w' _ _ = _
    unfold cellAt
    rw [hnew]
    simpa using h3 j v hj
  refine ⟨⟨fun k z1 es1 b z' h1 h2 => ?_, fun k k' b z1 z2 h1 h2 h3 h4 => ?_, fun g cs hg => ?_, fun k z1 es1 h1 => ?_, fb_keep hR hE, hR.gb⟩, hE⟩
  · simp only at h1 h2
    by_cases e : k = l
    · subst e
      rw [hl] at h1
      injection h1 with h1; injection h1 with e1 e2
      subst e1; subst e2
      simp only [upd, if_true] at h2
      injection h2 with h2; injection h2 with e3 e4
      subst e3; subst e4
      refine ⟨rfl, hz, Me_of_get hme, hone, c.size, by unfold sizeAt; rw [hnew], hs, ⟨c, el, fr.1, fr.2, hnew, hf⟩⟩
    · simp only [upd, e, if_false] at h2
      rw [hoth k e] at h1
      obtain ⟨e1, e2, e3, ee, s, e4, e5, e6⟩ := hR.rows k z1 es1 b z' h1 h2
      refine ⟨e1, e2, Me_mono hE _ _ _ _ (fun j u hj => hcell b j u hj) e3, ee, s, hsize b s e4, e5, unmark_eq e6 (hold b (lt_of_sizeAt e4))⟩
  · simp only [upd] at h1 h2 h3 h4
    have key : ∀ k z1, isRow H'[k]? → k ≠ l → X.ι k ≠ some (X.w.heap.size, z1) := fun k z1 hr e hi => by
      rw [hoth k e] at hr
      obtain ⟨z', es', he⟩ := isRow_some hr
      obtain ⟨_, _, _, _, s, hs, _⟩ := hR.rows k z' es' _ _ he hi
      have := lt_of_sizeAt hs
      omega
    by_cases e : k = l <;> by_cases e' : k' = l
    · omega
    · simp only [e, if_true] at h3
      simp only [e', if_false] at h4
      injection h3 with h3; injection h3 with h3 _
      exact absurd (h3 ▸ h4) (key k' _ h2 e')
    · simp only [e, if_false] at h3
      simp only [e', if_true] at h4
      injection h4 with h4; injection h4 with h4 _
      exact absurd (h4 ▸ h3) (key k _ h1 e)
    · simp only [e, e', if_false] at h3 h4
      rw [hoth k e] at h1
      rw [hoth k' e'] at h2
      exact hR.inj k k' b z1 z2 h1 h2 h3 h4
  · obtain ⟨h1, h2⟩ := hR.glob g cs hg
    exact ⟨im_keep hE h1, Mc_mono hE _ _ _ (fun j u hj => hcell g j u hj) h2⟩
  · simp only at h1
    by_cases e : k = l
    · subst e
      rw [hl] at h1
      injection h1 with h1; injection h1 with e1 e2
      subst e1; subst e2
      exact Me_bel _ _ _ _ (Me_of_get hme)
    · rw [hoth k e] at h1
      exact belL_mono hlen _ (hR.wf k z1 es1 h1)

end Go.Pm

/- Soundness, part 3: a row written in place; rows let go; the end of a scope. -/
namespace Go.Pm
set_option linter.unusedVariables false
set_option linter.unusedSimpArgs false

theorem write_ok {G : Nat → Option (List AV)} {X : Cx} (hR : Rel G X) {l z b s : Nat} {es es' : List AV} (hl : X.H[l]? = some (.row z es)) (hi : X.ι l = some (b, z))
    (hlen : es.length ≤ es'.length) {o : Nat} {vs : List Value} (hsz : sizeAt X.w b = some s) (ho : o + vs.length ≤ s) (hone : oneL es') (hs : es'.length * z ≤ s)
    (hc : ∀ i e, es'[i]? = some e → e.cells.length = z ∧ ∃ us, Ms X e.cells us ∧ ∀ j v, us[j]? = some v → cellAt (X.w.setCells b o vs) b (i * z + j) = some v)
    {E : List Nat} (hesc : EscI X.H (X.H.set l (.row z es')) E) :
    Rel G ⟨X.F, X.ι, X.H.set l (.row z es'), X.w.setCells b o vs⟩ ∧ Ext X ⟨X.F, X.ι, X.H.set l (.row z es'), X.w.setCells b o vs⟩ := by
  have hll : l < X.H.length := (List.getElem?_eq_some_iff.1 hl).1
  obtain ⟨f1, f2, f3, f4, f5, f6⟩ := setCells_facts b vs o X.w
  have hset : (X.H.set l (.row z es'))[l]? = some (.row z es') := by simp [hll]
  have hoth : ∀ k, k ≠ l → (X.H.set l (.row z es'))[k]? = X.H[k]? := fun k hk => by simp [Ne.symm hk]
  have hrow : ∀ k, isRow (X.H.set l (.row z es'))[k]? ↔ isRow X.H[k]? := fun k => by
    by_cases e : k = l
    · subst e; rw [hset, hl]; simp [isRow]
    · rw [hoth k e]
  have hwr : X.wr b := ⟨l, z, by rw [hl]; simp [isRow], hi⟩
  have hE : Ext X ⟨X.F, X.ι, X.H.set l (.row z es'), X.w.setCells b o vs⟩ := by
    refine ⟨by simp [f1], by simp, fun b' hb hw => f3 b' (fun e => hw (e ▸ hwr)), fun b' hb hw => ?_, fun k t hk hkt => ?_, f4, f5, f6, rfl⟩
    · obtain ⟨k, z', hr, hi'⟩ := hw
      exact ⟨k, z', (hrow k).1 hr, hi'⟩
    · by_cases e : k = l
      · subst e
        have ht : es'.length = t := by simp only [lenOf, hset] at hkt; injection hkt
        exact ⟨es.length, by simp [lenOf, hl], by omega, fun _ => ⟨fun hr => ⟨(hrow k).2 hr, fun b' z' hb' => ⟨hb', f2 b'⟩⟩, fun hv => by rw [hl] at hv; cases hv⟩⟩
      · have hk' : lenOf X.H k = some t := by simpa only [lenOf, hoth k e] using hkt
        exact ⟨t, hk', Nat.le_refl _, fun _ => ⟨fun hr => ⟨(hrow k).2 hr, fun b' z' hb' => ⟨hb', f2 b'⟩⟩, fun hv => by rw [← hv]; exact hoth k e⟩⟩
  have hme : ∀ i e, es'[i]? = some e → e.cells.length = z ∧ Mc ⟨X.F, X.ι, X.H.set l (.row z es'), X.w.setCells b o vs⟩ e.cells b (0 + i * z) := fun i e he => by
    obtain ⟨h1, us, h2, h3⟩ := hc i e he
    exact ⟨h1, Mc_of_vals (Ms_mono hE _ _ h2) fun j v hj => by simpa using h3 j v hj⟩
  refine ⟨⟨fun k z1 es1 b1 z' h1 h2 => ?_, fun k k' b1 z1 z2 h1 h2 h3 h4 => hR.inj k k' b1 z1 z2 ((hrow k).1 h1) ((hrow k').1 h2) h3 h4, fun g cs hg => ?_, fun k z1 es1 h1 => ?_, fb_keep hR hE, hR.gb⟩, hE⟩
  · simp only at h1 h2
    by_cases e : k = l
    · subst e
      rw [hset] at h1
      injection h1 with h1; injection h1 with e1 e2
      subst e1; subst e2
      rw [hi] at h2
      injection h2 with h2; injection h2 with e3 e4
      subst e3; subst e4
      obtain ⟨_, hz, _, _, s', hs', _, hf⟩ := hR.rows k z es b z hl hi
      rw [hsz] at hs'; injection hs' with hs'; subst hs'
      refine ⟨rfl, hz, Me_of_get hme, hone, s, (f2 b).trans hsz, hs, unmark_setCells vs o X.w hf⟩
    · rw [hoth k e] at h1
      obtain ⟨e1, e2, e3, ee, s1, e4, e5, e6⟩ := hR.rows k z1 es1 b1 z' h1 h2
      have hb : b1 ≠ b := fun hb => by
        subst hb
        exact e (hR.inj k l b1 z' z (by rw [h1]; simp [isRow]) (by rw [hl]; simp [isRow]) h2 hi)
      refine ⟨e1, e2, Me_mono hE _ _ _ _ (fun j u hj => ?_) e3, ee, s1, (f2 b1).trans e4, e5, unmark_setCells vs o X.w e6⟩
      exact (cellAt_setCells_out fun hb' => absurd hb' hb).trans hj
  · obtain ⟨h1, h2⟩ := hR.glob g cs hg
    exact ⟨im_keep hE h1, Mc_mono hE _ _ _ (fun j u hj => cellAt_keep hE h1.2 hj) h2⟩
  · simp only at h1
    by_cases e : k = l
    · subst e
      rw [hset] at h1
      injection h1 with h1; injection h1 with e1 e2
      subst e1; subst e2
      exact Me_bel _ _ _ _ (Me_of_get hme)
    · rw [hoth k e] at h1
      exact belL_mono (by simp) _ (hR.wf k z1 es1 h1)

theorem killAll_get : ∀ (ls : List Nat) (H : List AObj) (k : Nat), (killAll H ls)[k]? = if k ∈ ls ∧ k < H.length then some .dead else H[k]?
  | [], H, k => by simp [killAll]
  | l :: ls, H, k => by
    simp only [killAll, killAll_get ls (H.set l .dead) k, List.length_set, List.mem_cons]
    by_cases h1 : k ∈ ls
    · by_cases h2 : k < H.length
      · simp [h1, h2]
      · simp [h1, h2, List.getElem?_eq_none (Nat.le_of_not_lt h2)]
    · by_cases e : k = l
      · subst e
        by_cases h2 : k < H.length
        · simp [h1, h2]
        · simp [h1, h2, List.getElem?_eq_none (Nat.le_of_not_lt h2)]
      · simp [h1, e, Ne.symm e]
theorem killAll_length : ∀ (ls : List Nat) (H : List AObj), (killAll H ls).length = H.length
  | [], H => rfl
  | l :: ls, H => by simp [killAll, killAll_length ls]

theorem kill_ok {G : Nat → Option (List AV)} {X : Cx} (hR : Rel G X) (ls : List Nat) :
    Rel G ⟨X.F, X.ι, killAll X.H ls, X.w⟩ ∧ Ext X ⟨X.F, X.ι, killAll X.H ls, X.w⟩ ∧ EscI X.H (killAll X.H ls) [] := by
  have hrow : ∀ k, isRow (killAll X.H ls)[k]? → (killAll X.H ls)[k]? = X.H[k]? := fun k h => by
    rw [killAll_get] at h ⊢
    split at h
    · simp [isRow] at h
    · rename_i hn; rw [if_neg hn]
  have hlenOf : ∀ k t, lenOf (killAll X.H ls) k = some t → (killAll X.H ls)[k]? = X.H[k]? := fun k t h => by
    unfold lenOf at h
    rw [killAll_get] at h ⊢
    split
    · rename_i hd; simp [hd] at h
    · rfl
  have hE : Ext X ⟨X.F, X.ι, killAll X.H ls, X.w⟩ := by
    refine ⟨Nat.le_refl _, by simp [killAll_length], fun _ _ _ => rfl, fun b _ hw => ?_, fun k t hk hkt => ?_, rfl, rfl, rfl, rfl⟩
    · obtain ⟨k, z', hr, hi⟩ := hw
      exact ⟨k, z', by rw [← hrow k hr]; exact hr, hi⟩
    · have he := hlenOf k t hkt
      refine ⟨t, by unfold lenOf at hkt ⊢; rw [← he]; exact hkt, Nat.le_refl _, fun _ => ⟨fun hr => ⟨?_, fun _ _ h => ⟨h, rfl⟩⟩, fun hv => he.trans hv⟩⟩
      show isRow (killAll X.H ls)[k]?
      rw [he]; exact hr
  refine ⟨⟨fun k z1 es1 b1 z' h1 h2 => ?_, fun k k' b1 z1 z2 h1 h2 h3 h4 => ?_, fun g cs hg => ?_, fun k z1 es1 h1 => ?_, fb_keep hR hE, hR.gb⟩, hE, fun l z es h => ?_⟩
  · simp only at h1 h2
    rw [hrow k (by rw [h1]; simp [isRow])] at h1
    obtain ⟨e1, e2, e3, ee, s1, e4, e5, e6⟩ := hR.rows k z1 es1 b1 z' h1 h2
    exact ⟨e1, e2, Me_mono hE _ _ _ _ (fun j u hj => hj) e3, ee, s1, e4, e5, e6⟩
  · exact hR.inj k k' b1 z1 z2 (by rw [← hrow k h1]; exact h1) (by rw [← hrow k' h2]; exact h2) h3 h4
  · obtain ⟨h1, h2⟩ := hR.glob g cs hg
    exact ⟨im_keep hE h1, Mc_mono hE _ _ _ (fun j u hj => hj) h2⟩
  · simp only at h1
    rw [hrow k (by rw [h1]; simp [isRow])] at h1
    exact belL_mono (by simp [killAll_length]) _ (hR.wf k z1 es1 h1)
  · rw [hrow l (by rw [h]; simp [isRow])] at h
    exact .inr fun m hm hp => hp z es h

mutual
theorem frz_M {G : Nat → Option (List AV)} {X : Cx} (hR : Rel G X) (ls : List Nat) : ∀ (v v' : AV) (u : Value), M X v u → frz X.H v = some v' → (∀ l ∈ kills v, l ∈ ls) →
    M ⟨X.F, X.ι, killAll X.H ls, X.w⟩ v' u
  | .nils, v', u, hm, hf, hk => by
    simp only [frz, Option.some.injEq] at hf
    subst hf
    unfold M at hm ⊢
    exact ⟨none, 0, by simpa using hm, by simp, by simp [oneL], fun h => absurd rfl h⟩
  | .emp b, v', u, hm, hf, hk => by
    simp only [frz, Option.some.injEq] at hf
    subst hf
    unfold M at hm ⊢
    obtain ⟨A, c, hv, _⟩ := hm
    exact ⟨A, c, by simpa using hv, by simp, by simp [oneL], fun h => absurd rfl h⟩
  | .slc l off n tot, v', u, hm, hf, hk => by
    simp only [frz] at hf
    unfold M at hm
    obtain ⟨⟨h1, h0⟩, h2, h3⟩ := hm
    split at hf
    · rename_i z0 es hH
      split at hf
      · rename_i hg
        injection hf with hf
        subst hf
        have hlen : lenOf X.H l = some tot := by simp [lenOf, hH, hg.1]
        rcases h3 hlen with ⟨hv, _⟩ | ⟨hr, A, c, b, z, s, hi, hv, a1, a2, a3, a4⟩
        · rw [hH] at hv; cases hv
        · obtain ⟨e1, e2, e3, ee, s', e4, e5, e6⟩ := hR.rows l z0 es b z hH hi
          subst e1
          have hll : ((es.drop off).take n).length = n := by simp; omega
          unfold M
          refine ⟨A, c, by rw [hll]; exact hv, by rw [hll]; exact a2, fun e he => ee e (List.mem_of_mem_drop (List.mem_of_mem_take he)), fun hne => ?_⟩
          have hn : 0 < n := by
            rcases Nat.eq_zero_or_pos n with h0 | h0
            · subst h0; simp at hne
            · exact h0
          have hc0 : c ≠ 0 := by omega
          obtain ⟨hA, hcap⟩ := a4.resolve_left hc0
          have hE := (kill_ok hR ls).2.1
          refine ⟨b, off * z, z, hA, e2, ⟨⟨lt_of_sizeAt a3, fun hf => (hR.fb b hf).2 ⟨l, z, hr, hi⟩⟩, fun hw => ?_⟩, Me_of_get fun i e he => ?_⟩
          · obtain ⟨k, z', hrk, hik⟩ := hw
            simp only at hrk hik
            rw [killAll_get] at hrk
            split at hrk
            · simp [isRow] at hrk
            · rename_i hnk
              have := hR.inj k l b z' z hrk hr hik hi
              subst this
              exact hnk ⟨hk k (by simp [kills]), h1⟩
          · have hi' : i < n := by
              have := (List.getElem?_eq_some_iff.1 he).1
              rw [hll] at this; exact this
            have he' : es[off + i]? = some e := by
              rw [List.getElem?_take_of_lt hi', List.getElem?_drop] at he
              exact he
            obtain ⟨q1, q2⟩ := Me_get e3 he'
            refine ⟨q1, Mc_mono hE _ _ _ (fun j u hj => hj) ?_⟩
            rwa [show off * z + i * z = 0 + (off + i) * z by rw [Nat.add_mul]; omega]
      · cases hf
    · rename_i hH
      split at hf
      · rename_i ht
        injection hf with hf
        subst hf
        have hlen : lenOf X.H l = some tot := by simp [lenOf, hH, ht]
        rcases h3 hlen with ⟨hv, h4, h5, h6⟩ | ⟨hr, _⟩
        · unfold M
          exact ⟨none, 0, by simpa using h6, by simp, by simp [oneL], fun h => absurd rfl h⟩
        · rw [hH] at hr; simp [isRow] at hr
      · cases hf
    · cases hf
  | .agg cs, v', u, hm, hf, hk => by
    simp only [frz, Option.map_eq_some_iff] at hf
    obtain ⟨cs', h1, rfl⟩ := hf
    unfold M at hm ⊢
    obtain ⟨vs, hv, hs⟩ := hm
    exact ⟨vs, hv, frzL_M hR ls cs cs' _ hs h1 (by simpa [kills] using hk)⟩
  | .tup cs, v', u, hm, hf, hk => by
    simp only [frz, Option.map_eq_some_iff] at hf
    obtain ⟨cs', h1, rfl⟩ := hf
    unfold M at hm ⊢
    obtain ⟨vs, hv, hs⟩ := hm
    exact ⟨vs, hv, frzL_M hR ls cs cs' _ hs h1 (by simpa [kills] using hk)⟩
  | .ifc t v, v', u, hm, hf, hk => by
    simp only [frz, Option.map_eq_some_iff] at hf
    obtain ⟨w, h1, rfl⟩ := hf
    unfold M at hm ⊢
    obtain ⟨u', hv, hs⟩ := hm
    exact ⟨u', hv, frz_M hR ls v w u' hs h1 (by simpa [kills] using hk)⟩
  | .bad, v', u, hm, hf, hk => by simp only [frz, Option.some.injEq] at hf; subst hf; exact M_mono (kill_ok hR ls).2.1 _ _ hm
  | .int _ _, v', u, hm, hf, hk => by simp only [frz, Option.some.injEq] at hf; subst hf; exact M_mono (kill_ok hR ls).2.1 _ _ hm
  | .bool _, v', u, hm, hf, hk => by simp only [frz, Option.some.injEq] at hf; subst hf; exact M_mono (kill_ok hR ls).2.1 _ _ hm
  | .str _, v', u, hm, hf, hk => by simp only [frz, Option.some.injEq] at hf; subst hf; exact M_mono (kill_ok hR ls).2.1 _ _ hm
  | .nilp, v', u, hm, hf, hk => by simp only [frz, Option.some.injEq] at hf; subst hf; exact M_mono (kill_ok hR ls).2.1 _ _ hm
  | .ptr _ _ _ _, v', u, hm, hf, hk => by simp only [frz, Option.some.injEq] at hf; subst hf; exact M_mono (kill_ok hR ls).2.1 _ _ hm
  | .ip _, v', u, hm, hf, hk => by simp only [frz, Option.some.injEq] at hf; subst hf; exact M_mono (kill_ok hR ls).2.1 _ _ hm
  | .lst _, v', u, hm, hf, hk => by simp only [frz, Option.some.injEq] at hf; subst hf; exact M_mono (kill_ok hR ls).2.1 _ _ hm
  | .clo _ _ _, v', u, hm, hf, hk => by simp only [frz, Option.some.injEq] at hf; subst hf; exact M_mono (kill_ok hR ls).2.1 _ _ hm
  | .nilf, v', u, hm, hf, hk => by simp only [frz, Option.some.injEq] at hf; subst hf; exact M_mono (kill_ok hR ls).2.1 _ _ hm
  | .nili, v', u, hm, hf, hk => by simp only [frz, Option.some.injEq] at hf; subst hf; exact M_mono (kill_ok hR ls).2.1 _ _ hm
theorem frzL_M {G : Nat → Option (List AV)} {X : Cx} (hR : Rel G X) (ls : List Nat) : ∀ (cs cs' : List AV) (us : List Value), Ms X cs us → frzL X.H cs = some cs' → (∀ l ∈ killsL cs, l ∈ ls) →
    Ms ⟨X.F, X.ι, killAll X.H ls, X.w⟩ cs' us
  | [], cs', us, hm, hf, hk => by
    simp only [frzL, Option.some.injEq] at hf
    subst hf
    unfold Ms at hm ⊢
    exact hm
  | c :: cs, cs', us, hm, hf, hk => by
    simp only [frzL, Option.bind_eq_some_iff, Option.map_eq_some_iff] at hf
    obtain ⟨c', h1, ds, h2, rfl⟩ := hf
    unfold Ms at hm ⊢
    obtain ⟨u, us', rfl, hu, hs⟩ := hm
    exact ⟨u, us', rfl, frz_M hR ls c c' u hu h1 fun l hl => hk l (by simp [killsL, hl]), frzL_M hR ls cs ds us' hs h2 fun l hl => hk l (by simp [killsL, hl])⟩
end

/-! ### the end of a scope -/
def Cx.cut (X : Cx) (n : Nat) : Cx := ⟨X.F, fun l => if l < n then X.ι l else none, X.H.take n, X.w⟩
theorem cut_get {H : List AObj} {n l : Nat} (h : l < n) : (H.take n)[l]? = H[l]? := by simp [h]
theorem cut_none {H : List AObj} {n l : Nat} (h : n ≤ l) : (H.take n)[l]? = none := by simp [List.getElem?_take, Nat.not_lt.2 h]
theorem cut_wr {X : Cx} {n b : Nat} (h : (X.cut n).wr b) : X.wr b := by
  obtain ⟨l, z, hr, hi⟩ := h
  simp only [Cx.cut] at hr hi
  by_cases e : l < n
  · rw [cut_get e] at hr; simp only [e, if_true] at hi; exact ⟨l, z, hr, hi⟩
  · simp [e] at hi
mutual
theorem cut_M {X : Cx} {n : Nat} (hn : n ≤ X.H.length) : ∀ (v : AV) (u : Value), v.bel n = true → M X v u → M (X.cut n) v u
  | .ptr l tot i off, u, hb, hm => by
    simp only [AV.bel, decide_eq_true_eq] at hb
    unfold M at hm ⊢
    have hg : (X.cut n).H[l]? = X.H[l]? := cut_get hb
    have hi : (X.cut n).ι l = X.ι l := by simp [Cx.cut, hb]
    simp only [lenOf, hg, hi] at hm ⊢
    exact ⟨⟨by simp [Cx.cut]; omega, hm.1.2⟩, hm.2.1, hm.2.2⟩
  | .slc l off k tot, u, hb, hm => by
    simp only [AV.bel, decide_eq_true_eq] at hb
    unfold M at hm ⊢
    have hg : (X.cut n).H[l]? = X.H[l]? := cut_get hb
    have hi : (X.cut n).ι l = X.ι l := by simp [Cx.cut, hb]
    simp only [lenOf, hg, hi] at hm ⊢
    exact ⟨⟨by simp [Cx.cut]; omega, hm.1.2⟩, hm.2.1, hm.2.2⟩
  | .ip cs, u, hb, hm => by
    simp only [AV.bel] at hb
    unfold M at hm ⊢
    obtain ⟨b, o, hv, hi, hc⟩ := hm
    exact ⟨b, o, hv, ⟨hi.1, fun hw => hi.2 (cut_wr hw)⟩, cut_Mc hn cs b o hb hc⟩
  | .lst es, u, hb, hm => by
    simp only [AV.bel] at hb
    unfold M at hm ⊢
    obtain ⟨A, c, hv, hc, hone, he⟩ := hm
    refine ⟨A, c, hv, hc, hone, fun hne => ?_⟩
    obtain ⟨b, o, z, hA, hz, hi, hme⟩ := he hne
    exact ⟨b, o, z, hA, hz, ⟨hi.1, fun hw => hi.2 (cut_wr hw)⟩, cut_Me hn es b o z hb hme⟩
  | .agg cs, u, hb, hm => by
    simp only [AV.bel] at hb
    unfold M at hm ⊢
    obtain ⟨vs, hv, hs⟩ := hm
    exact ⟨vs, hv, cut_Ms hn cs _ hb hs⟩
  | .tup cs, u, hb, hm => by
    simp only [AV.bel] at hb
    unfold M at hm ⊢
    obtain ⟨vs, hv, hs⟩ := hm
    exact ⟨vs, hv, cut_Ms hn cs _ hb hs⟩
  | .clo _ fi ca, u, hb, hm => by
    simp only [AV.bel, Bool.and_eq_true] at hb
    unfold M at hm ⊢
    obtain ⟨fv, cv, hv, h1, h2⟩ := hm
    exact ⟨fv, cv, hv, cut_Ms hn fi _ hb.1 h1, cut_Ms hn ca _ hb.2 h2⟩
  | .ifc _ v, u, hb, hm => by
    simp only [AV.bel] at hb
    unfold M at hm ⊢
    obtain ⟨u', hv, hs⟩ := hm
    exact ⟨u', hv, cut_M hn v u' hb hs⟩
  | .bad, u, hb, hm => by unfold M; trivial
  | .int _ _, u, hb, hm => by unfold M at hm ⊢; exact hm
  | .bool _, u, hb, hm => by unfold M at hm ⊢; exact hm
  | .str _, u, hb, hm => by unfold M at hm ⊢; exact hm
  | .nilp, u, hb, hm => by unfold M at hm ⊢; exact hm
  | .nils, u, hb, hm => by unfold M at hm ⊢; exact hm
  | .emp _, u, hb, hm => by unfold M at hm ⊢; exact hm
  | .nilf, u, hb, hm => by unfold M at hm ⊢; exact hm
  | .nili, u, hb, hm => by unfold M at hm ⊢; exact hm
theorem cut_Mc {X : Cx} {n : Nat} (hn : n ≤ X.H.length) : ∀ (cs : List AV) (b o : Nat), belL n cs = true → Mc X cs b o → Mc (X.cut n) cs b o
  | [], _, _, _, _ => by simp [Mc]
  | c :: cs, b, o, hb, hm => by
    simp only [belL, Bool.and_eq_true] at hb
    unfold Mc at hm ⊢
    obtain ⟨⟨u, hu, hc⟩, hs⟩ := hm
    exact ⟨⟨u, hu, cut_M hn c u hb.1 hc⟩, cut_Mc hn cs b (o + 1) hb.2 hs⟩
theorem cut_Me {X : Cx} {n : Nat} (hn : n ≤ X.H.length) : ∀ (es : List AV) (b o z : Nat), belL n es = true → Me X es b o z → Me (X.cut n) es b o z
  | [], _, _, _, _, _ => by simp [Me]
  | e :: es, b, o, z, hb, hm => by
    simp only [belL, Bool.and_eq_true] at hb
    cases e with
    | agg cs =>
      unfold Me at hm ⊢
      exact ⟨⟨hm.1.1, cut_Mc hn cs b o (by simpa [AV.bel] using hb.1) hm.1.2⟩, cut_Me hn es b (o + z) z hb.2 hm.2⟩
    | _ =>
      unfold Me at hm ⊢
      obtain ⟨⟨hz, u, hu, hc⟩, hs⟩ := hm
      exact ⟨⟨hz, u, hu, cut_M hn _ u hb.1 hc⟩, cut_Me hn es b (o + z) z hb.2 hs⟩
theorem cut_Ms {X : Cx} {n : Nat} (hn : n ≤ X.H.length) : ∀ (cs : List AV) (vs : List Value), belL n cs = true → Ms X cs vs → Ms (X.cut n) cs vs
  | [], _, _, hm => by unfold Ms at hm ⊢; exact hm
  | c :: cs, vs, hb, hm => by
    simp only [belL, Bool.and_eq_true] at hb
    unfold Ms at hm ⊢
    obtain ⟨u, us, hv, hc, hs⟩ := hm
    exact ⟨u, us, hv, cut_M hn c u hb.1 hc, cut_Ms hn cs us hb.2 hs⟩
end

/-- From the state X0 on, by way of X, back to what X0 had. -/
theorem cut_ok {G : Nat → Option (List AV)} {X0 X : Cx} (hR0 : Rel G X0) (hR : Rel G X) (hE : Ext X0 X) {E : List Nat} (hesc : EscI X0.H X.H E) (hge : ∀ e ∈ E, X0.H.length ≤ e) :
    Rel G (X.cut X0.H.length) ∧ Ext X0 (X.cut X0.H.length) ∧ EscI X0.H (X.cut X0.H.length).H [] := by
  have hn := hE.hlen
  have hbel : ∀ l z es, l < X0.H.length → X.H[l]? = some (AObj.row z es) → belL X0.H.length es = true := fun l z es e h1 => by
    rcases hesc l z es h1 with hh | hh
    · have := hge l hh; omega
    · exact hh _ e fun z0 es0 h0 => hR0.wf l z0 es0 h0
  refine ⟨⟨fun l z es b z' h1 h2 => ?_, fun l l' b z z' h1 h2 h3 h4 => ?_, fun g cs hg => ?_, fun l z es h1 => ?_, fun b hb => ⟨(hR.fb b hb).1, fun hw => (hR.fb b hb).2 (cut_wr hw)⟩, hR.gb⟩, ⟨hE.size, by simp [Cx.cut]; omega, hE.keep, fun b hb hw => hE.wr b hb (cut_wr hw), fun l t hl hlt => ?_, hE.tape, hE.os, hE.output, hE.for_⟩, fun l z es h => ?_⟩
  · simp only [Cx.cut] at h1 h2
    by_cases e : l < X0.H.length
    · rw [cut_get e] at h1
      simp only [e, if_true] at h2
      obtain ⟨e1, e2, e3, ee, s, e4, e5, e6⟩ := hR.rows l z es b z' h1 h2
      exact ⟨e1, e2, cut_Me hn _ _ _ _ (hbel l z es e h1) e3, ee, s, e4, e5, e6⟩
    · simp [e] at h2
  · simp only [Cx.cut] at h1 h2 h3 h4
    by_cases e : l < X0.H.length
    · by_cases e' : l' < X0.H.length
      · rw [cut_get e] at h1
        rw [cut_get e'] at h2
        simp only [e, if_true] at h3
        simp only [e', if_true] at h4
        exact hR.inj l l' b z z' h1 h2 h3 h4
      · simp [e'] at h4
    · simp [e] at h3
  · obtain ⟨h1, h2⟩ := hR.glob g cs hg
    exact ⟨⟨h1.1, fun hw => h1.2 (cut_wr hw)⟩, cut_Mc hn _ _ _ (Mc_bel _ _ _ (hR0.glob g cs hg).2) h2⟩
  · simp only [Cx.cut] at h1 ⊢
    by_cases e : l < X0.H.length
    · rw [cut_get e] at h1
      rw [List.length_take, Nat.min_eq_left hn]
      exact hbel l z es e h1
    · rw [cut_none (Nat.le_of_not_lt e)] at h1; cases h1
  · have hg : (X.cut X0.H.length).H[l]? = X.H[l]? := cut_get hl
    have hi : (X.cut X0.H.length).ι l = X.ι l := by simp [Cx.cut, hl]
    obtain ⟨t0, k0, k1, k2⟩ := hE.grow l t hl (by simpa only [lenOf, hg] using hlt)
    refine ⟨t0, k0, k1, fun e => ?_⟩
    rw [hg, hi]
    exact k2 e
  · by_cases e : l < X0.H.length
    · have h' : X.H[l]? = some (.row z es) := by rw [← cut_get e]; exact h
      rcases hesc l z es h' with hh | hh
      · have := hge l hh; omega
      · exact .inr hh
    · simp only [Cx.cut] at h; rw [cut_none (Nat.le_of_not_lt e)] at h; cases h

/-! ### what refers to no row at all -/
mutual
theorem low_M {X Y : Cx} (hw : Y.w = X.w) (him : ∀ b, X.im b → Y.im b) : ∀ (v : AV) (u : Value), v.bel 0 = true → M X v u → M Y v u
  | .ptr l tot i off, u, hb, hm => by simp [AV.bel] at hb
  | .slc l off k tot, u, hb, hm => by simp [AV.bel] at hb
  | .ip cs, u, hb, hm => by
    simp only [AV.bel] at hb
    unfold M at hm ⊢
    obtain ⟨b, o, hv, hi, hc⟩ := hm
    exact ⟨b, o, hv, him b hi, low_Mc hw him cs b o hb hc⟩
  | .lst es, u, hb, hm => by
    simp only [AV.bel] at hb
    unfold M at hm ⊢
    obtain ⟨A, c, hv, hc, hone, he⟩ := hm
    refine ⟨A, c, hv, hc, hone, fun hne => ?_⟩
    obtain ⟨b, o, z, hA, hz, hi, hme⟩ := he hne
    exact ⟨b, o, z, hA, hz, him b hi, low_Me hw him es b o z hb hme⟩
  | .agg cs, u, hb, hm => by
    simp only [AV.bel] at hb
    unfold M at hm ⊢
    obtain ⟨vs, hv, hs⟩ := hm
    exact ⟨vs, hv, low_Ms hw him cs _ hb hs⟩
  | .tup cs, u, hb, hm => by
    simp only [AV.bel] at hb
    unfold M at hm ⊢
    obtain ⟨vs, hv, hs⟩ := hm
    exact ⟨vs, hv, low_Ms hw him cs _ hb hs⟩
  | .clo _ fi ca, u, hb, hm => by
    simp only [AV.bel, Bool.and_eq_true] at hb
    unfold M at hm ⊢
    obtain ⟨fv, cv, hv, h1, h2⟩ := hm
    exact ⟨fv, cv, hv, low_Ms hw him fi _ hb.1 h1, low_Ms hw him ca _ hb.2 h2⟩
  | .ifc _ v, u, hb, hm => by
    simp only [AV.bel] at hb
    unfold M at hm ⊢
    obtain ⟨u', hv, hs⟩ := hm
    exact ⟨u', hv, low_M hw him v u' hb hs⟩
  | .bad, u, hb, hm => by unfold M; trivial
  | .int _ _, u, hb, hm => by unfold M at hm ⊢; exact hm
  | .bool _, u, hb, hm => by unfold M at hm ⊢; exact hm
  | .str _, u, hb, hm => by unfold M at hm ⊢; exact hm
  | .nilp, u, hb, hm => by unfold M at hm ⊢; exact hm
  | .nils, u, hb, hm => by unfold M at hm ⊢; exact hm
  | .emp _, u, hb, hm => by unfold M at hm ⊢; exact hm
  | .nilf, u, hb, hm => by unfold M at hm ⊢; exact hm
  | .nili, u, hb, hm => by unfold M at hm ⊢; exact hm
theorem low_Mc {X Y : Cx} (hw : Y.w = X.w) (him : ∀ b, X.im b → Y.im b) : ∀ (cs : List AV) (b o : Nat), belL 0 cs = true → Mc X cs b o → Mc Y cs b o
  | [], _, _, _, _ => by simp [Mc]
  | c :: cs, b, o, hb, hm => by
    simp only [belL, Bool.and_eq_true] at hb
    unfold Mc at hm ⊢
    obtain ⟨⟨u, hu, hc⟩, hs⟩ := hm
    exact ⟨⟨u, by rw [hw]; exact hu, low_M hw him c u hb.1 hc⟩, low_Mc hw him cs b (o + 1) hb.2 hs⟩
theorem low_Me {X Y : Cx} (hw : Y.w = X.w) (him : ∀ b, X.im b → Y.im b) : ∀ (es : List AV) (b o z : Nat), belL 0 es = true → Me X es b o z → Me Y es b o z
  | [], _, _, _, _, _ => by simp [Me]
  | e :: es, b, o, z, hb, hm => by
    simp only [belL, Bool.and_eq_true] at hb
    cases e with
    | agg cs =>
      unfold Me at hm ⊢
      exact ⟨⟨hm.1.1, low_Mc hw him cs b o (by simpa [AV.bel] using hb.1) hm.1.2⟩, low_Me hw him es b (o + z) z hb.2 hm.2⟩
    | _ =>
      unfold Me at hm ⊢
      obtain ⟨⟨hz, u, hu, hc⟩, hs⟩ := hm
      exact ⟨⟨hz, u, by rw [hw]; exact hu, low_M hw him _ u hb.1 hc⟩, low_Me hw him es b (o + z) z hb.2 hs⟩
theorem low_Ms {X Y : Cx} (hw : Y.w = X.w) (him : ∀ b, X.im b → Y.im b) : ∀ (cs : List AV) (vs : List Value), belL 0 cs = true → Ms X cs vs → Ms Y cs vs
  | [], _, _, hm => by unfold Ms at hm ⊢; exact hm
  | c :: cs, vs, hb, hm => by
    simp only [belL, Bool.and_eq_true] at hb
    unfold Ms at hm ⊢
    obtain ⟨u, us, hv, hc, hs⟩ := hm
    exact ⟨u, us, hv, low_M hw him c u hb.1 hc, low_Ms hw him cs us hb.2 hs⟩
end
/-- The same world, of which none of the rows is one's own. -/
def Cx.low (X : Cx) : Cx := ⟨fun b => X.F b ∨ X.wr b, fun _ => none, [], X.w⟩
theorem low_wr {X : Cx} {b : Nat} : ¬ X.low.wr b := fun ⟨l, z, hr, hi⟩ => by simp [Cx.low] at hi
theorem low_im {X : Cx} {b : Nat} (h : X.im b) : X.low.im b := ⟨⟨h.1.1, fun hf => hf.elim h.1.2 h.2⟩, low_wr⟩
theorem low_ok {G : Nat → Option (List AV)} {X : Cx} (hR : Rel G X) : Rel G X.low := by
  refine ⟨fun l z es b z' h1 h2 => by simp [Cx.low] at h2, fun l l' b z z' h1 h2 h3 h4 => by simp [Cx.low] at h3, fun g cs hg => ?_, fun l z es h => by simp [Cx.low] at h, fun b hb => ⟨?_, low_wr⟩, hR.gb⟩
  · obtain ⟨h1, h2⟩ := hR.glob g cs hg
    exact ⟨low_im h1, low_Mc (X := X) (Y := X.low) rfl (fun b => low_im) _ _ _ (hR.gb g cs hg) h2⟩
  · rcases hb with hb | hb
    · exact (hR.fb b hb).1
    · exact hR.wr_lt hb
/-- What came of it there, here. -/
theorem high_ok {G : Nat → Option (List AV)} {X Y : Cx} (hR : Rel G X) (hY : Ext X.low Y) (hH : Y.H = []) :
    Rel G ⟨X.F, X.ι, X.H, Y.w⟩ ∧ Ext X ⟨X.F, X.ι, X.H, Y.w⟩ ∧ ∀ b, Y.im b → (⟨X.F, X.ι, X.H, Y.w⟩ : Cx).im b := by
  have hold : ∀ b, b < X.w.heap.size → Y.w.heap[b]? = X.w.heap[b]? := fun b hb => hY.keep b hb low_wr
  have hcell : ∀ b j u, cellAt X.w b j = some u → cellAt Y.w b j = some u := fun b j u h => by
    have hb := lt_of_cellAt h
    unfold cellAt at h ⊢; rw [hold b hb]; exact h
  have hsize : ∀ b s, sizeAt X.w b = some s → sizeAt Y.w b = some s := fun b s h => by
    have hb := lt_of_sizeAt h
    unfold sizeAt at h ⊢; rw [hold b hb]; exact h
  have hE : Ext X ⟨X.F, X.ι, X.H, Y.w⟩ :=
    ⟨hY.size, Nat.le_refl _, fun b hb _ => hold b hb, fun b _ hw => hw, fun l t hl h => ⟨t, h, Nat.le_refl _, fun _ => ⟨fun hr => ⟨hr, fun b z hb => ⟨hb, by
      obtain ⟨z1, es1, he⟩ := isRow_some hr
      obtain ⟨_, _, _, _, s, hs, _⟩ := hR.rows l z1 es1 b z he hb
      rw [hs]; exact hsize b s hs⟩⟩, fun h => h⟩⟩, hY.tape, hY.os, hY.output, rfl⟩
  refine ⟨⟨fun l z es b z' h1 h2 => ?_, fun l l' b z z' h1 h2 h3 h4 => hR.inj l l' b z z' h1 h2 h3 h4, fun g cs hg => ?_, hR.wf, fb_keep hR hE, hR.gb⟩, hE, fun b hb => ?_⟩
  · obtain ⟨e1, e2, e3, ee, s, e4, e5, e6⟩ := hR.rows l z es b z' h1 h2
    refine ⟨e1, e2, Me_mono hE _ _ _ _ (fun j u hj => hcell b j u hj) e3, ee, s, hsize b s e4, e5, unmark_eq e6 (hold b (lt_of_sizeAt e4))⟩
  · obtain ⟨h1, h2⟩ := hR.glob g cs hg
    exact ⟨im_keep hE h1, Mc_mono hE _ _ _ (fun j u hj => hcell g j u hj) h2⟩
  · have hF : ¬ (X.F b ∨ X.wr b) := fun h => hb.1.2 (by rw [hY.for_]; exact h)
    exact ⟨⟨hb.1.1, fun h => hF (.inl h)⟩, fun h => hF (.inr h)⟩

end Go.Pm

/- Soundness, part 4: operations. -/
namespace Go.Pm
set_option linter.unusedVariables false
set_option linter.unusedSimpArgs false

def OpOk (P : Program) (G : Nat → Option (List AV)) (X : Cx) (o : Oper) (a : Act) (r : R3) : Prop :=
  ∀ (K : Act → World → Prop) (Q : Exit → Act → World → Prop),
    (∀ u X', X'.H = r.2.1 → Rel G X' → Ext X X' → EscI X.H X'.H r.2.2 → M X' r.1 u → K (a.put o.dst u) X'.w) → o.wp P a X.w K Q

def SpecR (P : Program) (G : Nat → Option (List AV)) (f : FuncId) (args : List AV) (H : List AObj) (r : R3) : Prop :=
  ∀ (X : Cx) (cargs : Array Value), X.H = H → Rel G X → Ms X args cargs.toList →
    Calls P (base f) cargs X.w fun e w' => ∃ u X', X'.w = w' ∧ e = .returned u ∧ X'.H = r.2.1 ∧ Rel G X' ∧ Ext X X' ∧ EscI X.H X'.H r.2.2 ∧ M X' r.1 u
def EnvOk (P : Program) (G : Nat → Option (List AV)) (env : Env) : Prop := ∀ f args H r, env f args H = some r → SpecR P G f args H r

section
variable {P : Program} {G : Nat → Option (List AV)} {X : Cx} {o : Oper} {a : Act}

theorem ok_same {v : AV} {u : Value} (hR : Rel G X) (hrun : (execOp a.eval o).run P X.w = .ok (.value u) X.w) (hm : M X v u) : OpOk P G X o a (v, X.H, []) := fun K Q h => by
  unfold Oper.wp
  rw [hrun]
  exact h u X rfl hR (Ext.refl X) (EscI.refl _) hm
theorem ok_to {v : AV} {u : Value} {X' : Cx} {H' : List AObj} {E : List Nat} (hrun : (execOp a.eval o).run P X.w = .ok (.value u) X'.w) (hH : X'.H = H') (hR : Rel G X') (hE : Ext X X') (hesc : EscI X.H H' E) (hm : M X' v u) :
    OpOk P G X o a (v, H', E) := fun K Q h => by
  unfold Oper.wp
  rw [hrun]
  exact h u X' hH hR hE (by rw [hH]; exact hesc) hm
theorem ok_skip {X' : Cx} {H' : List AObj} {E : List Nat} (hrun : (execOp a.eval o).run P X.w = .ok .skip X'.w) (hH : X'.H = H') (hR : Rel G X') (hE : Ext X X') (hesc : EscI X.H H' E) :
    OpOk P G X o a (.tup [], H', E) := fun K Q h => by
  unfold Oper.wp
  rw [hrun]
  exact h undef X' hH hR hE (by rw [hH]; exact hesc) (by unfold M; exact ⟨#[], rfl, by simp [Ms]⟩)

/-! ### kinds -/
theorem tk_some {t : TypeId} {ag : Bool} {s : Nat} (h : tk P t = some (ag, s)) : ∃ d i, P.underlying t = some d ∧ P.info? t = some i ∧ i.size = s ∧ (match d with | .struct _ | .array _ _ => true | _ => false) = ag ∧
    (∀ w, (isAgg t).run P w = .ok ag w) ∧ (∀ w, (sizeOf t).run P w = .ok s w) := by
  unfold tk at h
  split at h
  · rename_i d i hd hi
    injection h with h
    injection h with h1 h2
    refine ⟨d, i, hd, hi, h2, h1, fun w => ?_, fun w => ?_⟩
    · cases d <;> simp_all [isAgg, run_underlying hd]
    · simp [sizeOf, run_typeInfo _ hi, h2]
  · cases h
theorem elemT_some {t e : TypeId} (h : elemT P t = some e) : P.underlying t = some (.slice e) := by
  unfold elemT at h
  split at h
  · injection h with h; subst h; assumption
  · cases h
theorem zeroT_some {t : TypeId} {z : AV} (h : zeroT P t = some z) : ∃ i v, P.info? t = some i ∧ i.zero = some v ∧ z = ofVal v ∧ ∀ w, (zeroValue t).run P w = .ok v w := by
  unfold zeroT at h
  simp only [Option.bind_eq_some_iff, Option.map_eq_some_iff] at h
  obtain ⟨i, hi, v, hv, rfl⟩ := h
  exact ⟨i, v, hi, hv, rfl, fun w => by simp [zeroValue, run_typeInfo _ hi, hv]⟩

/-! ### cells -/
theorem one_of {v : AV} {u : Value} (h1 : v.one = true) (hm : M X v u) : u.oneCell' = true ∧ u.cells = #[u] := by
  cases v with
  | bad | agg _ | tup _ => simp [AV.one] at h1
  | ptr l tot i off => unfold M at hm; obtain ⟨⟨_, q, rfl⟩, _⟩ := hm; exact ⟨rfl, rfl⟩
  | slc l off n tot => unfold M at hm; obtain ⟨⟨_, A, m, c, rfl⟩, _⟩ := hm; exact ⟨rfl, rfl⟩
  | ip cs => unfold M at hm; obtain ⟨b, o, rfl, _⟩ := hm; exact ⟨rfl, rfl⟩
  | lst cs => unfold M at hm; obtain ⟨A, c, rfl, _⟩ := hm; exact ⟨rfl, rfl⟩
  | emp b => unfold M at hm; obtain ⟨A, c, rfl, _⟩ := hm; exact ⟨rfl, rfl⟩
  | clo f a b => unfold M at hm; obtain ⟨fv, cv, rfl, _⟩ := hm; exact ⟨rfl, rfl⟩
  | ifc t v => unfold M at hm; obtain ⟨u', rfl, _⟩ := hm; exact ⟨rfl, rfl⟩
  | _ => unfold M at hm; subst hm; exact ⟨rfl, rfl⟩
theorem one_all {vs : List AV} {us : List Value} (h1 : vs.all AV.one = true) (hm : Ms X vs us) : ∀ u ∈ us, u.oneCell' = true := fun u hu => by
  obtain ⟨i, hi, rfl⟩ := List.getElem_of_mem hu
  have hl := Ms_length hm
  obtain ⟨u', h2, h3⟩ := Ms_get hm (List.getElem?_eq_getElem (show i < vs.length by omega))
  rw [List.getElem?_eq_getElem hi] at h2
  injection h2 with h2
  rw [h2]
  exact (one_of (List.all_eq_true.1 h1 _ (List.getElem_mem _)) h3).1
/-- What is stored in cells is stored cell by cell. -/
theorem cells_of {v : AV} {u : Value} (h1 : v.cells.all AV.one = true) (hm : M X v u) : Ms X v.cells u.cells.toList := by
  cases v with
  | agg cs => unfold M at hm; obtain ⟨vs, rfl, hs⟩ := hm; exact hs
  | _ =>
    simp only [AV.cells, List.all_cons, List.all_nil, Bool.and_true] at h1 ⊢
    rw [(one_of h1 hm).2]
    unfold Ms
    exact ⟨u, [], rfl, hm, by simp [Ms]⟩

theorem heap_push (w : World) (ob : Obj) : (newObj ob).run P w = .ok w.heap.size { w with heap := w.heap.push ob } := rfl

/-- A new variable. -/
theorem new_ok {v : AV} {u : Value} {t : TypeId} {r : R3} (hR : Rel G X) (hn : newA v X.H = some r) (hm : M X v u) :
    ∃ X', (newVar t u).run P X.w = .ok ⟨X.w.heap.size, 0, none⟩ X'.w ∧ X'.H = r.2.1 ∧ Rel G X' ∧ Ext X X' ∧ EscI X.H r.2.1 r.2.2 ∧ M X' r.1 (.pointer (some ⟨X.w.heap.size, 0, none⟩)) := by
  unfold newA at hn
  split at hn
  · rename_i hc
    obtain ⟨hc0, hc1⟩ := hc
    injection hn with hn
    subst hn
    have hs := cells_of hc1 hm
    have hl : v.cells.length = u.cells.size := by simpa using Ms_length hs
    have hz : 0 < v.cells.length := List.length_pos_iff.2 hc0
    have hesc : EscI X.H (X.H ++ [.row v.cells.length [v]]) [] := fun l z es h => by
      rcases Nat.lt_or_ge l X.H.length with hlt | hge
      · rw [List.getElem?_append_left hlt] at h
        exact .inr fun m hm hp => hp z es h
      · rw [List.getElem?_append_right hge] at h
        have hl0 : l = X.H.length := by
          have := (List.getElem?_eq_some_iff.1 h).1
          simp at this; omega
        subst hl0
        simp at h
        obtain ⟨_, rfl⟩ := h
        exact .inr fun m hm' hp => by
          simp only [belL, Bool.and_true]
          exact bel_mono (Nat.le_of_lt hm') v (M_bel v u hm)
    obtain ⟨h1, h2⟩ := push_ok (c := u.cells) (el := t) (fr := (0, 0)) hR (w' := { X.w with heap := X.w.heap.push (.cells u.cells t) }) rfl rfl rfl rfl (z := v.cells.length) (es := [v]) hz
      (fun i e he => by
        cases i with
        | succ i => simp at he
        | zero =>
          simp at he
          subst he
          exact ⟨rfl, u.cells.toList, hs, fun j v' hj => by simpa using hj⟩)
      (by intro e he; simp at he; subst he; exact hc1) (by simp; omega) (.inl rfl) (H' := X.H ++ [.row v.cells.length [v]]) (l := X.H.length) (by simp) (fun k hk => by
        rcases Nat.lt_or_ge k X.H.length with hlt | hge
        · rw [List.getElem?_append_left hlt]
        · rw [List.getElem?_eq_none (by simp; omega), List.getElem?_eq_none hge]) (by simp) (fun h => absurd h (Nat.lt_irrefl _)) (E := []) hesc
    refine ⟨_, by simp [newVar, newRow], rfl, h1, h2, hesc, ?_⟩
    unfold M
    refine ⟨⟨by simp, _, rfl⟩, fun t ht => ?_, fun _ => ⟨X.w.heap.size, v.cells.length, by simp [isRow], by simp [upd], by simp⟩⟩
    simp [lenOf] at ht; omega
  · cases hn
end
end Go.Pm

/- Soundness, part 5: operations that only compute. -/
namespace Go.Pm
set_option linter.unusedVariables false
set_option linter.unusedSimpArgs false
section
variable {P : Program} {G : Nat → Option (List AV)} {X : Cx} {o : Oper} {a : Act} {T : List AV}

theorem same_some {H : List AObj} {v : Option AV} {r : R3} (h : same H v = some r) : ∃ x, v = some x ∧ r = (x, H, []) := by
  unfold same at h
  simp only [Option.map_eq_some_iff] at h
  obtain ⟨x, hx, rfl⟩ := h
  exact ⟨x, hx, rfl⟩

theorem M_int {k : IntKind} {n : Int} {u : Value} : M X (.int k n) u ↔ u = .int k n := by unfold M; rfl
theorem M_bool {b : Bool} {u : Value} : M X (.bool b) u ↔ u = .bool b := by unfold M; rfl
theorem M_str {b : ByteArray} {u : Value} : M X (.str b) u ↔ u = .string b := by unfold M; rfl
theorem M_nilp {u : Value} : M X .nilp u ↔ u = .pointer none := by unfold M; rfl
theorem M_nils {u : Value} : M X .nils u ↔ u = .slice none 0 0 := by unfold M; rfl
theorem M_nili {u : Value} : M X .nili u ↔ u = .nilIface := by unfold M; rfl
theorem M_ip {cs : List AV} {u : Value} (h : M X (.ip cs) u) : ∃ b o, u = .pointer (some ⟨b, o, none⟩) ∧ X.im b ∧ Mc X cs b o := by unfold M at h; exact h
theorem M_lst {es : List AV} {u : Value} (h : M X (.lst es) u) : ∃ A c, u = .slice A es.length c ∧ es.length ≤ c ∧ oneL es ∧ (es ≠ [] → ∃ b o z, A = some ⟨b, o, none⟩ ∧ 0 < z ∧ X.im b ∧ Me X es b o z) := by unfold M at h; exact h
theorem M_ifc {t : TypeId} {v : AV} {u : Value} (h : M X (.ifc t v) u) : ∃ p, u = .iface t p ∧ M X v p := by unfold M at h; exact h
theorem M_agg {cs : List AV} {u : Value} (h : M X (.agg cs) u) : ∃ vs, u = .agg vs ∧ Ms X cs vs.toList := by unfold M at h; exact h
theorem M_tup {cs : List AV} {u : Value} (h : M X (.tup cs) u) : ∃ vs, u = .tuple vs ∧ Ms X cs vs.toList := by unfold M at h; exact h

theorem isInt_some {t : TypeId} (h : isInt P t = true) : ∃ k, P.underlying t = some (.int k) := by
  unfold isInt at h
  split at h
  · exact ⟨_, ‹_›⟩
  · cases h
theorem run_guard {op : BinOp} {xt : TypeId} {ox oy : Operand} {p q : Value} (h1 : p ≠ .nilIface) (h2 : ∀ c, p ≠ .agg c) :
    (eqGuard op xt ox oy p q).run P X.w = .ok () X.w := by
  unfold eqGuard
  cases op <;> simp <;> (cases p <;> cases q <;> simp_all)
theorem run_guard_nil {op : BinOp} {xt : TypeId} {ox oy : Operand} {q : Value} (h1 : q = .nilIface → (isCst ox || isCst oy) = true) :
    (eqGuard op xt ox oy .nilIface q).run P X.w = .ok () X.w := by
  unfold eqGuard
  by_cases hq : q = .nilIface
  · subst hq
    have h := h1 rfl
    cases op <;> simp <;> cases ox <;> cases oy <;> simp_all [isCst]
  · cases op <;> simp <;> cases q <;> simp_all

theorem str_ok {op : BinOp} {xt : TypeId} {ox oy : Operand} {s t : ByteArray} {v : AV} {d : TypeDesc} {cmp : TypeId → Bool} {c : Bool} (h : binA op d cmp c (.str s) (.str t) = some v) :
    ∃ u, ((do eqGuard op xt ox oy (.string s) (.string t); binOp op xt (.string s) (.string t) : Sem Value)).run P X.w = .ok u X.w ∧ M X v u := by
  have hg := run_guard (P := P) (X := X) (op := op) (xt := xt) (ox := ox) (oy := oy) (p := .string s) (q := .string t) (by simp) (by simp)
  rw [Sem.run_bind, hg, Result.andThen_ok]
  have e1 : (s.toList == t.toList) = decide (bl s = bl t) := by
    unfold bl; rw [ByteArray.toList_eq, ByteArray.toList_eq, Bool.eq_iff_iff]; simp
  have e2 : bl s = s.toList := by rw [ByteArray.toList_eq]; rfl
  have e3 : bl t = t.toList := by rw [ByteArray.toList_eq]; rfl
  cases op <;> simp only [binA] at h <;> try cases h
  case add =>
    split at h
    · rename_i hl
      injection h with h; subst h
      exact ⟨_, by simp [binOp, Op.stringOp, IntKind.max, IntKind.signed, IntKind.bits]; omega, M_str.2 rfl⟩
    · cases h
  case lss => exact ⟨_, by simp only [binOp, Op.stringOp, Sem.run_pure]; rfl, M_bool.2 (by rw [e2, e3])⟩
  case geq => exact ⟨_, by simp only [binOp, Op.stringOp, Sem.run_pure]; rfl, M_bool.2 (by rw [e2, e3])⟩
  all_goals exact ⟨_, by simp only [binOp, Op.stringOp, Sem.run_pure]; rfl, M_bool.2 (by rw [e1, e2, e3])⟩
theorem int_ok {op : BinOp} {xt : TypeId} {ox oy : Operand} {k k' : IntKind} {m n : Int} {v : AV} {d : TypeDesc} {cmp : TypeId → Bool} {c : Bool} (h : binA op d cmp c (.int k m) (.int k' n) = some v) :
    ∃ u, ((do eqGuard op xt ox oy (.int k m) (.int k' n); binOp op xt (.int k m) (.int k' n) : Sem Value)).run P X.w = .ok u X.w ∧ M X v u := by
  have hg := run_guard (P := P) (X := X) (op := op) (xt := xt) (ox := ox) (oy := oy) (p := .int k m) (q := .int k' n) (by simp) (by simp)
  rw [Sem.run_bind, hg, Result.andThen_ok]
  cases op
  case shl | shr =>
    simp only [binA] at h
    split at h
    · cases h
    · rename_i hl
      injection h with h; subst h
      exact ⟨_, by simp [binOp, Op.shift, hl], M_int.2 rfl⟩
  case quo | rem =>
    simp only [binA] at h
    split at h
    · rename_i hk
      subst hk
      split at h
      · cases h
      · rename_i hl
        injection h with h; subst h
        exact ⟨_, by simp [binOp, Op.intDiv, hl], M_int.2 rfl⟩
    · cases h
  all_goals
    simp only [binA] at h
    split at h
    · rename_i hk
      subst hk
      injection h with h; subst h
      first
        | exact ⟨_, by simp [binOp, Op.intArith, Op.intBits, Op.intCmp]; rfl, M_int.2 (by simp [bitsA])⟩
        | exact ⟨_, by simp [binOp, Op.intArith, Op.intBits, Op.intCmp]; rfl, M_bool.2 (by first | rfl | (congr 1; rw [Bool.eq_iff_iff]; simp))⟩
    · cases h
theorem M_ptr {l t i f : Nat} {u : Value} (h : M X (.ptr l t i f) u) : ∃ q, u = .pointer (some q) := by unfold M at h; exact h.1.2
section
variable {n : Nat} {t : TypeId} (w : World)
theorem eq_bool {a b : Bool} (hd : P.underlying t = some .bool) : (Op.equalIn (n + 1) t (.bool a) (.bool b)).run P w = .ok (a == b) w := by
  rw [Op.equalIn]; simp [run_underlying hd]
theorem eq_int {k : IntKind} {a b : Int} {k0 : IntKind} (hd : P.underlying t = some (.int k0)) : (Op.equalIn (n + 1) t (.int k a) (.int k b)).run P w = .ok (a == b) w := by
  rw [Op.equalIn]; simp [run_underlying hd]
theorem eq_ptr0 {e : TypeId} {b : Option Addr} (hd : P.underlying t = some (.pointer e)) : (Op.equalIn (n + 1) t (.pointer none) (.pointer b)).run P w = .ok b.isNone w := by
  rw [Op.equalIn]; simp [run_underlying hd]
theorem eq_ptr1 {e : TypeId} {a : Addr} (hd : P.underlying t = some (.pointer e)) : (Op.equalIn (n + 1) t (.pointer (some a)) (.pointer none)).run P w = .ok false w := by
  rw [Op.equalIn]; simp [run_underlying hd]
theorem eq_sl0 {e : TypeId} {i j k l : Nat} {b : Option Addr} (hd : P.underlying t = some (.slice e)) : (Op.equalIn (n + 1) t (.slice none i j) (.slice b k l)).run P w = .ok b.isNone w := by
  rw [Op.equalIn]; simp [run_underlying hd]
theorem eq_sl1 {e : TypeId} {i j k l : Nat} {a : Addr} (hd : P.underlying t = some (.slice e)) : (Op.equalIn (n + 1) t (.slice (some a) i j) (.slice none k l)).run P w = .ok false w := by
  rw [Op.equalIn]; simp [run_underlying hd]
theorem eq_if0 {m} (hd : P.underlying t = some (.interface m)) : (Op.equalIn (n + 1) t .nilIface .nilIface).run P w = .ok true w := by
  rw [Op.equalIn]; simp [run_underlying hd]
theorem eq_if1 {m} {u : TypeId} {v : Value} (hd : P.underlying t = some (.interface m)) : (Op.equalIn (n + 1) t .nilIface (.iface u v)).run P w = .ok false w := by
  rw [Op.equalIn]; simp [run_underlying hd]
theorem eq_if2 {m} {u : TypeId} {v : Value} (hd : P.underlying t = some (.interface m)) : (Op.equalIn (n + 1) t (.iface u v) .nilIface).run P w = .ok false w := by
  rw [Op.equalIn]; simp [run_underlying hd]
theorem eq_if3 {m} {u u' : TypeId} {v v' : Value} (hd : P.underlying t = some (.interface m)) (hne : u ≠ u') : (Op.equalIn (n + 1) t (.iface u v) (.iface u' v')).run P w = .ok false w := by
  rw [Op.equalIn]; simp [run_underlying hd, hne]
theorem eq_if4 {m} {u : TypeId} {i : TypeInfo} {v v' : Value} (hd : P.underlying t = some (.interface m)) (hi : P.info? u = some i) (hc : i.comparable = true) :
    (Op.equalIn (n + 1) t (.iface u v) (.iface u v')).run P w = (Op.equalIn n u v v').run P w := by
  rw [Op.equalIn]; simp [run_underlying hd, run_typeInfo _ hi, hc]
end
theorem eq_ok {xt : TypeId} {d : TypeDesc} {x y : AV} {p q : Value} {r : Bool} {c : Bool} (hd : P.underlying xt = some d) (hx : M X x p) (hy : M X y q)
    (h : eqA d (cmpT P) c x y = some r) : (Op.equal xt p q).run P X.w = .ok r X.w ∧ (p = .nilIface → q = .nilIface → c = true) ∧ (∀ e, p ≠ .agg e) ∧
      (∀ k n, p ≠ .int k n) ∧ (∀ s, p ≠ .string s) ∧ (∀ k n, p ≠ .float k n) ∧ (∀ k m n, p ≠ .complex k m n) := by
  have he : Op.equal xt p q = Op.equalIn (9999 + 1) xt p q := rfl
  rw [he]
  unfold eqA at h
  split at h
  · rw [M_bool] at hx hy; subst hx; subst hy
    injection h with h
    refine ⟨by rw [eq_bool _ hd, ← h]; congr 1, ?_⟩
    simp
  · rw [M_nilp] at hx hy; subst hx; subst hy
    injection h with h; subst h
    exact ⟨by rw [eq_ptr0 _ hd]; rfl, by simp⟩
  · obtain ⟨b, o, rfl, _⟩ := M_ip hy
    rw [M_nilp] at hx; subst hx
    injection h with h; subst h
    exact ⟨by rw [eq_ptr0 _ hd]; rfl, by simp⟩
  · obtain ⟨b, o, rfl, _⟩ := M_ip hx
    rw [M_nilp] at hy; subst hy
    injection h with h; subst h
    exact ⟨by rw [eq_ptr1 _ hd], by simp⟩
  · obtain ⟨q, rfl⟩ := M_ptr hx
    rw [M_nilp] at hy; subst hy
    injection h with h; subst h
    exact ⟨by rw [eq_ptr1 _ hd], by simp⟩
  · rw [M_nils] at hx hy; subst hx; subst hy
    injection h with h; subst h
    exact ⟨by rw [eq_sl0 _ hd]; rfl, by simp⟩
  · injection h with h; subst h
    rw [M_nils] at hy; subst hy
    unfold M at hx
    obtain ⟨A, c, rfl, hb⟩ := hx
    cases A with
    | none => subst hb; exact ⟨by rw [eq_sl0 _ hd], by simp⟩
    | some a => subst hb; exact ⟨by rw [eq_sl1 _ hd]; rfl, by simp⟩
  · rename_i es
    split at h
    · cases h
    · rename_i hne
      injection h with h; subst h
      rw [M_nils] at hy; subst hy
      obtain ⟨A, c, rfl, _, _, hb⟩ := M_lst hx
      obtain ⟨b, o, z, rfl, _⟩ := hb (by simpa using hne)
      exact ⟨by rw [eq_sl1 _ hd], by simp⟩
  · rw [M_nili] at hx hy; subst hx; subst hy
    split at h
    · rename_i hc
      injection h with h; subst h
      exact ⟨by rw [eq_if0 _ hd], by simp [hc]⟩
    · cases h
  · obtain ⟨u, rfl, _⟩ := M_ifc hy
    rw [M_nili] at hx; subst hx
    injection h with h; subst h
    exact ⟨by rw [eq_if1 _ hd], by simp⟩
  · obtain ⟨u, rfl, _⟩ := M_ifc hx
    rw [M_nili] at hy; subst hy
    injection h with h; subst h
    exact ⟨by rw [eq_if2 _ hd], by simp⟩
  · obtain ⟨u, rfl, hu⟩ := M_ifc hx
    obtain ⟨u', rfl, hu'⟩ := M_ifc hy
    rw [M_int] at hu hu'; subst hu; subst hu'
    split at h
    · rename_i hs
      subst hs
      split at h
      · rename_i hc
        obtain ⟨hc, rfl⟩ := hc
        injection h with h; subst h
        unfold cmpT at hc
        rw [Bool.and_eq_true] at hc
        obtain ⟨k0, hk0⟩ := isInt_some hc.1
        have hc2 := hc.2
        cases hi : P.info? _ with
        | none => rw [hi] at hc2; simp at hc2
        | some i =>
          rw [hi] at hc2
          refine ⟨by rw [eq_if4 _ hd hi (by simpa using hc2), show (9999 : Nat) = 9998 + 1 from rfl, eq_int _ hk0]; congr 1, ?_⟩
          simp
      · cases h
    · rename_i hs
      injection h with h; subst h
      exact ⟨by rw [eq_if3 _ hd hs], by simp⟩
  · cases h
theorem bin_ok {op : BinOp} {xt : TypeId} {d : TypeDesc} {x y v : AV} {p q : Value} {ox oy : Operand} (hd : P.underlying xt = some d) (hx : M X x p) (hy : M X y q)
    (h : binA op d (cmpT P) (isCst ox || isCst oy) x y = some v) : ∃ u, ((do eqGuard op xt ox oy p q; binOp op xt p q : Sem Value)).run P X.w = .ok u X.w ∧ M X v u := by
  have h0 := h
  unfold binA at h
  split at h
  case h_1 => rw [M_int] at hx hy; subst hx; subst hy; exact int_ok h0
  case h_2 => rw [M_int] at hx hy; subst hx; subst hy; exact int_ok h0
  case h_3 => rw [M_int] at hx hy; subst hx; subst hy; exact int_ok h0
  case h_11 =>
    simp only [Option.map_eq_some_iff] at h
    obtain ⟨r, hr, rfl⟩ := h
    obtain ⟨e1, e2, e3, e4, e5, e6, e7⟩ := eq_ok hd hx hy hr
    refine ⟨.bool r, ?_, M_bool.2 rfl⟩
    have hg : (eqGuard .eql xt ox oy p q).run P X.w = .ok () X.w := by
      by_cases hp : p = .nilIface
      · subst hp; exact run_guard_nil fun hq => e2 rfl hq
      · exact run_guard hp e3
    rw [Sem.run_bind, hg, Result.andThen_ok]
    have hb : binOp .eql xt p q = (do pure (.bool (← Op.equal xt p q))) := by
      cases p <;> simp_all [binOp]
    rw [hb]
    simp [e1]
  case h_12 =>
    simp only [Option.map_eq_some_iff] at h
    obtain ⟨r, hr, rfl⟩ := h
    obtain ⟨e1, e2, e3, e4, e5, e6, e7⟩ := eq_ok hd hx hy hr
    refine ⟨.bool (!r), ?_, M_bool.2 rfl⟩
    have hg : (eqGuard .neq xt ox oy p q).run P X.w = .ok () X.w := by
      by_cases hp : p = .nilIface
      · subst hp; exact run_guard_nil fun hq => e2 rfl hq
      · exact run_guard hp e3
    rw [Sem.run_bind, hg, Result.andThen_ok]
    have hb : binOp .neq xt p q = (do pure (.bool (!(← Op.equal xt p q)))) := by
      cases p <;> simp_all [binOp]
    rw [hb]
    simp [e1]
  case h_13 => cases h
  all_goals (rw [M_str] at hx hy; subst hx; subst hy; exact str_ok h0)
end
end Go.Pm

/- Soundness, part 6: reading, addresses, slices. -/
namespace Go.Pm
set_option linter.unusedVariables false
set_option linter.unusedSimpArgs false
section
variable {P : Program} {G : Nat → Option (List AV)} {X : Cx} {o : Oper} {a : Act} {T : List AV}

theorem un_ok {op : UnOp} {x v : AV} {p : Value} (hx : M X x p) (h : unA op x = some v) : ∃ u, (Op.unary op p).run P X.w = .ok u X.w ∧ M X v u := by
  unfold unA at h
  split at h
  · rw [M_int] at hx; subst hx; injection h with h; subst h
    exact ⟨_, by simp only [Op.unary, Op.intArith, Sem.run_pure], M_int.2 rfl⟩
  · rw [M_int] at hx; subst hx; injection h with h; subst h
    exact ⟨_, by simp [Op.unary, Op.intBits]; rfl, M_int.2 (by simp [bitsA])⟩
  · rw [M_bool] at hx; subst hx; injection h with h; subst h
    exact ⟨_, by simp [Op.unary], M_bool.2 rfl⟩
  · cases h

theorem add_at (b o k : Nat) : (⟨b, o, none⟩ : Addr).add k = ⟨b, o + k, none⟩ := by unfold Addr.add; split <;> simp_all
/-- A variable is loaded, whose cells are known. -/
theorem ldv_ok {t : TypeId} {ag : Bool} {s : Nat} {cs : List AV} {v : AV} {b o : Nat} (ht : tk P t = some (ag, s)) (hc : Mc X cs b o) (h : ldv ag s cs = some v) :
    ∃ u, (loadVar t ⟨b, o, none⟩).run P X.w = .ok u X.w ∧ M X v u := by
  obtain ⟨d, i, _, _, _, _, hag, hsz⟩ := tk_some ht
  unfold ldv at h
  unfold loadVar
  simp only [Sem.run_bind, hag, Result.andThen_ok]
  cases ag with
  | true =>
    simp only [if_true] at h ⊢
    split at h
    · rename_i hs
      injection h with h; subst h
      obtain ⟨vs, hl, hm, hv⟩ := Mc_vals (Mc_take hc s)
      have hll : vs.length = s := by rw [hl]; simp; omega
      refine ⟨.agg vs.toArray, ?_, by unfold M; exact ⟨_, rfl, by simpa using hm⟩⟩
      have := run_loadCells_list (P := P) X.w ⟨b, o, none⟩ vs (fun j v hj => by rw [add_at, cell?_plain]; exact hv j v hj)
      rw [hll] at this
      simp [hsz, this]
    · cases h
  | false =>
    simp only [Bool.false_eq_true, if_false] at h ⊢
    obtain ⟨vs, hl, hm, hv⟩ := Mc_vals hc
    obtain ⟨u, hu, hmu⟩ := Ms_get hm h
    refine ⟨u, ?_, hmu⟩
    have := hv 0 u hu
    rw [run_load, cell?_plain]
    rw [Nat.add_zero] at this
    rw [this]
theorem row_elem (hR : Rel G X) {l tot i off : Nat} {p : Value} (hp : M X (.ptr l tot i off) p) {z : Nat} {es : List AV} (hl : X.H[l]? = some (.row z es)) (ht : es.length = tot) {e : AV} (he : es[i]? = some e) :
    ∃ b, p = .pointer (some ⟨b, i * z + off, none⟩) ∧ X.ι l = some (b, z) ∧ Mc X e.cells b (i * z) ∧ e.cells.length = z := by
  unfold M at hp
  obtain ⟨_, _, h3⟩ := hp
  obtain ⟨b, z', hr, hi, hv⟩ := h3 (by simp [lenOf, hl, ht])
  obtain ⟨rfl, hz, hm, _, s, hs⟩ := hR.rows l z es b z' hl hi
  obtain ⟨q1, q2⟩ := Me_get hm he
  exact ⟨b, hv, hi, by simpa using q2, q1⟩
theorem load_ok (hR : Rel G X) {t : TypeId} {ag : Bool} {s : Nat} {p : AV} {q : Value} {v : AV} (ht : tk P t = some (ag, s)) (hp : M X p q) (h : loadA ag s p X.H = some v) :
    ∃ u, (Instr.loadAt t q).run P X.w = .ok u X.w ∧ M X v u := by
  unfold loadA at h
  split at h
  · obtain ⟨b, o, rfl, hb, hc⟩ := M_ip hp
    obtain ⟨u, h1, h2⟩ := ldv_ok ht hc h
    exact ⟨u, by simp [Instr.loadAt, Instr.sureAddr, h1], h2⟩
  · split at h
    · rename_i z es hl
      split at h
      · rename_i hlen
        simp only [Option.bind_eq_some_iff] at h
        obtain ⟨e, he, h⟩ := h
        obtain ⟨b, rfl, _, hc, hcl⟩ := row_elem hR hp hl hlen he
        rename_i i off _ _
        by_cases hof : off ≤ e.cells.length
        · obtain ⟨u, h1, h2⟩ := ldv_ok ht (Mc_drop hc off hof) h
          exact ⟨u, by simp [Instr.loadAt, Instr.sureAddr, h1], h2⟩
        · rw [List.drop_of_length_le (by omega)] at h
          have : Mc X ([] : List AV) b (i * z + off) := by simp [Mc]
          obtain ⟨u, h1, h2⟩ := ldv_ok ht this h
          exact ⟨u, by simp [Instr.loadAt, Instr.sureAddr, h1], h2⟩
      · cases h
    · cases h
  · cases h

theorem off_ok {p v : AV} {q : Value} {k : Nat} (hp : M X p q) (h : offA p k = some v) : ∃ a : Addr, q = .pointer (some a) ∧ M X v (.pointer (some (a.add k))) := by
  unfold offA at h
  split at h
  · injection h with h; subst h
    rename_i cs
    obtain ⟨b, o, rfl, hb, hc⟩ := M_ip hp
    refine ⟨_, rfl, ?_⟩
    rw [add_at]
    unfold M
    refine ⟨b, o + k, rfl, hb, ?_⟩
    by_cases hk : k ≤ cs.length
    · exact Mc_drop hc k hk
    · rw [List.drop_of_length_le (by omega)]; simp [Mc]
  · injection h with h; subst h
    unfold M at hp ⊢
    obtain ⟨⟨h1, q, rfl⟩, h2, h3⟩ := hp
    refine ⟨q, rfl, ⟨h1, _, rfl⟩, h2, fun ht => ?_⟩
    obtain ⟨b, z, hr, hi, hv⟩ := h3 ht
    injection hv with hv; injection hv with hv
    subst hv
    exact ⟨b, z, hr, hi, by rw [add_at, Nat.add_assoc]⟩
  · cases h
/-- Field's address. -/
theorem fieldAddr_ok {s : TypeId} {fs : Array Field} {f : Nat} {fd : Field} {x v : AV} {q : Value} {z : Bool × Nat} (hs : P.underlying s = some (.struct fs)) (hf : fs[f]? = some fd) (hz : tk P fd.type = some z) (hz0 : 0 < z.2)
    (hx : M X x q) (h : offA x fd.offset = some v) : ∃ u, (Instr.fieldAt s q f).run P X.w = .ok u X.w ∧ M X v u := by
  obtain ⟨a, rfl, hm⟩ := off_ok hx h
  obtain ⟨d, i, _, _, _, _, _, hsz⟩ := tk_some (ag := z.1) (s := z.2) hz
  refine ⟨_, ?_, hm⟩
  simp [Instr.fieldAt, run_underlying hs, hf, Instr.sureAddr, fieldPlace, hsz, Nat.ne_of_gt hz0]
theorem part_ok {t : TypeId} {ag : Bool} {s : Nat} {cs : List AV} {vs : List Value} {off : Nat} {v : AV} (ht : tk P t = some (ag, s)) (hc : Ms X cs vs) (h : ldv ag s (cs.drop off) = some v) :
    ∃ u, (part t vs.toArray off).run P X.w = .ok u X.w ∧ M X v u := by
  obtain ⟨d, i, _, _, _, _, hag, hsz⟩ := tk_some ht
  unfold ldv at h
  unfold part
  simp only [Sem.run_bind, hag, Result.andThen_ok]
  cases ag with
  | true =>
    simp only [if_true] at h ⊢
    split at h
    · rename_i hs
      injection h with h; subst h
      refine ⟨.agg (vs.toArray.extract off (off + s)), by simp [hsz], ?_⟩
      unfold M
      refine ⟨_, rfl, ?_⟩
      have := Ms_take (Ms_drop hc off) s
      simpa [List.extract_eq_take_drop] using this
    · cases h
  | false =>
    simp only [Bool.false_eq_true, if_false] at h ⊢
    obtain ⟨u, hu, hmu⟩ := Ms_get (Ms_drop hc off) h
    refine ⟨u, ?_, hmu⟩
    have : vs[off]? = some u := by simpa [List.getElem?_drop] using hu
    simp [this]
theorem field_ok {s : TypeId} {fs : Array Field} {f : Nat} {fd : Field} {cs : List AV} {v : AV} {q : Value} {z : Bool × Nat} (hs : P.underlying s = some (.struct fs)) (hf : fs[f]? = some fd) (hz : tk P fd.type = some z)
    (hx : M X (.agg cs) q) (h : ldv z.1 z.2 (cs.drop fd.offset) = some v) : ∃ u, (Instr.field s q f).run P X.w = .ok u X.w ∧ M X v u := by
  obtain ⟨vs, rfl, hm⟩ := M_agg hx
  obtain ⟨u, h1, h2⟩ := part_ok (ag := z.1) (s := z.2) hz hm h
  refine ⟨u, ?_, h2⟩
  simpa [Instr.field, run_underlying hs, hf, asAgg] using h1

/-! ### indexing -/
theorem index_slice_ok (hR : Rel G X) {t e : TypeId} {z : Nat} {ag : Bool} {x v : AV} {i : Int} {k : IntKind} {q : Value} (ht : P.underlying t = some (.slice e)) (hz : tk P e = some (ag, z)) (hx : M X x q) (h : indexA z x i X.H = some v) :
    ∃ u, (Instr.indexAt t q (.int k i)).run P X.w = .ok u X.w ∧ M X v u := by
  obtain ⟨d, inf, _, _, _, _, hag, hsz⟩ := tk_some hz
  unfold indexA at h
  split at h
  · rename_i es
    split at h
    · rename_i h0
      simp only [Option.bind_eq_some_iff] at h
      obtain ⟨e', he, h⟩ := h
      split at h
      · rename_i hcl
        injection h with h; subst h
        obtain ⟨A, c, rfl, hc, _, hb⟩ := M_lst hx
        have hne : es ≠ [] := fun hn => by subst hn; simp at he
        obtain ⟨b, o, z', rfl, hz0, him, hme⟩ := hb hne
        obtain ⟨q1, q2⟩ := Me_get hme he
        have hzz : z' = z := q1.symm.trans hcl
        subst hzz
        have hlt : i.toNat < es.length := (List.getElem?_eq_some_iff.1 he).1
        refine ⟨.pointer (some ⟨b, o + i.toNat * z', none⟩), ?_, by unfold M; exact ⟨b, _, rfl, him, q2⟩⟩
        have hi : 0 ≤ i ∧ i < (es.length : Int) := ⟨h0, by omega⟩
        simp [Instr.indexAt, asIntOf, run_underlying ht, hi.1, hi.2, hsz, add_at]
      · cases h
    · cases h
  · rename_i l off n tot
    split at h
    · rename_i z' es hl
      split at h
      · rename_i hc
        obtain ⟨h0, h1, h2, rfl⟩ := hc
        injection h with h; subst h
        have hx' := hx
        unfold M at hx
        obtain ⟨⟨k1, _⟩, k2, k3⟩ := hx
        rcases k3 (by simp [lenOf, hl, h2]) with ⟨hv, _⟩ | ⟨hr, A, c, b, z1, s, hi, hv, a1, a2, a3, a4⟩
        · rw [hl] at hv; cases hv
        · obtain ⟨rfl, hz0, hm, _⟩ := hR.rows l z' es b z1 hl hi
          obtain ⟨hA, _⟩ := a4.resolve_left (by omega)
          subst hA; subst hv
          refine ⟨.pointer (some ⟨b, off * z1 + i.toNat * z1, none⟩), ?_, ?_⟩
          · simp [Instr.indexAt, asIntOf, run_underlying ht, h0, h1, hsz, add_at]
          · unfold M
            refine ⟨⟨k1, _, rfl⟩, k2, fun _ => ⟨b, z1, hr, hi, by rw [Nat.add_mul, Nat.add_zero]⟩⟩
      · cases h
    · cases h
  · cases h
theorem index_array_ok {t e : TypeId} {n z : Nat} {ag : Bool} {x v : AV} {i : Int} {k : IntKind} {q : Value} (ht : P.underlying t = some (.array n e)) (hz : tk P e = some (ag, z)) (hx : M X x q) (h0 : 0 ≤ i) (h1 : i < n)
    (h : offA x (i.toNat * z) = some v) : ∃ u, (Instr.indexAt t q (.int k i)).run P X.w = .ok u X.w ∧ M X v u := by
  obtain ⟨a, rfl, hm⟩ := off_ok hx h
  obtain ⟨d, inf, _, _, _, _, hag, hsz⟩ := tk_some hz
  refine ⟨_, ?_, hm⟩
  simp [Instr.indexAt, asIntOf, run_underlying ht, h0, h1, hsz, Instr.sureAddr]
theorem index_agg_ok {t e : TypeId} {n z : Nat} {ag : Bool} {cs : List AV} {v : AV} {i : Int} {k : IntKind} {q : Value} (ht : P.underlying t = some (.array n e)) (hz : tk P e = some (ag, z)) (hx : M X (.agg cs) q) (h0 : 0 ≤ i) (h1 : i < n)
    (h : ldv ag z (cs.drop (i.toNat * z)) = some v) : ∃ u, (Instr.index t q (.int k i)).run P X.w = .ok u X.w ∧ M X v u := by
  obtain ⟨vs, rfl, hm⟩ := M_agg hx
  obtain ⟨d, inf, _, _, _, _, hag, hsz⟩ := tk_some hz
  obtain ⟨u, k1, k2⟩ := part_ok hz hm h
  refine ⟨u, ?_, k2⟩
  simp only [Instr.index, asIntOf, Sem.run_bind, Sem.run_pure, Result.andThen_ok, run_underlying ht, h0, h1, and_self, if_true, hsz]
  simpa using k1
theorem index_str_ok {t : TypeId} {s : ByteArray} {v : AV} {i : Int} {k : IntKind} {q : Value} (ht : P.underlying t = some .string) (hx : M X (.str s) q) (h0 : 0 ≤ i)
    (h : (bl s)[i.toNat]?.map (fun b => AV.int .u8 b.toNat) = some v) : ∃ u, (Instr.index t q (.int k i)).run P X.w = .ok u X.w ∧ M X v u := by
  rw [M_str] at hx; subst hx
  simp only [Option.map_eq_some_iff] at h
  obtain ⟨b, hb, rfl⟩ := h
  have hs : s[i.toNat]? = some b := by
    unfold bl at hb
    rw [Array.getElem?_toList] at hb
    exact hb
  refine ⟨_, ?_, M_int.2 rfl⟩
  simp [Instr.index, asIntOf, run_underlying ht, h0, hs]
end
end Go.Pm
