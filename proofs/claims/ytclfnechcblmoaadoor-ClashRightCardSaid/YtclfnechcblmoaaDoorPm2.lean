/- The evaluator: Go's elaborated code on abstract values. -/
import Derived.Test.YtclfnechcblmoaaDoorPm1
namespace Go.Pm
set_option linter.unusedVariables false

def AV.isBad : AV → Bool
  | .bad | .tup _ => true
  | _ => false

mutual
/-- All that it refers to stands below m. -/
def AV.bel (m : Nat) : AV → Bool
  | .ptr l _ _ _ => decide (l < m)
  | .slc l _ _ _ => decide (l < m)
  | .ip cs => belL m cs
  | .lst cs => belL m cs
  | .agg cs => belL m cs
  | .tup cs => belL m cs
  | .clo _ fi ca => belL m fi && belL m ca
  | .ifc _ v => v.bel m
  | _ => true
def belL (m : Nat) : List AV → Bool
  | [] => true
  | c :: cs => c.bel m && belL m cs
end
mutual
/-- Data that nothing can change any more. -/
def AV.good : AV → Bool
  | .ptr .. | .slc .. | .nils | .emp _ | .bad => false
  | .ip cs => goodL cs
  | .lst cs => goodL cs
  | .agg cs => goodL cs
  | .tup cs => goodL cs
  | .clo _ fi ca => goodL fi && goodL ca
  | .ifc _ v => v.good
  | _ => true
def goodL : List AV → Bool
  | [] => true
  | c :: cs => c.good && goodL cs
end

mutual
/-- It refers to nothing. -/
def AV.flat : AV → Bool
  | .int _ _ | .bool _ | .str _ | .nilp | .nils | .emp _ | .nilf | .nili => true
  | .lst es => es.isEmpty
  | .agg cs => flatL cs
  | .tup cs => flatL cs
  | .ifc _ v => v.flat
  | _ => false
def flatL : List AV → Bool
  | [] => true
  | c :: cs => c.flat && flatL cs
end

def ofVal1 : Value → AV
  | .bool b => .bool b
  | .int k n => .int k n
  | .string s => .str s
  | .pointer none => .nilp
  | .slice none 0 0 => .nils
  | .nilIface => .nili
  | .nilFunc => .nilf
  | .tuple vs => if vs.size = 0 then .tup [] else .bad
  | _ => .bad
def ofVal : Value → AV
  | .agg cs => .agg (cs.toList.map ofVal1)
  | v => ofVal1 v

section types
variable (P : Program)
/-- is it a struct or an array; how many cells -/
def tk (t : TypeId) : Option (Bool × Nat) :=
  match P.underlying t, P.info? t with
  | some d, some i => some ((match d with | .struct _ | .array _ _ => true | _ => false), i.size)
  | _, _ => none
def elemT (t : TypeId) : Option TypeId :=
  match P.underlying t with
  | some (.slice e) => some e
  | _ => none
def zeroT (t : TypeId) : Option AV := (P.info? t).bind fun i => i.zero.map ofVal
def isInt (t : TypeId) : Bool := match P.underlying t with | some (.int _) => true | _ => false
end types

/-! ### what an operation does -/
def ldv (ag : Bool) (s : Nat) (cs : List AV) : Option AV :=
  if ag then (if s ≤ cs.length then some (.agg (cs.take s)) else none) else cs[0]?
def loadA (ag : Bool) (s : Nat) (p : AV) (H : List AObj) : Option AV :=
  match p with
  | .ip cs => ldv ag s cs
  | .ptr l tot i off =>
    match H[l]? with
    | some (.row _ es) => if es.length = tot then es[i]?.bind fun e => ldv ag s (e.cells.drop off) else none
    | _ => none
  | _ => none
def set1 (off : Nat) (vs : List AV) : Option AV :=
  match off, vs with
  | 0, [v] => some v
  | _, _ => none
def setC (e : AV) (off : Nat) (vs : List AV) : Option AV :=
  match e with
  | .agg cs => if off + vs.length ≤ cs.length then some (.agg (cs.take off ++ vs ++ cs.drop (off + vs.length))) else none
  | _ => set1 off vs
def escs (l : Nat) (vs : List AV) : List Nat := if belL (l + 1) vs then [] else [l]
def storeA (s : Nat) (p v : AV) (H : List AObj) : Option (List AObj × List Nat) :=
  match p with
  | .ptr l tot i off =>
    match H[l]? with
    | some (.row z es) =>
      if es.length = tot ∧ v.cells.length = s ∧ v.cells.all AV.one = true then
        es[i]?.bind fun e => (setC e off v.cells).map fun e' => (H.set l (.row z (es.set i e')), escs l v.cells)
      else none
    | _ => none
  | _ => none
def newA (v : AV) (H : List AObj) : Option (AV × List AObj × List Nat) :=
  if v.cells ≠ [] ∧ v.cells.all AV.one = true then some (.ptr H.length 1 0 0, H ++ [.row v.cells.length [v]], []) else none
def fillA (place : Nat → Option (Nat × Nat)) (cells : List AV) : List (Nat × AV) → Option (List AV)
  | [] => some cells
  | (i, v) :: rest =>
    match place i with
    | none => none
    | some (off, size) =>
      if v.cells.length = size ∧ off + size ≤ cells.length ∧ v.isBad = false then fillA place (cells.take off ++ v.cells ++ cells.drop (off + size)) rest
      else none

/-! #### integers, strings -/
def bitsA (op : BinOp) (k : IntKind) (x y : Int) : Int :=
  let a := BitVec.ofInt k.bits x
  let b := BitVec.ofInt k.bits y
  match op with
  | .and => k.wrap (a &&& b).toNat
  | .or => k.wrap (a ||| b).toNat
  | .xor => k.wrap (a ^^^ b).toNat
  | _ => k.wrap (a &&& ~~~b).toNat
def bl (s : ByteArray) : List UInt8 := s.data.toList
/-- x == y; c: is one of the two a constant -/
def eqA (t : TypeDesc) (cmp : TypeId → Bool) (c : Bool) (x y : AV) : Option Bool :=
  match t, x, y with
  | .bool, .bool a, .bool b => some (decide (a = b))
  | .pointer _, .nilp, .nilp => some true
  | .pointer _, .nilp, .ip _ => some false
  | .pointer _, .ip _, .nilp => some false
  | .pointer _, .ptr _ _ _ _, .nilp => some false
  | .slice _, .nils, .nils => some true
  | .slice _, .emp b, .nils => some b
  | .slice _, .lst es, .nils => if es.isEmpty then none else some false
  | .interface _, .nili, .nili => if c then some true else none
  | .interface _, .nili, .ifc _ _ => some false
  | .interface _, .ifc _ _, .nili => some false
  | .interface _, .ifc s (.int k a), .ifc u (.int k' b) => if s = u then (if cmp s = true ∧ k = k' then some (decide (a = b)) else none) else some false
  | _, _, _ => none
/-- x op y; cx, cy: is the operand a constant -/
def binA (op : BinOp) (t : TypeDesc) (cmp : TypeId → Bool) (c : Bool) (x y : AV) : Option AV :=
  match op, x, y with
  | .shl, .int k a, .int _ b => if b < 0 then none else some (.int k (k.wrap (a * 2 ^ (min b.toNat k.bits))))
  | .shr, .int k a, .int _ b => if b < 0 then none else some (.int k (a.fdiv (2 ^ (min b.toNat k.bits))))
  | op, .int k a, .int k' b =>
    if k = k' then
      match op with
      | .add => some (.int k (k.wrap (a + b)))
      | .sub => some (.int k (k.wrap (a - b)))
      | .mul => some (.int k (k.wrap (a * b)))
      | .quo => if b = 0 then none else some (.int k (k.wrap (a.tdiv b)))
      | .rem => if b = 0 then none else some (.int k (a.tmod b))
      | .and => some (.int k (bitsA .and k a b))
      | .or => some (.int k (bitsA .or k a b))
      | .xor => some (.int k (bitsA .xor k a b))
      | .andNot => some (.int k (bitsA .andNot k a b))
      | .eql => some (.bool (decide (a = b)))
      | .neq => some (.bool (!decide (a = b)))
      | .lss => some (.bool (decide (a < b)))
      | .leq => some (.bool (decide (a ≤ b)))
      | .gtr => some (.bool (decide (b < a)))
      | .geq => some (.bool (decide (b ≤ a)))
      | _ => none
    else none
  | .add, .str a, .str b => if a.size + b.size ≤ 9223372036854775807 then some (.str (a ++ b)) else none
  | .eql, .str a, .str b => some (.bool (decide (bl a = bl b)))
  | .neq, .str a, .str b => some (.bool (!decide (bl a = bl b)))
  | .lss, .str a, .str b => some (.bool (Op.bytesLess (bl a) (bl b)))
  | .leq, .str a, .str b => some (.bool (Op.bytesLess (bl a) (bl b) || decide (bl a = bl b)))
  | .gtr, .str a, .str b => some (.bool (!(Op.bytesLess (bl a) (bl b) || decide (bl a = bl b))))
  | .geq, .str a, .str b => some (.bool (!Op.bytesLess (bl a) (bl b)))
  | .eql, x, y => (eqA t cmp c x y).map .bool
  | .neq, x, y => (eqA t cmp c x y).map fun r => .bool (!r)
  | _, _, _ => none
def unA (op : UnOp) (x : AV) : Option AV :=
  match op, x with
  | .neg, .int k n => some (.int k (k.wrap (0 - n)))
  | .xor, .int k n => some (.int k (bitsA .xor k (if k.signed then -1 else k.max) n))
  | .not, .bool b => some (.bool (!b))
  | _, _ => none
/-! #### slices -/
def bytesA (s : ByteArray) : List AV := (bl s).map fun b => .int .u8 b.toNat
def elemsA (x : AV) (H : List AObj) : Option (List AV) :=
  match x with
  | .lst es => some es
  | .nils => some []
  | .emp _ => some []
  | .str s => some (bytesA s)
  | .slc l off n tot =>
    match H[l]? with
    | some (.row _ es) => if es.length = tot then some ((es.drop off).take n) else none
    | some .vrow => if tot = 0 then some [] else none
    | _ => none
  | _ => none
def lenA (x : AV) (H : List AObj) : Option Nat :=
  match x with
  | .lst es => some es.length
  | .nils => some 0
  | .emp _ => some 0
  | .slc l off n tot => if lenOf H l = some tot then some n else none
  | _ => none
def toBytes : List AV → Option (List UInt8)
  | [] => some []
  | .int .u8 n :: es => (toBytes es).map (UInt8.ofNat n.toNat :: ·)
  | _ => none
def cvR (x : AV) (H : List AObj) : Option AV := match x with
  | .slc l off n tot => match H[l]? with
    | some (.row _ es) => if es.length = tot ∧ 0 < n then some (.slc l off n tot) else none
    | _ => none
  | _ => none
/-- the element's address -/
def indexA (z : Nat) (x : AV) (i : Int) (H : List AObj) : Option AV :=
  match x with
  | .lst es => if 0 ≤ i then es[i.toNat]?.bind fun e => if e.cells.length = z then some (.ip e.cells) else none else none
  | .slc l off n tot =>
    match H[l]? with
    | some (.row z' es) => if 0 ≤ i ∧ i < n ∧ es.length = tot ∧ z' = z then some (.ptr l tot (off + i.toNat) 0) else none
    | _ => none
  | _ => none
def offA (p : AV) (k : Nat) : Option AV :=
  match p with
  | .ip cs => some (.ip (cs.drop k))
  | .ptr l tot i off => some (.ptr l tot i (off + k))
  | _ => none
def boundA (x : Option AV) (d : Int) : Option Int :=
  match x with
  | none => some d
  | some (.int _ h) => some h
  | _ => none
def lz (z : Nat) : List AV → Bool
  | [] => true
  | e :: _ => e.cells.length == z
/-- low, high, most -/
def cutA (z : Nat) (x : AV) (lo hi : Option AV) (mx : Option AV) (H : List AObj) : Option AV :=
  (lenA x H).bind fun n => (boundA hi n).bind fun h => (boundA lo 0).bind fun l => (boundA mx n).bind fun m =>
  if 0 ≤ l ∧ l ≤ h ∧ h ≤ m ∧ m ≤ n ∧ (mx.isSome = true → hi.isSome = true) then
    match x with
    | .lst es => if lz z es = true then some (.lst ((es.take h.toNat).drop l.toNat)) else none
    | .nils => some .nils
    | .slc r off _ tot =>
      match H[r]? with
      | some (.row z' _) => if mx.isSome = true ∨ z' ≠ z then none else some (.slc r (off + l.toNat) (h - l).toNat tot)
      | _ => none
    | _ => none
  else none
def cutS (x : AV) (lo hi : Option AV) : Option AV :=
  match x with
  | .str s => (boundA hi s.size).bind fun h => (boundA lo 0).bind fun l =>
    if 0 ≤ l ∧ l ≤ h ∧ h ≤ s.size then some (.str (s.extract l.toNat h.toNat)) else none
  | _ => none
/-- ys behind x; z cells, by_ bytes an element -/
def appendA (z by_ : Nat) (x : AV) (ys : List AV) (H : List AObj) : Option (AV × List AObj × List Nat) :=
  if ys.isEmpty then (if (lenA x H).isSome then some (x, H, []) else none)
  else if lz z ys = true ∧ 0 < z ∧ 0 < by_ ∧ by_ ≤ 1048576 then
    match x with
    | .nils => if ys.length * by_ ≤ 140737489400832 then some (.slc H.length 0 ys.length ys.length, H ++ [.row z ys], []) else none
    | .slc l off n tot =>
      if (n + ys.length) * by_ ≤ 140737489400832 then
        match H[l]? with
        | some (.row z' es) =>
          if es.length = tot ∧ off = 0 ∧ n = tot ∧ z' = z then some (.slc l 0 (n + ys.length) (tot + ys.length), H.set l (.row z (es ++ ys)), escs l ys) else none
        | some .vrow => if tot = 0 ∧ off = 0 ∧ n = 0 then some (.slc l 0 ys.length ys.length, H.set l (.row z ys), escs l ys) else none
        | _ => none
      else none
    | _ => none
  else none
def capA (x : AV) : Option AV := match x with
  | .nils => some (.int .i64 0)
  | _ => none
/-- as many zeros behind nothing -/
def appZ (z by_ : Nat) (zero x n : AV) (H : List AObj) : Option (AV × List AObj × List Nat) :=
  match x, n with
  | .nils, .int _ k =>
    if 0 < k ∧ k * by_ ≤ 140737489400832 ∧ 0 < by_ ∧ 0 < z ∧ zero.cells.length = z ∧ zero.cells.all AV.one = true then
      some (.slc H.length 0 k.toNat k.toNat, H ++ [.row z (List.replicate k.toNat zero)], [])
    else none
  | _, _ => none
def makeA (z by_ : Nat) (zero : AV) (n c : AV) (H : List AObj) : Option (AV × List AObj × List Nat) :=
  match n, c with
  | .int _ a, .int _ b =>
    if 0 ≤ a ∧ a ≤ b ∧ b * by_ ≤ 281474976710656 ∧ 0 < by_ ∧ 0 < z ∧ zero.cells.length = z ∧ zero.cells.all AV.one = true then
      some (.slc H.length 0 a.toNat a.toNat, H ++ [.row z (List.replicate a.toNat zero)], [])
    else none
  | _, _ => none
def minA : List AV → Option AV
  | [.int k a, .int _ b] => some (.int k (if b < a then b else a))
  | _ => none
def maxA : List AV → Option AV
  | [.int k a, .int _ b] => some (.int k (if b > a then b else a))
  | _ => none

/-! ### freezing: what was a row of one's own becomes data -/
mutual
def frz (H : List AObj) : AV → Option AV
  | .nils => some (.lst [])
  | .emp _ => some (.lst [])
  | .slc l off n tot =>
    match H[l]? with
    | some (.row _ es) => if es.length = tot ∧ goodL es = true then some (.lst ((es.drop off).take n)) else none
    | some .vrow => if tot = 0 then some (.lst []) else none
    | _ => none
  | .agg cs => (frzL H cs).map .agg
  | .tup cs => (frzL H cs).map .tup
  | .ifc t v => (frz H v).map (.ifc t)
  | v => some v
def frzL (H : List AObj) : List AV → Option (List AV)
  | [] => some []
  | c :: cs => (frz H c).bind fun c' => (frzL H cs).map (c' :: ·)
end
mutual
def kills : AV → List Nat
  | .slc l _ _ _ => [l]
  | .agg cs => killsL cs
  | .tup cs => killsL cs
  | .ifc _ v => kills v
  | _ => []
def killsL : List AV → List Nat
  | [] => []
  | c :: cs => kills c ++ killsL cs
end
def killAll (H : List AObj) : List Nat → List AObj
  | [] => H
  | l :: ls => killAll (H.set l .dead) ls

end Go.Pm
