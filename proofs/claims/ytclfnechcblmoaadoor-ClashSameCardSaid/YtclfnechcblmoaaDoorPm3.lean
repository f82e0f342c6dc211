/- The evaluator, second part: operations, regions, code, functions. -/
import Derived.Test.YtclfnechcblmoaaDoorPm2
namespace Go.Pm
set_option linter.unusedVariables false

abbrev R3 := AV × List AObj × List Nat
abbrev Env := FuncId → List AV → List AObj → Option R3
structure St where
  T : List AV
  H : List AObj
  E : List Nat
inductive Out where
  | nrm (s : St)
  | ret (r : AV) (H : List AObj) (E : List Nat)
  | ext (id : Nat) (s : St)

structure Hint where
  keep : Bool := false
  raw : Bool := false
  acts : List (Nat × Nat × Nat) := []
  loops : List (Nat × List Nat) := []
  blks : List (Nat × List Nat) := []
  open_ : List Nat := []
  evs : List (Nat × Nat) := []

def evA (G : Nat → Option (List AV)) (T : List AV) : Operand → AV
  | .tmp t => T.getD t (.tup [])
  | .const v => ofVal v
  | .global g => match G g with | some cs => .ip cs | none => .bad
  | .func f => .clo f [] []
def isCst : Operand → Bool
  | .const _ => true
  | _ => false
def putA (T : List AV) (d : Option Tmp) (v : AV) : List AV :=
  match d with
  | some d => T.set d v
  | none => T
def clearA (T : List AV) : List Nat → List AV
  | [] => T
  | t :: ts => clearA (T.set t .bad) ts
def wantA (ops : Array Oper) (T : List AV) (o : Oper) : Option Bool :=
  match o.guard with
  | none => some true
  | some (j, want) =>
    match (ops[j]?).bind (·.dst) with
    | none => some false
    | some d => match T[d]? with
      | none => some false
      | some (.bool b) => some (b == want)
      | some (.tup _) => some false
      | _ => none

def okF (P : Program) (g : FuncId) : Bool :=
  match P.funcs[g]? with
  | some fn => fn.body.isSome && (fn.name != "runtime.NumGoroutine")
  | none => false
def callA (env : Env) (raw : Bool) (g : FuncId) (args : List AV) (H : List AObj) : Option R3 :=
  if raw then env g args H else (frzL H args).bind fun as =>
    if belL 0 as = true then (env g as []).bind fun r => if r.2.1.isEmpty && r.2.2.isEmpty then some (r.1, if r.1.flat = true then H else killAll H (killsL args), []) else none
    else env g as (killAll H (killsL args))
def setS (z : Nat) (H : List AObj) (es : List AV) : List (Nat × AV) → Option (List AV)
  | [] => some es
  | (i, v) :: rest =>
    if v.cells.length = z ∧ i < es.length ∧ v.cells.all AV.one = true then setS z H (es.set i v) rest else none
def cmpT (P : Program) (s : TypeId) : Bool := isInt P s && (((P.info? s).map (·.comparable)).getD false)
def isU8 (P : Program) (t : TypeId) : Bool := match P.underlying t with | some (.int .u8) => true | _ => false
def noInt (P : Program) (t : TypeId) : Bool := match P.underlying t with | some (.int _) => false | none => false | _ => true
def isIface (P : Program) (t : TypeId) : Bool := match P.underlying t with | some (.interface _) => true | none => true | _ => false

def same (H : List AObj) (v : Option AV) : Option R3 := v.map fun v => (v, H, [])

def aop (P : Program) (G : Nat → Option (List AV)) (env : Env) (act : Nat) (o : Oper) (T : List AV) (H : List AObj) : Option R3 :=
  match o.op with
  | .move x => same H (some (evA G T x))
  | .assign x =>
    if act = 2 then (match evA G T x with | .nils => some (.slc H.length 0 0 0, H ++ [.vrow], []) | _ => none)
    else same H (some (evA G T x))
  | .pick c a b => match evA G T c with | .bool t => same H (some (if t = true then evA G T a else evA G T b)) | _ => none
  | .alloc t => (zeroT P t).bind fun z => if act = 8 then (if (!z.cells.isEmpty && z.cells.all AV.one) = true then some (.ip z.cells, H, []) else none) else newA z H
  | .box _ x => newA (evA G T x) H
  | .build t parts =>
    match P.underlying t, zeroT P t with
    | some (.struct fs), some z =>
      if (fs.toList.all fun f => (tk P f.type).isSome) = true ∧ z.isBad = false then
      same H ((fillA (fun i => (fs[i]?).bind fun f => (tk P f.type).map fun s => (f.offset, s.2)) z.cells (parts.toList.map fun p => (p.1, evA G T p.2))).map .agg) else none
    | some (.array _ e), some z =>
      if z.isBad = false then (tk P e).bind fun s => same H ((fillA (fun i => some (i * s.2, s.2)) z.cells (parts.toList.map fun p => (p.1, evA G T p.2))).map .agg) else none
    | _, _ => none
  | .buildSlice t n parts =>
    (elemT P t).bind fun e => (tk P e).bind fun s => (zeroT P e).bind fun z =>
    if n * s.2 ≤ 16777216 ∧ z.cells.length = s.2 ∧ 0 < s.2 ∧ z.cells.all AV.one = true ∧ z.isBad = false then
      if act = 1 then
        (setS s.2 H (List.replicate n z) (parts.toList.map fun p => (p.1, evA G T p.2))).map fun es => (.slc H.length 0 n n, H ++ [.row s.2 es], [])
      else
        (frzL H (parts.toList.map fun p => evA G T p.2)).bind fun vs => (frz H z).bind fun z =>
        (setS s.2 H (List.replicate n z) ((parts.toList.map (·.1)).zip vs)).map fun es => (.lst es, killAll H (killsL (parts.toList.map fun p => evA G T p.2)), [])
    else none
  | .load t a => (tk P t).bind fun s => same H (loadA s.1 s.2 (evA G T a) H)
  | .store t a v => (tk P t).bind fun s => (storeA s.2 (evA G T a) (evA G T v) H).map fun r => (.tup [], r.1, r.2)
  | .nilCheck x => match evA G T x with
    | .ptr l tot i off => some (.ptr l tot i off, H, [])
    | .ip cs => some (.ip cs, H, [])
    | .clo f fi ca => some (.clo f fi ca, H, [])
    | _ => none
  | .binOp op xt x y _ => (P.underlying xt).bind fun d => same H (binA op d (cmpT P) (isCst x || isCst y) (evA G T x) (evA G T y))
  | .unOp op _ x => same H (unA op (evA G T x))
  | .convert src dst x =>
    match P.underlying src, P.underlying dst, evA G T x with
    | some _, some (.int k), .int _ n => same H (some (.int k (k.wrap n)))
    | some (.string), some (.string), .str s => same H (some (.str s))
    | some (.string), some (.slice e), .str s => if isU8 P e = true then same H (some (.lst (bytesA s))) else none
    | some (.slice e), some .string, .str _ => none
    | some (.slice e), some .string, x => if isU8 P e = true then same H ((elemsA x H).bind fun es => (toBytes es).map fun l => .str ⟨l.toArray⟩) else none
    | some (.slice _), some (.slice e), x => if (src == dst) = true ∧ isU8 P e = true then same H (cvR x H) else none
    | _, _, _ => none
  | .makeInterface t x => if isIface P t = true then none else same H (some (.ifc t (evA G T x)))
  | .makeFunc (.func f) first cap => same H (some (.clo f (first.toList.map (evA G T)) (cap.toList.map (evA G T))))
  | .slice t x lo hi mx =>
    match P.underlying t with
    | some (.slice e) => (tk P e).bind fun s => same H (cutA s.2 (evA G T x) (lo.map (evA G T)) (hi.map (evA G T)) (mx.map (evA G T)) H)
    | some .string => if mx.isSome then none else same H (cutS (evA G T x) (lo.map (evA G T)) (hi.map (evA G T)))
    | _ => none
  | .fieldAddr s x f =>
    match P.underlying s with
    | some (.struct fs) => (fs[f]?).bind fun f => (tk P f.type).bind fun z => if 0 < z.2 then same H (offA (evA G T x) f.offset) else none
    | _ => none
  | .field s x f =>
    match P.underlying s, evA G T x with
    | some (.struct fs), .agg cs => (fs[f]?).bind fun f => (tk P f.type).bind fun z => same H (ldv z.1 z.2 (cs.drop f.offset))
    | _, _ => none
  | .indexAddr t x ix =>
    match P.underlying t, evA G T ix with
    | some (.slice e), .int _ i => (tk P e).bind fun s => same H (indexA s.2 (evA G T x) i H)
    | some (.array n e), .int _ i => (tk P e).bind fun s => if 0 ≤ i ∧ i < n then same H (offA (evA G T x) (i.toNat * s.2)) else none
    | _, _ => none
  | .index t x ix =>
    match P.underlying t, evA G T x, evA G T ix with
    | some (.array n e), .agg cs, .int _ i => (tk P e).bind fun s => if 0 ≤ i ∧ i < n then same H (ldv s.1 s.2 (cs.drop (i.toNat * s.2))) else none
    | some .string, .str s, .int _ i => if 0 ≤ i then same H ((bl s)[i.toNat]?.map fun b => .int .u8 b.toNat) else none
    | _, _, _ => none
  | .extract x i => match evA G T x with | .tup vs => same H vs[i]? | _ => none
  | .typeAssert x _ t ok =>
    if isIface P t = true then none else
    match evA G T x with
    | .ifc u v => if u = t then some (if ok then .tup [v, .bool true] else v, H, []) else if ok then (zeroT P t).bind fun z => some (.tup [z, .bool false], H, []) else none
    | .nili => if ok then (zeroT P t).bind fun z => some (.tup [z, .bool false], H, []) else none
    | _ => none
  | .makeSlice t n c => (elemT P t).bind fun e => (tk P e).bind fun s => (zeroT P e).bind fun z => (P.info? e).bind fun i => makeA s.2 i.bytes z (evA G T n) (evA G T c) H
  | .call c =>
    match c.callee with
    | .builtin .len =>
      match c.args.toList, (c.argTypes[0]?).bind P.underlying with
      | [_], some (.array n _) => same H (some (.int .i64 n))
      | [x], some .string => match evA G T x with | .str s => same H (some (.int .i64 s.size)) | _ => none
      | [x], some (.slice _) => same H ((lenA (evA G T x) H).map fun (n : Nat) => AV.int .i64 (n : Int))
      | _, _ => none
    | .builtin .append =>
      match c.args.toList, c.argTypes[0]?, c.argTypes[1]? with
      | [x, y], some t, some u =>
        (elemT P t).bind fun e => (tk P e).bind fun s => (P.info? e).bind fun i => (zeroT P e).bind fun z0 =>
        if noInt P u = true ∧ z0.cells.length = s.2 ∧ z0.isBad = false then
          (elemsA (evA G T y) H).bind fun ys => appendA s.2 i.bytes (evA G T x) ys H
        else if isInt P u = true then appZ s.2 i.bytes z0 (evA G T x) (evA G T y) H
        else none
      | _, _, _ => none
    | .builtin .cap =>
      match c.args.toList, (c.argTypes[0]?).bind P.underlying with
      | [x], some (.slice _) => same H (capA (evA G T x))
      | _, _ => none
    | .builtin .min => same H (minA (c.args.toList.map (evA G T)))
    | .builtin .max => same H (maxA (c.args.toList.map (evA G T)))
    | .value f =>
      match evA G T f with
      | .clo g fi ca => if okF P g = true then callA env (act == 1) g (fi ++ c.args.toList.map (evA G T) ++ ca) H else none
      | _ => none
    | _ => none
  | _ => none
/-- the beginning of a row becomes a row of its own; the row is let go -/
def trimA (r : R3) : Option R3 :=
  match r.1 with
  | .slc l 0 k tot => match r.2.1[l]? with
    | some (.row z es) => if es.length = tot ∧ k ≤ tot then some (.slc r.2.1.length 0 k k, (r.2.1.set l .dead) ++ [.row z (es.take k)], r.2.2) else none
    | _ => none
  | _ => none
/-- with what a hint asks for behind it -/
def aop' (P : Program) (G : Nat → Option (List AV)) (env : Env) (act : Nat) (o : Oper) (T : List AV) (H : List AObj) : Option R3 :=
  if act = 3 then (aop P G env 0 o T H).bind fun r => (frz r.2.1 r.1).map fun v => (v, killAll r.2.1 (kills r.1), r.2.2)
  else if act = 5 then (aop P G env 0 o T H).bind trimA
  else aop P G env act o T H

def actOf (h : Hint) (id i : Nat) : Nat := ((h.acts.find? fun a => a.1 == id && a.2.1 == i).map (·.2.2)).getD 0

def opA (P : Program) (G : Nat → Option (List AV)) (env : Env) (h : Hint) (id : Nat) (ops : Array Oper) (i : Nat) (o : Oper) (s : St) : Option St :=
  match wantA ops s.T o with
  | some true => (aop' P G env (actOf h id i) o s.T s.H).map fun r => ⟨putA s.T o.dst r.1, r.2.1, r.2.2 ++ s.E⟩
  | some false => some ⟨putA s.T o.dst (.tup []), s.H, s.E⟩
  | none => none
def opsA (P : Program) (G : Nat → Option (List AV)) (env : Env) (h : Hint) (id : Nat) (ops : Array Oper) : List Oper → Nat → St → Option St
  | [], _, s => some s
  | o :: os, i, s => (opA P G env h id ops i o s).bind fun s' => opsA P G env h id ops os (i + 1) s'

/-! ### regions whose operations come in any order -/
/-- what an operation yields -/
def valA (P : Program) (G : Nat → Option (List AV)) (env : Env) (h : Hint) (id : Nat) (ops : Array Oper) (i : Nat) (o : Oper) (T : List AV) (H : List AObj) : Option R3 :=
  match wantA ops T o with
  | some true => aop' P G env (actOf h id i) o T H
  | some false => some (.tup [], H, [])
  | none => none
/-- the state ahead of operation i, in the text's order -/
def stA (P : Program) (G : Nat → Option (List AV)) (env : Env) (h : Hint) (id : Nat) (ops : Array Oper) (s : St) (i : Nat) : Option St := opsA P G env h id ops (ops.toList.take i) 0 s
/-- what it binds itself to -/
def bnd (ops : Array Oper) (i : Nat) : List Nat := match ops[i]? with
  | some o => (o.after.toList.filter (Region.binds .any ·)).map (·.on)
  | none => []
def insN (a : Nat) (l : List Nat) : List Nat := if l.contains a then l else a :: l
def uniN (a b : List Nat) : List Nat := a.foldr insN b
/-- all that stands ahead of each -/
def ancL (ops : Array Oper) : Nat → List (List Nat)
  | 0 => []
  | n + 1 => ancL ops n ++ [(bnd ops n).foldr (fun j acc => uniN (j :: (ancL ops n).getD j []) acc) []]
/-- it may change the heap -/
def isEv (h : Hint) (id i : Nat) (o : Oper) : Bool :=
  h.evs.contains (id, i) || match actOf h id i with
    | 0 => (match o.op with
      | .alloc _ | .box _ _ | .makeSlice _ _ _ | .store _ _ _ => true
      | .call c => (match c.callee with | .builtin .append => true | _ => false)
      | _ => false)
    | 8 => (match o.op with | .alloc _ => false | _ => true)
    | _ => true
/-- it looks at no heap -/
def noH (o : Oper) : Bool :=
  match o.op with
  | .move _ | .assign _ | .pick _ _ _ | .build _ _ | .binOp _ _ _ _ _ | .unOp _ _ _ | .fieldAddr _ _ _ | .field _ _ _ | .makeInterface _ _ | .makeFunc _ _ _ | .index _ _ _ | .extract _ _ | .typeAssert _ _ _ _ | .nilCheck _ => true
  | .call c => (match c.callee with | .builtin .min => true | .builtin .max => true | _ => false)
  | _ => false
def evL (h : Hint) (id : Nat) (ops : Array Oper) : List Nat := (List.range ops.size).filter fun i => match ops[i]? with | some o => isEv h id i o | none => false
def drawS (h : Hint) (id : Nat) (ops : Array Oper) : Bool :=
  let A := ancL ops ops.size
  (List.range ops.size).all fun j =>
    ((bnd ops j).all fun i => decide (i < j)) &&
    (List.range j).all fun i => (A.getD j []).contains i || match ops[i]?, ops[j]? with
      | some x, some y => x.apart ops y && !(isEv h id i x && isEv h id j y)
      | _, _ => true
/-- where each reading operation must have its value too -/
def drawQ (h : Hint) (id : Nat) (ops : Array Oper) : List (Nat × Nat) :=
  let A := ancL ops ops.size
  (List.range ops.size).flatMap fun i => match ops[i]? with
    | some o => if isEv h id i o || noH o then [] else
      (i, i) :: (evL h id ops).filterMap fun e => if e < i then (if (A.getD i []).contains e then none else some (i, e)) else (if (A.getD e []).contains i then none else some (i, e + 1))
    | none => []
def DrawAt (P : Program) (G : Nat → Option (List AV)) (env : Env) (h : Hint) (id : Nat) (ops : Array Oper) (s : St) (p : Nat × Nat) : Prop :=
  ∃ o si sj r, ops[p.1]? = some o ∧ stA P G env h id ops s p.1 = some si ∧ stA P G env h id ops s p.2 = some sj ∧
    valA P G env h id ops p.1 o si.T si.H = some (r, si.H, []) ∧ valA P G env h id ops p.1 o si.T sj.H = some (r, sj.H, [])
def DrawOk (P : Program) (G : Nat → Option (List AV)) (env : Env) (h : Hint) (id : Nat) (ops : Array Oper) (s : St) : Prop :=
  P.follows .mixedOrders = true ∧ drawS h id ops = true ∧ ∀ p ∈ drawQ h id ops, DrawAt P G env h id ops s p

open Classical in
noncomputable def lim {α : Type} (f : Nat → Option α) : Option α :=
  if h : ∃ n, (f n).isSome then f h.choose else none
def loopN (F : St → Option Out) : Nat → St → Option Out
  | 0, _ => none
  | n + 1, s => (F s).bind fun o => match o with
    | .nrm s' => loopN F n s'
    | o => some o
noncomputable def loopL (F : St → Option Out) (s : St) : Option Out := lim fun n => loopN F n s

def firstReg : Code → Nat
  | .region id _ _ => id
  | .seq a _ => firstReg a
  | .block _ c => firstReg c
  | .loop c => firstReg c
  | _ => 0
/-- the place behind which the second part of a sequence begins -/
def seqId (b : Code) : Nat := 1000000 + firstReg b
def look (l : List (Nat × List Nat)) (k : Nat) : Option (List Nat) := (l.find? fun p => p.1 == k).map (·.2)
/-- the end of a round: what was made in it is let go -/
def roundA (h : Hint) (k : Nat) (s : St) (o : Out) : Option Out :=
  match o with
  | .nrm s' =>
    match look h.loops k with
    | some ts =>
      if h.open_.contains k then some (.nrm ⟨clearA s'.T ts, s'.H, s'.E ++ s.E⟩)
      else if belL s.H.length (clearA s'.T ts) = true ∧ (s'.E.all fun e => decide (s.H.length ≤ e)) = true then some (.nrm ⟨clearA s'.T ts, s'.H.take s.H.length, s.E⟩)
      else none
    | none => some (.nrm ⟨s'.T, s'.H, s'.E ++ s.E⟩)
  | .ret r H E => some (.ret r H (E ++ s.E))
  | .ext i s' => some (.ext i ⟨s'.T, s'.H, s'.E ++ s.E⟩)
def blkA (h : Hint) (id : Nat) (s : St) : St :=
  match look h.blks id with
  | some ts => ⟨clearA s.T ts, s.H, s.E⟩
  | none => s
def resA1 (P : Program) (s : St) : ResultVar → Option AV
  | .tmp t => some (s.T.getD t (.tup []))
  | .cell a t => (tk P t).bind fun z => loadA z.1 z.2 (s.T.getD a (.tup [])) s.H
def resA (P : Program) (fn : Func) (s : St) : Option AV :=
  (fn.results.toList.mapM (resA1 P s)).map fun vs => match vs with
    | [v] => v
    | vs => .tup vs

open Classical in
noncomputable def runC (P : Program) (G : Nat → Option (List AV)) (env : Env) (h : Hint) (fn : Func) : Code → St → Option Out
  | .skip, s => some (.nrm s)
  | .label _, s => some (.nrm s)
  | .region id ops draw, s => (opsA P G env h id ops ops.toList 0 s).bind fun s' => if draw then (if DrawOk P G env h id ops s then some (.nrm s') else none) else some (.nrm s')
  | .seq a b, s => (runC P G env h fn a s).bind fun o => match o with
    | .nrm s' => runC P G env h fn b (blkA h (seqId b) s')
    | o => some o
  | .cond c a b, s => match evA G s.T c with
    | .bool t => if t = true then runC P G env h fn a s else runC P G env h fn b s
    | _ => none
  | .block id c, s => (runC P G env h fn c s).bind fun o => match o with
    | .nrm s' => some (.nrm (blkA h id s'))
    | .ext i s' => if i = id then some (.nrm (blkA h id s')) else some (.ext i s')
    | o => some o
  | .loop c, s => loopL (fun s => (runC P G env h fn c ⟨s.T, s.H, []⟩).bind (roundA h (firstReg c) s)) ⟨clearA s.T ((look h.loops (firstReg c)).getD []), s.H, s.E⟩
  | .exit id, s => some (.ext id s)
  | .ret, s => (resA P fn s).map fun r => .ret r s.H s.E
  | _, _ => none

/-- the end of a call -/
def endA (h : Hint) (n : Nat) (r : AV) (H : List AObj) (E : List Nat) : Option R3 :=
  (if h.raw then some (r, H) else (frz H r).map fun r' => (r', killAll H (kills r))).bind fun p =>
  if h.keep then some (p.1, p.2, E)
  else if p.1.bel n = true ∧ (E.all fun e => decide (n ≤ e)) = true then some (p.1, p.2.take n, []) else none
noncomputable def fnA (P : Program) (G : Nat → Option (List AV)) (env : Env) (h : Hint) (fn : Func) (args : List AV) (H : List AObj) : Option R3 :=
  match fn.body with
  | none => none
  | some c =>
    (runC P G env h fn c ⟨args ++ List.replicate (fn.ntmps - args.length) (.tup []), H, []⟩).bind fun o => match o with
      | .nrm s => (resA P fn s).bind fun r => endA h H.length r s.H s.E
      | .ret r H' E => endA h H.length r H' E
      | .ext _ _ => none

structure Cfg where
  P : Program
  G : Nat → Option (List AV)
  I : FuncId → Option (List AV → List AObj → Option R3)
  hint : FuncId → Hint
noncomputable def evN (C : Cfg) : Nat → Env
  | 0 => fun _ _ _ => none
  | k + 1 => fun f a H => match C.I f with
    | some F => F a H
    | none => match C.P.funcs[f]? with
      | some fn => fnA C.P C.G (evN C k) (C.hint f) fn a H
      | none => none
noncomputable def EV (C : Cfg) : Env := fun f a H => lim fun k => evN C k f a H

end Go.Pm
