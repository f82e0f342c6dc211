/- The evaluator in continuation-passing style, second part: regions, code, functions. -/
import Derived.Test.YtclfnechcblmoaaDoorPm21
namespace Go.Pm
set_option linter.unusedVariables false
set_option linter.unusedSimpArgs false

def splitK {β : Type} (v : AV) (a b : Option β) : Option β := match v with
  | .bool true => a
  | .bool false => b
  | _ => none
def condK {β : Type} (v : AV) (a b : Option β) : Option β := match v with
  | .bool true => a
  | .bool false => b
  | _ => none
def condB {β : Type} (b : Bool) (x : Option β) : Option β := match b with
  | true => x
  | false => none
open Classical in
noncomputable def drawK {β : Type} (p : Prop) (x : Option β) : Option β := if p then x else none

def trmK {β : Type} (v : AV) (H : List AObj) (E : List Nat) (K : AV → List AObj → List Nat → Option β) : Option β := (trimA (v, H, E)).bind fun r => K r.1 r.2.1 r.2.2
def frzK {β : Type} (v : AV) (H : List AObj) (K : AV → List AObj → Option β) : Option β := (frz H v).bind fun v' => K v' (killAll H (kills v))
def cAt : Code → List Nat → Code
  | .seq a _, 0 :: p => cAt a p
  | .seq _ b, 1 :: p => cAt b p
  | .cond _ a _, 0 :: p => cAt a p
  | .cond _ _ b, 1 :: p => cAt b p
  | .block _ c, 0 :: p => cAt c p
  | .loop c, 0 :: p => cAt c p
  | c, _ => c
def bodyOf (f : Func) : Code := f.body.getD .skip
def opsOf1 (id : Nat) : Code → Option (Array Oper)
  | .region i ops _ => if i == id then some ops else none
  | .seq a b => (opsOf1 id a).or (opsOf1 id b)
  | .cond _ a b => (opsOf1 id a).or (opsOf1 id b)
  | .block _ c => opsOf1 id c
  | .loop c => opsOf1 id c
  | _ => none
def opsOf (f : Func) (id : Nat) : Array Oper := (opsOf1 id (bodyOf f)).getD #[]
def pat (n : Nat) : List (Nat × AV) → List AV
  | [] => List.replicate n .bad
  | (i, v) :: l => (pat n l).set i v
def clr (n : Nat) (live : List Nat) : List Nat := (List.range n).filter fun i => !live.contains i
section
variable {β : Type} (P : Program) (G : Nat → Option (List AV)) (env : Env) (h : Hint)
def aopK' (act : Nat) (o : Oper) (T : List AV) (H : List AObj) (K : AV → List AObj → List Nat → Option β) : Option β :=
  match act with
  | 3 => aopK P G env 0 o T H fun v H' E => frzK v H' fun v' H'' => K v' H'' E
  | 5 => aopK P G env 0 o T H fun v H' E => trmK v H' E K
  | act => aopK P G env act o T H K
def callD (g : FuncId) (args : List AV) (H : List AObj) : Option AV :=
  (frzL H args).bind fun as => if belL 0 as = true then (env g as []).bind fun r => if (r.2.1.isEmpty && r.2.2.isEmpty && (r.1.flat || (killsL args).isEmpty)) = true then some r.1 else none else none
def valD (f : AV) (args : List AV) (H : List AObj) : Option AV := match f with
  | .clo g fi ca => if okF P g = true then callD env g (fi ++ args ++ ca) H else none
  | _ => none
def litD (z n : Nat) (zero : AV) (ps : List (Nat × AV)) (H : List AObj) : Option AV :=
  if (killsL (ps.map (·.2))).isEmpty = true then (frzL H (ps.map (·.2))).bind fun vs => (frz H zero).bind fun zr =>
    (setS z H (List.replicate n zr) ((ps.map (·.1)).zip vs)).map fun es => .lst es else none
def aopD0 (o : Oper) (T : List AV) (H : List AObj) (K : AV → List AObj → List Nat → Option β) : Option β :=
  match o.op with
  | .call c => match c.callee with
    | .value (.func g) => if okF P g = true then (callD env g (c.args.toList.map (evA G T)) H).bind fun v => K v H [] else none
    | .value f => (valD P env (evA G T f) (c.args.toList.map (evA G T)) H).bind fun v => K v H []
    | _ => aopK P G env 0 o T H K
  | .buildSlice t n parts => match elemT P t with
    | some e => match tk P e, zeroT P e with
      | some s, some z =>
        if n * s.2 ≤ 16777216 ∧ z.cells.length = s.2 ∧ 0 < s.2 ∧ z.cells.all AV.one = true ∧ z.isBad = false then
          (litD s.2 n z (parts.toList.map fun p => (p.1, evA G T p.2)) H).bind fun v => K v H []
        else none
      | _, _ => none
    | none => none
  | _ => aopK P G env 0 o T H K

def aopD (act : Nat) (o : Oper) (T : List AV) (H : List AObj) (K : AV → List AObj → List Nat → Option β) : Option β := match act with
  | 8 => aopK P G env 8 o T H K
  | _ => aopD0 P G env o T H K
/-- does a guard look at operation i -/
def isG (ops : Array Oper) (i : Nat) : Bool := ops.toList.any fun o => match o.guard with | some (j, _) => j == i | none => false
def gK (g : Bool) (v : AV) (f : AV → Option β) : Option β := match g with
  | true => splitK v (f (.bool true)) (f (.bool false))
  | false => f v
/-- what is to be done: 0 nothing, 1 the operation -/
def wantK (ops : Array Oper) (T : List AV) (o : Oper) : Nat := match o.guard with
  | none => 1
  | some (j, want) => match (ops[j]?).bind (·.dst) with
    | none => 0
    | some d => match T[d]? with
      | some (.bool b) => match (b == want) with
        | true => 1
        | false => 0
      | some (.tup _) => 0
      | none => 0
      | _ => 2
/-- the operations of a region; dr: in any order -/
def opsK (dr : Bool) (id : Nat) (ops : Array Oper) : List Oper → Nat → St → (St → Option β) → Option β
  | [], _, s, K => K s
  | o :: os, i, s, K =>
    match wantK ops s.T o with
    | 0 => opsK dr id ops os (i + 1) ⟨putA s.T o.dst (.tup []), s.H, s.E⟩ K
    | 1 => match dr with
      | true => match isEv h id i o with
        | true => aopK' P G env (actOf h id i) o s.T s.H fun v H E => gK (isG ops i) v fun v => opsK dr id ops os (i + 1) ⟨putA s.T o.dst v, H, E ++ s.E⟩ K
        | false => aopD P G env (actOf h id i) o s.T s.H fun v H E => gK (isG ops i) v fun v => opsK dr id ops os (i + 1) ⟨putA s.T o.dst v, H, E ++ s.E⟩ K
      | false => aopK' P G env (actOf h id i) o s.T s.H fun v H E => gK (isG ops i) v fun v => opsK dr id ops os (i + 1) ⟨putA s.T o.dst v, H, E ++ s.E⟩ K
    | _ => none
/-- each of these has the same value at heap H too -/
noncomputable def againK (id : Nat) (H : List AObj) (k : Option β) : List (Nat × Oper × List AV × AV) → Option β
  | [] => k
  | p :: rest => drawK ((aopD P G env (actOf h id p.1) p.2.1 p.2.2.1 H fun v _ _ => some v) = some p.2.2.2) (againK id H k rest)
/-- it has the same value at these heaps too -/
noncomputable def beforeK (act : Nat) (o : Oper) (T : List AV) (v : AV) (k : Option β) : List (Nat × List AObj) → Option β
  | [] => k
  | p :: rest => drawK ((aopD P G env act o T p.2 fun v _ _ => some v) = some v) (beforeK act o T v k rest)
/-- the operations of a region in any order, with what is to be shown of the readings -/
noncomputable def opsR (id : Nat) (ops : Array Oper) (A : List (List Nat)) : List Oper → Nat → St → List (Nat × List AObj) → List (Nat × Oper × List AV × AV) → (St → Option β) → Option β
  | [], _, s, _, _, K => K s
  | o :: os, i, s, hs, pe, K =>
    match isEv h id i o with
    | true => match wantK ops s.T o with
      | 0 => againK P G env h id s.H (opsR id ops A os (i + 1) ⟨putA s.T o.dst (.tup []), s.H, s.E⟩ (hs ++ [(i, s.H)]) pe K) (pe.filter fun p => !(A.getD i []).contains p.1)
      | 1 => aopK' P G env (actOf h id i) o s.T s.H fun v H E => gK (isG ops i) v fun v =>
        againK P G env h id H (opsR id ops A os (i + 1) ⟨putA s.T o.dst v, H, E ++ s.E⟩ (hs ++ [(i, s.H)]) pe K) (pe.filter fun p => !(A.getD i []).contains p.1)
      | _ => none
    | false => match wantK ops s.T o with
      | 0 => opsR id ops A os (i + 1) ⟨putA s.T o.dst (.tup []), s.H, s.E⟩ hs pe K
      | 1 => aopD P G env (actOf h id i) o s.T s.H fun v H E => gK (isG ops i) v fun v => match noH o with
        | true => opsR id ops A os (i + 1) ⟨putA s.T o.dst v, H, E ++ s.E⟩ hs pe K
        | false => beforeK P G env (actOf h id i) o s.T v (opsR id ops A os (i + 1) ⟨putA s.T o.dst v, H, E ++ s.E⟩ hs (pe ++ [(i, o, s.T, v)]) K) (hs.filter fun p => !(A.getD i []).contains p.1)
      | _ => none
def drawF (id : Nat) (ops : Array Oper) : Bool := P.follows .mixedOrders && drawS h id ops && (drawQ h id ops).all fun p => p.1 == p.2
def seqK (run : St → Option β) (K : Out → Option β) : Out → Option β
  | .nrm s => run s
  | o => K o
def blkK (id : Nat) (K : Out → Option β) : Out → Option β
  | .nrm s => K (.nrm (blkA h id s))
  | .ext i s => match i == id with
    | true => K (.nrm (blkA h id s))
    | false => K (.ext i s)
  | o => K o
def rndK (k : Nat) (H0 : List AObj) (E0 : List Nat) (K : Out → Option β) : Out → Option β
  | .nrm s => match look h.loops k with
    | some ts => match h.open_.contains k with
      | true => K (.nrm ⟨clearA s.T ts, s.H, s.E ++ E0⟩)
      | false => condB ((s.E.all fun e => decide (H0.length ≤ e)) && belL H0.length (clearA s.T ts)) (K (.nrm ⟨clearA s.T ts, s.H.take H0.length, E0⟩))
    | none => K (.nrm ⟨s.T, s.H, s.E ++ E0⟩)
  | .ret r H E => K (.ret r H (E ++ E0))
  | .ext i s => K (.ext i ⟨s.T, s.H, s.E ++ E0⟩)
noncomputable def loopK (fn : Func) (c : Code) (K : Out → Option β) (s : St) : Option β :=
  (loopL (fun s => (runC P G env h fn c ⟨s.T, s.H, []⟩).bind (roundA h (firstReg c) s)) s).bind K
def resK (s : St) : List ResultVar → List AV → (List AV → Option β) → Option β
  | [], vs, K => K vs
  | .tmp t :: rs, vs, K => resK s rs (vs ++ [s.T.getD t (.tup [])]) K
  | .cell a t :: rs, vs, K => match tk P t with
    | some z => (loadA z.1 z.2 (s.T.getD a (.tup [])) s.H).bind fun v => resK s rs (vs ++ [v]) K
    | none => none
def oneR : List AV → AV
  | [v] => v
  | vs => .tup vs
def setB (T : List AV) (c : Operand) (b : Bool) : List AV := match c with
  | .tmp t => T.set t (.bool b)
  | _ => T
noncomputable def runK (fn : Func) : Code → St → (Out → Option β) → Option β
  | .skip, s, K => K (.nrm s)
  | .label _, s, K => K (.nrm s)
  | .region id ops draw, s, K => match draw with
    | true => match drawF P h id ops with
      | true => opsK P G env h true id ops ops.toList 0 s fun s' => K (.nrm s')
      | false => match P.follows .mixedOrders && drawS h id ops with
        | true => opsR P G env h id ops (ancL ops ops.size) ops.toList 0 s [] [] fun s' => K (.nrm s')
        | false => none
    | false => opsK P G env h false id ops ops.toList 0 s fun s' => K (.nrm s')
  | .seq a b, s, K => runK fn a s (seqK (fun s' => runK fn b (blkA h (seqId b) s') K) K)
  | .cond c a b, s, K => condK (evA G s.T c) (runK fn a ⟨setB s.T c true, s.H, s.E⟩ K) (runK fn b ⟨setB s.T c false, s.H, s.E⟩ K)
  | .block id c, s, K => runK fn c s (blkK h id K)
  | .loop c, s, K => loopK P G env h fn c K ⟨clearA s.T ((look h.loops (firstReg c)).getD []), s.H, s.E⟩
  | .exit id, s, K => K (.ext id s)
  | .ret, s, K => resK P s fn.results.toList [] fun vs => K (.ret (oneR vs) s.H s.E)
  | _, _, _ => none
/-- where it goes on behind a part of the text -/
noncomputable def kAt (fn : Func) : Code → List Nat → List (List AObj × List Nat) → (Out → Option β) → (Out → Option β)
  | .seq a b, 0 :: p, cx, K => kAt fn a p cx (seqK (fun s' => runK P G env h fn b (blkA h (seqId b) s') K) K)
  | .seq _ b, 1 :: p, cx, K => kAt fn b p cx K
  | .cond _ a _, 0 :: p, cx, K => kAt fn a p cx K
  | .cond _ _ b, 1 :: p, cx, K => kAt fn b p cx K
  | .block id c, 0 :: p, cx, K => kAt fn c p cx (blkK h id K)
  | .loop c, 0 :: p, (H0, E0) :: cx, K => kAt fn c p cx (rndK h (firstReg c) H0 E0 (seqK (fun s' => loopK P G env h fn c K s') K))
  | _, _, _, K => K
/-- the end of a call -/
def endB (raw keep : Bool) (n : Nat) (r : AV) (H : List AObj) (E : List Nat) : Option R3 := endA { raw := raw, keep := keep } n r H E
def endK (fn : Func) (n : Nat) : Out → Option R3
  | .nrm s => resK P s fn.results.toList [] fun vs => endB h.raw h.keep n (oneR vs) s.H s.E
  | .ret r H E => endB h.raw h.keep n r H E
  | .ext _ _ => none
noncomputable def fnK (fn : Func) (args : List AV) (H : List AObj) : Option R3 :=
  match fn.body with
  | some c => runK P G env h fn c ⟨args ++ List.replicate (fn.ntmps - args.length) (.tup []), H, []⟩ (endK P h fn H.length)
  | none => none
end

section
variable {β : Type} {P : Program} {G : Nat → Option (List AV)} {env : Env} {h : Hint}
theorem frzK_some {v : AV} {H : List AObj} {K : AV → List AObj → Option β} {x : β} (hh : frzK v H K = some x) : ∃ v', frz H v = some v' ∧ K v' (killAll H (kills v)) = some x := bind_s hh
theorem aopK'_some {act : Nat} {o : Oper} {T : List AV} {H : List AObj} {K : AV → List AObj → List Nat → Option β} {x : β} (hh : aopK' P G env act o T H K = some x) :
    ∃ r, aop' P G env act o T H = some r ∧ K r.1 r.2.1 r.2.2 = some x := by
  unfold aopK' at hh
  split at hh
  · obtain ⟨r, h1, h2⟩ := aopK_some hh
    obtain ⟨v', h3, h4⟩ := frzK_some h2
    exact ⟨(v', killAll r.2.1 (kills r.1), r.2.2), by simp only [aop', if_true, h1, Option.bind_some, h3, Option.map_some], h4⟩
  · obtain ⟨r, h1, h2⟩ := aopK_some hh
    obtain ⟨r', h3, h4⟩ := bind_s h2
    exact ⟨r', by unfold aop'; rw [if_neg (by decide), if_pos rfl, h1]; exact h3, h4⟩
  · rename_i hne hne2
    obtain ⟨r, h1, h2⟩ := aopK_some hh
    exact ⟨r, by unfold aop'; rw [if_neg hne, if_neg hne2]; exact h1, h2⟩
theorem callD_some {g : FuncId} {args : List AV} {H : List AObj} {v : AV} (hh : callD env g args H = some v) : callA env false g args H = some (v, H, []) := by
  unfold callD at hh
  obtain ⟨as, h1, h2⟩ := bind_s hh
  split at h2
  · rename_i hb
    obtain ⟨r, h3, h4⟩ := bind_s h2
    split at h4
    · rename_i he
      injection h4 with h4; subst h4
      simp only [Bool.and_eq_true, Bool.or_eq_true] at he
      unfold callA
      simp only [Bool.false_eq_true, if_false, h1, Option.bind_some, hb, if_true, h3, he.1.1, he.1.2, Bool.and_self]
      rcases he.2 with hf | hk
      · rw [if_pos hf]
      · have hk' : killsL args = [] := by simpa using hk
        rw [hk']; simp [killAll]
    · cases h4
  · cases h2
/-- an operation that reads -/
theorem aopD_some {o : Oper} {T : List AV} {H : List AObj} {K : AV → List AObj → List Nat → Option β} {x : β} {id i : Nat} (hev : isEv h id i o = false) (hh : aopD P G env (actOf h id i) o T H K = some x) :
    ∃ v, aop' P G env (actOf h id i) o T H = some (v, H, []) ∧ K v H [] = some x := by
  rcases ev_act hev with h0 | ⟨h8, t8, ho8⟩
  case inr =>
    rw [h8] at hh ⊢
    obtain ⟨r, h1, h2⟩ := aopK_some (P := P) (G := G) (env := env) (act := 8) (show aopK P G env 8 o T H K = some x from hh)
    have : r.2 = (H, []) := by
      simp only [aop, ho8, if_true, Option.bind_eq_some_iff] at h1
      obtain ⟨z, _, h1⟩ := h1
      split at h1
      · injection h1 with h1; rw [← h1]
      · cases h1
    obtain ⟨v, H', E'⟩ := r
    simp only [Prod.mk.injEq] at this
    obtain ⟨rfl, rfl⟩ := this
    exact ⟨v, by unfold aop'; rw [if_neg (by decide), if_neg (by decide)]; exact h1, h2⟩
  rw [h0] at hh ⊢
  replace hh : aopD0 P G env o T H K = some x := hh
  have hsame : ∀ {v : Option AV} {r : R3}, same H v = some r → r.2 = (H, []) := fun {v r} e => (same_noH H e).1
  have hgo : (∀ r, aop P G env 0 o T H = some r → r.2 = (H, [])) → aopK P G env 0 o T H K = some x → ∃ v, aop' P G env 0 o T H = some (v, H, []) ∧ K v H [] = some x := fun hs hk => by
    obtain ⟨r, h1, h2⟩ := aopK_some hk
    have := hs r h1
    obtain ⟨v, H', E'⟩ := r
    simp only [Prod.mk.injEq] at this
    obtain ⟨rfl, rfl⟩ := this
    exact ⟨v, by unfold aop'; rw [if_neg (by decide), if_neg (by decide)]; exact h1, h2⟩
  cases hn : noH o with
  | true =>
    have hk : aopK P G env 0 o T H K = some x := by
      unfold aopD0 at hh
      split at hh
      · rename_i c ho
        split at hh
        · rename_i g hc; simp [noH, ho, hc] at hn
        · rename_i f _ hc; simp [noH, ho, hc] at hn
        · exact hh
      · rename_i ho; simp [noH, ho] at hn
      · exact hh
    exact hgo (fun r hr => (noH_ok H hn hr).1) hk
  | false =>
    cases ho : o.op
    case buildSlice t n ps =>
      simp only [aopD0, ho] at hh
      split at hh
      · rename_i e he
        split at hh
        · rename_i s z hs hz
          split at hh
          · rename_i hc
            obtain ⟨v, h1, h2⟩ := bind_s hh
            unfold litD at h1
            split at h1
            · rename_i hk
              have hk' : killsL ((ps.toList.map fun p => (p.1, evA G T p.2)).map (·.2)) = [] := by simpa using hk
              obtain ⟨vs, h3, h4⟩ := bind_s h1
              obtain ⟨zr, h5, h6⟩ := bind_s h4
              simp only [Option.map_eq_some_iff] at h6
              obtain ⟨es, h7, rfl⟩ := h6
              simp only [List.map_map, Function.comp_def] at h3 h7 hk'
              refine ⟨_, ?_, h2⟩
              unfold aop'
              rw [if_neg (by decide), if_neg (by decide)]
              simp only [aop, ho, he, hs, hz, Option.bind_some]
              rw [if_pos hc, if_neg (by decide), h3]
              simp only [Option.bind_some, h5, h7, Option.map_some, hk', killAll]
            · cases h1
          · cases hh
        · cases hh
      · cases hh
    case call c =>
      cases hc : c.callee with
      | value f =>
        have hv : ∀ f, c.callee = .value f → ((valD P env (evA G T f) (c.args.toList.map (evA G T)) H).bind fun v => K v H []) = some x → ∃ v, aop' P G env 0 o T H = some (v, H, []) ∧ K v H [] = some x := fun f hc hk => by
          obtain ⟨v, h1, h2⟩ := bind_s hk
          unfold valD at h1
          split at h1
          · rename_i g fi ca hf
            split at h1
            · rename_i hok
              refine ⟨v, ?_, h2⟩
              unfold aop'
              rw [if_neg (by decide), if_neg (by decide)]
              simp only [aop, ho, hc, hf]
              rw [if_pos hok]
              exact callD_some h1
            · cases h1
          · cases h1
        cases f with
        | func g =>
          simp only [aopD0, ho, hc] at hh
          split at hh
          · rename_i hok
            refine hv _ hc ?_
            simp only [evA, valD]
            rw [if_pos hok]
            simpa using hh
          · cases hh
        | _ => simp only [aopD0, ho, hc] at hh; exact hv _ hc hh
      | invoke r m => simp only [aopD0, ho, hc] at hh; simp only [aopK, ho, hc] at hh; cases hh
      | builtin b =>
        simp only [aopD0, ho, hc] at hh
        refine hgo (fun r hr => ?_) hh
        cases b
        case len =>
          simp only [aop, ho, hc] at hr
          split at hr
          · exact hsame hr
          · split at hr
            · exact hsame hr
            · cases hr
          · exact hsame hr
          · cases hr
        case append => simp [isEv, ho, hc, h0] at hev
        case cap =>
          simp only [aop, ho, hc] at hr
          split at hr
          · exact hsame hr
          · cases hr
        case min => simp [noH, ho, hc] at hn
        case max => simp [noH, ho, hc] at hn
        all_goals (simp only [aop, ho, hc] at hr; cases hr)
    case load t a =>
      simp only [aopD0, ho] at hh
      refine hgo (fun r hr => ?_) hh
      simp only [aop, ho] at hr
      obtain ⟨s, _, h2⟩ := bind_s hr
      exact hsame h2
    case indexAddr t y ix =>
      simp only [aopD0, ho] at hh
      refine hgo (fun r hr => ?_) hh
      simp only [aop, ho] at hr
      split at hr
      · obtain ⟨s, _, h2⟩ := bind_s hr
        exact hsame h2
      · obtain ⟨s, _, h2⟩ := bind_s hr
        split at h2
        · exact hsame h2
        · cases h2
      · cases hr
    case slice t y lo hi mx =>
      simp only [aopD0, ho] at hh
      refine hgo (fun r hr => ?_) hh
      simp only [aop, ho] at hr
      split at hr
      · obtain ⟨s, _, h2⟩ := bind_s hr
        exact hsame h2
      · split at hr
        · cases hr
        · exact hsame hr
      · cases hr
    case convert a b y =>
      simp only [aopD0, ho] at hh
      refine hgo (fun r hr => ?_) hh
      simp only [aop, ho] at hr
      split at hr
      · exact hsame hr
      · exact hsame hr
      · split at hr
        · exact hsame hr
        · cases hr
      · cases hr
      · split at hr
        · exact hsame hr
        · cases hr
      · split at hr
        · exact hsame hr
        · cases hr
      · cases hr
    case alloc t => simp [isEv, ho, h0] at hev
    case box t y => simp [isEv, ho, h0] at hev
    case store t a v => simp [isEv, ho, h0] at hev
    case makeSlice t a v => simp [isEv, ho, h0] at hev
    all_goals first
      | (simp [noH, ho] at hn; done)
      | (simp only [aopD0, ho] at hh; simp only [aopK, ho] at hh; cases hh)
end
end Go.Pm
