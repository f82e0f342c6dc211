/- The evaluator in continuation-passing style: what a printed text of a function is equal to by mere reckoning. -/
import Derived.Test.YtclfnechcblmoaaDoorPm18
namespace Go.Pm
set_option linter.unusedVariables false
set_option linter.unusedSimpArgs false

/-! ### single operations on values -/
def pickA (c a b : AV) : Option AV := match c with | .bool t => some (if t = true then a else b) | _ => none
def nilsK {β : Type} (x : AV) (H : List AObj) (K : AV → List AObj → List Nat → Option β) : Option β := match x with
  | .nils => K (.slc H.length 0 0 0) (H ++ [.vrow]) []
  | _ => none
def newK {β : Type} (x : AV) (H : List AObj) (K : AV → List AObj → List Nat → Option β) : Option β := (newA x H).bind fun r => K r.1 r.2.1 r.2.2
def placeL (place : Nat → Option (Nat × Nat)) : List (Nat × AV) → Option (List (Nat × Nat × AV))
  | [] => some []
  | (i, v) :: rest => match place i with
    | none => none
    | some p => match placeL place rest with
      | none => none
      | some ps => some ((p.1, p.2, v) :: ps)
def fillB (cells : List AV) : List (Nat × Nat × AV) → Option (List AV)
  | [] => some cells
  | (off, size, v) :: rest =>
    if v.cells.length = size ∧ off + size ≤ cells.length ∧ v.isBad = false then fillB (cells.take off ++ v.cells ++ cells.drop (off + size)) rest else none
def litK {β : Type} (z n : Nat) (zero : AV) (ps : List (Nat × AV)) (H : List AObj) (K : AV → List AObj → List Nat → Option β) : Option β :=
  ((frzL H (ps.map (·.2))).bind fun vs => (frz H zero).bind fun zr =>
    (setS z H (List.replicate n zr) ((ps.map (·.1)).zip vs)).map fun es => (.lst es, killAll H (killsL (ps.map (·.2))), [])).bind fun (r : R3) => K r.1 r.2.1 r.2.2
def rawK {β : Type} (z n : Nat) (zero : AV) (ps : List (Nat × AV)) (H : List AObj) (K : AV → List AObj → List Nat → Option β) : Option β :=
  (setS z H (List.replicate n zero) ps).bind fun es => K (.slc H.length 0 n n) (H ++ [.row z es]) []
def stoK {β : Type} (s : Nat) (a v : AV) (H : List AObj) (K : List AObj → List Nat → Option β) : Option β := (storeA s a v H).bind fun r => K r.1 r.2
def nilA (x : AV) : Option AV := match x with
  | .ptr l tot i off => some (.ptr l tot i off)
  | .ip cs => some (.ip cs)
  | .clo f fi ca => some (.clo f fi ca)
  | _ => none
def cvI (k : IntKind) (x : AV) : Option AV := match x with | .int _ n => some (.int k (k.wrap n)) | _ => none
def cvS (x : AV) : Option AV := match x with | .str s => some (.str s) | _ => none
def cvB (x : AV) : Option AV := match x with | .str s => some (.lst (bytesA s)) | _ => none
def cvL (x : AV) (H : List AObj) : Option AV := match x with | .str _ => none | x => (elemsA x H).bind fun es => (toBytes es).map fun l => .str ⟨l.toArray⟩
def fldA (ag : Bool) (s off : Nat) (x : AV) : Option AV := match x with | .agg cs => ldv ag s (cs.drop off) | _ => none
def ixA (z : Nat) (x ix : AV) (H : List AObj) : Option AV := match ix with | .int _ i => indexA z x i H | _ => none
def arA (n s : Nat) (x ix : AV) : Option AV := match ix with | .int _ i => if 0 ≤ i ∧ i < n then offA x (i.toNat * s) else none | _ => none
def ixV (n : Nat) (ag : Bool) (s : Nat) (x ix : AV) : Option AV := match x, ix with | .agg cs, .int _ i => if 0 ≤ i ∧ i < n then ldv ag s (cs.drop (i.toNat * s)) else none | _, _ => none
def ixS (x ix : AV) : Option AV := match x, ix with | .str s, .int _ i => if 0 ≤ i then (bl s)[i.toNat]?.map fun b => .int .u8 b.toNat else none | _, _ => none
def extA (x : AV) (i : Nat) : Option AV := match x with | .tup vs => vs[i]? | _ => none
def tasA (t : TypeId) (ok : Bool) (z : Option AV) (x : AV) : Option AV := match x with
  | .ifc u v => if u = t then some (if ok then .tup [v, .bool true] else v) else if ok then z.map fun z => .tup [z, .bool false] else none
  | .nili => if ok then z.map fun z => .tup [z, .bool false] else none
  | _ => none
def mkK {β : Type} (z by_ : Nat) (zero n c : AV) (H : List AObj) (K : AV → List AObj → List Nat → Option β) : Option β := (makeA z by_ zero n c H).bind fun r => K r.1 r.2.1 r.2.2
def lenS (x : AV) : Option AV := match x with | .str s => some (.int .i64 s.size) | _ => none
def lenV (x : AV) (H : List AObj) : Option AV := (lenA x H).map fun (n : Nat) => AV.int .i64 (n : Int)
def appK {β : Type} (z by_ : Nat) (x y : AV) (H : List AObj) (K : AV → List AObj → List Nat → Option β) : Option β :=
  ((elemsA y H).bind fun ys => appendA z by_ x ys H).bind fun r => K r.1 r.2.1 r.2.2
def zapK {β : Type} (z by_ : Nat) (zero x n : AV) (H : List AObj) (K : AV → List AObj → List Nat → Option β) : Option β := (appZ z by_ zero x n H).bind fun r => K r.1 r.2.1 r.2.2
def callK {β : Type} (env : Env) (raw : Bool) (g : FuncId) (args : List AV) (H : List AObj) (K : AV → List AObj → List Nat → Option β) : Option β := (callA env raw g args H).bind fun r => K r.1 r.2.1 r.2.2
def valK {β : Type} (P : Program) (env : Env) (raw : Bool) (f : AV) (args : List AV) (H : List AObj) (K : AV → List AObj → List Nat → Option β) : Option β := match f with
  | .clo g fi ca => if okF P g = true then callK env raw g (fi ++ args ++ ca) H K else none
  | _ => none

theorem fillA_place (place : Nat → Option (Nat × Nat)) : ∀ (ps : List (Nat × AV)) (cells cs : List AV), (placeL place ps).bind (fillB cells) = some cs ↔ fillA place cells ps = some cs
  | [], cells, cs => by simp [placeL, fillB, fillA]
  | (i, v) :: rest, cells, cs => by
    simp only [placeL, fillA]
    cases hp : place i with
    | none => simp
    | some p =>
      obtain ⟨off, size⟩ := p
      simp only
      have ih := fillA_place place rest (cells.take off ++ v.cells ++ cells.drop (off + size)) cs
      cases hr : placeL place rest with
      | none =>
        rw [hr] at ih
        simp only [Option.bind_none, reduceCtorEq, false_iff] at ih ⊢
        split
        · exact ih
        · simp
      | some ps =>
        rw [hr] at ih
        simp only [Option.bind_some, fillB] at ih ⊢
        split
        · exact ih
        · simp

/-- one operation -/
def aopK {β : Type} (P : Program) (G : Nat → Option (List AV)) (env : Env) (act : Nat) (o : Oper) (T : List AV) (H : List AObj) (K : AV → List AObj → List Nat → Option β) : Option β :=
  match o.op with
  | .move x => K (evA G T x) H []
  | .assign x => match act with
    | 2 => nilsK (evA G T x) H K
    | _ => K (evA G T x) H []
  | .pick c a b => (pickA (evA G T c) (evA G T a) (evA G T b)).bind fun v => K v H []
  | .alloc t => match zeroT P t with
    | some z => match act with
      | 8 => if (!z.cells.isEmpty && z.cells.all AV.one) = true then K (.ip z.cells) H [] else none
      | _ => newK z H K
    | none => none
  | .box _ x => newK (evA G T x) H K
  | .build t parts =>
    match P.underlying t, zeroT P t with
    | some (.struct fs), some z =>
      if (fs.toList.all fun f => (tk P f.type).isSome) = true ∧ z.isBad = false then
        match placeL (fun i => (fs[i]?).bind fun f => (tk P f.type).map fun s => (f.offset, s.2)) (parts.toList.map fun p => (p.1, evA G T p.2)) with
        | some ps => (fillB z.cells ps).bind fun cs => K (.agg cs) H []
        | none => none
      else none
    | some (.array _ e), some z =>
      if z.isBad = false then
        match tk P e with
        | some s => match placeL (fun i => some (i * s.2, s.2)) (parts.toList.map fun p => (p.1, evA G T p.2)) with
          | some ps => (fillB z.cells ps).bind fun cs => K (.agg cs) H []
          | none => none
        | none => none
      else none
    | _, _ => none
  | .buildSlice t n parts =>
    match elemT P t with
    | some e => match tk P e, zeroT P e with
      | some s, some z =>
        if n * s.2 ≤ 16777216 ∧ z.cells.length = s.2 ∧ 0 < s.2 ∧ z.cells.all AV.one = true ∧ z.isBad = false then
          match act with
          | 1 => rawK s.2 n z (parts.toList.map fun p => (p.1, evA G T p.2)) H K
          | _ => litK s.2 n z (parts.toList.map fun p => (p.1, evA G T p.2)) H K
        else none
      | _, _ => none
    | none => none
  | .load t a => match tk P t with
    | some s => (loadA s.1 s.2 (evA G T a) H).bind fun v => K v H []
    | none => none
  | .store t a v => match tk P t with
    | some s => stoK s.2 (evA G T a) (evA G T v) H fun H' E' => K (.tup []) H' E'
    | none => none
  | .nilCheck x => (nilA (evA G T x)).bind fun v => K v H []
  | .binOp op xt x y _ => match P.underlying xt with
    | some d => (binA op d (cmpT P) (isCst x || isCst y) (evA G T x) (evA G T y)).bind fun v => K v H []
    | none => none
  | .unOp op _ x => (unA op (evA G T x)).bind fun v => K v H []
  | .convert src dst x =>
    match P.underlying src, P.underlying dst with
    | some (.int _), some (.int k) => (cvI k (evA G T x)).bind fun v => K v H []
    | some .string, some .string => (cvS (evA G T x)).bind fun v => K v H []
    | some .string, some (.slice e) => if isU8 P e = true then (cvB (evA G T x)).bind fun v => K v H [] else none
    | some (.slice e), some .string => if isU8 P e = true then (cvL (evA G T x) H).bind fun v => K v H [] else none
    | some (.slice _), some (.slice e) => if (src == dst) = true ∧ isU8 P e = true then (cvR (evA G T x) H).bind fun v => K v H [] else none
    | _, _ => none
  | .makeInterface t x => if isIface P t = true then none else K (.ifc t (evA G T x)) H []
  | .makeFunc (.func f) first cap => K (.clo f (first.toList.map (evA G T)) (cap.toList.map (evA G T))) H []
  | .slice t x lo hi mx =>
    match P.underlying t with
    | some (.slice e) => match tk P e with
      | some s => (cutA s.2 (evA G T x) (lo.map (evA G T)) (hi.map (evA G T)) (mx.map (evA G T)) H).bind fun v => K v H []
      | none => none
    | some .string => match mx with
      | none => (cutS (evA G T x) (lo.map (evA G T)) (hi.map (evA G T))).bind fun v => K v H []
      | some _ => none
    | _ => none
  | .fieldAddr s x f =>
    match P.underlying s with
    | some (.struct fs) => match fs[f]? with
      | some f => match tk P f.type with
        | some z => if 0 < z.2 then (offA (evA G T x) f.offset).bind fun v => K v H [] else none
        | none => none
      | none => none
    | _ => none
  | .field s x f =>
    match P.underlying s with
    | some (.struct fs) => match fs[f]? with
      | some f => match tk P f.type with
        | some z => (fldA z.1 z.2 f.offset (evA G T x)).bind fun v => K v H []
        | none => none
      | none => none
    | _ => none
  | .indexAddr t x ix =>
    match P.underlying t with
    | some (.slice e) => match tk P e with
      | some s => (ixA s.2 (evA G T x) (evA G T ix) H).bind fun v => K v H []
      | none => none
    | some (.array n e) => match tk P e with
      | some s => (arA n s.2 (evA G T x) (evA G T ix)).bind fun v => K v H []
      | none => none
    | _ => none
  | .index t x ix =>
    match P.underlying t with
    | some (.array n e) => match tk P e with
      | some s => (ixV n s.1 s.2 (evA G T x) (evA G T ix)).bind fun v => K v H []
      | none => none
    | some .string => (ixS (evA G T x) (evA G T ix)).bind fun v => K v H []
    | _ => none
  | .extract x i => (extA (evA G T x) i).bind fun v => K v H []
  | .typeAssert x _ t ok => if isIface P t = true then none else (tasA t ok (zeroT P t) (evA G T x)).bind fun v => K v H []
  | .makeSlice t n c =>
    match elemT P t with
    | some e => match tk P e, zeroT P e, P.info? e with
      | some s, some z, some i => mkK s.2 i.bytes z (evA G T n) (evA G T c) H K
      | _, _, _ => none
    | none => none
  | .call c =>
    match c.callee with
    | .builtin .len =>
      match (c.argTypes[0]?).bind P.underlying, c.args.toList with
      | some (.array n _), [_] => K (.int .i64 n) H []
      | some .string, [x] => (lenS (evA G T x)).bind fun v => K v H []
      | some (.slice _), [x] => (lenV (evA G T x) H).bind fun v => K v H []
      | _, _ => none
    | .builtin .append =>
      match c.args.toList, c.argTypes[0]?, c.argTypes[1]? with
      | [x, y], some t, some u =>
        match elemT P t with
        | some e => match tk P e, P.info? e, zeroT P e with
          | some s, some i, some z0 =>
            if noInt P u = true ∧ z0.cells.length = s.2 ∧ z0.isBad = false then appK s.2 i.bytes (evA G T x) (evA G T y) H K
            else if isInt P u = true then zapK s.2 i.bytes z0 (evA G T x) (evA G T y) H K else none
          | _, _, _ => none
        | none => none
      | _, _, _ => none
    | .builtin .cap =>
      match c.args.toList, (c.argTypes[0]?).bind P.underlying with
      | [x], some (.slice _) => (capA (evA G T x)).bind fun v => K v H []
      | _, _ => none
    | .builtin .min => (minA (c.args.toList.map (evA G T))).bind fun v => K v H []
    | .builtin .max => (maxA (c.args.toList.map (evA G T))).bind fun v => K v H []
    | .value (.func g) => if okF P g = true then callK env (act == 1) g (c.args.toList.map (evA G T)) H K else none
    | .value f => valK P env (act == 1) (evA G T f) (c.args.toList.map (evA G T)) H K
    | _ => none
  | _ => none
theorem bind_s {α β : Type} {v : Option α} {f : α → Option β} {x : β} (h : (v.bind f) = some x) : ∃ a, v = some a ∧ f a = some x := Option.bind_eq_some_iff.1 h
section
variable {β : Type} {P : Program} {G : Nat → Option (List AV)} {env : Env} {act : Nat} {o : Oper} {T : List AV} {H : List AObj} {K : AV → List AObj → List Nat → Option β}
theorem callK_some {raw : Bool} {g : FuncId} {args : List AV} {x : β} (h : callK env raw g args H K = some x) : ∃ r, callA env raw g args H = some r ∧ K r.1 r.2.1 r.2.2 = some x := bind_s h
/-- what the one finds the other finds (that is all that is needed) -/
theorem aopK_some {x : β} (h : aopK P G env act o T H K = some x) : ∃ r, aop P G env act o T H = some r ∧ K r.1 r.2.1 r.2.2 = some x := by
  cases ho : o.op
  case move y => simp only [aopK, ho] at h; exact ⟨_, by simp only [aop, ho]; rfl, h⟩
  case assign y =>
    simp only [aopK, ho] at h
    split at h
    · unfold nilsK at h
      split at h
      · rename_i hv; exact ⟨(.slc H.length 0 0 0, H ++ [.vrow], []), by simp only [aop, ho, hv, if_true], h⟩
      · cases h
    · rename_i hne; exact ⟨_, by simp only [aop, ho]; rw [if_neg hne]; rfl, h⟩
  case pick c a b =>
    simp only [aopK, ho] at h
    obtain ⟨v, h1, h2⟩ := bind_s h
    unfold pickA at h1
    split at h1
    · rename_i t hv; injection h1 with h1; subst h1; exact ⟨_, by simp only [aop, ho, hv]; rfl, h2⟩
    · cases h1
  case alloc t =>
    simp only [aopK, ho] at h
    split at h
    · rename_i z hz
      split at h
      · split at h
        · rename_i hc
          exact ⟨(.ip z.cells, H, []), by simp only [aop, ho, hz, Option.bind_some, if_true]; rw [if_pos hc], h⟩
        · cases h
      · rename_i hne
        obtain ⟨r, h1, h2⟩ := bind_s h
        exact ⟨r, by simp only [aop, ho, hz, Option.bind_some]; rw [if_neg hne]; exact h1, h2⟩
    · cases h
  case box t y =>
    simp only [aopK, ho] at h
    obtain ⟨r, h1, h2⟩ := bind_s h
    exact ⟨r, by simp only [aop, ho]; exact h1, h2⟩
  case build t ps =>
    simp only [aopK, ho] at h
    split at h
    · rename_i fs z hf hz
      split at h
      · rename_i hc
        split at h
        · rename_i ps' hp
          obtain ⟨cs, h1, h2⟩ := bind_s h
          have hfl := (fillA_place _ _ _ cs).1 (by rw [hp]; exact h1)
          exact ⟨(.agg cs, H, []), by simp only [aop, ho, hf, hz]; rw [if_pos hc, hfl]; rfl, h2⟩
        · cases h
      · cases h
    · rename_i n e z hf hz
      split at h
      · rename_i hc
        split at h
        · rename_i s hs
          split at h
          · rename_i ps' hp
            obtain ⟨cs, h1, h2⟩ := bind_s h
            have hfl := (fillA_place _ _ _ cs).1 (by rw [hp]; exact h1)
            exact ⟨(.agg cs, H, []), by simp only [aop, ho, hf, hz]; rw [if_pos hc, hs, Option.bind_some, hfl]; rfl, h2⟩
          · cases h
        · cases h
      · cases h
    · cases h
  case buildSlice t n ps =>
    simp only [aopK, ho] at h
    split at h
    · rename_i e he
      split at h
      · rename_i s z hs hz
        split at h
        · rename_i hc
          split at h
          · unfold rawK at h
            obtain ⟨es, h1, h2⟩ := bind_s h
            exact ⟨(.slc H.length 0 n n, H ++ [.row s.2 es], []), by simp only [aop, ho, he, hs, hz, Option.bind_some]; rw [if_pos hc]; simp only [if_true, h1, Option.map_some], h2⟩
          · rename_i hne
            unfold litK at h
            obtain ⟨r, h1, h2⟩ := bind_s h
            simp only [List.map_map, Function.comp_def] at h1
            exact ⟨r, by simp only [aop, ho, he, hs, hz, Option.bind_some]; rw [if_pos hc]; rw [if_neg hne]; exact h1, h2⟩
        · cases h
      · cases h
    · cases h
  case load t a =>
    simp only [aopK, ho] at h
    split at h
    · rename_i s hs
      obtain ⟨v, h1, h2⟩ := bind_s h
      exact ⟨(v, H, []), by simp only [aop, ho, hs, Option.bind_some, h1]; rfl, h2⟩
    · cases h
  case store t a v =>
    simp only [aopK, ho] at h
    split at h
    · rename_i s hs
      obtain ⟨r, h1, h2⟩ := bind_s h
      exact ⟨(.tup [], r.1, r.2), by simp only [aop, ho, hs, Option.bind_some, h1]; rfl, h2⟩
    · cases h
  case nilCheck y =>
    simp only [aopK, ho] at h
    obtain ⟨v, h1, h2⟩ := bind_s h
    refine ⟨(v, H, []), ?_, h2⟩
    simp only [aop, ho]
    unfold nilA at h1
    split at h1 <;> first | (cases h1; done) | (rename_i hv; injection h1 with h1; subst h1; simp only [hv])
  case binOp op xt y z _ =>
    simp only [aopK, ho] at h
    split at h
    · rename_i d hd
      obtain ⟨v, h1, h2⟩ := bind_s h
      exact ⟨(v, H, []), by simp only [aop, ho, hd, Option.bind_some, h1]; rfl, h2⟩
    · cases h
  case unOp op _ y =>
    simp only [aopK, ho] at h
    obtain ⟨v, h1, h2⟩ := bind_s h
    exact ⟨(v, H, []), by simp only [aop, ho, h1]; rfl, h2⟩
  case convert src dst y =>
    simp only [aopK, ho] at h
    split at h
    · rename_i k0 k e1 e2
      obtain ⟨v, h1, h2⟩ := bind_s h
      unfold cvI at h1
      split at h1
      · rename_i hv; injection h1 with h1; subst h1; exact ⟨_, by simp only [aop, ho, e1, e2, hv]; rfl, h2⟩
      · cases h1
    · rename_i e1 e2
      obtain ⟨v, h1, h2⟩ := bind_s h
      unfold cvS at h1
      split at h1
      · rename_i hv; injection h1 with h1; subst h1; exact ⟨_, by simp only [aop, ho, e1, e2, hv]; rfl, h2⟩
      · cases h1
    · rename_i e e1 e2
      split at h
      · rename_i hu
        obtain ⟨v, h1, h2⟩ := bind_s h
        unfold cvB at h1
        split at h1
        · rename_i s hv; injection h1 with h1; subst h1; exact ⟨(.lst (bytesA s), H, []), by simp only [aop, ho, e1, e2, hv]; rw [if_pos hu]; rfl, h2⟩
        · cases h1
      · cases h
    · rename_i e e1 e2
      split at h
      · rename_i hu
        obtain ⟨v, h1, h2⟩ := bind_s h
        unfold cvL at h1
        split at h1
        · cases h1
        · rename_i hv
          refine ⟨(v, H, []), ?_, h2⟩
          simp only [aop, ho, e1, e2]
          generalize evA G T y = w at hv h1
          cases w <;> first
            | exact absurd rfl (hv _)
            | (rw [if_pos hu, h1]; rfl)
      · cases h
    · rename_i e0 e e1 e2
      split at h
      · rename_i hu
        obtain ⟨v, h1, h2⟩ := bind_s h
        refine ⟨(v, H, []), ?_, h2⟩
        simp only [aop, ho, e1, e2]
        generalize evA G T y = w at h1
        cases w <;> first
          | (simp only [cvR] at h1; cases h1; done)
          | (rw [if_pos hu, h1]; rfl)
      · cases h
    · cases h
  case makeInterface t y =>
    simp only [aopK, ho] at h
    split at h
    · cases h
    · rename_i hi; exact ⟨_, by simp only [aop, ho]; rw [if_neg hi]; rfl, h⟩
  case makeFunc f a b =>
    cases f <;> simp only [aopK, ho] at h
    · exact ⟨_, by simp only [aop, ho]; rfl, h⟩
    all_goals cases h
  case slice t y lo hi mx =>
    simp only [aopK, ho] at h
    split at h
    · rename_i e he
      split at h
      · rename_i s hs
        obtain ⟨v, h1, h2⟩ := bind_s h
        exact ⟨(v, H, []), by simp only [aop, ho, he, hs, Option.bind_some, h1]; rfl, h2⟩
      · cases h
    · rename_i he
      split at h
      · obtain ⟨v, h1, h2⟩ := bind_s h
        exact ⟨(v, H, []), by simp only [aop, ho, he, h1]; rfl, h2⟩
      · cases h
    · cases h
  case fieldAddr s y f =>
    simp only [aopK, ho] at h
    split at h
    · rename_i fs hf
      split at h
      · rename_i f' hf'
        split at h
        · rename_i z hz
          split at h
          · rename_i hp
            obtain ⟨v, h1, h2⟩ := bind_s h
            exact ⟨(v, H, []), by simp only [aop, ho, hf, hf', hz, Option.bind_some, h1]; rw [if_pos hp]; rfl, h2⟩
          · cases h
        · cases h
      · cases h
    · cases h
  case field s y f =>
    simp only [aopK, ho] at h
    split at h
    · rename_i fs hf
      split at h
      · rename_i f' hf'
        split at h
        · rename_i z hz
          obtain ⟨v, h1, h2⟩ := bind_s h
          unfold fldA at h1
          split at h1
          · rename_i cs hv
            exact ⟨(v, H, []), by simp only [aop, ho, hf, hf', hz, Option.bind_some, hv, h1]; rfl, h2⟩
          · cases h1
        · cases h
      · cases h
    · cases h
  case indexAddr t y ix =>
    simp only [aopK, ho] at h
    split at h
    · rename_i e he
      split at h
      · rename_i s hs
        obtain ⟨v, h1, h2⟩ := bind_s h
        unfold ixA at h1
        split at h1
        · rename_i k i hv
          exact ⟨(v, H, []), by simp only [aop, ho, he, hv, hs, Option.bind_some, h1]; rfl, h2⟩
        · cases h1
      · cases h
    · rename_i n e he
      split at h
      · rename_i s hs
        obtain ⟨v, h1, h2⟩ := bind_s h
        unfold arA at h1
        split at h1
        · rename_i k i hv
          split at h1
          · rename_i hi
            exact ⟨(v, H, []), by simp only [aop, ho, he, hv, hs, Option.bind_some]; rw [if_pos hi, h1]; rfl, h2⟩
          · cases h1
        · cases h1
      · cases h
    · cases h
  case index t y ix =>
    simp only [aopK, ho] at h
    split at h
    · rename_i n e he
      split at h
      · rename_i s hs
        obtain ⟨v, h1, h2⟩ := bind_s h
        unfold ixV at h1
        split at h1
        · rename_i cs k i hy hv
          split at h1
          · rename_i hi
            exact ⟨(v, H, []), by simp only [aop, ho, he, hy, hv, hs, Option.bind_some]; rw [if_pos hi, h1]; rfl, h2⟩
          · cases h1
        · cases h1
      · cases h
    · rename_i he
      obtain ⟨v, h1, h2⟩ := bind_s h
      unfold ixS at h1
      split at h1
      · rename_i s k i hy hv
        split at h1
        · rename_i hi
          exact ⟨(v, H, []), by simp only [aop, ho, he, hy, hv]; rw [if_pos hi, h1]; rfl, h2⟩
        · cases h1
      · cases h1
    · cases h
  case extract y i =>
    simp only [aopK, ho] at h
    obtain ⟨v, h1, h2⟩ := bind_s h
    unfold extA at h1
    split at h1
    · rename_i vs hv
      exact ⟨(v, H, []), by simp only [aop, ho, hv, h1]; rfl, h2⟩
    · cases h1
  case typeAssert y t0 t ok =>
    simp only [aopK, ho] at h
    split at h
    · cases h
    · rename_i hi
      obtain ⟨v, h1, h2⟩ := bind_s h
      refine ⟨(v, H, []), ?_, h2⟩
      simp only [aop, ho]
      rw [if_neg hi]
      unfold tasA at h1
      split at h1
      · rename_i u w hv
        simp only [hv]
        split at h1
        · rename_i hu; rw [if_pos hu]; injection h1 with h1; subst h1; rfl
        · rename_i hu
          rw [if_neg hu]
          split at h1
          · rename_i hok
            rw [if_pos hok]
            simp only [Option.map_eq_some_iff] at h1
            obtain ⟨z, h3, rfl⟩ := h1
            rw [h3]; rfl
          · cases h1
      · rename_i hv
        simp only [hv]
        split at h1
        · rename_i hok
          rw [if_pos hok]
          simp only [Option.map_eq_some_iff] at h1
          obtain ⟨z, h3, rfl⟩ := h1
          rw [h3]; rfl
        · cases h1
      · cases h1
  case makeSlice t n c =>
    simp only [aopK, ho] at h
    split at h
    · rename_i e he
      split at h
      · rename_i s z i hs hz hi
        obtain ⟨r, h1, h2⟩ := bind_s h
        exact ⟨r, by simp only [aop, ho, he, hs, hz, hi, Option.bind_some]; exact h1, h2⟩
      · cases h
    · cases h
  case call c =>
    cases hc : c.callee with
    | value f =>
      have hv : ∀ f, c.callee = .value f → valK P env (act == 1) (evA G T f) (c.args.toList.map (evA G T)) H K = some x → ∃ r, aop P G env act o T H = some r ∧ K r.1 r.2.1 r.2.2 = some x := fun f hc h => by
        unfold valK at h
        split at h
        · rename_i g fi ca hf
          split at h
          · rename_i hok
            obtain ⟨r, h1, h2⟩ := callK_some h
            exact ⟨r, by simp only [aop, ho, hc, hf]; rw [if_pos hok]; exact h1, h2⟩
          · cases h
        · cases h
      cases f with
      | func g =>
        simp only [aopK, ho, hc] at h
        split at h
        · rename_i hok
          obtain ⟨r, h1, h2⟩ := callK_some h
          exact ⟨r, by simp only [aop, ho, hc, evA]; rw [if_pos hok]; simpa using h1, h2⟩
        · cases h
      | _ => simp only [aopK, ho, hc] at h; exact hv _ hc h
    | invoke r m => simp only [aopK, ho, hc] at h; cases h
    | builtin b =>
      cases b
      case len =>
        simp only [aopK, ho, hc] at h
        split at h
        · rename_i e1 e2; exact ⟨_, by simp only [aop, ho, hc, e1, e2]; rfl, h⟩
        · rename_i y e1 e2
          obtain ⟨v, h1, h2⟩ := bind_s h
          unfold lenS at h1
          split at h1
          · rename_i hv; injection h1 with h1; subst h1; exact ⟨_, by simp only [aop, ho, hc, e1, e2, hv]; rfl, h2⟩
          · cases h1
        · rename_i e y e1 e2
          obtain ⟨v, h1, h2⟩ := bind_s h
          unfold lenV at h1
          exact ⟨(v, H, []), by simp only [aop, ho, hc, e1, e2, h1]; rfl, h2⟩
        · cases h
      case append =>
        simp only [aopK, ho, hc] at h
        split at h
        · rename_i y z t u e1 e2 e3
          split at h
          · rename_i e he
            split at h
            · rename_i s i z0 hs hi hz
              split at h
              · rename_i hcond
                unfold appK at h
                obtain ⟨r, h1, h2⟩ := bind_s h
                exact ⟨r, by simp only [aop, ho, hc, e1, e2, e3, he, hs, hi, hz, Option.bind_some]; rw [if_pos hcond]; exact h1, h2⟩
              · rename_i hcond
                split at h
                · rename_i hint
                  unfold zapK at h
                  obtain ⟨r, h1, h2⟩ := bind_s h
                  exact ⟨r, by simp only [aop, ho, hc, e1, e2, e3, he, hs, hi, hz, Option.bind_some]; rw [if_neg hcond, if_pos hint]; exact h1, h2⟩
                · cases h
            · cases h
          · cases h
        · cases h
      case cap =>
        simp only [aopK, ho, hc] at h
        split at h
        · rename_i y e e1 e2
          obtain ⟨v, h1, h2⟩ := bind_s h
          exact ⟨(v, H, []), by simp only [aop, ho, hc, e1, e2, h1]; rfl, h2⟩
        · cases h
      case min =>
        simp only [aopK, ho, hc] at h
        obtain ⟨v, h1, h2⟩ := bind_s h
        exact ⟨(v, H, []), by simp only [aop, ho, hc, h1]; rfl, h2⟩
      case max =>
        simp only [aopK, ho, hc] at h
        obtain ⟨v, h1, h2⟩ := bind_s h
        exact ⟨(v, H, []), by simp only [aop, ho, hc, h1]; rfl, h2⟩
      all_goals (simp only [aopK, ho, hc] at h; cases h)
  all_goals (simp only [aopK, ho] at h; cases h)
end
end Go.Pm
