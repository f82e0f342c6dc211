/- A part of the proof: what the functions of the program answer, as plain lists and numbers. -/
import Derived.Below
import Derived.Test.YtaoklfecdcakbaaDoorP5
namespace Go.Pm
set_option linter.unusedVariables false
/-- one's own bytes -/
def u8 (b : UInt8) : AV := .int .u8 b.toNat
def bys (l : List UInt8) : AV := .lst (l.map u8)
@[simp] theorem lenV_lst (es : List AV) (H : List AObj) : lenV (.lst es) H = some (.int .i64 es.length) := rfl
@[simp] theorem lenV_bys (l : List UInt8) (H : List AObj) : lenV (bys l) H = some (.int .i64 l.length) := by simp [lenV, lenA, bys]
@[simp] theorem lss_int (d : TypeDesc) (c : TypeId → Bool) (b : Bool) (k : IntKind) (x y : Int) : binA .lss d c b (.int k x) (.int k y) = some (.bool (decide (x < y))) := by simp [binA]
@[simp] theorem leq_int (d : TypeDesc) (c : TypeId → Bool) (b : Bool) (k : IntKind) (x y : Int) : binA .leq d c b (.int k x) (.int k y) = some (.bool (decide (x ≤ y))) := by simp [binA]
@[simp] theorem gtr_int (d : TypeDesc) (c : TypeId → Bool) (b : Bool) (k : IntKind) (x y : Int) : binA .gtr d c b (.int k x) (.int k y) = some (.bool (decide (y < x))) := by simp [binA]
@[simp] theorem geq_int (d : TypeDesc) (c : TypeId → Bool) (b : Bool) (k : IntKind) (x y : Int) : binA .geq d c b (.int k x) (.int k y) = some (.bool (decide (y ≤ x))) := by simp [binA]
@[simp] theorem eql_int (d : TypeDesc) (c : TypeId → Bool) (b : Bool) (k : IntKind) (x y : Int) : binA .eql d c b (.int k x) (.int k y) = some (.bool (decide (x = y))) := by simp [binA]
@[simp] theorem neq_int (d : TypeDesc) (c : TypeId → Bool) (b : Bool) (k : IntKind) (x y : Int) : binA .neq d c b (.int k x) (.int k y) = some (.bool (!decide (x = y))) := by simp [binA]
@[simp] theorem add_int (d : TypeDesc) (c : TypeId → Bool) (b : Bool) (k : IntKind) (x y : Int) : binA .add d c b (.int k x) (.int k y) = some (.int k (k.wrap (x + y))) := by simp [binA]
@[simp] theorem sub_int (d : TypeDesc) (c : TypeId → Bool) (b : Bool) (k : IntKind) (x y : Int) : binA .sub d c b (.int k x) (.int k y) = some (.int k (k.wrap (x - y))) := by simp [binA]
@[simp] theorem mul_int (d : TypeDesc) (c : TypeId → Bool) (b : Bool) (k : IntKind) (x y : Int) : binA .mul d c b (.int k x) (.int k y) = some (.int k (k.wrap (x * y))) := by simp [binA]
@[simp] theorem xor_int (d : TypeDesc) (c : TypeId → Bool) (b : Bool) (k : IntKind) (x y : Int) : binA .xor d c b (.int k x) (.int k y) = some (.int k (bitsA .xor k x y)) := by simp [binA]
@[simp] theorem and_int (d : TypeDesc) (c : TypeId → Bool) (b : Bool) (k : IntKind) (x y : Int) : binA .and d c b (.int k x) (.int k y) = some (.int k (bitsA .and k x y)) := by simp [binA]
@[simp] theorem or_int (d : TypeDesc) (c : TypeId → Bool) (b : Bool) (k : IntKind) (x y : Int) : binA .or d c b (.int k x) (.int k y) = some (.int k (bitsA .or k x y)) := by simp [binA]
theorem shr_int (d : TypeDesc) (c : TypeId → Bool) (b : Bool) (k k' : IntKind) (x s : Int) (h0 : 0 ≤ s) (h1 : s.toNat ≤ k.bits) : binA .shr d c b (.int k x) (.int k' s) = some (.int k (x.fdiv (2 ^ s.toNat))) := by
  simp [binA, Nat.min_eq_left h1, Int.not_lt.2 h0]
theorem shl_int (d : TypeDesc) (c : TypeId → Bool) (b : Bool) (k k' : IntKind) (x s : Int) (h0 : 0 ≤ s) (h1 : s.toNat ≤ k.bits) : binA .shl d c b (.int k x) (.int k' s) = some (.int k (k.wrap (x * 2 ^ s.toNat))) := by
  simp [binA, Nat.min_eq_left h1, Int.not_lt.2 h0]
@[simp] theorem condK_t {β : Type} (a b : Option β) : condK (.bool true) a b = a := rfl
@[simp] theorem condK_f {β : Type} (a b : Option β) : condK (.bool false) a b = b := rfl
@[simp] theorem splitK_t {β : Type} (a b : Option β) : splitK (.bool true) a b = a := rfl
@[simp] theorem splitK_f {β : Type} (a b : Option β) : splitK (.bool false) a b = b := rfl
theorem condK_dec {β : Type} (p : Prop) [Decidable p] (a b : Option β) : condK (.bool (decide p)) a b = if p then a else b := by
  by_cases h : p <;> simp [h]
theorem splitK_dec {β : Type} (p : Prop) [Decidable p] (a b : Option β) : splitK (.bool (decide p)) a b = if p then a else b := by
  by_cases h : p <;> simp [h]
@[simp] theorem cvI_int (k k' : IntKind) (x : Int) : cvI k (.int k' x) = some (.int k (k.wrap x)) := rfl
@[simp] theorem loadA_ip1 (e : AV) (H : List AObj) : loadA false 1 (.ip [e]) H = some e := rfl
theorem ixA_lst {z : Nat} {es : List AV} {k : IntKind} {i : Int} {e : AV} {H : List AObj} (h0 : 0 ≤ i) (h : es[i.toNat]? = some e) (hz : e.cells.length = z) : ixA z (.lst es) (.int k i) H = some (.ip e.cells) := by
  simp [ixA, indexA, h0, h, hz]
theorem ixA_bys {l : List UInt8} {k : IntKind} {i : Nat} {b : UInt8} {H : List AObj} (h : l[i]? = some b) : ixA 1 (bys l) (.int k i) H = some (.ip [u8 b]) := by
  unfold bys
  exact ixA_lst (e := u8 b) (by omega) (by simp [h]) rfl
end Go.Pm
namespace Go.Pm
set_option linter.unusedVariables false
open Classical in
noncomputable def clonesF (C0 : Cfg) (f : FuncId) (a : List AV) (H : List AObj) : Option R3 := match a with
  | [.lst []] => if EV C0 f [.emp (some true)] H = EV C0 f [.emp (some false)] H then EV C0 f [.emp (some true)] H
    else if EV C0 f [.emp (some true)] H = some (.nils, H, []) ∧ EV C0 f [.emp (some false)] H = some (.emp none, H, []) then some (.emp none, H, []) else none
  | [.lnt (.lst [])] => if EV C0 f [.emp (some true)] H = EV C0 f [.emp (some false)] H then EV C0 f [.emp (some true)] H
    else if EV C0 f [.emp (some true)] H = some (.nils, H, []) ∧ EV C0 f [.emp (some false)] H = some (.emp none, H, []) then some (.emp none, H, []) else none
  | a => EV C0 f a H
/-- these functions answer an empty slice, nil or not, by an empty slice, and else as they do -/
noncomputable def clonesI (C0 : Cfg) (l : List FuncId) (f : FuncId) : Option (List AV → List AObj → Option R3) :=
  if l.contains f = true then some (clonesF C0 f) else none
theorem clone_ok {C0 : Cfg} {l : List FuncId} (h0 : ∀ f, C0.I f = none) : ∀ f F a H r, clonesI C0 l f = some F → F a H = some r → SpecR C0.P C0.G f a H r := by
  intro f F a H r hF hr
  unfold clonesI at hF
  split at hF
  · injection hF with hF; subst hF
    have hok := EV_ok C0 (fun f F a H r h => by rw [h0] at h; cases h)
    unfold clonesF at hr
    split at hr
    · split at hr
      · rename_i hc
        intro X args hH hR hM
        obtain ⟨v, vs, e1, e2, e3⟩ := hM
        have hv : ∃ b, M X (.emp (some b)) v := by
          unfold M at e2
          obtain ⟨A, c, k1, k2, _⟩ := e2
          exact ⟨A.isNone, by unfold M; exact ⟨A, c, k1, fun b hb => by injection hb, fun h => by cases h⟩⟩
        obtain ⟨b, hb⟩ := hv
        cases b
        · exact hok f [.emp (some false)] H r (hc ▸ hr) X args hH hR ⟨v, vs, e1, hb, e3⟩
        · exact hok f [.emp (some true)] H r hr X args hH hR ⟨v, vs, e1, hb, e3⟩
      split at hr
      · rename_i hc2
        injection hr with hr; subst hr
        intro X args hH hR hM
        obtain ⟨v, vs, e1, e2, e3⟩ := hM
        have hv : ∃ b, M X (.emp (some b)) v := by
          unfold M at e2
          obtain ⟨A, c, k1, k2, _⟩ := e2
          exact ⟨A.isNone, by unfold M; exact ⟨A, c, k1, fun b hb => by injection hb, fun h => by cases h⟩⟩
        obtain ⟨b, hb⟩ := hv
        cases b
        · exact hok f [.emp (some false)] H _ hc2.2 X args hH hR ⟨v, vs, e1, hb, e3⟩
        · refine (hok f [.emp (some true)] H _ hc2.1 X args hH hR ⟨v, vs, e1, hb, e3⟩).mono fun e w' hq => ?_
          obtain ⟨u, X', q1, q2, q3, q4, q5, q6, q7⟩ := hq
          refine ⟨u, X', q1, q2, q3, q4, q5, q6, ?_⟩
          rw [M_nils] at q7; subst q7
          unfold M
          exact ⟨none, 0, rfl, (fun b hb => absurd hb (by simp)), fun _ => rfl⟩
      · cases hr
    · split at hr
      · rename_i hc
        intro X args hH hR hM
        obtain ⟨v, vs, e1, e2, e3⟩ := hM
        have hv : ∃ b, M X (.emp (some b)) v := by
          unfold M at e2
          unfold M at e2
          obtain ⟨A, c, k1, k2, _⟩ := e2
          exact ⟨A.isNone, by unfold M; exact ⟨A, c, k1, fun b hb => by injection hb, fun h => by cases h⟩⟩
        obtain ⟨b, hb⟩ := hv
        cases b
        · exact hok f [.emp (some false)] H r (hc ▸ hr) X args hH hR ⟨v, vs, e1, hb, e3⟩
        · exact hok f [.emp (some true)] H r hr X args hH hR ⟨v, vs, e1, hb, e3⟩
      split at hr
      · rename_i hc2
        injection hr with hr; subst hr
        intro X args hH hR hM
        obtain ⟨v, vs, e1, e2, e3⟩ := hM
        have hv : ∃ b, M X (.emp (some b)) v := by
          unfold M at e2
          unfold M at e2
          obtain ⟨A, c, k1, k2, _⟩ := e2
          exact ⟨A.isNone, by unfold M; exact ⟨A, c, k1, fun b hb => by injection hb, fun h => by cases h⟩⟩
        obtain ⟨b, hb⟩ := hv
        cases b
        · exact hok f [.emp (some false)] H _ hc2.2 X args hH hR ⟨v, vs, e1, hb, e3⟩
        · refine (hok f [.emp (some true)] H _ hc2.1 X args hH hR ⟨v, vs, e1, hb, e3⟩).mono fun e w' hq => ?_
          obtain ⟨u, X', q1, q2, q3, q4, q5, q6, q7⟩ := hq
          refine ⟨u, X', q1, q2, q3, q4, q5, q6, ?_⟩
          rw [M_nils] at q7; subst q7
          unfold M
          exact ⟨none, 0, rfl, (fun b hb => absurd hb (by simp)), fun _ => rfl⟩
      · cases hr
    · exact hok _ _ _ _ hr
  · cases hF
theorem clone_nil {C C0 : Cfg} {l : List FuncId} {f : FuncId} {H : List AObj} {r : R3} (hI : C.I f = clonesI C0 l f) (hf : l.contains f = true) (h1 : EV C0 f [.emp true] H = some r) (h2 : EV C0 f [.emp false] H = some r) :
    EV C f [.lst []] H = some r := by
  have : C.I f = some (clonesF C0 f) := by rw [hI]; unfold clonesI; rw [if_pos hf]
  rw [EV_I C this]
  unfold clonesF
  simp only
  rw [if_pos (h1.trans h2.symm), h1]
theorem clone_nilL {C C0 : Cfg} {l : List FuncId} {f : FuncId} {H : List AObj} {r : R3} (hI : C.I f = clonesI C0 l f) (hf : l.contains f = true) (h1 : EV C0 f [.emp true] H = some r) (h2 : EV C0 f [.emp false] H = some r) :
    EV C f [.lnt (.lst [])] H = some r := by
  have : C.I f = some (clonesF C0 f) := by rw [hI]; unfold clonesI; rw [if_pos hf]
  rw [EV_I C this]
  unfold clonesF
  simp only
  rw [if_pos (h1.trans h2.symm), h1]
theorem clone_consL {C C0 : Cfg} {l : List FuncId} {f : FuncId} {e : AV} {es : List AV} {H : List AObj} (hI : C.I f = clonesI C0 l f) (hf : l.contains f = true) : EV C f [.lnt (.lst (e :: es))] H = EV C0 f [.lnt (.lst (e :: es))] H := by
  have : C.I f = some (clonesF C0 f) := by rw [hI]; unfold clonesI; rw [if_pos hf]
  rw [EV_I C this]
  rfl
theorem clone_cons {C C0 : Cfg} {l : List FuncId} {f : FuncId} {e : AV} {es : List AV} {H : List AObj} (hI : C.I f = clonesI C0 l f) (hf : l.contains f = true) : EV C f [.lst (e :: es)] H = EV C0 f [.lst (e :: es)] H := by
  have : C.I f = some (clonesF C0 f) := by rw [hI]; unfold clonesI; rw [if_pos hf]
  rw [EV_I C this]
  rfl
end Go.Pm
namespace Go.Pm
set_option linter.unusedVariables false
set_option linter.unusedSimpArgs false
mutual
theorem frz_good (H : List AObj) : ∀ (v : AV), v.good = true → frz H v = some v
  | .bad, h => rfl
  | .int _ _, h => rfl
  | .bool _, h => rfl
  | .str _, h => rfl
  | .nilp, h => rfl
  | .ptr _ _ _ _, h => rfl
  | .ip _, h => rfl
  | .lst _, h => rfl
  | .nils, h => by simp [AV.good] at h
  | .emp _, h => by simp [AV.good] at h
  | .slc _ _ _ _, h => by simp [AV.good] at h
  | .agg cs, h => by simp only [frz]; rw [frzL_good H cs (by simpa [AV.good] using h)]; rfl
  | .tup cs, h => by simp only [frz]; rw [frzL_good H cs (by simpa [AV.good] using h)]; rfl
  | .clo _ _ _, h => rfl
  | .nilf, h => rfl
  | .ifc t v, h => by simp only [frz]; rw [frz_good H v (by simpa [AV.good] using h)]; rfl
  | .nili, h => rfl
  | .nilm, h => rfl
  | .lnt _, h => rfl
theorem frzL_good (H : List AObj) : ∀ (vs : List AV), goodL vs = true → frzL H vs = some vs
  | [], h => rfl
  | c :: cs, h => by
    simp only [goodL, Bool.and_eq_true] at h
    simp only [frzL, frz_good H c h.1, frzL_good H cs h.2, Option.bind_some, Option.map_some]
end
mutual
theorem kills_good : ∀ (v : AV), v.good = true → kills v = []
  | .bad, h => rfl
  | .int _ _, h => rfl
  | .bool _, h => rfl
  | .str _, h => rfl
  | .nilp, h => rfl
  | .ptr _ _ _ _, h => rfl
  | .ip _, h => rfl
  | .lst _, h => rfl
  | .nils, h => rfl
  | .emp _, h => rfl
  | .slc _ _ _ _, h => by simp [AV.good] at h
  | .agg cs, h => by simp only [kills]; exact killsL_good cs (by simpa [AV.good] using h)
  | .tup cs, h => by simp only [kills]; exact killsL_good cs (by simpa [AV.good] using h)
  | .clo _ _ _, h => rfl
  | .nilf, h => rfl
  | .ifc t v, h => by simp only [kills]; exact kills_good v (by simpa [AV.good] using h)
  | .nili, h => rfl
  | .nilm, h => rfl
  | .lnt _, h => rfl
theorem killsL_good : ∀ (vs : List AV), goodL vs = true → killsL vs = []
  | [], h => rfl
  | c :: cs, h => by
    simp only [goodL, Bool.and_eq_true] at h
    simp only [killsL, kills_good c h.1, killsL_good cs h.2, List.append_nil]
end
mutual
theorem bel_good (m : Nat) : ∀ (v : AV), v.good = true → v.bel m = true
  | .bad, h => rfl
  | .int _ _, h => rfl
  | .bool _, h => rfl
  | .str _, h => rfl
  | .nilp, h => rfl
  | .ptr _ _ _ _, h => by simp [AV.good] at h
  | .ip cs, h => by simp only [AV.bel]; exact belL_good m cs (by simpa [AV.good] using h)
  | .lst cs, h => by simp only [AV.bel]; exact belL_good m cs (by simpa [AV.good] using h)
  | .nils, h => rfl
  | .emp _, h => rfl
  | .slc _ _ _ _, h => by simp [AV.good] at h
  | .agg cs, h => by simp only [AV.bel]; exact belL_good m cs (by simpa [AV.good] using h)
  | .tup cs, h => by simp only [AV.bel]; exact belL_good m cs (by simpa [AV.good] using h)
  | .clo _ fi ca, h => by
    simp only [AV.good, Bool.and_eq_true] at h
    simp only [AV.bel, Bool.and_eq_true]; exact ⟨belL_good m fi h.1, belL_good m ca h.2⟩
  | .nilf, h => rfl
  | .ifc t v, h => by simp only [AV.bel]; exact bel_good m v (by simpa [AV.good] using h)
  | .nili, h => rfl
  | .nilm, h => rfl
  | .lnt v, h => by simp only [AV.bel]; exact bel_good m v (by simpa [AV.good] using h)
theorem belL_good (m : Nat) : ∀ (vs : List AV), goodL vs = true → belL m vs = true
  | [], h => rfl
  | c :: cs, h => by
    simp only [goodL, Bool.and_eq_true] at h
    simp only [belL, bel_good m c h.1, belL_good m cs h.2, Bool.and_self]
end
theorem goodL_all {vs : List AV} : goodL vs = true ↔ ∀ v ∈ vs, v.good = true := by
  induction vs with
  | nil => simp [goodL]
  | cons v vs ih => simp [goodL, ih]
theorem goodL_map {α : Type} {f : α → AV} (hf : ∀ a, (f a).good = true) (l : List α) : goodL (l.map f) = true := goodL_all.2 fun v hv => by
  obtain ⟨a, _, rfl⟩ := List.mem_map.1 hv; exact hf a
@[simp] theorem good_u8 (b : UInt8) : (u8 b).good = true := rfl
@[simp] theorem goodL_u8 (l : List UInt8) : goodL (l.map u8) = true := goodL_map good_u8 l
@[simp] theorem good_bys (l : List UInt8) : (bys l).good = true := goodL_u8 l
@[simp] theorem goodL_bys (l : List (List UInt8)) : goodL (l.map bys) = true := goodL_map good_bys l
attribute [simp] AV.good goodL

/-- a call on data -/
theorem callK_ok {β : Type} {env : Env} {g : FuncId} {args : List AV} {H : List AObj} {K : AV → List AObj → List Nat → Option β} {v : AV} (h1 : goodL args = true) (h3 : env g args [] = some (v, [], [])) :
    callK env false g args H K = K v H [] := by
  simp [callK, callA, frzL_good H args h1, belL_good 0 args h1, h3, killsL_good args h1, killAll]
theorem callK_nil {β : Type} {env : Env} {g : FuncId} {args bs : List AV} {H : List AObj} {K : AV → List AObj → List Nat → Option β} {v : AV} (hk : killsL args = []) (h0 : frzL H args = some bs) (h1 : goodL bs = true) (h3 : env g bs [] = some (v, [], [])) :
    callK env false g args H K = K v H [] := by
  simp [callK, callA, h0, belL_good 0 bs h1, h3, hk, killAll]
theorem callK_raw {β : Type} {env : Env} {g : FuncId} {args : List AV} {H : List AObj} {K : AV → List AObj → List Nat → Option β} {r : R3} (h3 : env g args H = some r) :
    callK env true g args H K = K r.1 r.2.1 r.2.2 := by
  simp [callK, callA, h3]
theorem callD_ok {env : Env} {g : FuncId} {args : List AV} {H : List AObj} {v : AV} (h1 : goodL args = true) (h3 : env g args [] = some (v, [], [])) :
    callD env g args H = some v := by
  simp [callD, frzL_good H args h1, belL_good 0 args h1, h3, killsL_good args h1]
theorem callD_flat {env : Env} {g : FuncId} {args bs : List AV} {H : List AObj} {v : AV} (h0 : frzL H args = some bs) (h1 : goodL bs = true) (h3 : env g bs [] = some (v, [], [])) (hf : v.flat = true) :
    callD env g args H = some v := by
  simp [callD, h0, belL_good 0 bs h1, h3, hf]
/-- the end of a call on the empty heap -/
theorem endB_good {v : AV} {H : List AObj} {E : List Nat} (h : v.good = true) : endB false false 0 v H E = some (v, [], []) := by
  simp [endB, endA, frz_good H v h, bel_good 0 v h]
theorem endB_frz {v u : AV} {H : List AObj} {E : List Nat} (h0 : frz H v = some u) (h : u.good = true) : endB false false 0 v H E = some (u, [], []) := by
  simp [endB, endA, h0, bel_good 0 u h]
theorem endB_raw {n : Nat} {v : AV} {H : List AObj} {E : List Nat} : endB true true n v H E = some (v, H, E) := by
  simp [endB, endA]
@[simp] theorem drawK_t {β : Type} {p : Prop} (h : p) (x : Option β) : drawK p x = x := by unfold drawK; rw [if_pos h]

/-- a row that may not have been begun yet -/
def vro (z : Nat) (es : List AV) : AObj := if es.isEmpty = true then .vrow else .row z es
theorem vro_nil (z : Nat) : vro z [] = .vrow := rfl
theorem vro_cons {z : Nat} {es : List AV} (h : es ≠ []) : vro z es = .row z es := by unfold vro; cases es <;> simp at h ⊢
theorem frz_row {H : List AObj} {l z n : Nat} {es : List AV} (h : H[l]? = some (.row z es)) (hn : n = es.length) (hg : goodL es = true) : frz H (.slc l 0 n n) = some (.lst es) := by
  subst hn; simp [frz, h, hg]
theorem frz_vro {H : List AObj} {l z n : Nat} {es : List AV} (h : H[l]? = some (vro z es)) (hn : n = es.length) (hg : goodL es = true) : frz H (.slc l 0 n n) = some (.lst es) := by
  cases es with
  | nil => rw [vro_nil] at h; subst hn; simp [frz, h]
  | cons e es => rw [vro_cons (by simp)] at h; exact frz_row h hn hg
theorem elemsA_row {H : List AObj} {l z n : Nat} {es : List AV} (h : H[l]? = some (.row z es)) (hn : n = es.length) : elemsA (.slc l 0 n n) H = some es := by
  subst hn; simp [elemsA, h]
theorem appendA_row {H : List AObj} {l z by_ n : Nat} {es ys : List AV} (h : H[l]? = some (.row z es)) (hn : n = es.length) (h1 : lz z ys = true) (h2 : 0 < z) (h3 : 0 < by_) (h4 : by_ ≤ 1048576) (h5 : (n + ys.length) * by_ ≤ 140737489400832) :
    appendA z by_ (.slc l 0 n n) ys H = some (.slc l 0 (n + ys.length) (n + ys.length), H.set l (.row z (es ++ ys)), if ys.isEmpty then [] else escs l ys) := by
  subst hn
  cases ys with
  | nil =>
    have : H.set l (.row z es) = H := by
      obtain ⟨hl, e⟩ := List.getElem?_eq_some_iff.1 h
      rw [← e]; exact List.set_getElem_self hl
    simp [appendA, lenA, lenOf, h, this]
  | cons y ys => simp [appendA, h1, h2, h3, h4, h5, h] at h5 ⊢; simp [h1, h2, h3, h4, h5, h]
theorem appendA_vro {H : List AObj} {l z by_ n : Nat} {es ys : List AV} (h : H[l]? = some (vro z es)) (hn : n = es.length) (h1 : lz z ys = true) (h2 : 0 < z) (h3 : 0 < by_) (h4 : by_ ≤ 1048576) (h5 : (n + ys.length) * by_ ≤ 140737489400832) :
    appendA z by_ (.slc l 0 n n) ys H = some (.slc l 0 (n + ys.length) (n + ys.length), H.set l (vro z (es ++ ys)), if ys.isEmpty then [] else escs l ys) := by
  cases es with
  | nil =>
    rw [vro_nil] at h
    simp only [List.length_nil] at hn
    subst hn
    cases ys with
    | nil =>
      have : H.set l .vrow = H := by
        obtain ⟨hl, e⟩ := List.getElem?_eq_some_iff.1 h
        rw [← e]; exact List.set_getElem_self hl
      simp [appendA, lenA, lenOf, h, vro_nil, this]
    | cons y ys =>
      simp only [Nat.zero_add] at h5
      simp [appendA, h1, h2, h3, h4, h, vro, Nat.zero_add] at h5 ⊢; simp [h5]
  | cons e es =>
    rw [vro_cons (by simp)] at h
    rw [vro_cons (by simp)]
    exact appendA_row h hn h1 h2 h3 h4 h5
theorem appK_row {β : Type} {H : List AObj} {l z by_ n : Nat} {es ys : List AV} {y : AV} {K : AV → List AObj → List Nat → Option β} (hy : elemsA y H = some ys) (h : H[l]? = some (.row z es)) (hn : n = es.length) (h1 : lz z ys = true) (h2 : 0 < z) (h3 : 0 < by_) (h4 : by_ ≤ 1048576) (h5 : (n + ys.length) * by_ ≤ 140737489400832) :
    appK z by_ (.slc l 0 n n) y H K = K (.slc l 0 (n + ys.length) (n + ys.length)) (H.set l (.row z (es ++ ys))) (if ys.isEmpty then [] else escs l ys) := by
  unfold appK; rw [hy, Option.bind_some, appendA_row h hn h1 h2 h3 h4 h5]; rfl
theorem appK_vro {β : Type} {H : List AObj} {l z by_ n : Nat} {es ys : List AV} {y : AV} {K : AV → List AObj → List Nat → Option β} (hy : elemsA y H = some ys) (h : H[l]? = some (vro z es)) (hn : n = es.length) (h1 : lz z ys = true) (h2 : 0 < z) (h3 : 0 < by_) (h4 : by_ ≤ 1048576) (h5 : (n + ys.length) * by_ ≤ 140737489400832) :
    appK z by_ (.slc l 0 n n) y H K = K (.slc l 0 (n + ys.length) (n + ys.length)) (H.set l (vro z (es ++ ys))) (if ys.isEmpty then [] else escs l ys) := by
  unfold appK; rw [hy, Option.bind_some, appendA_vro h hn h1 h2 h3 h4 h5]; rfl
theorem escs_good {l : Nat} {ys : List AV} (h : goodL ys = true) : escs l ys = [] := by unfold escs; rw [belL_good _ _ h]; rfl
theorem esc_good {l : Nat} {ys : List AV} (h : goodL ys = true) : (if ys.isEmpty then [] else escs l ys) = [] := by rw [escs_good h]; simp

theorem frz_tup {H : List AObj} {cs us : List AV} (h : frzL H cs = some us) : frz H (.tup cs) = some (.tup us) := by simp only [frz, h, Option.map_some]
theorem frz_agg {H : List AObj} {cs us : List AV} (h : frzL H cs = some us) : frz H (.agg cs) = some (.agg us) := by simp only [frz, h, Option.map_some]
theorem frzL_cons {H : List AObj} {c u : AV} {cs us : List AV} (h1 : frz H c = some u) (h2 : frzL H cs = some us) : frzL H (c :: cs) = some (u :: us) := by simp only [frzL, h1, h2, Option.bind_some, Option.map_some]
@[simp] theorem elemsA_bys (l : List UInt8) (H : List AObj) : elemsA (bys l) H = some (l.map u8) := rfl
@[simp] theorem elemsA_lst (l : List AV) (H : List AObj) : elemsA (.lst l) H = some l := rfl
@[simp] theorem lz_u8 (l : List UInt8) : lz 1 (l.map u8) = true := by cases l <;> rfl
@[simp] theorem lz_bys (l : List (List UInt8)) : lz 1 (l.map bys) = true := by cases l <;> rfl
theorem toBytes_u8 : ∀ (l : List UInt8), toBytes (l.map u8) = some l
  | [] => rfl
  | b :: l => by
    show (toBytes (l.map u8)).map (UInt8.ofNat ((b.toNat : Int)).toNat :: ·) = _
    rw [toBytes_u8 l]; simp
theorem cvL_bys (l : List UInt8) (H : List AObj) : cvL (bys l) H = some (.str ⟨l.toArray⟩) := by
  show ((elemsA (bys l) H).bind fun es => (toBytes es).map fun l => AV.str ⟨l.toArray⟩) = _
  rw [elemsA_bys]; simp [toBytes_u8]
@[simp] theorem bl_mk (l : List UInt8) : bl ⟨l.toArray⟩ = l := by simp [bl]
@[simp] theorem eql_str (d : TypeDesc) (c : TypeId → Bool) (b : Bool) (x y : ByteArray) : binA .eql d c b (.str x) (.str y) = some (.bool (decide (bl x = bl y))) := rfl
@[simp] theorem neq_str (d : TypeDesc) (c : TypeId → Bool) (b : Bool) (x y : ByteArray) : binA .neq d c b (.str x) (.str y) = some (.bool (!decide (bl x = bl y))) := rfl
theorem cutA_lst {z : Nat} {es : List AV} {lo hi : Option AV} {H : List AObj} {i j : Nat} (hlo : boundA lo 0 = some (i : Int)) (hhi : boundA hi es.length = some (j : Int)) (h1 : i ≤ j) (h2 : j ≤ es.length) (hz : lz z es = true) :
    cutA z (.lst es) lo hi none H = some (.lst ((es.take j).drop i)) := by
  have h1' : (i : Int) ≤ (j : Int) := by omega
  have h2' : (j : Int) ≤ (es.length : Int) := by omega
  simp only [cutA, lenA, Option.bind_some, hhi, hlo]
  simp [boundA, h1', h2', hz]
theorem cutA_bys {l : List UInt8} {lo hi : Option AV} {H : List AObj} {i j : Nat} (hlo : boundA lo 0 = some (i : Int)) (hhi : boundA hi l.length = some (j : Int)) (h1 : i ≤ j) (h2 : j ≤ l.length) :
    cutA 1 (bys l) lo hi none H = some (bys ((l.take j).drop i)) := by
  unfold bys
  rw [cutA_lst hlo (by simpa using hhi) h1 (by simpa using h2) (lz_u8 l)]
  simp
@[simp] theorem extA_0 (a : AV) (l : List AV) : extA (.tup (a :: l)) 0 = some a := rfl
@[simp] theorem extA_1 (a b : AV) (l : List AV) : extA (.tup (a :: b :: l)) 1 = some b := rfl
@[simp] theorem extA_2 (a b c : AV) (l : List AV) : extA (.tup (a :: b :: c :: l)) 2 = some c := rfl
theorem wrap64 {n : Int} (h0 : -2^63 ≤ n) (h1 : n < 2^63) : IntKind.i64.wrap n = n := by
  unfold IntKind.wrap IntKind.signed IntKind.bits; simp; omega
theorem wrap_u8 (n : Nat) : IntKind.u8.wrap (n : Int) = ((n % 256 : Nat) : Int) := by
  unfold IntKind.wrap IntKind.signed IntKind.bits; simp
theorem wrap_u32 {n : Nat} (h : n < 2^32) : IntKind.u32.wrap (n : Int) = n := by
  unfold IntKind.wrap IntKind.signed IntKind.bits; simp; omega
theorem wrap_u64 {n : Nat} (h : n < 2^64) : IntKind.u64.wrap (n : Int) = n := by
  unfold IntKind.wrap IntKind.signed IntKind.bits; simp; omega
theorem xor_u32 {x y : Nat} (hx : x < 2^32) (hy : y < 2^32) : bitsA .xor .u32 x y = ((x ^^^ y : Nat) : Int) := by
  have : x ^^^ y < 2^32 := Nat.xor_lt_two_pow hx hy
  show IntKind.u32.wrap ((BitVec.ofInt 32 (x : Int) ^^^ BitVec.ofInt 32 (y : Int)).toNat : Int) = _
  rw [BitVec.ofInt_natCast, BitVec.ofInt_natCast, BitVec.toNat_xor, BitVec.toNat_ofNat, BitVec.toNat_ofNat, Nat.mod_eq_of_lt hx, Nat.mod_eq_of_lt hy]
  exact wrap_u32 this
theorem or_u32 {x y : Nat} (hx : x < 2^32) (hy : y < 2^32) : bitsA .or .u32 x y = ((x ||| y : Nat) : Int) := by
  have : x ||| y < 2^32 := Nat.or_lt_two_pow hx hy
  show IntKind.u32.wrap ((BitVec.ofInt 32 (x : Int) ||| BitVec.ofInt 32 (y : Int)).toNat : Int) = _
  rw [BitVec.ofInt_natCast, BitVec.ofInt_natCast, BitVec.toNat_or, BitVec.toNat_ofNat, BitVec.toNat_ofNat, Nat.mod_eq_of_lt hx, Nat.mod_eq_of_lt hy]
  exact wrap_u32 this
theorem and_u32 {x y : Nat} (hx : x < 2^32) (hy : y < 2^32) : bitsA .and .u32 x y = ((x &&& y : Nat) : Int) := by
  have : x &&& y < 2^32 := Nat.and_lt_two_pow x hy
  show IntKind.u32.wrap ((BitVec.ofInt 32 (x : Int) &&& BitVec.ofInt 32 (y : Int)).toNat : Int) = _
  rw [BitVec.ofInt_natCast, BitVec.ofInt_natCast, BitVec.toNat_and, BitVec.toNat_ofNat, BitVec.toNat_ofNat, Nat.mod_eq_of_lt hx, Nat.mod_eq_of_lt hy]
  exact wrap_u32 this
@[simp] theorem quo_int (d : TypeDesc) (c : TypeId → Bool) (b : Bool) (k : IntKind) (x y : Nat) (hy : y ≠ 0) : binA .quo d c b (.int k x) (.int k y) = some (.int k (k.wrap ((x / y : Nat) : Int))) := by
  have : ¬ ((y : Int) = 0) := by omega
  simp [binA, hy, Int.tdiv_eq_ediv_of_nonneg (Int.natCast_nonneg x)]
@[simp] theorem rem_int (d : TypeDesc) (c : TypeId → Bool) (b : Bool) (k : IntKind) (x y : Nat) (hy : y ≠ 0) : binA .rem d c b (.int k x) (.int k y) = some (.int k ((x % y : Nat) : Int)) := by
  have : ¬ ((y : Int) = 0) := by omega
  simp [binA, hy, Int.tmod_eq_emod_of_nonneg (Int.natCast_nonneg x)]
theorem shr_nat (d : TypeDesc) (c : TypeId → Bool) (b : Bool) (k k' : IntKind) (x s : Nat) (h1 : s ≤ k.bits) : binA .shr d c b (.int k x) (.int k' s) = some (.int k ((x / 2 ^ s : Nat) : Int)) := by
  rw [shr_int _ _ _ _ _ _ _ (by omega) (by simpa using h1)]
  rw [Int.fdiv_eq_ediv_of_nonneg _ (by exact Int.le_of_lt (Int.pow_pos (by decide)))]
  simp
theorem shl_nat (d : TypeDesc) (c : TypeId → Bool) (b : Bool) (k k' : IntKind) (x s : Nat) (h1 : s ≤ k.bits) : binA .shl d c b (.int k x) (.int k' s) = some (.int k (k.wrap ((x * 2 ^ s : Nat) : Int))) := by
  rw [shl_int _ _ _ _ _ _ _ (by omega) (by simpa using h1)]
  simp
theorem u8_nat (n : Nat) : u8 (UInt8.ofNat n) = .int .u8 ((n % 256 : Nat) : Int) := by simp [u8]
end Go.Pm
