/- A part of the proof: what the functions of the program answer, as plain lists and numbers. -/
import Derived.Test.YtahipmiaknbkoaaP11
import Derived.Test.YtahipmiaknbkoaaP20
namespace Go.Pm
open Go.Proofs
set_option linter.unusedVariables false
set_option linter.unusedSimpArgs false
theorem ld_fld {H : List AObj} {l z j : Nat} {cs : List AV} {v : AV} (h : H[l]? = some (.row z [.agg cs])) (hv : cs[j]? = some v) : loadA false 1 (.ptr l 1 0 j) H = some v := by
  unfold loadA
  simp only [h, List.length_singleton, if_true, List.getElem?_cons_zero, Option.bind_some, AV.cells, ldv, Bool.false_eq_true, if_false, List.getElem?_drop, Nat.add_zero, hv]
theorem ld_all {H : List AObj} {l z n : Nat} {cs : List AV} (h : H[l]? = some (.row z [.agg cs])) (hn : cs.length = n) : loadA true n (.ptr l 1 0 0) H = some (.agg cs) := by
  unfold loadA
  simp only [h, List.length_singleton, if_true, List.getElem?_cons_zero, Option.bind_some, AV.cells, ldv, List.drop_zero]
  rw [if_pos (by omega), List.take_of_length_le (by omega)]
theorem sto_fld {β : Type} {H : List AObj} {l z j : Nat} {cs : List AV} {v : AV} {K : List AObj → List Nat → Option β} (h : H[l]? = some (.row z [.agg cs])) (hj : j < cs.length) (hc : v.cells = [v]) (h1 : v.one = true) (hb : v.bel (l + 1) = true) :
    stoK 1 (.ptr l 1 0 j) v H K = K (H.set l (.row z [.agg (cs.set j v)])) [] := by
  have h2 : storeA 1 (.ptr l 1 0 j) v H = some (H.set l (.row z [.agg (cs.set j v)]), []) := by
    have e : cs.take j ++ [v] ++ cs.drop (j + 1) = cs.set j v := by
      rw [List.set_eq_take_append_cons_drop, if_pos hj]; simp
    unfold storeA
    simp only [h, hc, List.length_singleton, List.all_cons, h1, List.all_nil, Bool.and_self, and_self, if_true, List.getElem?_cons_zero, Option.bind_some, setC]
    rw [if_pos (by omega), e]
    simp [escs, belL, hb]
  unfold stoK; rw [h2]; rfl
theorem sto_all {β : Type} {H : List AObj} {l z n : Nat} {cs ds : List AV} {K : List AObj → List Nat → Option β} (h : H[l]? = some (.row z [.agg cs])) (hn : cs.length = n) (hd : ds.length = n) (h1 : ds.all AV.one = true) (hb : belL (l + 1) ds = true) :
    stoK n (.ptr l 1 0 0) (.agg ds) H K = K (H.set l (.row z [.agg ds])) [] := by
  have h2 : storeA n (.ptr l 1 0 0) (.agg ds) H = some (H.set l (.row z [.agg ds]), []) := by
    unfold storeA
    simp only [h, AV.cells, List.length_singleton]
    rw [if_pos ⟨trivial, hd, h1⟩]
    simp only [List.getElem?_cons_zero, Option.bind_some, setC]
    rw [if_pos (by omega)]
    simp [escs, hb, hd, List.drop_of_length_le (show cs.length ≤ n by omega)]
  unfold stoK; rw [h2]; rfl
theorem new_agg {β : Type} {cs : List AV} {H : List AObj} {K : AV → List AObj → List Nat → Option β} (h0 : cs ≠ []) (h1 : cs.all AV.one = true) : newK (.agg cs) H K = K (.ptr H.length 1 0 0) (H ++ [.row cs.length [.agg cs]]) [] := by
  have : newA (.agg cs) H = some (.ptr H.length 1 0 0, H ++ [.row cs.length [.agg cs]], []) := by
    unfold newA
    rw [show (AV.agg cs).cells = cs from rfl, if_pos ⟨h0, h1⟩]
  unfold newK; rw [this]; rfl
structure Fil where
  b : List UInt8
  sy : Int
structure Dk where
  sz : Int
  fs : List (List UInt8 × Fil)
  off : Bool
  steps : Int
  has : Bool
  bud : Int
def Fil.cs (f : Fil) : List AV := [bys f.b, .int .i64 f.sy]
def Fil.av (f : Fil) : AV := .agg f.cs
def fobj (fs : List (List UInt8 × Fil)) : AObj := mpo sv Fil.av fs
def Dk.cs (L : Nat) (d : Dk) : List AV := [.int .i64 d.sz, .mp L, .bool d.off, .int .i64 d.steps, .bool d.has, .int .i64 d.bud]
def drow (L : Nat) (d : Dk) : AObj := .row 6 [.agg (d.cs L)]
theorem Fil.good (f : Fil) : f.av.good = true := by simp [Fil.av, Fil.cs, AV.good, goodL]
theorem Fil.bel0 (f : Fil) : f.av.bel 0 = true := bel_good 0 _ f.good
structure At (H : List AObj) (L D : Nat) (d : Dk) : Prop where
  m : H[L]? = some (fobj d.fs)
  r : H[D]? = some (drow L d)
  lt : L < D
theorem At.dl {H : List AObj} {L D : Nat} {d : Dk} (h : At H L D d) : D < H.length := (List.getElem?_eq_some_iff.1 h.r).1
theorem At.app {H : List AObj} {L D : Nat} {d : Dk} (h : At H L D d) (X : List AObj) : At (H ++ X) L D d := by
  have := h.dl; have := h.lt
  exact ⟨by rw [List.getElem?_append_left (by omega)]; exact h.m, by rw [List.getElem?_append_left (by omega)]; exact h.r, h.lt⟩
def pt (H : List AObj) (L D : Nat) (d : Dk) : List AObj := (H.set L (fobj d.fs)).set D (drow L d)
theorem pt_len (H : List AObj) (L D : Nat) (d : Dk) : (pt H L D d).length = H.length := by simp [pt]
theorem At.pt {H : List AObj} {L D : Nat} {d0 : Dk} (h : At H L D d0) (d : Dk) : At (pt H L D d) L D d := by
  have := h.dl; have := h.lt
  refine ⟨?_, ?_, h.lt⟩
  · unfold Go.Pm.pt; rw [List.getElem?_set_ne (by omega), List.getElem?_set_self (by omega)]
  · unfold Go.Pm.pt; rw [List.getElem?_set_self (by simpa using h.dl)]
theorem pt_self {H : List AObj} {L D : Nat} {d : Dk} (h : At H L D d) : pt H L D d = H := by
  have := h.dl; have := h.lt
  obtain ⟨h1, h2⟩ := List.getElem?_eq_some_iff.1 h.m
  obtain ⟨h3, h4⟩ := List.getElem?_eq_some_iff.1 h.r
  unfold pt
  rw [← h2, List.set_getElem_self, ← h4, List.set_getElem_self]
theorem pt_pt {H : List AObj} {L D : Nat} (d d' : Dk) (h : L < D) : pt (pt H L D d) L D d' = pt H L D d' := by
  unfold pt
  rw [List.set_comm _ _ (show D ≠ L by omega), List.set_set, List.set_set]
theorem pt_app {H : List AObj} {L D : Nat} {d0 : Dk} (h : At H L D d0) (X : List AObj) (d : Dk) : pt (H ++ X) L D d = pt H L D d ++ X := by
  have := h.dl; have := h.lt
  unfold pt
  rw [List.set_append_left _ _ (by omega), List.set_append_left _ _ (by simpa using h.dl)]
/-- a cell of the disk's own -/
theorem set_D {H : List AObj} {L D : Nat} {d : Dk} (h : At H L D d) (d' : Dk) (hf : d'.fs = d.fs) : H.set D (drow L d') = pt H L D d' := by
  obtain ⟨h1, h2⟩ := List.getElem?_eq_some_iff.1 h.m
  unfold pt
  rw [hf, ← h2, List.set_getElem_self]
/-- its files -/
theorem set_L {H : List AObj} {L D : Nat} {d : Dk} (h : At H L D d) (fs : List (List UInt8 × Fil)) : H.set L (fobj fs) = pt H L D { d with fs := fs } := by
  have := h.lt
  obtain ⟨h1, h2⟩ := List.getElem?_eq_some_iff.1 h.r
  have e : drow L { d with fs := fs } = drow L d := rfl
  unfold pt
  rw [e, List.set_comm _ _ (show L ≠ D by omega), ← h2, List.set_getElem_self]
section
variable {β : Type} {H : List AObj} {L D : Nat} {d : Dk} {K : List AObj → List Nat → Option β}
theorem At.sz (h : At H L D d) : loadA false 1 (.ptr D 1 0 0) H = some (.int .i64 d.sz) := ld_fld h.r rfl
theorem At.fs (h : At H L D d) : loadA false 1 (.ptr D 1 0 1) H = some (.mp L) := ld_fld h.r rfl
theorem At.off (h : At H L D d) : loadA false 1 (.ptr D 1 0 2) H = some (.bool d.off) := ld_fld h.r rfl
theorem At.st (h : At H L D d) : loadA false 1 (.ptr D 1 0 3) H = some (.int .i64 d.steps) := ld_fld h.r rfl
theorem At.has (h : At H L D d) : loadA false 1 (.ptr D 1 0 4) H = some (.bool d.has) := ld_fld h.r rfl
theorem At.bud (h : At H L D d) : loadA false 1 (.ptr D 1 0 5) H = some (.int .i64 d.bud) := ld_fld h.r rfl
theorem At.soff (h : At H L D d) (b : Bool) : stoK 1 (.ptr D 1 0 2) (.bool b) H K = K (Go.Pm.pt H L D { d with off := b }) [] := by
  rw [sto_fld h.r (by simp [Dk.cs]) rfl rfl rfl, ← set_D h { d with off := b } rfl]; rfl
theorem At.sst (h : At H L D d) (n : Int) : stoK 1 (.ptr D 1 0 3) (.int .i64 n) H K = K (Go.Pm.pt H L D { d with steps := n }) [] := by
  rw [sto_fld h.r (by simp [Dk.cs]) rfl rfl rfl, ← set_D h { d with steps := n } rfl]; rfl
theorem At.sbud (h : At H L D d) (n : Int) : stoK 1 (.ptr D 1 0 5) (.int .i64 n) H K = K (Go.Pm.pt H L D { d with bud := n }) [] := by
  rw [sto_fld h.r (by simp [Dk.cs]) rfl rfl rfl, ← set_D h { d with bud := n } rfl]; rfl
theorem At.look (h : At H L D d) (z : AV) (ok : Bool) (nm : List UInt8) : lookV (some .string) z ok (.mp L) (sv nm) H = some (lookL Fil.av z ok (getL nm d.fs)) := lookV_mpo keyS h.m z ok nm
theorem At.upd (h : At H L D d) (nm : List UInt8) (f : Fil) (hl : d.fs.length < 2^40) {K : List AObj → Option β} : updK (some .string) (.mp L) (sv nm) f.av H K = K (Go.Pm.pt H L D { d with fs := putL nm f d.fs }) := by
  rw [updK_mpo keyS h.m nm f f.bel0 hl, ← set_L h]; rfl
theorem At.del (h : At H L D d) (nm : List UInt8) {K : List AObj → Option β} : delK (some .string) (.mp L) (sv nm) H K = K (Go.Pm.pt H L D { d with fs := delL nm d.fs }) := by
  rw [delK_mpo keyS h.m nm, ← set_L h]; rfl
theorem At.len (h : At H L D d) : lenW (.mp L) H = some (.int .i64 (d.fs.length : Int)) := lenW_mpo h.m
end
def DM (f : FuncId) (args : List AV) (d : Dk) (v : AV) (d' : Dk) : Prop := ∀ (H : List AObj) (L D : Nat), At H L D d → EV C f (.ptr D 1 0 0 :: args) H = some (v, pt H L D d', [])
theorem DM.call {f : FuncId} {args : List AV} {d d' : Dk} {v : AV} (h : DM f args d v d') (hg : goodL args = true) {β : Type} {H : List AObj} {L D : Nat} (ha : At H L D d) {K : AV → List AObj → List Nat → Option β} :
    callK (EV C) false f (.ptr D 1 0 0 :: args) H K = K v (pt H L D d') [] := by
  have e1 : frzL H (.ptr D 1 0 0 :: args) = some (.ptr D 1 0 0 :: args) := by simp only [frzL, frz, Option.bind_some, frzL_good H args hg, Option.map_some]
  have e2 : belL 0 (.ptr D 1 0 0 :: args) = false := by simp [belL, AV.bel]
  have e3 : killsL (.ptr D 1 0 0 :: args) = [] := by simp [killsL, kills, killsL_good args hg]
  unfold callK callA
  simp only [Bool.false_eq_true, if_false, e1, Option.bind_some, e2, e3, killAll, h H L D ha]
/-- the end of a method -/
theorem DM.fin {v : AV} {H X : List AObj} {L D : Nat} {d0 d : Dk} (ha : At H L D d0) (hg : v.good = true) : endB false false H.length v (pt H L D d ++ X) [] = some (v, pt H L D d, []) := by
  unfold endB endA
  rw [if_neg (by decide), frz_good _ v hg]
  simp only [Option.map_some, Option.bind_some, kills_good v hg, killAll, Bool.false_eq_true, if_false, bel_good _ v hg, List.all_nil, and_self, if_true]
  rw [List.take_left' (pt_len H L D d)]
theorem DM.fin0 {v : AV} {H : List AObj} {L D : Nat} {d0 d : Dk} (ha : At H L D d0) (hg : v.good = true) : endB false false H.length v (pt H L D d) [] = some (v, pt H L D d, []) := by
  have := DM.fin (X := []) (d := d) ha hg; rwa [List.append_nil] at this
theorem DM.same {v : AV} {H X : List AObj} {L D : Nat} {d : Dk} (ha : At H L D d) (hg : v.good = true) : endB false false H.length v (H ++ X) [] = some (v, pt H L D d, []) := by
  have := DM.fin (X := X) (d := d) ha hg; rwa [pt_self ha] at this ⊢
theorem DM.same0 {v : AV} {H : List AObj} {L D : Nat} {d : Dk} (ha : At H L D d) (hg : v.good = true) : endB false false H.length v H [] = some (v, pt H L D d, []) := by
  have := DM.same (X := []) ha hg; rwa [List.append_nil] at this
/-- an error's number -/
def erA (k : Int) : AV := if k = 0 then .nili else .ifc t_api_Code (.int .i64 k)
theorem er_good (k : Int) : (erA k).good = true := by unfold erA; split <;> rfl
theorem er_ne (k : Int) (h : k ≠ 0) : erA k = .ifc t_api_Code (.int .i64 k) := if_neg h
theorem er_neq (k : Int) (ms : Array (String × TypeId)) (c : TypeId → Bool) : binA .neq (.interface ms) c true (erA k) .nili = some (.bool (decide (k ≠ 0))) := by
  unfold erA
  by_cases h : k = 0
  · rw [if_pos h]; simp [h]; rfl
  · rw [if_neg h]; simp [h]; rfl
def stepF (d : Dk) : Bool × Dk :=
  let d1 := { d with steps := IntKind.i64.wrap (d.steps + 1) }
  if d.has = true then (if d.bud = 0 then (false, { d1 with off := true }) else (true, { d1 with bud := IntKind.i64.wrap (d.bud - 1) })) else (true, d1)
theorem step_m (d : Dk) : DM n_disk_Disk_step [] d (.bool (stepF d).1) (stepF d).2 := fun H L D ha => by
  refine disk_Disk_step_of ?_
  obtain ⟨sz, fs, off, st, has, bud⟩ := d
  have h1 := ha.pt ⟨sz, fs, off, IntKind.i64.wrap (st + 1), has, bud⟩
  have nA : nilA (.ptr D 1 0 0) = some (.ptr D 1 0 0) := rfl
  have oA : ∀ k, offA (.ptr D 1 0 0) k = some (.ptr D 1 0 k) := fun k => by simp [offA]
  simp -implicitDefEqProofs only [nA, oA, Option.bind_some, ha.st, add_int, ha.sst, h1.has, unA, List.append_nil]
  unfold stepF
  dsimp only
  cases has with
  | false =>
    simp -implicitDefEqProofs only [Bool.not_false, condK_t, Bool.false_eq_true, if_false]
    exact DM.fin0 ha rfl
  | true =>
    simp -implicitDefEqProofs only [Bool.not_true, condK_f, if_true, h1.bud, Option.bind_some, eql_int, condK_dec]
    by_cases hb : bud = 0
    · rw [if_pos hb, if_pos hb, h1.soff, pt_pt _ _ ha.lt]
      exact DM.fin0 ha rfl
    · rw [if_neg hb, if_neg hb]
      simp -implicitDefEqProofs only [sub_int, Option.bind_some]
      rw [h1.sbud, pt_pt _ _ ha.lt]
      exact DM.fin0 ha rfl
def namedF (nm : List UInt8) : Bool := decide (1 ≤ nm.length) && decide (nm.length ≤ 16)
theorem named_ok (nm : List UInt8) (H : List AObj) : EV C n_disk_named [sv nm] H = some (.bool (namedF nm), H, []) := by
  refine disk_named_of ?_
  have e : lenS (sv nm) = some (.int .i64 (nm.length : Int)) := rfl
  have fin : ∀ b : Bool, endB false false H.length (.bool b) H [] = some (.bool b, H, []) := fun b => by
    unfold endB endA; simp [frz, kills, killAll, AV.bel]
  simp -implicitDefEqProofs only [e, Option.bind_some, geq_int, splitK_dec, leq_int]
  unfold namedF
  by_cases h : (1 : Int) ≤ (nm.length : Int)
  · rw [if_pos h, fin, show decide (1 ≤ nm.length) = true from decide_eq_true (by omega), Bool.true_and]
    congr 3
    rw [Bool.eq_iff_iff]; simp only [decide_eq_true_eq]; omega
  · rw [if_neg h, fin, show decide (1 ≤ nm.length) = false from decide_eq_false (by omega), Bool.false_and]
theorem namedK (nm : List UInt8) {β : Type} {H : List AObj} {K : AV → List AObj → List Nat → Option β} : callK (EV C) false n_disk_named [sv nm] H K = K (.bool (namedF nm)) H [] := callK_ok (by simp [goodL, sv, AV.good]) (named_ok nm [])
def thereF (d : Dk) (nm : List UInt8) : Int := if d.off = true then 10 else if (getL nm d.fs).isNone = true then 9 else 0
theorem there_m (d : Dk) (nm : List UInt8) : DM n_disk_Disk_there [sv nm] d (erA (thereF d nm)) d := fun H L D ha => by
  refine disk_Disk_there_of ?_
  have nA : nilA (.ptr D 1 0 0) = some (.ptr D 1 0 0) := rfl
  have oA : ∀ k, offA (.ptr D 1 0 0) k = some (.ptr D 1 0 k) := fun k => by simp [offA]
  simp -implicitDefEqProofs only [nA, oA, Option.bind_some, ha.off]
  unfold thereF
  cases ho : d.off with
  | true =>
    simp -implicitDefEqProofs only [condK_t, if_true]
    exact DM.same0 ha rfl
  | false =>
    simp -implicitDefEqProofs only [condK_f, Bool.false_eq_true, if_false, ha.fs, Option.bind_some, ha.look]
    have hn : (H ++ [AObj.row 2 [.agg [.nils, .int .i64 0]]])[H.length]? = some (.row 2 [.agg [.nils, .int .i64 0]]) := by simp
    cases hg : getL nm d.fs with
    | none =>
      simp -implicitDefEqProofs only [lookL, if_true, extA_0, extA_1, Option.bind_some]
      rw [new_agg (by simp) rfl]
      refine Eq.trans (sto_all hn rfl rfl rfl rfl) ?_
      simp -implicitDefEqProofs only [unA, Bool.not_false, Option.bind_some, condK_t, Option.isNone_none, if_true]
      rw [List.set_append_right _ _ (by omega)]
      exact DM.same ha rfl
    | some f =>
      simp -implicitDefEqProofs only [lookL, if_true, extA_0, extA_1, Option.bind_some]
      rw [new_agg (by simp) rfl]
      refine Eq.trans (sto_all hn rfl rfl rfl (belL_good _ _ (by simp [Fil.cs, goodL, AV.good]))) ?_
      simp -implicitDefEqProofs only [unA, Bool.not_true, Option.bind_some, condK_f, Option.isNone_some, Bool.false_eq_true, if_false]
      rw [List.set_append_right _ _ (by omega)]
      exact DM.same ha rfl
end Go.Pm
