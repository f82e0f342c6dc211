/- A part of the proof: what the functions of the program answer, as plain lists and numbers. -/
import Derived.Test.YtahipmiaknbkoaaP22
namespace Go.Pm
open Go.Proofs
set_option linter.unusedVariables false
set_option linter.unusedSimpArgs false
theorem nP (D : Nat) : nilA (.ptr D 1 0 0) = some (.ptr D 1 0 0) := rfl
theorem oP (D k : Nat) : offA (.ptr D 1 0 0) k = some (.ptr D 1 0 k) := by simp [offA]
section
variable {f : FuncId} {args : List AV} {d d0 d' : Dk} {v : AV} {β : Type} {H : List AObj} {L D : Nat} {K : AV → List AObj → List Nat → Option β}
theorem DM.callX (h : DM f args d v d') (hg : goodL args = true) (ha : At H L D d) (X : List AObj) : callK (EV C) false f (.ptr D 1 0 0 :: args) (H ++ X) K = K v (pt H L D d' ++ X) [] := by
  rw [h.call hg (ha.app X), pt_app ha]
theorem DM.callP (h : DM f args d v d') (hg : goodL args = true) (ha : At H L D d0) : callK (EV C) false f (.ptr D 1 0 0 :: args) (pt H L D d) K = K v (pt H L D d') [] := by
  rw [h.call hg (ha.pt d), pt_pt _ _ ha.lt]
theorem DM.callPX (h : DM f args d v d') (hg : goodL args = true) (ha : At H L D d0) (X : List AObj) : callK (EV C) false f (.ptr D 1 0 0 :: args) (pt H L D d ++ X) K = K v (pt H L D d' ++ X) [] := by
  rw [h.callX hg (ha.pt d) X, pt_pt _ _ ha.lt]
end
def totF (fs : List (List UInt8 × Fil)) : Nat := (fs.map fun p => p.2.b.length).sum
structure Dk.ok (d : Dk) : Prop where
  s0 : 0 ≤ d.sz
  s1 : d.sz < 2^40
  t : (totF d.fs : Int) ≤ d.sz
  nd : (d.fs.map (·.1)).Nodup
  n8 : d.fs.length ≤ 8
  sy : ∀ p ∈ d.fs, 0 ≤ p.2.sy ∧ p.2.sy ≤ p.2.b.length
  nl : ∀ p ∈ d.fs, p.1.length < 2^40
theorem sumLen_fs : ∀ fs : List (List UInt8 × Fil), sumLen (fs.map (entA sv Fil.av)) = some (totF fs)
  | [] => rfl
  | p :: fs => by
    simp only [List.map_cons, sumLen, sumLen_fs fs, totF, List.sum_cons]
    simp [entA, Fil.av, Fil.cs, fileLen, bys]
def roomOf (d : Dk) : Int := d.sz - totF d.fs
theorem Room_ok {d : Dk} (ho : d.ok) {H : List AObj} {L D : Nat} (ha : At H L D d) : EV C n_disk_Disk_Room [.ptr D 1 0 0] H = some (.int .i64 (roomOf d), H, []) := by
  rw [EV_I C (F := roomF) rfl]
  have h0 := ho.s0; have h1 := ho.s1; have h2 := ho.t
  have hm := ha.m
  unfold fobj mpo at hm
  simp only [roomF, ha.r, drow, Dk.cs, hm, sumLen_fs, Option.bind_some]
  rw [if_pos ⟨h0, by omega, by omega⟩]
  rfl
theorem Room_m {d : Dk} (ho : d.ok) : DM n_disk_Disk_Room [] d (.int .i64 (roomOf d)) d := fun H L D ha => by rw [pt_self ha]; exact Room_ok ho ha
def fileOf (nm : List UInt8) (d : Dk) : Fil := (getL nm d.fs).getD ⟨[], 0⟩
def putF (d : Dk) (nm : List UInt8) (f : Fil) : Dk := { d with fs := putL nm f d.fs }
def stepE (d : Dk) : Int × Dk := (if (stepF d).1 = true then 0 else 10, (stepF d).2)
def appendF (d : Dk) (nm b : List UInt8) : Int × Dk :=
  if d.off = true then (10, d)
  else if namedF nm = true then
    (if roomOf d < (b.length : Int) then (11, d)
    else if (getL nm d.fs).isNone = true ∧ 8 ≤ d.fs.length then (11, d)
    else stepE (putF d nm ⟨(fileOf nm d).b ++ b, (fileOf nm d).sy⟩))
  else (1, d)
theorem lit2 (a b : List UInt8) (v : AV) (hv : v = bys a ∨ (v = .nils ∧ a = [])) {β : Type} {H : List AObj} {K : AV → List AObj → List Nat → Option β} : litK 1 2 .nils [(0, v), (1, bys b)] H K = K (.lst ([a, b].map bys)) H [] := by
  rcases hv with rfl | ⟨rfl, rfl⟩ <;> rfl
theorem tot_get {nm : List UInt8} {f : Fil} {fs : List (List UInt8 × Fil)} (h : getL nm fs = some f) : f.b.length ≤ totF fs := by
  have hm := getL_mem h
  have : ∀ l : List (List UInt8 × Fil), (nm, f) ∈ l → f.b.length ≤ totF l := fun l => by
    induction l with
    | nil => intro h; cases h
    | cons p l ih =>
      intro h
      simp only [totF, List.map_cons, List.sum_cons]
      rcases List.mem_cons.1 h with rfl | h
      · simp
      · have := ih h; simp only [totF] at this; omega
  exact this fs hm
set_option maxHeartbeats 1000000 in
theorem Append_m {d : Dk} (ho : d.ok) (nm b : List UInt8) (hb : b.length ≤ 2^45) : DM n_disk_Disk_Append [sv nm, bys b] d (erA (appendF d nm b).1) (appendF d nm b).2 := fun H L D ha => by
  refine disk_Disk_Append_of ?_
  have h0 := ho.s0; have h1 := ho.s1; have h2 := ho.t; have h8 := ho.n8
  obtain ⟨g, hg⟩ : ∃ g, g = fileOf nm d := ⟨_, rfl⟩
  -- what is found
  obtain ⟨fc, v0, w, e1, e2, e3, e4, e5⟩ : ∃ (fc : List AV) (v0 : AV) (has : Bool), lookL Fil.av (.agg [.nils, .int .i64 0]) true (getL nm d.fs) = .tup [.agg fc, .bool has] ∧ fc = [v0, .int .i64 g.sy] ∧ (v0 = bys g.b ∨ (v0 = .nils ∧ g.b = [])) ∧ has = !(getL nm d.fs).isNone ∧ g.b.length ≤ totF d.fs := by
    rw [hg]; unfold fileOf
    cases hh : getL nm d.fs with
    | none => exact ⟨_, _, _, rfl, rfl, .inr ⟨rfl, rfl⟩, rfl, by simp⟩
    | some f => exact ⟨_, _, _, rfl, rfl, .inl rfl, rfl, tot_get hh⟩
  simp -implicitDefEqProofs only [nP, oP, Option.bind_some, ha.fs, ha.look, e1, extA_0, extA_1]
  rw [new_agg (by simp) rfl]
  have hv1 : v0.one = true ∧ v0.cells = [v0] ∧ ∀ m, v0.bel m = true := by
    rcases e3 with rfl | ⟨rfl, _⟩
    · exact ⟨rfl, rfl, fun m => bel_good m _ (good_bys _)⟩
    · exact ⟨rfl, rfl, fun m => rfl⟩
  have hn : (H ++ [AObj.row 2 [.agg [.nils, .int .i64 0]]])[H.length]? = some (.row 2 [.agg [.nils, .int .i64 0]]) := by simp
  rw [e2]
  refine Eq.trans (sto_all hn rfl rfl (by simp only [List.all_cons, hv1.1, List.all_nil]; rfl) (by simp only [belL, hv1.2.2]; rfl)) ?_
  rw [List.set_append_right _ _ (by omega), Nat.sub_self, List.set_cons_zero]
  obtain ⟨X, hX⟩ : ∃ X, X = [AObj.row 2 [.agg [v0, .int .i64 g.sy]]] := ⟨_, rfl⟩
  rw [← hX]
  have hx0 : ∀ H' : List AObj, H'.length = H.length → (H' ++ X)[H.length]? = some (.row 2 [.agg [v0, .int .i64 g.sy]]) := fun H' h => by rw [hX, List.getElem?_append_right (by omega)]; simp [h]
  simp -implicitDefEqProofs only [nP, oP, Option.bind_some, (ha.app X).off]
  unfold appendF
  cases hoff : d.off with
  | true =>
    simp -implicitDefEqProofs only [condK_t, if_true, List.append_nil]
    exact DM.same ha rfl
  | false =>
    simp -implicitDefEqProofs only [condK_f, Bool.false_eq_true, if_false, namedK, unA, Option.bind_some]
    cases hnm : namedF nm with
    | false =>
      simp -implicitDefEqProofs only [Bool.not_false, condK_t, List.append_nil, Bool.false_eq_true, if_false]
      exact DM.same ha rfl
    | true =>
      simp -implicitDefEqProofs only [Bool.not_true, condK_f, if_true, lenV_bys, Option.bind_some]
      rw [(Room_m ho).callX rfl ha X, pt_self ha]
      simp -implicitDefEqProofs only [gtr_int, Option.bind_some, splitK_dec]
      by_cases hr : roomOf d < (b.length : Int)
      · rw [if_pos hr, if_pos hr]
        exact DM.same ha rfl
      · rw [if_neg hr, if_neg hr]
        -- the body
        have body : ∀ E : List Nat, E = [] → ((loadA false 1 (.ptr H.length 1 0 0) (H ++ X)).bind fun a37 =>
          litK 1 2 .nils [(0, a37), (1, bys b)] (H ++ X) fun a38 H38 E38 =>
          callK (EV C) false n_Concat_byte [a38] H38 fun a39 H39 E39 =>
          stoK 1 (.ptr H.length 1 0 0) a39 H39 fun H41 E41 =>
          (loadA false 1 (.ptr D 1 0 1) H41).bind fun a44 =>
          (loadA true 2 (.ptr H.length 1 0 0) H41).bind fun a45 =>
          updK (some Go.TypeDesc.string) a44 (sv nm) a45 H41 fun H46 =>
          callK (EV C) false n_disk_Disk_step [.ptr D 1 0 0] H46 fun a47 H47 E47 =>
          (unA .not a47).bind fun a48 =>
          condK a48
            (endB false false H.length (.ifc t_api_Code (.int .i64 10)) H47 (E47 ++ (E41 ++ (E39 ++ (E38 ++ E)))))
            (endB false false H.length .nili H47 (E47 ++ (E41 ++ (E39 ++ (E38 ++ E)))))) = some (erA (stepE (putF d nm ⟨g.b ++ b, g.sy⟩)).1, pt H L D (stepE (putF d nm ⟨g.b ++ b, g.sy⟩)).2, []) := fun E hE => by
          subst hE
          rw [ld_fld (hx0 H rfl) rfl, Option.bind_some, lit2 g.b b v0 e3, callK_ok (by simp [goodL]) (Concat_byte_ok [g.b, b] (by simp) (by simp; omega))]
          rw [sto_fld (hx0 H rfl) (by simp) rfl rfl (bel_good _ _ (good_bys _))]
          rw [List.set_append_right _ _ (by omega), Nat.sub_self]
          obtain ⟨X2, hX2⟩ : ∃ X2, X2 = X.set 0 (AObj.row 2 [AV.agg ([v0, AV.int IntKind.i64 g.sy].set 0 (bys [g.b, b].flatten))]) := ⟨_, rfl⟩
          rw [← hX2]
          have hX2' : X2 = [AObj.row 2 [.agg [bys (g.b ++ b), .int .i64 g.sy]]] := by rw [hX2, hX]; simp
          have hx2 : (H ++ X2)[H.length]? = some (.row 2 [.agg [bys (g.b ++ b), .int .i64 g.sy]]) := by rw [hX2', List.getElem?_append_right (by omega)]; simp
          rw [(ha.app X2).fs, Option.bind_some, ld_all (n := 2) hx2 rfl, Option.bind_some]
          rw [show (AV.agg [bys (g.b ++ b), .int .i64 g.sy]) = Fil.av ⟨g.b ++ b, g.sy⟩ from rfl, (ha.app X2).upd nm _ (by omega), pt_app ha]
          rw [show ({ d with fs := putL nm ⟨g.b ++ b, g.sy⟩ d.fs } : Dk) = putF d nm ⟨g.b ++ b, g.sy⟩ from rfl]
          rw [(step_m _).callPX rfl ha X2]
          simp -implicitDefEqProofs only [unA, Option.bind_some, List.append_nil]
          unfold stepE
          cases (stepF (putF d nm ⟨g.b ++ b, g.sy⟩)).1 with
          | true =>
            simp -implicitDefEqProofs only [Bool.not_true, condK_f, if_true]
            exact DM.fin ha rfl
          | false =>
            simp -implicitDefEqProofs only [Bool.not_false, condK_t, Bool.false_eq_true, if_false]
            exact DM.fin ha rfl
        rw [← hg]
        cases hw : w with
        | true =>
          have hn : ¬ ((getL nm d.fs).isNone = true ∧ 8 ≤ d.fs.length) := fun h => by rw [hw, h.1] at e4; cases e4
          rw [if_neg hn]
          simp -implicitDefEqProofs only [unA, Bool.not_true, Option.bind_some, splitK_f, nP, oP, Nat.zero_add, Nat.add_zero]
          exact body _ rfl
        | false =>
          have hn : (getL nm d.fs).isNone = true := by rw [hw] at e4; cases hh : (getL nm d.fs).isNone <;> simp [hh] at e4 ⊢
          simp -implicitDefEqProofs only [unA, Bool.not_false, Option.bind_some, splitK_t, nP, oP, (ha.app X).fs, (ha.app X).len, geq_int, condK_dec, Nat.zero_add, Nat.add_zero]
          by_cases h9 : 8 ≤ d.fs.length
          · rw [if_pos (show (8 : Int) ≤ (d.fs.length : Int) by omega), if_pos ⟨hn, h9⟩]
            exact DM.same ha rfl
          · rw [if_neg (show ¬ (8 : Int) ≤ (d.fs.length : Int) by omega), if_neg (fun h => h9 h.2)]
            exact body _ rfl
end Go.Pm
