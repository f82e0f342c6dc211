/- A part of the proof: what the functions of the program answer, as plain lists and numbers. -/
import Derived.Test.YtahipmiaknbkoaaP12
import Derived.Test.YtahipmiaknbkoaaP14
import Derived.Test.YtahipmiaknbkoaaP15
import Derived.Test.YtahipmiaknbkoaaP23
namespace Go.Pm
open Go.Proofs
set_option linter.unusedVariables false
set_option linter.unusedSimpArgs false
theorem DM.finz {v u : AV} {H X : List AObj} {L D : Nat} {d0 d : Dk} (ha : At H L D d0) (hf : ∀ H', frz H' v = some u) (hk : kills v = []) (hg : u.good = true) : endB false false H.length v (pt H L D d ++ X) [] = some (u, pt H L D d, []) := by
  unfold endB endA
  rw [if_neg (by decide), hf]
  simp only [Option.map_some, Option.bind_some, hk, killAll, Bool.false_eq_true, if_false, bel_good _ u hg, List.all_nil, and_self, if_true]
  rw [List.take_left' (pt_len H L D d)]
theorem DM.samez {v u : AV} {H X : List AObj} {L D : Nat} {d : Dk} (ha : At H L D d) (hf : ∀ H', frz H' v = some u) (hk : kills v = []) (hg : u.good = true) : endB false false H.length v (H ++ X) [] = some (u, pt H L D d, []) := by
  have := DM.finz (X := X) (d := d) ha hf hk hg; rwa [pt_self ha] at this ⊢
theorem DM.samez0 {v u : AV} {H : List AObj} {L D : Nat} {d : Dk} (ha : At H L D d) (hf : ∀ H', frz H' v = some u) (hk : kills v = []) (hg : u.good = true) : endB false false H.length v H [] = some (u, pt H L D d, []) := by
  have := DM.samez (X := []) ha hf hk hg; rwa [List.append_nil] at this
theorem new2 {β : Type} {a b : AV} {H : List AObj} {K : AV → List AObj → List Nat → Option β} (h1 : [a, b].all AV.one = true) : newK (.agg [a, b]) H K = K (.ptr H.length 1 0 0) (H ++ [.row 2 [.agg [a, b]]]) [] := new_agg (by simp) h1
theorem DM.callS {f : FuncId} {args : List AV} {d : Dk} {v : AV} (h : DM f args d v d) (hg : goodL args = true) {β : Type} {H : List AObj} {L D : Nat} (ha : At H L D d) {K : AV → List AObj → List Nat → Option β} :
    callK (EV C) false f (.ptr D 1 0 0 :: args) H K = K v H [] := by rw [h.call hg ha, pt_self ha]
theorem er_frz (k : Int) (H : List AObj) : frz H (erA k) = some (erA k) := frz_good _ _ (er_good k)
theorem er_kills (k : Int) : kills (erA k) = [] := kills_good _ (er_good k)
theorem tup_good (l : List UInt8) (k : Int) : (AV.tup [bys l, erA k]).good = true := by
  have h1 := good_bys l
  have h2 := er_good k
  unfold AV.good goodL goodL goodL
  rw [h1, h2]; rfl
theorem tup_frz (k : Int) (H : List AObj) : frz H (.tup [.nils, erA k]) = some (.tup [bys [], erA k]) := by
  unfold frz frzL frzL frzL
  rw [er_frz]; rfl
theorem tup_kills (k : Int) : kills (.tup [.nils, erA k]) = [] := by
  unfold kills killsL killsL killsL
  rw [er_kills]; rfl
def readF (d : Dk) (nm : List UInt8) : List UInt8 := if thereF d nm = 0 then (fileOf nm d).b else []
theorem there_some {d : Dk} {nm : List UInt8} (h : thereF d nm = 0) : ∃ f, getL nm d.fs = some f ∧ d.off = false := by
  unfold thereF at h
  split at h
  · cases h
  · split at h
    · cases h
    · rename_i h1 h2
      cases hh : getL nm d.fs with
      | none => rw [hh] at h2; simp at h2
      | some f => exact ⟨f, rfl, by simpa using h1⟩
theorem sv_good (nm : List UInt8) : goodL [sv nm] = true := rfl
theorem Read_m {d : Dk} (ho : d.ok) (nm : List UInt8) : DM n_disk_Disk_Read [sv nm] d (.tup [bys (readF d nm), erA (thereF d nm)]) d := fun H L D ha => by
  refine disk_Disk_Read_of ?_
  have h1 := ho.s1; have h2 := ho.t
  dsimp only
  rw [(there_m d nm).callS (sv_good nm) ha]
  simp -implicitDefEqProofs only [er_neq, Option.bind_some, condK_dec]
  unfold readF
  by_cases h : thereF d nm = 0
  · rw [if_neg (fun q => q h), if_pos h]
    obtain ⟨f, hf, _⟩ := there_some h
    simp -implicitDefEqProofs only [nP, oP, Option.bind_some, ha.fs, ha.look, hf, lookL, Bool.false_eq_true, if_false]
    rw [show fldA false 1 0 f.av = some (bys f.b) from rfl, Option.bind_some]
    have hl := tot_get hf
    rw [callK_ok (by simp [goodL]) (Clone_byte_ok f.b (by omega))]
    rw [h]
    rw [show (fileOf nm d).b = f.b from by unfold fileOf; rw [hf]; rfl]
    exact DM.same0 ha (tup_good f.b 0)
  · rw [if_pos h, if_neg h]
    exact DM.samez0 (u := .tup [bys [], erA (thereF d nm)]) ha (tup_frz _) (tup_kills _) (tup_good _ _)
def syncF (d : Dk) (nm : List UInt8) : Int × Dk :=
  if thereF d nm = 0 then (if (stepF d).1 = true then (0, putF (stepF d).2 nm ⟨(fileOf nm d).b, (fileOf nm d).b.length⟩) else (10, (stepF d).2)) else (thereF d nm, d)
theorem step_fs (d : Dk) : (stepF d).2.fs = d.fs := by
  unfold stepF; dsimp only; split
  · split <;> rfl
  · rfl
theorem step_sz (d : Dk) : (stepF d).2.sz = d.sz := by
  unfold stepF; dsimp only; split
  · split <;> rfl
  · rfl
set_option maxHeartbeats 1000000 in
theorem Sync_m {d : Dk} (ho : d.ok) (nm : List UInt8) : DM n_disk_Disk_Sync [sv nm] d (erA (syncF d nm).1) (syncF d nm).2 := fun H L D ha => by
  refine disk_Disk_Sync_of ?_
  have h1 := ho.s1; have h2 := ho.t; have h8 := ho.n8
  dsimp only
  rw [(there_m d nm).callS (sv_good nm) ha]
  simp -implicitDefEqProofs only [er_neq, Option.bind_some, condK_dec]
  unfold syncF
  by_cases h : thereF d nm = 0
  · rw [if_neg (fun q => q h), if_pos h]
    obtain ⟨f, hf, _⟩ := there_some h
    have hfo : fileOf nm d = f := by unfold fileOf; rw [hf]; rfl
    rw [hfo, (step_m d).call rfl ha]
    simp -implicitDefEqProofs only [unA, Option.bind_some]
    cases hs : (stepF d).1 with
    | false =>
      simp -implicitDefEqProofs only [Bool.not_false, condK_t, Bool.false_eq_true, if_false, List.append_nil]
      exact DM.fin0 ha rfl
    | true =>
      have hp := ha.pt (stepF d).2
      have hf2 : getL nm (stepF d).2.fs = some f := by rw [step_fs]; exact hf
      simp -implicitDefEqProofs only [Bool.not_true, condK_f, if_true, nP, oP, Option.bind_some, hp.fs, hp.look, hf2, lookL, Bool.false_eq_true, if_false]
      rw [new2 rfl, pt_len]
      have hn : ∀ Y : AObj, (pt H L D (stepF d).2 ++ [Y])[H.length]? = some Y := fun Y => by
        rw [List.getElem?_append_right (by rw [pt_len]; omega), pt_len]; simp
      have hset : ∀ Y Z : AObj, (pt H L D (stepF d).2 ++ [Y]).set H.length Z = pt H L D (stepF d).2 ++ [Z] := fun Y Z => by
        rw [List.set_append_right _ _ (by rw [pt_len]; omega), pt_len]; simp
      refine Eq.trans (sto_all (hn _) rfl rfl rfl (belL_good _ _ (by simp [Fil.cs, goodL, AV.good]))) ?_
      rw [hset, oP, Option.bind_some, ld_fld (j := 0) (v := bys f.b) (hn (.row 2 [.agg f.cs])) rfl, Option.bind_some, lenV_bys, Option.bind_some, oP, Option.bind_some]
      rw [sto_fld (j := 1) (hn (.row 2 [.agg f.cs])) (by simp [Fil.cs]) rfl rfl rfl, hset]
      have hq := hp.app [AObj.row 2 [.agg (f.cs.set 1 (.int .i64 f.b.length))]]
      rw [hq.fs, Option.bind_some, ld_all (n := 2) (hn _) rfl, Option.bind_some]
      refine (hq.upd nm ⟨f.b, f.b.length⟩ (by rw [step_fs]; omega)).trans ?_
      rw [pt_app hp, pt_pt _ _ ha.lt]
      simp -implicitDefEqProofs only [List.append_nil]
      exact DM.fin ha rfl
  · rw [if_pos h, if_neg h]
    exact DM.same0 ha (er_good _)
theorem On_m (d : Dk) : DM n_disk_Disk_On [] d (.bool (!d.off)) d := fun H L D ha => by
  refine disk_Disk_On_of ?_
  simp -implicitDefEqProofs only [nP, oP, Option.bind_some, ha.off, unA]
  exact DM.same0 ha rfl
def removeF (d : Dk) (nm : List UInt8) : Int × Dk :=
  if thereF d nm = 0 then (if (stepF d).1 = true then (0, { (stepF d).2 with fs := delL nm d.fs }) else (10, (stepF d).2)) else (thereF d nm, d)
theorem Remove_m (d : Dk) (nm : List UInt8) : DM n_disk_Disk_Remove [sv nm] d (erA (removeF d nm).1) (removeF d nm).2 := fun H L D ha => by
  refine disk_Disk_Remove_of ?_
  dsimp only
  rw [(there_m d nm).callS (sv_good nm) ha]
  simp -implicitDefEqProofs only [er_neq, Option.bind_some, condK_dec]
  unfold removeF
  by_cases h : thereF d nm = 0
  · rw [if_neg (fun q => q h), if_pos h, (step_m d).call rfl ha]
    simp -implicitDefEqProofs only [unA, Option.bind_some]
    cases hs : (stepF d).1 with
    | false =>
      simp -implicitDefEqProofs only [Bool.not_false, condK_t, Bool.false_eq_true, if_false, List.append_nil]
      exact DM.fin0 ha rfl
    | true =>
      have hp := ha.pt (stepF d).2
      simp -implicitDefEqProofs only [Bool.not_true, condK_f, if_true, nP, oP, Option.bind_some, hp.fs, List.append_nil]
      rw [hp.del nm, pt_pt _ _ ha.lt, step_fs]
      exact DM.fin0 ha rfl
  · rw [if_pos h, if_neg h]
    exact DM.same0 ha (er_good _)
def renameF (d : Dk) (a b : List UInt8) : Int × Dk :=
  if d.off = false ∧ namedF b = false then (1, d)
  else if thereF d a = 0 then (if (stepF d).1 = true then (0, { (stepF d).2 with fs := putL b (fileOf a d) (delL a d.fs) }) else (10, (stepF d).2)) else (thereF d a, d)
theorem del_len {α β : Type} [DecidableEq α] (k : α) : ∀ l : List (α × β), (delL k l).length ≤ l.length
  | [] => Nat.le_refl _
  | p :: l => by
    unfold delL
    split
    · simp
    · simpa using del_len k l
set_option maxHeartbeats 1000000 in
theorem Rename_m {d : Dk} (ho : d.ok) (a b : List UInt8) : DM n_disk_Disk_Rename [sv a, sv b] d (erA (renameF d a b).1) (renameF d a b).2 := fun H L D ha => by
  refine disk_Disk_Rename_of ?_
  have h1 := ho.s1; have h2 := ho.t; have h8 := ho.n8
  have key : ∀ E : List Nat, E = [] → (callK (EV C) false n_disk_Disk_there [.ptr D 1 0 0, sv a] H fun a26 H26 E26 =>
    (binA .neq (Go.TypeDesc.interface #[("Error", 123)]) (cmpT Try.prog) true a26 .nili).bind fun a27 =>
    condK a27
      (endB false false H.length a26 H26 (E26 ++ E))
      (callK (EV C) false n_disk_Disk_step [.ptr D 1 0 0] H26 fun a28 H28 E28 =>
      (unA .not a28).bind fun a29 =>
      condK a29
        (endB false false H.length (.ifc t_api_Code (.int .i64 10)) H28 (E28 ++ (E26 ++ E)))
        ((nilA (.ptr D 1 0 0)).bind fun a30 =>
        (offA a30 1).bind fun a31 =>
        (loadA false 1 a31 H28).bind fun a32 =>
        (lookV (some Go.TypeDesc.string) (.agg [.nils, (.int .i64 0)]) false a32 (sv a) H28).bind fun a33 =>
        newK (.agg [.nils, (.int .i64 0)]) H28 fun a34 H34 E34 =>
        stoK 2 a34 a33 H34 fun H35 E35 =>
        (nilA (.ptr D 1 0 0)).bind fun a36 =>
        (offA a36 1).bind fun a37 =>
        (loadA false 1 a37 H35).bind fun a38 =>
        delK (some Go.TypeDesc.string) a38 (sv a) H35 fun H39 =>
        (nilA (.ptr D 1 0 0)).bind fun a40 =>
        (offA a40 1).bind fun a41 =>
        (loadA false 1 a41 H39).bind fun a42 =>
        (loadA true 2 a34 H39).bind fun a43 =>
        updK (some Go.TypeDesc.string) a42 (sv b) a43 H39 fun H44 =>
        endB false false H.length .nili H44 (E35 ++ (E34 ++ (E28 ++ (E26 ++ E))))))) = some (erA (if thereF d a = 0 then (if (stepF d).1 = true then (0, { (stepF d).2 with fs := putL b (fileOf a d) (delL a d.fs) }) else (10, (stepF d).2)) else (thereF d a, d) : Int × Dk).1, pt H L D (if thereF d a = 0 then (if (stepF d).1 = true then (0, { (stepF d).2 with fs := putL b (fileOf a d) (delL a d.fs) }) else (10, (stepF d).2)) else (thereF d a, d) : Int × Dk).2, []) := fun E hE => by
    subst hE
    rw [(there_m d a).callS (sv_good a) ha]
    simp -implicitDefEqProofs only [er_neq, Option.bind_some, condK_dec]
    by_cases h : thereF d a = 0
    · rw [if_neg (fun q => q h), if_pos h]
      obtain ⟨f, hf, _⟩ := there_some h
      have hfo : fileOf a d = f := by unfold fileOf; rw [hf]; rfl
      rw [hfo, (step_m d).call rfl ha]
      simp -implicitDefEqProofs only [unA, Option.bind_some]
      cases hs : (stepF d).1 with
      | false =>
        simp -implicitDefEqProofs only [Bool.not_false, condK_t, Bool.false_eq_true, if_false, List.append_nil]
        exact DM.fin0 ha rfl
      | true =>
        have hp := ha.pt (stepF d).2
        have hf2 : getL a (stepF d).2.fs = some f := by rw [step_fs]; exact hf
        simp -implicitDefEqProofs only [Bool.not_true, condK_f, if_true, nP, oP, Option.bind_some, hp.fs, hp.look, hf2, lookL, Bool.false_eq_true, if_false]
        rw [new2 rfl, pt_len]
        have hn : ∀ (d' : Dk) (Y : AObj), (pt H L D d' ++ [Y])[H.length]? = some Y := fun d' Y => by
          rw [List.getElem?_append_right (by rw [pt_len]; omega), pt_len]; simp
        refine Eq.trans (sto_all (hn _ _) rfl rfl rfl (belL_good _ _ (by simp [Fil.cs, goodL, AV.good]))) ?_
        rw [show (pt H L D (stepF d).2 ++ [AObj.row 2 [AV.agg [AV.nils, AV.int IntKind.i64 0]]]).set H.length (AObj.row 2 [AV.agg f.cs]) = pt H L D (stepF d).2 ++ [AObj.row 2 [.agg f.cs]] from by
          rw [List.set_append_right _ _ (by rw [pt_len]; omega), pt_len]; simp]
        have hq := hp.app [AObj.row 2 [.agg f.cs]]
        rw [hq.fs, Option.bind_some, hq.del a, pt_app hp, pt_pt _ _ ha.lt, step_fs]
        have hq2 := (ha.pt { (stepF d).2 with fs := delL a d.fs }).app [AObj.row 2 [.agg f.cs]]
        have hdl := del_len a d.fs
        refine (congrArg (fun x => Option.bind x _) hq2.fs).trans ?_
        rw [Option.bind_some]
        refine (congrArg (fun x => Option.bind x _) (ld_all (n := 2) (hn { (stepF d).2 with fs := delL a d.fs } (.row 2 [.agg f.cs])) rfl)).trans ?_
        rw [Option.bind_some]
        refine (hq2.upd b f (by show (delL a d.fs).length < _; omega)).trans ?_
        rw [pt_app (ha.pt _), pt_pt _ _ ha.lt]
        simp -implicitDefEqProofs only [List.append_nil]
        exact DM.fin ha rfl
    · rw [if_pos h, if_neg h]
      exact DM.same0 ha (er_good _)
  simp -implicitDefEqProofs only [nP, oP, Option.bind_some, ha.off, unA]
  unfold renameF
  cases hof : d.off with
  | true =>
    simp -implicitDefEqProofs only [Bool.not_true, splitK_f]
    rw [if_neg (fun h => by cases h.1)]
    have := key [] rfl
    simp -implicitDefEqProofs only [nP, oP, Option.bind_some, unA] at this
    exact this
  | false =>
    simp -implicitDefEqProofs only [Bool.not_false, splitK_t, namedK, Option.bind_some]
    cases hnm : namedF b with
    | false =>
      simp -implicitDefEqProofs only [Bool.not_false, condK_t, List.append_nil]
      rw [if_pos ⟨trivial, trivial⟩]
      exact DM.same0 ha rfl
    | true =>
      simp -implicitDefEqProofs only [Bool.not_true, condK_f]
      rw [if_neg (fun h => by cases h.2)]
      have := key ([] ++ []) rfl
      simp -implicitDefEqProofs only [nP, oP, Option.bind_some, unA] at this
      exact this
def newD (sz : Int) : Dk := ⟨sz, [], false, 0, false, 0⟩
theorem New_ok (sz : Int) (h0 : 0 ≤ sz) (h1 : sz ≤ 67108864) (H : List AObj) : EV C n_disk_New [.int .i64 sz] H = some (.tup [.ptr (H.length + 1) 1 0 0, .nili], H ++ [fobj [], drow H.length (newD sz)], []) := by
  refine disk_New_of ?_
  simp -implicitDefEqProofs only [lss_int, gtr_int, Option.bind_some, splitK_dec, condK_dec]
  rw [if_neg (by omega), if_neg (by omega)]
  unfold mpK
  refine (congrArg (fun x => Option.bind x _) (show fillB _ _ = some [.int .i64 sz, .mp H.length, .bool false, .int .i64 0, .bool false, .int .i64 0] from rfl)).trans ?_
  rw [Option.bind_some, new_agg (by simp) rfl]
  simp only [List.length_append, List.length_singleton, List.append_assoc]
  rfl
def namesF (d : Dk) : List (List UInt8) := sortL (d.fs.map (·.1))
def strs (l : List (List UInt8)) : AV := .lst (l.map sv)
theorem strs_good (l : List (List UInt8)) : (strs l).good = true := goodL_all.2 fun v hv => by
  obtain ⟨x, _, rfl⟩ := List.mem_map.1 hv; rfl
theorem keys_fs : ∀ fs : List (List UInt8 × Fil), (fs.map (entA sv Fil.av)).mapM keyL = some (fs.map (·.1))
  | [] => rfl
  | p :: fs => by
    rw [List.map_cons, List.mapM_cons, keys_fs fs]
    rfl
theorem Names_m {d : Dk} (h8 : d.fs.length ≤ 8) (hnl : ∀ p ∈ d.fs, p.1.length < 2^40) : DM n_disk_Disk_Names [] d (strs (namesF d)) d := fun H L D ha => by
  refine disk_Disk_Names_of ?_
  simp -implicitDefEqProofs only [nP, oP, Option.bind_some, ha.fs]
  have hk : EV C n_maps_Keys_disk_file [.mp L] H = some (.clo n_maps_Keys_map_string_disk_file_string_disk_file_1 [] [.ptr H.length 1 0 0], H ++ [.row 1 [.mp L]], []) := by
    refine maps_Keys_disk_file_of ?_
    rfl
  rw [callK_raw hk]
  have hs : EV C n_Sorted_string [.clo n_maps_Keys_map_string_disk_file_string_disk_file_1 [] [.ptr H.length 1 0 0]] (H ++ [.row 1 [.mp L]]) = some (strs (namesF d), H ++ [.row 1 [.mp L]], []) := by
    rw [EV_I C (F := sortF 51) rfl]
    have hm := (ha.app [.row 1 [.mp L]]).m
    unfold fobj mpo at hm
    simp only [sortF, if_true, List.getElem?_append_right (Nat.le_refl _), Nat.sub_self, List.getElem?_cons_zero, hm, keys_fs, Option.bind_some]
    rw [if_pos ⟨by simp; omega, List.all_eq_true.2 fun k hk => by
      obtain ⟨p, hp, rfl⟩ := List.mem_map.1 hk; exact decide_eq_true (hnl p hp)⟩]
    rfl
  unfold callK callA
  simp only [Bool.false_eq_true, if_false, frzL, frz, Option.bind_some, Option.map_some, belL, AV.bel, killsL, kills, killAll, List.append_nil, Bool.and_true, Nat.not_lt_zero, decide_false]
  rw [hs]
  exact DM.same ha (strs_good _)
end Go.Pm
