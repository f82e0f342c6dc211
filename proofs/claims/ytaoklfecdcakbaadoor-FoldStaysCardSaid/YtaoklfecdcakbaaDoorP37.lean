/- A part of the proof: what the functions of the program answer, as plain lists and numbers. -/
import Derived.Test.YtaoklfecdcakbaaDoorP35
import Derived.Test.YtaoklfecdcakbaaDoorP36
namespace Go.Pm
open Go.Proofs
set_option linter.unusedVariables false
set_option linter.unusedSimpArgs false
structure Fw (G : List AObj) (e : Ent) (o : Nat) (ka : AV) (vs : List Ver) : Prop where
  r0 : G[0]? = some (.row 3 [e.av])
  ro : G[o]? = some (.row 3 [EX e ka])
  fh : FoldH G 3 2 0 vs
theorem FoldH.wr {G : List AObj} {l r d : Nat} {i0 : Int} {vs : List Ver} {es : List AV} {X : AObj} (h : FoldH G l r i0 vs) (hd : G[d]? = some (.row 1 es)) : FoldH (G.set d X) l r i0 vs :=
  ⟨set_ne1 hd h.hl (by decide), set_ne1 hd h.hr (by decide), h.lt⟩
theorem Fw.wr {G : List AObj} {e : Ent} {o d : Nat} {ka : AV} {vs : List Ver} {es : List AV} {X : AObj} (h : Fw G e o ka vs) (hd : G[d]? = some (.row 1 es)) : Fw (G.set d X) e o ka vs :=
  ⟨set_ne1 hd h.r0 (by decide), set_ne1 hd h.ro (by decide), h.fh.wr hd⟩
def vs1 (b b1 : Bt) : List Ver := [⟨b.tre, none⟩, ⟨b1.tre, none⟩]
def vs2 (b b1 : Bt) : List Ver := [⟨b.tre, none⟩, ⟨b1.tre, some (dgB b1)⟩]
section
variable {ps : List Pr} {e : Ent} {b b1 : Bt}
structure FsI (ps : List Pr) (e : Ent) (b b1 : Bt) : Prop where
  len : ps.length ≤ 2^50
  grown : (grownF ps).tre = b.tre
  inv : BInv b 60
  step : b1 = (stepE b e).1
  data : e.data.length ≤ 3000
theorem fs_inv1 (h : FsI ps e b b1) : BInv b1 62 := by rw [h.step]; exact stepE_inv h.inv e
theorem fs_apply (h : FsI ps e b b1) {x : AV} (hx1 : x.one = true) {H : List AObj} {l r : Nat} (hf : FoldH H l r 0 [⟨b.tre, none⟩])
    (hA : ∀ T (K : AV → List AObj → List Nat → Option R3), calXK (EV C) 14 n_command_Apply [b.tre.av, x] (H ++ T) K = K (resA3 (applyF b e.data).1.tre (applyF b e.data).2 0) (H ++ T) []) :
    EV C n_fold_Fold_Apply [.ptr l 1 0 0, EX e x] H = some (.int .i64 (stepE b e).2, appH H l r 0 (vs1 b b1), []) := by
  have A := Apply_x hx1 (v := ⟨b.tre, none⟩) hf (by simp) rfl rfl h.inv (by omega) e hA
  have E : (if e.kind = 1 then ⟨(stepE b e).1.tre, none⟩ else (⟨b.tre, none⟩ : Ver)) = ⟨b1.tre, none⟩ := by
    rw [h.step]
    split
    · rfl
    · rename_i hk; unfold stepE; rw [if_neg hk]
  rw [A, E]; rfl
theorem fs_end (h : FsI ps e b b1) {o d : Nat} {ka : AV} {G : List AObj} {E : List Nat} (hG : Fw G e o ka (vs2 b b1)) {N i : Nat} (hlen : lenV (.slc d 0 32 32) G = some (.int .i64 32)) (hi : 32 ≤ i) :
    law13_FoldStays_J17 0 (prsA ps) (.ptr 0 1 0 0) (.bool true) (.ptr 3 1 0 0) (.bool true) (.slc d 0 32 32) .nili (.str ⟨(dgB b1).toArray⟩) (.int .i64 (i : Int)) G E = some (.bool true, [], []) := by
  have inv1 := fs_inv1 h
  refine law13_FoldStays_J17_of ?_
  rw [hlen, Option.bind_some, lss_int, Option.bind_some, condK_dec, if_neg (by omega)]
  have R := Root_ok (v := ⟨b1.tre, some (dgB b1)⟩) hG.fh (by omega) (by omega) (by simp [vs2]) 1 rfl rfl inv1 (by omega) (.inr rfl)
  rw [show (0 : Int) + ((1 : Nat) : Int) = 1 from rfl, show (vs2 b b1).set 1 ⟨b1.tre, some (dgB b1)⟩ = vs2 b b1 from rfl, set_same hG.fh.hr] at R
  rw [callM (by simp [goodL, AV.good]) R]
  simp -implicitDefEqProofs only [extA_0, extA_1, Option.bind_some]
  rw [callK_ok (by simp [goodL]) (Grown_ok ps h.len), h.grown]
  have Nw := New_ok 0 (by omega) (by omega) (show TArg (treC b.tre) b.tre from targ_t b.tre) (tre_ok h.inv.sml) (h.inv.nodes (by omega)) (h.inv.is' (by omega)) G
  rw [← av_C] at Nw
  rw [callK_raw Nw]
  have q1 : ∀ k, binA .eql (Go.TypeDesc.pointer 124) (cmpT Tryd.prog) true (.ptr k 1 0 0) .nilp = some (.bool false) := fun k => rfl
  have fn : FoldH (G ++ [AObj.row 5 [b.tre.av], .row 6 [.agg (treC b.tre ++ [.nils])], foldV 0 (G.length + 1) 1]) (G.length + 2) (G.length + 1) 0 [⟨b.tre, none⟩] := by
    refine ⟨?_, ?_, by omega⟩
    · rw [List.getElem?_append_right (by omega)]; simp
    · rw [List.getElem?_append_right (by omega)]; simp [versO, Ver.av, Ver.cs, Ver.rt]
  have A := fs_apply h (x := bys e.data) rfl fn fun T K => calXK_14g (by simp [goodL]) (cApply_ok e.data (by have := h.data; omega) h.inv (by omega)) (noL_A3 _ _ _)
  have R2 := Root_ok (v := ⟨b1.tre, none⟩) (appH_fold (ws := vs1 b b1) fn) (by omega) (by omega) (by simp [vs1]) 1 rfl rfl inv1 (by omega) (.inl rfl)
  rw [show (0 : Int) + ((1 : Nat) : Int) = 1 from rfl] at R2
  have le : ∀ T, loadA true 3 (.ptr 0 1 0 0) (G ++ T) = some e.av := fun T => ld_agg (ga hG.r0) rfl
  have q2 : binA .eql (Go.TypeDesc.interface #[("Error", 202)]) (cmpT Tryd.prog) true .nili .nili = some (.bool true) := by kernel_rfl
  simp -implicitDefEqProofs only [extA_0, extA_1, Option.bind_some, neq_nil1, splitK_f, condK_f, q1]
  rw [show EX e (bys e.data) = e.av from rfl] at A
  rw [le, Option.bind_some, callM (by simp [goodL, AV.good, Ent.av, Ent.cs]) A, callM (by simp [goodL, AV.good]) R2]
  simp -implicitDefEqProofs only [extA_0, extA_1, Option.bind_some, splitK_t, q2, cvL_bys, eql_str, decide_true]
  have cd : EV C n_law00_Code [.nili] [] = some (.int .i64 0, [], []) := Code_ok 0 (by omega) (by omega)
  rw [callK_ok (by rfl) cd]
  simp -implicitDefEqProofs only [eql_int, Option.bind_some, decide_true]
  exact endB_good rfl
theorem fs_J17 (h : FsI ps e b b1) {o d : Nat} {ka : AV} : ∀ (m j : Nat) (G : List AObj) (E : List Nat) (bs : Bs), j + m = 32 → Fw G e o ka (vs2 b b1) → G[d]? = some (.row 1 (bs.map u8)) → bs.length = 32 →
    law13_FoldStays_J17 0 (prsA ps) (.ptr 0 1 0 0) (.bool true) (.ptr 3 1 0 0) (.bool true) (.slc d 0 32 32) .nili (.str ⟨(dgB b1).toArray⟩) (.int .i64 (j : Int)) G E = some (.bool true, [], [])
  | 0, j, G, E, bs, hj, hG, h1, h2 => fs_end (N := 0) h hG (lenV_sl1 h1 (by simpa using h2)) (by omega)
  | m + 1, j, G, E, bs, hj, hG, h1, h2 => by
    have e3 : IntKind.i64.wrap ((j : Int) + 1) = ((j + 1 : Nat) : Int) := w64 (by omega) (by omega)
    refine law13_FoldStays_J17_of ?_
    have hjl : j < bs.length := by omega
    obtain ⟨v, hv'⟩ := add_u8 bs[j]
    have y1 := ix_row1 (i := j) (n := 32) h1 (by rw [List.length_map]; exact h2) (by omega)
    have y2 := ld_row1 h1 h2 hjl
    rw [lenV_sl1 h1 (by simpa using h2), Option.bind_some, lss_int, Option.bind_some, condK_dec, if_pos (by omega)]
    simp -implicitDefEqProofs only [y1, y2, hv', Option.bind_some]
    rw [sto_u8 h1 h2 hjl, add_int, Option.bind_some, e3]
    exact fs_J17 h m (j + 1) _ _ (bs.set j v) (by omega) (hG.wr h1) (List.getElem?_set_self (List.getElem?_eq_some_iff.1 h1).1) (by rw [List.length_set]; exact h2)
theorem fs_J11 (h : FsI ps e b b1) {o : Nat} {ka : AV} {N : Nat} (hN : N ≤ 2^40) : ∀ (m j : Nat) (G : List AObj) (E : List Nat), j + m = N → Fw G e o ka (vs1 b b1) → CelN G ka N →
    law13_FoldStays_J11 0 (prsA ps) (.ptr 0 1 0 0) (.bool true) (.ptr 3 1 0 0) (.ptr o 1 0 0) (.bool true) (.int .i64 (j : Int)) G E = some (.bool true, [], [])
  | 0, j, G, E, hj, hG, hc => by
    refine law13_FoldStays_J11_of ?_
    rw [offA_ptr, Option.bind_some, Nat.zero_add, ld_fld (j := 2) (v := ka) hG.ro rfl, Option.bind_some, hc.len, Option.bind_some, lss_int, Option.bind_some, condK_dec, if_neg (by omega)]
    have inv1 := fs_inv1 h
    have R := Rootr_ok (v := ⟨b1.tre, none⟩) hG.fh (by omega) (by omega) (by simp [vs1]) 1 rfl rfl inv1 (by omega) (.inl rfl)
    rw [show (0 : Int) + ((1 : Nat) : Int) = 1 from rfl, show (vs1 b b1).set 1 ⟨b1.tre, some (dgB b1)⟩ = vs2 b b1 from rfl] at R
    rw [callK_raw R]
    simp -implicitDefEqProofs only [extA_0, extA_1, Option.bind_some]
    have hd : (G.set 2 (versO (vs2 b b1)) ++ [AObj.row 1 ((dgB b1).map u8)])[G.length]? = some (.row 1 ((dgB b1).map u8)) := by
      rw [List.getElem?_append_right (by simp)]; simp
    have L := (dig32 inv1 (by omega)).2.1
    have hcv : cvL (.slc G.length 0 32 32) (G.set 2 (versO (vs2 b b1)) ++ [AObj.row 1 ((dgB b1).map u8)]) = some (.str ⟨(dgB b1).toArray⟩) := by
      have := elemsA_row (n := 32) hd (by rw [List.length_map]; exact L.symm)
      simp [cvL, this, toBytes_u8]
    rw [hcv, Option.bind_some]
    have h2 : ∀ {l : Nat} {z : Nat} {es : List AV}, l ≠ 2 → G[l]? = some (.row z es) → (G.set 2 (versO (vs2 b b1)) ++ [AObj.row 1 ((dgB b1).map u8)])[l]? = some (.row z es) := fun hl hh => ga (by rw [List.getElem?_set_ne (Ne.symm hl)]; exact hh)
    have ho : o ≠ 2 := by
      rintro rfl
      have a := hG.ro; rw [hG.fh.hr] at a
      simp [versO] at a
    exact fs_J17 h 32 0 _ _ (dgB b1) rfl ⟨h2 (by decide) hG.r0, h2 ho hG.ro, (hG.fh.root (by rfl)).app _⟩ hd L
  | m + 1, j, G, E, hj, hG, hc => by
    have e3 : IntKind.i64.wrap ((j : Int) + 1) = ((j + 1 : Nat) : Int) := w64 (by omega) (by omega)
    have ld : ∀ {X : List AObj}, Fw X e o ka (vs1 b b1) → loadA false 1 (.ptr o 1 0 2) X = some ka := fun h => ld_fld (j := 2) (v := ka) h.ro rfl
    refine law13_FoldStays_J11_of ?_
    have hl := hc.len
    rw [offA_ptr, Option.bind_some, Nat.zero_add, ld hG, Option.bind_some, hl, Option.bind_some, lss_int, Option.bind_some, condK_dec, if_pos (by omega)]
    rcases hc with ⟨_, h⟩ | ⟨l, bs, rfl, h1, h2⟩
    · omega
    · have hjl : j < bs.length := by omega
      obtain ⟨v, hv'⟩ := add_u8 bs[j]
      have y1 := ix_row1 (i := j) (n := N) h1 (by rw [List.length_map]; exact h2) (by omega)
      have y2 := ld_row1 h1 h2 hjl
      simp -implicitDefEqProofs only [ld hG, y1, y2, hv', offA_ptr, Nat.zero_add, Option.bind_some]
      rw [sto_u8 h1 h2 hjl, add_int, Option.bind_some, e3]
      refine fs_J11 h hN m (j + 1) _ _ (by omega) (hG.wr h1) (.inr ⟨l, bs.set j v, rfl, ?_, by rw [List.length_set]; exact h2⟩)
      exact List.getElem?_set_self (List.getElem?_eq_some_iff.1 h1).1
end
theorem CelB.app {m : Nat} {G : List AObj} {bs : Bs} {c : AV} (h : CelB m G bs c) (X : List AObj) : CelB m (G ++ X) bs c := by
  rcases h with h | ⟨l, h1, h2, h3, h4⟩
  · exact .inl h
  · exact .inr ⟨l, h1, h2, ga h3, h4⟩
theorem CelB.cv {m : Nat} {G : List AObj} {bs : Bs} {c : AV} (h : CelB m G bs c) : cvL c G = some (.str ⟨bs.toArray⟩) := by
  rcases h with ⟨rfl, rfl⟩ | ⟨l, _, rfl, h, _⟩
  · rfl
  · have := elemsA_row (n := bs.length) h (by simp)
    simp [cvL, this, toBytes_u8]
theorem CelB.toN {m : Nat} {G : List AObj} {bs : Bs} {c : AV} (h : CelB m G bs c) : CelN G c bs.length := by
  rcases h with ⟨rfl, rfl⟩ | ⟨l, _, rfl, h, _⟩
  · exact .inl ⟨rfl, rfl⟩
  · exact .inr ⟨l, bs, rfl, h, rfl⟩
theorem CelB.keep {m : Nat} {G G' : List AObj} {bs : Bs} {c : AV} (h : CelB m G bs c) (hG : ∀ l, m ≤ l → l < G.length → G'[l]? = G[l]?) : CelB m G' bs c := by
  rcases h with h | ⟨l, h1, h2, h3, h4⟩
  · exact .inl h
  · exact .inr ⟨l, h1, h2, (hG l h1 (lt_get h3)).trans h3, h4⟩
theorem FoldStays_ok (ps : List Pr) (hps : ps.length ≤ 2^50) (e : Ent) : EV C n_law13_FoldStays [prsA ps, e.av] [] = some (.bool true, [], []) := by
  refine law13_FoldStays_of ?_
  dsimp only
  have inv := binv_grown ps
  have n1 : ∀ (K : AV → List AObj → List Nat → Option R3), newK e.av [] K = K (.ptr 0 1 0 0) [.row 3 [e.av]] [] := fun K => by
    unfold Ent.av; rw [new_agg (by simp [Ent.cs]) rfl]; rfl
  rw [n1, callK_ok rfl up13_ok]
  have ld : ∀ {j : Nat} {v : AV} (T : List AObj), e.cs[j]? = some v → loadA false 1 (.ptr 0 1 0 j) ([AObj.row 3 [e.av]] ++ T) = some v := fun T h => ld_fld (ga rfl) h
  have ld0 : loadA false 1 (.ptr 0 1 0 2) [AObj.row 3 [e.av]] = some (bys e.data) := ld_fld rfl rfl
  simp -implicitDefEqProofs only [offA_ptr, Nat.zero_add, Option.bind_some, ld0, lenV_bys, gtr_int, condK_dec]
  by_cases hd : (3000 : Int) < (e.data.length : Int)
  · rw [if_pos hd]; exact endB_good rfl
  · rw [if_neg hd]
    have I : FsI ps e (grownF ps) (stepE (grownF ps) e).1 := ⟨hps, rfl, inv, rfl, by omega⟩
    generalize hb1 : (stepE (grownF ps) e).1 = b1 at I
    generalize hb : grownF ps = b at *
    have N := New_ok 0 (by omega) (by omega) (show TArg (treC b.tre) b.tre from targ_t b.tre) (tre_ok inv.sml) (inv.nodes (by omega)) (inv.is' (by omega)) [.row 3 [e.av]]
    rw [← av_C, show ([AObj.row 3 [e.av]] : List AObj).length + 2 = 3 from rfl] at N
    have Gr := Grown_ok ps hps
    rw [hb] at Gr
    rw [callK_ok (by simp [goodL]) Gr, callK_raw N]
    have q1 : ∀ k, binA .eql (Go.TypeDesc.pointer 124) (cmpT Tryd.prog) true (.ptr k 1 0 0) .nilp = some (.bool false) := fun k => rfl
    simp -implicitDefEqProofs only [extA_0, extA_1, Option.bind_some, neq_nil1, splitK_f, condK_f, q1]
    rw [ld _ (j := 0) rfl, Option.bind_some, ld _ (j := 1) rfl, Option.bind_some, ld _ (j := 2) rfl, Option.bind_some]
    have fh : FoldH ([AObj.row 3 [e.av]] ++ [AObj.row 5 [b.tre.av], .row 6 [.agg (treC b.tre ++ [.nils])], foldV 0 ([AObj.row 3 [e.av]].length + 1) 1]) 3 2 0 [⟨b.tre, none⟩] := ⟨rfl, rfl, by omega⟩
    have r0 : ([AObj.row 3 [e.av]] ++ [AObj.row 5 [b.tre.av], .row 6 [.agg (treC b.tre ++ [.nils])], foldV 0 ([AObj.row 3 [e.av]].length + 1) 1])[0]? = some (.row 3 [e.av]) := rfl
    have hl : ([AObj.row 3 [e.av]] ++ [AObj.row 5 [b.tre.av], .row 6 [.agg (treC b.tre ++ [.nils])], foldV 0 ([AObj.row 3 [e.av]].length + 1) 1]).length = 4 := rfl
    have ldt : ∀ {j : Nat} {v : AV} {X : List AObj}, X[0]? = some (.row 3 [e.av]) → e.cs[j]? = some v → loadA false 1 (.ptr 0 1 0 j) X = some v := fun h hv => ld_fld h hv
    generalize hX : [AObj.row 3 [e.av]] ++ [AObj.row 5 [b.tre.av], .row 6 [.agg (treC b.tre ++ [.nils])], foldV 0 ([AObj.row 3 [e.av]].length + 1) 1] = X at *
    obtain ⟨ka, Y, cb, qa⟩ := app_emp (β := R3) e.data (by omega) 4 X (by omega)
    rw [qa]
    have o1 := celB_one cb
    have r1 := ga (T := Y) r0
    have fl : ∀ (K : List AV → Option R3), (fillB (AV.cells (.agg [(.int .i64 0), (.int .i64 0), .nils])) [(0, 1, .int .i64 e.term), (1, 1, .int .i64 e.kind), (2, 1, ka)]).bind K = K [.int .i64 e.term, .int .i64 e.kind, ka] := fun K => by
      have e : fillB (AV.cells (.agg [(.int .i64 0), (.int .i64 0), .nils])) [(0, 1, .int .i64 e.term), (1, 1, .int .i64 e.kind), (2, 1, ka)] = some [.int .i64 e.term, .int .i64 e.kind, ka] := by
        simp only [fillB, o1.1, o1.2.2.1]; rfl
      rw [e]; rfl
    have dt : ∀ {β : Type} (x : Option β), drawK True x = x := fun x => if_pos trivial
    simp -implicitDefEqProofs only [ldt r1 (j := 0) (v := .int .i64 e.term) rfl, ldt r1 (j := 1) (v := .int .i64 e.kind) rfl, Option.bind_some, dt]
    rw [fl, show ∀ (x : Option R3), sizK 3 (.agg [.int .i64 e.term, .int .i64 e.kind, ka]) x = x from fun x => if_pos (by simp [AV.cells]), new_agg (by simp) (by simp [AV.one, o1.2.1])]
    have ro : (X ++ Y ++ [AObj.row 3 [EX e ka]])[(X ++ Y).length]? = some (.row 3 [EX e ka]) := get_end _ _
    have r2 := ga (T := [AObj.row 3 [EX e ka]]) r1
    have fh2 := (fh.app Y).app [AObj.row 3 [EX e ka]]
    have cb2 := cb.app [AObj.row 3 [EX e ka]]
    have ol : 4 ≤ (X ++ Y).length := by rw [List.length_append]; omega
    show (loadA true 3 (.ptr (X ++ Y).length 1 0 0) (X ++ Y ++ [.row 3 [EX e ka]])).bind _ = _
    rw [ld_agg ro rfl, Option.bind_some]
    generalize ho : (X ++ Y).length = o at *
    generalize hZ : X ++ Y ++ [AObj.row 3 [EX e ka]] = Z at *
    have A := fs_apply I (x := ka) o1.2.1 fh2 fun T K => by
      have c := cb2.app T
      exact calXK_14 (show lndWL (lnd (Z ++ T) 3) (Z ++ T) [b.tre.av, ka] = some [b.tre.av, lbys e.data] by simp only [lndWL, lndW_good _ _ _ (good_tr b.tre), c.lnt, Option.bind_some, Option.map_some]) (belL_good 0 _ (by simp [goodL])) (cApply_l e.data (by omega) inv (by omega)) (noL_A3 _ _ _)
    rw [callK_raw A]
    have keep : ∀ l, l ≠ 2 → l ≠ 3 → (appH Z 3 2 0 (vs1 b b1))[l]? = Z[l]? := fun l h1 h2 => by
      unfold appH; rw [List.getElem?_set_ne (Ne.symm h2), List.getElem?_set_ne (Ne.symm h1)]
    have s0 : (appH Z 3 2 0 (vs1 b b1))[0]? = some (.row 3 [e.av]) := (keep 0 (by decide) (by decide)).trans r2
    have so : (appH Z 3 2 0 (vs1 b b1))[o]? = some (.row 3 [EX e ka]) := (keep o (by omega) (by omega)).trans ro
    have c3 := cb2.keep (G' := appH Z 3 2 0 (vs1 b b1)) fun l h1 h2 => keep l (by omega) (by omega)
    simp -implicitDefEqProofs only [offA_ptr, Nat.zero_add, Option.bind_some, ld_fld (j := 2) (v := ka) so rfl, c3.cv, ldt s0 (j := 2) (v := bys e.data) rfl, cvL_bys, eql_str, decide_true]
    exact fs_J11 I (by omega) e.data.length 0 _ _ (by omega) ⟨s0, so, appH_fold fh2⟩ c3.toN
end Go.Pm
namespace Go.Pm
open Go.Proofs
set_option linter.unusedVariables false
theorem foldStays_law {a b : AV} {f f1 : Nat} {l l1 : List AV} (e : a = mkE (agT Tryd.prog 45) l) (h : tyC Tryd.prog reachBytes f 45 l) (e1 : b = mkE (agT Tryd.prog 65) l1) (h1 : tyC Tryd.prog reachBytes f1 65 l1) : EV C n_law13_FoldStays [a, b] [] = some (.bool true, [], []) := by
  obtain ⟨ps, rfl, hp⟩ := ty_prs e h
  obtain ⟨x, hx⟩ := ty_ent h1
  rw [e1, hx]
  exact FoldStays_ok ps (prs_len hp) x
end Go.Pm
