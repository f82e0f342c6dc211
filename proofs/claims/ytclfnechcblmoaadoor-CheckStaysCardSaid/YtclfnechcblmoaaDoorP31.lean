/- A part of the proof: what the functions of the program answer, as plain lists and numbers. -/
import Derived.Test.YtclfnechcblmoaaDoorP7
import Derived.Test.YtclfnechcblmoaaDoorP29
import Derived.Test.YtclfnechcblmoaaDoorP30
namespace Go.Pm
open Go.Proofs
set_option linter.unusedVariables false
set_option linter.unusedSimpArgs false
theorem appD_fresh {z by_ : Nat} {x y : AV} {ys : List AV} {H : List AObj} (hx : freshA x = true) (hy : elemsA y H = some ys) (hz : lz z ys = true) (h1 : 0 < z) (h2 : 0 < by_) (h3 : by_ ≤ 1048576) (h4 : ys.length * by_ ≤ 140737489400832) :
    appD z by_ x y H = some (.lst ys) := by
  unfold appD appF
  rw [hy, Option.bind_some, if_pos ⟨hx, fun _ => ⟨hz, h1, h2, h3, h4⟩⟩]
theorem appDb (l : Bs) (h : l.length ≤ 140737489400000) (H : List AObj) : appD 1 1 (AV.emp none) (bys l) H = some (bys l) := appD_fresh rfl rfl (lz_u8 l) (by decide) (by decide) (by decide) (by rw [List.length_map]; omega)
theorem trm_tre {β : Type} (k a b c : AV) (ha : isNils a = false) (hb : isNils b = false) (hc : isNils c = false) (hk : isNils k = false) (H : List AObj) (K : AV → List AObj → List Nat → Option β) :
    trmK (.agg [k, a, b, c, .nils]) H [] K = K (.agg [k, a, b, c, .slc H.length 0 0 0]) (H ++ [.vrow]) [] := by
  have e : [k, a, b, c, AV.nils].findIdx? isNils = some 4 := by
    simp only [List.findIdx?_cons, hk, ha, hb, hc, show isNils AV.nils = true from rfl]; rfl
  unfold trmK trimA
  simp only [e]
  rfl
theorem siz5 {β : Type} (k a b c d : AV) (x : Option β) : sizK 5 (.agg [k, a, b, c, d]) x = x := by unfold sizK; exact if_pos (show (AV.agg [k, a, b, c, d]).cells.length = 5 from rfl)
theorem litD_one (x : Tre) (H : List AObj) : litD 5 1 (.agg [(.int .i64 0), .nils, .nils, .nils, .nils]) [(0, x.av)] H = some (kidsA [x]) := by
  have e1 : (killsL [x.av]).isEmpty = true := by simp [killsL, kills_good _ (good_tr x)]
  have e2 : frzL H [x.av] = some [x.av] := frzL_cons (frz_good _ _ (good_tr x)) rfl
  have e3 : ∀ (t : Tre), t.av.cells.length = 5 ∧ t.av.cells.all AV.one = true := fun t => by rw [cells_tr]; exact ⟨rfl, rfl⟩
  unfold litD
  simp only [List.map_cons, List.map_nil]
  rw [if_pos e1, e2, Option.bind_some, frz_nil0, Option.bind_some]
  simp only [List.zip_cons_cons, List.zip_nil_right, setS, (e3 _).1, (e3 _).2, List.length_replicate, List.length_set, List.replicate, List.set_cons_zero, List.length_cons, List.length_nil]
  rfl
theorem lz_tr5 (l : List Tre) : lz 5 (l.map Tre.av) = true := by cases l with
  | nil => rfl
  | cons t l => simp only [List.map_cons, lz]; rw [cells_tr]; rfl
theorem fill_abc {β : Type} (k : Int) (a b c : AV) (ha : a.cells = [a]) (hb : b.cells = [b]) (hc : c.cells = [c]) (ga : a.isBad = false) (gb : b.isBad = false) (gc : c.isBad = false) (K : List AV → Option β) :
    (fillB (AV.cells (.agg [(.int .i64 0), .nils, .nils, .nils, .nils])) [(0, 1, (.int .i64 k)), (1, 1, a), (2, 1, b), (3, 1, c)]).bind K = K [.int .i64 k, a, b, c, .nils] := by
  have hz : (AV.agg [(.int .i64 0), .nils, .nils, .nils, .nils]).cells = [(.int .i64 0), .nils, .nils, .nils, .nils] := rfl
  have hi : (AV.int .i64 k).cells = [.int .i64 k] := rfl
  have gi : (AV.int .i64 k).isBad = false := rfl
  simp [fillB, hz, hi, gi, ha, hb, hc, ga, gb, gc]
mutual
/-- lengths that a copy has room for -/
def Tre.fit : Tre → Prop
  | .mk k a b c ks => a.length ≤ 2^40 ∧ b.length ≤ 2^40 ∧ c.length ≤ 2^40 ∧ ks.length ≤ 2^40 ∧ fitL ks
def fitL : List Tre → Prop
  | [] => True
  | t :: ts => t.fit ∧ fitL ts
end
theorem fitL_all : ∀ (l : List Tre), fitL l ↔ ∀ t ∈ l, t.fit
  | [] => by simp [fitL]
  | t :: ts => by simp [fitL, fitL_all ts]
theorem fit_eq (t : Tre) : t.fit ↔ t.key.length ≤ 2^40 ∧ t.value.length ≤ 2^40 ∧ t.digest.length ≤ 2^40 ∧ t.kids.length ≤ 2^40 ∧ ∀ k ∈ t.kids, k.fit := by
  cases t with
  | mk k a b c ks => rw [Tre.fit, fitL_all]; rfl
theorem copy_loop (t : Tre) (ht : t.fit) (ih : ∀ k ∈ t.kids, EV C n_ref04_Copy [k.av] [] = some (k.av, [], [])) (E0 : List Nat) : ∀ (m i : Nat) (E : List Nat), i + m = t.kids.length →
    ref04_Copy_J3 0 (.ptr 0 1 0 0) (.ptr 1 1 0 0) (.ptr 3 1 0 0) (.int .i64 (i : Int)) [.row 5 [t.av], .row 5 [.agg [.int .i64 0, .nils, .nils, .nils, .nils]], vro 5 ((t.kids.take i).map Tre.av), .row 5 [.agg [.int .i64 t.kind, bys t.key, bys t.value, bys t.digest, .slc 2 0 i i]]] E = some (t.av, [], [])
  | 0, i, E, h => by
    obtain ⟨ha, hb, hc, hk, hks⟩ := (fit_eq t).1 ht
    refine ref04_Copy_J3_of ?_
    have e1 : ¬ ((i : Int) < (t.kids.length : Int)) := by omega
    simp only [offA_ptr, Nat.zero_add, Option.bind_some, ld_tr0_s, lenV_kids, lss_int, e1, decide_false, condK_f]
    rw [ld_agg (l := 3) (z := 5) rfl rfl, Option.bind_some, sto_agg (l := 1) (z := 5) rfl rfl rfl (by simp [AV.one, bys])]
    simp only [List.set_cons_succ, List.set_cons_zero]
    rw [ld_agg (l := 1) (z := 5) rfl rfl, Option.bind_some]
    have e2 : t.kids.take i = t.kids := List.take_of_length_le (by omega)
    rw [e2]
    refine endB_frz (u := t.av) ?_ (good_tr t)
    rw [av_eq]
    exact frz_agg (frzL_cons rfl (frzL_cons (frz_good _ _ (good_bys _)) (frzL_cons (frz_good _ _ (good_bys _)) (frzL_cons (frz_good _ _ (good_bys _)) (frzL_cons (frz_vro (z := 5) rfl (by rw [List.length_map]; omega) (goodL_tr _)) rfl)))))
  | m + 1, i, E, h => by
    obtain ⟨ha, hb, hc, hk, hks⟩ := (fit_eq t).1 ht
    refine ref04_Copy_J3_of ?_
    have hi : i < t.kids.length := by omega
    have e1 : ((i : Int) < (t.kids.length : Int)) := by omega
    have e3 : IntKind.i64.wrap ((i : Int) + 1) = ((i + 1 : Nat) : Int) := w64 (by omega) (by omega)
    simp only [offA_ptr, Nat.zero_add, Option.bind_some, ld_tr0_s, lenV_kids, lss_int, e1, decide_true, condK_t]
    rw [show ∀ X : AV, loadA false 1 (.ptr 3 1 0 4) [.row 5 [t.av], .row 5 [X], vro 5 ((t.kids.take i).map Tre.av), .row 5 [.agg [.int .i64 t.kind, bys t.key, bys t.value, bys t.digest, .slc 2 0 i i]]] = some (.slc 2 0 i i) from fun _ => rfl, Option.bind_some]
    rw [ixA_kids (List.getElem?_eq_getElem hi), Option.bind_some, loadA_tr, Option.bind_some, callD_ok (by simp) (ih _ (List.getElem_mem hi)), Option.bind_some, litD_one, Option.bind_some]
    rw [appK_vro (l := 2) (z := 5) (es := (t.kids.take i).map Tre.av) (ys := [t.kids[i]].map Tre.av) rfl rfl (by rw [List.length_map, List.length_take]; omega) (lz_tr5 _) (by decide) (by decide) (by decide) (by simp; omega), esc_good (goodL_tr _)]
    simp only [List.set_cons_succ, List.set_cons_zero]
    rw [sto_fld (l := 3) rfl (by simp) rfl rfl]
    simp only [List.set_cons_succ, List.set_cons_zero, add_int, e3, Option.bind_some, List.length_map, List.length_singleton]
    have := copy_loop t ht ih E0 m (i + 1) ((escs 3 [.slc 2 0 (i + 1) (i + 1)] ++ ([] ++ [])) ++ E) (by omega)
    rw [show t.kids.take (i + 1) = t.kids.take i ++ [t.kids[i]] by rw [List.take_add_one, List.getElem?_eq_getElem hi]; rfl, List.map_append] at this
    exact this
theorem Copy_ok (t : Tre) : t.fit → EV C n_ref04_Copy [t.av] [] = some (t.av, [], []) := by
  induction t using Tre.ind with
  | h t ih =>
    intro ht
    obtain ⟨ha, hb, hc, hk, hks⟩ := (fit_eq t).1 ht
    refine ref04_Copy_of ?_
    simp only [List.length_nil, new_tr, new_z, List.nil_append, List.length_singleton, List.cons_append, offA_ptr, Nat.zero_add, Nat.add_zero, Option.bind_some, ld_tr0_k, ld_tr0_a, ld_tr0_b, ld_tr0_c]
    rw [appDb t.key (by omega), Option.bind_some, appDb t.value (by omega), Option.bind_some, appDb t.digest (by omega), Option.bind_some]
    rw [fill_abc t.kind (bys t.key) (bys t.value) (bys t.digest) rfl rfl rfl rfl rfl rfl, trm_tre _ _ _ _ rfl rfl rfl rfl, siz5, new_agg (by simp) (by simp [AV.one, bys])]
    exact copy_loop t ht (fun k hk => ih k hk (hks k hk)) [] t.kids.length 0 _ (by omega)
end Go.Pm
namespace Go.Pm
open Go.Proofs
set_option linter.unusedVariables false
set_option linter.unusedSimpArgs false
/-- bytes that one may write to, or none -/
def Cel (G : List AObj) (c : AV) : Prop := c = .emp none ∨ ∃ l n bs, c = .slc l 0 n n ∧ G[l]? = some (.row 1 ((bs : Bs).map u8)) ∧ bs.length = n ∧ n ≤ 2^40
theorem app_l {G X : List AObj} {l : Nat} {o : AObj} (h : G[l]? = some o) : (G ++ X)[l]? = some o := by
  rw [List.getElem?_append_left (List.getElem?_eq_some_iff.1 h).1]; exact h
theorem Cel.app {G : List AObj} {c : AV} (h : Cel G c) (X : List AObj) : Cel (G ++ X) c := by
  rcases h with h | ⟨l, n, bs, h1, h2, h3⟩
  · exact .inl h
  · exact .inr ⟨l, n, bs, h1, app_l h2, h3⟩
theorem Cel.set {G : List AObj} {c : AV} (h : Cel G c) {o z : Nat} {es : List AV} (ho : G[o]? = some (vro z es)) (hz : z ≠ 1) (X : AObj) : Cel (G.set o X) c := by
  rcases h with h | ⟨l, n, bs, h1, h2, h3⟩
  · exact .inl h
  · refine .inr ⟨l, n, bs, h1, ?_, h3⟩
    rw [List.getElem?_set_ne]
    · exact h2
    · intro e; subst e
      rw [h2] at ho
      unfold vro at ho
      split at ho
      · simp at ho
      · simp at ho; exact hz ho.1.symm
/-- a pair whose value is one's own -/
def Pcel (G : List AObj) (v : AV) : Prop := ∃ a c, v = .agg [bys a, c] ∧ Cel G c
structure Cinv (H G : List AObj) (s : Spn) (vals : List AV) : Prop where
  len : H.length + 2 < G.length
  pre : ∀ l, l < H.length → G[l]? = H[l]?
  sp : G[H.length]? = some (.row 3 [s.av])
  out : G[H.length + 2]? = some (vro 2 vals)
  cel : ∀ v ∈ vals, Pcel G v
theorem cel_one {G : List AObj} {c : AV} (h : Cel G c) : c.cells = [c] ∧ c.one = true ∧ c.isBad = false := by
  rcases h with rfl | ⟨l, n, bs, rfl, _⟩ <;> exact ⟨rfl, rfl, rfl⟩
theorem ld_sp {H : List AObj} {b : Nat} {s : Spn} (h : H[b]? = some (.row 3 [s.av])) : loadA true 3 (.ptr b 1 0 0) H = some s.av := by
  unfold Spn.av at h ⊢; exact ld_agg h rfl
theorem raw_one {β : Type} (z : Nat) (zero v : AV) (h1 : v.cells.length = z) (h2 : v.cells.all AV.one = true) (H : List AObj) (K : AV → List AObj → List Nat → Option β) :
    rawK z 1 zero [(0, v)] H K = K (.slc H.length 0 1 1) (H ++ [.row z [v]]) [] := by
  unfold rawK
  simp only [List.replicate, setS, h1, h2, List.length_cons, List.length_nil, List.set_cons_zero]
  rfl
theorem fill_ac {β : Type} (a : Bs) (c : AV) (h1 : c.cells = [c]) (h2 : c.isBad = false) (K : List AV → Option β) : (fillB (AV.cells (.agg [.nils, .nils])) [(0, 1, bys a), (1, 1, c)]).bind K = K [bys a, c] := by
  have hz : (AV.agg [.nils, .nils]).cells = [.nils, .nils] := rfl
  have hi : (bys a).cells = [bys a] := rfl
  have gi : (bys a).isBad = false := rfl
  simp [fillB, hz, hi, gi, h1, h2]
theorem chkr_j18 {H : List AObj} (s : Spn) (l : List Tre) (hl : l.length ≤ 2^40) (ho : ∀ t ∈ l, t.key.length ≤ 80 ∧ t.value.length ≤ 1024) (n : Nat) : ∀ (m i : Nat) (G : List AObj) (vals : List AV) (E : List Nat), i + m = l.length → vals.length ≤ i → Cinv H G s vals →
    ∃ G' vals' E', check_Check_r_J18 n (.ptr H.length 1 0 0) (.slc (H.length + 2) 0 vals.length vals.length) (kidsA l) (.int .i64 (l.length : Int)) (.int .i64 (i : Int)) G E = some (.tup [.slc (H.length + 2) 0 vals'.length vals'.length, .nili], G', E') ∧ Cinv H G' s vals' ∧ vals'.length ≤ l.length
  | 0, i, G, vals, E, hi, hout, hC => by
    refine ⟨G, vals, E, ?_, hC, by omega⟩
    refine check_Check_r_J18_of ?_
    have e1 : ¬ ((i : Int) < (l.length : Int)) := by omega
    simp -implicitDefEqProofs only [e1, ZS, Nat.reduceAdd]
    exact endB_raw
  | m + 1, i, G, vals, E, hi, hout, hC => by
    have hil : i < l.length := by omega
    have e1 : ((i : Int) < (l.length : Int)) := by omega
    have e3 : IntKind.i64.wrap ((i : Int) + 1) = ((i + 1 : Nat) : Int) := w64 (by omega) (by omega)
    have hok := ho _ (List.getElem_mem hil)
    have hC1 : Cinv H (G ++ [.row 5 [l[i].av]]) s vals := by
      have := hC.len
      refine ⟨by simp; omega, fun k hk => ?_, app_l hC.sp, app_l hC.out, fun v hv => ?_⟩
      · rw [List.getElem?_append_left (by omega)]; exact hC.pre k hk
      · obtain ⟨a, c, h1, h2⟩ := hC.cel v hv; exact ⟨a, c, h1, h2.app _⟩
    have hrow : (G ++ [AObj.row 5 [l[i].av]])[G.length]? = some (.row 5 [l[i].av]) := by simp
    have hst : ∀ K : List AObj → List Nat → Option R3, stoK 5 (.ptr G.length 1 0 0) l[i].av (G ++ [.row 5 [.agg [(.int .i64 0), .nils, .nils, .nils, .nils]]]) K = K (G ++ [.row 5 [l[i].av]]) [] := fun K => by
      rw [sto_t (b := G.length) (cs := [(.int .i64 0), .nils, .nils, .nils, .nils]) (by simp) rfl]
      congr 1
      rw [List.set_append_right _ _ (Nat.le_refl _), Nat.sub_self, List.set_cons_zero]
    have Lk := ldb_k hrow
    have La := ldb_a hrow
    have Lb := ldb_b hrow
    have Ls := ld_sp hC1.sp
    have go : ∀ (F : List Nat → List Nat), ∃ G' vals' E', check_Check_r_J18 n (.ptr H.length 1 0 0) (.slc (H.length + 2) 0 vals.length vals.length) (kidsA l) (.int .i64 (l.length : Int)) (.int .i64 ((i + 1 : Nat) : Int)) (G ++ [.row 5 [l[i].av]]) (F E) = some (.tup [.slc (H.length + 2) 0 vals'.length vals'.length, .nili], G', E') ∧ Cinv H G' s vals' ∧ vals'.length ≤ l.length := fun F =>
      chkr_j18 s l hl ho n m (i + 1) _ vals _ (by omega) (by omega) hC1
    by_cases h1 : l[i].kind = 1
    · cases hin : inF s l[i].key with
      | false =>
        obtain ⟨G', vals', E', g1, g2⟩ := go fun E => (([] ++ ([] ++ ([] ++ []))) ++ E)
        refine ⟨G', vals', E', ?_, g2⟩
        refine check_Check_r_J18_of ?_
        simp -implicitDefEqProofs only [e1, ixA_kids (List.getElem?_eq_getElem hil), new_zt, ZS, ZT, Nat.reduceAdd]
        rw [hst]
        simp -implicitDefEqProofs only [Lk, La, Ls, h1, hin, InK, add_int, e3, ZS, ZT, Nat.reduceAdd]
        exact g1
      | true =>
        -- the value's clone
        have hcl : ∃ c Y, Cel (G ++ [.row 5 [l[i].av]] ++ Y) c ∧ clR (G ++ [.row 5 [l[i].av]]) 1 (l[i].value.map u8) = (c, G ++ [.row 5 [l[i].av]] ++ Y, []) := by
          cases hv : l[i].value with
          | nil => exact ⟨.emp none, [], .inl rfl, by rw [List.append_nil]; rfl⟩
          | cons x xs =>
            refine ⟨.slc (G ++ [AObj.row 5 [l[i].av]]).length 0 (x :: xs).length (x :: xs).length, [.row 1 ((x :: xs).map u8)], .inr ⟨_, _, x :: xs, rfl, by simp, rfl, ?_⟩, ?_⟩
            · have := hok.2; rw [hv] at this; omega
            · show ((AV.slc _ 0 ((x :: xs).map u8).length ((x :: xs).map u8).length), _, _) = _
              rw [List.length_map]
        obtain ⟨c, Y, hc, hcl⟩ := hcl
        obtain ⟨c1, c2, c3⟩ := cel_one hc
        have hC2 : Cinv H (G ++ [.row 5 [l[i].av]] ++ Y) s vals := by
          have := hC1.len
          refine ⟨by simp at this ⊢; omega, fun k hk => ?_, app_l hC1.sp, app_l hC1.out, fun v hv => ?_⟩
          · rw [List.getElem?_append_left (by omega)]; exact hC1.pre k hk
          · obtain ⟨a, c, h1, h2⟩ := hC1.cel v hv; exact ⟨a, c, h1, h2.app _⟩
        generalize hG2 : G ++ [AObj.row 5 [l[i].av]] ++ Y = G2 at hc hcl hC2
        have hC3 : Cinv H ((G2 ++ [AObj.row 2 [AV.agg [bys l[i].key, c]]]).set (H.length + 2) (vro 2 (vals ++ [AV.agg [bys l[i].key, c]]))) s (vals ++ [AV.agg [bys l[i].key, c]]) := by
          have hlen := hC2.len
          have hout2 : (G2 ++ [AObj.row 2 [.agg [bys l[i].key, c]]])[H.length + 2]? = some (vro 2 vals) := app_l hC2.out
          refine ⟨by simp; omega, fun k hk => ?_, ?_, ?_, fun v hv => ?_⟩
          · rw [List.getElem?_set_ne (by omega), List.getElem?_append_left (by omega)]; exact hC2.pre k hk
          · rw [List.getElem?_set_ne (by omega)]; exact app_l hC2.sp
          · exact List.getElem?_set_self (by simp; omega)
          · rcases List.mem_append.1 hv with hv | hv
            · obtain ⟨a, c', h1, h2⟩ := hC2.cel v hv
              exact ⟨a, c', h1, (h2.app _).set hout2 (by decide) _⟩
            · simp at hv; subst hv
              exact ⟨_, c, rfl, (hc.app _).set hout2 (by decide) _⟩
        obtain ⟨G', vals', E', g1, g2⟩ := chkr_j18 s l hl ho n m (i + 1) _ (vals ++ [.agg [bys l[i].key, c]]) ((((if ([AV.agg [bys l[i].key, c]].isEmpty) = true then [] else escs (H.length + 2) [.agg [bys l[i].key, c]])) ++ ([] ++ ([] ++ []))) ++ E) (by omega) (by simp; omega) hC3
        refine ⟨G', vals', E', ?_, g2⟩
        refine check_Check_r_J18_of ?_
        simp -implicitDefEqProofs only [e1, ixA_kids (List.getElem?_eq_getElem hil), new_zt, ZS, ZT, Nat.reduceAdd]
        rw [hst]
        simp -implicitDefEqProofs only [Lk, La, Lb, Ls, h1, hin, InK, callD_ok (env := EV C) (args := [bys l[i].key]) (by simp) (Clone_byte_ok l[i].key (by omega)), ZS, ZT, Nat.reduceAdd]
        rw [callK_raw (Clone_byte_r_ok l[i].value (by omega) _), hcl]
        dsimp only
        rw [fill_ac _ _ c1 c3, raw_one 2 _ _ rfl (by simp [AV.cells, AV.one, bys, c2])]
        rw [appK_vro (l := H.length + 2) (es := vals) (ys := [.agg [bys l[i].key, c]]) (by simp [elemsA]) (app_l hC2.out) rfl rfl (by decide) (by decide) (by decide) (by simp; omega)]
        simp -implicitDefEqProofs only [add_int, e3, ZS, ZT, Nat.reduceAdd]
        rw [List.length_append] at g1
        exact g1
    · obtain ⟨G', vals', E', g1, g2⟩ := go fun E => (([] ++ ([] ++ [])) ++ E)
      refine ⟨G', vals', E', ?_, g2⟩
      refine check_Check_r_J18_of ?_
      simp -implicitDefEqProofs only [e1, ixA_kids (List.getElem?_eq_getElem hil), new_zt, ZS, ZT, Nat.reduceAdd]
      rw [hst]
      simp -implicitDefEqProofs only [Lk, La, Ls, h1, if_false, InK, add_int, e3, ZS, ZT, Nat.reduceAdd]
      exact g1
end Go.Pm
namespace Go.Pm
open Go.Proofs
set_option linter.unusedVariables false
set_option linter.unusedSimpArgs false
def ChkR (H : List AObj) (s : Spn) (L : Nat) (r : Option R3) : Prop := ∃ G vals E, r = some (.tup [.slc (H.length + 2) 0 vals.length vals.length, .nili], G, E) ∧ Cinv H G s vals ∧ vals.length ≤ L
theorem chkr_fin {H : List AObj} (s : Spn) (p : Tre) (hp : p.ok) (hf : formedF p = true) (l : List Tre) (hl : l.length ≤ 2^40) (ho : ∀ t ∈ l, t.key.length ≤ 80 ∧ t.value.length ≤ 1024) (hop : openF s p [] [] false false = false) (n : Nat) (E : List Nat) :
    ChkR H s l.length ((loadA true 3 (.ptr H.length 1 0 0) (H ++ [.row 3 [s.av], .row 5 [p.av]])).bind fun a13 =>
    (loadA true 5 (.ptr (H.length + 1) 1 0 0) (H ++ [.row 3 [s.av], .row 5 [p.av]])).bind fun a14 =>
    callK (EV C) false n_check_open [a13, a14, .nils, .nils, (.bool false), (.bool false)] (H ++ [.row 3 [s.av], .row 5 [p.av]]) fun a15 H15 E15 =>
    condK a15
      (endB true true n (.tup [.nils, (.ifc t_api_Code (.int .i64 8))]) H15 (E15 ++ E))
      (check_Check_r_J18 n (.ptr H.length 1 0 0) (.slc (List.length H15) 0 0 0) (kidsA l) (.int .i64 (l.length : Int)) (.int .i64 0) (H15 ++ [.vrow]) (E15 ++ E))) := by
  have e1 : (H ++ [AObj.row 3 [s.av], .row 5 [p.av]])[H.length]? = some (.row 3 [s.av]) := by simp
  have e2 : (H ++ [AObj.row 3 [s.av], .row 5 [p.av]])[H.length + 1]? = some (.row 5 [p.av]) := by
    rw [List.getElem?_append_right (by omega)]; simp
  have hC : Cinv H (H ++ [AObj.row 3 [s.av], .row 5 [p.av]] ++ [.vrow]) s [] := by
    refine ⟨by simp, fun k hk => ?_, app_l e1, ?_, fun v hv => by cases hv⟩
    · rw [List.append_assoc, List.getElem?_append_left hk]
    · rw [List.getElem?_append_right (by simp)]; simp [vro]
  obtain ⟨G, vals, E', g1, g2, g3⟩ := chkr_j18 (H := H) s l hl ho n l.length 0 _ [] ([] ++ E) (by omega) (by simp) hC
  refine ⟨G, vals, E', ?_, g2, g3⟩
  rw [ld_sp e1, Option.bind_some, ld_box e2, Option.bind_some]
  rw [callK_nil (bs := [s.av, p.av, bys [], bys [], .bool false, .bool false]) (by simp [killsL, kills, kills_good _ (good_sp s), kills_good _ (good_tr p)]) (frzL_cons (frz_good _ _ (good_sp s)) (frzL_cons (frz_good _ _ (good_tr p)) (frzL_cons rfl (frzL_cons rfl rfl)))) (by simp [goodL, AV.good]) (open_ok s p hp hf [] [] false false (by simp)), hop]
  simp only [condK_f]
  rw [show (H ++ [AObj.row 3 [s.av], .row 5 [p.av]]).length = H.length + 2 by simp]
  exact g1
theorem chkr_j10 {H : List AObj} (s : Spn) (p : Tre) (hp : p.ok) (hf : formedF p = true) (l : List Tre) (hl : l.length ≤ 2^40) (ho : ∀ t ∈ l, t.key.length ≤ 80 ∧ t.value.length ≤ 1024) (hop : openF s p [] [] false false = false) (n : Nat) : ∀ (m i : Nat) (E : List Nat), l.length ≤ i + 1 + m → risN (l.drop i) = true →
    ChkR H s l.length (check_Check_r_J10 n (.ptr H.length 1 0 0) (.ptr (H.length + 1) 1 0 0) (kidsA l) (.int .i64 ((i + 1 : Nat) : Int)) (H ++ [.row 3 [s.av], .row 5 [p.av]]) E)
  | 0, i, E, hi, hr => by
    obtain ⟨G, vals, E', g1, g2⟩ := chkr_fin (H := H) s p hp hf l hl ho hop n E
    refine ⟨G, vals, E', check_Check_r_J10_of ?_, g2⟩
    have e1 : ¬ (((i + 1 : Nat) : Int) < (l.length : Int)) := by omega
    simp -implicitDefEqProofs only [e1, lenV_kids, lss_int, decide_false, Option.bind_some, condK_f]
    exact g1
  | m + 1, i, E, hi, hr => by
    by_cases hlt : i + 1 < l.length
    · rw [risN_drop hlt, Bool.and_eq_true] at hr
      obtain ⟨G, vals, E', g1, g2⟩ := chkr_j10 (H := H) s p hp hf l hl ho hop n m (i + 1) E (by omega) hr.2
      refine ⟨G, vals, E', check_Check_r_J10_of ?_, g2⟩
      have e1 : (((i + 1 : Nat) : Int) < (l.length : Int)) := by omega
      have e3 : IntKind.i64.wrap (((i + 1 : Nat) : Int) + 1) = ((i + 1 + 1 : Nat) : Int) := w64 (by omega) (by omega)
      have e4 : IntKind.i64.wrap (((i + 1 : Nat) : Int) - 1) = ((i : Nat) : Int) := w64 (by omega) (by omega)
      have hi0 : i < l.length := by omega
      simp -implicitDefEqProofs only [e1, e3, e4, sub_int, add_int, ixA_kids (List.getElem?_eq_getElem hi0), ixA_kids (List.getElem?_eq_getElem hlt), dr_tr1, CompareD, cmp_ge, hr.1, ZS, ZT, Nat.reduceAdd]
      exact g1
    · obtain ⟨G, vals, E', g1, g2⟩ := chkr_fin (H := H) s p hp hf l hl ho hop n E
      refine ⟨G, vals, E', check_Check_r_J10_of ?_, g2⟩
      have e1 : ¬ (((i + 1 : Nat) : Int) < (l.length : Int)) := by omega
      simp -implicitDefEqProofs only [e1, lenV_kids, lss_int, decide_false, Option.bind_some, condK_f]
      exact g1
theorem Chkr_ok (w : Int) (root : Bs) (s : Spn) (p : Tre) (hp : p.ok) (hn : (nodesF p).length ≤ 2^40) (h : (chkF w root s p).1 = 0) (H : List AObj) :
    ChkR H s (nodesF p).length (EV C n_check_Check_r [.int .i64 w, bys root, s.av, p.av] H) := by
  unfold chkF at h
  split at h
  · simp at h
  rename_i h1
  split at h
  · rename_i h2; exact absurd h h2
  rename_i hd
  split at h
  · simp at h
  rename_i he
  split at h
  case isFalse => simp at h
  rename_i hr
  unfold behindF at h
  split at h
  · simp at h
  rename_i hop
  have hw : wOk w = true := by cases hx : wOk w with
    | true => rfl
    | false => exact absurd (.inl hx) h1
  have hw' : 1 ≤ w ∧ w ≤ 32 := by simpa [wOk] using hw
  have hrl : (root.length : Int) = w := Decidable.byContradiction fun hx => h1 (.inr hx)
  have hd' : (digF w p).1 = 0 := Decidable.byContradiction hd
  have he' : (digF w p).2 = root := Decidable.byContradiction he
  obtain ⟨_, gp, dp⟩ := gd_of hp hd'
  have := chkr_j10 (H := H) s p hp gp.formed (nodesF p) hn (fun t h => ⟨(nodes_small p gp.formed t h).1, (nodes_small p gp.formed t h).2.1⟩) (by simpa using hop) H.length (nodesF p).length 0
  rw [List.drop_zero] at this
  obtain ⟨G, vals, E', g1, g2⟩ := this ([] ++ ([] ++ ([] ++ ([] ++ ([] ++ []))))) (by omega) hr
  refine ⟨G, vals, E', check_Check_r_of ?_, g2⟩
  have ns : ∀ (H : List AObj) (K : AV → List AObj → List Nat → Option R3), newK s.av H K = K (.ptr H.length 1 0 0) (H ++ [.row 3 [s.av]]) [] := fun H K => new_agg (cs := [bys s.a, bys s.b, .bool s.o]) (by simp) rfl H K
  have e2 : (H ++ [AObj.row 3 [s.av], .row 5 [p.av]])[H.length + 1]? = some (.row 5 [p.av]) := by
    rw [List.getElem?_append_right (by omega)]; simp
  dsimp only
  rw [ns, new_tr, show (H ++ [AObj.row 3 [s.av]]).length = H.length + 1 by simp, List.append_assoc, show [AObj.row 3 [s.av]] ++ [AObj.row 5 [p.av]] = [AObj.row 3 [s.av], .row 5 [p.av]] from rfl]
  simp -implicitDefEqProofs only [lss_int, gtr_int, Option.bind_some, splitK_dec, condK_dec, lenV_bys, neq_int]
  rw [if_neg (by omega), if_neg (by omega)]
  simp -implicitDefEqProofs only [hrl, decide_true, Bool.not_true, condK_f, ld_box e2, Option.bind_some]
  rw [callK_ok (by simp) (Digest_ok w p hp)]
  simp -implicitDefEqProofs only [resD, extA_0, extA_1, Option.bind_some, neqE0, hd', decide_true, Bool.not_true, condK_f]
  rw [callK_ok (by simp) (Equal_ok _ _)]
  simp -implicitDefEqProofs only [he', decide_true, not_bool, Bool.not_true, Option.bind_some, condK_f, ld_box e2]
  rw [callK_ok (by simp) (List_ok p hp hn), if_pos gp.check]
  exact g1
end Go.Pm
