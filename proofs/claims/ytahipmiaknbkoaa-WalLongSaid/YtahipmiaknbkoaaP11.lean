/- A part of the proof: what the functions of the program answer, as plain lists and numbers. -/
import Derived.Shelf.SlIter.Nil
import Derived.Shelf.SortM.Plain
import Derived.Shelf.SortM.SortNone
import Derived.Test.YtahipmiaknbkoaaP2
import Derived.Test.YtahipmiaknbkoaaP8
namespace Go.Proofs
open Go.Shelf
set_option linter.unusedVariables false
set_option linter.unusedSimpArgs false
def Try.keys44_ren : Go.Shelf.Ren := ⟨fun | 7 => 44 | 10 => 51 | n => n, fun | 23 => 55 | 26 => 9 | 3 => 59 | 28 => 79 | 0 => 0 | 27 => 78 | 33 => 61 | 4 => 4 | n => n, fun | n => n⟩
theorem Try.keys44 : Go.Proofs.SlLaysZ.n7 Try.prog Try.keys44_ren := {
  mixed := by kernel_rfl
  f7 := ⟨Try.f44.name, by decide, Try.func44.trans (congrArg some (by kernel_rfl))⟩
  f10 := ⟨Try.f51.name, by decide, Try.func51.trans (congrArg some (by kernel_rfl))⟩
  t0 := Try.underlying0
  a0 := Try.isAgg0
  z0 := Try.sizeOf0
  v0 := Try.zeroValue0
  t4 := Try.underlying4
  a4 := Try.isAgg4
  z4 := Try.sizeOf4
  v4 := Try.zeroValue4
  t23 := Try.underlying55
  a23 := Try.isAgg55
  z23 := Try.sizeOf55
  v23 := Try.zeroValue55
  t26 := Try.underlying9
  a26 := Try.isAgg9
  z26 := Try.sizeOf9
  v26 := Try.zeroValue9
  t27 := Try.underlying78
  a27 := Try.isAgg78
  z27 := Try.sizeOf78
  v27 := Try.zeroValue78
  t28 := Try.underlying79
  a28 := Try.isAgg79
  z28 := Try.sizeOf79
  v28 := Try.zeroValue79
  t33 := Try.underlying61
  a33 := Try.isAgg61
  z33 := Try.sizeOf61
  v33 := Try.zeroValue61 }
def Try.sorted43_ren : Go.Shelf.Ren := ⟨fun | 6 => 43 | 8 => 49 | 9 => 50 | 11 => 53 | 13 => 55 | 12 => 54 | 23 => 65 | 24 => 66 | 14 => 56 | 15 => 57 | 16 => 58 | 17 => 59 | 18 => 60 | 19 => 61 | 20 => 62 | 21 => 63 | 22 => 64 | 25 => 67 | 26 => 68 | 27 => 69 | 28 => 70 | 29 => 71 | 30 => 72 | 31 => 73 | n => n, fun | 26 => 9 | 28 => 79 | 24 => 64 | 0 => 0 | 3 => 3 | 37 => 81 | 48 => 66 | 50 => 113 | 4 => 4 | 40 => 104 | 39 => 103 | 45 => 109 | 5 => 5 | 9 => 9 | 51 => 114 | 55 => 118 | 57 => 120 | 58 => 121 | 33 => 61 | n => n, fun | n => n⟩
theorem Try.sorted43 : Go.Proofs.SlLaysZ.n6 Try.prog Try.sorted43_ren := {
  mixed := by kernel_rfl
  f6 := ⟨Try.f43.name, by decide, Try.func43.trans (congrArg some (by kernel_rfl))⟩
  f8 := ⟨Try.f49.name, by decide, Try.func49.trans (congrArg some (by kernel_rfl))⟩
  f11 := ⟨Try.f53.name, by decide, Try.func53.trans (congrArg some (by kernel_rfl))⟩
  t0 := Try.underlying0
  a0 := Try.isAgg0
  z0 := Try.sizeOf0
  v0 := Try.zeroValue0
  t24 := Try.underlying64
  a24 := Try.isAgg64
  z24 := Try.sizeOf64
  v24 := Try.zeroValue64
  t26 := Try.underlying9
  a26 := Try.isAgg9
  z26 := Try.sizeOf9
  v26 := Try.zeroValue9
  t28 := Try.underlying79
  a28 := Try.isAgg79
  z28 := Try.sizeOf79
  v28 := Try.zeroValue79
  i26 := by kernel_rfl }
def Try.sort50_ren : Go.Shelf.Ren := ⟨fun | 6 => 50 | 8 => 55 | 9 => 54 | 19 => 65 | 20 => 66 | 21 => 56 | 22 => 57 | 23 => 58 | 24 => 59 | 25 => 60 | 26 => 61 | 27 => 62 | 28 => 63 | 29 => 64 | 36 => 67 | 31 => 68 | 32 => 69 | 37 => 70 | 38 => 71 | 39 => 72 | 41 => 73 | n => n, fun | 27 => 64 | 29 => 9 | 3 => 3 | 32 => 81 | 26 => 64 | 0 => 0 | 44 => 66 | 46 => 113 | 4 => 4 | 36 => 104 | 35 => 103 | 41 => 109 | 5 => 5 | 9 => 9 | 53 => 114 | 57 => 118 | 63 => 120 | 64 => 121 | n => n, fun | n => n⟩
theorem Try.sort50 : Go.Proofs.SlLaysM.n6 Try.prog Try.sort50_ren := {
  mixed := by kernel_rfl
  f6 := ⟨Try.f50.name, by decide, Try.func50.trans (congrArg some (by kernel_rfl))⟩
  f8 := Try.func55.trans (congrArg some (by kernel_rfl))
  f9 := ⟨Try.f54.name, by decide, Try.func54.trans (congrArg some (by kernel_rfl))⟩
  f19 := Try.func65.trans (congrArg some (by kernel_rfl))
  f20 := Try.func66.trans (congrArg some (by kernel_rfl))
  f21 := ⟨Try.f56.name, by decide, Try.func56.trans (congrArg some (by kernel_rfl))⟩
  f22 := ⟨Try.f57.name, by decide, Try.func57.trans (congrArg some (by kernel_rfl))⟩
  f23 := ⟨Try.f58.name, by decide, Try.func58.trans (congrArg some (by kernel_rfl))⟩
  f24 := ⟨Try.f59.name, by decide, Try.func59.trans (congrArg some (by kernel_rfl))⟩
  f25 := ⟨Try.f60.name, by decide, Try.func60.trans (congrArg some (by kernel_rfl))⟩
  f26 := ⟨Try.f61.name, by decide, Try.func61.trans (congrArg some (by kernel_rfl))⟩
  f27 := ⟨Try.f62.name, by decide, Try.func62.trans (congrArg some (by kernel_rfl))⟩
  f28 := ⟨Try.f63.name, by decide, Try.func63.trans (congrArg some (by kernel_rfl))⟩
  f29 := ⟨Try.f64.name, by decide, Try.func64.trans (congrArg some (by kernel_rfl))⟩
  f31 := Try.func68.trans (congrArg some (by kernel_rfl))
  f32 := Try.func69.trans (congrArg some (by kernel_rfl))
  f36 := ⟨Try.f67.name, by decide, Try.func67.trans (congrArg some (by kernel_rfl))⟩
  f37 := ⟨Try.f70.name, by decide, Try.func70.trans (congrArg some (by kernel_rfl))⟩
  f38 := ⟨Try.f71.name, by decide, Try.func71.trans (congrArg some (by kernel_rfl))⟩
  f39 := ⟨Try.f72.name, by decide, Try.func72.trans (congrArg some (by kernel_rfl))⟩
  f41 := ⟨Try.f73.name, by decide, Try.func73.trans (congrArg some (by kernel_rfl))⟩
  t0 := Try.underlying0
  a0 := Try.isAgg0
  z0 := Try.sizeOf0
  v0 := Try.zeroValue0
  t3 := Try.underlying3
  a3 := Try.isAgg3
  z3 := Try.sizeOf3
  v3 := Try.zeroValue3
  t4 := Try.underlying4
  a4 := Try.isAgg4
  z4 := Try.sizeOf4
  v4 := Try.zeroValue4
  t5 := Try.underlying5
  a5 := Try.isAgg5
  z5 := Try.sizeOf5
  v5 := Try.zeroValue5
  t9 := Try.underlying9
  a9 := Try.isAgg9
  z9 := Try.sizeOf9
  v9 := Try.zeroValue9
  t26 := Try.underlying64
  a26 := Try.isAgg64
  z26 := Try.sizeOf64
  v26 := Try.zeroValue64
  t27 := Try.underlying64
  a27 := Try.isAgg64
  z27 := Try.sizeOf64
  v27 := Try.zeroValue64
  t29 := Try.underlying9
  a29 := Try.isAgg9
  z29 := Try.sizeOf9
  v29 := Try.zeroValue9
  t32 := Try.underlying81
  a32 := Try.isAgg81
  z32 := Try.sizeOf81
  v32 := Try.zeroValue81
  t35 := Try.underlying103
  a35 := Try.isAgg103
  z35 := Try.sizeOf103
  v35 := Try.zeroValue103
  t36 := Try.underlying104
  a36 := Try.isAgg104
  z36 := Try.sizeOf104
  v36 := Try.zeroValue104
  t41 := Try.underlying109
  a41 := Try.isAgg109
  z41 := Try.sizeOf109
  v41 := Try.zeroValue109
  t44 := Try.underlying66
  a44 := Try.isAgg66
  z44 := Try.sizeOf66
  v44 := Try.zeroValue66
  t46 := Try.underlying113
  a46 := Try.isAgg113
  z46 := Try.sizeOf113
  v46 := Try.zeroValue113
  t53 := Try.underlying114
  a53 := Try.isAgg114
  z53 := Try.sizeOf114
  v53 := Try.zeroValue114
  t57 := Try.underlying118
  a57 := Try.isAgg118
  z57 := Try.sizeOf118
  v57 := Try.zeroValue118
  t63 := Try.underlying120
  a63 := Try.isAgg120
  z63 := Try.sizeOf120
  v63 := Try.zeroValue120
  t64 := Try.underlying121
  a64 := Try.isAgg121
  z64 := Try.sizeOf121
  v64 := Try.zeroValue121 }
open Go.RowKit Go.Maps Go.Sort Go.Shelf
theorem Try.sorts43 (m : Nat) : AnyZ.SortsIn Try.prog Try.sorted43_ren Fence.wide m :=
  ⟨fun blk off cap ss W hH hblk hsz => callsIn_wide.2 (AnyM.slices_Sort_string Try.sort50 blk off cap ss W hH hblk hsz),
   fun p cap W => callsIn_wide.2 (AnyM.slices_Sort_string_none Try.sort50 p cap W)⟩

set_option maxHeartbeats 1000000 in
theorem Try.sorted_box {H : Type} (p b nn : Nat) (D0 : DataW H) (R : Value → Option (DataW H × List MemPlace)) (w : World) (hp : p < w.heap.size) (hc : w.cell? ⟨p, 0, none⟩ = some (.map (some b))) (hown : w.ownsMap Try.prog 9 R b nn D0) (hmax : Maps.size D0 ≤ maxLen) (hbytes : Maps.size D0 * 16 ≤ 140737488355328) :
    CallsIn Fence.wide 5 Try.prog 43 #[.func (.func 51) #[] #[.pointer (some ⟨p, 0, none⟩)]] w fun e w' => ∃ (v : Value) (ss : List (List UInt8)), e = .returned v ∧ ss.Perm (strKeys D0) ∧
      w'.ownsRow w.heap.size 9 1 v ss.length ((ss.mergeSort (fun x y => decide (x ≤ y))).map encStr) ∧ (v = .slice none 0 0 ↔ ss = []) ∧ Below w.heap.size w w' := by
  have hseq : SeqGives Fence.wide 2 Try.prog 51 #[.pointer (some ⟨p, 0, none⟩)] encStr (fun ss => ss.Perm (strKeys D0)) (Maps.size D0) w :=
    AnyZ.keys_gives (ρ := Try.keys44_ren) { Try.keys44 with } Fence.wide _ trivial rfl (by omega) p b nn D0 w hp hc hown
  exact AnyZ.sorted_in Try.sorted43 Fence.wide 5 trivial trivial trivial trivial rfl (by omega) (Try.sorts43 _) (enters_of Try.func50 (by kernel_rfl) rfl) 51 _ trivial (enters_of Try.func51 (by kernel_rfl) rfl) _ _ hmax hbytes _ hseq
end Go.Proofs
namespace Go.Pm
open Go.Proofs Go.Sort Go.Maps Go.Shelf
set_option linter.unusedVariables false
set_option linter.unusedSimpArgs false
/-- A world with more blocks. -/
theorem grow_rel {G : Nat → Option (List AV)} {X : Cx} (hR : Rel G X) {w' : World} (hold : ∀ b, b < X.w.heap.size → w'.heap[b]? = X.w.heap[b]?) (hsz : X.w.heap.size ≤ w'.heap.size) (ht : w'.tape = X.w.tape) (ho : w'.os = X.w.os) (hu : w'.output = X.w.output) :
    Rel G ⟨X.F, X.ι, X.H, w'⟩ ∧ Ext X ⟨X.F, X.ι, X.H, w'⟩ ∧ ∀ b, X.w.heap.size ≤ b → b < w'.heap.size → (⟨X.F, X.ι, X.H, w'⟩ : Cx).im b := by
  have hcell : ∀ b j u, cellAt X.w b j = some u → cellAt w' b j = some u := fun b j u h => by
    have hb := lt_of_cellAt h
    unfold cellAt at h ⊢; rw [hold b hb]; exact h
  have hsize : ∀ b s, sizeAt X.w b = some s → sizeAt w' b = some s := fun b s h => by
    have hb := lt_of_sizeAt h
    unfold sizeAt at h ⊢; rw [hold b hb]; exact h
  have hE : Ext X ⟨X.F, X.ι, X.H, w'⟩ :=
    ⟨hsz, Nat.le_refl _, fun b hb _ => hold b hb, fun b _ hw => hw, fun l t hl h => ⟨t, h, Nat.le_refl _, fun _ => ⟨fun hr => ⟨hr, fun b z hb => ⟨hb, by
      obtain ⟨z1, es1, he⟩ := isRow_some hr
      obtain ⟨_, _, _, _, s, hs, _⟩ := hR.rows l z1 es1 b z he hb
      rw [hs]; exact hsize b s hs⟩⟩, fun h => h⟩⟩, ht, ho, hu, rfl, fun l _ h => ⟨h, rfl⟩⟩
  refine ⟨⟨fun l z es b z' h1 h2 => ?_, fun l l' b z z' h1 h2 h3 h4 => hR.inj l l' b z z' h1 h2 h3 h4, maps_keep hR hE (fun _ _ h => h) (fun b cs c h => (hold b (Array.getElem?_eq_some_iff.1 h).1).trans h), fun g cs hg => ?_, hR.wf, fb_keep hR hE, hR.gb⟩, hE, fun b hb hlt => ⟨⟨hlt, fun hf => absurd (hR.fb _ hf).1 (by omega)⟩, fun hw => ?_⟩⟩
  · obtain ⟨e1, e2, e3, ee, s, e4, e5, e6⟩ := hR.rows l z es b z' h1 h2
    refine ⟨e1, e2, Me_mono hE _ _ _ _ (fun j u hj => hcell b j u hj) e3, ee, s, hsize b s e4, e5, unmark_eq e6 (hold b (lt_of_sizeAt e4))⟩
  · obtain ⟨h1, h2⟩ := hR.glob g cs hg
    exact ⟨im_keep hE h1, Mc_mono hE _ _ _ (fun j u hj => hcell g j u hj) h2⟩
  · have := hR.wr_lt (b := b) hw
    omega
theorem ent_keys {X : Cx} : ∀ {es : List (AV × AV)} {cs : List MapEntry} {ks : List (List UInt8)}, EntM X es cs → es.mapM keyL = some ks → cs.map (·.key) = ks.map encStr
  | [], cs, ks, hm, hs => by
    unfold EntM at hm
    subst hm
    simp at hs; subst hs; rfl
  | p :: es, cs, ks, hm, hs => by
    unfold EntM at hm
    obtain ⟨e, r, rfl, h1, h2, h3⟩ := hm
    rw [List.mapM_cons] at hs
    cases hk : keyL p with
    | none => rw [hk] at hs; cases hs
    | some k =>
      rw [hk] at hs
      cases ht : es.mapM keyL with
      | none => rw [ht] at hs; cases hs
      | some t =>
        rw [ht] at hs
        injection hs with hs
        subst hs
        have ih := ent_keys h3 ht
        have he : e.key = encStr k := by
          unfold keyL at hk
          split at hk
          · rename_i s v
            injection hk with hk; subst hk
            unfold keyV at h1
            injection h1 with h1
            rw [← h1]; rfl
          · cases hk
        show e.key :: r.map (·.key) = encStr k :: t.map encStr
        rw [he, ih]
theorem keyOf_enc {k : List UInt8} (h : k.length < 2^40) : keyOf Try.prog 9 (encStr k) = some (.string k) := by
  have : k.length ≤ maxLen := by unfold maxLen; omega
  simp [keyOf, Try.underlying9, mapKey, encStr]
  show k.toArray.size ≤ maxLen
  simpa using this
theorem perm_foldr {H : Type} (l : List (Lit × DataW H)) : (l.foldr DataW.insert []).Perm l := Go.WideShapes.sorted_perm l
/-- what a list of strings reads as -/
theorem Me_strs {X : Cx} {b : Nat} : ∀ (l : List (List UInt8)) (o : Nat), (∀ j u, (l.map encStr)[j]? = some u → cellAt X.w b (o + j) = some u) → Me X (l.map sv) b o 1
  | [], o, h => by simp [Me]
  | x :: l, o, h => by
    have h0 := h 0 (encStr x) rfl
    rw [List.map_cons]
    unfold Me
    refine ⟨⟨rfl, encStr x, h0, by unfold M; rfl⟩, Me_strs l (o + 1) fun j u hj => ?_⟩
    have := h (j + 1) u (by simpa using hj)
    rw [← this]; congr 1; omega
set_option maxRecDepth 100000 in
theorem sortF_ok : ∀ a H r, sortF 51 a H = some r → SpecR C.P C.G n_Sorted_string a H r := by
  intro a H r hr
  unfold sortF at hr
  split at hr
  · rename_i g l
    split at hr
    · rename_i hg
      subst hg
      split at hr
      · rename_i L hl
        split at hr
        · rename_i es hL
          cases hk : es.mapM keyL with
          | none => rw [hk] at hr; cases hr
          | some ks =>
            rw [hk, Option.bind_some] at hr
            split at hr
            · rename_i hc
              injection hr with hr; subst hr
              intro X args hH hR hM
              subst hH
              unfold Ms at hM
              obtain ⟨v1, vs1, e1, g1, hM⟩ := hM
              unfold Ms at hM
              unfold M at g1
              obtain ⟨fv, cv, f1, f2, f3⟩ := g1
              unfold Ms at f2 f3
              obtain ⟨u2, us2, f4, f5, f6⟩ := f3
              unfold Ms at f6
              unfold M at f5
              obtain ⟨_, _, f5⟩ := f5
              obtain ⟨p, z, hrow, hi, hv1⟩ := f5 (by unfold lenOf; rw [hl]; rfl)
              obtain ⟨rfl, _, hme, _⟩ := hR.rows l 1 _ p z hl hi
              unfold Me at hme
              obtain ⟨⟨_, u0, c0, m0⟩, _⟩ := hme
              unfold M at m0
              obtain ⟨bm, z2, hi2, hu0⟩ := m0.2 (by rw [hL]; trivial)
              obtain ⟨cs, clock, hb, hent, hst, hcs⟩ := hR.maps.1 L es bm z2 hL hi2
              have hkeys := ent_keys hent hk
              rw [hu0, ← cell?_plain] at c0
              have ha : args = #[.func (.func 51) #[] #[.pointer (some ⟨p, 0, none⟩)]] := by
                have h1 : fv = #[] := Array.toList_inj.1 f2
                have h2 : cv = #[.pointer (some ⟨p, 0, none⟩)] := Array.toList_inj.1 (by rw [f4, f6, hv1])
                apply Array.toList_inj.1
                rw [e1, hM, f1, h1, h2]
              subst ha
              -- the map reads as its keys
              let R : Value → Option (DataW Unit × List MemPlace) := fun _ => some (.nil, [])
              have hrd : ∀ x ∈ cs.toList, ∃ k ∈ ks, Go.WideElems.rd Try.prog 9 R x = some (.string k, .nil) := fun x hx => by
                have : x.key ∈ cs.toList.map (·.key) := List.mem_map.2 ⟨x, hx, rfl⟩
                rw [hkeys] at this
                obtain ⟨k, hk1, hk2⟩ := List.mem_map.1 this
                have hkl : k.length < 2^40 := by have := List.all_eq_true.1 hc.2 k hk1; simpa using this
                refine ⟨k, hk1, ?_⟩
                unfold Go.WideElems.rd
                rw [← hk2, keyOf_enc hkl]; rfl
              have hown : X.w.ownsMap Try.prog 9 R bm cs.size (.map ((cs.toList.map (Go.WideElems.rg Try.prog 9 R)).foldr DataW.insert [])) :=
                ⟨cs, clock, hb, ⟨by unfold maxLen; omega, hst, fun x hx => by obtain ⟨k, _, h⟩ := hrd x hx; exact ⟨_, h⟩⟩, Nat.le_refl _, rfl⟩
              have hsk : (strKeys (DataW.map ((cs.toList.map (Go.WideElems.rg Try.prog 9 R)).foldr DataW.insert []))).Perm ks := by
                have h1 := (perm_foldr (cs.toList.map (Go.WideElems.rg Try.prog 9 R))).map fun q => strOf q.1
                refine (show _ from h1).trans ?_
                rw [List.map_map]
                have h2 : cs.toList.map ((fun q : Lit × DataW Unit => strOf q.1) ∘ Go.WideElems.rg Try.prog 9 R) = ks := by
                  have inj : ∀ (a b : List (List UInt8)), a.map encStr = b.map encStr → a = b := fun a b h => List.map_inj_right (fun x y q => encStr_inj q) |>.1 h
                  apply inj
                  rw [List.map_map, ← hkeys]
                  apply List.map_congr_left
                  intro x hx
                  obtain ⟨k, _, h⟩ := hrd x hx
                  have h5 := Go.WideElems.rg_of h
                  simp only [Function.comp, h5, strOf]
                  have h3 := Go.WideElems.rd_key h
                  obtain ⟨y, hy1, hy2, _⟩ := Maps.keyOf_str Try.underlying9 h3
                  rw [hy1]
                  have h4 : Lit.string k = Lit.string y := hy2
                  injection h4 with h4
                  rw [h4]
                rw [h2]
              have hsz : Maps.size (DataW.map ((cs.toList.map (Go.WideElems.rg Try.prog 9 R)).foldr DataW.insert [])) ≤ 1099511627776 := by
                show ((cs.toList.map (Go.WideElems.rg Try.prog 9 R)).foldr DataW.insert []).length ≤ _
                rw [length_sorted, List.length_map, Array.length_toList]
                have : (2 : Nat)^40 = 1099511627776 := by decide
                omega
              have hpl : p < X.w.heap.size := by
                rw [cell?_plain] at c0; exact lt_of_cellAt c0
              have key := callsIn_wide.1 (Try.sorted_box p bm cs.size _ R X.w hpl c0 hown (Nat.le_trans hsz (by unfold maxLen; decide)) (by omega))
              refine Calls.mono key ?_
              rintro e w' ⟨v, ss, h1, h2, h3, h4, h5⟩
              obtain ⟨k1, k2, k3⟩ := grow_rel (w' := w') hR h5.block h5.size h5.tape h5.os h5.output
              have hss : ss.mergeSort (fun x y => decide (x ≤ y)) = sortL ks := mergeSort_of_perm (h2.trans hsk)
              refine ⟨v, ⟨X.F, X.ι, X.H, w'⟩, rfl, h1, rfl, k1, k2, EscI.refl _, ?_⟩
              rw [hss] at h3
              have hlen : (sortL ks).length = ss.length := by rw [← hss]; exact List.length_mergeSort _
              unfold M
              rcases h3.2 with ⟨q1, q2⟩ | ⟨gb, cap, cur, q1, q2, q3, q4, q5, q6, q7⟩
              · have : sortL ks = [] := List.eq_nil_of_length_eq_zero (by omega)
                rw [this]
                exact ⟨none, 0, q1, Nat.le_refl _, by simp [oneL], fun h => absurd rfl h⟩
              · refine ⟨_, cap, by rw [List.length_map, hlen]; exact q1, by rw [List.length_map, hlen]; exact q4, ?_, fun _ => ⟨gb, 0, 1, rfl, by decide, k3 gb q2 (Array.getElem?_eq_some_iff.1 q3).1, Me_strs (sortL ks) 0 fun j u hj => ?_⟩⟩
                · intro e he
                  obtain ⟨x, _, rfl⟩ := List.mem_map.1 he
                  rfl
                · unfold cellAt
                  rw [q3]
                  show cur[0 + j]? = some u
                  rw [Nat.zero_add, ← Array.getElem?_toList]
                  rw [← q7, List.getElem?_take] at hj
                  split at hj
                  · exact hj
                  · cases hj
            · cases hr
        · cases hr
      · cases hr
    · cases hr
  · cases hr
end Go.Pm
