/- A part of the proof: what the functions of the program answer, as plain lists and numbers. -/
import Derived.Test.YtahipmiaknbkoaaP13
import Derived.Test.YtahipmiaknbkoaaP30
namespace Go.Pm
open Go.Proofs
set_option linter.unusedVariables false
set_option linter.unusedSimpArgs false
theorem Frame_long (l : List UInt8) (h : 2097152 < l.length) (hl : l.length < 2^62) : EV C n_wal_Frame [bys l] [] = some (.tup [bys [], erA 2], [], []) := by
  refine wal_Frame_of ?_
  simp only [lenV_bys, Option.bind_some, gtr_int, condK_dec]
  rw [if_pos (by omega)]
  exact endB_frz (u := .tup [bys [], erA 2]) rfl rfl
def longL (l : List UInt8) : Bool := decide (2097152 < l.length)
def longs (ls : List (List UInt8)) : Bool := ls.any longL
def framesF (ls : List (List UInt8)) : List UInt8 := (ls.map frame).flatten
theorem framesF_cons (l : List UInt8) (ls : List (List UInt8)) : framesF (l :: ls) = frame l ++ framesF ls := by simp [framesF]
theorem framesF_app (a b : List (List UInt8)) : framesF (a ++ b) = framesF a ++ framesF b := by simp [framesF]
theorem frame_len (l : List UInt8) : (frame l).length = 8 + l.length := by simp [frame, fourL]; omega
def resW (ls : List (List UInt8)) : List UInt8 × Int := if longs ls = true then ([], 2) else (framesF ls, 0)
theorem wal_frames_loop (ls : List (List UInt8)) (hl : ls.length < 2^62) (hm : ∀ l ∈ ls, l.length < 2^62) : ∀ (m i : Nat) (out : List UInt8) (E : List Nat), i + m = ls.length → out.length + (framesF (ls.drop i)).length ≤ 2^46 →
    wal_frames_J3 0 (.slc 0 0 out.length out.length) (.lst (ls.map bys)) (.int .i64 ls.length) (.int .i64 i) [vro 1 (out.map u8)] E = some (.tup [bys (if longs (ls.drop i) = true then [] else out ++ framesF (ls.drop i)), erA (if longs (ls.drop i) = true then 2 else 0)], [], [])
  | 0, i, out, E, h, ht => by
    refine wal_frames_J3_of ?_
    simp only [lss_int, Option.bind_some, condK_dec]
    rw [if_neg (by omega), List.drop_eq_nil_of_le (by omega)]
    simp only [longs, List.any_nil, Bool.false_eq_true, if_false, framesF, List.map_nil, List.flatten_nil, List.append_nil]
    exact endB_frz (frz_tup (frzL_cons (frz_vro (z := 1) rfl (List.length_map _).symm (goodL_u8 _)) (frzL_cons rfl rfl))) (tup_good _ _)
  | m + 1, i, out, E, h, ht => by
    have hi : i < ls.length := by omega
    have e3 : IntKind.i64.wrap ((i : Int) + 1) = ((i + 1 : Nat) : Int) := w64 (by omega) (by omega)
    refine wal_frames_J3_of ?_
    simp only [lss_int, Option.bind_some, condK_dec]
    have hd : ls.drop i = ls[i] :: ls.drop (i + 1) := List.drop_eq_getElem_cons hi
    rw [hd, framesF_cons, List.length_append, frame_len] at ht
    rw [if_pos (by omega), ixA_map (f := bys) (fun _ => rfl) (List.getElem?_eq_getElem hi), Option.bind_some, loadA_ip1, Option.bind_some, hd]
    by_cases hg : 2097152 < ls[i].length
    · rw [callK_ok (by simp) (Frame_long _ hg (hm _ (List.getElem_mem hi)))]
      have hlg : longs (ls[i] :: ls.drop (i + 1)) = true := by simp only [longs, List.any_cons, longL, decide_eq_true hg, Bool.true_or]
      simp only [extA_0, extA_1, Option.bind_some, er_neq, condK_dec, hlg, if_true]
      rw [if_pos (by decide)]
      exact endB_frz (tup_frz 2 _) (tup_good _ _)
    · rw [callK_ok (by simp) (wal_Frame_ok _ (by omega))]
      have hlg : longs (ls[i] :: ls.drop (i + 1)) = longs (ls.drop (i + 1)) := by simp only [longs, List.any_cons, longL, decide_eq_false hg, Bool.false_or]
      have e0 : ∀ ms c, binA .neq (.interface ms) c true .nili .nili = some (.bool false) := fun _ _ => rfl
      simp only [extA_0, extA_1, Option.bind_some, e0, condK_f, hlg, framesF_cons]
      rw [appK_vro (n := out.length) (es := out.map u8) (ys := (frame ls[i]).map u8) rfl rfl (List.length_map _).symm (lz_u8 _) (by decide) (by decide) (by decide) (by rw [List.length_map, frame_len]; omega)]
      simp only [add_int, Option.bind_some, e3]
      have := wal_frames_loop ls hl hm m (i + 1) (out ++ frame ls[i]) (((if ((frame ls[i]).map u8).isEmpty = true then [] else escs 0 ((frame ls[i]).map u8)) ++ ([] ++ [])) ++ E) (by omega) (by rw [List.length_append, frame_len]; omega)
      rw [List.map_append, List.length_append, List.append_assoc out] at this
      rw [List.length_map]
      exact this
theorem wal_frames_ok (ls : List (List UInt8)) (hl : ls.length < 2^62) (hm : ∀ l ∈ ls, l.length < 2^62) (ht : (framesF ls).length ≤ 2^46) : EV C n_wal_frames [.lst (ls.map bys)] [] = some (.tup [bys (resW ls).1, erA (resW ls).2], [], []) := by
  refine wal_frames_of ?_
  have hlen : ∀ H, lenV (.lst (ls.map bys)) H = some (.int .i64 ls.length) := fun H => by simp
  simp only [hlen, Option.bind_some]
  refine (wal_frames_loop ls hl hm ls.length 0 [] [] (by omega) (by simpa using ht)).trans ?_
  unfold resW
  rw [List.drop_zero, List.nil_append]
  split <;> rfl
theorem Index_loop (l : List (List UInt8)) (hl : l.length < 2^62) (x : List UInt8) : ∀ (m i : Nat) (E : List Nat), i + m = l.length →
    ∃ k : Int, Index_string_J2 0 (strs l) (sv x) (.int .i64 l.length) (.int .i64 i) [] E = some (.int .i64 k, [], []) ∧ (0 ≤ k ↔ (l.drop i).contains x = true)
  | 0, i, E, h => ⟨-1, by
    refine Index_string_J2_of ?_
    simp only [lss_int, Option.bind_some, condK_dec]
    rw [if_neg (by omega)]
    exact endB_good rfl, by rw [List.drop_eq_nil_of_le (by omega)]; simp⟩
  | m + 1, i, E, h => by
    have hi : i < l.length := by omega
    have e3 : IntKind.i64.wrap ((i : Int) + 1) = ((i + 1 : Nat) : Int) := w64 (by omega) (by omega)
    have hd : l.drop i = l[i] :: l.drop (i + 1) := List.drop_eq_getElem_cons hi
    have go : ∀ r, ((binA .eql Go.TypeDesc.string (cmpT Try.prog) false (sv x) (sv l[i])).bind fun a4 => condK a4 (endB false false 0 (.int .i64 (i : Int)) [] E) ((binA .add (Go.TypeDesc.int Go.IntKind.i64) (cmpT Try.prog) true (.int .i64 (i : Int)) (.int .i64 1)).bind fun a5 => Index_string_J2 0 (strs l) (sv x) (.int .i64 l.length) a5 [] E)) = some r → Index_string_J2 0 (strs l) (sv x) (.int .i64 l.length) (.int .i64 i) [] E = some r := fun r hr => by
      refine Index_string_J2_of ?_
      simp only [lss_int, Option.bind_some, condK_dec]
      rw [if_pos (by omega), ix_strs hi, Option.bind_some, show ∀ H', loadA false 1 (.ip [sv l[i]]) H' = some (sv l[i]) from fun _ => rfl, Option.bind_some]
      exact hr
    have e4 : binA .eql Go.TypeDesc.string (cmpT Try.prog) false (sv x) (sv l[i]) = some (.bool (decide (x = l[i]))) := eql_str ..
    by_cases hx : x = l[i]
    · refine ⟨i, go _ ?_, by rw [hd, List.contains_cons, hx]; simp only [BEq.rfl, Bool.true_or, iff_true]; omega⟩
      rw [e4, Option.bind_some, decide_eq_true hx, condK_t]
      exact endB_good rfl
    · obtain ⟨k, h1, h2⟩ := Index_loop l hl x m (i + 1) E (by omega)
      refine ⟨k, go _ ?_, ?_⟩
      · rw [e4, Option.bind_some, decide_eq_false hx, condK_f, add_int, Option.bind_some, e3]
        exact h1
      · rw [h2, hd, List.contains_cons, show (x == l[i]) = false by simpa using hx, Bool.false_or]
theorem Contains_ok (l : List (List UInt8)) (hl : l.length < 2^62) (x : List UInt8) : EV C n_Contains_string [strs l, sv x] [] = some (.bool (l.contains x), [], []) := by
  refine Contains_string_of ?_
  obtain ⟨k, h1, h2⟩ := Index_loop l hl x l.length 0 [] (by omega)
  have h3 : EV C n_Index_string [strs l, sv x] [] = some (.int .i64 k, [], []) := by
    refine Index_string_of ?_
    dsimp only
    rw [lenV_strs, Option.bind_some]
    exact h1
  dsimp only
  rw [callK_ok (by simp [goodL, strs_good, sv, AV.good]) h3, geq_int, Option.bind_some]
  refine (endB_good rfl).trans ?_
  rw [List.drop_zero] at h2
  congr 3
  rw [Bool.eq_iff_iff]; simp only [decide_eq_true_eq]; exact h2
def wrow (D : Nat) : AObj := .row 1 [.agg [.ptr D 1 0 0]]
structure Wt (H : List AObj) (L D W : Nat) (d : Dk) : Prop where
  a : At H L D d
  w : H[W]? = some (wrow D)
  lt : D < W
section
variable {β : Type} {H : List AObj} {L D W : Nat} {d d0 : Dk}
theorem Wt.ld (h : Wt H L D W d) : loadA false 1 (.ptr W 1 0 0) H = some (.ptr D 1 0 0) := ld_fld h.w rfl
theorem Wt.pt (h : Wt H L D W d0) (d : Dk) : Wt (pt H L D d) L D W d := by
  have h1 := h.a.lt; have h2 := h.lt
  refine ⟨h.a.pt d, ?_, h.lt⟩
  unfold Go.Pm.pt
  rw [List.getElem?_set_ne (by omega), List.getElem?_set_ne (by omega)]
  exact h.w
end
def WM (f : FuncId) (args : List AV) (d : Dk) (v : AV) (d' : Dk) : Prop := ∀ (H : List AObj) (L D W : Nat), Wt H L D W d → EV C f (.ptr W 1 0 0 :: args) H = some (v, pt H L D d', [])
theorem WM.call {f : FuncId} {args : List AV} {d d' : Dk} {v : AV} (h : WM f args d v d') (hg : goodL args = true) {β : Type} {H : List AObj} {L D W : Nat} (ha : Wt H L D W d) {K : AV → List AObj → List Nat → Option β} :
    callK (EV C) false f (.ptr W 1 0 0 :: args) H K = K v (Go.Pm.pt H L D d') [] := by
  have e1 : frzL H (.ptr W 1 0 0 :: args) = some (.ptr W 1 0 0 :: args) := by simp only [frzL, frz, Option.bind_some, frzL_good H args hg, Option.map_some]
  have e2 : belL 0 (.ptr W 1 0 0 :: args) = false := by simp [belL, AV.bel]
  have e3 : killsL (.ptr W 1 0 0 :: args) = [] := by simp [killsL, kills, killsL_good args hg]
  unfold callK callA
  simp only [Bool.false_eq_true, if_false, e1, Option.bind_some, e2, e3, killAll, h H L D W ha]
def nNew : List UInt8 := [110, 101, 119]
def nLog : List UInt8 := [108, 111, 103]
theorem sort_contains (d : Dk) (x : List UInt8) : (namesF d).contains x = (getL x d.fs).isSome := by
  unfold namesF
  rw [Bool.eq_iff_iff]
  simp only [List.contains_iff_mem, sort_mem]
  constructor
  · intro h
    obtain ⟨v, h1, _⟩ := mem_get h
    rw [h1]; rfl
  · intro h
    obtain ⟨v, hv⟩ := Option.isSome_iff_exists.1 h
    exact List.mem_map.2 ⟨_, getL_mem hv, rfl⟩
def cleanF (d : Dk) : Int × Dk := if (getL nNew d.fs).isSome = true then removeF d nNew else (0, d)
theorem clean_m {d : Dk} (ho : d.ok) : WM n_wal_Wal_clean [] d (erA (cleanF d).1) (cleanF d).2 := fun H L D W ha => by
  refine wal_Wal_clean_of ?_
  have h8 := ho.n8
  simp -implicitDefEqProofs only [nP, oP, Option.bind_some, ha.ld]
  rw [(Names_m ho.n8 ho.nl).callS rfl ha.a]
  rw [callK_ok (by simp [goodL, strs_good, sv, AV.good]) (show EV C n_Contains_string [strs (namesF d), .str { data := #[110, 101, 119] }] [] = _ from Contains_ok (namesF d) (by unfold namesF; rw [sort_len, List.length_map]; omega) nNew)]
  rw [sort_contains]
  unfold cleanF
  cases hg : (getL nNew d.fs).isSome with
  | false =>
    simp -implicitDefEqProofs only [unA, Option.bind_some, Bool.not_false, condK_t, Bool.false_eq_true, if_false]
    exact DM.same0 ha.a rfl
  | true =>
    simp -implicitDefEqProofs only [unA, Option.bind_some, Bool.not_true, condK_f, if_true, nP, oP, ha.ld]
    rw [show (AV.str { data := #[110, 101, 119] }) = sv nNew from rfl, (Remove_m d nNew).call rfl ha.a]
    exact DM.fin0 ha.a (er_good _)
theorem clean_ok {d : Dk} (h : d.ok) : (cleanF d).2.ok := by
  unfold cleanF
  split
  · exact remove_ok h nNew
  · exact h
def writeF (d : Dk) (ls : List (List UInt8)) : Int × Dk :=
  if longs ls = true then (2, d) else if (appendF d nLog (framesF ls)).1 = 0 then syncF (appendF d nLog (framesF ls)).2 nLog else appendF d nLog (framesF ls)
theorem writeF_ok {d : Dk} (h : d.ok) (ls : List (List UInt8)) : (writeF d ls).2.ok := by
  unfold writeF
  split
  · exact h
  · split
    · exact sync_ok (append_ok' h _ _) _
    · exact append_ok' h _ _
def replaceF (d : Dk) (ls : List (List UInt8)) : Int × Dk :=
  if longs ls = true then (2, d) else if (cleanF d).1 = 0 then
    (if (appendF (cleanF d).2 nNew (framesF ls)).1 = 0 then
      (if (syncF (appendF (cleanF d).2 nNew (framesF ls)).2 nNew).1 = 0 then renameF (syncF (appendF (cleanF d).2 nNew (framesF ls)).2 nNew).2 nNew nLog
      else syncF (appendF (cleanF d).2 nNew (framesF ls)).2 nNew)
    else appendF (cleanF d).2 nNew (framesF ls))
  else cleanF d
theorem Replace_m {d : Dk} (ho : d.ok) (ls : List (List UInt8)) (hl : ls.length < 2^62) (hm : ∀ l ∈ ls, l.length < 2^62) (ht : (framesF ls).length ≤ 2^45) : WM n_wal_Wal_Replace [.lst (ls.map bys)] d (erA (replaceF d ls).1) (replaceF d ls).2 := fun H L D W ha => by
  refine wal_Wal_Replace_of ?_
  dsimp only
  rw [callK_ok (by simp) (wal_frames_ok ls hl hm (by omega))]
  unfold replaceF resW
  have hlt := ha.a.lt
  by_cases hg : longs ls = true
  · simp -implicitDefEqProofs only [hg, if_true, extA_0, extA_1, Option.bind_some, er_neq, condK_dec]
    rw [if_pos (by decide)]
    exact DM.same0 ha.a rfl
  · simp -implicitDefEqProofs only [hg, Bool.false_eq_true, if_false, extA_0, extA_1, Option.bind_some, er_neq, condK_dec]
    rw [if_neg (by decide), (clean_m ho).call rfl ha]
    simp -implicitDefEqProofs only [er_neq, Option.bind_some, condK_dec]
    have hc := clean_ok ho
    generalize hC : cleanF d = c at hc ⊢
    by_cases h0 : c.1 = 0
    · rw [if_neg (fun q => q h0), if_pos h0]
      simp -implicitDefEqProofs only [nP, oP, Option.bind_some, (ha.pt _).ld]
      rw [show (AV.str { data := #[110, 101, 119] }) = sv nNew from rfl, show (AV.str { data := #[108, 111, 103] }) = sv nLog from rfl, (Append_m hc nNew (framesF ls) ht).callP (by simp [goodL, sv, AV.good]) ha.a]
      simp -implicitDefEqProofs only [er_neq, Option.bind_some, condK_dec]
      have hc1 := append_ok' hc nNew (framesF ls)
      generalize hA : appendF c.2 nNew (framesF ls) = a at hc1 ⊢
      by_cases h1 : a.1 = 0
      · rw [if_neg (fun q => q h1), if_pos h1]
        simp -implicitDefEqProofs only [nP, oP, Option.bind_some, (ha.pt _).ld]
        rw [(Sync_m hc1 nNew).callP rfl ha.a]
        simp -implicitDefEqProofs only [er_neq, Option.bind_some, condK_dec]
        have hc2 := sync_ok hc1 nNew
        generalize hS : syncF a.2 nNew = s at hc2 ⊢
        by_cases h2 : s.1 = 0
        · rw [if_neg (fun q => q h2), if_pos h2]
          simp -implicitDefEqProofs only [nP, oP, Option.bind_some, (ha.pt _).ld]
          rw [(Rename_m hc2 nNew nLog).callP rfl ha.a]
          exact DM.fin0 ha.a (er_good _)
        · rw [if_pos h2, if_neg h2]
          exact DM.fin0 ha.a (er_good _)
      · rw [if_pos h1, if_neg h1]
        exact DM.fin0 ha.a (er_good _)
    · rw [if_pos h0, if_neg h0]
      exact DM.fin0 ha.a (er_good _)
end Go.Pm
