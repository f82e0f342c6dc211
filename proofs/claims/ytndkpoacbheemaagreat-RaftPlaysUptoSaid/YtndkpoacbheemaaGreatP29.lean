/- A part of the proof: what the functions of the program answer, as plain lists and numbers. -/
import Derived.Test.YtndkpoacbheemaaGreatP7
import Derived.Test.YtndkpoacbheemaaGreatP28
namespace Go.Pm
open Go.Proofs
set_option linter.unusedVariables false
set_option linter.unusedSimpArgs false
theorem new_agg0 {β : Type} {cs : List AV} {H : List AObj} {K : Kt β} (h0 : cs ≠ []) (h1 : cs.all AV.one = true) : newK (.agg cs) H K = K (.ptr H.length 1 0 0) (H ++ [.row cs.length [.agg cs]]) [] := by
 have : newA (.agg cs) H = some (.ptr H.length 1 0 0, H ++ [.row cs.length [.agg cs]], []) := by
  unfold newA
  rw [show (AV.agg cs).cells = cs from rfl, if_pos ⟨h0, h1⟩]
 unfold newK; rw [this]; rfl
theorem new_inp {β : Type} {x : Inp} (w : x.msg.wf) {H : List AObj} {K : Kt β} : newK x.av H K = K (.ptr H.length 1 0 0) (H ++ [x.row]) [] := by
 unfold Inp.av
 rw [new_agg0 (by intro e; have := Inp.cslen w; simp [e] at this) (Inp.csone w), Inp.cslen w]; rfl
theorem nonil_n (n : Nde) : n.cs.all (fun a => !isNils a) = true := by
 unfold Nde.cs
 simp only [List.all_append, nonil_i64]
 simp [isNils, ints, ents]
theorem trm_n {β : Type} {n : Nde} (w : n.wf) {H : List AObj} {K : Kt β} : trmK (.agg (n.cs ++ [.nils, .int .i64 0])) H [] K = K (.agg (n.cs ++ [.slc H.length 0 0 0, .int .i64 0])) (H ++ [.vrow]) [] := by
 have hl := Nde.len w
 have : trimA (.agg (n.cs ++ [.nils, .int .i64 0]), H, ([] : List Nat)) = some (.agg (n.cs ++ [.slc H.length 0 0 0, .int .i64 0]), H ++ [.vrow], []) := by
  unfold trimA
  have hfi : (n.cs ++ [AV.nils, AV.int .i64 0]).findIdx? isNils = some n.cs.length := findIdx_app (v := .nils) (r := [.int .i64 0]) (nonil_n n) rfl
  simp only [hfi]
  rw [List.set_append_right _ _ (by omega)]
  simp
 unfold trmK; rw [this]; rfl
theorem CompactK {s : Stp} (g : Lg) (hg : LgOk g) (hs : soundL g = true) {i : Int} (hi : hasL g i = true) {β : Type} {H : List AObj} {K : Kt β} : callK (EV C) false n_log_Compact [g.av, .int .i64 i] H K = K (.tup [(compactL g i).av, .nili]) H [] := by
 refine callK_ok (by simp [goodL, AV.good]) ?_
 rw [Compact_ok _ _ hg]
 unfold compactA
 rw [if_pos hs, if_pos hi]
set_option maxHeartbeats 4000000 in
theorem Step_ok (n : Nde) (x : Inp) (h : StepIn n x) : EV C n_raft_Step [n.av, x.av] [] = some (stepA n x, [], []) := by
 refine raft_Step_of ?_
 have hmo : most = 1152921504606846976 := rfl
 have w := h.nw
 have n0 : ([n.row, x.row, .row 29 [zN]] : List AObj)[0]? = some n.row := rfl
 dsimp only
 rw [new_nd w]
 simp -implicitDefEqProofs only [List.length_nil, List.nil_append]
 rw [new_inp h.m]
 simp -implicitDefEqProofs only [List.length_singleton, List.singleton_append, List.cons_append, List.nil_append]
 rw [new_agg0 (by simp) rfl]
 simp -implicitDefEqProofs only [List.length_cons, List.length_nil, Nat.reduceAdd, Nat.zero_add, List.cons_append, List.nil_append]
 rw [show ([n.row, x.row, .row 29 [AV.agg [(.int .i64 0), (.int .i64 0), (.int .i64 0), (.int .i64 0), (.int .i64 0), (.int .i64 0), (.int .i64 0), .nils, .nils, (.int .i64 0), .nils, (.int .i64 0), (.int .i64 0), (.int .i64 0), (.int .i64 0), (.int .i64 0), (.int .i64 0), (.int .i64 0), (.int .i64 0), (.int .i64 0), (.int .i64 0), (.int .i64 0), (.int .i64 0), (.int .i64 0), (.int .i64 0), (.int .i64 0), (.int .i64 0), (.int .i64 0), (.int .i64 0)]]] : List AObj) = [n.row, x.row, .row 29 [zN]] from rfl]
 rw [ld_node w n0, Option.bind_some, callK_ok (by simp [goodL, Nde.good]) (check_ok n w (by have := h.hv; omega) h.lg)]
 unfold stepA formA
 cases hs : soundN n with
 | false =>
  simp -implicitDefEqProofs only [Bool.false_eq_true, if_false, neq_in, Option.bind_some, condK_t]
  refine (congrArg (fun x => Option.bind x _) (show fillB _ _ = some _ from rfl)).trans ?_
  rw [Option.bind_some]
  have s0 : ∀ (K : List AObj → List Nat → Option R3), stoK 29 (.ptr 2 1 0 0) zN [n.row, x.row, .row 29 [zN]] K = K [n.row, x.row, .row 29 [zN]] [] := fun K => rfl
  have l0 : loadA true 29 (.ptr 2 1 0 0) [n.row, x.row, .row 29 [zN]] = some zN := rfl
  refine (s0 _).trans ?_
  rw [l0, Option.bind_some]
  exact endB_frz (u := .tup [noNde.av, .lst [], .int .i64 0, codeA 3]) rfl rfl
 | true =>
  have hf := sound_fu h hs
  simp -implicitDefEqProofs only [if_true, neq_nn, Option.bind_some, condK_f, ld_node w n0]
  have hfill : ∀ K : List AV → Option R3, (fillB (AV.cells (.agg [(.int .i64 0), (.int .i64 0), (.int .i64 0), (.int .i64 0), (.int .i64 0), (.int .i64 0), (.int .i64 0), .nils, .nils, (.int .i64 0), .nils, (.int .i64 0), (.int .i64 0), (.int .i64 0), (.int .i64 0), (.int .i64 0), (.int .i64 0), (.int .i64 0), (.int .i64 0), (.int .i64 0), (.int .i64 0), (.int .i64 0), (.int .i64 0), (.int .i64 0), (.int .i64 0), (.int .i64 0), (.int .i64 0), (.int .i64 0), (.int .i64 0), .nils, (.int .i64 0)])) [(0, 29, n.av)]).bind K = K (n.cs ++ [.nils, .int .i64 0]) := fun K => by
    have hl := Nde.len w
    simp only [fillB, AV.cells, Nde.av, hl, List.length_cons, List.length_nil, AV.isBad, List.take_zero, List.nil_append]
    rw [if_pos ⟨trivial, by omega, trivial⟩]
    rfl
  rw [hfill, trm_n w]
  simp -implicitDefEqProofs only [List.length_cons, List.length_nil, Nat.reduceAdd, Nat.zero_add, List.cons_append, List.nil_append]
  rw [new_agg0 (by simp) (by simp only [List.all_append, Nde.one n]; rfl)]
  obtain ⟨s, hss⟩ : ∃ s, s = Stp.new n := ⟨_, rfl⟩
  have hrow : ([n.row, x.row, .row 29 [zN], .vrow] ++ [.row (n.cs ++ [AV.slc 3 0 0 0, .int .i64 0]).length [.agg (n.cs ++ [AV.slc 3 0 0 0, .int .i64 0])]] : List AObj) = hp (P3 n x zN) s [] := by
    have e1 : s.cs 3 = n.cs ++ [AV.slc 3 0 0 0, .int .i64 0] := by
      rw [hss]
      simp [Stp.cs, Stp.hd, Stp.new, Nde.cs, Stp.eav, Stp.vav, nilv]
    have e2 : (n.cs ++ [AV.slc 3 0 0 0, .int .i64 0]).length = 31 := by simp [Nde.len w]
    have e3 : orow s = .vrow := by rw [hss]; rfl
    unfold hp srow
    rw [e2, show (P3 n x zN).length = 3 from rfl, e1, e3]
    rfl
  rw [hrow]
  simp -implicitDefEqProofs only [List.length_cons, List.length_nil, Nat.reduceAdd, Nat.zero_add]
  rw [← hss] at hf
  have hsn : s.n = n := by rw [hss]; rfl
  have hso : s.out.length < 700000 := by rw [hss]; show ([] : List Msg).length < _; simp
  -- the ends
  have tail : ∀ (s : Stp) (R : List AObj), s.wf →
      ((loadA true 29 (.ptr 4 1 0 0) (hp (P3 n x zN) s R)).bind fun a22 => (loadA false 1 (.ptr 4 1 0 29) (hp (P3 n x zN) s R)).bind fun a25 => (loadA false 1 (.ptr 4 1 0 30) (hp (P3 n x zN) s R)).bind fun a28 =>
        stoK 29 (.ptr 2 1 0 0) a22 (hp (P3 n x zN) s R) fun H29 E29 =>
        drawK (((loadA false 1 (.ptr 4 1 0 29) H29).bind fun a30 => some a30) = some a25)
        (drawK (((loadA false 1 (.ptr 4 1 0 30) H29).bind fun a31 => some a31) = some a28)
        ((loadA true 29 (.ptr 2 1 0 0) H29).bind fun a32 =>
        endB false false 0 (.tup [a32, a25, a28, .nili]) H29 E29))) = some (s.res, [], []) := fun s R ws => by
    rw [l4_all ws.n, Option.bind_some, l4_out ws.n, Option.bind_some, l4_num ws.n, Option.bind_some]
    rw [show zN = .agg zN.cells from rfl, s2_all ws.n _ rfl, l4_out ws.n, l4_num ws.n, drawK_t (by rfl), drawK_t (by rfl), l2_all ws.n, Option.bind_some]
    exact res_end ws
  have x1 : ∀ {z : AV} {s : Stp} {R : List AObj}, (hp (P3 n x z) s R)[1]? = some x.row := rfl
  have x0 : ∀ {z : AV} {s : Stp} {R : List AObj}, (hp (P3 n x z) s R)[0]? = some n.row := rfl
  have lx0 : ∀ {z : AV} {s : Stp} {R : List AObj}, loadA false 1 (.ptr 1 1 0 0) (hp (P3 n x z) s R) = some (.int .i64 x.kind) := ld_fld x1 rfl
  have lx1 : ∀ {z : AV} {s : Stp} {R : List AObj}, loadA false 1 (.ptr 1 1 0 1) (hp (P3 n x z) s R) = some (.int .i64 x.draw) := ld_fld x1 rfl
  have lx2 : ∀ {z : AV} {s : Stp} {R : List AObj}, loadA false 1 (.ptr 1 1 0 2) (hp (P3 n x z) s R) = some (.int .i64 x.index) := ld_fld x1 rfl
  have hcl : x.msg.cs.length = 17 := Msg.cslen h.m
  have lx20 : ∀ {z : AV} {s : Stp} {R : List AObj}, loadA false 1 (.ptr 1 1 0 20) (hp (P3 n x z) s R) = some (bys x.data) := ld_fld x1 (by
    show x.cs[20]? = _
    unfold Inp.cs
    rw [List.getElem?_append_right (by simp), List.getElem?_append_right (by simp [hcl])]; simp [hcl])
  have lx21 : ∀ {z : AV} {s : Stp} {R : List AObj}, loadA false 1 (.ptr 1 1 0 21) (hp (P3 n x z) s R) = some (ints x.mems) := ld_fld x1 (by
    show x.cs[21]? = _
    unfold Inp.cs
    rw [List.getElem?_append_right (by simp), List.getElem?_append_right (by simp [hcl])]; simp [hcl])
  have lx3 : ∀ {z : AV} {s : Stp} {R : List AObj}, loadA true 17 (.ptr 1 1 0 3) (hp (P3 n x z) s R) = some x.msg.av := fun {z s R} => by
    have h1 : (hp (P3 n x z) s R)[1]? = some (.row 22 [.agg x.cs]) := rfl
    rw [ld_aggp (cs := x.cs) h1 (by simp [Inp.cs, hcl])]
    have e : x.cs.drop 3 = x.msg.cs ++ [bys x.data, ints x.mems] := rfl
    rw [e, List.take_left' hcl]; rfl
  have ln3 : ∀ {z : AV} {s : Stp} {R : List AObj}, loadA false 1 (.ptr 0 1 0 3) (hp (P3 n x z) s R) = some (.int .i64 n.role) := ld_fld x0 rfl
  have ln5 : ∀ {z : AV} {s : Stp} {R : List AObj}, loadA false 1 (.ptr 0 1 0 5) (hp (P3 n x z) s R) = some (.int .i64 n.log.index) := ld_fld x0 rfl
  have ln9 : ∀ {z : AV} {s : Stp} {R : List AObj}, loadA false 1 (.ptr 0 1 0 9) (hp (P3 n x z) s R) = some (.int .i64 n.commit) := ld_fld x0 rfl
  have lnl : ∀ {z : AV} {s : Stp} {R : List AObj}, loadA true 4 (.ptr 0 1 0 5) (hp (P3 n x z) s R) = some n.log.av := ld_log x0
  have tk : ∀ (d : Int) (K : AV → List AObj → List Nat → Option R3), callK (EV C) false n_raft_stepper_tick [.ptr 4 1 0 0, .int .i64 d] (hp (P3 n x zN) s []) K = K (.tup []) (hp (P3 n x zN) (tickF s d) []) [] := fun d K => tickK hf d (by omega)
  have mk : ∀ (K : AV → List AObj → List Nat → Option R3), callK (EV C) false n_raft_stepper_msg [.ptr 4 1 0 0, x.msg.av] (hp (P3 n x zN) s []) K = K (.tup []) (hp (P3 n x zN) (msgF s x.msg) []) [] := fun K => msgK hf h.m h.he h.hd h.hml hso
  have ck : ∀ (K : AV → List AObj → List Nat → Option R3), callK (EV C) false n_raft_stepper_change [.ptr 4 1 0 0, ints x.mems] (hp (P3 n x zN) s []) K = K (.tup []) (hp (P3 n x zN) (changeF s x.mems) []) [] := fun K => changeK hf x.mems h.hmems (by omega)
  have lk : ∀ (K : AV → List AObj → List Nat → Option R3), callK (EV C) false n_raft_stepper_last [.ptr 4 1 0 0] (hp (P3 n x zN) s []) K = K (.int .i64 (lastS s)) (hp (P3 n x zN) s []) [] := fun K => lastK hf.toSOk
  unfold stepF
  rw [← hss]
  dsimp only
  simp -implicitDefEqProofs only [nilA_ptr, offA_ptr, Option.bind_some, Nat.zero_add, Nat.add_zero, Nat.reduceAdd, List.append_nil, lx0, lx1, lx2, lx3, eql_int, condK_dec, tk, mk]
  by_cases k0 : x.kind = 0
  · rw [if_pos k0, if_pos k0]
    exact tail _ [] (tickF_wf hf x.draw)
  · rw [if_neg k0, if_neg k0]
    by_cases k1 : x.kind = 1
    · rw [if_pos k1, if_pos k1]
      exact tail _ [] (msgF_wf hf x.msg)
    · rw [if_neg k1, if_neg k1]
      by_cases k2 : x.kind = 2
      · rw [if_pos k2, if_pos k2]
        simp -implicitDefEqProofs only [nilA_ptr, offA_ptr, Option.bind_some, Nat.zero_add, Nat.add_zero, Nat.reduceAdd, List.append_nil, ln3, lx20, eql_int, splitK_dec, lenV_bys, leq_int]
        by_cases r2 : n.role = 2
        · rw [if_pos r2, if_pos r2]
          by_cases hd : (x.data.length : Int) ≤ 4096
          · rw [if_pos hd, if_pos hd, lk]
            simp -implicitDefEqProofs only [nilA_ptr, offA_ptr, Option.bind_some, Nat.zero_add, Nat.add_zero, Nat.reduceAdd, List.append_nil, lss_int, condK_dec, lx20]
            by_cases hl : lastS s < most
            · have he : EOk s.n 1 x.data := by
                have ht0 := hf.t0; have ht1 := hf.t1; have hel := hf.el; have hdd := h.hdata
                have hsr : s.n.role = 2 := by rw [hsn]; exact r2
                have htr : 0 < s.n.term := by rcases hf.tr with h | h <;> omega
                exact ⟨ht0, by omega, ht1, by decide, by decide, fun h => absurd h (by decide), hdd, by omega⟩
              have pk : ∀ (K : AV → List AObj → List Nat → Option R3), callK (EV C) false n_raft_stepper_propose [.ptr 4 1 0 0, .int .i64 1, bys x.data] (hp (P3 n x zN) s []) K = K (.tup []) (hp (P3 n x zN) (proposeF s 1 x.data) []) [] := fun K => (propose_m hf.toSGd 1 x.data he (by omega)).call0 (by simp [goodL, AV.good])
              rw [if_pos hl, show ∀ a b : Option R3, (if lastS s < 1152921504606846976 then a else b) = a from fun a b => if_pos hl]
              simp -implicitDefEqProofs only [pk, List.append_nil]
              exact tail _ [] (proposeF_wf hf.toSGd he)
            · rw [if_neg hl, show ∀ a b : Option R3, (if lastS s < 1152921504606846976 then a else b) = b from fun a b => if_neg hl]
              exact tail _ [] hf.w
          · rw [if_neg hd, if_neg hd]
            exact tail _ [] hf.w
        · rw [if_neg r2, if_neg r2]
          exact tail _ [] hf.w
      · rw [if_neg k2, if_neg k2]
        by_cases k3 : x.kind = 3
        · rw [if_pos k3, if_pos k3]
          simp -implicitDefEqProofs only [nilA_ptr, offA_ptr, Option.bind_some, Nat.zero_add, Nat.add_zero, Nat.reduceAdd, List.append_nil, lx21, ck]
          exact tail _ [] (changeF_wf hf x.mems)
        · rw [if_neg k3, if_neg k3]
          by_cases k4 : x.kind = 4
          · rw [if_pos k4, if_pos k4]
            simp -implicitDefEqProofs only [nilA_ptr, offA_ptr, Option.bind_some, Nat.zero_add, Nat.add_zero, Nat.reduceAdd, List.append_nil, lx2, ln5, ln9, lnl, gtr_int, leq_int, splitK_dec, condK_dec]
            by_cases hi : n.log.index < x.index
            · rw [if_pos hi, if_pos hi]
              by_cases hc : x.index ≤ n.commit
              · rw [if_pos hc, if_pos hc]
                have hsl : soundL n.log = true := by have := hf.sl; rw [hsn] at this; exact this
                have hc1 : n.commit ≤ lastL n.log := by have := hf.c1; rw [hsn] at this; exact this
                rw [CompactK (s := s) n.log h.lg hsl (hasL_iff.2 ⟨by omega, by have : lastL n.log = n.log.index + n.log.es.length := rfl; omega⟩)]
                obtain ⟨g, hg⟩ : ∃ g, g = compactL n.log x.index := ⟨_, rfl⟩
                rw [← hg]
                simp -implicitDefEqProofs only [extA_0, extA_1, Option.bind_some, eql_nn, condK_t]
                have nk : ∀ (K : AV → List AObj → List Nat → Option R3), newK (.agg [(.int .i64 0), (.int .i64 0), .nils, .nils]) (hp (P3 n x zN) s []) K = K (.ptr 5 1 0 0) (hp (P3 n x zN) s [.row 4 [.agg [(.int .i64 0), (.int .i64 0), .nils, .nils]]]) [] := fun K => new_R (P := P3 n x zN) (R := []) (by simp) rfl
                have sk : ∀ (K : List AObj → List Nat → Option R3), stoK 4 (.ptr 5 1 0 0) g.av (hp (P3 n x zN) s [.row 4 [.agg [(.int .i64 0), (.int .i64 0), .nils, .nils]]]) K = K (hp (P3 n x zN) s [.row 4 [g.av]]) [] := fun K => sto_R (P := P3 n x zN) (R := []) (X := []) (n := 4) (off := 0) (v := g.av) rfl rfl (fun k => by simp [Lg.av, AV.cells, belL, bel_good _ _ (good_ints _), bel_good _ _ (good_ents _), AV.bel]) (by simp) rfl
                have l5 : loadA true 4 (.ptr 5 1 0 0) (hp (P3 n x zN) s [.row 4 [g.av]]) = some g.av := ld4_R (P := P3 n x zN) (R := []) g
                have s4 : ∀ (K : List AObj → List Nat → Option R3) (R : List AObj), stoK 4 (.ptr 4 1 0 5) g.av (hp (P3 n x zN) s R) K = K (hp (P3 n x zN) { s with n := { s.n with log := g }, en := false } R) [] := fun K R => ss_lav (P := P3 n x zN) g
                have sn : ∀ (K : List AObj → List Nat → Option R3) (R : List AObj), stoK 1 (.ptr 4 1 0 30) (.int .i64 x.index) (hp (P3 n x zN) { s with n := { s.n with log := g }, en := false } R) K = K (hp (P3 n x zN) { s with n := { s.n with log := g }, en := false, num := x.index } R) [] := fun K R => ss_num (P := P3 n x zN) (s := { s with n := { s.n with log := g }, en := false }) ⟨hf.w.n.ln, hf.w.n.lm⟩ x.index
                rw [nk, sk]
                simp -implicitDefEqProofs only [nilA_ptr, offA_ptr, Option.bind_some, Nat.zero_add, Nat.add_zero, Nat.reduceAdd, List.append_nil, lx2, l5, s4, drawK_True, sn]
                have hcf : compF s x.index = { s with n := { s.n with log := g }, en := false, num := x.index } := by
                 unfold compF; rw [hg, hsn]
                rw [hcf]
                exact tail _ [_] ⟨⟨hf.w.n.ln, hf.w.n.lm⟩, hf.w.vn, (fun h => by cases h), hf.w.out⟩
              · rw [if_neg hc, if_neg hc]
                exact tail _ [] hf.w
            · rw [if_neg hi, if_neg hi]
              exact tail _ [] hf.w
          · rw [if_neg k4, if_neg k4]
            exact tail _ [] hf.w
end Go.Pm
namespace Go.Pm
open Go.Proofs
set_option linter.unusedVariables false
set_option linter.unusedSimpArgs false
theorem sto_node {H : List AObj} {l : Nat} {cs : List AV} {n : Nde} (w : n.wf) (h : H[l]? = some (.row 29 [.agg cs])) (hl : cs.length = 29) {β : Type} {K : List AObj → List Nat → Option β} : stoK 29 (.ptr l 1 0 0) n.av H K = K (H.set l n.row) [] := by
 have hc : n.av.cells = n.cs := rfl
 rw [sto_row (n := 29) h (by rw [hc]; exact Nde.len w) (by rw [hc]; exact Nde.one n) (by rw [hc]; have := bel_good (l + 1) _ (Nde.good n); exact this) (by omega)]
 have e : cs.take 0 ++ n.av.cells ++ cs.drop (0 + 29) = n.cs := by
  rw [List.take_zero, List.nil_append, List.drop_of_length_le (by omega), List.append_nil]; rfl
 rw [e]; rfl
def newN (id term voted : Int) (l : Lg) (draw : Int) : Nde := ⟨id, term, voted, 0, 0, l, l.index, [], List.replicate 8 0, List.replicate 8 0, 0, toF draw⟩
theorem newN_wf (id term voted : Int) (l : Lg) (draw : Int) : (newN id term voted l draw).wf := ⟨rfl, rfl⟩
/-- as it is first built: its votes are nil -/
def newC (id term voted : Int) (l : Lg) (draw : Int) : List AV := [.int .i64 id, .int .i64 term, .int .i64 voted, .int .i64 0, .int .i64 0, .int .i64 l.index, .int .i64 l.term, ints l.mems, ents l.es, .int .i64 l.index, .nils, .int .i64 0, .int .i64 0, .int .i64 0, .int .i64 0, .int .i64 0, .int .i64 0, .int .i64 0, .int .i64 0, .int .i64 0, .int .i64 0, .int .i64 0, .int .i64 0, .int .i64 0, .int .i64 0, .int .i64 0, .int .i64 0, .int .i64 0, .int .i64 (toF draw)]
def newA' (id term voted : Int) (l : Lg) (draw : Int) : AV := if soundN (newN id term voted l draw) = true then .tup [(newN id term voted l draw).av, .nili] else .tup [noNde.av, codeA 3]
theorem new_lg0 {β : Type} {g : Lg} {H : List AObj} {K : Kt β} : newK g.av H K = K (.ptr H.length 1 0 0) (H ++ [.row 4 [g.av]]) [] := new_agg0 (by simp) rfl
set_option maxHeartbeats 1000000 in
theorem New_ok (id term voted : Int) (l : Lg) (draw : Int) (hl : LgOk l) : EV C n_raft_New [.int .i64 id, .int .i64 term, .int .i64 voted, l.av, .int .i64 draw] [] = some (newA' id term voted l draw, [], []) := by
 refine raft_New_of ?_
 have w := newN_wf id term voted l draw
 dsimp only
 rw [new_lg0]
 simp -implicitDefEqProofs only [List.length_nil, List.nil_append]
 rw [new_agg0 (by simp) rfl]
 simp -implicitDefEqProofs only [List.length_singleton, List.singleton_append]
 have la : ∀ X : List AObj, loadA true 4 (.ptr 0 1 0 0) (.row 4 [l.av] :: X) = some l.av := fun X => rfl
 have li : ∀ X : List AObj, loadA false 1 (.ptr 0 1 0 0) (.row 4 [l.av] :: X) = some (.int .i64 l.index) := fun X => rfl
 simp -implicitDefEqProofs only [la, li, offA_ptr, Option.bind_some, Nat.zero_add, callD_ok (show goodL [AV.int .i64 draw] = true from rfl) (timeout_ok draw)]
 refine (congrArg (fun x => Option.bind x _) (show fillB _ _ = some (newC id term voted l draw) from rfl)).trans ?_
 rw [Option.bind_some, new_agg0 (by simp) rfl]
 have sk : ∀ (K : List AObj → List Nat → Option R3), stoK 29 (.ptr 2 1 0 0) (.agg (newC id term voted l draw)) [.row 4 [l.av], .row 29 [zN], .row 29 [zN]] K = K [.row 4 [l.av], .row 29 [zN], .row 29 [.agg (newC id term voted l draw)]] [] := fun K => by
  have h : ([.row 4 [l.av], .row 29 [zN], .row 29 [zN]] : List AObj)[2]? = some (.row 29 [.agg zN.cells]) := rfl
  rw [sto_row (n := 29) h rfl rfl (by simp [AV.cells, newC, belL, AV.bel, bel_good _ _ (good_ints _), bel_good _ _ (good_ents _)]) (by decide)]
  rfl
 have lk : loadA true 29 (.ptr 2 1 0 0) [.row 4 [l.av], .row 29 [zN], .row 29 [.agg (newC id term voted l draw)]] = some (.agg (newC id term voted l draw)) := rfl
 have ck : ∀ (H : List AObj) (K : AV → List AObj → List Nat → Option R3), callK (EV C) false n_raft_Check [.agg (newC id term voted l draw)] H K = K (formA (soundN (newN id term voted l draw))) H [] := fun H K =>
  callK_nil (bs := [(newN id term voted l draw).av]) rfl rfl (by simp [goodL, Nde.good]) (check_ok _ w (by show ([] : List Int).length ≤ _; simp) hl)
 refine Eq.trans ?_ (show (some (newA' id term voted l draw, [], []) : Option R3) = _ from rfl)
 simp -implicitDefEqProofs only [List.length_cons, List.length_nil, Nat.reduceAdd, Nat.zero_add, List.cons_append, List.nil_append]
 rw [drawK_t (by rfl), drawK_t (by rfl), drawK_True]
 refine (sk _).trans ?_
 rw [lk, Option.bind_some, ck]
 unfold newA' formA
 cases hs : soundN (newN id term voted l draw) with
 | true =>
  simp -implicitDefEqProofs only [if_true, neq_nn, Option.bind_some, condK_f, lk]
  have s2 : ∀ (K : List AObj → List Nat → Option R3), stoK 29 (.ptr 1 1 0 0) (.agg (newC id term voted l draw)) [.row 4 [l.av], .row 29 [zN], .row 29 [.agg (newC id term voted l draw)]] K = K [.row 4 [l.av], .row 29 [.agg (newC id term voted l draw)], .row 29 [.agg (newC id term voted l draw)]] [] := fun K => by
   have h : ([.row 4 [l.av], .row 29 [zN], .row 29 [.agg (newC id term voted l draw)]] : List AObj)[1]? = some (.row 29 [.agg zN.cells]) := rfl
   rw [sto_row (n := 29) h rfl rfl (by simp [AV.cells, newC, belL, AV.bel, bel_good _ _ (good_ints _), bel_good _ _ (good_ents _)]) (by decide)]
   rfl
  rw [s2]
  exact endB_frz (u := .tup [(newN id term voted l draw).av, .nili]) rfl (by simp [AV.good, goodL, Nde.good])
 | false =>
  simp -implicitDefEqProofs only [Bool.false_eq_true, if_false, neq_in, Option.bind_some, condK_t]
  refine (congrArg (fun x => Option.bind x _) (show fillB _ _ = some zN.cells from rfl)).trans ?_
  rw [Option.bind_some]
  have s2 : ∀ (K : List AObj → List Nat → Option R3), stoK 29 (.ptr 1 1 0 0) (.agg zN.cells) [.row 4 [l.av], .row 29 [zN], .row 29 [.agg (newC id term voted l draw)]] K = K [.row 4 [l.av], .row 29 [zN], .row 29 [.agg (newC id term voted l draw)]] [] := fun K => rfl
  refine (s2 _).trans ?_
  exact endB_frz (u := .tup [noNde.av, codeA 3]) rfl rfl
def tickI : Inp := ⟨0, 0, 0, ⟨0, 0, 0, 0, 0, 0, 0, false, [], [], tail0⟩, [], []⟩
def cmdI : Inp := ⟨2, 0, 0, ⟨0, 0, 0, 0, 0, 0, 0, false, [], [], tail0⟩, [97], []⟩
def upN (j : Int) : Nde := ⟨1, 0, 0, 0, 0, ⟨0, 0, [1], []⟩, 0, [], List.replicate 8 0, List.replicate 8 0, j, 10⟩
def upL : Nde := ⟨1, 1, 1, 2, 1, ⟨0, 0, [1], [⟨1, 0, []⟩]⟩, 1, [], List.replicate 8 1, [0, 1, 0, 0, 0, 0, 0, 0], 0, 10⟩
theorem up_0 : newN 1 0 0 ⟨0, 0, [1], []⟩ 0 = upN 0 := rfl
theorem up_t : ∀ j : Nat, j < 9 → soundN (upN j) = true ∧ (stepF (upN j) tickI).n = upN ((j + 1 : Nat) : Int) := by
 intro j hj
 match j, hj with
 | 0, _ => exact ⟨by decide, by rfl⟩
 | 1, _ => exact ⟨by decide, by rfl⟩
 | 2, _ => exact ⟨by decide, by rfl⟩
 | 3, _ => exact ⟨by decide, by rfl⟩
 | 4, _ => exact ⟨by decide, by rfl⟩
 | 5, _ => exact ⟨by decide, by rfl⟩
 | 6, _ => exact ⟨by decide, by rfl⟩
 | 7, _ => exact ⟨by decide, by rfl⟩
 | 8, _ => exact ⟨by decide, by rfl⟩
theorem up_9 : soundN (upN 9) = true ∧ (stepF (upN 9) tickI).n = upL := ⟨by decide, by rfl⟩
theorem up_c : soundN upL = true ∧ (stepF upL cmdI).n.commit = 2 ∧ (stepF upL cmdI).num = 2 := ⟨by decide, by rfl, by rfl⟩
end Go.Pm
namespace Go.Pm
open Go.Proofs
set_option linter.unusedVariables false
set_option linter.unusedSimpArgs false
theorem upN_in (j : Int) : StepIn (upN j) tickI :=
 { nw := ⟨rfl, rfl⟩, m := tail0_wf rfl, lg := ⟨by show ([1] : List Int).length < _; simp, by show ([] : List Ent).length < _; simp, fun e he => by cases he⟩, hv := by show ([] : List Int).length < _; simp, hes := by show ([] : List Ent).length + 1 < _; simp, he := by show ([] : List Ent).length < _; simp, hd := (fun e he => by cases he), hml := by show ([] : List Int).length < _; simp, hdata := by show ([] : List UInt8).length < _; simp, hmems := by show ([] : List Int).length < _; simp }
theorem upL_in : StepIn upL cmdI :=
 { nw := ⟨rfl, rfl⟩, m := tail0_wf rfl, lg := ⟨by show ([1] : List Int).length < _; simp, by show ([⟨1, 0, []⟩] : List Ent).length < _; simp, fun e he => by
    have : e = ⟨1, 0, []⟩ := by simpa [upL] using he
    subst this; show ([] : List UInt8).length < _; simp⟩, hv := by show ([] : List Int).length < _; simp, hes := by show ([⟨1, 0, []⟩] : List Ent).length + 1 < _; simp, he := by show ([] : List Ent).length < _; simp, hd := (fun e he => by cases he), hml := by show ([] : List Int).length < _; simp, hdata := by show ([97] : List UInt8).length < _; simp, hmems := by show ([] : List Int).length < _; simp }
theorem stepF_wf {n : Nde} {x : Inp} (h : StepIn n x) (hs : soundN n = true) : (stepF n x).wf := by
 have hf := sound_fu h hs
 unfold stepF
 dsimp only
 split
 · exact tickF_wf hf _
 · split
   · exact msgF_wf hf _
   · split
     · split
       · rename_i hr
         split
         · split
           · have ht0 := hf.t0; have ht1 := hf.t1; have hel := hf.el; have hdd := h.hdata
             have hsr : (Stp.new n).n.role = 2 := hr
             have htr : 0 < (Stp.new n).n.term := by rcases hf.tr with h | h <;> omega
             exact proposeF_wf hf.toSGd ⟨ht0, by omega, ht1, by decide, by decide, fun h => absurd h (by decide), hdd, by omega⟩
           · exact hf.w
         · exact hf.w
       · exact hf.w
     · split
       · exact changeF_wf hf _
       · split
         · split
           · split
             · exact ⟨⟨hf.w.n.ln, hf.w.n.lm⟩, hf.w.vn, (fun h => by cases h), hf.w.out⟩
             · exact hf.w
           · exact hf.w
         · exact hf.w
theorem up_J3 : ∀ (m j : Nat) (n : Nde), j + m = 10 → (j < 10 → n = upN (j : Int)) → (j = 10 → n = upL) →
  law19_up_J3 0 (.ptr 0 1 0 0) .nili (.int .i64 (j : Int)) [n.row] [] = some (.bool true, [], [])
 | 0, j, n, hj, h1, h2 => by
  have hn := h2 (by omega)
  subst hn
  refine law19_up_J3_of ?_
  have w : upL.wf := ⟨rfl, rfl⟩
  have hs := up_c.1
  have hsw := stepF_wf upL_in hs
  obtain ⟨c, hc⟩ : ∃ c, c = stepF upL cmdI := ⟨_, rfl⟩
  have hcc : c.n.commit = 2 ∧ c.num = 2 := by rw [hc]; exact up_c.2
  rw [← hc] at hsw
  have hst : EV C n_raft_Step [upL.av, cmdI.av] [] = some (c.res, [], []) := by rw [Step_ok upL cmdI upL_in]; unfold stepA; rw [if_pos hs, hc]
  simp -implicitDefEqProofs only [lss_int, Option.bind_some, condK_dec]
  rw [if_neg (by omega), ld_node w rfl, Option.bind_some]
  have rk : ∀ (K : AV → List AObj → List Nat → Option R3), rawK 1 1 (.int .u8 0) [(0, .int .u8 97)] [upL.row] K = K (.slc 1 0 1 1) [upL.row, .row 1 [.int .u8 97]] [] := fun K => rfl
  have cv : cvR (.slc 1 0 1 1) [upL.row, .row 1 [.int .u8 97]] = some (.slc 1 0 1 1) := rfl
  rw [rk, cv, Option.bind_some]
  refine (congrArg (fun x => Option.bind x _) (show fillB _ _ = some [(.int .i64 2), (.int .i64 0), (.int .i64 0), (.int .i64 0), (.int .i64 0), (.int .i64 0), (.int .i64 0), (.int .i64 0), (.int .i64 0), (.int .i64 0), (.bool false), .nils, .nils, (.int .i64 0), .nils, (.int .i64 0), .nils, .nils, .nils, .nils, .slc 1 0 1 1, .nils] from rfl)).trans ?_
  rw [Option.bind_some]
  have hfz : frzL [upL.row, .row 1 [.int .u8 97]] [upL.av, .agg [(.int .i64 2), (.int .i64 0), (.int .i64 0), (.int .i64 0), (.int .i64 0), (.int .i64 0), (.int .i64 0), (.int .i64 0), (.int .i64 0), (.int .i64 0), (.bool false), .nils, .nils, (.int .i64 0), .nils, (.int .i64 0), .nils, .nils, .nils, .nils, .slc 1 0 1 1, .nils]] = some [upL.av, cmdI.av] := by
   refine frzL_cons (frz_good _ _ (Nde.good upL)) ?_
   rfl
  have hk : killAll [upL.row, .row 1 [.int .u8 97]] (killsL [upL.av, .agg [(.int .i64 2), (.int .i64 0), (.int .i64 0), (.int .i64 0), (.int .i64 0), (.int .i64 0), (.int .i64 0), (.int .i64 0), (.int .i64 0), (.int .i64 0), (.bool false), .nils, .nils, (.int .i64 0), .nils, (.int .i64 0), .nils, .nils, .nils, .nils, .slc 1 0 1 1, .nils]]) = [upL.row, .dead] := by
   rw [show killsL [upL.av, .agg [(.int .i64 2), (.int .i64 0), (.int .i64 0), (.int .i64 0), (.int .i64 0), (.int .i64 0), (.int .i64 0), (.int .i64 0), (.int .i64 0), (.int .i64 0), (.bool false), .nils, .nils, (.int .i64 0), .nils, (.int .i64 0), .nils, .nils, .nils, .nils, .slc 1 0 1 1, .nils]] = [1] from by
     simp only [killsL, kills_good _ (Nde.good upL)]
     rfl]
   rfl
  have hg : goodL [upL.av, cmdI.av] = true := by simp only [goodL, Nde.good, Inp.good upL_in.m]; rfl
  have hcall : ∀ (K : AV → List AObj → List Nat → Option R3), callK (EV C) false n_raft_Step [upL.av, .agg [(.int .i64 2), (.int .i64 0), (.int .i64 0), (.int .i64 0), (.int .i64 0), (.int .i64 0), (.int .i64 0), (.int .i64 0), (.int .i64 0), (.int .i64 0), (.bool false), .nils, .nils, (.int .i64 0), .nils, (.int .i64 0), .nils, .nils, .nils, .nils, .slc 1 0 1 1, .nils]] [upL.row, .row 1 [.int .u8 97]] K = K c.res [upL.row, .dead] [] := fun K => by
   have hca : callA (EV C) false n_raft_Step [upL.av, .agg [(.int .i64 2), (.int .i64 0), (.int .i64 0), (.int .i64 0), (.int .i64 0), (.int .i64 0), (.int .i64 0), (.int .i64 0), (.int .i64 0), (.int .i64 0), (.bool false), .nils, .nils, (.int .i64 0), .nils, (.int .i64 0), .nils, .nils, .nils, .nils, .slc 1 0 1 1, .nils]] [upL.row, .row 1 [.int .u8 97]] = some (c.res, [upL.row, .dead], []) := by
     unfold callA
     rw [if_neg (by decide), hfz, Option.bind_some, if_pos (belL_good 0 _ hg), hst, Option.bind_some]
     rw [if_pos (by rfl), if_neg (by simp [Stp.res, AV.flat, flatL, Nde.av, Nde.cs, ints, ents, upL]; intro h; exact absurd h (by rw [hc]; decide)), hk]
   unfold callK; rw [hca]; rfl
  rw [hcall]
  unfold Stp.res
  simp -implicitDefEqProofs only [extA_0, extA_1, extA_2, Option.bind_some]
  have ex3 : extA (.tup [c.n.av, .lst (c.out.map Msg.av), .int .i64 c.num, .nili]) 3 = some .nili := rfl
  rw [ex3, Option.bind_some, new_agg0 (by simp) rfl]
  simp -implicitDefEqProofs only [List.length_cons, List.length_nil, Nat.reduceAdd, Nat.zero_add, List.cons_append, List.nil_append]
  have sk : ∀ (K : List AObj → List Nat → Option R3), stoK 29 (.ptr 2 1 0 0) c.n.av [upL.row, .dead, .row 29 [zN]] K = K [upL.row, .dead, c.n.row] [] := fun K => sto_node (cs := zN.cells) hsw.n rfl rfl
  refine (sk _).trans ?_
  have l3 : loadA false 1 (.ptr 0 1 0 3) [upL.row, .dead, c.n.row] = some (.int .i64 2) := rfl
  have l9 : loadA false 1 (.ptr 0 1 0 9) [upL.row, .dead, c.n.row] = some (.int .i64 1) := rfl
  have l9b : loadA false 1 (.ptr 2 1 0 9) [upL.row, .dead, c.n.row] = some (.int .i64 c.n.commit) := ld_fld (z := 29) (cs := c.n.cs) rfl rfl
  simp -implicitDefEqProofs only [eql_nn, Option.bind_some, splitK_t, offA_ptr, Nat.zero_add, l3, l9, l9b, eql_int, hcc.1, hcc.2, decide_true]
  exact endB_good rfl
 | m + 1, j, n, hj, h1, h2 => by
  have hn := h1 (by omega)
  have e3 : IntKind.i64.wrap ((j : Int) + 1) = ((j + 1 : Nat) : Int) := w64 (by omega) (by omega)
  have hin : StepIn n tickI := by rw [hn]; exact upN_in _
  have hs : soundN n = true := by
   rw [hn]
   rcases Nat.lt_or_ge j 9 with h | h
   · exact (up_t j h).1
   · have : j = 9 := by omega
     subst this; exact up_9.1
  have hsw := stepF_wf hin hs
  have hc1 : j + 1 < 10 → (stepF n tickI).n = upN ((j + 1 : Nat) : Int) := fun h => by rw [hn]; exact (up_t j (by omega)).2
  have hc2 : j + 1 = 10 → (stepF n tickI).n = upL := fun h => by
   have : j = 9 := by omega
   subst this; rw [hn]; exact up_9.2
  obtain ⟨c, hc⟩ : ∃ c, c = stepF n tickI := ⟨_, rfl⟩
  have hst : EV C n_raft_Step [n.av, tickI.av] [] = some (c.res, [], []) := by rw [Step_ok n tickI hin]; unfold stepA; rw [if_pos hs, hc]
  rw [← hc] at hsw hc1 hc2
  have w := hin.nw
  refine law19_up_J3_of ?_
  simp -implicitDefEqProofs only [lss_int, Option.bind_some, condK_dec]
  rw [if_pos (by omega), ld_node w rfl, Option.bind_some]
  refine (congrArg (fun x => Option.bind x _) (show fillB _ _ = some [(.int .i64 0), (.int .i64 0), (.int .i64 0), (.int .i64 0), (.int .i64 0), (.int .i64 0), (.int .i64 0), (.int .i64 0), (.int .i64 0), (.int .i64 0), (.bool false), .nils, .nils, (.int .i64 0), .nils, (.int .i64 0), .nils, .nils, .nils, .nils, .nils, .nils] from rfl)).trans ?_
  rw [Option.bind_some]
  have hcall : ∀ (K : AV → List AObj → List Nat → Option R3), callK (EV C) false n_raft_Step [n.av, .agg [(.int .i64 0), (.int .i64 0), (.int .i64 0), (.int .i64 0), (.int .i64 0), (.int .i64 0), (.int .i64 0), (.int .i64 0), (.int .i64 0), (.int .i64 0), (.bool false), .nils, .nils, (.int .i64 0), .nils, (.int .i64 0), .nils, .nils, .nils, .nils, .nils, .nils]] [n.row] K = K c.res [n.row] [] := fun K =>
   callK_nil (bs := [n.av, tickI.av]) (by simp only [killsL, kills_good _ (Nde.good n)]; rfl) (frzL_cons (frz_good _ _ (Nde.good n)) rfl) (by simp only [goodL, Nde.good, Inp.good hin.m]; rfl) hst
  rw [hcall]
  unfold Stp.res
  simp -implicitDefEqProofs only [extA_0, extA_1, extA_2, Option.bind_some]
  have ex3 : extA (.tup [c.n.av, .lst (c.out.map Msg.av), .int .i64 c.num, .nili]) 3 = some .nili := rfl
  rw [ex3, Option.bind_some, new_agg0 (by simp) rfl]
  simp -implicitDefEqProofs only [List.length_cons, List.length_nil, Nat.reduceAdd, Nat.zero_add, List.cons_append, List.nil_append]
  have sk : ∀ (K : List AObj → List Nat → Option R3), stoK 29 (.ptr 1 1 0 0) c.n.av [n.row, .row 29 [zN]] K = K [n.row, c.n.row] [] := fun K => sto_node (cs := zN.cells) hsw.n rfl rfl
  refine (sk _).trans ?_
  have sk2 : ∀ (K : List AObj → List Nat → Option R3), stoK 29 (.ptr 0 1 0 0) c.n.av [n.row, c.n.row] K = K [c.n.row, c.n.row] [] := fun K => sto_node (cs := n.cs) hsw.n rfl (Nde.len w)
  rw [neq_nn, Option.bind_some, condK_f, ld_node (l := 1) hsw.n rfl, Option.bind_some]
  refine (sk2 _).trans ?_
  simp -implicitDefEqProofs only [add_int, e3, Option.bind_some]
  exact up_J3 m (j + 1) c.n (by omega) hc1 hc2
theorem up_ok : EV C n_law19_up [] [] = some (.bool true, [], []) := by
 refine law19_up_of ?_
 have hl : LgOk ⟨0, 0, [1], []⟩ := ⟨by show ([1] : List Int).length < _; simp, by show ([] : List Ent).length < _; simp, fun e he => by cases he⟩
 dsimp only
 rw [litIn rfl]
 refine (congrArg (fun x => Option.bind x _) (show fillB _ _ = some [.int .i64 0, .int .i64 0, ints [1]] from rfl)).trans ?_
 rw [Option.bind_some]
 refine (congrArg (fun x => Option.bind x _) (show fillB _ _ = some [.int .i64 0, .int .i64 0, ints [1], .nils] from rfl)).trans ?_
 rw [Option.bind_some]
 have hcall : ∀ (K : AV → List AObj → List Nat → Option R3), callK (EV C) false n_raft_New [.int .i64 1, .int .i64 0, .int .i64 0, .agg [.int .i64 0, .int .i64 0, ints [1], .nils], .int .i64 0] [] K = K (.tup [(upN 0).av, .nili]) [] [] := fun K =>
  callK_nil (bs := [.int .i64 1, .int .i64 0, .int .i64 0, (Lg.av ⟨0, 0, [1], []⟩), .int .i64 0]) rfl rfl rfl (by
   rw [New_ok 1 0 0 ⟨0, 0, [1], []⟩ 0 hl]
   unfold newA'
   rw [up_0, if_pos (show soundN (upN 0) = true from by decide)])
 rw [hcall]
 simp -implicitDefEqProofs only [extA_0, extA_1, Option.bind_some]
 rw [new_agg0 (by simp) rfl]
 have sk : ∀ (K : List AObj → List Nat → Option R3), stoK 29 (.ptr 0 1 0 0) (upN 0).av [.row 29 [zN]] K = K [(upN 0).row] [] := fun K => sto_node (cs := zN.cells) ⟨rfl, rfl⟩ rfl rfl
 refine (sk _).trans ?_
 exact up_J3 10 0 (upN 0) rfl (fun _ => rfl) (fun h => by cases h)
end Go.Pm
namespace Go.Pm
open Go.Proofs
set_option linter.unusedVariables false
set_option linter.unusedSimpArgs false
theorem same17_J4 (l : List Int) (hl : l.length < 2^62) : ∀ (m i : Nat) (E : List Nat), i + m = l.length →
  ref17_Same_J4 0 (ints l) (ints l) (.int .i64 (i : Int)) [] E = some (.bool true, [], [])
 | 0, i, E, h => by
  refine ref17_Same_J4_of ?_
  simp -implicitDefEqProofs only [lenV_ints, lss_int, Option.bind_some, condK_dec]
  rw [if_neg (by omega)]
  exact endB_good rfl
 | m + 1, i, E, h => by
  refine ref17_Same_J4_of ?_
  have hi : i < l.length := by omega
  have e3 : IntKind.i64.wrap ((i : Int) + 1) = ((i + 1 : Nat) : Int) := w64 (by omega) (by omega)
  simp -implicitDefEqProofs only [lenV_ints, lss_int, Option.bind_some, condK_dec]
  rw [if_pos (by omega)]
  simp -implicitDefEqProofs only [ix_ints hi, ld_i, neq_int, decide_true, Bool.not_true, Option.bind_some, condK_f, add_int, e3]
  exact same17_J4 l hl m (i + 1) E (by omega)
theorem same17_ok (l : List Int) (hl : l.length < 2^62) : EV C n_ref17_Same [ints l, ints l] [] = some (.bool true, [], []) := by
 refine ref17_Same_of ?_
 simp -implicitDefEqProofs only [lenV_ints, neq_int, decide_true, Bool.not_true, Option.bind_some, condK_f]
 exact same17_J4 l hl l.length 0 [] (by omega)
theorem eqIs_self : ∀ l : List Int, eqIs (l.map i64) (l.map i64) = some true
 | [] => rfl
 | x :: l => by
  show (if IntKind.i64 = IntKind.i64 then (if x = x then eqIs (l.map i64) (l.map i64) else some false) else none) = _
  rw [if_pos rfl, if_pos rfl]; exact eqIs_self l
theorem eql_arr {l : List Int} (h : l.length = 8) : binA .eql (Go.TypeDesc.array 8 3) (cmpT Tryz.prog) false (.agg (l.map i64)) (.agg (l.map i64)) = some (.bool true) := by
 have hc : cmpT Tryz.prog 3 = true := by kernel_rfl
 show (eqI (Go.TypeDesc.array 8 3) (cmpT Tryz.prog) (l.map i64) (l.map i64)).map AV.bool = _
 unfold eqI
 dsimp only
 rw [if_pos ⟨hc, by simp [h], by simp [h]⟩, eqIs_self]; rfl
structure NdeOk (n : Nde) : Prop where
 w : n.wf
 m : n.log.mems.length < 2^62
 e : n.log.es.length < 2^62
 v : n.votes.length < 2^62
section
variable {n : Nde} {H : List AObj} {l : Nat}
theorem ld_nx (w : n.wf) (h : H[l]? = some n.row) : loadA true 8 (.ptr l 1 0 11) H = some (.agg (n.next.map i64)) := by
 rw [ld_aggp (cs := n.cs) h (by simp [Nde.cs, w.ln, w.lm])]
 have : n.cs.drop 11 = n.next.map i64 ++ (n.mtch.map i64 ++ [.int .i64 n.ticks, .int .i64 n.timeout]) := rfl
 rw [this, List.take_left' (by simp [w.ln])]
theorem ld_mt (w : n.wf) (h : H[l]? = some n.row) : loadA true 8 (.ptr l 1 0 19) H = some (.agg (n.mtch.map i64)) := by
 rw [ld_aggp (cs := n.cs) h (by simp [Nde.cs, w.ln, w.lm])]
 have : n.cs.drop 19 = n.mtch.map i64 ++ [.int .i64 n.ticks, .int .i64 n.timeout] := by
  have e : n.cs = ([.int .i64 n.id, .int .i64 n.term, .int .i64 n.voted, .int .i64 n.role, .int .i64 n.leader, .int .i64 n.log.index, .int .i64 n.log.term, ints n.log.mems, ents n.log.es, .int .i64 n.commit, ints n.votes] ++ n.next.map i64) ++ (n.mtch.map i64 ++ [.int .i64 n.ticks, .int .i64 n.timeout]) := by simp [Nde.cs]
  rw [e, List.drop_left' (by simp [w.ln])]
 rw [this, List.take_left' (by simp [w.lm])]
end
set_option maxHeartbeats 1000000 in
theorem same19_ok {n : Nde} (h : NdeOk n) : EV C n_ref19_Same [n.av, n.av] [] = some (.bool true, [], []) := by
 refine ref19_Same_of ?_
 have w := h.w
 dsimp only
 rw [new_nd w]
 simp -implicitDefEqProofs only [List.length_nil, List.nil_append]
 rw [new_nd w]
 have h0 : ([n.row, n.row] : List AObj)[0]? = some n.row := rfl
 have h1 : ([n.row, n.row] : List AObj)[1]? = some n.row := rfl
 simp -implicitDefEqProofs only [List.length_singleton, List.singleton_append, offA_ptr, Option.bind_some, Nat.zero_add, Nat.add_zero, ld_fld (j := 0) (v := .int .i64 n.id) h0 rfl, ld_fld (j := 0) (v := .int .i64 n.id) h1 rfl, ld_fld (j := 1) (v := .int .i64 n.term) h0 rfl, ld_fld (j := 1) (v := .int .i64 n.term) h1 rfl, ld_fld (j := 2) (v := .int .i64 n.voted) h0 rfl, ld_fld (j := 2) (v := .int .i64 n.voted) h1 rfl, ld_fld (j := 3) (v := .int .i64 n.role) h0 rfl, ld_fld (j := 3) (v := .int .i64 n.role) h1 rfl, ld_fld (j := 4) (v := .int .i64 n.leader) h0 rfl, ld_fld (j := 4) (v := .int .i64 n.leader) h1 rfl, ld_log h0, ld_log h1, eql_int, decide_true, splitK_t]
 rw [callK_ok (by simp [goodL]) (Same_ok n.log h.m h.e)]
 simp -implicitDefEqProofs only [offA_ptr, Option.bind_some, Nat.zero_add, Nat.add_zero, ld_fld (j := 9) (v := .int .i64 n.commit) h0 rfl, ld_fld (j := 9) (v := .int .i64 n.commit) h1 rfl, ld_fld (j := 10) (v := ints n.votes) h0 rfl, ld_fld (j := 10) (v := ints n.votes) h1 rfl, eql_int, decide_true, splitK_t]
 rw [callK_ok (by simp [goodL]) (same17_ok n.votes h.v)]
 simp -implicitDefEqProofs only [offA_ptr, Option.bind_some, Nat.zero_add, Nat.add_zero, ld_nx w h0, ld_nx w h1, ld_mt w h0, ld_mt w h1, eql_arr w.ln, eql_arr w.lm, ld_fld (j := 27) (v := .int .i64 n.ticks) h0 (nd_ticks w), ld_fld (j := 27) (v := .int .i64 n.ticks) h1 (nd_ticks w), ld_fld (j := 28) (v := .int .i64 n.timeout) h0 (nd_timeout w), ld_fld (j := 28) (v := .int .i64 n.timeout) h1 (nd_timeout w), eql_int, decide_true, splitK_t]
 exact endB_good rfl
structure MsgOk (m : Msg) : Prop where
 w : m.wf
 e : m.es.length < 2^62
 m : m.mems.length < 2^62
set_option maxHeartbeats 1000000 in
theorem sameMsg_ok {m : Msg} (h : MsgOk m) : EV C n_ref19_SameMsg [m.av, m.av] [] = some (.bool true, [], []) := by
 refine ref19_SameMsg_of ?_
 have w := h.w
 obtain ⟨a, r, b, l, ht⟩ := w.shp
 have n1 : ∀ (H : List AObj) (K : AV → List AObj → List Nat → Option R3), newK m.av H K = K (.ptr H.length 1 0 0) (H ++ [mrow m]) [] := fun H K => by
  rw [show m.av = .agg m.cs from rfl, new_agg0 (by intro e; have := Msg.cslen w; simp [e] at this) (Msg.csone w), Msg.cslen w]; rfl
 dsimp only
 rw [n1]
 simp -implicitDefEqProofs only [List.length_nil, List.nil_append]
 rw [n1]
 have h0 : ([mrow m, mrow m] : List AObj)[0]? = some (.row 17 [.agg m.cs]) := rfl
 have h1 : ([mrow m, mrow m] : List AObj)[1]? = some (.row 17 [.agg m.cs]) := rfl
 have c10 : m.cs[10]? = some (.int .i64 a) := by unfold Msg.cs; rw [ht]; rfl
 have c11 : m.cs[11]? = some (.lst r) := by unfold Msg.cs; rw [ht]; rfl
 have c12 : m.cs[12]? = some (.int .i64 b) := by unfold Msg.cs; rw [ht]; rfl
 have eb : ∀ x : Bool, binA .eql Go.TypeDesc.bool (cmpT Tryz.prog) false (.bool x) (.bool x) = some (.bool true) := fun x => by cases x <;> rfl
 simp -implicitDefEqProofs only [List.length_singleton, List.singleton_append, offA_ptr, Option.bind_some, Nat.zero_add, Nat.add_zero, ld_fld (j := 0) (v := .int .i64 m.kind) h0 rfl, ld_fld (j := 0) (v := .int .i64 m.kind) h1 rfl, ld_fld (j := 1) (v := .int .i64 m.frm) h0 rfl, ld_fld (j := 1) (v := .int .i64 m.frm) h1 rfl, ld_fld (j := 2) (v := .int .i64 m.to) h0 rfl, ld_fld (j := 2) (v := .int .i64 m.to) h1 rfl, ld_fld (j := 3) (v := .int .i64 m.term) h0 rfl, ld_fld (j := 3) (v := .int .i64 m.term) h1 rfl, ld_fld (j := 4) (v := .int .i64 m.index) h0 rfl, ld_fld (j := 4) (v := .int .i64 m.index) h1 rfl, ld_fld (j := 5) (v := .int .i64 m.lterm) h0 rfl, ld_fld (j := 5) (v := .int .i64 m.lterm) h1 rfl, ld_fld (j := 6) (v := .int .i64 m.commit) h0 rfl, ld_fld (j := 6) (v := .int .i64 m.commit) h1 rfl, ld_fld (j := 7) (v := .bool m.ok) h0 rfl, ld_fld (j := 7) (v := .bool m.ok) h1 rfl, ld_fld (j := 8) (v := ents m.es) h0 rfl, ld_fld (j := 8) (v := ents m.es) h1 rfl, eql_int, eb, decide_true, splitK_t]
 rw [callK_ok (by simp [goodL]) (SameEntries_ok m.es h.e)]
 simp -implicitDefEqProofs only [offA_ptr, Option.bind_some, Nat.zero_add, Nat.add_zero, ld_fld (j := 9) (v := ints m.mems) h0 rfl, ld_fld (j := 9) (v := ints m.mems) h1 rfl, splitK_t]
 rw [callK_ok (by simp [goodL]) (same17_ok m.mems h.m)]
 simp -implicitDefEqProofs only [offA_ptr, Option.bind_some, Nat.zero_add, Nat.add_zero, ld_fld h0 c10, ld_fld h1 c10, ld_fld h0 c11, ld_fld h1 c11, ld_fld h0 c12, ld_fld h1 c12, lenV_lst, eql_int, decide_true, splitK_t]
 exact endB_good rfl
def msgs (l : List Msg) : AV := .lst (l.map Msg.av)
theorem good_msgs {l : List Msg} (h : ∀ m ∈ l, MsgOk m) : (msgs l).good = true := goodL_all.2 fun v hv => by
 obtain ⟨m, hm, rfl⟩ := List.mem_map.1 hv
 exact Msg.avgood (h m hm).w
theorem sameMsgs_J4 (l : List Msg) (hl : l.length < 2^60) (h : ∀ m ∈ l, MsgOk m) : ∀ (k i : Nat) (E : List Nat), i + k = l.length →
  ref19_SameMsgs_J4 0 (msgs l) (msgs l) (.int .i64 (i : Int)) [] E = some (.bool true, [], [])
 | 0, i, E, hi => by
  refine ref19_SameMsgs_J4_of ?_
  have lv : lenV (msgs l) [] = some (.int .i64 (l.length : Int)) := by simp [msgs]
  simp -implicitDefEqProofs only [lv, lss_int, Option.bind_some, condK_dec]
  rw [if_neg (by omega)]
  exact endB_good rfl
 | k + 1, i, E, hi => by
  refine ref19_SameMsgs_J4_of ?_
  have lv : lenV (msgs l) [] = some (.int .i64 (l.length : Int)) := by simp [msgs]
  have hlt : i < l.length := by omega
  have hm := h _ (List.getElem_mem hlt)
  have e3 : IntKind.i64.wrap ((i : Int) + 1) = ((i + 1 : Nat) : Int) := w64 (by omega) (by omega)
  have ix : ixA 17 (msgs l) (.int .i64 (i : Int)) [] = some (.ip l[i].cs) := ixA_lst (e := l[i].av) (by omega) (by simp [hlt]) (Msg.cslen hm.w)
  have la : loadA true 17 (.ip l[i].cs) [] = some l[i].av := by
   show ldv true 17 l[i].cs = _
   simp only [ldv, if_true]
   rw [if_pos (by rw [Msg.cslen hm.w]; exact Nat.le_refl _), List.take_of_length_le (by rw [Msg.cslen hm.w]; exact Nat.le_refl _)]; rfl
  simp -implicitDefEqProofs only [lv, lss_int, Option.bind_some, condK_dec]
  rw [if_pos (by omega)]
  simp -implicitDefEqProofs only [ix, la, Option.bind_some, callD_ok (show goodL [l[i].av, l[i].av] = true from by simp [goodL, Msg.avgood hm.w]) (sameMsg_ok hm), not_bool, Bool.not_true, condK_f, add_int, e3]
  exact sameMsgs_J4 l hl h k (i + 1) E (by omega)
theorem sameMsgs_ok {l : List Msg} (hl : l.length < 2^60) (h : ∀ m ∈ l, MsgOk m) : EV C n_ref19_SameMsgs [msgs l, msgs l] [] = some (.bool true, [], []) := by
 refine ref19_SameMsgs_of ?_
 have lv : lenV (msgs l) [] = some (.int .i64 (l.length : Int)) := by simp [msgs]
 simp -implicitDefEqProofs only [lv, neq_int, decide_true, Bool.not_true, Option.bind_some, condK_f]
 exact sameMsgs_J4 l hl h l.length 0 [] (by omega)
def light19 (n : Nde) (x : Inp) : Bool := lightL n.log && (lightL ⟨0, 0, [], x.msg.es⟩ && (decide (n.votes.length < 100) && (decide (x.data.length < 10000) && (decide (x.mems.length < 100) && decide (x.msg.mems.length < 100)))))
set_option maxHeartbeats 1000000 in
theorem light19_ok {n : Nde} {x : Inp} (w : n.wf) (wm : x.msg.wf) : EV C n_ref19_Light [n.av, x.av] [] = some (.bool (light19 n x), [], []) := by
 refine ref19_Light_of ?_
 dsimp only
 rw [new_nd w]
 simp -implicitDefEqProofs only [List.length_nil, List.nil_append]
 rw [new_inp wm]
 simp -implicitDefEqProofs only [List.length_singleton, List.singleton_append]
 have h0 : ([n.row, x.row] : List AObj)[0]? = some n.row := rfl
 have h1 : ([n.row, x.row] : List AObj)[1]? = some (.row 22 [.agg x.cs]) := rfl
 have hcl : x.msg.cs.length = 17 := Msg.cslen wm
 have c11 : x.cs[11]? = some (ents x.msg.es) := rfl
 have c12 : x.cs[12]? = some (ints x.msg.mems) := rfl
 have c20 : x.cs[20]? = some (bys x.data) := by
  unfold Inp.cs
  rw [List.getElem?_append_right (by simp), List.getElem?_append_right (by simp [hcl])]; simp [hcl]
 have c21 : x.cs[21]? = some (ints x.mems) := by
  unfold Inp.cs
  rw [List.getElem?_append_right (by simp), List.getElem?_append_right (by simp [hcl])]; simp [hcl]
 simp -implicitDefEqProofs only [offA_ptr, Option.bind_some, Nat.zero_add, ld_log h0]
 rw [callK_ok (by simp [goodL]) (Light_ok n.log)]
 simp -implicitDefEqProofs only [offA_ptr, Option.bind_some, Nat.zero_add, Nat.reduceAdd, ld_fld h1 c11]
 have hfl : fillB (AV.cells (.agg [(.int .i64 0), (.int .i64 0), .nils, .nils])) [(3, 1, ents x.msg.es)] = some [.int .i64 0, .int .i64 0, .nils, ents x.msg.es] := rfl
 rw [hfl, Option.bind_some]
 have hc : ∀ (H : List AObj) (K : AV → List AObj → List Nat → Option R3), callK (EV C) false n_ref18_Light [.agg [.int .i64 0, .int .i64 0, .nils, ents x.msg.es]] H K = K (.bool (lightL ⟨0, 0, [], x.msg.es⟩)) H [] := fun H K =>
  callK_nil (bs := [(Lg.av ⟨0, 0, [], x.msg.es⟩)]) rfl rfl (by simp [goodL]) (Light_ok _)
 rw [hc]
 unfold light19
 cases b1 : lightL n.log with
 | false => simp only [splitK_f, Bool.false_and]; exact endB_good rfl
 | true =>
  simp only [splitK_t, Bool.true_and]
  cases b2 : lightL ⟨0, 0, [], x.msg.es⟩ with
  | false => simp only [splitK_f, Bool.false_and]; exact endB_good rfl
  | true =>
   simp -implicitDefEqProofs only [splitK_t, Bool.true_and, offA_ptr, Option.bind_some, Nat.zero_add, ld_fld (j := 10) (v := ints n.votes) h0 rfl, lenV_ints, lss_int, splitK_dec]
   by_cases b3 : (n.votes.length : Int) < 100
   · rw [if_pos b3, show decide (n.votes.length < 100) = true from decide_eq_true (by omega)]
     simp -implicitDefEqProofs only [Bool.true_and, offA_ptr, Option.bind_some, Nat.zero_add, ld_fld h1 c20, lenV_bys, lss_int, splitK_dec]
     by_cases b4 : (x.data.length : Int) < 10000
     · rw [if_pos b4, show decide (x.data.length < 10000) = true from decide_eq_true (by omega)]
       simp -implicitDefEqProofs only [Bool.true_and, offA_ptr, Option.bind_some, Nat.zero_add, ld_fld h1 c21, lenV_ints, lss_int, splitK_dec]
       by_cases b5 : (x.mems.length : Int) < 100
       · rw [if_pos b5, show decide (x.mems.length < 100) = true from decide_eq_true (by omega)]
         simp -implicitDefEqProofs only [Bool.true_and, offA_ptr, Option.bind_some, Nat.zero_add, Nat.reduceAdd, ld_fld h1 c12, lenV_ints, lss_int]
         refine (endB_good rfl).trans ?_
         congr 3
         simp only [decide_eq_decide]; omega
       · rw [if_neg b5, show decide (x.mems.length < 100) = false from decide_eq_false (by omega)]
         simp only [Bool.false_and]
         exact endB_good rfl
     · rw [if_neg b4, show decide (x.data.length < 10000) = false from decide_eq_false (by omega)]
       simp only [Bool.false_and]
       exact endB_good rfl
   · rw [if_neg b3, show decide (n.votes.length < 100) = false from decide_eq_false (by omega)]
     simp only [Bool.false_and]
     exact endB_good rfl
end Go.Pm
namespace Go.Pm
open Go.Proofs
set_option linter.unusedVariables false
set_option linter.unusedSimpArgs false
theorem countD (a : Int) (H : List AObj) : callD (EV C) n_ref19_count [.int .i64 a] H = some (.bool (cntF a)) := callD_ok (by simp [goodL, AV.good]) (count19_ok a)
end Go.Pm
namespace Go.Pm
open Go.Proofs
set_option linter.unusedVariables false
set_option linter.unusedSimpArgs false
theorem light_ok {g : Lg} (h : lightL g = true) : LgOk g ∧ g.es.length ≤ 200 ∧ g.mems.length ≤ 100 := by
 simp only [lightL, Bool.and_eq_true, decide_eq_true_eq, List.all_eq_true] at h
 refine ⟨⟨by omega, by omega, fun e he => ?_⟩, h.1, h.2.1⟩
 have := h.2.2 e he
 omega
end Go.Pm
namespace Go.Pm
open Go.Proofs
set_option linter.unusedVariables false
set_option linter.unusedSimpArgs false
theorem rHas_ok (g : Lg) (i : Int) (h : Small g) : EV C n_ref18_Has [g.av, .int .i64 i] [] = some (.bool (hasL g i), [], []) := by
 refine ref18_Has_of ?_
 simp only [ZL, Nat.reduceAdd, ZM]
 split
 · rename_i h1
   rw [callK_ok (by simp) (rLast_ok g h)]
   simp only [ZL, Nat.reduceAdd, ZM]
   refine (endB_good rfl).trans ?_
   simp [hasL, h1]
 · rename_i h1
   refine (endB_good rfl).trans ?_
   simp [hasL, h1]
theorem rmembers_loop (g : Lg) (i : Int) (hg : LgOk g) (hs : soundL g = true) : ∀ (m k : Nat) (E : List Nat), k + m = g.es.length → k ≤ (i - g.index).toNat →
  ref18_Members_J3 0 (.int .i64 i) (.ptr 0 1 0 0) (ints (memF g.mems (g.es.take k))) (.int .i64 k) [.row 4 [g.av]] E = some (ints (membersL g i), [], []) := by
 have hsm := sound_small hs
 have h0 := hsm.i0; have h1 := hsm.i1; have hmo : most = 1152921504606846976 := rfl
 intro m
 induction m with
 | zero =>
  intro k E h hk
  refine ref18_Members_J3_of ?_
  have e1 : ¬ ((k : Int) < (g.es.length : Int)) := by omega
  simp only [ZL, Nat.reduceAdd, ZM, e1]
  have : memF g.mems (g.es.take k) = membersL g i := by
    unfold membersL; rw [List.take_of_length_le (by omega), List.take_of_length_le (by omega)]
  rw [this]
  exact endB_good (good_ints _)
 | succ m ih =>
  intro k E h hk
  refine ref18_Members_J3_of ?_
  have e1 : ((k : Int) < (g.es.length : Int)) := by omega
  have e2 : IntKind.i64.wrap (g.index + 1) = g.index + 1 := by rw [wrap64] <;> omega
  have e3 : IntKind.i64.wrap (g.index + 1 + (k : Int)) = g.index + 1 + (k : Int) := by rw [wrap64] <;> omega
  have e4 : IntKind.i64.wrap ((k : Int) + 1) = ((k + 1 : Nat) : Int) := w64 (by omega) (by omega)
  have hkl : k < g.es.length := by omega
  have hget := List.getElem?_eq_getElem hkl
  have hmem := List.getElem_mem hkl
  generalize g.es[k] = e at hget hmem
  simp only [ZL, Nat.reduceAdd, ZM, e1, e2, e3, decide_true]
  split
  · rename_i hle
    have hts := take_snoc hget
    simp only [ixA_ents hget, ZL, Nat.reduceAdd, ZM, e4]
    split
    · rename_i hk2
      rw [callK_ok (by simp) (ref17_Of_ok e.data (hg.d e hmem))]
      simp only [sound_may hs e hmem hk2, ZL, Nat.reduceAdd, ZM]
      have := fun E => ih (k + 1) E (by omega) (by omega)
      rw [hts, memF_snoc, if_pos hk2] at this
      exact this _
    · rename_i hk2
      have := fun E => ih (k + 1) E (by omega) (by omega)
      rw [hts, memF_snoc, if_neg hk2] at this
      exact this _
  · rename_i hle
    have : k = (i - g.index).toNat := by omega
    unfold membersL
    rw [← this]
    exact endB_good (good_ints _)
theorem rMembers_ok (g : Lg) (i : Int) (hg : LgOk g) (hs : soundL g = true) : EV C n_ref18_Members [g.av, .int .i64 i] [] = some (ints (membersL g i), [], []) := by
 refine ref18_Members_of ?_
 simp only [ZL, Nat.reduceAdd, ZM]
 exact rmembers_loop g i hg hs g.es.length 0 _ (by omega) (by omega)
theorem rslice_loop (g : Lg) (n : Int) (hg : LgOk g) : ∀ (m k : Nat) (out : List Ent) (E : List Nat), k + m = g.es.length → out.length ≤ k →
  ref18_Slice_J5 0 (.int .i64 n) (.ptr 0 1 0 0) (.slc 1 0 out.length out.length) (.int .i64 k) [.row 4 [g.av], vro 3 (out.map Ent.av)] E = some (ents (out ++ (g.es.drop k).take (n - out.length).toNat), [], []) := by
 have he := hg.e
 have lenO : ∀ (out : List Ent) (H : List AObj), lenV (.slc 1 0 out.length out.length) [.row 4 [g.av], vro 3 (out.map Ent.av)] = some (.int .i64 out.length) := fun out H => by
  have hl : lenOf [.row 4 [g.av], vro 3 (out.map Ent.av)] 1 = some (out.map Ent.av).length := lenOf_vro (z := 3) rfl
  rw [List.length_map] at hl
  simp only [lenV, lenA, hl, if_true, Option.map_some]
 have fin : ∀ (out : List Ent) (E : List Nat), endB false false 0 (.slc 1 0 out.length out.length) [.row 4 [g.av], vro 3 (out.map Ent.av)] E = some (ents out, [], []) := fun out E =>
  endB_frz (frz_vro (z := 3) rfl (List.length_map _).symm (goodL_ents _)) (good_ents _)
 intro m
 induction m with
 | zero =>
  intro k out E h ho
  refine ref18_Slice_J5_of ?_
  have e1 : ¬ ((k : Int) < (g.es.length : Int)) := by omega
  simp only [ZL, Nat.reduceAdd, ZM, e1]
  rw [List.drop_eq_nil_of_le (by omega), List.take_nil, List.append_nil]
  exact fin _ _
 | succ m ih =>
  intro k out E h ho
  refine ref18_Slice_J5_of ?_
  have e1 : ((k : Int) < (g.es.length : Int)) := by omega
  have e4 : IntKind.i64.wrap ((k : Int) + 1) = ((k + 1 : Nat) : Int) := w64 (by omega) (by omega)
  have hkl : k < g.es.length := by omega
  have hget := List.getElem?_eq_getElem hkl
  have hdr : g.es.drop k = g.es[k] :: g.es.drop (k + 1) := List.drop_eq_getElem_cons hkl
  generalize g.es[k] = e at hget hdr
  simp only [ZL, Nat.reduceAdd, ZM, e1, lenO out []]
  split
  · rename_i hlt
    simp only [ixA_ents hget, ZL, Nat.reduceAdd, ZM, litE]
    rw [appK_vro (n := out.length) (es := out.map Ent.av) (ys := [e].map Ent.av) rfl rfl (List.length_map _).symm rfl (by decide) (by decide) (by decide) (by simp; omega)]
    simp only [ZL, Nat.reduceAdd, ZM, e4]
    have := fun E => ih (k + 1) (out ++ [e]) E (by omega) (by simp; omega)
    simp only [List.length_append, List.map_append] at this
    rw [hdr]
    have h2 : (n - (out.length : Int)).toNat = (n - ((out.length + [e].length : Nat) : Int)).toNat + 1 := by simp only [List.length_singleton]; omega
    rw [h2, List.take_succ_cons, show out ++ e :: (g.es.drop (k + 1)).take (n - ((out.length + [e].length : Nat) : Int)).toNat = out ++ [e] ++ (g.es.drop (k + 1)).take (n - ((out.length + [e].length : Nat) : Int)).toNat by simp]
    exact this _
  · rename_i hlt
    rw [show (n - (out.length : Int)).toNat = 0 by omega, List.take_zero, List.append_nil]
    exact fin _ _
theorem rSlice_ok (g : Lg) (i n : Int) (hg : LgOk g) (hs : Small g) : EV C n_ref18_Slice [g.av, .int .i64 i, .int .i64 n] [] = some (ents (sliceL g i n), [], []) := by
 refine ref18_Slice_of ?_
 have h0 := hs.i0; have h1 := hs.i1; have hmo : most = 1152921504606846976 := rfl
 simp only [ZL, Nat.reduceAdd, ZM]
 split
 · have : sliceL g i n = [] := by unfold sliceL; rw [if_neg (by omega)]
   rw [this]; exact endB_frz rfl rfl
 · rw [callK_ok (by simp) (rLast_ok g hs)]
   simp only [ZL, Nat.reduceAdd, ZM]
   split
   · have : sliceL g i n = [] := by unfold sliceL; rw [if_neg (by omega)]
     rw [this]; exact endB_frz rfl rfl
   · rename_i ha hb
     unfold lastL at hb
     have e1 : IntKind.i64.wrap (i - g.index) = i - g.index := by rw [wrap64] <;> omega
     have e2 : IntKind.i64.wrap (i - g.index - 1) = (((i - g.index - 1).toNat : Nat) : Int) := w64 (by omega) (by omega)
     simp only [ZL, Nat.reduceAdd, ZM, e1, e2]
     have := fun E => rslice_loop g n hg (g.es.length - (i - g.index - 1).toNat) (i - g.index - 1).toNat [] E (by omega) (by simp)
     simp only [List.nil_append, List.length_nil, List.map_nil, vro_nil] at this
     have h2 : sliceL g i n = (g.es.drop (i - g.index - 1).toNat).take (n - ((0 : Nat) : Int)).toNat := by unfold sliceL lastL; rw [if_pos (by omega)]; congr 1; omega
     rw [h2]
     exact this _
theorem rCompact_ok (g : Lg) (i : Int) (hg : LgOk g) (hs : soundL g = true) (hh : hasL g i = true) : EV C n_ref18_Compact [g.av, .int .i64 i] [] = some ((compactL g i).av, [], []) := by
 refine ref18_Compact_of ?_
 have hsm := sound_small hs
 have h0 := hsm.i0; have h1 := hsm.i1; have hmo : most = 1152921504606846976 := rfl
 have hb := hasL_iff.1 hh
 have hle := hg.e
 have w1 : IntKind.i64.wrap (i - g.index) = (((i - g.index).toNat : Nat) : Int) := w64 (by omega) (by omega)
 simp only [ZL, Nat.reduceAdd, ZM, new_zlog, extA_2, ld_lg1, ld_lg2]
 have ht : ∀ H, callD (EV C) n_ref18_Term [g.av, .int .i64 i] H = some (.int .i64 (termL g i)) := fun H => callD_ok (by simp) (rTerm_ok g i hsm hh)
 have hm : ∀ H, callD (EV C) n_ref18_Members [g.av, .int .i64 i] H = some (ints (membersL g i)) := fun H => callD_ok (by simp) (rMembers_ok g i hg hs)
 have hst : ∀ (o1 o2 : AObj) (K : List AObj → List Nat → Option R3), stoK 4 (.ptr 2 1 0 0) (.agg [.int .i64 i, .int .i64 (termL g i), ints (membersL g i), .nils]) [o1, o2, .row 4 [zlog]] K = K [o1, o2, .row 4 [.agg [.int .i64 i, .int .i64 (termL g i), ints (membersL g i), .nils]]] _ := fun o1 o2 K => sto_agg' (ds := [.int .i64 i, .int .i64 (termL g i), ints (membersL g i), .nils]) rfl rfl rfl
 have hl3 : ∀ (o1 o2 : AObj) (a b c d : AV) (T : List AObj), loadA false 1 (.ptr 2 1 0 3) (o1 :: o2 :: .row 4 [.agg [a, b, c, d]] :: T) = some d := fun _ _ _ _ _ _ _ => rfl
 have hl4 : ∀ (o1 o2 : AObj) (a b c d : AV) (T : List AObj), loadA true 4 (.ptr 2 1 0 0) (o1 :: o2 :: .row 4 [.agg [a, b, c, d]] :: T) = some (.agg [a, b, c, d]) := fun _ _ _ _ _ _ _ => rfl
 have hl5 : ∀ (o1 : AObj) (a b c d : AV) (T : List AObj), loadA true 4 (.ptr 1 1 0 0) (o1 :: .row 4 [.agg [a, b, c, d]] :: T) = some (.agg [a, b, c, d]) := fun _ _ _ _ _ _ => rfl
 have hst2 : ∀ (v : AV) (hv : v.one = true) (o1 : AObj) (T : List AObj) (K : List AObj → List Nat → Option R3), stoK 4 (.ptr 1 1 0 0) (.agg [.int .i64 i, .int .i64 (termL g i), ints (membersL g i), v]) (o1 :: .row 4 [zlog] :: T) K = K (o1 :: .row 4 [.agg [.int .i64 i, .int .i64 (termL g i), ints (membersL g i), v]] :: T) (escs 1 [.int .i64 i, .int .i64 (termL g i), ints (membersL g i), v]) := fun v hv o1 T K => by
   have : [AV.int .i64 i, .int .i64 (termL g i), ints (membersL g i), v].all AV.one = true := by
    show (true && (true && (true && (v.one && true)))) = true
    rw [hv]; rfl
   exact sto_agg' (ds := [.int .i64 i, .int .i64 (termL g i), ints (membersL g i), v]) rfl rfl this
 simp only [ht, hm, ZL, Nat.reduceAdd, ZM, new_zlog, extA_2, ld_lg1, ld_lg2, fill3, fill5, drawK_t, hst, hl3, w1, cut_tail (show (i - g.index).toNat ≤ g.es.length by omega)]
 by_cases he : g.es.drop (i - g.index).toNat = []
 · rw [appK_nils0 (by rw [he]; rfl)]
   rw [sto_f (off := 3) (cs := [.int .i64 i, .int .i64 (termL g i), ints (membersL g i), .nils]) rfl (by simp) rfl rfl]
   simp only [List.set_cons_succ, List.set_cons_zero, hl4, Option.bind_some]
   rw [hst2 .nils rfl]
   simp only [hl5, Option.bind_some]
   refine (endB_frz (u := (compactL g i).av) ?_ (by simp))
   unfold compactL Lg.av
   simp only [he]
   rfl
 · rw [appK_nils (ys := (g.es.drop (i - g.index).toNat).map Ent.av) rfl (by simpa using he) (lz_ents _) (by decide) (by decide) (by decide) (by simp; omega)]
   rw [sto_f (off := 3) (cs := [.int .i64 i, .int .i64 (termL g i), ints (membersL g i), .nils]) rfl (by simp) rfl rfl]
   simp only [List.length_cons, List.length_nil, Nat.reduceAdd, List.cons_append, List.nil_append, List.set_cons_succ, List.set_cons_zero, hl4, Option.bind_some]
   rw [hst2 (.slc 3 0 ((g.es.drop (i - g.index).toNat).map Ent.av).length ((g.es.drop (i - g.index).toNat).map Ent.av).length) rfl]
   simp only [hl5, Option.bind_some]
   refine (endB_frz (u := (compactL g i).av) ?_ (by simp))
   unfold compactL Lg.av
   exact frz_agg (frzL_cons rfl (frzL_cons rfl (frzL_cons rfl (frzL_cons (frz_row (z := 3) rfl rfl (goodL_ents _)) rfl))))
def mAV' (r : Lg × Int × Int) : AV := .tup [r.1.av, .int .i64 r.2.1, .int .i64 r.2.2]
def rawLg (g : Lg) (n : Nat) : AV := .agg [.int .i64 g.index, .int .i64 g.term, ints g.mems, .slc 3 0 n n]
theorem frz_rawLg (g : Lg) (n : Nat) (H : List AObj) (h : H[3]? = some (.row 3 (g.es.map Ent.av))) (hn : n = g.es.length) : frz H (rawLg g n) = some g.av :=
 frz_agg (frzL_cons rfl (frzL_cons rfl (frzL_cons rfl (frzL_cons (frz_row (z := 3) h (by simp [hn]) (goodL_ents _)) rfl))))
theorem endB_app {v : AV} {H : List AObj} {A B : List Nat} : endB false false 0 v H (A ++ B) = endB false false 0 v H [] := by simp [endB, endA]
theorem rmerge_tail (g : Lg) (hg : LgOk g) (hge : g.es.length < 2^39) (hs : soundL g = true) (e : List Ent) (he : e.length < 2^39) (hd : lightP e) (p i : Nat) (hp : p + i ≤ g.es.length) (hi : i < e.length) (L : Nat) (hL : L = (joinL g p e i).es.length) (H27 : List AObj) (hH : H27 = [.row 4 [g.av], .row 4 [zlog], .row 4 [rawLg (joinL g p e i) L], .row 3 ((joinL g p e i).es.map Ent.av)]) :
   ((loadA true 4 (.ptr 2 1 0 0) H27).bind fun a28 =>
   callK (EV C) false n_ref18_Check [a28] H27 fun a29 H29 E29 =>
   (unA .not a29).bind fun a30 =>
   condK a30
    ((fillB (AV.cells (.agg [(.int .i64 0), (.int .i64 0), .nils, .nils])) []).bind fun c31 =>
    stoK 4 (.ptr 1 1 0 0) (.agg c31) H29 fun H32 E32 =>
    (loadA true 4 (.ptr 1 1 0 0) H32).bind fun a33 =>
    endB false false 0 (.tup [a33, (.int .i64 0), (.int .i64 3)]) H32 [])
    ((loadA true 4 (.ptr 2 1 0 0) H29).bind fun a34 =>
    (offA (.ptr 0 1 0 0) 0).bind fun a35 =>
    (offA a35 0).bind fun a36 =>
    (loadA false 1 a36 H29).bind fun a37 =>
    (binA .add (Go.TypeDesc.int Go.IntKind.i64) (cmpT Tryz.prog) false a37 (.int .i64 ((p + i : Nat) : Int))).bind fun a38 =>
    (binA .add (Go.TypeDesc.int Go.IntKind.i64) (cmpT Tryz.prog) true a38 (.int .i64 1)).bind fun a39 =>
    stoK 4 (.ptr 1 1 0 0) a34 H29 fun H40 E40 =>
    drawK (((loadA false 1 a36 H40).bind fun a41 =>
    some a41) = some a37)
    ((loadA true 4 (.ptr 1 1 0 0) H40).bind fun a42 =>
    endB false false 0 (.tup [a42, a39, (.int .i64 0)]) H40 []))) = some (mAV' (mergeK g p e i), [], []) := by
 subst hH
 have hsm := sound_small hs
 have h0 := hsm.i0; have h1 := hsm.i1; have hmo : most = 1152921504606846976 := rfl
 have hj := join_ok hg he hge hd p i
 have hl4 : ∀ (o1 o2 : AObj) (v : AV) (T : List AObj), loadA true 4 (.ptr 2 1 0 0) (o1 :: o2 :: .row 4 [rawLg (joinL g p e i) L] :: T) = some (rawLg (joinL g p e i) L) := fun _ _ _ _ => rfl
 have hl5 : ∀ (o1 : AObj) (T : List AObj), loadA true 4 (.ptr 1 1 0 0) (o1 :: .row 4 [rawLg (joinL g p e i) L] :: T) = some (rawLg (joinL g p e i) L) := fun _ _ => rfl
 have w1 : IntKind.i64.wrap (g.index + ((p + i : Nat) : Int)) = g.index + ((p + i : Nat) : Int) := by rw [wrap64] <;> omega
 have w2 : IntKind.i64.wrap (g.index + ((p + i : Nat) : Int) + 1) = g.index + ((p + i : Nat) : Int) + 1 := by rw [wrap64] <;> omega
 have hst1 : ∀ (o1 o3 o4 : AObj) (K : List AObj → List Nat → Option R3), stoK 4 (.ptr 1 1 0 0) (.agg [(.int .i64 0), (.int .i64 0), .nils, .nils]) [o1, .row 4 [zlog], o3, o4] K = K [o1, .row 4 [zlog], o3, o4] [] := fun o1 o3 o4 K => sto_zlog rfl
 have hst2 : ∀ (o1 o3 o4 : AObj) (K : List AObj → List Nat → Option R3), stoK 4 (.ptr 1 1 0 0) (rawLg (joinL g p e i) L) [o1, .row 4 [zlog], o3, o4] K = K [o1, .row 4 [rawLg (joinL g p e i) L], o3, o4] (escs 1 [.int .i64 (joinL g p e i).index, .int .i64 (joinL g p e i).term, ints (joinL g p e i).mems, .slc 3 0 L L]) := fun o1 o3 o4 K =>
   sto_agg' (ds := [.int .i64 (joinL g p e i).index, .int .i64 (joinL g p e i).term, ints (joinL g p e i).mems, .slc 3 0 L L]) rfl rfl rfl
 simp only [hl4 _ _ .bad, ZL, Nat.reduceAdd, ZM, new_zlog, extA_2, ld_lg1, ld_lg2]
 rw [callK_flat (bs := [(joinL g p e i).av]) (frzL_cons (frz_rawLg _ _ _ rfl hL) rfl) (by simp) (rCheck_ok _ hj.m (by have := hj.e; omega) hj.d) rfl]
 unfold mergeK
 have hne : ¬ i = e.length := by omega
 rw [if_neg hne]
 by_cases hsj : soundL (joinL g p e i) = true
 · simp only [hsj, hl4 _ _ .bad, ZL, Nat.reduceAdd, ZM, new_zlog, extA_2, ld_lg1, ld_lg2, w1, w2, hst2, drawK_t, hl5]
   refine (endB_frz (u := .tup [(joinL g p e i).av, .int .i64 (g.index + ((p + i : Nat) : Int) + 1), .int .i64 0]) (frz_tup (frzL_cons (frz_rawLg _ _ _ rfl hL) rfl)) (by simp)).trans ?_
   unfold mAV'
   simp only
   rw [show g.index + ((p + i : Nat) : Int) + 1 = g.index + p + i + 1 by omega]
 · simp only [Bool.not_eq_true] at hsj
   simp only [hsj, ZL, Nat.reduceAdd, ZM, new_zlog, extA_2, ld_lg1, ld_lg2, fill0, hst1, ld_z1]
   exact (endB_frz (u := .tup [noLog.av, .int .i64 0, .int .i64 3]) (frz_tup (frzL_cons (frz_zlog _) rfl)) (by simp)).trans rfl
theorem fill6 (g : Lg) : fillB (AV.cells (.agg [(.int .i64 0), (.int .i64 0), .nils, .nils])) [(0, 3, g.base)] = some [.int .i64 g.index, .int .i64 g.term, ints g.mems, .nils] := rfl
theorem rmerge_S9 (g : Lg) (hg : LgOk g) (hge : g.es.length < 2^39) (hs : soundL g = true) (e : List Ent) (he : e.length < 2^39) (hd : lightP e) (p i : Nat) (hp : p + i ≤ g.es.length) (hi : i ≤ e.length) (E : List Nat) :
   ref18_Merge_S9 0 (ents e) (.ptr 0 1 0 0) (.ptr 1 1 0 0) (.int .i64 ((p + i : Nat) : Int)) (.int .i64 (i : Int)) [.row 4 [g.av], .row 4 [zlog]] E = some (mAV' (mergeK g p e i), [], []) := by
 refine ref18_Merge_S9_of ?_
 have hsm := sound_small hs
 have h0 := hsm.i0; have h1 := hsm.i1; have hmo : most = 1152921504606846976 := rfl
 by_cases hie : i = e.length
 · have e1 : decide ((i : Int) = (e.length : Int)) = true := by simp [hie]
   have w1 : IntKind.i64.wrap (lastL g + 1) = lastL g + 1 := by unfold lastL; rw [wrap64] <;> omega
   simp only [show (i : Int) = (e.length : Int) from by omega, if_true, eq_self, ZL, Nat.reduceAdd, ZM, new_zlog, extA_2, ld_lg1, ld_lg2]
   rw [callD_ok (by simp) (rLast_ok g hsm)]
   simp only [ZL, Nat.reduceAdd, ZM, new_zlog, extA_2, ld_lg1, ld_lg2, w1]
   rw [sto_lg g rfl]
   simp only [List.set_cons_succ, List.set_cons_zero, ZL, Nat.reduceAdd, ZM, new_zlog, extA_2, ld_lg1, ld_lg2]
   unfold mergeK; rw [if_pos hie]
   exact endB_good (by simp)
 · have e1 : ¬ ((i : Int) = (e.length : Int)) := by omega
   simp only [ZL, Nat.reduceAdd, ZM, new_zlog, extA_2, ld_lg1, ld_lg2, e1, ld_base0, fill6]
   have hst : ∀ (o1 o2 : AObj) (K : List AObj → List Nat → Option R3), stoK 4 (.ptr 2 1 0 0) (.agg [.int .i64 g.index, .int .i64 g.term, ints g.mems, .nils]) [o1, o2, .row 4 [zlog]] K = K [o1, o2, .row 4 [.agg [.int .i64 g.index, .int .i64 g.term, ints g.mems, .nils]]] (escs 2 [.int .i64 g.index, .int .i64 g.term, ints g.mems, .nils]) := fun o1 o2 K => sto_agg' (ds := [.int .i64 g.index, .int .i64 g.term, ints g.mems, .nils]) rfl rfl rfl
   have hl3 : ∀ (o1 o2 : AObj) (a b c d : AV) (T : List AObj), loadA false 1 (.ptr 2 1 0 3) (o1 :: o2 :: .row 4 [.agg [a, b, c, d]] :: T) = some d := fun _ _ _ _ _ _ _ => rfl
   have c1 : ∀ H, cutA 3 (ents g.es) none (some (.int .i64 ((p + i : Nat) : Int))) none H = some (ents (g.es.take (p + i))) := fun H => by
     rw [cutA_ents (i := 0) (j := p + i) rfl rfl (by omega) hp, List.drop_zero]
   have c2 : ∀ H, cutA 3 (ents e) (some (.int .i64 (i : Int))) none none H = some (ents (e.drop i)) := fun H => by
     rw [cutA_ents (i := i) (j := e.length) rfl rfl (by omega) (Nat.le_refl _), List.take_length]
   have hne2 : (e.drop i).map Ent.av ≠ [] := by
     intro h
     have := congrArg List.length h
     simp at this
     omega
   simp only [hst, hl3, ZL, Nat.reduceAdd, ZM, new_zlog, extA_2, ld_lg1, ld_lg2, c1]
   by_cases ht : g.es.take (p + i) = []
   · rw [appK_nils0 (by rw [ht]; rfl)]
     rw [sto_f (off := 3) (cs := [.int .i64 g.index, .int .i64 g.term, ints g.mems, .nils]) rfl (by simp) rfl rfl]
     simp only [List.set_cons_succ, List.set_cons_zero, hl3, ZL, Nat.reduceAdd, ZM, new_zlog, extA_2, ld_lg1, ld_lg2, c2]
     rw [appK_nils (ys := (e.drop i).map Ent.av) rfl hne2 (lz_ents _) (by decide) (by decide) (by decide) (by simp; omega)]
     rw [sto_f (off := 3) (cs := [.int .i64 g.index, .int .i64 g.term, ints g.mems, .nils]) rfl (by simp) rfl rfl]
     simp only [List.set_cons_succ, List.set_cons_zero, List.length_cons, List.length_nil, Nat.reduceAdd, List.cons_append, List.nil_append]
     simp only [endB_app]
     refine rmerge_tail g hg hge hs e he hd p i hp (by omega) ((e.drop i).map Ent.av).length (by simp [joinL, ht]) _ ?_
     simp only [rawLg, joinL, ht, List.nil_append]
   · rw [appK_nils (ys := (g.es.take (p + i)).map Ent.av) rfl (by simpa using ht) (lz_ents _) (by decide) (by decide) (by decide) (by simp; omega)]
     rw [sto_f (off := 3) (cs := [.int .i64 g.index, .int .i64 g.term, ints g.mems, .nils]) rfl (by simp) rfl rfl]
     simp only [List.set_cons_succ, List.set_cons_zero, List.length_cons, List.length_nil, Nat.reduceAdd, List.cons_append, List.nil_append, hl3, ZL, Nat.reduceAdd, ZM, new_zlog, extA_2, ld_lg1, ld_lg2, c2]
     rw [appK_row (es := (g.es.take (p + i)).map Ent.av) (ys := (e.drop i).map Ent.av) rfl rfl rfl (lz_ents _) (by decide) (by decide) (by decide) (by simp; omega)]
     simp only [List.set_cons_succ, List.set_cons_zero]
     rw [sto_f (off := 3) (cs := [.int .i64 g.index, .int .i64 g.term, ints g.mems, .slc 3 0 ((g.es.take (p + i)).map Ent.av).length ((g.es.take (p + i)).map Ent.av).length]) rfl (by simp) rfl rfl]
     simp only [List.set_cons_succ, List.set_cons_zero]
     simp only [endB_app]
     refine rmerge_tail g hg hge hs e he hd p i hp (by omega) (((g.es.take (p + i)).map Ent.av).length + ((e.drop i).map Ent.av).length) (by simp [joinL]) _ ?_
     simp only [rawLg, joinL, List.map_append]
theorem rmerge_loop (g : Lg) (hg : LgOk g) (hge : g.es.length < 2^39) (hs : soundL g = true) (e : List Ent) (he : e.length < 2^39) (hd : lightP e) (p : Nat) (hp : p ≤ g.es.length) : ∀ (m i : Nat) (E : List Nat), i + m = e.length → p + i ≤ g.es.length → mch (g.es.drop p) e = i + mch (g.es.drop (p + i)) (e.drop i) →
  ref18_Merge_J6 0 (ents e) (.ptr 0 1 0 0) (.ptr 1 1 0 0) (.int .i64 ((p + i : Nat) : Int)) (.int .i64 i) [.row 4 [g.av], .row 4 [zlog]] E = some (mAV' (mergeK g p e (mch (g.es.drop p) e)), [], []) := by
 intro m
 induction m with
 | zero =>
  intro i E h hpi hm
  refine ref18_Merge_J6_of ?_
  have e1 : ¬ ((i : Int) < (e.length : Int)) := by omega
  have e2 : e.drop i = [] := List.drop_eq_nil_of_le (by omega)
  have e3 : mch (g.es.drop p) e = i := by rw [hm, e2]; have := (mch_le (g.es.drop (p + i)) []).2; simp at this; omega
  simp only [ZL, Nat.reduceAdd, ZM, new_zlog, extA_2, ld_lg1, ld_lg2, e1]
  rw [e3]
  exact rmerge_S9 g hg hge hs e he hd p i hpi (by omega) _
 | succ m ih =>
  intro i E h hpi hm
  refine ref18_Merge_J6_of ?_
  have hi : i < e.length := by omega
  have e1 : ((i : Int) < (e.length : Int)) := by omega
  have hget := List.getElem?_eq_getElem hi
  have hdr : e.drop i = e[i] :: e.drop (i + 1) := List.drop_eq_getElem_cons hi
  generalize e[i] = x at hget hdr
  have w3 : IntKind.i64.wrap ((i : Int) + 1) = ((i + 1 : Nat) : Int) := w64 (by omega) (by omega)
  have w4 : IntKind.i64.wrap (((p + i : Nat) : Int) + 1) = ((p + (i + 1) : Nat) : Int) := w64 (by omega) (by omega)
  simp only [ZL, Nat.reduceAdd, ZM, new_zlog, extA_2, ld_lg1, ld_lg2, e1, decide_true]
  split
  · rename_i hle
    have hlt : p + i < g.es.length := by omega
    have hy := List.getElem?_eq_getElem hlt
    have hyd : g.es.drop (p + i) = g.es[p + i] :: g.es.drop (p + i + 1) := List.drop_eq_getElem_cons hlt
    generalize g.es[p + i] = y at hy hyd
    rw [hdr, hyd] at hm
    simp only [mch] at hm
    simp only [ixA_ents hy, ixA_ents hget, ZL, Nat.reduceAdd, ZM, new_zlog, extA_2, ld_lg1, ld_lg2]
    split
    · rename_i ht
      rw [if_pos ht] at hm
      simp only [w3, w4]
      exact ih (i + 1) E (by omega) (by omega) (by rw [hm, Nat.add_assoc p i 1]; omega)
    · rename_i ht
      rw [if_neg ht] at hm
      rw [hm]
      exact rmerge_S9 g hg hge hs e he hd p i hpi (by omega) _
  · rename_i hle
    have : g.es.drop (p + i) = [] := List.drop_eq_nil_of_le (by omega)
    rw [this] at hm
    simp only [mch] at hm
    rw [hm]
    exact rmerge_S9 g hg hge hs e he hd p i hpi (by omega) _
theorem rMerge_ok (g : Lg) (hg : LgOk g) (hge : g.es.length < 2^39) (hs : soundL g = true) (prev : Int) (e : List Ent) (he : e.length < 2^39) (hd : lightP e) : EV C n_ref18_Merge [g.av, .int .i64 prev, ents e] [] = some (if hasL g prev = true then mAV' (mergeL g prev e) else mAV' (noLog, 0, 9), [], []) := by
 refine ref18_Merge_of ?_
 have hsm := sound_small hs
 have h0 := hsm.i0; have h1 := hsm.i1; have hmo : most = 1152921504606846976 := rfl
 simp only [ZL, Nat.reduceAdd, ZM, new_zlog, extA_2, ld_lg1, ld_lg2]
 rw [callK_ok (by simp) (rHas_ok g prev hsm)]
 have hst1 : ∀ (o1 : AObj) (K : List AObj → List Nat → Option R3), stoK 4 (.ptr 1 1 0 0) (.agg [(.int .i64 0), (.int .i64 0), .nils, .nils]) [o1, .row 4 [zlog]] K = K [o1, .row 4 [zlog]] [] := fun o1 K => sto_zlog rfl
 by_cases hh : hasL g prev = true
 · have hb := hasL_iff.1 hh
   have w1 : IntKind.i64.wrap (prev - g.index) = (((prev - g.index).toNat : Nat) : Int) := w64 (by omega) (by omega)
   simp only [hh, ZL, Nat.reduceAdd, ZM, new_zlog, extA_2, ld_lg1, ld_lg2, w1]
   exact rmerge_loop g hg hge hs e he hd (prev - g.index).toNat (by omega) e.length 0 [] (by omega) (by omega) (by simp)
 · simp only [Bool.not_eq_true] at hh
   simp only [hh, ZL, Nat.reduceAdd, ZM, new_zlog, extA_2, ld_lg1, ld_lg2, fill0, hst1, ld_z1]
   exact (endB_frz (u := .tup [noLog.av, .int .i64 0, .int .i64 9]) (frz_tup (frzL_cons (frz_zlog _) rfl)) (by simp)).trans rfl
end Go.Pm
namespace Go.Pm
open Go.Proofs
set_option linter.unusedVariables false
set_option linter.unusedSimpArgs false
theorem C_I : ∀ f F a H r, C.I f = some F → F a H = some r → SpecR C.P C.G f a H r := clone_ok (C0 := C0) (fun f => rfl)
theorem choose_map {α β : Type} {f : β → AV} {g : α → AV} : ∀ {l : List α}, (∀ a ∈ l, ∃ b, g a = f b) → ∃ l' : List β, l'.length = l.length ∧ l.map g = l'.map f
 | [], _ => ⟨[], rfl, rfl⟩
 | a :: l, h => by
  obtain ⟨b, hb⟩ := h a (by simp)
  obtain ⟨l', h1, h2⟩ := choose_map (l := l) fun x hx => h x (List.mem_cons_of_mem _ hx)
  exact ⟨b :: l', by simp [h1], by simp [hb, h2]⟩
theorem ty_int {B : Nat} {P : Program} {k : IntKind} {f : Nat} {cs : List AV} {t : TypeId} (ht : P.underlying t = some (.int k)) (h : tyC P B f t cs) : ∃ n, cs = [.int k n] ∧ k.min ≤ n ∧ n ≤ k.max := by
 cases f with
 | zero => simp [tyC] at h
 | succ f =>
  simp only [tyC, ht] at h
  obtain ⟨n, h1, h2, h3⟩ := h
  exact ⟨n, h1, h2, h3⟩
theorem ty_u8 {B : Nat} {P : Program} {f : Nat} {cs : List AV} {t : TypeId} (ht : P.underlying t = some (.int .u8)) (h : tyC P B f t cs) : ∃ b : UInt8, cs = [u8 b] := by
 obtain ⟨n, rfl, h1, h2⟩ := ty_int ht h
 refine ⟨UInt8.ofNat n.toNat, ?_⟩
 have a1 : IntKind.u8.min = 0 := rfl
 have a2 : IntKind.u8.max = 255 := rfl
 rw [a1] at h1; rw [a2] at h2
 rw [u8_nat]
 congr 2
 omega
theorem ty_slice {B : Nat} {P : Program} {α : Type} {g : α → AV} {f : Nat} {cs : List AV} {t e : TypeId} (ht : P.underlying t = some (.slice e)) (h : tyC P B f t cs) (hel : ∀ f cs, tyC P B f e cs → ∃ a, mkE (agT P e) cs = g a) :
  ∃ l : List α, cs = [.lst (l.map g)] ∧ l.length * P.bytesOf e ≤ B := by
 cases f with
 | zero => simp [tyC] at h
 | succ f =>
  simp only [tyC, ht] at h
  obtain ⟨ess, rfl, h1, h2⟩ := h
  obtain ⟨l, h3, h4⟩ := choose_map (f := g) (g := mkE (agT P e)) (l := ess) fun a ha => hel f a (h2 a ha).1
  exact ⟨l, by rw [h4], by rw [h3]; exact h1⟩
theorem ty_struct {B : Nat} {P : Program} {f : Nat} {cs : List AV} {t : TypeId} {fs : Array Field} (ht : P.underlying t = some (.struct fs)) (h : tyC P B f t cs) :
  ∃ (f' : Nat) (css : List (List AV)), cs = css.flatten ∧ forall2 (fun (g : Field) cs => tyC P B f' g.type cs ∧ cs.length = P.cellsOf g.type) fs.toList css := by
 cases f with
 | zero => simp [tyC] at h
 | succ f =>
  simp only [tyC, ht] at h
  obtain ⟨css, h1, h2⟩ := h
  exact ⟨f, css, h1, h2⟩
theorem agT_f {P : Program} {t : TypeId} {d : TypeDesc} (h : P.underlying t = some d) (hs : (match d with | .struct _ | .array _ _ => true | _ => false) = false) : agT P t = false := by
 unfold agT; rw [h]; cases d <;> simp_all
theorem forall2_1 {α β : Type} {p : α → β → Prop} {a : α} {xs : List α} {bs : List β} (h : forall2 p (a :: xs) bs) : ∃ b bs', bs = b :: bs' ∧ p a b ∧ forall2 p xs bs' := by
 cases bs with
 | nil => exact h.elim
 | cons b bs => exact ⟨b, bs, rfl, h.1, h.2⟩
theorem forall2_0 {α β : Type} {p : α → β → Prop} {bs : List β} (h : forall2 p [] bs) : bs = [] := by
 cases bs with
 | nil => rfl
 | cons b bs => exact h.elim
theorem f2_mem {α β : Type} {p : α → β → Prop} : ∀ {xs : List α} {bs : List β}, forall2 p xs bs → ∀ b ∈ bs, ∃ a, p a b
 | [], [], _, b, hb => by cases hb
 | a :: xs, c :: bs, h, b, hb => by
  rcases List.mem_cons.1 hb with rfl | hb
  · exact ⟨a, h.1⟩
  · exact f2_mem h.2 b hb
 | [], _ :: _, h, _, _ => h.elim
 | _ :: _, [], h, _, _ => h.elim
theorem goodL_flat {css : List (List AV)} (h : ∀ cs ∈ css, goodL cs = true) : goodL css.flatten = true := by
 induction css with
 | nil => rfl
 | cons c css ih =>
  simp only [List.flatten_cons, goodL_append, Bool.and_eq_true]
  exact ⟨h c (by simp), ih fun x hx => h x (List.mem_cons_of_mem _ hx)⟩
theorem oneC_flat {css : List (List AV)} (h : ∀ cs ∈ css, cs.all AV.one = true) : css.flatten.all AV.one = true := by
 induction css with
 | nil => rfl
 | cons c css ih =>
  simp only [List.flatten_cons, List.all_append, Bool.and_eq_true]
  exact ⟨h c (by simp), ih fun x hx => h x (List.mem_cons_of_mem _ hx)⟩
theorem goodL_map' {α : Type} {g : α → AV} {l : List α} (h : ∀ a ∈ l, (g a).good = true) : goodL (l.map g) = true := goodL_all.2 fun v hv => by
 obtain ⟨a, ha, rfl⟩ := List.mem_map.1 hv
 exact h a ha
theorem ty_good {B : Nat} {P : Program} : ∀ (f : Nat) (t : TypeId) (cs : List AV), tyC P B f t cs → goodL cs = true ∧ cs.all AV.one = true ∧ (agT P t = false → ∃ a, cs = [a])
 | 0, t, cs, h => by simp [tyC] at h
 | f + 1, t, cs, h => by
  unfold tyC at h
  split at h
  · obtain ⟨b, rfl⟩ := h; exact ⟨rfl, rfl, fun _ => ⟨_, rfl⟩⟩
  · obtain ⟨n, rfl, _⟩ := h; exact ⟨rfl, rfl, fun _ => ⟨_, rfl⟩⟩
  · obtain ⟨s, rfl, _⟩ := h; exact ⟨rfl, rfl, fun _ => ⟨_, rfl⟩⟩
  · rename_i e he
    obtain ⟨ess, rfl, h1, h2⟩ := h
    refine ⟨?_, rfl, fun _ => ⟨_, rfl⟩⟩
    simp only [goodL, AV.good, Bool.and_true]
    refine goodL_map' fun c hc => ?_
    have h3 := ty_good f e c (h2 c hc).1
    unfold mkE
    cases ha : agT P e with
    | true => simp only [if_true, AV.good]; exact h3.1
    | false =>
      obtain ⟨a, rfl⟩ := h3.2.2 ha
      have := h3.1
      simp only [goodL, Bool.and_true] at this
      simpa using this
  · rename_i fs he
    obtain ⟨css, rfl, h2⟩ := h
    refine ⟨goodL_flat fun c hc => ?_, oneC_flat fun c hc => ?_, fun ha => ?_⟩
    · obtain ⟨g, hg, _⟩ := f2_mem h2 c hc
      exact (ty_good f _ c hg).1
    · obtain ⟨g, hg, _⟩ := f2_mem h2 c hc
      exact (ty_good f _ c hg).2.1
    · unfold agT at ha; rw [he] at ha; cases ha
  · rename_i n e he
    obtain ⟨css, rfl, h2, h3⟩ := h
    refine ⟨goodL_flat fun c hc => (ty_good f _ c (h3 c hc).1).1, oneC_flat fun c hc => (ty_good f _ c (h3 c hc).1).2.1, fun ha => ?_⟩
    unfold agT at ha; rw [he] at ha; cases ha
  · exact h.elim
variable {B : Nat} {f : Nat} {cs : List AV}
theorem ty_bytes (h : tyC Tryz.prog B f 31 cs) : ∃ l : List UInt8, cs = [bys l] ∧ l.length ≤ B := by
 obtain ⟨l, h1, h2⟩ := ty_slice (g := u8) Tryz.underlying31 h fun f cs h => by
  obtain ⟨b, rfl⟩ := ty_u8 Tryz.underlying5 h
  exact ⟨b, by rw [agT_f Tryz.underlying5 rfl]; rfl⟩
 rw [show Tryz.prog.bytesOf 5 = 1 from by kernel_rfl] at h2
 exact ⟨l, h1, by omega⟩
theorem ty_i64 (h : tyC Tryz.prog B f 3 cs) : ∃ n, cs = [.int .i64 n] := by
 obtain ⟨n, h1, _⟩ := ty_int Tryz.underlying3 h
 exact ⟨n, h1⟩
theorem ty_bool (h : tyC Tryz.prog B f 4 cs) : ∃ b, cs = [.bool b] := by
 cases f with
 | zero => simp [tyC] at h
 | succ f =>
  simp only [tyC, Tryz.underlying4] at h
  exact h
theorem ty_ints (h : tyC Tryz.prog B f 22 cs) : ∃ l : List Int, cs = [ints l] ∧ l.length * 8 ≤ B := by
 obtain ⟨l, h1, h2⟩ := ty_slice (g := i64) Tryz.underlying22 h fun f cs h => by
  obtain ⟨n, rfl⟩ := ty_i64 h
  exact ⟨n, by rw [agT_f Tryz.underlying3 rfl]; rfl⟩
 rw [show Tryz.prog.bytesOf 3 = 8 from by kernel_rfl] at h2
 exact ⟨l, h1, h2⟩
theorem ty_ent (h : tyC Tryz.prog B f 86 cs) : ∃ e : Ent, cs = [.int .i64 e.term, .int .i64 e.kind, bys e.data] ∧ e.data.length ≤ B := by
 obtain ⟨f', css, rfl, h2⟩ := ty_struct Tryz.underlying86 h
 obtain ⟨c1, _, rfl, ⟨k1, _⟩, h2⟩ := forall2_1 h2
 obtain ⟨c2, _, rfl, ⟨k2, _⟩, h2⟩ := forall2_1 h2
 obtain ⟨c3, _, rfl, ⟨k3, _⟩, h2⟩ := forall2_1 h2
 obtain rfl := forall2_0 h2
 obtain ⟨t, rfl⟩ := ty_i64 k1
 obtain ⟨k, rfl⟩ := ty_i64 k2
 obtain ⟨d, rfl, hd⟩ := ty_bytes k3
 exact ⟨⟨t, k, d⟩, rfl, hd⟩
theorem ty_ents (h : tyC Tryz.prog B f 25 cs) : ∃ l : List Ent, cs = [ents l] ∧ l.length * 40 ≤ B ∧ ∀ e ∈ l, e.data.length ≤ B := by
 cases f with
 | zero => simp [tyC] at h
 | succ f =>
  simp only [tyC, Tryz.underlying25] at h
  obtain ⟨ess, rfl, h1, h2⟩ := h
  have : ∀ (ess : List (List AV)), (∀ c ∈ ess, tyC Tryz.prog B f 86 c) → ∃ l : List Ent, ess.map (mkE (agT Tryz.prog 86)) = l.map Ent.av ∧ l.length = ess.length ∧ ∀ e ∈ l, e.data.length ≤ B := by
   intro ess
   induction ess with
   | nil => intro _; exact ⟨[], rfl, rfl, fun e he => by cases he⟩
   | cons c ess ih =>
    intro h
    obtain ⟨e, rfl, he⟩ := ty_ent (h c (by simp))
    obtain ⟨l, h1, h2, h3⟩ := ih fun x hx => h x (List.mem_cons_of_mem _ hx)
    refine ⟨e :: l, ?_, by simp [h2], fun x hx => ?_⟩
    · have ha : agT Tryz.prog 86 = true := by kernel_rfl
      rw [ha] at h1
      simp only [List.map_cons, ha, h1]; rfl
    · rcases List.mem_cons.1 hx with rfl | hx
      · exact he
      · exact h3 x hx
  obtain ⟨l, h4, h5, h6⟩ := this ess fun c hc => (h2 c hc).1
  rw [show Tryz.prog.bytesOf 86 = 40 from by kernel_rfl] at h1
  exact ⟨l, by rw [h4]; rfl, by omega, h6⟩
structure LgB (B : Nat) (g : Lg) : Prop where
 m : g.mems.length * 8 ≤ B
 e : g.es.length * 40 ≤ B
 d : ∀ e ∈ g.es, e.data.length ≤ B
theorem ty_lgc (h : tyC Tryz.prog B f 27 cs) : ∃ g : Lg, cs = [.int .i64 g.index, .int .i64 g.term, ints g.mems, ents g.es] ∧ LgB B g := by
 obtain ⟨f', css, rfl, h2⟩ := ty_struct Tryz.underlying27 h
 obtain ⟨c1, _, rfl, ⟨k1, _⟩, h2⟩ := forall2_1 h2
 obtain ⟨c2, _, rfl, ⟨k2, _⟩, h2⟩ := forall2_1 h2
 obtain rfl := forall2_0 h2
 obtain ⟨f2, css, rfl, h3⟩ := ty_struct Tryz.underlying24 k1
 obtain ⟨d1, _, rfl, ⟨j1, _⟩, h3⟩ := forall2_1 h3
 obtain ⟨d2, _, rfl, ⟨j2, _⟩, h3⟩ := forall2_1 h3
 obtain ⟨d3, _, rfl, ⟨j3, _⟩, h3⟩ := forall2_1 h3
 obtain rfl := forall2_0 h3
 obtain ⟨i, rfl⟩ := ty_i64 j1
 obtain ⟨t, rfl⟩ := ty_i64 j2
 obtain ⟨m, rfl, hm⟩ := ty_ints j3
 obtain ⟨es, rfl, h5, h6⟩ := ty_ents k2
 exact ⟨⟨i, t, m, es⟩, rfl, ⟨hm, h5, h6⟩⟩
theorem ty_lg {a : AV} (e : a = mkE (agT Tryz.prog 27) cs) (h : tyC Tryz.prog B f 27 cs) : ∃ g : Lg, a = g.av ∧ LgB B g := by
 obtain ⟨g, rfl, hb⟩ := ty_lgc h
 have ha : agT Tryz.prog 27 = true := by kernel_rfl
 rw [ha] at e
 exact ⟨g, e, hb⟩
theorem ty_n {a : AV} (e : a = mkE (agT Tryz.prog 3) cs) (h : tyC Tryz.prog B f 3 cs) : ∃ n, a = .int .i64 n := by
 obtain ⟨n, rfl⟩ := ty_i64 h
 rw [agT_f Tryz.underlying3 rfl] at e
 exact ⟨n, e⟩
end Go.Pm
namespace Go.Pm
open Go.Proofs
set_option linter.unusedVariables false
set_option linter.unusedSimpArgs false
theorem termL_app {g : Lg} {e : List Ent} {i : Int} (hi : g.index ≤ i) (hl : i ≤ lastL g) : termL { g with es := g.es ++ e } i = termL g i := by
 unfold termL
 by_cases h : i = g.index
 · rw [if_pos h, if_pos h]
 · rw [if_neg h, if_neg h]
   have : (i - g.index - 1).toNat < g.es.length := by unfold lastL at hl; omega
   rw [List.getElem?_append_left this]
theorem sound_parts {g : Lg} (h : soundL g = true) : (0 ≤ g.index ∧ g.index ≤ most ∧ 0 ≤ g.term ∧ g.term ≤ most ∧ (g.es.length : Int) ≤ most - g.index) ∧ mayL g.mems = true ∧ chkEs g.term g.es = true := by
 simp only [soundL, Bool.and_eq_true, decide_eq_true_eq] at h
 exact ⟨h.1, h.2.1, h.2.2⟩
theorem chk_drop : ∀ (n : Nat) (l : List Ent) (t : Int), chkEs t l = true → n ≤ l.length → ∃ u, (n = 0 → u = t) ∧ (∀ e, 0 < n → l[n - 1]? = some e → u = e.term) ∧ chkEs u (l.drop n) = true
 | 0, l, t, h, hn => ⟨t, fun _ => rfl, fun e h0 => by omega, by simpa using h⟩
 | n + 1, [], t, h, hn => by simp at hn
 | n + 1, x :: l, t, h, hn => by
  simp only [chkEs, Bool.and_eq_true] at h
  obtain ⟨u, h1, h2, h3⟩ := chk_drop n l x.term h.2 (by simpa using hn)
  refine ⟨u, fun h0 => by omega, fun e _ he => ?_, by simpa using h3⟩
  cases n with
  | zero => simp at he; subst he; exact h1 rfl
  | succ n => simp at he; exact h2 e (by omega) (by simpa using he)
theorem chk_term : ∀ {l : List Ent} {t : Int}, chkEs t l = true → ∀ e ∈ l, 1 ≤ e.term ∧ e.term ≤ most
 | [], t, h, e, he => by simp at he
 | x :: l, t, h, e, he => by
  simp only [chkEs, Bool.and_eq_true] at h
  rcases List.mem_cons.1 he with rfl | he
  · have := h.1
    simp only [entOk, Bool.and_eq_true, decide_eq_true_eq] at this
    exact ⟨this.1.2.1, this.1.2.2.1⟩
  · exact chk_term h.2 e he
theorem term_get {g : Lg} {n : Nat} (hn : n ≤ g.es.length) : termL g (g.index + n) = if n = 0 then g.term else ((g.es[n - 1]?).map (·.term)).getD 0 := by
 unfold termL
 by_cases h0 : n = 0
 · rw [if_pos (by omega), if_pos h0]
 · rw [if_neg (by omega), if_neg h0, show (g.index + (n : Int) - g.index - 1).toNat = n - 1 by omega]
theorem compact_sound {g : Lg} (hs : soundL g = true) {i : Int} (hh : hasL g i = true) : soundL (compactL g i) = true := by
 obtain ⟨h1, h2, h3⟩ := sound_parts hs
 have hb := hasL_iff.1 hh
 have hmo : most = 1152921504606846976 := rfl
 obtain ⟨u, k1, k2, k3⟩ := chk_drop (i - g.index).toNat g.es g.term h3 (by omega)
 have ht : termL g i = u := by
   have := term_get (g := g) (n := (i - g.index).toNat) (by omega)
   rw [show g.index + (((i - g.index).toNat : Nat) : Int) = i by omega] at this
   rw [this]
   split
   · rename_i h0; exact (k1 h0).symm
   · rename_i h0
     have hlt : (i - g.index).toNat - 1 < g.es.length := by omega
     have hget := List.getElem?_eq_getElem hlt
     rw [hget]
     exact (k2 _ (by omega) hget).symm
 have hu : 0 ≤ u ∧ u ≤ most := by
   by_cases h0 : (i - g.index).toNat = 0
   · rw [k1 h0]; omega
   · have hlt : (i - g.index).toNat - 1 < g.es.length := by omega
     have hget := List.getElem?_eq_getElem hlt
     have := chk_term h3 _ (List.getElem_mem hlt)
     rw [k2 _ (by omega) hget]; omega
 simp only [soundL, Bool.and_eq_true, decide_eq_true_eq]
 refine ⟨⟨?_, ?_, ?_, ?_, ?_⟩, members_may hs i, ?_⟩
 · show 0 ≤ i; omega
 · show i ≤ most; omega
 · show 0 ≤ termL g i; rw [ht]; exact hu.1
 · show termL g i ≤ most; rw [ht]; exact hu.2
 · show ((g.es.drop (i - g.index).toNat).length : Int) ≤ most - i
   rw [List.length_drop]; omega
 · show chkEs (termL g i) (g.es.drop (i - g.index).toNat) = true
   rw [ht]; exact k3
theorem compact_last {g : Lg} {i : Int} (hh : hasL g i = true) : lastL (compactL g i) = lastL g := by
 have hb := hasL_iff.1 hh
 show i + ((g.es.drop (i - g.index).toNat).length : Int) = g.index + (g.es.length : Int)
 rw [List.length_drop]; omega
theorem compact_term {g : Lg} {i n : Int} (hh : hasL g i = true) (h1 : i ≤ n) (h2 : n ≤ lastL g) : termL (compactL g i) n = termL g n := by
 have hb := hasL_iff.1 hh
 unfold lastL at h2
 by_cases he : n = i
 · subst he
   show (if n = n then termL g n else _) = _
   rw [if_pos rfl]
 · show (if n = i then termL g i else (((g.es.drop (i - g.index).toNat)[(n - i - 1).toNat]?).map (·.term)).getD 0) = _
   rw [if_neg he, List.getElem?_drop]
   unfold termL
   rw [if_neg (by omega), show (i - g.index).toNat + (n - i - 1).toNat = (n - g.index - 1).toNat by omega]
theorem compact_lgok {g : Lg} (hg : LgOk g) {i : Int} (hs : soundL g = true) : LgOk (compactL g i) :=
 ⟨by have := may_len (members_may hs i); show (membersL g i).length < _; omega, by have := hg.e; show (g.es.drop _).length < _; rw [List.length_drop]; omega, fun e he => hg.d e (List.mem_of_mem_drop he)⟩
/-- what a merge with nothing amiss leaves -/
theorem merge_facts {g : Lg} (hs : soundL g = true) (hg : LgOk g) (hge : g.es.length < 2^39) {p : Int} (hh : hasL g p = true) {e : List Ent} (he : e.length < 2^39) (hd : lightP e) (h0 : (mergeL g p e).2.2 = 0) :
   (mergeL g p e).1.index = g.index ∧ soundL (mergeL g p e).1 = true ∧ LgOk (mergeL g p e).1 ∧ (∀ i, g.index ≤ i → i < (mergeL g p e).2.1 → i ≤ lastL g → termL (mergeL g p e).1 i = termL g i) ∧
    (mergeL g p e).2.1 ≤ lastL (mergeL g p e).1 + 1 ∧ p + e.length ≤ lastL (mergeL g p e).1 ∧ ((mergeL g p e).1 = g ∨ ∃ x ∈ e, termL (mergeL g p e).1 (lastL (mergeL g p e).1) = x.term) := by
 have hb := hasL_iff.1 hh
 have hm := mch_le (g.es.drop (p - g.index).toNat) e
 rw [List.length_drop] at hm
 unfold mergeL mergeK at h0 ⊢
 obtain ⟨P, hP⟩ : ∃ P, P = (p - g.index).toNat := ⟨_, rfl⟩
 rw [← hP] at hm h0 ⊢
 obtain ⟨k, hk⟩ : ∃ k, k = mch (g.es.drop P) e := ⟨_, rfl⟩
 rw [← hk] at hm h0 ⊢
 by_cases h1 : k = e.length
 · simp only [if_pos h1]
   refine ⟨trivial, hs, hg, fun i _ _ _ => trivial, by omega, ?_, .inl trivial⟩
   unfold lastL; omega
 · simp only [if_neg h1] at h0 ⊢
   cases hj : soundL (joinL g P e k) with
   | false => rw [hj] at h0; simp at h0
   | true =>
    simp only [if_true]
    have hjl : (joinL g P e k).es.length = P + e.length := by simp only [joinL, List.length_append, List.length_take, List.length_drop]; omega
    have hlast : lastL (joinL g P e k) = g.index + (P + e.length : Nat) := by unfold lastL; rw [hjl]; rfl
    refine ⟨rfl, hj, join_ok hg he hge hd P k, fun i i0 i1 i2 => ?_, ?_, ?_, .inr ?_⟩
    · unfold termL
      by_cases hi : i = g.index
      · rw [if_pos (show i = (joinL g P e k).index from hi), if_pos hi]; rfl
      · rw [if_neg (show ¬ i = (joinL g P e k).index from hi), if_neg hi]
        show (((g.es.take (P + k) ++ e.drop k)[(i - g.index - 1).toNat]?).map (·.term)).getD 0 = _
        have hlt : (i - g.index - 1).toNat < P + k := by omega
        rw [List.getElem?_append_left (by rw [List.length_take]; omega), List.getElem?_take_of_lt hlt]
    · rw [hlast]; omega
    · rw [hlast]; omega
    · have hne : e ≠ [] := by intro h; subst h; simp at hm h1; omega
      have hlt : e.length - 1 < e.length := by have := List.length_pos_iff.2 hne; omega
      refine ⟨e[e.length - 1], List.getElem_mem hlt, ?_⟩
      unfold termL
      have hpos : 0 < P + e.length := by have := List.length_pos_iff.2 hne; omega
      rw [hlast, if_neg (by show ¬ g.index + ((P + e.length : Nat) : Int) = g.index; omega)]
      show (((g.es.take (P + k) ++ e.drop k)[(g.index + ((P + e.length : Nat) : Int) - g.index - 1).toNat]?).map (·.term)).getD 0 = _
      rw [show (g.index + ((P + e.length : Nat) : Int) - g.index - 1).toNat = P + e.length - 1 by omega, List.getElem?_append_right (by rw [List.length_take]; omega), List.getElem?_drop, List.length_take, show k + (P + e.length - 1 - min (P + k) g.es.length) = e.length - 1 by omega, List.getElem?_eq_getElem hlt]
      rfl
theorem votesB_snoc : ∀ (l pre : List Int) (x : Int), votesB pre (l ++ [x]) = (votesB pre l && (inF x 1 7 && !hasF (pre ++ l) x))
 | [], pre, x => by simp [votesB]
 | v :: l, pre, x => by
  simp only [List.cons_append, votesB, votesB_snoc l (pre ++ [v]) x, List.append_assoc, List.cons_append, List.nil_append, Bool.and_assoc]
structure StI (n0 : Nde) (k : Nat) (s : Stp) : Prop where
 gd : SGd s
 t0 : termL s.n.log (lastL s.n.log) ≤ s.n.term
 t00 : 0 ≤ s.n.term
 t1 : s.n.term ≤ most
 k0 : 0 ≤ s.n.ticks
 k1 : s.n.ticks ≤ most
 o0 : 0 ≤ s.n.timeout
 o1 : s.n.timeout ≤ most
 v0 : 0 ≤ s.n.voted
 v1 : s.n.voted ≤ 7
 l0 : 0 ≤ s.n.leader
 l1 : s.n.leader ≤ 7
 r0 : 0 ≤ s.n.role
 r1 : s.n.role ≤ 2
 tr : 0 < s.n.term ∨ s.n.role = 0
 vt : votesB [] s.n.votes = true
 vl : s.n.votes.length < 2^40
 id : s.n.id = n0.id
 tm : n0.term ≤ s.n.term
 vd : s.n.term = n0.term → n0.voted ≠ 0 → s.n.voted = n0.voted
 cm : n0.commit ≤ s.n.commit
 lg : ∀ i, n0.log.index ≤ i → i ≤ n0.commit → s.n.log.index ≤ i → termL s.n.log i = termL n0.log i
 out : ∀ m ∈ s.out, m.frm = n0.id ∧ m.to ≠ n0.id ∧ m.term = s.n.term ∧ m.es.length < 2^40 ∧ m.mems.length < 2^40
 ol : s.out.length ≤ k
theorem StI.send {n0 : Nde} {k : Nat} {s : Stp} (h : StI n0 k s) {m : Msg} (wm : m.wf) {to : Int} (ht : to ≠ s.n.id) (h1 : m.es.length < 2^40) (h2 : m.mems.length < 2^40) : StI n0 (k + 1) (sendF s to m) :=
 { h with
   gd := h.gd.sendF wm to
   out := fun x hx => by
    simp only [sendF, List.mem_append, List.mem_singleton] at hx
    rcases hx with hx | rfl
    · exact h.out x hx
    · exact ⟨h.id, by rw [← h.id]; exact ht, rfl, h1, h2⟩
   ol := by have := h.ol; simp only [sendF, List.length_append, List.length_singleton]; omega }
theorem StI.others {n0 : Nde} {mk : Int → Msg} (hw : ∀ i, (mk i).wf) (h1 : ∀ i, (mk i).es.length < 2^40) (h2 : ∀ i, (mk i).mems.length < 2^40) : ∀ (l : List Int) {k : Nat} {s : Stp}, StI n0 k s → StI n0 (k + l.length) (othersF s l mk)
 | [], k, s, h => h
 | x :: l, k, s, h => by
  by_cases hx : x = s.n.id
  · rw [others_eq hx]
    have := StI.others hw h1 h2 l h
    exact { this with ol := by have := this.ol; simp only [List.length_cons]; omega }
  · rw [others_ne hx]
    have := StI.others hw h1 h2 l (h.send (hw x) hx (h1 x) (h2 x))
    exact { this with ol := by have := this.ol; simp only [List.length_cons]; omega }
theorem bringM_small {s : Stp} (h : SGd s) (i : Int) : (bringM s.n i).es.length < 2^40 ∧ (bringM s.n i).mems.length < 2^40 := by
 have h1 := slice_len s.n.log
 have h2 := h.es
 have h3 := may_len (sound_parts h.sl).2.1
 unfold bringM
 split
 · exact ⟨by show ([] : List Ent).length < _; simp, by show s.n.log.mems.length < _; omega⟩
 · exact ⟨by dsimp only; have := h1 ((if lastL s.n.log < s.n.next.getD i.toNat 0 - 1 then lastL s.n.log else s.n.next.getD i.toNat 0 - 1) + 1) 8; omega, by show ([] : List Int).length < _; simp⟩
theorem StI.all {n0 : Nde} {k : Nat} {s : Stp} (h : StI n0 k s) : StI n0 (k + 7) (allF s) := by
 have := StI.others (n0 := n0) (bringM_wf s.n) (fun i => (bringM_small h.gd i).1) (fun i => (bringM_small h.gd i).2) (memsS s) h
 have hl := may_len h.gd.mems
 exact { this with ol := by have := this.ol; unfold allF; omega }
theorem StI.mono {n0 : Nde} {k k' : Nat} {s : Stp} (h : StI n0 k s) (hk : k ≤ k') : StI n0 k' s := { h with ol := by have := h.ol; omega }
theorem addF_lastT {s : Stp} (h : SOk s) {kind : Int} {data : List UInt8} (ht : termL s.n.log (lastL s.n.log) ≤ s.n.term) : termL (addF s kind data).n.log (lastL (addF s kind data).n.log) ≤ s.n.term := by
 unfold addF
 split
 · exact ht
 · show termL { s.n.log with es := s.n.log.es ++ [⟨s.n.term, kind, data⟩] } (lastL { s.n.log with es := s.n.log.es ++ [⟨s.n.term, kind, data⟩] }) ≤ s.n.term
   rw [termL_last]
   show (((s.n.log.es ++ [(⟨s.n.term, kind, data⟩ : Ent)]).getLast?).map (·.term)).getD s.n.log.term ≤ s.n.term
   rw [List.getLast?_append]
   simp
theorem StI.add {n0 : Nde} {k : Nat} {s : Stp} (h : StI n0 k s) {kind : Int} {data : List UInt8} (he : EOk s.n kind data) : StI n0 k (addF s kind data) := by
 have hg := addF_gd h.gd he
 have ht := addF_lastT h.gd.toSOk (kind := kind) (data := data) h.t0
 have hcl : s.n.commit ≤ lastL s.n.log := h.gd.c1
 unfold addF at hg ht ⊢
 by_cases hm : most ≤ lastS s
 · rw [if_pos hm]; exact h
 · rw [if_neg hm] at hg ht ⊢
   exact { h with
    gd := hg
    t0 := ht
    lg := fun i i0 i1 i2 => by
     have hc := h.cm
     exact (termL_app (g := s.n.log) (e := [⟨s.n.term, kind, data⟩]) (i := i) i2 (by omega)).trans (h.lg i i0 i1 i2) }
theorem StI.outF {n0 : Nde} {k : Nat} {s : Stp} (h : StI n0 k s) : StI n0 k (outF s) := by
 have hg := outF_gd h.gd
 unfold Go.Pm.outF at hg ⊢
 split
 · rw [if_pos (by assumption)] at hg
   exact { h with gd := hg, l0 := Int.le_refl _, l1 := by show (0 : Int) ≤ 7; decide, r0 := Int.le_refl _, r1 := by show (0 : Int) ≤ 2; decide, tr := .inr rfl }
 · exact h
theorem StI.mark {n0 : Nde} {k : Nat} {s : Stp} (h : StI n0 k s) : StI n0 k (markF s) := { h with gd := markF_gd h.gd }
theorem StI.loop {n0 : Nde} {k : Nat} {s : Stp} (h : StI n0 k s) : ∀ j : Nat, s.n.commit + j ≤ lastL s.n.log → StI n0 k (cLoop s j)
 | 0, _ => h
 | j + 1, hj => by
  have hc := h.gd.c0
  have hcm := h.cm
  unfold cLoop; split
  · split
    · exact { h with gd := h.gd.commit (by omega) hj, cm := by show n0.commit ≤ s.n.commit + ((j + 1 : Nat) : Int); omega }
    · exact h.loop j (by omega)
  · exact h
theorem StI.counts {n0 : Nde} {k : Nat} {s : Stp} (h : StI n0 k s) : StI n0 k (countsF s) := by
 have c0 := h.gd.c0; have c1 := h.gd.c1
 exact (h.mark.loop _ (by show s.n.commit + ((lastS s - s.n.commit).toNat : Int) ≤ lastL s.n.log; unfold lastS; omega)).outF
theorem StI.reset {n0 : Nde} {k : Nat} {s : Stp} (h : StI n0 k s) (ht : 0 < s.n.term) : StI n0 k (resetF s) :=
 { h with gd := resetF_gd h.gd, k0 := Int.le_refl _, k1 := by show (0 : Int) ≤ most; decide, l0 := by have := h.gd.id0; show 0 ≤ s.n.id; omega, l1 := h.gd.id1, r0 := by show (0 : Int) ≤ 2; decide, r1 := Int.le_refl _, tr := .inl ht, vt := rfl, vl := by show ([] : List Int).length < _; simp }
theorem StI.eok {n0 : Nde} {k : Nat} {s : Stp} (h : StI n0 k s) (ht : 0 < s.n.term) (hl : s.n.log.es.length + 1 < 2^40) : EOk s.n 0 [] := ⟨h.t0, by omega, h.t1, by decide, by decide, fun h => absurd h (by decide), by decide, hl⟩
theorem StI.leads {n0 : Nde} {k : Nat} {s : Stp} (h : StI n0 k s) (ht : 0 < s.n.term) (hl : s.n.log.es.length + 1 < 2^40) : StI n0 (k + 7) (leadsF s) :=
 ((h.reset ht).add (he := h.eok ht hl)).counts.all
theorem toF_bounds (d : Int) : 10 ≤ toF d ∧ toF d ≤ 19 := by unfold toF; omega
theorem StI.cand {n0 : Nde} {k : Nat} {s : Stp} (h : StI n0 k s) (d : Int) (ht : s.n.term < most) (ho : s.out = []) : StI n0 k (candF s d) := by
 have hto := toF_bounds d
 have hmo : most = 1152921504606846976 := rfl
 have htm := h.tm; have ht00 := h.t00; have ht0 := h.t0; have hi := h.gd.id0; have hi1 := h.gd.id1
 exact { h with
  gd := candF_gd h.gd d
  t0 := by show termL s.n.log (lastL s.n.log) ≤ s.n.term + 1; omega
  t00 := by show 0 ≤ s.n.term + 1; omega
  t1 := by show s.n.term + 1 ≤ most; omega
  k0 := Int.le_refl _
  k1 := by show (0 : Int) ≤ most; decide
  o0 := by show 0 ≤ toF d; omega
  o1 := by show toF d ≤ most; omega
  v0 := by show 0 ≤ s.n.id; omega
  v1 := hi1
  l0 := Int.le_refl _
  l1 := by show (0 : Int) ≤ 7; decide
  r0 := by show (0 : Int) ≤ 1; decide
  r1 := by show (1 : Int) ≤ 2; decide
  tr := .inl (by show 0 < s.n.term + 1; omega)
  vt := by show votesB [] [s.n.id] = true; simp [votesB, inF, hasF]; omega
  vl := by show ([s.n.id] : List Int).length < _; simp
  tm := by show n0.term ≤ s.n.term + 1; omega
  vd := fun he => by have he' : s.n.term + 1 = n0.term := he; omega
  out := fun m hm => by
   have hm' : m ∈ s.out := hm
   rw [ho] at hm'; cases hm' }
theorem StI.stands {n0 : Nde} {k : Nat} {s : Stp} (h : StI n0 k s) (d : Int) (ht : s.n.term < most) (ho : s.out = []) (hl : s.n.log.es.length + 1 < 2^40) : StI n0 (k + 7) (standsF s d) := by
 have hc := h.cand d ht ho
 have h00 := h.t00
 unfold standsF
 dsimp only
 split
 · exact hc.leads (by show 0 < s.n.term + 1; omega) hl
 · have := StI.others (n0 := n0) (fun _ => askM_wf (candF s d).n) (fun _ => by show ([] : List Ent).length < _; simp) (fun _ => by show ([] : List Int).length < _; simp) (memsS (candF s d)) hc
   have hm := may_len hc.gd.mems
   exact this.mono (by omega)
theorem StI.ticks {n0 : Nde} {k : Nat} {s : Stp} (h : StI n0 k s) (x : Int) (h0 : 0 ≤ x) (h1 : x ≤ most) : StI n0 k { s with n := { s.n with ticks := x } } := { h with gd := h.gd.ticks x, k0 := h0, k1 := h1 }
theorem StI.tick {n0 : Nde} {k : Nat} {s : Stp} (h : StI n0 k s) (d : Int) (ho : s.out = []) (hl : s.n.log.es.length + 1 < 2^40) : StI n0 (k + 7) (tickF s d) := by
 have hmo : most = 1152921504606846976 := rfl
 have k0 := h.k0; have k1 := h.k1
 have ht : StI n0 k (ticksF s) := h.ticks _ (by split <;> omega) (by split <;> omega)
 unfold tickF
 dsimp only
 split
 · split
   · exact (ht.ticks 0 (Int.le_refl _) (by omega)).all
   · exact ht.mono (by omega)
 · split
   · split
     · split
       · exact ht.stands d (by assumption) ho hl
       · exact ht.mono (by omega)
     · exact ht.mono (by omega)
   · exact ht.mono (by omega)
end Go.Pm
namespace Go.Pm
open Go.Proofs
set_option linter.unusedVariables false
set_option linter.unusedSimpArgs false
theorem StI.newT {n0 : Nde} {k : Nat} {s : Stp} (h : StI n0 k s) {m : Msg} (ht : s.n.term < m.term) (h1 : m.term ≤ most) (ho : s.out = []) : StI n0 k (newT s m) := by
 have htm := h.tm; have ht00 := h.t00; have ht0 := h.t0
 exact { h with
  gd := ⟨⟨⟨⟨h.gd.w.n.ln, h.gd.w.n.lm⟩, (fun _ => rfl), h.gd.w.en, h.gd.w.out⟩, h.gd.lg, h.gd.sl⟩, h.gd.id0, h.gd.id1, h.gd.nx, h.gd.mt, h.gd.c0, h.gd.c1⟩
  t0 := by show termL s.n.log (lastL s.n.log) ≤ m.term; omega
  t00 := by show 0 ≤ m.term; omega
  t1 := h1
  v0 := Int.le_refl _
  v1 := by show (0 : Int) ≤ 7; decide
  l0 := Int.le_refl _
  l1 := by show (0 : Int) ≤ 7; decide
  r0 := Int.le_refl _
  r1 := by show (0 : Int) ≤ 2; decide
  tr := .inr rfl
  vt := rfl
  vl := by show ([] : List Int).length < _; simp
  tm := by show n0.term ≤ m.term; omega
  vd := fun he => by have he' : m.term = n0.term := he; omega
  out := fun x hx => by
   have hx' : x ∈ s.out := hx
   rw [ho] at hx'; cases hx' }
theorem StI.vote {n0 : Nde} {k : Nat} {s : Stp} (h : StI n0 k s) {m : Msg} (f0 : 1 ≤ m.frm) (f7 : m.frm ≤ 7) (hl : s.n.votes.length + 1 < 2^40) : StI n0 k (voteF s m) := by
 have hg := voteF_gd h.gd m
 unfold voteF at hg ⊢
 by_cases hx : hasF s.n.votes m.frm = true
 · rw [if_pos hx]; exact h
 · rw [if_neg hx] at hg ⊢
   exact { h with
    gd := hg
    vt := by
     show votesB [] (s.n.votes ++ [m.frm]) = true
     rw [votesB_snoc, h.vt]
     have : inF m.frm 1 7 = true := inF_iff.2 ⟨f0, f7⟩
     simp [this, hx]
    vl := by show (s.n.votes ++ [m.frm]).length < _; rw [List.length_append]; exact hl }
theorem StI.won {n0 : Nde} {k : Nat} {s : Stp} (h : StI n0 k s) (ht : 0 < s.n.term) (hl : s.n.log.es.length + 1 < 2^40) : StI n0 (k + 7) (wonF s) := by
 unfold wonF; split
 · exact h.leads ht hl
 · exact h.mono (by omega)
theorem StI.ask {n0 : Nde} {k : Nat} {s : Stp} (h : StI n0 k s) {m : Msg} (f0 : 1 ≤ m.frm) (f7 : m.frm ≤ 7) (hf : m.frm ≠ s.n.id) : StI n0 (k + 1) (askF s m) := by
 unfold askF
 dsimp only
 have hs : StI n0 k (if askedOk s.n m = true then { s with n := { s.n with voted := m.frm, ticks := 0 } } else s) := by
  split
  · rename_i hk
    simp only [askedOk, Bool.and_eq_true, Bool.or_eq_true, decide_eq_true_eq] at hk
    exact { h with
     gd := ⟨⟨⟨⟨h.gd.w.n.ln, h.gd.w.n.lm⟩, h.gd.w.vn, h.gd.w.en, h.gd.w.out⟩, h.gd.lg, h.gd.sl⟩, h.gd.id0, h.gd.id1, h.gd.nx, h.gd.mt, h.gd.c0, h.gd.c1⟩
     k0 := Int.le_refl _
     k1 := by show (0 : Int) ≤ most; decide
     v0 := by show 0 ≤ m.frm; omega
     v1 := f7
     vd := fun he hv => by
      have := h.vd he hv
      show m.frm = n0.voted
      rcases hk.2.1 with h1 | h1
      · omega
      · omega }
  · exact h
 refine hs.send (tail0_wf rfl) ?_ (by show ([] : List Ent).length < _; simp) (by show ([] : List Int).length < _; simp)
 split <;> exact hf
theorem StI.follow {n0 : Nde} {k : Nat} {s : Stp} (h : StI n0 k s) {f : Int} (f0 : 1 ≤ f) (f7 : f ≤ 7) : StI n0 k (followF s f) :=
 { h with
   gd := followF_gd h.gd f
   k0 := Int.le_refl _
   k1 := by show (0 : Int) ≤ most; decide
   l0 := by show 0 ≤ f; omega
   l1 := f7
   r0 := Int.le_refl _
   r1 := by show (0 : Int) ≤ 2; decide
   tr := .inr rfl
   vt := rfl
   vl := by show ([] : List Int).length < _; simp }
theorem StI.tail {n0 : Nde} {k : Nat} {s : Stp} (h : StI n0 k s) {m : Msg} (h0 : m.es = []) (h1 : m.mems = []) (w : m.wf) {to : Int} (ht : to ≠ s.n.id) : StI n0 (k + 1) (sendF s to m) :=
 h.send w ht (by rw [h0]; simp) (by rw [h1]; simp)
theorem StI.appB {n0 : Nde} {k : Nat} {f : Stp} (h : StI n0 k f) {m : Msg} {p : Int} {e : List Ent} (hf : m.frm ≠ f.n.id) (hh : hasL f.n.log p = true) (he : e.length < 2^39) (hge : f.n.log.es.length < 2^39) (hd : lightP e) (hm : m.term ≤ f.n.term) : StI n0 (k + 1) (appB f m p e) := by
 have hb := hasL_iff.1 hh
 have c0 := h.gd.c0; have c1 := h.gd.c1; have hcm := h.cm; have ht0 := h.t0
 unfold Go.Pm.appB
 dsimp only
 split
 · rename_i h0
   obtain ⟨mi, ms, ml, mt, m1, m2, m3⟩ := merge_facts h.gd.sl h.gd.lg hge hh he hd h0
   split
   · exact h.mono (by omega)
   · rename_i hc
     split
     · exact h.mono (by omega)
     · rename_i ha
       have hx : ∀ x ∈ e, x.term ≤ m.term := by
        intro x hx
        have : ¬ (m.term < x.term) := fun hlt => ha (List.any_eq_true.2 ⟨x, hx, decide_eq_true hlt⟩)
        omega
       obtain ⟨c, hcd⟩ : ∃ c, c = (if (if p + (e.length : Int) < m.commit then p + (e.length : Int) else m.commit) > f.n.commit then (if p + (e.length : Int) < m.commit then p + (e.length : Int) else m.commit) else f.n.commit) := ⟨_, rfl⟩
       rw [← hcd]
       have hc1 : f.n.commit ≤ c ∧ c ≤ lastL (mergeL f.n.log p e).1 := by rw [hcd]; split <;> split <;> omega
       have hs : StI n0 k ({ f with n := { f.n with log := (mergeL f.n.log p e).1, commit := c }, en := false } : Stp) := { h with
        gd := ⟨⟨⟨⟨h.gd.w.n.ln, h.gd.w.n.lm⟩, h.gd.w.vn, (fun h => by cases h), h.gd.w.out⟩, ml, ms⟩, h.gd.id0, h.gd.id1, h.gd.nx, h.gd.mt, by show (mergeL f.n.log p e).1.index ≤ c; omega, hc1.2⟩
        t0 := by
         show termL (mergeL f.n.log p e).1 (lastL (mergeL f.n.log p e).1) ≤ f.n.term
         rcases m3 with h3 | ⟨x, hxe, h3⟩
         · rw [h3]; exact ht0
         · have := hx x hxe; omega
        cm := by show n0.commit ≤ c; omega
        lg := fun i i0 i1 i2 => by
         have i2' : f.n.log.index ≤ i := by have : (mergeL f.n.log p e).1.index ≤ i := i2; omega
         exact (mt i i2' (by omega) (by omega)).trans (h.lg i i0 i1 i2') }
       exact hs.tail rfl rfl (tail0_wf rfl) hf
 · exact h.mono (by omega)
theorem has_self {g : Lg} : hasL g g.index = true := hasL_iff.2 ⟨Int.le_refl _, by omega⟩
theorem StI.app {n0 : Nde} {k : Nat} {s : Stp} (h : StI n0 k s) {m : Msg} (f0 : 1 ≤ m.frm) (f7 : m.frm ≤ 7) (hf : m.frm ≠ s.n.id) (he : m.es.length < 2^39) (hge : s.n.log.es.length < 2^39) (hd : lightP m.es) (hm : m.term ≤ s.n.term) : StI n0 (k + 1) (appF' s m) := by
 have h' := h.follow f0 f7
 unfold appF'
 dsimp only
 split
 · exact h.mono (by omega)
 · split
   · exact h'.appB hf has_self (by rw [List.length_drop]; omega) hge (fun x hx => hd x (List.mem_of_mem_drop hx)) hm
   · split
     · rename_i hh
       split
       · exact h'.appB hf hh he hge hd hm
       · exact h'.tail rfl rfl (tail0_wf rfl) hf
     · exact h'.tail rfl rfl (tail0_wf rfl) hf
theorem snapL_lgok {n : Nde} (hg : LgOk n.log) {m : Msg} (hm : m.mems.length < 2^62) : LgOk (snapL n m) := by
 refine ⟨hm, ?_, ?_⟩
 · show (if snapKeep n m = true then (compactL n.log m.index).es else []).length < _
   split
   · show (n.log.es.drop _).length < _; have := hg.e; rw [List.length_drop]; omega
   · simp
 · intro e he
   have he' : e ∈ (if snapKeep n m = true then (compactL n.log m.index).es else []) := he
   split at he'
   · exact hg.d e (List.mem_of_mem_drop he')
   · cases he'
theorem snapL_term {n : Nde} {m : Msg} (ht : termL n.log (lastL n.log) ≤ n.term) (hl : m.lterm ≤ n.term) : termL (snapL n m) (lastL (snapL n m)) ≤ n.term := by
 rw [termL_last] at ht ⊢
 show (((if snapKeep n m = true then (compactL n.log m.index).es else []).getLast?).map (·.term)).getD m.lterm ≤ n.term
 split
 · show (((n.log.es.drop (m.index - n.log.index).toNat).getLast?).map (·.term)).getD m.lterm ≤ n.term
   rw [List.getLast?_drop]
   split
   · exact hl
   · rename_i hlt
     cases hg : n.log.es.getLast? with
     | none => rw [List.getLast?_eq_none_iff] at hg; rw [hg] at hlt; simp at hlt
     | some e => rw [hg] at ht; exact ht
 · exact hl
theorem StI.snap {n0 : Nde} {k : Nat} {s : Stp} (h : StI n0 k s) {m : Msg} (f0 : 1 ≤ m.frm) (f7 : m.frm ≤ 7) (hf : m.frm ≠ s.n.id) (hm : m.mems.length < 2^62) : StI n0 (k + 1) (snapF s m) := by
 have h' := h.follow f0 f7
 have hcm := h.cm
 unfold snapF
 dsimp only
 split
 · exact h.mono (by omega)
 · split
   · split
     · exact h.mono (by omega)
     · rename_i hlt
       split
       · exact h'.tail rfl rfl (tail0_wf rfl) hf
       · rename_i hci
         have hci' : ¬ m.index ≤ s.n.commit := hci
         unfold snapE
         split
         · rename_i hsl
           have hs : StI n0 k ({ followF s m.frm with n := { (followF s m.frm).n with log := snapL s.n m, commit := m.index }, en := !snapKeep s.n m } : Stp) := { h' with
            gd := ⟨⟨⟨⟨h.gd.w.n.ln, h.gd.w.n.lm⟩, (fun _ => rfl), (fun hk => by
              show (snapL s.n m).es = []
              unfold snapL
              rw [if_neg (by simpa using hk)]), h.gd.w.out⟩, snapL_lgok h.gd.lg hm, hsl⟩, h.gd.id0, h.gd.id1, h.gd.nx, h.gd.mt, Int.le_refl _, by show m.index ≤ lastL (snapL s.n m); unfold lastL; show m.index ≤ m.index + _; omega⟩
            t0 := snapL_term h.t0 (by omega)
            cm := by show n0.commit ≤ m.index; omega
            lg := fun i i0 i1 i2 => by
             have : m.index ≤ i := i2
             omega }
           have hq := hs.tail (m := { msg0 4 with ok := true, index := m.index }) rfl rfl (tail0_wf rfl) hf
           exact { hq with gd := ⟨⟨⟨hq.gd.w.n, hq.gd.w.vn, hq.gd.w.en, hq.gd.w.out⟩, hq.gd.lg, hq.gd.sl⟩, hq.gd.id0, hq.gd.id1, hq.gd.nx, hq.gd.mt, hq.gd.c0, hq.gd.c1⟩ }
         · exact h'.mono (by omega)
   · exact h.mono (by omega)
theorem StI.ack {n0 : Nde} {k : Nat} {s : Stp} (h : StI n0 k s) {m : Msg} (f0 : 1 ≤ m.frm) (f7 : m.frm ≤ 7) (hf : m.frm ≠ s.n.id) (hi0 : 0 ≤ m.index) (hi1 : m.index ≤ most) : StI n0 (k + 1) (ackF s m) := by
 have h8 : m.frm.toNat < 8 := by omega
 unfold ackF
 dsimp only
 split
 · split
   · exact h.mono (by omega)
   · have h1 : StI n0 k (fwdF (gotF s m) m) := { h with gd := fwdF_gd (gotF_gd h.gd m h8 hi0 hi1) m h8 }
     have hc := h1.counts
     have hid : (countsF (fwdF (gotF s m) m)).n.id = s.n.id := by rw [hc.id, h.id]
     split
     · split
       · exact hc.send (bringM_wf _ _) (by rw [hid]; exact hf) (bringM_small hc.gd _).1 (bringM_small hc.gd _).2
       · exact hc.mono (by omega)
     · exact hc.mono (by omega)
 · have h1 : StI n0 k (backF s m) := { h with gd := backF_gd h.gd m (by omega) (by omega) }
   exact h1.send (bringM_wf _ _) hf (bringM_small h1.gd _).1 (bringM_small h1.gd _).2
theorem StI.propose {n0 : Nde} {k : Nat} {s : Stp} (h : StI n0 k s) {kind : Int} {data : List UInt8} (he : EOk s.n kind data) : StI n0 (k + 7) (proposeF s kind data) := by
 have h1 := h.add he
 have h2 : StI n0 k (numF (addF s kind data)) := { h1 with gd := numF_gd h1.gd }
 exact h2.counts.all
theorem StI.new {n0 : Nde} {k : Nat} (m : List Int) : ∀ (l : List Int) (s : Stp), StI n0 k s → lastS s < most → StI n0 k (newF m s l)
 | [], s, h, _ => h
 | x :: l, s, h, hl => by
  have hla := h.gd.last
  by_cases hx : hasF m x = true
  · rw [newF_has hx]; exact StI.new m l s h hl
  · rw [newF_not hx]
    exact StI.new m l _ { h with gd := (h.gd.setMtch x.toNat 0 (Int.le_refl _) (by omega)).setNext x.toNat (lastS s + 1) (by omega) (by omega) } hl
theorem StI.change {n0 : Nde} {k : Nat} {s : Stp} (h : StI n0 k s) (hu : SFu s) (l : List Int) : StI n0 (k + 7) (changeF s l) := by
 unfold changeF
 split
 · rename_i hr
   split
   · split
     · split
       · exact h.mono (by omega)
       · rename_i hls
         split
         · split
           · exact h.mono (by omega)
           · split
             · rename_i hml
               have hn := newF_gd (memsS s) l s h.gd (by omega)
               refine (StI.new (memsS s) l s h (by omega)).propose ?_
               have he := eok_change hu hr hml
               unfold EOk at he ⊢
               rw [hn.2.1, hn.2.2.1]
               exact he
             · exact h.mono (by omega)
         · exact h.mono (by omega)
     · exact h.mono (by omega)
   · exact h.mono (by omega)
 · exact h.mono (by omega)
theorem StI.comp {n0 : Nde} {k : Nat} {s : Stp} (h : StI n0 k s) {i : Int} (i0 : s.n.log.index < i) (i1 : i ≤ s.n.commit) : StI n0 k (compF s i) := by
 have c1 := h.gd.c1; have hcm := h.cm
 have hh : hasL s.n.log i = true := hasL_iff.2 ⟨by omega, by unfold lastL at c1; omega⟩
 have hl := compact_last hh
 exact { h with
  gd := ⟨⟨⟨⟨h.gd.w.n.ln, h.gd.w.n.lm⟩, h.gd.w.vn, (fun h => by cases h), h.gd.w.out⟩, compact_lgok h.gd.lg h.gd.sl, compact_sound h.gd.sl hh⟩, h.gd.id0, h.gd.id1, h.gd.nx, h.gd.mt, by show i ≤ s.n.commit; exact i1, by show s.n.commit ≤ lastL (compactL s.n.log i); rw [hl]; exact c1⟩
  t0 := by
   show termL (compactL s.n.log i) (lastL (compactL s.n.log i)) ≤ s.n.term
   rw [hl, compact_term hh (by omega) (Int.le_refl _)]; exact h.t0
  lg := fun j j0 j1 j2 => by
   have j2' : i ≤ j := j2
   exact (compact_term hh j2' (by omega)).trans (h.lg j j0 j1 (by omega)) }
theorem StI.hear {n0 : Nde} {k : Nat} {s : Stp} (h : StI n0 k s) {m : Msg} (f0 : 1 ≤ m.frm) (f7 : m.frm ≤ 7) (hf : m.frm ≠ s.n.id) (mt : 1 ≤ m.term) (hmt : m.term ≤ s.n.term) (hi0 : 0 ≤ m.index) (hi1 : m.index ≤ most) (he : m.es.length < 2^39) (hge : s.n.log.es.length + 1 < 2^39) (hd : lightP m.es) (hml : m.mems.length < 2^40) (hv : s.n.votes.length + 1 < 2^40) : StI n0 (k + 7) (hearF s m) := by
 unfold hearF
 split
 · split
   · exact (h.tail (m := msg0 2) rfl rfl (tail0_wf rfl) hf).mono (by omega)
   · split
     · exact (h.tail (m := { msg0 4 with index := lastS s }) rfl rfl (tail0_wf rfl) hf).mono (by omega)
     · split
       · exact (h.tail (m := { msg0 4 with index := lastS s }) rfl rfl (tail0_wf rfl) hf).mono (by omega)
       · exact h.mono (by omega)
 · split
   · exact (h.ask f0 f7 hf).mono (by omega)
   · split
     · split
       · split
         · have hvn := voteF_n s m
           exact (h.vote f0 f7 hv).won (by rw [hvn.2]; omega) (by rw [hvn.1]; omega)
         · exact h.mono (by omega)
       · exact h.mono (by omega)
     · split
       · exact (h.app f0 f7 hf he (by omega) hd hmt).mono (by omega)
       · split
         · exact (h.snap f0 f7 hf (by omega)).mono (by omega)
         · split
           · split
             · split
               · exact (h.ack f0 f7 hf hi0 hi1).mono (by omega)
               · exact h.mono (by omega)
             · exact h.mono (by omega)
           · exact h.mono (by omega)
theorem StI.msg {n0 : Nde} {k : Nat} {s : Stp} (h : StI n0 k s) (ho : s.out = []) {m : Msg} (he : m.es.length < 2^39) (hge : s.n.log.es.length + 1 < 2^39) (hd : lightP m.es) (hml : m.mems.length < 2^40) (hv : s.n.votes.length + 1 < 2^40) : StI n0 (k + 7) (msgF s m) := by
 have hmo : most = 1152921504606846976 := rfl
 unfold msgF
 split
 · rename_i hva
   simp only [validM, Bool.and_eq_true, inF_iff, Bool.not_eq_true', decide_eq_false_iff_not] at hva
   split
   · exact (h.newT (by assumption) (by omega) ho).hear hva.2.2.1.1 hva.2.2.1.2 hva.2.1 hva.2.2.2.1.1 (Int.le_refl _) hva.2.2.2.2.1.1 (by omega) he hge hd hml (by show ([] : List Int).length + 1 < _; simp)
   · exact h.hear hva.2.2.1.1 hva.2.2.1.2 hva.2.1 hva.2.2.2.1.1 (by omega) hva.2.2.2.2.1.1 (by omega) he hge hd hml hv
 · exact h.mono (by omega)
/-- it begins so -/
theorem StI.start {n : Nde} {x : Inp} (hx : StepIn n x) (hs : soundN n = true) : StI n 0 (Stp.new n) := by
 have hu := sound_fu hx hs
 simp only [soundN, Bool.and_eq_true, Bool.or_eq_true, decide_eq_true_eq, inF_iff, cntF_iff] at hs
 obtain ⟨sl, id, tm, vo, le, ro, tr, co, ti, to_, tb, vt⟩ := hs
 have hv := hx.hv
 exact ⟨hu.toSGd, tm.1, hu.t00, tm.2, ti.1, ti.2, to_.1, to_.2, vo.1, vo.2, le.1, le.2, ro.1, ro.2, tr, vt, by show n.votes.length < _; omega, rfl, Int.le_refl _, fun _ _ => rfl, Int.le_refl _, fun _ _ _ _ => rfl, (fun m hm => by cases hm), Nat.le_refl _⟩
theorem step_I {n : Nde} {x : Inp} (hx : StepIn n x) (hs : soundN n = true) : StI n 7 (stepF n x) := by
 have h := StI.start hx hs
 have hu := sound_fu hx hs
 have hel := hx.hes; have hvl := hx.hv; have hml := hx.hml
 have e1 : (Stp.new n).n.log.es.length + 1 < 2^39 := hel
 have e2 : (Stp.new n).n.votes.length + 1 < 2^40 := by show n.votes.length + 1 < _; omega
 unfold stepF
 dsimp only
 split
 · exact h.tick _ rfl (by omega)
 · split
   · exact h.msg rfl hx.he e1 hx.hd hml e2
   · split
     · split
       · rename_i hr
         split
         · split
           · refine h.propose ⟨hu.t0, ?_, hu.t1, by decide, by decide, fun h => absurd h (by decide), hx.hdata, by omega⟩
             have htr : 0 < n.term ∨ n.role = 0 := hu.tr
             show 1 ≤ n.term
             rcases htr with h | h <;> omega
           · exact h.mono (by omega)
         · exact h.mono (by omega)
       · exact h.mono (by omega)
     · split
       · exact h.change hu _
       · split
         · split
           · split
             · exact (h.comp (by assumption) (by assumption)).mono (by omega)
             · exact h.mono (by omega)
           · exact h.mono (by omega)
         · exact h.mono (by omega)
/-- so a node that came of a sound one is sound -/
theorem StI.sound {n0 : Nde} {k : Nat} {s : Stp} (h : StI n0 k s) : soundN s.n = true := by
 have hmo : most = 1152921504606846976 := rfl
 simp only [soundN, Bool.and_eq_true, Bool.or_eq_true, decide_eq_true_eq, inF_iff, cntF_iff]
 refine ⟨h.gd.sl, ⟨h.gd.id0, h.gd.id1⟩, ⟨h.t0, h.t1⟩, ⟨h.v0, h.v1⟩, ⟨h.l0, h.l1⟩, ⟨h.r0, h.r1⟩, h.tr, ⟨h.gd.c0, h.gd.c1⟩, ⟨h.k0, h.k1⟩, ⟨h.o0, h.o1⟩, ?_, h.vt⟩
 refine (tabB_iff s.n 8 0).2 fun j _ hj => ?_
 simp only [cntF_iff]
 exact ⟨h.gd.nx j (by omega), h.gd.mt j (by omega)⟩
end Go.Pm
namespace Go.Pm
open Go.Proofs
set_option linter.unusedVariables false
set_option linter.unusedSimpArgs false
section
variable {β : Type} {H : List AObj} {s : Stp} {K : Kt β}
theorem rLastK (h : SOk s) : callK (EV C) false n_ref18_Last [s.lav] H K = K (.int .i64 (lastS s)) H [] := log_callK h.w rfl (rLast_ok _ h.sm)
theorem rTermD (h : SOk s) (i : Int) (hi : hasL s.n.log i = true) : callD (EV C) n_ref18_Term [s.lav, .int .i64 i] H = some (.int .i64 (termL s.n.log i)) := log_callD h.w rfl (rTerm_ok _ i h.sm hi)
theorem rMembersD (h : SOk s) (i : Int) : callD (EV C) n_ref18_Members [s.lav, .int .i64 i] H = some (ints (membersL s.n.log i)) := log_callD h.w rfl (rMembers_ok _ i h.lg h.sl)
theorem rSliceD (h : SOk s) (i n : Int) : callD (EV C) n_ref18_Slice [s.lav, .int .i64 i, .int .i64 n] H = some (ents (sliceL s.n.log i n)) := log_callD h.w rfl (rSlice_ok _ i n h.lg h.sm)
end
theorem rlast_m {s : Stp} (h : SOk s) : Meth n_ref19_Run_last [] s (.int .i64 (lastS s)) s := fun P R => by
 refine ref19_Run_last_of ?_
 dsimp only
 simp -implicitDefEqProofs only [ZS, Nat.reduceAdd, rLastK h]
 exact endB_n0 rfl
theorem rlastK {s : Stp} (h : SOk s) {β : Type} {P R : List AObj} {K : Kt β} : callK (EV C) false n_ref19_Run_last [.ptr (P.length + 1) 1 0 0] (hp P s R) K = K (.int .i64 (lastS s)) (hp P s R) [] := (rlast_m h).call0 rfl
theorem has_last {s : Stp} (h : SOk s) : hasL s.n.log (lastS s) = true := hasL_iff.2 ⟨h.last.2.1, Int.le_refl _⟩
theorem rtop_m {s : Stp} (h : SOk s) : Meth n_ref19_Run_top [] s (.int .i64 (termL s.n.log (lastS s))) s := fun P R => by
 refine ref19_Run_top_of ?_
 dsimp only
 simp -implicitDefEqProofs only [ZS, Nat.reduceAdd, rlastK h, drawK_True, rTermD h _ (has_last h)]
 exact endB_n0 rfl
theorem rtopK {s : Stp} (h : SOk s) {β : Type} {P R : List AObj} {K : Kt β} : callK (EV C) false n_ref19_Run_top [.ptr (P.length + 1) 1 0 0] (hp P s R) K = K (.int .i64 (termL s.n.log (lastS s))) (hp P s R) [] := (rtop_m h).call0 rfl
theorem rmembers_m {s : Stp} (h : SOk s) : Meth n_ref19_Run_members [] s (ints (memsS s)) s := fun P R => by
 refine ref19_Run_members_of ?_
 dsimp only
 simp -implicitDefEqProofs only [ZS, Nat.reduceAdd, rlastK h, drawK_True, rMembersD h]
 exact endB_n0 (good_ints _)
theorem rmembersK {s : Stp} (h : SOk s) {β : Type} {P R : List AObj} {K : Kt β} : callK (EV C) false n_ref19_Run_members [.ptr (P.length + 1) 1 0 0] (hp P s R) K = K (ints (memsS s)) (hp P s R) [] := (rmembers_m h).call0 rfl
theorem say_m {s : Stp} (ws : s.wf) {m : Msg} (wm : m.wf) (to : Int) (ho : s.out.length < 1000000) : Meth n_ref19_Run_say [.int .i64 to, m.av] s (.tup []) (sendF s to m) := fun P R => by
 refine ref19_Run_say_of ?_
 dsimp only
 have w1 : ({ m with frm := s.n.id } : Msg).wf := ⟨wm.len, wm.good, wm.one, wm.shp⟩
 have w2 : ({ m with frm := s.n.id, to := to } : Msg).wf := ⟨wm.len, wm.good, wm.one, wm.shp⟩
 have w3 : ({ m with frm := s.n.id, to := to, term := s.n.term } : Msg).wf := ⟨wm.len, wm.good, wm.one, wm.shp⟩
 simp -implicitDefEqProofs only [ZS, Nat.reduceAdd, new_m wm, sm_frm wm, drawK_t, sm_to w1, sm_term w2, ls_out ws.n, lm_all w3]
 rw [litM w3 _ (.agg _) _ rfl, Option.bind_some, app_out w3 ho]
 simp -implicitDefEqProofs only [ZS, Nat.reduceAdd]
 rw [ss_out ws.n]
 exact endB_n1 [_] rfl
theorem sayK {s : Stp} (ws : s.wf) {m : Msg} (wm : m.wf) (to : Int) (ho : s.out.length < 1000000) {β : Type} {P R : List AObj} {v : AV} {K : Kt β} (hv : ∀ H, frz H v = some m.av) (hk : kills v = []) :
  callK (EV C) false n_ref19_Run_say [.ptr (P.length + 1) 1 0 0, .int .i64 to, v] (hp P s R) K = K (.tup []) (hp P (sendF s to m) R) [] :=
 (say_m ws wm to ho).call (by simp only [frzL, frz, hv, Option.bind_some, Option.map_some]) (by simp only [killsL, kills, hk, List.append_nil])
theorem fsay {s : Stp} (ws : s.wf) {m : Msg} (wm : m.wf) {to : Int} (ho : s.out.length < 1000000) {cells c : List AV} {ps : List (Nat × Nat × AV)} (hf : fillB cells ps = some c) (hz : ∀ H, frz H (.agg c) = some m.av) (hk : kills (.agg c) = []) {β : Type} {P R : List AObj} {K : Kt β} :
  ((fillB cells ps).bind fun c => callK (EV C) false n_ref19_Run_say [.ptr (P.length + 1) 1 0 0, .int .i64 to, .agg c] (hp P s R) K) = K (.tup []) (hp P (sendF s to m) R) [] := by
 rw [hf, Option.bind_some, sayK ws wm to ho hz hk]
theorem sendTo_m {s : Stp} (h : SGd s) (to : Int) (h0 : 0 ≤ to) (h8 : to < 8) (ho : s.out.length < 1000000) : Meth n_ref19_Run_sendTo [.int .i64 to] s (.tup []) (sendF s to (bringM s.n to)) := fun P R => by
 refine ref19_Run_sendTo_of ?_
 have hi : to.toNat < 8 := by omega
 have hl := h.last
 have hnx := h.nx _ hi
 have hmo : most = 1152921504606846976 := rfl
 have wf := bringM_wf s.n to
 unfold bringM at wf
 dsimp only
 simp -implicitDefEqProofs only [ZS, Nat.reduceAdd]
 rw [new_R (by simp) rfl]
 have e1 : ∀ (K : List AObj → List Nat → Option R3), stoK 3 (.ptr (P.length + 2 + R.length) 1 0 0) s.n.log.base (hp P s (R ++ [.row ([(.int .i64 0), (.int .i64 0), .nils] : List AV).length [.agg [(.int .i64 0), (.int .i64 0), .nils]]])) K = K (hp P s (R ++ .row 3 [.agg [.int .i64 s.n.log.index, .int .i64 s.n.log.term, ints s.n.log.mems]] :: [])) [] := fun K => sto_R rfl rfl (fun m => by simp [Lg.base, AV.cells, belL, AV.bel, ints, belL_good _ _ (goodL_i64 _)]) (Nat.le_refl _) rfl
 simp -implicitDefEqProofs only [ZS, Nat.reduceAdd, arA_int h0 h8, ls_next h.w.n hi, e1, lb_0, lb_1, lb_2]
 by_cases hc : s.n.next.getD to.toNat 0 ≤ s.n.log.index
 · rw [if_pos hc] at wf
   rw [if_pos hc]
   rw [show bringM s.n to = { msg0 5 with index := s.n.log.index, lterm := s.n.log.term, mems := s.n.log.mems } from if_pos hc]
   refine Eq.trans (b := _) (congrArg (fun x => Option.bind x _) (show fillB _ _ = some [.int .i64 5, .int .i64 0, .int .i64 0, .int .i64 0, .int .i64 s.n.log.index, .int .i64 s.n.log.term, .int .i64 0, .bool false, .nils, ints s.n.log.mems, .int .i64 0, .nils, .int .i64 0, .nils, .nils, .nils, .nils] from rfl)) ?_
   rw [Option.bind_some, sayK h.w wf to ho (fun H => rfl) rfl]
   exact endB_n1 [_] rfl
 · rw [if_neg hc] at wf
   rw [if_neg hc]
   have e2 : IntKind.i64.wrap (s.n.next.getD to.toNat 0 - 1) = s.n.next.getD to.toNat 0 - 1 := wrap64 (by omega) (by omega)
   simp -implicitDefEqProofs only [ZS, Nat.reduceAdd, sub_int, e2, rlastK h.toSOk]
   rw [show bringM s.n to = _ from if_neg hc]
   dsimp only at wf ⊢
   have hll : lastS s = lastL s.n.log := rfl
   by_cases hp : lastS s < s.n.next.getD to.toNat 0 - 1
   · rw [if_pos hp]
     rw [if_pos (show lastL s.n.log < s.n.next.getD to.toNat 0 - 1 from hp)] at wf ⊢
     have hb : s.n.log.index ≤ lastS s ∧ lastS s ≤ lastL s.n.log := by omega
     have e3 : IntKind.i64.wrap (lastS s + 1) = lastS s + 1 := wrap64 (by omega) (by omega)
     simp -implicitDefEqProofs only [ZS, Nat.reduceAdd, rlastK h.toSOk, add_int, e3, rTermD h.toSOk (lastS s) (hasL_iff.2 hb), rSliceD h.toSOk]
     rw [hll]
     refine Eq.trans (b := _) (congrArg (fun x => Option.bind x _) (show fillB _ _ = some [.int .i64 3, .int .i64 0, .int .i64 0, .int .i64 0, .int .i64 (lastL s.n.log), .int .i64 (termL s.n.log (lastL s.n.log)), .int .i64 s.n.commit, .bool false, ents (sliceL s.n.log (lastL s.n.log + 1) 8), .nils, .int .i64 0, .nils, .int .i64 0, .nils, .nils, .nils, .nils] from rfl)) ?_
     rw [Option.bind_some, sayK h.w wf to ho (fun H => rfl) rfl]
     exact endB_n1 [_] rfl
   · rw [if_neg hp]
     rw [if_neg (show ¬ lastL s.n.log < s.n.next.getD to.toNat 0 - 1 from hp)] at wf ⊢
     obtain ⟨p, hp1⟩ : ∃ p, p = s.n.next.getD to.toNat 0 - 1 := ⟨_, rfl⟩
     rw [← hp1] at wf hp ⊢
     have hb : s.n.log.index ≤ p ∧ p ≤ lastL s.n.log := by omega
     have e3 : IntKind.i64.wrap (p + 1) = p + 1 := wrap64 (by omega) (by omega)
     simp -implicitDefEqProofs only [ZS, Nat.reduceAdd, add_int, e3, rTermD h.toSOk p (hasL_iff.2 hb), rSliceD h.toSOk]
     refine Eq.trans (b := _) (congrArg (fun x => Option.bind x _) (show fillB _ _ = some [.int .i64 3, .int .i64 0, .int .i64 0, .int .i64 0, .int .i64 p, .int .i64 (termL s.n.log p), .int .i64 s.n.commit, .bool false, ents (sliceL s.n.log (p + 1) 8), .nils, .int .i64 0, .nils, .int .i64 0, .nils, .nils, .nils, .nils] from rfl)) ?_
     rw [Option.bind_some, sayK h.w wf to ho (fun H => rfl) rfl]
     exact endB_n1 [_] rfl
theorem sendToK {s : Stp} (h : SGd s) (to : Int) (h0 : 0 ≤ to) (h8 : to < 8) (ho : s.out.length < 1000000) {β : Type} {P R : List AObj} {K : Kt β} : callK (EV C) false n_ref19_Run_sendTo [.ptr (P.length + 1) 1 0 0, .int .i64 to] (hp P s R) K = K (.tup []) (hp P (sendF s to (bringM s.n to)) R) [] := (sendTo_m h to h0 h8 ho).call0 rfl
theorem sendAll_J (s0 : Stp) (h0 : SGd s0) (P R : List AObj) : ∀ (m i : Nat) (s : Stp), i + m = (memsS s0).length → s.n = s0.n → s.wf → s.out.length + m < 1000000 →
  ref19_Run_sendAll_J2 (P.length + 2 + R.length) (.ptr (P.length + 1) 1 0 0) (ints (memsS s0)) (.int .i64 (i : Int)) (hp P s R) [] = some (.tup [], hp P (othersF s ((memsS s0).drop i) (bringM s0.n)) R, [])
 | 0, i, s, hi, hn, hw, ho => by
  refine ref19_Run_sendAll_J2_of ?_
  simp -implicitDefEqProofs only [lenV_ints, lss_int, Option.bind_some, condK_dec]
  rw [if_neg (by omega), List.drop_eq_nil_of_le (by omega)]
  exact endB_n0 rfl
 | m + 1, i, s, hi, hn, hw, ho => by
  refine ref19_Run_sendAll_J2_of ?_
  have hlt : i < (memsS s0).length := by omega
  have hml := may_len h0.mems
  have hmem := may_mem h0.mems _ (List.getElem_mem hlt)
  have e3 : IntKind.i64.wrap ((i : Int) + 1) = ((i + 1 : Nat) : Int) := w64 (by omega) (by omega)
  have hg' : SGd s := ⟨⟨hw, by rw [hn]; exact h0.lg, by rw [hn]; exact h0.sl⟩, by rw [hn]; exact h0.id0, by rw [hn]; exact h0.id1, by rw [hn]; exact h0.nx, by rw [hn]; exact h0.mt, by rw [hn]; exact h0.c0, by rw [hn]; exact h0.c1⟩
  simp -implicitDefEqProofs only [lenV_ints, lss_int, Option.bind_some, condK_dec]
  rw [if_pos (by omega), ix_ints hlt, Option.bind_some, ld_i, Option.bind_some]
  simp -implicitDefEqProofs only [ZS, Nat.reduceAdd]
  rw [List.drop_eq_getElem_cons hlt]
  by_cases hx : (memsS s0)[i] = s.n.id
  · rw [show (decide ((memsS s0)[i] = s.n.id)) = true from decide_eq_true hx]
    simp -implicitDefEqProofs only [ZS, Nat.reduceAdd, add_int, e3]
    rw [others_eq hx]
    exact sendAll_J s0 h0 P R m (i + 1) s (by omega) hn hw (by omega)
  · rw [show (decide ((memsS s0)[i] = s.n.id)) = false from decide_eq_false hx]
    simp -implicitDefEqProofs only [ZS, Nat.reduceAdd, ix_ints hlt, ld_i]
    rw [sendToK hg' _ (by omega) (by omega) (by omega), others_ne hx]
    simp -implicitDefEqProofs only [ZS, Nat.reduceAdd, add_int, e3]
    rw [hn]
    exact sendAll_J s0 h0 P R m (i + 1) _ (by omega) hn (sendF_wf hw (bringM_wf _ _) _) (by simp [sendF]; omega)
theorem sendAll_m {s : Stp} (h : SGd s) (ho : s.out.length < 900000) : Meth n_ref19_Run_sendAll [] s (.tup []) (allF s) := fun P R => by
 refine ref19_Run_sendAll_of ?_
 dsimp only
 have hml := may_len h.mems
 simp -implicitDefEqProofs only [ZS, Nat.reduceAdd, rmembersK h.toSOk]
 show _ = some (AV.tup [], hp P (othersF s (memsS s) (bringM s.n)) R, [])
 simpa using sendAll_J s h P R (memsS s).length 0 s (by omega) rfl h.w (by omega)
theorem sendAllK {s : Stp} (h : SGd s) (ho : s.out.length < 900000) {β : Type} {P R : List AObj} {K : Kt β} : callK (EV C) false n_ref19_Run_sendAll [.ptr (P.length + 1) 1 0 0] (hp P s R) K = K (.tup []) (hp P (allF s) R) [] := (sendAll_m h ho).call0 rfl
theorem rfollow_m {s : Stp} (w : s.wf) (frm : Int) : Meth n_ref19_Run_follow [.int .i64 frm] s (.tup []) (followF s frm) := fun P R => by
 refine ref19_Run_follow_of ?_
 dsimp only
 simp -implicitDefEqProofs only [ZS, Nat.reduceAdd]
 rw [ss_ticks (by exact ⟨w.n.ln, w.n.lm⟩)]
 exact endB_n0 rfl
theorem rfollowK {s : Stp} (w : s.wf) (frm : Int) {β : Type} {P R : List AObj} {K : Kt β} : callK (EV C) false n_ref19_Run_follow [.ptr (P.length + 1) 1 0 0, .int .i64 frm] (hp P s R) K = K (.tup []) (hp P (followF s frm) R) [] := (rfollow_m w frm).call0 rfl
theorem len_eav {s : Stp} (w : s.wf) (H : List AObj) : lenV s.eav H = some (.int .i64 (s.n.log.es.length : Int)) := by
 unfold Stp.eav
 cases he : s.en with
 | true => rw [w.en he]; rfl
 | false => exact lenV_ents _ _
theorem open_J {s : Stp} (h : SGd s) (P R : List AObj) : ∀ (m i : Nat), i + m = s.n.log.es.length →
  ref19_Run_open_J2 (P.length + 2 + R.length) (.ptr (P.length + 1) 1 0 0) (.int .i64 (i : Int)) (hp P s R) [] = some (.bool ((s.n.log.es.drop i).any fun e => decide (e.kind = 2)), hp P s R, [])
 | 0, i, hi => by
  refine ref19_Run_open_J2_of ?_
  have he := h.es
  simp -implicitDefEqProofs only [ZS, Nat.reduceAdd, len_eav h.w]
  rw [if_neg (by omega), List.drop_eq_nil_of_le (by omega)]
  exact endB_n0 rfl
 | m + 1, i, hi => by
  refine ref19_Run_open_J2_of ?_
  have he := h.es
  have hlt : i < s.n.log.es.length := by omega
  have hne : s.eav = ents s.n.log.es := by
    unfold Stp.eav nilv
    split
    · rename_i hb; rw [h.w.en hb] at hlt; simp at hlt
    · rfl
  have e3 : IntKind.i64.wrap ((i : Int) + 1) = ((i + 1 : Nat) : Int) := w64 (by omega) (by omega)
  simp -implicitDefEqProofs only [ZS, Nat.reduceAdd, hne, lenV_ents]
  rw [if_pos (by omega), List.drop_eq_getElem_cons hlt]
  simp -implicitDefEqProofs only [ZS, Nat.reduceAdd, ixA_ents (List.getElem?_eq_getElem hlt), offA_ip, List.drop_succ_cons, List.drop_zero, loadA_ipc, add_int, e3, List.any_cons]
  by_cases hk : s.n.log.es[i].kind = 2
  · rw [if_pos hk, decide_eq_true hk, Bool.true_or]
    exact endB_n0 rfl
  · rw [if_neg hk, decide_eq_false hk, Bool.false_or]
    exact open_J h P R m (i + 1) (by omega)
theorem open_pend {s : Stp} (h : SGd s) : ((s.n.log.es.drop (s.n.commit - s.n.log.index).toNat).any fun e => decide (e.kind = 2)) = pendF s := by
 have c0 := h.c0; have c1 := h.c1; have hl := h.last
 have hll : lastL s.n.log = s.n.log.index + s.n.log.es.length := rfl
 unfold pendF pendN sliceL
 split
 · rw [show s.n.commit + 1 - s.n.log.index - 1 = s.n.commit - s.n.log.index by omega, List.take_of_length_le]
   rw [List.length_drop]; omega
 · rename_i hn
   rw [List.drop_eq_nil_of_le (by omega)]
theorem open_m {s : Stp} (h : SGd s) : Meth n_ref19_Run_open [] s (.bool (pendF s)) s := fun P R => by
 refine ref19_Run_open_of ?_
 dsimp only
 have c0 := h.c0; have c1 := h.c1; have hl := h.last
 have hmo : most = 1152921504606846976 := rfl
 have hll : lastL s.n.log = s.n.log.index + s.n.log.es.length := rfl
 have hls : lastS s = lastL s.n.log := rfl
 have e1 : IntKind.i64.wrap (s.n.commit - s.n.log.index) = (((s.n.commit - s.n.log.index).toNat : Nat) : Int) := by rw [wrap64 (by omega) (by omega)]; omega
 simp -implicitDefEqProofs only [ZS, Nat.reduceAdd, sub_int, e1]
 rw [open_J h P R (s.n.log.es.length - (s.n.commit - s.n.log.index).toNat) _ (by omega), open_pend h]
theorem openK {s : Stp} (h : SGd s) {β : Type} {P R : List AObj} {K : Kt β} : callK (EV C) false n_ref19_Run_open [.ptr (P.length + 1) 1 0 0] (hp P s R) K = K (.bool (pendF s)) (hp P s R) [] := (open_m h).call0 rfl
theorem litK_en {β : Type} (e : Ent) {H : List AObj} {K : Kt β} : litK 3 1 (.agg [(.int .i64 0), (.int .i64 0), .nils]) [(0, e.av)] H K = K (.lst [e.av]) H [] := by
 have hg : goodL [e.av] = true := by simp [goodL]
 unfold litK
 simp only [List.map_cons, List.map_nil, frzL_good H _ hg, Option.bind_some, show frz H (.agg [(.int .i64 0), (.int .i64 0), .nils]) = some (.agg [.int .i64 0, .int .i64 0, .lst []]) from rfl, List.zip_cons_cons, List.zip_nil_right, List.replicate_one, setS]
 rw [if_pos ⟨rfl, by simp, rfl⟩]
 simp only [killsL_good _ hg]
 rfl
end Go.Pm
namespace Go.Pm
open Go.Proofs
set_option linter.unusedVariables false
set_option linter.unusedSimpArgs false
theorem elems_eav {s : Stp} (w : s.wf) (H : List AObj) : elemsA s.eav H = some (s.n.log.es.map Ent.av) := by
 unfold Stp.eav
 cases he : s.en with
 | true => rw [w.en he]; rfl
 | false => rfl
theorem radd_m {s : Stp} (h : SOk s) (kind : Int) (data : List UInt8) (hd : data.length ≤ 2^40) : Meth n_ref19_Run_add [.int .i64 kind, bys data] s (.tup []) (addF s kind data) := fun P R => by
 refine ref19_Run_add_of ?_
 dsimp only
 have he := h.es
 simp -implicitDefEqProofs only [ZS, Nat.reduceAdd, rlastK h]
 unfold addF most
 by_cases hm : 1152921504606846976 ≤ lastS s
 · rw [if_neg (by omega), if_pos hm]
   exact endB_n0 rfl
 · rw [if_pos (by omega), if_neg hm]
   have rk : ∀ (H : List AObj) (K : AV → List AObj → List Nat → Option R3), rawK 3 0 (.agg [(.int .i64 0), (.int .i64 0), .nils]) [] H K = K (.slc H.length 0 0 0) (H ++ [.row 3 []]) [] := fun H K => rfl
   rw [rk]
   simp -implicitDefEqProofs only [ZS, Nat.reduceAdd]
   rw [appK_row (n := 0) (z := 3) (es := []) (ys := s.n.log.es.map Ent.av) (elems_eav h.w _) (hp_M P s R [] _) rfl (lz_ents _) (by decide) (by decide) (by decide) (by simp; omega)]
   rw [hp_setR, show ((R ++ [AObj.row 3 []]).set R.length (.row 3 ([] ++ s.n.log.es.map Ent.av))) = R ++ [.row 3 (s.n.log.es.map Ent.av)] from by simp]
   rw [esc_good (goodL_ents _)]
   simp -implicitDefEqProofs only [ZS, Nat.reduceAdd, fillE]
   rw [show AV.agg [.int .i64 s.n.term, .int .i64 kind, bys data] = (Ent.mk s.n.term kind data).av from rfl, litK_en]
   have hcl : Cl (hp P s R) 3 (s.n.log.es.map Ent.av) (.slc (P.length + 2 + R.length) 0 (s.n.log.es.map Ent.av).length (s.n.log.es.map Ent.av).length) [.row 3 (s.n.log.es.map Ent.av)] := .inr ⟨by rw [hp_len], rfl⟩
   rw [← hp_app P s R [.row 3 (s.n.log.es.map Ent.av)], cl_app hcl rfl (goodL_ents _) (by simp [goodL]) rfl (by decide) (by decide) (by decide) (by simp; omega)]
   have e : AV.lst (s.n.log.es.map Ent.av ++ [(Ent.mk s.n.term kind data).av]) = ents (s.n.log.es ++ [⟨s.n.term, kind, data⟩]) := by simp [ents]
   rw [e]
   simp -implicitDefEqProofs only [ZS, Nat.reduceAdd]
   exact endB_n1 [.dead] rfl
theorem raddK {s : Stp} (h : SOk s) (kind : Int) (data : List UInt8) (hd : data.length ≤ 2^40) {β : Type} {P R : List AObj} {K : Kt β} : callK (EV C) false n_ref19_Run_add [.ptr (P.length + 1) 1 0 0, .int .i64 kind, bys data] (hp P s R) K = K (.tup []) (hp P (addF s kind data) R) [] := (radd_m h kind data hd).call0 (by simp [goodL, AV.good])
theorem raddK0 {s : Stp} (h : SOk s) (kind : Int) {β : Type} {P R : List AObj} {K : Kt β} : callK (EV C) false n_ref19_Run_add [.ptr (P.length + 1) 1 0 0, .int .i64 kind, .nils] (hp P s R) K = K (.tup []) (hp P (addF s kind []) R) [] := (radd_m h kind [] (by simp)).call rfl rfl
theorem rmost_J4 (l ids : List Int) (hl : l.length ≤ 2^60) (hi : ids.length ≤ 2^60) : ∀ (m i c : Nat) (H : List AObj) (E : List Nat), i + m = l.length → c + cntIn (l.drop i) ids = cntIn l ids →
  ref17_Most_J4 0 (ints l) (ints ids) (.bool (mayL l)) (.int .i64 (c : Int)) (.int .i64 (i : Int)) H E = some (.bool (mostF l ids), [], [])
 | 0, i, c, H, E, h, hc => by
  refine ref17_Most_J4_of ?_
  simp -implicitDefEqProofs only [lenV_ints, lss_int, Option.bind_some, condK_dec]
  rw [List.drop_eq_nil_of_le (by omega)] at hc
  have hc' : c = cntIn l ids := by simpa [cntIn] using hc
  have hle := cntIn_le l ids
  rw [if_neg (by omega)]
  unfold mostF
  cases hm : mayL l with
  | false => simp only [splitK_f]; exact endB_good rfl
  | true =>
   have hq : binA .quo (Go.TypeDesc.int Go.IntKind.i64) (cmpT Tryz.prog) true (.int .i64 (l.length : Int)) (.int .i64 2) = some (.int .i64 ((l.length : Int) / 2)) := by
    have e2 : IntKind.i64.wrap (Int.tdiv (l.length : Int) 2) = (l.length : Int) / 2 := by
     rw [Int.tdiv_eq_ediv_of_nonneg (by omega), wrap64 (by omega) (by omega)]
    have e3 : IntKind.i64.wrap ((l.length : Int) / 2) = (l.length : Int) / 2 := wrap64 (by omega) (by omega)
    simp [binA, e2, e3]
   simp -implicitDefEqProofs only [splitK_t, lenV_ints, hq, gtr_int, Option.bind_some]
   rw [hc']
   refine (endB_good rfl).trans ?_
   have e : decide ((cntIn l ids : Int) > (l.length : Int) / 2) = decide (2 * (cntIn l ids : Int) > (l.length : Int)) := decide_eq_decide.2 (by omega)
   simp only [Bool.true_and]
   first | rw [← e] | rw [show decide ((l.length : Int) / 2 < (cntIn l ids : Int)) = decide (2 * (cntIn l ids : Int) > (l.length : Int)) from e]
   try rfl
 | m + 1, i, c, H, E, h, hc => by
  refine ref17_Most_J4_of ?_
  have hlt : i < l.length := by omega
  have hle := cntIn_le l ids
  simp -implicitDefEqProofs only [lenV_ints, lss_int, Option.bind_some, condK_dec]
  rw [List.drop_eq_getElem_cons hlt, cntIn_cons] at hc
  rw [if_pos (by omega), ix_ints hlt, Option.bind_some, ld_i, Option.bind_some, callK_ok (by simp [goodL, AV.good]) (has17_ok ids _ hi)]
  have e3 : IntKind.i64.wrap ((i : Int) + 1) = ((i + 1 : Nat) : Int) := w64 (by omega) (by omega)
  cases hh : hasF ids l[i] with
  | true =>
   rw [hh] at hc
   have e4 : IntKind.i64.wrap ((c : Int) + 1) = ((c + 1 : Nat) : Int) := w64 (by omega) (by simp at hc; omega)
   simp -implicitDefEqProofs only [condK_t, add_int, e3, e4, Option.bind_some]
   exact rmost_J4 l ids hl hi m (i + 1) (c + 1) _ _ (by omega) (by simp at hc; omega)
  | false =>
   rw [hh] at hc
   simp -implicitDefEqProofs only [condK_f, add_int, e3, Option.bind_some]
   exact rmost_J4 l ids hl hi m (i + 1) c _ _ (by omega) (by simp at hc; omega)
theorem rmost17_ok (l ids : List Int) (hl : l.length ≤ 2^60) (hi : ids.length ≤ 2^60) : EV C n_ref17_Most [ints l, ints ids] [] = some (.bool (mostF l ids), [], []) := by
 refine ref17_Most_of ?_
 dsimp only
 rw [callK_ok (by simp [goodL]) (ref17_May_ok l (by omega))]
 exact rmost_J4 l ids hl hi l.length 0 0 _ _ (by omega) (by simp)
theorem rmost_m {s : Stp} (h : SOk s) (ids : List Int) (hi : ids.length ≤ 2^60) : Meth n_ref19_Run_most [ints ids] s (.bool (mostF (memsS s) ids)) s := fun P R => by
 refine ref19_Run_most_of ?_
 dsimp only
 simp -implicitDefEqProofs only [ZS, Nat.reduceAdd, rmembersK h]
 rw [callK_ok (by simp [goodL]) (rmost17_ok _ _ h.ml hi)]
 exact endB_n0 rfl
end Go.Pm
namespace Go.Pm
open Go.Proofs
set_option linter.unusedVariables false
set_option linter.unusedSimpArgs false
/-- terms don't fall -/
theorem term_mono {g : Lg} (hs : soundL g = true) {i j : Int} (h0 : g.index ≤ i) (h1 : i ≤ j) (h2 : j ≤ lastL g) : termL g i ≤ termL g j := by
 obtain ⟨h3, _, hc⟩ := sound_parts hs
 unfold lastL at h2
 obtain ⟨u, k1, k2, k3⟩ := chk_drop (i - g.index).toNat g.es g.term hc (by omega)
 have hi : termL g i = u := by
   have := term_get (g := g) (n := (i - g.index).toNat) (by omega)
   rw [show g.index + (((i - g.index).toNat : Nat) : Int) = i by omega] at this
   rw [this]
   split
   · rename_i hz; exact (k1 hz).symm
   · rename_i hz
     have hlt : (i - g.index).toNat - 1 < g.es.length := by omega
     have hget := List.getElem?_eq_getElem hlt
     rw [hget]; exact (k2 _ (by omega) hget).symm
 rw [hi]
 by_cases he : i = j
 · rw [← he, hi]; exact Int.le_refl _
 · have hlt : (j - g.index - 1).toNat < g.es.length := by omega
   have hj : termL g j = g.es[(j - g.index - 1).toNat].term := by
     unfold termL
     rw [if_neg (by omega), List.getElem?_eq_getElem hlt]; rfl
   rw [hj]
   refine (chk_ge k3 _ ?_).2
   rw [List.mem_iff_getElem]
   refine ⟨(j - g.index - 1).toNat - (i - g.index).toNat, by rw [List.length_drop]; omega, ?_⟩
   rw [List.getElem_drop]
   congr 1; omega
/-- the best of those from i on -/
def bestF (s : Stp) (i : Int) (b : Int) : Nat → Int
 | 0 => b
 | k + 1 => bestF s (i + 1) (if mostF (memsS s) (haveF s.n.mtch i) = true then (if termL s.n.log i = s.n.term then i else b) else b) k
def goodI (s : Stp) (i : Int) : Bool := mostF (memsS s) (haveF s.n.mtch i) && decide (termL s.n.log i = s.n.term)
theorem best_snoc (s : Stp) : ∀ (k : Nat) (i b : Int), bestF s i b (k + 1) = if goodI s (i + k) = true then i + k else bestF s i b k
 | 0, i, b => by
  simp only [bestF, goodI, Bool.and_eq_true, decide_eq_true_eq, Int.natCast_zero, Int.add_zero]
  by_cases h1 : mostF (memsS s) (haveF s.n.mtch i) = true
  · rw [if_pos h1]
    by_cases h2 : termL s.n.log i = s.n.term
    · rw [if_pos h2, if_pos ⟨h1, h2⟩]
    · rw [if_neg h2, if_neg fun h => h2 h.2]
  · rw [if_neg h1, if_neg fun h => h1 h.1]
 | k + 1, i, b => by
  show bestF s (i + 1) _ (k + 1) = _
  rw [best_snoc s k (i + 1)]
  rw [show i + 1 + (k : Int) = i + ((k + 1 : Nat) : Int) by omega]
  rfl
/-- nothing below an elder term -/
theorem best_low (s : Stp) : ∀ (k : Nat) (i b : Int), (∀ j : Nat, j < k → termL s.n.log (i + j) ≠ s.n.term) → bestF s i b k = b
 | 0, i, b, h => rfl
 | k + 1, i, b, h => by
  rw [best_snoc, if_neg, best_low s k i b fun j hj => h j (by omega)]
  simp only [goodI, Bool.and_eq_true, decide_eq_true_eq]
  exact fun hh => h k (by omega) hh.2
theorem best_loop {s : Stp} (h : SGd s) (ht : termL s.n.log (lastL s.n.log) ≤ s.n.term) : ∀ (k : Nat), s.n.commit + k ≤ lastL s.n.log →
  cLoop s k = { s with n := { s.n with commit := bestF s (s.n.commit + 1) s.n.commit k } }
 | 0, hk => rfl
 | k + 1, hk => by
  have c0 := h.c0
  rw [best_snoc, show s.n.commit + 1 + (k : Int) = s.n.commit + ((k + 1 : Nat) : Int) by omega]
  unfold cLoop goodI
  by_cases h1 : termL s.n.log (s.n.commit + ((k + 1 : Nat) : Int)) = s.n.term
  · rw [if_pos h1]
    by_cases h2 : mostF (memsS s) (haveF s.n.mtch (s.n.commit + ((k + 1 : Nat) : Int))) = true
    · rw [if_pos h2, if_pos (by rw [h2, decide_eq_true h1]; rfl)]
    · rw [if_neg h2, if_neg (by rw [Bool.and_eq_true]; exact fun h => h2 h.1)]
      exact best_loop h ht k (by omega)
  · rw [if_neg h1, if_neg (by rw [Bool.and_eq_true, decide_eq_true_eq]; exact fun h => h1 h.2)]
    rw [best_low]
    intro j hj he
    have m1 := term_mono h.sl (i := s.n.commit + 1 + j) (j := s.n.commit + ((k + 1 : Nat) : Int)) (by omega) (by omega) hk
    have m2 := term_mono h.sl (i := s.n.commit + ((k + 1 : Nat) : Int)) (j := lastL s.n.log) (by omega) hk (Int.le_refl _)
    omega
end Go.Pm
namespace Go.Pm
open Go.Proofs
set_option linter.unusedVariables false
set_option linter.unusedSimpArgs false
theorem killAll_hp (P : List AObj) (s : Stp) (R : List AObj) (x : AObj) : killAll (hp P s (R ++ [x])) [P.length + 2 + R.length] = hp P s (R ++ [.dead]) := by
 rw [← hp_app, ← hp_app, ← hp_len P s R, killAll_last]
/-- a method's argument is a row of one's own: it is gone then -/
theorem rmostK {s : Stp} (h : SOk s) (c : List Int) (hc : c.length ≤ 2^60) {β : Type} {P R : List AObj} {K : Kt β} :
  callK (EV C) false n_ref19_Run_most [.ptr (P.length + 1) 1 0 0, .slc (P.length + 2 + R.length) 0 c.length c.length] (hp P s (R ++ [vro 1 (c.map i64)])) K = K (.bool (mostF (memsS s) c)) (hp P s (R ++ [.dead])) [] := by
 have h2 : frz (hp P s (R ++ [vro 1 (c.map i64)])) (.slc (P.length + 2 + R.length) 0 c.length c.length) = some (.lst (c.map i64)) := frz_vro (z := 1) (hp_M P s R [] _) (by simp) (goodL_i64 c)
 have e1 : frzL (hp P s (R ++ [vro 1 (c.map i64)])) [.ptr (P.length + 1) 1 0 0, .slc (P.length + 2 + R.length) 0 c.length c.length] = some [.ptr (P.length + 1) 1 0 0, ints c] := by
  have h1 : frz (hp P s (R ++ [vro 1 (c.map i64)])) (.ptr (P.length + 1) 1 0 0) = some (.ptr (P.length + 1) 1 0 0) := rfl
  simp only [frzL, h1, h2, Option.bind_some, Option.map_some]; rfl
 have e2 : belL 0 [.ptr (P.length + 1) 1 0 0, ints c] = false := by simp [belL, AV.bel]
 have e3 : killsL [AV.ptr (P.length + 1) 1 0 0, .slc (P.length + 2 + R.length) 0 c.length c.length] = [P.length + 2 + R.length] := rfl
 have e : callA (EV C) false n_ref19_Run_most [.ptr (P.length + 1) 1 0 0, .slc (P.length + 2 + R.length) 0 c.length c.length] (hp P s (R ++ [vro 1 (c.map i64)])) = some (.bool (mostF (memsS s) c), hp P s (R ++ [.dead]), []) := by
  unfold callA
  rw [if_neg (by decide), e1, Option.bind_some, e2, if_neg (by decide), e3, killAll_hp]
  exact rmost_m h c hc P (R ++ [.dead])
 unfold callK; rw [e]; rfl
theorem take_hp (P : List AObj) (s : Stp) (R X : List AObj) : List.take (P.length + 2 + R.length) (hp P s (R ++ X)) = hp P s R := by rw [← hp_len P s R]; exact hp_take P s s R X
theorem bel3 {P R : List AObj} (b i : Int) : (List.all ([] : List Nat) (fun e => decide (P.length + 2 + R.length ≤ e)) && (AV.bel (P.length + 2 + R.length) (.ptr (P.length + 1) 1 0 0) && (AV.bel (P.length + 2 + R.length) (.int .i64 b) && (AV.bel (P.length + 2 + R.length) (.int .i64 i) && true)))) = true := by
 simp only [AV.bel]; simp; omega
theorem rcounts_J3 (s : Stp) (h : SGd s) (P R : List AObj) : ∀ (k : Nat) (i b : Int), i + k = lastS s + 1 → s.n.commit < i → s.n.log.index ≤ b → b ≤ lastL s.n.log →
  ref19_Run_counts_J3 (P.length + 2 + R.length) (.ptr (P.length + 1) 1 0 0) (.int .i64 b) (.int .i64 i) (hp P s R) [] = some (.tup [], hp P (outF { s with n := { s.n with commit := bestF s i b k } }) R, [])
 | 0, i, b, hi, hc, b0, b1 => by
  refine ref19_Run_counts_J3_of ?_
  have hg := h.commit b0 b1
  have ml := h.ml
  simp -implicitDefEqProofs only [ZS, Nat.reduceAdd, rlastK h.toSOk]
  rw [if_neg (by omega)]
  simp -implicitDefEqProofs only [ZS, Nat.reduceAdd, rmembersK hg.toSOk, drawK_True]
  rw [callD_ok (by simp [goodL, AV.good]) (has17_ok (memsS { s with n := { s.n with commit := b } }) s.n.id hg.ml), Option.bind_some, openK hg]
  show _ = some (AV.tup [], hp P (outF { s with n := { s.n with commit := b } }) R, [])
  unfold outF
  cases h1 : hasF (memsS { s with n := { s.n with commit := b } }) s.n.id with
  | true =>
   simp -implicitDefEqProofs only [ZS, Nat.reduceAdd, Bool.false_and, Bool.false_eq_true, if_false]
   exact endB_n0 rfl
  | false =>
   simp -implicitDefEqProofs only [ZS, Nat.reduceAdd]
   cases h2 : pendF { s with n := { s.n with commit := b } } with
   | true =>
    simp -implicitDefEqProofs only [ZS, Nat.reduceAdd, Bool.and_false, Bool.false_eq_true, if_false]
    exact endB_n0 rfl
   | false =>
    simp -implicitDefEqProofs only [ZS, Nat.reduceAdd, Bool.and_self, if_true]
    exact endB_n0 rfl
 | k + 1, i, b, hi, hc, b0, b1 => by
  refine ref19_Run_counts_J3_of ?_
  have ml := h.ml
  have hl := h.last; have c0 := h.c0
  have hmo : most = 1152921504606846976 := rfl
  have hls : lastS s = lastL s.n.log := rfl
  have hhas : hasL s.n.log i = true := hasL_iff.2 ⟨by omega, by have : lastS s = s.n.log.index + s.n.log.es.length := rfl; omega⟩
  have e4 : IntKind.i64.wrap (i + 1) = i + 1 := wrap64 (by omega) (by omega)
  simp -implicitDefEqProofs only [ZS, Nat.reduceAdd, rlastK h.toSOk]
  rw [if_pos (by omega)]
  have inner : ∀ (m j : Nat) (c : List Int), j + m = 8 → c.length ≤ j →
    ref19_Run_counts_J7 (P.length + 2 + R.length) (hp P s R) [] (.ptr (P.length + 1) 1 0 0) (.int .i64 b) (.int .i64 i) (.slc (P.length + 2 + R.length) 0 c.length c.length) (.int .i64 (j : Int)) (hp P s (R ++ [vro 1 (c.map i64)])) [] =
      some (.tup [], hp P (outF { s with n := { s.n with commit := bestF s (i + 1) (if mostF (memsS s) (c ++ haveFrom s.n.mtch i j m) = true then (if termL s.n.log i = s.n.term then i else b) else b) k } }) R, []) := by
   intro m
   induction m with
   | zero =>
    intro j c hj hcl
    refine ref19_Run_counts_J7_of ?_
    simp -implicitDefEqProofs only [ZS, Nat.reduceAdd]
    rw [if_neg (by omega), rmostK h.toSOk c (by omega)]
    rw [show c ++ haveFrom s.n.mtch i j 0 = c from List.append_nil c]
    cases hmo2 : mostF (memsS s) c with
    | true =>
      simp -implicitDefEqProofs only [ZS, Nat.reduceAdd, if_true, rTermD h.toSOk i hhas]
      by_cases ht : termL s.n.log i = s.n.term
      · rw [if_pos ht, if_pos ht]
        simp -implicitDefEqProofs only [ZS, Nat.reduceAdd, add_int, e4, take_hp, bel3, condB, if_true]
        first
         | rw [bel3]
         | skip
        exact rcounts_J3 s h P R k (i + 1) i (by omega) (by omega) (by omega) (by omega)
      · rw [if_neg ht, if_neg ht]
        simp -implicitDefEqProofs only [ZS, Nat.reduceAdd, add_int, e4, take_hp, bel3, condB, if_true]
        exact rcounts_J3 s h P R k (i + 1) b (by omega) (by omega) b0 b1
    | false =>
      simp -implicitDefEqProofs only [ZS, Nat.reduceAdd, add_int, e4, take_hp, bel3, condB, if_true, Bool.false_eq_true, if_false]
      exact rcounts_J3 s h P R k (i + 1) b (by omega) (by omega) b0 b1
   | succ m ih =>
    intro j c hj hcl
    refine ref19_Run_counts_J7_of ?_
    have h8 : j < 8 := by omega
    have e3 : IntKind.i64.wrap ((j : Int) + 1) = ((j + 1 : Nat) : Int) := w64 (by omega) (by omega)
    simp -implicitDefEqProofs only [ZS, Nat.reduceAdd]
    rw [if_pos (by omega), arA_int (by omega) (by omega), Option.bind_some, show (19 + ((j : Int)).toNat) = 19 + j from by omega, ls_mtch h.w.n h8]
    simp -implicitDefEqProofs only [ZS, Nat.reduceAdd]
    unfold haveFrom
    by_cases hge : i ≤ s.n.mtch.getD j 0
    · rw [if_pos hge, if_pos hge, litIn rfl]
      rw [appK_vro (z := 1) (es := c.map i64) (ys := [i64 j]) rfl (hp_M P s R [] _) (by simp) rfl (by decide) (by decide) (by decide) (by simp; omega)]
      simp -implicitDefEqProofs only [ZS, Nat.reduceAdd, add_int, e3]
      rw [esc_good (by rfl), hp_setR, show ((R ++ [vro 1 (c.map i64)]).set R.length (vro 1 (c.map i64 ++ [i64 j]))) = R ++ [vro 1 ((c ++ [(j : Int)]).map i64)] from by simp, show c.length + [i64 (j : Int)].length = (c ++ [(j : Int)]).length from by simp]
      have := ih (j + 1) (c ++ [(j : Int)]) (by omega) (by simp; omega)
      rw [List.append_assoc, List.singleton_append] at this
      exact this
    · rw [if_neg hge, if_neg hge]
      simp -implicitDefEqProofs only [ZS, Nat.reduceAdd, add_int, e3]
      exact ih (j + 1) c (by omega) (by omega)
  have := inner 8 0 [] rfl (by simp)
  rw [List.nil_append] at this
  exact this
theorem rcounts_m {s : Stp} (h : SGd s) (ht : termL s.n.log (lastL s.n.log) ≤ s.n.term) : Meth n_ref19_Run_counts [] s (.tup []) (countsF s) := fun P R => by
 refine ref19_Run_counts_of ?_
 dsimp only
 have i0 := h.id0; have i1 := h.id1; have c0 := h.c0; have c1 := h.c1; have hl := h.last
 have hmo : most = 1152921504606846976 := rfl
 have hls : lastS s = lastL s.n.log := rfl
 have hm := markF_gd h
 have e4 : IntKind.i64.wrap (s.n.commit + 1) = s.n.commit + 1 := wrap64 (by omega) (by omega)
 simp -implicitDefEqProofs only [ZS, Nat.reduceAdd, rlastK h.toSOk, drawK_True, arA_int (show 0 ≤ s.n.id by omega) (show s.n.id < 8 by omega), ss_mtch h.w.n (show s.n.id.toNat < 8 by omega)]
 rw [show ({ s with n := { s.n with mtch := s.n.mtch.set s.n.id.toNat (lastS s) } } : Stp) = markF s from rfl]
 simp -implicitDefEqProofs only [ZS, Nat.reduceAdd, add_int]
 rw [e4]
 rw [rcounts_J3 (markF s) hm P R (lastS s - s.n.commit).toNat (s.n.commit + 1) s.n.commit (by show s.n.commit + 1 + ((lastS s - s.n.commit).toNat : Int) = lastS s + 1; omega) (by show s.n.commit < s.n.commit + 1; omega) c0 c1]
 unfold countsF
 rw [best_loop hm ht (lastS s - s.n.commit).toNat (by show s.n.commit + ((lastS s - s.n.commit).toNat : Int) ≤ lastL s.n.log; omega)]
 rfl
theorem rcountsK {s : Stp} (h : SGd s) (ht : termL s.n.log (lastL s.n.log) ≤ s.n.term) {β : Type} {P R : List AObj} {K : Kt β} : callK (EV C) false n_ref19_Run_counts [.ptr (P.length + 1) 1 0 0] (hp P s R) K = K (.tup []) (hp P (countsF s) R) [] := (rcounts_m h ht).call0 rfl
end Go.Pm
namespace Go.Pm
open Go.Proofs
set_option linter.unusedVariables false
set_option linter.unusedSimpArgs false
theorem rleads_J8 (x : Int) (P R : List AObj) : ∀ (m i : Nat) (s : Stp), i + m = 8 → SOk s → s.out.length < 800000 →
  SGd { s with n := { s.n with next := fillFrom x i m s.n.next, mtch := fillFrom 0 i m s.n.mtch } } → EOk s.n 0 [] →
  ref19_Run_leads_J8 (P.length + 2 + R.length) (.ptr (P.length + 1) 1 0 0) (.int .i64 x) (.int .i64 (i : Int)) (hp P s R) [] = some (.tup [], hp P (allF (countsF (addF { s with n := { s.n with next := fillFrom x i m s.n.next, mtch := fillFrom 0 i m s.n.mtch } } 0 []))) R, [])
 | 0, i, s, hi, h, ho, hg, he => by
  refine ref19_Run_leads_J8_of ?_
  simp -implicitDefEqProofs only [ZS, Nat.reduceAdd]
  have hg' : SGd s := hg
  have hat := addF_lastT h (kind := 0) (data := []) he.1
  rw [if_neg (by omega), raddK0 h, rcountsK (addF_gd hg' he) (by rw [(addF_n s 0 []).2.2.2.2.2.2]; exact hat), sendAllK (countsF_gd (addF_gd hg' he)) (by rw [(countsF_out _).1, (addF_n s 0 []).2.2.2.2.1]; omega)]
  exact endB_n0 rfl
 | m + 1, i, s, hi, h, ho, hg, he => by
  refine ref19_Run_leads_J8_of ?_
  have h8 : i < 8 := by omega
  have hl := h.last
  have hmo : most = 1152921504606846976 := rfl
  have e3 : IntKind.i64.wrap ((i : Int) + 1) = ((i + 1 : Nat) : Int) := w64 (by omega) (by omega)
  have ha : arA 8 1 (.ptr (P.length + 1) 1 0 11) (.int .i64 (i : Int)) = some (.ptr (P.length + 1) 1 0 (11 + i)) := arA_ptr h8
  have hb : arA 8 1 (.ptr (P.length + 1) 1 0 19) (.int .i64 (i : Int)) = some (.ptr (P.length + 1) 1 0 (19 + i)) := arA_ptr h8
  simp -implicitDefEqProofs only [ZS, Nat.reduceAdd]
  rw [if_pos (by omega)]
  simp -implicitDefEqProofs only [ZS, Nat.reduceAdd, ha, ss_next h.w.n h8]
  have w1 : ({ s with n := { s.n with next := s.n.next.set i x } } : Stp).n.wf := ⟨by simp [h.w.n.ln], h.w.n.lm⟩
  simp -implicitDefEqProofs only [ZS, Nat.reduceAdd, hb, ss_mtch w1 h8, add_int, e3]
  exact rleads_J8 x P R m (i + 1) { s with n := { s.n with next := s.n.next.set i x, mtch := s.n.mtch.set i 0 } } (by omega) ⟨⟨⟨by simp [h.w.n.ln], by simp [h.w.n.lm]⟩, h.w.vn, h.w.en, h.w.out⟩, h.lg, h.sl⟩ ho hg he
theorem rleads_m {s : Stp} (h : SGd s) (he : EOk s.n 0 []) (ho : s.out.length < 800000) : Meth n_ref19_Run_leads [] s (.tup []) (leadsF s) := fun P R => by
 refine ref19_Run_leads_of ?_
 dsimp only
 have hl := h.last
 have hmo : most = 1152921504606846976 := rfl
 have e4 : IntKind.i64.wrap (lastS s + 1) = lastS s + 1 := wrap64 (by omega) (by omega)
 simp -implicitDefEqProofs only [ZS, Nat.reduceAdd]
 have w1 : ({ s with n := { s.n with role := 2, leader := s.n.id } } : Stp).n.wf := ⟨h.w.n.ln, h.w.n.lm⟩
 rw [ss_ticks w1]
 simp -implicitDefEqProofs only [ZS, Nat.reduceAdd]
 have hk : SOk { s with n := { s.n with role := 2, leader := s.n.id, ticks := 0, votes := [] }, vn := true } := ⟨⟨⟨h.w.n.ln, h.w.n.lm⟩, fun _ => rfl, h.w.en, h.w.out⟩, h.lg, h.sl⟩
 rw [rlastK hk]
 rw [show lastS ({ s with n := { s.n with role := 2, leader := s.n.id, ticks := 0, votes := [] }, vn := true } : Stp) = lastS s from rfl]
 simp -implicitDefEqProofs only [ZS, Nat.reduceAdd, add_int, e4]
 have hr := resetF_gd h
 have hr' : SGd { s with n := { s.n with role := 2, leader := s.n.id, ticks := 0, votes := [], next := fillFrom (nextS s) 0 8 s.n.next, mtch := fillFrom 0 0 8 s.n.mtch }, vn := true } := by
   rw [fill_8 _ h.w.n.ln, fill_8 _ h.w.n.lm]; exact hr
 have key := rleads_J8 (nextS s) P R 8 0 { s with n := { s.n with role := 2, leader := s.n.id, ticks := 0, votes := [] }, vn := true } rfl hk ho hr' he
 have fin : ref19_Run_leads_J8 (P.length + 2 + R.length) (.ptr (P.length + 1) 1 0 0) (.int .i64 (nextS s)) (.int .i64 0) (hp P { s with n := { s.n with role := 2, leader := s.n.id, ticks := 0, votes := [] }, vn := true } R) [] = some (.tup [], hp P (leadsF s) R, []) := by
   refine key.trans ?_
   dsimp only
   rw [fill_8 _ h.w.n.ln, fill_8 _ h.w.n.lm]
   rfl
 unfold nextS at fin
 by_cases hx : most < lastS s + 1
 · rw [if_pos hx] at fin
   rw [if_pos (by omega)]; exact fin
 · rw [if_neg hx] at fin
   rw [if_neg (by omega)]; exact fin
theorem rleadsK {s : Stp} (h : SGd s) (he : EOk s.n 0 []) (ho : s.out.length < 800000) {β : Type} {P R : List AObj} {K : Kt β} : callK (EV C) false n_ref19_Run_leads [.ptr (P.length + 1) 1 0 0] (hp P s R) K = K (.tup []) (hp P (leadsF s) R) [] := (rleads_m h he ho).call0 rfl
theorem rtick_J20 (s0 : Stp) (h0 : SGd s0) (P R : List AObj) : ∀ (m i : Nat) (s : Stp), i + m = (memsS s0).length → s.n = s0.n → s.wf → s.out.length + m < 1000000 →
  ref19_Run_tick_J20 (P.length + 2 + R.length) (.ptr (P.length + 1) 1 0 0) (ints (memsS s0)) (.int .i64 (i : Int)) (hp P s R) [] = some (.tup [], hp P (othersF s ((memsS s0).drop i) (fun _ => askM s0.n)) R, [])
 | 0, i, s, hi, hn, hw, ho => by
  refine ref19_Run_tick_J20_of ?_
  simp -implicitDefEqProofs only [lenV_ints, lss_int, Option.bind_some, condK_dec]
  rw [if_neg (by omega), List.drop_eq_nil_of_le (by omega)]
  exact endB_n0 rfl
 | m + 1, i, s, hi, hn, hw, ho => by
  refine ref19_Run_tick_J20_of ?_
  have hlt : i < (memsS s0).length := by omega
  have hml := may_len h0.mems
  have e3 : IntKind.i64.wrap ((i : Int) + 1) = ((i + 1 : Nat) : Int) := w64 (by omega) (by omega)
  have hk : SOk s := ⟨hw, by rw [hn]; exact h0.lg, by rw [hn]; exact h0.sl⟩
  simp -implicitDefEqProofs only [lenV_ints, lss_int, Option.bind_some, condK_dec]
  rw [if_pos (by omega), ix_ints hlt, Option.bind_some, ld_i, Option.bind_some]
  simp -implicitDefEqProofs only [ZS, Nat.reduceAdd]
  rw [List.drop_eq_getElem_cons hlt]
  by_cases hx : (memsS s0)[i] = s.n.id
  · rw [show (decide ((memsS s0)[i] = s.n.id)) = true from decide_eq_true hx]
    simp -implicitDefEqProofs only [ZS, Nat.reduceAdd, add_int, e3]
    rw [others_eq hx]
    exact rtick_J20 s0 h0 P R m (i + 1) s (by omega) hn hw (by omega)
  · rw [show (decide ((memsS s0)[i] = s.n.id)) = false from decide_eq_false hx]
    simp -implicitDefEqProofs only [ZS, Nat.reduceAdd, ix_ints hlt, ld_i, rlastK hk, rtopK hk, drawK_True]
    rw [fsay (m := askM s.n) hw (askM_wf _) (by omega) rfl (fun H => rfl) rfl, others_ne hx]
    simp -implicitDefEqProofs only [ZS, Nat.reduceAdd, add_int, e3]
    rw [hn]
    exact rtick_J20 s0 h0 P R m (i + 1) _ (by omega) hn (sendF_wf hw (askM_wf _) _) (by simp [sendF]; omega)
end Go.Pm
namespace Go.Pm
open Go.Proofs
set_option linter.unusedVariables false
set_option linter.unusedSimpArgs false
theorem rmostV {s : Stp} (h : SOk s) (hv : s.n.votes.length ≤ 2^60) {β : Type} {P R : List AObj} {K : Kt β} : callK (EV C) false n_ref19_Run_most [.ptr (P.length + 1) 1 0 0, s.vav] (hp P s R) K = K (.bool (mostF (memsS s) s.n.votes)) (hp P s R) [] :=
 (rmost_m h s.n.votes hv).call (by simp only [frzL, frz_vav h.w, Option.bind_some, Option.map_some]) (by simp only [killsL, kills_vav, List.append_nil])
set_option maxHeartbeats 2000000 in
theorem rtick_m {s : Stp} (h : SFu s) (d : Int) (ho : s.out.length < 700000) : Meth n_ref19_Run_tick [.int .i64 d] s (.tup []) (tickF s d) := fun P R => by
 refine ref19_Run_tick_of ?_
 dsimp only
 have hmo : most = 1152921504606846976 := rfl
 have k0 := h.k0; have k1 := h.k1
 have e1 : IntKind.i64.wrap (s.n.ticks + 1) = s.n.ticks + 1 := wrap64 (by omega) (by omega)
 obtain ⟨t, htd⟩ : ∃ t, t = ticksF s := ⟨_, rfl⟩
 have ht : SGd t := by rw [htd]; exact h.toSGd.ticks _
 have hto : t.out = s.out := by rw [htd]; rfl
 have htn : t.n.log = s.n.log ∧ t.n.term = s.n.term := by rw [htd]; exact ⟨rfl, rfl⟩
 have t0 := h.t0; have t00 := h.t00; have t1 := h.t1; have hel := h.el
 have e2 : t.n.term < most → IntKind.i64.wrap (t.n.term + 1) = t.n.term + 1 := fun hl => wrap64 (by rw [htn.2]; omega) (by omega)
 unfold tickF
 rw [← htd]
 dsimp only
 have hz : SGd (zeroF t) := ht.ticks 0
 have lit1 : ∀ (x : Int) (H : List AObj) (K : AV → List AObj → List Nat → Option R3), litK 1 1 (.int .i64 0) [(0, .int .i64 x)] H K = K (ints [x]) H [] := fun x H K => litIn rfl
 have w1 : ({ t with n := { t.n with term := t.n.term + 1, role := 1, voted := t.n.id, votes := [t.n.id], leader := 0 }, vn := false } : Stp).n.wf := ⟨ht.w.n.ln, ht.w.n.lm⟩
 have w2 : ({ t with n := { t.n with term := t.n.term + 1, role := 1, voted := t.n.id, votes := [t.n.id], leader := 0, ticks := 0 }, vn := false } : Stp).n.wf := ⟨ht.w.n.ln, ht.w.n.lm⟩
 -- standing
 have stand : t.n.term < most → ∀ (X : Stp → Option R3), X = (fun c => callK (EV C) false n_ref19_Run_most [.ptr (P.length + 1) 1 0 0, c.vav] (hp P c R) fun a99 H99 E99 =>
     condK a99
       (callK (EV C) false n_ref19_Run_leads [.ptr (P.length + 1) 1 0 0] H99 fun a100 H100 E100 =>
       endB false false (P.length + 2 + R.length) (.tup []) H100 (E100 ++ E99))
       (callK (EV C) false n_ref19_Run_members [.ptr (P.length + 1) 1 0 0] H99 fun a101 H101 E101 =>
       ref19_Run_tick_J20 (P.length + 2 + R.length) (.ptr (P.length + 1) 1 0 0) a101 (.int .i64 0) H101 (E101 ++ E99))) → X (candF t d) = some (.tup [], hp P (standsF t d) R, []) := by
   intro hlt X hX
   rw [hX]
   obtain ⟨c, hcc⟩ : ∃ c, c = candF t d := ⟨_, rfl⟩
   have hc := candF_gd ht d
   unfold standsF
   rw [← hcc] at hc ⊢
   dsimp only
   have hvl : c.n.votes.length = 1 := by rw [hcc]; rfl
   have hco : c.out = s.out := by rw [hcc]; exact hto
   have hcn : c.n.log = t.n.log ∧ c.n.term = t.n.term + 1 := by rw [hcc]; exact ⟨rfl, rfl⟩
   rw [rmostV hc.toSOk (by omega)]
   cases hm : mostF (memsS c) c.n.votes with
   | true =>
     have he : EOk c.n 0 [] := ⟨by rw [hcn.1, hcn.2, htn.1, htn.2]; omega, by rw [hcn.2, htn.2]; omega, by rw [hcn.2]; omega, by decide, by decide, fun h => absurd h (by decide), by decide, by rw [hcn.1, htn.1]; omega⟩
     simp -implicitDefEqProofs only [condK_t, if_true]
     rw [rleadsK hc he (by rw [hco]; omega)]
     exact endB_n0 rfl
   | false =>
     simp -implicitDefEqProofs only [condK_f, Bool.false_eq_true, if_false]
     rw [rmembersK hc.toSOk]
     have hml := may_len hc.mems
     have := rtick_J20 c hc P R (memsS c).length 0 c (by omega) rfl hc.w (by rw [hco]; omega)
     rw [List.drop_zero] at this
     exact this
 simp -implicitDefEqProofs only [ZS, Nat.reduceAdd, ls_ticks h.w.n, add_int, e1, ss_ticks h.w.n]
 have both : ∀ p : Prop, [Decidable p] → ∀ a b c : Option R3, a = c → b = c → (if p then a else b) = c := fun p _ a b c h1 h2 => by split <;> assumption
 by_cases hk : s.n.ticks < 1152921504606846976
 · rw [if_pos hk]
   rw [show ({ s with n := { s.n with ticks := s.n.ticks + 1 } } : Stp) = t from by rw [htd]; unfold ticksF; rw [if_neg (by omega)]]
   simp -implicitDefEqProofs only [ZS, Nat.reduceAdd, ls_ticks ht.w.n, ss_ticks ht.w.n, ls_timeout ht.w.n]
   rw [show s.n.role = t.n.role from by rw [htd]; rfl, show s.n.id = t.n.id from by rw [htd]; rfl]
   by_cases h2 : t.n.role = 2
   · rw [if_pos h2, if_pos h2]
     by_cases hb : 2 ≤ t.n.ticks
     · rw [if_pos hb, if_pos hb]
       rw [show ({ t with n := { t.n with ticks := 0 } } : Stp) = zeroF t from rfl, sendAllK hz (by show t.out.length < _; rw [hto]; omega)]
       exact endB_n0 rfl
     · rw [if_neg hb, if_neg hb]
       exact endB_n0 rfl
   · rw [if_neg h2, if_neg h2]
     rw [rmembersK ht.toSOk]
     simp -implicitDefEqProofs only [ZS, Nat.reduceAdd, drawK_True, callD_ok (show goodL [ints (memsS t), AV.int .i64 t.n.id] = true from by simp [goodL, AV.good]) (has17_ok _ _ ht.ml)]
     cases hh : hasF (memsS t) t.n.id with
     | false =>
       simp -implicitDefEqProofs only [ZS, Nat.reduceAdd, Bool.false_eq_true, if_false, ite_self]
       exact endB_n0 rfl
     | true =>
       simp -implicitDefEqProofs only [ZS, Nat.reduceAdd, ls_ticks ht.w.n, ls_timeout ht.w.n, if_true]
       by_cases hb : t.n.ticks < t.n.timeout
       · rw [if_pos hb, if_neg (show ¬ t.n.timeout ≤ t.n.ticks by omega)]
         exact endB_n0 rfl
       · rw [if_neg hb, if_pos (show t.n.timeout ≤ t.n.ticks by omega)]
         by_cases hm : t.n.term < most
         · rw [if_neg (show ¬ 1152921504606846976 ≤ t.n.term by omega), if_pos hm]
           simp -implicitDefEqProofs only [ZS, Nat.reduceAdd, add_int, e2 hm, lit1, ss_ticks w1, ss_timeout w2, callK_ok (show goodL [AV.int .i64 d] = true from rfl) (rtimeout_ok d)]
           exact stand hm _ rfl
         · rw [if_pos (show 1152921504606846976 ≤ t.n.term by omega), if_neg hm]
           exact endB_n0 rfl
 · rw [if_neg hk]
   have hst : s = t := by
     rw [htd]; unfold ticksF; rw [if_pos (by omega), show most = s.n.ticks by omega]
   rw [hst]
   by_cases h2 : t.n.role = 2
   · rw [if_pos h2, if_pos h2]
     by_cases hb : 2 ≤ t.n.ticks
     · rw [if_pos hb, if_pos hb]
       rw [show ({ t with n := { t.n with ticks := 0 } } : Stp) = zeroF t from rfl, sendAllK hz (by show t.out.length < _; rw [hto]; omega)]
       exact endB_n0 rfl
     · rw [if_neg hb, if_neg hb]
       exact endB_n0 rfl
   · rw [if_neg h2, if_neg h2]
     rw [rmembersK ht.toSOk]
     simp -implicitDefEqProofs only [ZS, Nat.reduceAdd, drawK_True, callD_ok (show goodL [ints (memsS t), AV.int .i64 t.n.id] = true from by simp [goodL, AV.good]) (has17_ok _ _ ht.ml)]
     cases hh : hasF (memsS t) t.n.id with
     | false =>
       simp -implicitDefEqProofs only [ZS, Nat.reduceAdd, Bool.false_eq_true, if_false, ite_self]
       exact endB_n0 rfl
     | true =>
       simp -implicitDefEqProofs only [ZS, Nat.reduceAdd, ls_ticks ht.w.n, ls_timeout ht.w.n, if_true]
       by_cases hb : t.n.ticks < t.n.timeout
       · rw [if_pos hb, if_neg (show ¬ t.n.timeout ≤ t.n.ticks by omega)]
         exact endB_n0 rfl
       · rw [if_neg hb, if_pos (show t.n.timeout ≤ t.n.ticks by omega)]
         by_cases hm : t.n.term < most
         · rw [if_neg (show ¬ 1152921504606846976 ≤ t.n.term by omega), if_pos hm]
           simp -implicitDefEqProofs only [ZS, Nat.reduceAdd, add_int, e2 hm, lit1, ss_ticks w1, ss_timeout w2, callK_ok (show goodL [AV.int .i64 d] = true from rfl) (rtimeout_ok d)]
           exact stand hm _ rfl
         · rw [if_pos (show 1152921504606846976 ≤ t.n.term by omega), if_neg hm]
           exact endB_n0 rfl
end Go.Pm
namespace Go.Pm
open Go.Proofs
set_option linter.unusedVariables false
set_option linter.unusedSimpArgs false
theorem set_same {l : List Int} {i : Nat} (h : i < l.length) : l.set i (l.getD i 0) = l := by
 rw [List.getD_eq_getElem?_getD, List.getElem?_eq_getElem h]
 exact List.set_getElem_self h
set_option maxHeartbeats 4000000 in
theorem racked_m {s : Stp} (h : SGd s) (ht : termL s.n.log (lastL s.n.log) ≤ s.n.term) {m : Msg} (wm : m.wf) (h0 : 1 ≤ m.frm) (h7 : m.frm ≤ 7) (hi0 : 0 ≤ m.index) (hi1 : m.index ≤ most) (ho : s.out.length < 900000) : Meth n_ref19_Run_acked [m.av] s (.tup []) (ackF s m) := fun P R => by
 refine ref19_Run_acked_of ?_
 dsimp only
 have hmo : most = 1152921504606846976 := rfl
 have h8 : m.frm.toNat < 8 := by omega
 have n1 := h.nx m.frm.toNat h8
 have n2 := h.mt m.frm.toNat h8
 have ar : ∀ off, arA 8 1 (.ptr (P.length + 1) 1 0 off) (.int .i64 m.frm) = some (.ptr (P.length + 1) 1 0 (off + m.frm.toNat)) := fun off => arA_int (by omega) (by omega)
 rw [new_m wm]
 simp -implicitDefEqProofs only [ZS, Nat.reduceAdd, ZK]
 unfold ackF
 cases hok : m.ok with
 | false =>
  rw [show (!false) = true from rfl, if_neg (by decide)]
  have e1 : IntKind.i64.wrap (m.index + 1) = m.index + 1 := wrap64 (by omega) (by omega)
  have e2 : IntKind.i64.wrap (s.n.next.getD m.frm.toNat 0 - 1) = s.n.next.getD m.frm.toNat 0 - 1 := wrap64 (by omega) (by omega)
  have e3 : IntKind.i64.wrap (s.n.mtch.getD m.frm.toNat 0 + 1) = s.n.mtch.getD m.frm.toNat 0 + 1 := wrap64 (by omega) (by omega)
  have hg := backF_gd h m (by omega) (by omega)
  have fin : ∀ v, v = backN s.n m → (callK (EV C) false n_ref19_Run_sendTo [.ptr (P.length + 1) 1 0 0, .int .i64 m.frm] (hp P { s with n := { s.n with next := s.n.next.set m.frm.toNat v } } (R ++ [mrow m])) fun a41 H41 E41 => endB false false (P.length + 2 + R.length) (.tup []) H41 E41) = some (.tup [], hp P (sendF (backF s m) m.frm (bringM (backF s m).n m.frm)) R, []) := fun v hv => by
    rw [hv]
    refine (sendToK hg m.frm (by omega) (by omega) (show s.out.length < _ by omega)).trans ?_
    exact endB_n1 (v := .tup []) [mrow m] rfl
  simp -implicitDefEqProofs only [ZS, Nat.reduceAdd, ZK, add_int, sub_int, e1, ar, ls_next h.w.n h8, ls_mtch h.w.n h8, e2, e3, ss_next h.w.n h8]
  unfold backN at fin
  dsimp only at fin
  by_cases b1 : s.n.next.getD m.frm.toNat 0 - 1 < m.index + 1
  · rw [if_pos b1]
    rw [if_pos b1] at fin
    by_cases b2 : s.n.next.getD m.frm.toNat 0 - 1 ≤ s.n.mtch.getD m.frm.toNat 0
    · rw [if_pos b2]
      rw [if_pos (show s.n.mtch.getD m.frm.toNat 0 + 1 > s.n.next.getD m.frm.toNat 0 - 1 by omega)] at fin
      by_cases b3 : 1152921504606846976 < s.n.mtch.getD m.frm.toNat 0 + 1
      · rw [if_pos b3]; exact fin _ (by rw [if_pos (show most < _ from b3)]; rfl)
      · rw [if_neg b3]; exact fin _ (by rw [if_neg (show ¬ most < _ from b3)])
    · rw [if_neg b2]
      rw [if_neg (show ¬ s.n.mtch.getD m.frm.toNat 0 + 1 > s.n.next.getD m.frm.toNat 0 - 1 by omega)] at fin
      by_cases b3 : 1152921504606846976 < s.n.next.getD m.frm.toNat 0 - 1
      · rw [if_pos b3]; exact fin _ (by rw [if_pos (show most < _ from b3)]; rfl)
      · rw [if_neg b3]; exact fin _ (by rw [if_neg (show ¬ most < _ from b3)])
  · rw [if_neg b1]
    rw [if_neg b1] at fin
    by_cases b2 : m.index + 1 ≤ s.n.mtch.getD m.frm.toNat 0
    · rw [if_pos b2]
      rw [if_pos (show s.n.mtch.getD m.frm.toNat 0 + 1 > m.index + 1 by omega)] at fin
      by_cases b3 : 1152921504606846976 < s.n.mtch.getD m.frm.toNat 0 + 1
      · rw [if_pos b3]; exact fin _ (by rw [if_pos (show most < _ from b3)]; rfl)
      · rw [if_neg b3]; exact fin _ (by rw [if_neg (show ¬ most < _ from b3)])
    · rw [if_neg b2]
      rw [if_neg (show ¬ s.n.mtch.getD m.frm.toNat 0 + 1 > m.index + 1 by omega)] at fin
      by_cases b3 : 1152921504606846976 < m.index + 1
      · rw [if_pos b3]; exact fin _ (by rw [if_pos (show most < _ from b3)]; rfl)
      · rw [if_neg b3]; exact fin _ (by rw [if_neg (show ¬ most < _ from b3)])
 | true =>
  rw [show (!true) = false from rfl, if_pos rfl]
  simp -implicitDefEqProofs only [ZS, Nat.reduceAdd, ZK, rlastK h.toSOk]
  simp -implicitDefEqProofs only [drawK_True]
  by_cases hl : lastS s < m.index
  · rw [if_pos hl, if_pos hl]
    exact endB_n1 [_] rfl
  · rw [if_neg hl, if_neg hl]
    have hg1 := gotF_gd h m h8 hi0 hi1
    have hg2 := fwdF_gd hg1 m h8
    obtain ⟨g, hgg⟩ : ∃ g, g = gotF s m := ⟨_, rfl⟩
    have hgo : g.out = s.out := by rw [hgg]; rfl
    have htg : termL (fwdF g m).n.log (lastL (fwdF g m).n.log) ≤ (fwdF g m).n.term := by rw [hgg]; exact ht
    rw [← hgg] at hg1 hg2 ⊢
    have n3 := hg1.mt m.frm.toNat h8
    have e4 : IntKind.i64.wrap (g.n.mtch.getD m.frm.toNat 0 + 1) = g.n.mtch.getD m.frm.toNat 0 + 1 := wrap64 (by omega) (by omega)
    have wq : ({ g with n := { g.n with next := g.n.next.set m.frm.toNat (g.n.mtch.getD m.frm.toNat 0 + 1) } } : Stp).n.wf := ⟨by simp [hg1.w.n.ln], hg1.w.n.lm⟩
    have lq : loadA false 1 (.ptr (P.length + 1) 1 0 (11 + m.frm.toNat)) (hp P { g with n := { g.n with next := g.n.next.set m.frm.toNat (g.n.mtch.getD m.frm.toNat 0 + 1) } } (R ++ [mrow m])) = some (.int .i64 (g.n.mtch.getD m.frm.toNat 0 + 1)) := by
      rw [ls_next wq h8]
      show some (AV.int .i64 ((g.n.next.set m.frm.toNat (g.n.mtch.getD m.frm.toNat 0 + 1)).getD m.frm.toNat 0)) = _
      rw [getD_set (by rw [hg1.w.n.ln]; exact h8), if_pos rfl]
    simp -implicitDefEqProofs only [ZS, Nat.reduceAdd, ZK, ar, ls_mtch h.w.n h8, ss_mtch h.w.n h8]
    by_cases hgt : s.n.mtch.getD m.frm.toNat 0 < m.index
    · rw [if_pos hgt]
      rw [show ({ s with n := { s.n with mtch := s.n.mtch.set m.frm.toNat m.index } } : Stp) = g from by rw [hgg]; unfold gotF; rw [if_pos hgt]]
      simp -implicitDefEqProofs only [ZS, Nat.reduceAdd, ZK, ar, ls_mtch hg1.w.n h8, add_int, e4, ss_next hg1.w.n h8]
      rw [lq]
      simp -implicitDefEqProofs only [ZS, Nat.reduceAdd]
      by_cases hb : 1152921504606846976 < g.n.mtch.getD m.frm.toNat 0 + 1
      · rw [if_pos hb]
        simp -implicitDefEqProofs only [ZS, Nat.reduceAdd, ss_next wq h8, List.set_set]
        rw [show ({ g with n := { g.n with next := g.n.next.set m.frm.toNat 1152921504606846976 } } : Stp) = fwdF g m from by unfold fwdF; rw [if_pos (show most < g.n.mtch.getD m.frm.toNat 0 + 1 from hb)]; rfl, rcountsK hg2 htg]
        obtain ⟨c, hcc⟩ : ∃ c, c = countsF (fwdF g m) := ⟨_, rfl⟩
        have hc := countsF_gd hg2
        have hco := (countsF_out (fwdF g m)).1
        rw [← hcc] at hc hco ⊢
        have hco2 : c.out.length < 1000000 := by rw [hco]; show g.out.length < _; rw [hgo]; omega
        simp -implicitDefEqProofs only [ZS, Nat.reduceAdd, ZK, drawK_True]
        by_cases hr : c.n.role = 2
        · rw [if_pos hr, if_pos hr]
          simp -implicitDefEqProofs only [ZS, Nat.reduceAdd, ZK, ar, ls_next hc.w.n h8, rlastK hc.toSOk, drawK_True]
          by_cases hn : c.n.next.getD m.frm.toNat 0 ≤ lastS c
          · rw [if_pos hn, if_pos hn, sendToK hc m.frm (by omega) (by omega) hco2]
            exact endB_n1 [_] rfl
          · rw [if_neg hn, if_neg hn]
            exact endB_n1 [_] rfl
        · rw [if_neg hr, if_neg hr]
          exact endB_n1 [_] rfl
      · rw [if_neg hb]
        rw [show ({ g with n := { g.n with next := g.n.next.set m.frm.toNat (g.n.mtch.getD m.frm.toNat 0 + 1) } } : Stp) = fwdF g m from by unfold fwdF; rw [if_neg (show ¬ most < g.n.mtch.getD m.frm.toNat 0 + 1 from hb)], rcountsK hg2 htg]
        obtain ⟨c, hcc⟩ : ∃ c, c = countsF (fwdF g m) := ⟨_, rfl⟩
        have hc := countsF_gd hg2
        have hco := (countsF_out (fwdF g m)).1
        rw [← hcc] at hc hco ⊢
        have hco2 : c.out.length < 1000000 := by rw [hco]; show g.out.length < _; rw [hgo]; omega
        simp -implicitDefEqProofs only [ZS, Nat.reduceAdd, ZK, drawK_True]
        by_cases hr : c.n.role = 2
        · rw [if_pos hr, if_pos hr]
          simp -implicitDefEqProofs only [ZS, Nat.reduceAdd, ZK, ar, ls_next hc.w.n h8, rlastK hc.toSOk, drawK_True]
          by_cases hn : c.n.next.getD m.frm.toNat 0 ≤ lastS c
          · rw [if_pos hn, if_pos hn, sendToK hc m.frm (by omega) (by omega) hco2]
            exact endB_n1 [_] rfl
          · rw [if_neg hn, if_neg hn]
            exact endB_n1 [_] rfl
        · rw [if_neg hr, if_neg hr]
          exact endB_n1 [_] rfl
    · rw [if_neg hgt]
      have hst : s = g := by rw [hgg]; unfold gotF; rw [if_neg hgt, set_same (by rw [h.w.n.lm]; exact h8)]
      rw [hst]
      simp -implicitDefEqProofs only [ZS, Nat.reduceAdd, ZK, ar, ls_mtch hg1.w.n h8, add_int, e4, ss_next hg1.w.n h8]
      rw [lq]
      simp -implicitDefEqProofs only [ZS, Nat.reduceAdd]
      by_cases hb : 1152921504606846976 < g.n.mtch.getD m.frm.toNat 0 + 1
      · rw [if_pos hb]
        simp -implicitDefEqProofs only [ZS, Nat.reduceAdd, ss_next wq h8, List.set_set]
        rw [show ({ g with n := { g.n with next := g.n.next.set m.frm.toNat 1152921504606846976 } } : Stp) = fwdF g m from by unfold fwdF; rw [if_pos (show most < g.n.mtch.getD m.frm.toNat 0 + 1 from hb)]; rfl, rcountsK hg2 htg]
        obtain ⟨c, hcc⟩ : ∃ c, c = countsF (fwdF g m) := ⟨_, rfl⟩
        have hc := countsF_gd hg2
        have hco := (countsF_out (fwdF g m)).1
        rw [← hcc] at hc hco ⊢
        have hco2 : c.out.length < 1000000 := by rw [hco]; show g.out.length < _; rw [hgo]; omega
        simp -implicitDefEqProofs only [ZS, Nat.reduceAdd, ZK, drawK_True]
        by_cases hr : c.n.role = 2
        · rw [if_pos hr, if_pos hr]
          simp -implicitDefEqProofs only [ZS, Nat.reduceAdd, ZK, ar, ls_next hc.w.n h8, rlastK hc.toSOk, drawK_True]
          by_cases hn : c.n.next.getD m.frm.toNat 0 ≤ lastS c
          · rw [if_pos hn, if_pos hn, sendToK hc m.frm (by omega) (by omega) hco2]
            exact endB_n1 [_] rfl
          · rw [if_neg hn, if_neg hn]
            exact endB_n1 [_] rfl
        · rw [if_neg hr, if_neg hr]
          exact endB_n1 [_] rfl
      · rw [if_neg hb]
        rw [show ({ g with n := { g.n with next := g.n.next.set m.frm.toNat (g.n.mtch.getD m.frm.toNat 0 + 1) } } : Stp) = fwdF g m from by unfold fwdF; rw [if_neg (show ¬ most < g.n.mtch.getD m.frm.toNat 0 + 1 from hb)], rcountsK hg2 htg]
        obtain ⟨c, hcc⟩ : ∃ c, c = countsF (fwdF g m) := ⟨_, rfl⟩
        have hc := countsF_gd hg2
        have hco := (countsF_out (fwdF g m)).1
        rw [← hcc] at hc hco ⊢
        have hco2 : c.out.length < 1000000 := by rw [hco]; show g.out.length < _; rw [hgo]; omega
        simp -implicitDefEqProofs only [ZS, Nat.reduceAdd, ZK, drawK_True]
        by_cases hr : c.n.role = 2
        · rw [if_pos hr, if_pos hr]
          simp -implicitDefEqProofs only [ZS, Nat.reduceAdd, ZK, ar, ls_next hc.w.n h8, rlastK hc.toSOk, drawK_True]
          by_cases hn : c.n.next.getD m.frm.toNat 0 ≤ lastS c
          · rw [if_pos hn, if_pos hn, sendToK hc m.frm (by omega) (by omega) hco2]
            exact endB_n1 [_] rfl
          · rw [if_neg hn, if_neg hn]
            exact endB_n1 [_] rfl
        · rw [if_neg hr, if_neg hr]
          exact endB_n1 [_] rfl
theorem rackedK {s : Stp} (h : SGd s) (ht : termL s.n.log (lastL s.n.log) ≤ s.n.term) {m : Msg} (wm : m.wf) (h0 : 1 ≤ m.frm) (h7 : m.frm ≤ 7) (hi0 : 0 ≤ m.index) (hi1 : m.index ≤ most) (ho : s.out.length < 900000) {β : Type} {P R : List AObj} {K : Kt β} : callK (EV C) false n_ref19_Run_acked [.ptr (P.length + 1) 1 0 0, m.av] (hp P s R) K = K (.tup []) (hp P (ackF s m) R) [] := (racked_m h ht wm h0 h7 hi0 hi1 ho).call0 (by simp [goodL, Msg.avgood wm])
end Go.Pm
namespace Go.Pm
open Go.Proofs
set_option linter.unusedVariables false
set_option linter.unusedSimpArgs false
theorem rinst_tail {f : Stp} (h : SGd f) (m : Msg) (g : Lg) (b : Bool) (hb : b = true → g.es = []) (hg : LgOk g) (ho : f.out.length < 1000000) (P R : List AObj) :
  ((loadA true 4 (.ptr (P.length + 2 + (R ++ [mrow m]).length) 1 0 0) (hp P f (R ++ mrow m :: [.row 4 [lagv g b]]))).bind fun a73 => callK (EV C) false n_ref18_Check [a73] (hp P f (R ++ mrow m :: [.row 4 [lagv g b]])) fun a74 H74 E74 => (unA .not a74).bind fun a75 =>
   condK a75 (endB false false (P.length + 2 + R.length) (.tup []) H74 E74)
    ((loadA true 4 (.ptr (P.length + 2 + (R ++ [mrow m]).length) 1 0 0) H74).bind fun a76 => stoK 4 (.ptr (P.length + 1) 1 0 5) a76 H74 fun H80 E80 => (loadA false 1 (.ptr (P.length + 2 + R.length) 1 0 4) H80).bind fun a82 => stoK 1 (.ptr (P.length + 1) 1 0 9) a82 H80 fun H86 E86 => (loadA false 1 (.ptr (P.length + 2 + R.length) 1 0 4) H86).bind fun a88 => stoK 1 (.ptr (P.length + 1) 1 0 30) a88 H86 fun H91 E91 => (loadA false 1 (.ptr (P.length + 2 + R.length) 1 0 1) H91).bind fun a93 => (loadA false 1 (.ptr (P.length + 2 + R.length) 1 0 4) H91).bind fun a95 =>
     (fillB (AV.cells (.agg [(.int .i64 0), (.int .i64 0), (.int .i64 0), (.int .i64 0), (.int .i64 0), (.int .i64 0), (.int .i64 0), (.bool false), .nils, .nils, (.int .i64 0), .nils, (.int .i64 0), .nils, .nils, .nils, .nils])) [(0, 1, (.int .i64 4)), (7, 1, (.bool true)), (4, 1, a95)]).bind fun c96 =>
     callK (EV C) false n_ref19_Run_say [.ptr (P.length + 1) 1 0 0, a93, (.agg c96)] H91 fun a97 H97 E97 => endB false false (P.length + 2 + R.length) (.tup []) H97 (E97 ++ (E91 ++ (E86 ++ (E80 ++ E74)))))) = some (.tup [], hp P (snapE f m g b) R, []) := by
 have hl : ∀ f' : Stp, loadA true 4 (.ptr (P.length + 2 + (R ++ [mrow m]).length) 1 0 0) (hp P f' (R ++ mrow m :: [.row 4 [lagv g b]])) = some (lagv g b) := fun f' => by
  have h4 : (hp P f' (R ++ [mrow m] ++ .row 4 [lagv g b] :: []))[P.length + 2 + (R ++ [mrow m]).length]? = some (.row 4 [lagv g b]) := hp_M P f' (R ++ [mrow m]) [] _
  have := ld_aggp (cs := [.int .i64 g.index, .int .i64 g.term, ints g.mems, nilv b (ents g.es)]) (s := 4) (j := 0) h4 (by simp)
  simp only [List.append_assoc, List.cons_append, List.nil_append] at this
  exact this
 have hge := hg.e
 unfold snapE
 rw [hl, Option.bind_some, callK_nil (kills_lagv g b) (frz_lagv hb _) (by simp [goodL]) (rCheck_ok g hg.m (by omega) hg.d)]
 cases hs : soundL g with
 | false =>
  simp -implicitDefEqProofs only [ZS, Nat.reduceAdd, Bool.false_eq_true, if_false]
  exact endB_n1 _ rfl
 | true =>
  have sl : ∀ (K : List AObj → List Nat → Option R3) (R' : List AObj), stoK 4 (.ptr (P.length + 1) 1 0 5) (lagv g b) (hp P f R') K = K (hp P { f with n := { f.n with log := g }, en := b } R') [] := fun K R' => ss_log g b
  have hw : ({ f with n := { f.n with log := g, commit := m.index }, en := b } : Stp).wf := ⟨⟨h.w.n.ln, h.w.n.lm⟩, h.w.vn, hb, h.w.out⟩
  have hw2 : ({ f with n := { f.n with log := g, commit := m.index }, en := b, num := m.index } : Stp).wf := ⟨⟨h.w.n.ln, h.w.n.lm⟩, h.w.vn, hb, h.w.out⟩
  simp -implicitDefEqProofs only [ZS, Nat.reduceAdd, ZK, if_true, hl, sl, ss_num hw.n]
  rw [fsay (m := { msg0 4 with ok := true, index := m.index }) hw2 (tail0_wf rfl) ho rfl (fun H => rfl) rfl]
  exact endB_n1 _ rfl
theorem rHasD {s : Stp} (h : SOk s) {i : Int} {H : List AObj} : callD (EV C) n_ref18_Has [s.lav, .int .i64 i] H = some (.bool (hasL s.n.log i)) := log_callD h.w rfl (rHas_ok _ i h.sm)
theorem rCompactD {s : Stp} (h : SOk s) {i : Int} (hi : hasL s.n.log i = true) {H : List AObj} : callD (EV C) n_ref18_Compact [s.lav, .int .i64 i] H = some (compactL s.n.log i).av := log_callD h.w rfl (rCompact_ok _ i h.lg h.sl hi)
set_option maxHeartbeats 2000000 in
theorem rinstall_m {s : Stp} (h : SGd s) {m : Msg} (wm : m.wf) (hml : m.mems.length < 2^40) (ho : s.out.length < 1000000) : Meth n_ref19_Run_install [m.av] s (.tup []) (snapF s m) := fun P R => by
 refine ref19_Run_install_of ?_
 dsimp only
 have hf := followF_gd h m.frm
 obtain ⟨f, hff⟩ : ∃ f, f = followF s m.frm := ⟨_, rfl⟩
 have hf : SGd f := by rw [hff]; exact hf
 have hfo : f.out = s.out ∧ f.n.log = s.n.log ∧ f.n.commit = s.n.commit := by rw [hff]; exact ⟨rfl, rfl, rfl⟩
 have hog : f.out.length < 1000000 := by rw [hfo.1]; exact ho
 rw [new_m wm]
 unfold snapF
 rw [← hff]
 dsimp only
 simp -implicitDefEqProofs only [ZS, Nat.reduceAdd, ZK, callK_ok (show goodL [ints m.mems] = true from by simp [goodL]) (ref17_May_ok m.mems (by omega)), rfollowK h.w]
 rw [← hff]
 by_cases h2 : s.n.role = 2
 · rw [if_pos h2, if_pos h2]
   exact endB_n1 [_] rfl
 · rw [if_neg h2, if_neg h2]
   cases hmay : mayL m.mems with
   | false =>
    simp -implicitDefEqProofs only [ZS, Nat.reduceAdd, Bool.false_eq_true, if_false]
    exact endB_n1 [_] rfl
   | true =>
    simp -implicitDefEqProofs only [ZS, Nat.reduceAdd, ZK, if_true]
    by_cases ht : s.n.term < m.lterm
    · rw [if_pos ht, if_pos ht]
      exact endB_n1 [_] rfl
    · rw [if_neg ht, if_neg ht]
      by_cases hc : m.index ≤ f.n.commit
      · rw [if_pos hc, if_pos (show m.index ≤ f.n.commit from hc)]
        rw [fsay (m := { msg0 4 with ok := true, index := f.n.commit }) hf.w (tail0_wf rfl) hog rfl (fun H => rfl) rfl]
        exact endB_n1 [_] rfl
      · rw [if_neg hc, if_neg (show ¬ m.index ≤ f.n.commit from hc)]
        refine (congrArg (fun x => Option.bind x _) (show fillB _ _ = some [.int .i64 m.index, .int .i64 m.lterm, ints m.mems] from rfl)).trans ?_
        rw [Option.bind_some]
        refine (congrArg (fun x => Option.bind x _) (show fillB _ _ = some [.int .i64 m.index, .int .i64 m.lterm, ints m.mems, .nils] from rfl)).trans ?_
        rw [Option.bind_some, new_R (by simp) rfl]
        have l4 : ∀ (K : List AObj → List Nat → Option R3), stoK 4 (.ptr (P.length + 2 + (R ++ [mrow m]).length) 1 0 0) (.agg [.int .i64 m.index, .int .i64 m.lterm, ints m.mems, .nils]) (hp P f (R ++ [mrow m] ++ [.row ([(.int .i64 0), (.int .i64 0), .nils, .nils] : List AV).length [.agg [(.int .i64 0), (.int .i64 0), .nils, .nils]]])) K = K (hp P f (R ++ [mrow m] ++ [.row 4 [lagv ⟨m.index, m.lterm, m.mems, []⟩ true]])) [] := fun K =>
         sto_R (P := P) (R := R ++ [mrow m]) (X := []) (s := f) (z := 4) (cs := [(.int .i64 0), (.int .i64 0), .nils, .nils]) (n := 4) (off := 0) rfl rfl (fun k => by simp [AV.cells, belL, bel_good _ _ (good_ints _), AV.bel]) (by simp) rfl
        rw [l4]
        simp -implicitDefEqProofs only [ZS, Nat.reduceAdd, ZK, rHasD hf.toSOk]
        have hg0 : LgOk ⟨m.index, m.lterm, m.mems, []⟩ := ⟨by show m.mems.length < _; omega, by show ([] : List Ent).length < _; simp, fun e he => by cases he⟩
        unfold snapL snapKeep
        rw [hfo.2.1]
        cases hh : hasL s.n.log m.index with
        | false =>
         simp -implicitDefEqProofs only [ZS, Nat.reduceAdd, Bool.false_and, Bool.false_eq_true, if_false]
         exact rinst_tail hf m ⟨m.index, m.lterm, m.mems, []⟩ true (fun _ => rfl) hg0 hog P R
        | true =>
         simp -implicitDefEqProofs only [ZS, Nat.reduceAdd, ZK, rTermD hf.toSOk m.index (by rw [hfo.2.1]; exact hh)]
         rw [hfo.2.1]
         by_cases htt : termL s.n.log m.index = m.lterm
         · rw [if_pos htt, show decide (termL s.n.log m.index = m.lterm) = true from decide_eq_true htt]
           simp -implicitDefEqProofs only [ZS, Nat.reduceAdd, ZK, rCompactD hf.toSOk (show hasL f.n.log m.index = true by rw [hfo.2.1]; exact hh), Bool.and_self, if_true]
           rw [hfo.2.1]
           obtain ⟨c, hcc⟩ : ∃ c, c = compactL s.n.log m.index := ⟨_, rfl⟩
           have hc0 : c.es.length < 2^40 ∧ lightP c.es := by
            rw [hcc]
            have := h.es
            exact ⟨by simp [compactL]; omega, fun e he => h.lg.d e (List.mem_of_mem_drop he)⟩
           rw [← hcc]
           have s5 : ∀ (K : List AObj → List Nat → Option R3), stoK 1 (.ptr (P.length + 2 + (R ++ [mrow m]).length) 1 0 3) (ents c.es) (hp P f (R ++ mrow m :: [.row 4 [lagv ⟨m.index, m.lterm, m.mems, []⟩ true]])) K = K (hp P f (R ++ mrow m :: [.row 4 [lagv ⟨m.index, m.lterm, m.mems, c.es⟩ false]])) [] := fun K => by
            have := sto_R (P := P) (R := R ++ [mrow m]) (X := []) (s := f) (z := 4) (cs := [.int .i64 m.index, .int .i64 m.lterm, ints m.mems, .nils]) (ds := [.int .i64 m.index, .int .i64 m.lterm, ints m.mems, ents c.es]) (n := 1) (off := 3) (v := ents c.es) (K := K) rfl rfl (fun k => by simp [ents, AV.cells, belL, AV.bel, belL_good _ _ (goodL_ents _)]) (by simp) rfl
            simp only [List.append_assoc, List.cons_append, List.nil_append] at this ⊢
            exact this
           rw [show fldA false 1 3 c.av = some (ents c.es) from rfl, Option.bind_some]
           refine (s5 _).trans ?_
           simp -implicitDefEqProofs only [List.append_nil]
           exact rinst_tail hf m ⟨m.index, m.lterm, m.mems, c.es⟩ false (fun h => by cases h) ⟨by show m.mems.length < _; omega, hc0.1, hc0.2⟩ hog P R
         · rw [if_neg htt, show decide (termL s.n.log m.index = m.lterm) = false from decide_eq_false htt]
           simp -implicitDefEqProofs only [ZS, Nat.reduceAdd, Bool.and_false, Bool.false_eq_true, if_false]
           exact rinst_tail hf m ⟨m.index, m.lterm, m.mems, []⟩ true (fun _ => rfl) hg0 hog P R
theorem rinstallK {s : Stp} (h : SGd s) {m : Msg} (wm : m.wf) (hml : m.mems.length < 2^40) (ho : s.out.length < 1000000) {β : Type} {P R : List AObj} {K : Kt β} : callK (EV C) false n_ref19_Run_install [.ptr (P.length + 1) 1 0 0, m.av] (hp P s R) K = K (.tup []) (hp P (snapF s m) R) [] := (rinstall_m h wm hml ho).call0 (by simp [goodL, Msg.avgood wm])
end Go.Pm
namespace Go.Pm
open Go.Proofs
set_option linter.unusedVariables false
set_option linter.unusedSimpArgs false
def tkF (f : Stp) (m : Msg) (p : Int) (e : List Ent) (r : Lg × Int × Int) : Stp :=
 if r.2.2 = 0 then
  if r.2.1 ≤ f.n.commit then f
  else
   let q := p + e.length
   let c := if q < m.commit then q else m.commit
   sendF { f with n := { f.n with log := r.1, commit := if c > f.n.commit then c else f.n.commit }, en := false } m.frm { msg0 4 with ok := true, index := q }
 else f
theorem appB_tk (f : Stp) (m : Msg) (p : Int) (e : List Ent) : appB f m p e = if (e.any fun x => decide (m.term < x.term)) = true then f else tkF f m p e (mergeL f.n.log p e) := by
 unfold appB tkF
 dsimp only
 by_cases h1 : (e.any fun x => decide (m.term < x.term)) = true
 · rw [if_pos h1]
   split
   · split
     · rfl
     · rfl
   · rfl
 · rw [if_neg h1]
   split
   · split
     · rfl
     · rfl
   · rfl
/-- the entries, or none -/
def EvOk (ev : AV) (e : List Ent) : Prop := ev = ents e ∨ (ev = .nils ∧ e = [])
theorem EvOk.len {ev : AV} {e : List Ent} (h : EvOk ev e) (H : List AObj) : lenV ev H = some (.int .i64 (e.length : Int)) := by
 rcases h with rfl | ⟨rfl, rfl⟩
 · exact lenV_ents _ _
 · rfl
theorem EvOk.cons {ev : AV} {e : List Ent} (h : EvOk ev e) (hn : 0 < e.length) : ev = ents e := by
 rcases h with rfl | ⟨rfl, rfl⟩
 · rfl
 · simp at hn
theorem rtake_J19 {f : Stp} (h : SGd f) (m : Msg) (p : Int) (e : List Ent) (ev : AV) (r : Lg × Int × Int) (hv : EvOk ev e) (he : e.length < 2^39) (hp0 : 0 ≤ p) (hp1 : p ≤ most) (ho : f.out.length < 1000000) (P R : List AObj) : ∀ (k i : Nat), i + k = e.length →
  ref19_Run_take_J19 (P.length + 2 + R.length) (.ptr (P.length + 1) 1 0 0) (.ptr (P.length + 2 + R.length) 1 0 0) (.int .i64 p) ev (.ptr (P.length + 2 + (R ++ [mrow m]).length) 1 0 0) (.int .i64 r.2.1) (.int .i64 r.2.2) (.int .i64 (i : Int)) (hp P f (R ++ mrow m :: [.row 4 [r.1.av]])) [] =
    some (.tup [], hp P (if ((e.drop i).any fun x => decide (m.term < x.term)) = true then f else tkF f m p e r) R, [])
 | 0, i, hi => by
  refine ref19_Run_take_J19_of ?_
  have hmo : most = 1152921504606846976 := rfl
  have e1 : IntKind.i64.wrap (p + (e.length : Int)) = p + (e.length : Int) := wrap64 (by omega) (by omega)
  have hl : ∀ f' : Stp, loadA true 4 (.ptr (P.length + 2 + (R ++ [mrow m]).length) 1 0 0) (hp P f' (R ++ mrow m :: [.row 4 [r.1.av]])) = some r.1.av := fun f' => by
    have h4 : (hp P f' (R ++ [mrow m] ++ .row 4 [r.1.av] :: []))[P.length + 2 + (R ++ [mrow m]).length]? = some (.row 4 [r.1.av]) := hp_M P f' (R ++ [mrow m]) [] _
    have := ld_aggp (cs := [.int .i64 r.1.index, .int .i64 r.1.term, ints r.1.mems, ents r.1.es]) (s := 4) (j := 0) h4 (by simp)
    simp only [List.append_assoc, List.cons_append, List.nil_append] at this
    exact this
  simp -implicitDefEqProofs only [ZS, Nat.reduceAdd, hv.len]
  rw [if_neg (by omega), List.drop_eq_nil_of_le (by omega)]
  rw [if_neg (show ¬ (([] : List Ent).any fun x => decide (m.term < x.term)) = true from by simp)]
  unfold tkF
  by_cases hb : r.2.2 = 0
  · rw [if_pos hb, decide_eq_true hb]
    simp -implicitDefEqProofs only [ZS, Nat.reduceAdd]
    by_cases hc : r.2.1 ≤ f.n.commit
    · rw [if_pos hc, if_pos hc]
      exact endB_n1 _ rfl
    · rw [if_neg hc, if_neg hc]
      have sl : ∀ (K : List AObj → List Nat → Option R3) (R' : List AObj), stoK 4 (.ptr (P.length + 1) 1 0 5) r.1.av (hp P f R') K = K (hp P { f with n := { f.n with log := r.1 }, en := false } R') [] := fun K R' => ss_log r.1 false
      rw [hl, Option.bind_some, sl]
      simp -implicitDefEqProofs only [ZS, Nat.reduceAdd, ZK, hv.len, add_int, e1]
      have hw : ∀ c : Int, ({ f with n := { f.n with log := r.1, commit := c }, en := false } : Stp).wf := fun c => ⟨⟨h.w.n.ln, h.w.n.lm⟩, h.w.vn, (fun h => by cases h), h.w.out⟩
      have fin : ∀ c : Int, (if p + (e.length : Int) < m.commit then p + (e.length : Int) else m.commit) = c ∨ True → ∀ d : Int, ((fillB (AV.cells (.agg [(.int .i64 0), (.int .i64 0), (.int .i64 0), (.int .i64 0), (.int .i64 0), (.int .i64 0), (.int .i64 0), (.bool false), .nils, .nils, (.int .i64 0), .nils, (.int .i64 0), .nils, .nils, .nils, .nils])) [(0, 1, (.int .i64 4)), (7, 1, (.bool true)), (4, 1, .int .i64 (p + (e.length : Int)))]).bind fun c37 =>
          callK (EV C) false n_ref19_Run_say [.ptr (P.length + 1) 1 0 0, .int .i64 m.frm, (.agg c37)] (hp P { f with n := { f.n with log := r.1, commit := d }, en := false } (R ++ mrow m :: [.row 4 [r.1.av]])) fun a38 H38 E38 =>
          endB false false (P.length + 2 + R.length) (.tup []) H38 E38) = some (.tup [], hp P (sendF { f with n := { f.n with log := r.1, commit := d }, en := false } m.frm { msg0 4 with ok := true, index := p + (e.length : Int) }) R, []) := fun c _ d => by
        rw [fsay (m := { msg0 4 with ok := true, index := p + (e.length : Int) }) (hw d) (tail0_wf rfl) ho rfl (fun H => rfl) rfl]
        exact endB_n1 _ rfl
      by_cases h1 : p + (e.length : Int) < m.commit
      · rw [if_pos h1, if_pos h1]
        by_cases h2 : f.n.commit < p + (e.length : Int)
        · rw [if_pos h2, if_pos h2]
          exact fin 0 (.inr trivial) _
        · rw [if_neg h2, if_neg h2]
          exact fin 0 (.inr trivial) f.n.commit
      · rw [if_neg h1, if_neg h1]
        by_cases h2 : f.n.commit < m.commit
        · rw [if_pos h2, if_pos h2]
          exact fin 0 (.inr trivial) _
        · rw [if_neg h2, if_neg h2]
          exact fin 0 (.inr trivial) f.n.commit
  · rw [if_neg hb, decide_eq_false hb]
    simp -implicitDefEqProofs only [ZS, Nat.reduceAdd]
    exact endB_n1 _ rfl
 | k + 1, i, hi => by
  refine ref19_Run_take_J19_of ?_
  have hlt : i < e.length := by omega
  have e3 : IntKind.i64.wrap ((i : Int) + 1) = ((i + 1 : Nat) : Int) := w64 (by omega) (by omega)
  simp -implicitDefEqProofs only [ZS, Nat.reduceAdd, hv.len]
  rw [if_pos (by omega), hv.cons (by omega), List.drop_eq_getElem_cons hlt, List.any_cons]
  simp -implicitDefEqProofs only [ZS, Nat.reduceAdd, ZK, ixA_ents (List.getElem?_eq_getElem hlt), offA_ip, List.drop_zero, loadA_ipc]
  by_cases hx : m.term < e[i].term
  · rw [if_pos hx, decide_eq_true hx, Bool.true_or, if_pos rfl]
    exact endB_n1 _ rfl
  · rw [if_neg hx, decide_eq_false hx, Bool.false_or]
    simp -implicitDefEqProofs only [add_int, e3, Option.bind_some]
    have := rtake_J19 h m p e (ents e) r (.inl rfl) he hp0 hp1 ho P R k (i + 1) (by omega)
    exact this
theorem rMergeK {f : Stp} (h : SOk f) {p : Int} {e : List Ent} {ev : AV} (hv : EvOk ev e) (hh : hasL f.n.log p = true) (hge : f.n.log.es.length < 2^39) (he : e.length < 2^39) (hd : lightP e) {β : Type} {H : List AObj} {K : Kt β} :
  callK (EV C) false n_ref18_Merge [f.lav, .int .i64 p, ev] H K = K (mAV' (mergeL f.n.log p e)) H [] := by
 have hm := rMerge_ok f.n.log h.lg hge h.sl p e he hd
 rw [if_pos hh] at hm
 have hk : kills ev = [] := by
  rcases hv with rfl | ⟨rfl, _⟩
  · exact kills_good _ (good_ents e)
  · rfl
 have hz : frz H ev = some (ents e) := by
  rcases hv with rfl | ⟨rfl, rfl⟩
  · exact frz_good _ _ (good_ents e)
  · rfl
 exact callK_nil (bs := [f.n.log.av, .int .i64 p, ents e]) (by simp only [killsL, kills_lav, kills, hk, List.append_nil]) (by simp only [frzL, frz_lav h.w, frz, hz, Option.bind_some, Option.map_some]) (by simp [goodL, AV.good]) hm
/-- what follows once index and entries are found -/
theorem rtake_end {f : Stp} (h : SGd f) (m : Msg) (p : Int) (e : List Ent) (ev : AV) (hv : EvOk ev e) (hh : hasL f.n.log p = true) (hge : f.n.log.es.length < 2^39) (he : e.length < 2^39) (hd : lightP e) (ho : f.out.length < 1000000) (P R : List AObj) :
  (callK (EV C) false n_ref18_Merge [f.lav, .int .i64 p, ev] (hp P f (R ++ [mrow m])) fun a23 H23 E23 =>
   (extA a23 0).bind fun a24 => (extA a23 1).bind fun a25 => (extA a23 2).bind fun a26 =>
   newK (.agg [(.int .i64 0), (.int .i64 0), .nils, .nils]) H23 fun a27 H27 E27 =>
   stoK 4 a27 a24 H27 fun H28 E28 =>
   ref19_Run_take_J19 (P.length + 2 + R.length) (.ptr (P.length + 1) 1 0 0) (.ptr (P.length + 2 + R.length) 1 0 0) (.int .i64 p) ev a27 a25 a26 (.int .i64 0) H28 (E28 ++ (E27 ++ E23))) = some (.tup [], hp P (appB f m p e) R, []) := by
 have hb := hasL_iff.1 hh
 have hs := h.last
 have hls : lastS f = f.n.log.index + f.n.log.es.length := rfl
 rw [rMergeK h.toSOk hv hh hge he hd]
 unfold mAV'
 rw [extA_0, Option.bind_some, extA_1, Option.bind_some, extA_2, Option.bind_some, new_R (by simp) rfl]
 obtain ⟨r, hr⟩ : ∃ r, r = mergeL f.n.log p e := ⟨_, rfl⟩
 rw [← hr]
 have l4 : ∀ (K : List AObj → List Nat → Option R3), stoK 4 (.ptr (P.length + 2 + (R ++ [mrow m]).length) 1 0 0) r.1.av (hp P f (R ++ [mrow m] ++ [.row ([(.int .i64 0), (.int .i64 0), .nils, .nils] : List AV).length [.agg [(.int .i64 0), (.int .i64 0), .nils, .nils]]])) K = K (hp P f (R ++ [mrow m] ++ [.row 4 [r.1.av]])) [] := fun K =>
  sto_R (P := P) (R := R ++ [mrow m]) (X := []) (s := f) (z := 4) (cs := [(.int .i64 0), (.int .i64 0), .nils, .nils]) (n := 4) (off := 0) (v := r.1.av) rfl rfl (fun k => by simp [Lg.av, AV.cells, belL, bel_good _ _ (good_ints _), bel_good _ _ (good_ents _), AV.bel]) (by simp) rfl
 rw [l4]
 simp -implicitDefEqProofs only [List.append_assoc, List.cons_append, List.nil_append, List.append_nil]
 have := rtake_J19 h m p e ev r hv he (by omega) (by omega) ho P R e.length 0 (by omega)
 rw [List.drop_zero] at this
 rw [appB_tk, ← hr]
 exact this
end Go.Pm
namespace Go.Pm
open Go.Proofs
set_option linter.unusedVariables false
set_option linter.unusedSimpArgs false
set_option maxHeartbeats 2000000 in
theorem rtake_m {s : Stp} (h : SGd s) (hr2 : s.n.role ≠ 2) {m : Msg} (wm : m.wf) (hi0 : 0 ≤ m.index) (hi1 : m.index ≤ most) (he : m.es.length < 2^39) (hge : s.n.log.es.length < 2^39) (hd : lightP m.es) (ho : s.out.length < 1000000) : Meth n_ref19_Run_take [m.av] s (.tup []) (appF' s m) := fun P R => by
  refine ref19_Run_take_of ?_
  dsimp only
  have hl := h.last
  have hmo : most = 1152921504606846976 := rfl
  have hf := followF_gd h m.frm
  obtain ⟨f, hff⟩ : ∃ f, f = followF s m.frm := ⟨_, rfl⟩
  have hf : SGd f := by rw [hff]; exact hf
  have hfo : f.out = s.out ∧ f.n.log = s.n.log := by rw [hff]; exact ⟨rfl, rfl⟩
  have hfl : lastS f = lastS s := by unfold lastS; rw [hfo.2]
  have hog : f.out.length < 1000000 := by rw [hfo.1]; exact ho
  rw [new_m wm]
  unfold appF'
  rw [if_neg hr2, ← hff]
  dsimp only
  simp -implicitDefEqProofs only [ZS, Nat.reduceAdd, ZK, rfollowK h.w]
  rw [← hff, hfo.2]
  have e1 : IntKind.i64.wrap (s.n.log.index - m.index) = s.n.log.index - m.index := wrap64 (by omega) (by omega)
  have e2 : IntKind.i64.wrap (m.index - 1) = m.index - 1 := wrap64 (by omega) (by omega)
  have hls : lastS s = s.n.log.index + s.n.log.es.length := rfl
  by_cases h1 : m.index < s.n.log.index
  · rw [if_pos h1, if_pos h1]
    simp -implicitDefEqProofs only [ZS, Nat.reduceAdd, ZK, sub_int, e1, lenV_ents]
    have hh : hasL f.n.log s.n.log.index = true := by rw [hfo.2]; exact has_self
    by_cases h2 : (m.es.length : Int) ≤ s.n.log.index - m.index
    · rw [if_pos h2]
      have hz : m.es.drop (if (m.es.length : Int) < s.n.log.index - m.index then (m.es.length : Int) else s.n.log.index - m.index).toNat = [] := List.drop_eq_nil_of_le (by split <;> omega)
      rw [hz]
      exact rtake_end hf m s.n.log.index [] .nils (.inr ⟨rfl, rfl⟩) hh (by rw [hfo.2]; exact hge) (by simp) (fun x hx => by cases hx) hog P R
    · rw [if_neg h2, if_neg (show ¬ (m.es.length : Int) < s.n.log.index - m.index by omega)]
      have hcut : ∀ H, cutA 3 (ents m.es) (some (.int .i64 (s.n.log.index - m.index))) none none H = some (ents (m.es.drop (s.n.log.index - m.index).toNat)) := fun H => by
        have hb : boundA (some (AV.int .i64 (s.n.log.index - m.index))) 0 = some (((s.n.log.index - m.index).toNat : Nat) : Int) := by
          show some (s.n.log.index - m.index) = _
          congr 1; omega
        rw [cutA_ents (i := (s.n.log.index - m.index).toNat) (j := m.es.length) hb rfl (by omega) (Nat.le_refl _), List.take_length]
      rw [hcut, Option.bind_some]
      exact rtake_end hf m s.n.log.index (m.es.drop (s.n.log.index - m.index).toNat) _ (.inl rfl) hh (by rw [hfo.2]; exact hge) (by rw [List.length_drop]; omega) (fun x hx => hd x (List.mem_of_mem_drop hx)) hog P R
  · rw [if_neg h1, if_neg h1]
    simp -implicitDefEqProofs only [ZS, Nat.reduceAdd, ZK, rlastK hf.toSOk]
    have fin : ∀ v, v = (if 0 > (if lastS f < m.index - 1 then lastS f else m.index - 1) then 0 else (if lastS f < m.index - 1 then lastS f else m.index - 1)) → ((fillB (AV.cells (.agg [(.int .i64 0), (.int .i64 0), (.int .i64 0), (.int .i64 0), (.int .i64 0), (.int .i64 0), (.int .i64 0), (.bool false), .nils, .nils, (.int .i64 0), .nils, (.int .i64 0), .nils, .nils, .nils, .nils])) [(0, 1, (.int .i64 4)), (4, 1, .int .i64 v)]).bind fun c37 =>
            callK (EV C) false n_ref19_Run_say [.ptr (P.length + 1) 1 0 0, .int .i64 m.frm, (.agg c37)] (hp P f (R ++ [mrow m])) fun a38 H38 E38 =>
            endB false false (P.length + 2 + R.length) (.tup []) H38 E38) = some (.tup [], hp P (replyF f m) R, []) := fun v hv => by
      unfold replyF
      dsimp only
      rw [← hv, fsay (m := { msg0 4 with index := v }) hf.w (tail0_wf rfl) hog rfl (fun H => rfl) rfl]
      exact endB_n1 _ rfl
    by_cases h2 : lastS f < m.index
    · rw [if_pos h2]
      rw [if_neg (show ¬ hasL s.n.log m.index = true by rw [hasL_iff]; rw [hfl] at h2; omega)]
      simp -implicitDefEqProofs only [ZS, Nat.reduceAdd, ZK, sub_int, e2, rlastK hf.toSOk]
      by_cases h3 : lastS f < m.index - 1
      · rw [if_pos h3]
        rw [if_pos h3] at fin
        by_cases h4 : lastS f < 0
        · rw [if_pos h4]; exact fin _ (by rw [if_pos h4])
        · rw [if_neg h4]; exact fin _ (by rw [if_neg h4])
      · rw [if_neg h3]
        rw [if_neg h3] at fin
        by_cases h4 : m.index - 1 < 0
        · rw [if_pos h4]; exact fin _ (by rw [if_pos h4])
        · rw [if_neg h4]; exact fin _ (by rw [if_neg h4])
    · rw [if_neg h2]
      have hh : hasL s.n.log m.index = true := hasL_iff.2 ⟨by omega, by rw [hfl] at h2; omega⟩
      have hhf : hasL f.n.log m.index = true := by rw [hfo.2]; exact hh
      rw [if_pos hh]
      simp -implicitDefEqProofs only [ZS, Nat.reduceAdd, ZK, rTermD hf.toSOk m.index hhf]
      rw [hfo.2]
      by_cases h5 : termL s.n.log m.index = m.lterm
      · rw [decide_eq_true h5, if_pos h5]
        simp -implicitDefEqProofs only [ZS, Nat.reduceAdd]
        exact rtake_end hf m m.index m.es _ (.inl rfl) hhf (by rw [hfo.2]; exact hge) he hd hog P R
      · rw [decide_eq_false h5, if_neg h5]
        simp -implicitDefEqProofs only [ZS, Nat.reduceAdd, ZK, sub_int, e2, rlastK hf.toSOk]
        by_cases h3 : lastS f < m.index - 1
        · rw [if_pos h3]
          rw [if_pos h3] at fin
          by_cases h4 : lastS f < 0
          · rw [if_pos h4]; exact fin _ (by rw [if_pos h4])
          · rw [if_neg h4]; exact fin _ (by rw [if_neg h4])
        · rw [if_neg h3]
          rw [if_neg h3] at fin
          by_cases h4 : m.index - 1 < 0
          · rw [if_pos h4]; exact fin _ (by rw [if_pos h4])
          · rw [if_neg h4]; exact fin _ (by rw [if_neg h4])
theorem rtakeK {s : Stp} (h : SGd s) (hr2 : s.n.role ≠ 2) {m : Msg} (wm : m.wf) (hi0 : 0 ≤ m.index) (hi1 : m.index ≤ most) (he : m.es.length < 2^39) (hge : s.n.log.es.length < 2^39) (hd : lightP m.es) (ho : s.out.length < 1000000) {β : Type} {P R : List AObj} {K : Kt β} : callK (EV C) false n_ref19_Run_take [.ptr (P.length + 1) 1 0 0, m.av] (hp P s R) K = K (.tup []) (hp P (appF' s m) R) [] := (rtake_m h hr2 wm hi0 hi1 he hge hd ho).call0 (by simp [goodL, Msg.avgood wm])
end Go.Pm
namespace Go.Pm
open Go.Proofs
set_option linter.unusedVariables false
set_option linter.unusedSimpArgs false
theorem has17V {s : Stp} (w : s.wf) (x : Int) (hv : s.n.votes.length ≤ 2^60) {H : List AObj} : callD (EV C) n_ref17_Has [s.vav, .int .i64 x] H = some (.bool (hasF s.n.votes x)) :=
 callD_nil (by simp only [killsL, kills, kills_vav, List.append_nil]) (by simp only [frzL, frz_vav w, frz, Option.bind_some, Option.map_some]) (by simp [goodL, AV.good]) (has17_ok s.n.votes x hv)
theorem elems_vav {s : Stp} (w : s.wf) (H : List AObj) : elemsA s.vav H = some (s.n.votes.map i64) := by
 unfold Stp.vav
 cases he : s.vn with
 | true => rw [w.vn he]; rfl
 | false => rfl
/-- asked for a vote -/
theorem rask_yes {t : Stp} (ht : SGd t) (m : Msg) (ho : t.out.length < 1000000) (hk : askedOk t.n m = true) (P R : List AObj) :
  (stoK 1 (.ptr (P.length + 1) 1 0 27) (.int .i64 0) (hp P { t with n := { t.n with voted := m.frm } } (R ++ [mrow m])) fun H104 E104 =>
   (loadA false 1 (.ptr (P.length + 2 + R.length) 1 0 1) H104).bind fun a106 =>
   (fillB (AV.cells (.agg [(.int .i64 0), (.int .i64 0), (.int .i64 0), (.int .i64 0), (.int .i64 0), (.int .i64 0), (.int .i64 0), (.bool false), .nils, .nils, (.int .i64 0), .nils, (.int .i64 0), .nils, .nils, .nils, .nils])) [(0, 1, (.int .i64 2)), (7, 1, (.bool true))]).bind fun c =>
   callK (EV C) false n_ref19_Run_say [.ptr (P.length + 1) 1 0 0, a106, .agg c] H104 fun a108 H108 E108 => endB false false (P.length + 2 + R.length) (.tup []) H108 (E108 ++ E104)) = some (.tup [], hp P (askF t m) R, []) := by
 have wq : ({ t with n := { t.n with voted := m.frm } } : Stp).n.wf := ⟨ht.w.n.ln, ht.w.n.lm⟩
 have wq2 : ({ t with n := { t.n with voted := m.frm, ticks := 0 } } : Stp).wf := ⟨⟨ht.w.n.ln, ht.w.n.lm⟩, ht.w.vn, ht.w.en, ht.w.out⟩
 unfold askF
 rw [hk]
 rw [ss_ticks wq]
 simp -implicitDefEqProofs only [ZS, Nat.reduceAdd, ZK, if_true]
 rw [fsay (m := { msg0 2 with ok := true }) wq2 (tail0_wf rfl) ho rfl (fun H => rfl) rfl]
 exact endB_n1 _ rfl
theorem rask_no {t : Stp} (ht : SGd t) (m : Msg) (ho : t.out.length < 1000000) (hk : askedOk t.n m = false) (P R : List AObj) :
  ((fillB (AV.cells (.agg [(.int .i64 0), (.int .i64 0), (.int .i64 0), (.int .i64 0), (.int .i64 0), (.int .i64 0), (.int .i64 0), (.bool false), .nils, .nils, (.int .i64 0), .nils, (.int .i64 0), .nils, .nils, .nils, .nils])) [(0, 1, (.int .i64 2)), (7, 1, (.bool false))]).bind fun c =>
   callK (EV C) false n_ref19_Run_say [.ptr (P.length + 1) 1 0 0, .int .i64 m.frm, .agg c] (hp P t (R ++ [mrow m])) fun a108 H108 E108 => endB false false (P.length + 2 + R.length) (.tup []) H108 E108) = some (.tup [], hp P (askF t m) R, []) := by
 unfold askF
 rw [hk]
 rw [fsay (m := { msg0 2 with ok := false }) ht.w (tail0_wf rfl) ho rfl (fun H => rfl) rfl]
 exact endB_n1 _ rfl
end Go.Pm
namespace Go.Pm
open Go.Proofs
set_option linter.unusedVariables false
set_option linter.unusedSimpArgs false
theorem sto_nd {n : Nde} (w : n.wf) {H : List AObj} {l : Nat} {cs : List AV} (hl : cs.length = 29) (h : H[l]? = some (.row 29 [.agg cs])) {β : Type} {K : List AObj → List Nat → Option β} : stoK 29 (.ptr l 1 0 0) n.av H K = K (H.set l n.row) [] := by
 rw [sto_row (n := 29) (v := n.av) h (Nde.len w) (Nde.one n) (belL_good _ _ (by have := Nde.good n; simpa [Nde.av, AV.good, AV.cells] using this)) (by omega)]
 have e : cs.take 0 ++ n.av.cells ++ cs.drop (0 + 29) = n.cs := by
  rw [List.take_zero, List.nil_append, List.drop_of_length_le (by omega), List.append_nil]; rfl
 rw [e]; rfl
theorem light_in {n : Nde} {x : Inp} (w : n.wf) (wm : x.msg.wf) (h : light19 n x = true) : StepIn n x := by
 simp only [light19, Bool.and_eq_true, decide_eq_true_eq] at h
 obtain ⟨h1, h2, h3, h4, h5, h6⟩ := h
 have g1 := light_ok h1
 have g2 := light_ok h2
 have e1 := g1.2.1
 have e2 : x.msg.es.length ≤ 200 := g2.2.1
 exact ⟨w, wm, g1.1, by omega, by omega, by omega, g2.1.d, by omega, by omega, by omega⟩
theorem Stp.all_ok {n0 : Nde} {k : Nat} {s : Stp} (h : StI n0 k s) : NdeOk s.n := by
 have h1 := h.gd.lg.e; have h2 := h.gd.lg.m; have h3 := h.vl
 exact ⟨h.gd.w.n, h2, by omega, by omega⟩
end Go.Pm
namespace Go.Pm
open Go.Proofs
set_option linter.unusedVariables false
set_option linter.unusedSimpArgs false
variable {B : Nat} {f : Nat} {cs : List AV}
theorem ty_tree (h : tyC Tryz.prog B f 34 cs) : goodL cs = true ∧ cs.all AV.one = true ∧ ∃ b l, cs = .int .i64 b :: l := by
 have hg := ty_good f 34 cs h
 refine ⟨hg.1, hg.2.1, ?_⟩
 obtain ⟨f', css, rfl, h2⟩ := ty_struct Tryz.underlying34 h
 obtain ⟨c1, rest, rfl, ⟨k1, _⟩, h2⟩ := forall2_1 h2
 obtain ⟨b, rfl⟩ := ty_i64 k1
 exact ⟨b, rest.flatten, rfl⟩
structure MsgB (B : Nat) (m : Msg) : Prop where
 w : m.wf
 ms : m.mems.length * 8 ≤ B
 e : m.es.length * 40 ≤ B
 d : ∀ e ∈ m.es, e.data.length ≤ B
theorem ty_msg (h : tyC Tryz.prog B f 36 cs) : ∃ m : Msg, cs = m.cs ∧ MsgB B m := by
 obtain ⟨f', css, rfl, h2⟩ := ty_struct Tryz.underlying36 h
 obtain ⟨c1, _, rfl, ⟨k1, _⟩, h2⟩ := forall2_1 h2
 obtain ⟨c2, _, rfl, ⟨k2, _⟩, h2⟩ := forall2_1 h2
 obtain ⟨c3, _, rfl, ⟨k3, _⟩, h2⟩ := forall2_1 h2
 obtain ⟨c4, _, rfl, ⟨k4, _⟩, h2⟩ := forall2_1 h2
 obtain ⟨c5, _, rfl, ⟨k5, _⟩, h2⟩ := forall2_1 h2
 obtain ⟨c6, _, rfl, ⟨k6, _⟩, h2⟩ := forall2_1 h2
 obtain ⟨c7, _, rfl, ⟨k7, _⟩, h2⟩ := forall2_1 h2
 obtain ⟨c8, _, rfl, ⟨k8, _⟩, h2⟩ := forall2_1 h2
 obtain ⟨c9, _, rfl, ⟨k9, _⟩, h2⟩ := forall2_1 h2
 obtain ⟨c10, _, rfl, ⟨k10, _⟩, h2⟩ := forall2_1 h2
 obtain ⟨c11, _, rfl, ⟨k11, _⟩, h2⟩ := forall2_1 h2
 obtain ⟨c12, _, rfl, ⟨k12, _⟩, h2⟩ := forall2_1 h2
 obtain ⟨c13, _, rfl, ⟨k13, k13l⟩, h2⟩ := forall2_1 h2
 obtain rfl := forall2_0 h2
 obtain ⟨n1, rfl⟩ := ty_i64 k1
 obtain ⟨n2, rfl⟩ := ty_i64 k2
 obtain ⟨n3, rfl⟩ := ty_i64 k3
 obtain ⟨n4, rfl⟩ := ty_i64 k4
 obtain ⟨n5, rfl⟩ := ty_i64 k5
 obtain ⟨n6, rfl⟩ := ty_i64 k6
 obtain ⟨n7, rfl⟩ := ty_i64 k7
 obtain ⟨n8, rfl⟩ := ty_bool k8
 obtain ⟨es, rfl, he1, he2⟩ := ty_ents k9
 obtain ⟨ms, rfl, hm⟩ := ty_ints k10
 obtain ⟨n11, rfl⟩ := ty_i64 k11
 obtain ⟨rt, rfl, _⟩ := ty_bytes k12
 obtain ⟨g1, g2, b, l, rfl⟩ := ty_tree k13
 have hl : (AV.int .i64 b :: l).length = 5 := k13l.trans (by kernel_rfl)
 refine ⟨⟨n1, n2, n3, n4, n5, n6, n7, n8, es, ms, .int .i64 n11 :: bys rt :: .int .i64 b :: l⟩, ?_, ⟨⟨?_, ?_, ?_, ⟨n11, rt.map u8, b, l, rfl⟩⟩, hm, he1, he2⟩⟩
 · simp [Msg.cs]
 · have hl' : l.length = 4 := by simpa using hl
   simp [hl']
 · show goodL ([.int .i64 n11, bys rt] ++ (.int .i64 b :: l)) = true
   rw [goodL_append, g1]; simp [goodL, AV.good]
 · show ([.int .i64 n11, bys rt] ++ (.int .i64 b :: l)).all AV.one = true
   rw [List.all_append, g2]; simp [AV.one, bys]
structure InpB (B : Nat) (x : Inp) : Prop where
 m : MsgB B x.msg
 d : x.data.length ≤ B
 s : x.mems.length * 8 ≤ B
theorem ty_inp {a : AV} (e : a = mkE (agT Tryz.prog 38) cs) (h : tyC Tryz.prog B f 38 cs) : ∃ x : Inp, a = x.av ∧ InpB B x := by
 obtain ⟨f', css, rfl, h2⟩ := ty_struct Tryz.underlying38 h
 obtain ⟨c1, _, rfl, ⟨k1, _⟩, h2⟩ := forall2_1 h2
 obtain ⟨c2, _, rfl, ⟨k2, _⟩, h2⟩ := forall2_1 h2
 obtain ⟨c3, _, rfl, ⟨k3, _⟩, h2⟩ := forall2_1 h2
 obtain ⟨c4, _, rfl, ⟨k4, _⟩, h2⟩ := forall2_1 h2
 obtain ⟨c5, _, rfl, ⟨k5, _⟩, h2⟩ := forall2_1 h2
 obtain ⟨c6, _, rfl, ⟨k6, _⟩, h2⟩ := forall2_1 h2
 obtain rfl := forall2_0 h2
 obtain ⟨n1, rfl⟩ := ty_i64 k1
 obtain ⟨n2, rfl⟩ := ty_i64 k2
 obtain ⟨n3, rfl⟩ := ty_i64 k3
 obtain ⟨m, rfl, hm⟩ := ty_msg k4
 obtain ⟨d, rfl, hd⟩ := ty_bytes k5
 obtain ⟨ms, rfl, hs⟩ := ty_ints k6
 have ha : agT Tryz.prog 38 = true := by kernel_rfl
 rw [ha] at e
 refine ⟨⟨n1, n2, n3, m, d, ms⟩, ?_, ⟨hm, hd, hs⟩⟩
 rw [e]
 unfold Inp.av Inp.cs
 simp [mkE]
end Go.Pm
