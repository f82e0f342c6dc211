/- A part of the proof: what the functions of the program answer, as plain lists and numbers. -/
import Derived.Test.YtndkpoacbheemaaGreatP30
import Derived.Test.YtndkpoacbheemaaGreatP31
namespace Go.Pm
open Go.Proofs
set_option linter.unusedVariables false
set_option linter.unusedSimpArgs false
def inps (l : List Inp) : AV := .lst (l.map Inp.av)
theorem lenV_inps (l : List Inp) (H : List AObj) : lenV (inps l) H = some (.int .i64 (l.length : Int)) := by simp [inps]
theorem ixA_inps {l : List Inp} {i : Nat} (h : i < l.length) (w : l[i].msg.wf) (H : List AObj) : ixA 22 (inps l) (.int .i64 (i : Int)) H = some (.ip l[i].cs) := by
 unfold inps
 exact ixA_lst (e := l[i].av) (by omega) (by simp [h]) (Inp.cslen w)
theorem ld_ipx {x : Inp} (w : x.msg.wf) (H : List AObj) : loadA true 22 (.ip x.cs) H = some x.av := by
 show ldv true 22 x.cs = _
 unfold ldv
 rw [if_pos rfl, if_pos (by rw [Inp.cslen w]; decide), List.take_of_length_le (by rw [Inp.cslen w]; decide)]
 rfl
theorem good_inps {l : List Inp} (h : ∀ x ∈ l, x.msg.wf) : (inps l).good = true := goodL_all.2 fun v hv => by
 obtain ⟨x, hx, rfl⟩ := List.mem_map.1 hv
 exact Inp.good (h x hx)
theorem frzK_nav {s : Stp} (ws : s.wf) {β : Type} {H : List AObj} {K : AV → List AObj → Option β} : frzK s.nav H K = K s.n.av H := by
 unfold frzK
 rw [frz_nav ws, kills_nav ws]; rfl
set_option maxHeartbeats 4000000 in
theorem plays_J7 (l : Lg) (xs : List Inp) (hxs : ∀ x ∈ xs, x.msg.wf) (hl : xs.length < 2^60) : ∀ (k i : Nat) (A : Nde) (E : List Nat), i + k = xs.length → A.wf → soundN A = true →
  law19_RaftPlays_J7 0 (inps xs) (.bool true) (.ptr 1 1 0 0) (.ptr 2 1 0 0) (.int .i64 (i : Int)) [.row 4 [l.av], A.row, A.row] E = some (.bool true, [], [])
 | 0, i, A, E, hi, w, hs => by
  refine law19_RaftPlays_J7_of ?_
  simp -implicitDefEqProofs only [lenV_inps, lss_int, Option.bind_some, splitK_dec]
  rw [if_neg (by omega)]
  exact endB_good rfl
 | k + 1, i, A, E, hi, w, hs => by
  refine law19_RaftPlays_J7_of ?_
  have hlt : i < xs.length := by omega
  have wm := hxs _ (List.getElem_mem hlt)
  have e3 : IntKind.i64.wrap ((i : Int) + 1) = ((i + 1 : Nat) : Int) := w64 (by omega) (by omega)
  simp -implicitDefEqProofs only [lenV_inps, lss_int, Option.bind_some, splitK_dec]
  rw [if_pos (by omega)]
  by_cases h30 : (i : Int) < 30
  · rw [decide_eq_true h30, condK_t]
    have la : ∀ H, loadA true 22 (.ip xs[i].cs) H = some xs[i].av := fun H => ld_ipx wm H
    have gi : goodL [A.av, xs[i].av] = true := by simp [goodL, Nde.good, Inp.good wm]
    rw [ld_node (l := 1) w rfl, Option.bind_some, ixA_inps hlt wm, Option.bind_some, la, Option.bind_some, callD_ok gi (light19_ok w wm), Option.bind_some, not_bool, Option.bind_some]
    cases hli : light19 A xs[i] with
    | false =>
     rw [Bool.not_false, condK_t]
     exact endB_good rfl
    | true =>
     have hin := light_in w wm hli
     have hst := Step_ok A xs[i] hin
     unfold stepA at hst
     rw [hs, if_pos rfl] at hst
     have hI := step_I hin hs
     have hso := hI.sound
     have hsp := rstep19_ok A xs[i] hin hs
     obtain ⟨s, hsd⟩ : ∃ s, s = stepF A xs[i] := ⟨_, rfl⟩
     rw [← hsd] at hI hst hsp hso
     have ws := hI.gd.w
     have wA := ws.n
     have ol := hI.ol
     have hms : ∀ m ∈ s.out, MsgOk m := fun m hm => ⟨ws.out m hm, by have := (hI.out m hm).2.2.2.1; omega, by have := (hI.out m hm).2.2.2.2; omega⟩
     rw [Bool.not_true, condK_f, Option.bind_some, Option.bind_some, la, Option.bind_some, callD_ok gi hst, Option.bind_some]
     rw [show extA s.res 0 = some s.n.av from rfl, Option.bind_some, show extA s.res 1 = some (msgs s.out) from rfl, Option.bind_some, show extA s.res 2 = some (.int .i64 s.num) from rfl, Option.bind_some, show extA s.res 3 = some .nili from rfl, Option.bind_some, new_agg0 (by simp) rfl]
     simp -implicitDefEqProofs only [List.length_cons, List.length_nil, Nat.reduceAdd, Nat.zero_add, List.cons_append, List.nil_append]
     rw [drawK_t (by rw [ld_node (l := 1) w rfl]; rfl), drawK_t (by rw [ixA_inps hlt wm]; rfl), drawK_t (by rw [la]; rfl), drawK_t (by rw [callD_ok gi hst]; rfl)]
     refine Eq.trans (sto_nd wA (l := 3) (H := [.row 4 [l.av], A.row, A.row, .row 29 [zN]]) (cs := zN.cells) rfl rfl) ?_
     simp -implicitDefEqProofs only [List.set_cons_succ, List.set_cons_zero]
     rw [ld_node (l := 2) w rfl, Option.bind_some, ixA_inps hlt wm, Option.bind_some, la, Option.bind_some, callK_raw (hsp _)]
     dsimp only
     obtain ⟨P, hP⟩ : ∃ P, P = [.row 4 [l.av], A.row, A.row, s.n.row] ++ [A.row, xs[i].row] := ⟨_, rfl⟩
     have hPl : P.length = 6 := by rw [hP]; rfl
     rw [← hP, show ([.row 4 [l.av], A.row, A.row, s.n.row] : List AObj).length + 3 = P.length + 1 from by rw [hPl]; rfl]
     have p3 : P[3]? = some s.n.row := by rw [hP]; rfl
     have p1 : P[1]? = some A.row := by rw [hP]; rfl
     rw [neq_nn, Option.bind_some, splitK_f]
     simp -implicitDefEqProofs only [nilA_ptr, offA_ptr, Option.bind_some, Nat.zero_add, ls_num wA, ls_out wA, neq_int, decide_true, Bool.not_true, splitK_f, ld_nav wA, ld_node wA (hp_at p3), sameD (A := A) ws (Stp.all_ok hI), sameMD ws (by omega) hms, not_bool, condK_f]
     have h1 : (hp P s [])[1]? = some (.row 29 [.agg A.cs]) := hp_at p1
     rw [sto_nd wA (l := 1) (Nde.len w) h1]
     have hset : (hp P s []).set 1 s.n.row = hp ([.row 4 [l.av], s.n.row, A.row, s.n.row] ++ [A.row, xs[i].row]) s [] := by rw [hP]; rfl
     rw [hset]
     obtain ⟨Q, hQ⟩ : ∃ Q, Q = [.row 4 [l.av], s.n.row, A.row, s.n.row] ++ [A.row, xs[i].row] := ⟨_, rfl⟩
     have hQl : Q.length = 6 := by rw [hQ]; rfl
     have q2 : Q[2]? = some A.row := by rw [hQ]; rfl
     rw [← hQ, show P.length + 1 = Q.length + 1 from by omega, ld_nav wA, Option.bind_some, frzK_nav ws]
     have h2 : (hp Q s [])[2]? = some (.row 29 [.agg A.cs]) := hp_at q2
     rw [sto_nd wA (l := 2) (Nde.len w) h2]
     have htk : List.take 3 ((hp Q s []).set 2 s.n.row) = [.row 4 [l.av], s.n.row, s.n.row] := by rw [hQ]; rfl
     rw [add_int, Option.bind_some, e3]
     rw [condB_t (by simp [AV.bel, bel_good _ _ (good_inps hxs)])]
     show law19_RaftPlays_J7 0 (inps xs) (.bool true) (.ptr 1 1 0 0) (.ptr 2 1 0 0) (.int .i64 ((i + 1 : Nat) : Int)) (List.take 3 ((hp Q s []).set 2 s.n.row)) E = _
     rw [htk]
     exact plays_J7 l xs hxs hl k (i + 1) s.n E (by omega) wA hso
  · rw [decide_eq_false h30, condK_f]
    exact endB_good rfl
set_option maxHeartbeats 1000000 in
theorem RaftPlays_law (id : Int) (l : Lg) (xs : List Inp) (hg : LgOk l) (hxs : ∀ x ∈ xs, x.msg.wf) (hl : xs.length < 2^60) : EV C n_law19_RaftPlays [.int .i64 id, l.av, inps xs] [] = some (.bool true, [], []) := by
 refine law19_RaftPlays_of ?_
 dsimp only
 rw [new_lg0]
 simp -implicitDefEqProofs only [List.length_nil, List.nil_append]
 rw [callK_ok rfl up_ok]
 have la : ∀ X : List AObj, loadA true 4 (.ptr 0 1 0 0) (.row 4 [l.av] :: X) = some l.av := fun X => rfl
 have hN := New_ok id 1099511627776 0 l 3 hg
 have w := newN_wf id 1099511627776 0 l 3
 rw [la, Option.bind_some, callK_ok (by simp [goodL, AV.good]) hN]
 unfold newA'
 cases hs : soundN (newN id 1099511627776 0 l 3) with
 | false =>
  rw [if_neg (by decide), extA_0, Option.bind_some, extA_1, Option.bind_some, new_agg0 (by simp) rfl]
  simp -implicitDefEqProofs only [List.length_cons, List.length_nil, Nat.reduceAdd, Nat.zero_add, List.cons_append, List.nil_append]
  refine Eq.trans (sto_nd (n := noNde) ⟨rfl, rfl⟩ (l := 1) (H := [.row 4 [l.av], .row 29 [zN]]) (cs := zN.cells) rfl rfl) ?_
  rw [show binA .neq (Go.TypeDesc.interface #[("Error", 121)]) (cmpT Tryz.prog) true (codeA 3) .nili = some (.bool true) from rfl, Option.bind_some, splitK_t]
  exact endB_good rfl
 | true =>
  rw [if_pos rfl, extA_0, Option.bind_some, extA_1, Option.bind_some, new_agg0 (by simp) rfl]
  simp -implicitDefEqProofs only [List.length_cons, List.length_nil, Nat.reduceAdd, Nat.zero_add, List.cons_append, List.nil_append]
  refine Eq.trans (sto_nd w (l := 1) (H := [.row 4 [l.av], .row 29 [zN]]) (cs := zN.cells) rfl rfl) ?_
  simp -implicitDefEqProofs only [List.set_cons_succ, List.set_cons_zero]
  rw [neq_nn, Option.bind_some, splitK_f, la, Option.bind_some, callK_ok (show goodL [l.av] = true from by simp [goodL]) (Light_ok l), not_bool, Option.bind_some]
  cases hli : lightL l with
  | false =>
   rw [Bool.not_false, condK_t]
   exact endB_good rfl
  | true =>
   rw [Bool.not_true, condK_f, ld_node (l := 1) w rfl, Option.bind_some, new_agg0 (by simp) rfl]
   simp -implicitDefEqProofs only [List.length_cons, List.length_nil, Nat.reduceAdd, Nat.zero_add, List.cons_append, List.nil_append]
   refine Eq.trans (sto_nd w (l := 2) (H := [.row 4 [l.av], (newN id 1099511627776 0 l 3).row, .row 29 [zN]]) (cs := zN.cells) rfl rfl) ?_
   exact plays_J7 l xs hxs hl xs.length 0 (newN id 1099511627776 0 l 3) _ (by omega) w hs
variable {B : Nat} {f : Nat} {cs : List AV}
theorem ty_inpc (h : tyC Tryz.prog B f 38 cs) : ∃ x : Inp, cs = x.cs ∧ InpB B x := by
 have ha : agT Tryz.prog 38 = true := by kernel_rfl
 obtain ⟨x, hx, hb⟩ := ty_inp (a := mkE (agT Tryz.prog 38) cs) rfl h
 refine ⟨x, ?_, hb⟩
 rw [ha] at hx
 simpa [mkE, Inp.av] using hx
theorem ty_inps {a : AV} (e : a = mkE (agT Tryz.prog 55) cs) (h : tyC Tryz.prog B f 55 cs) : ∃ l : List Inp, a = inps l ∧ l.length ≤ B ∧ ∀ x ∈ l, InpB B x := by
 cases f with
 | zero => simp [tyC] at h
 | succ f =>
  simp only [tyC, Tryz.underlying55] at h
  obtain ⟨ess, rfl, h1, h2⟩ := h
  have : ∀ (ess : List (List AV)), (∀ c ∈ ess, tyC Tryz.prog B f 38 c) → ∃ l : List Inp, ess.map (mkE (agT Tryz.prog 38)) = l.map Inp.av ∧ l.length = ess.length ∧ ∀ e ∈ l, InpB B e := by
    intro ess
    induction ess with
    | nil => intro _; exact ⟨[], rfl, rfl, fun e he => by cases he⟩
    | cons c ess ih =>
     intro h
     obtain ⟨e, rfl, he⟩ := ty_inpc (h c (by simp))
     obtain ⟨l, h1, h2, h3⟩ := ih fun x hx => h x (List.mem_cons_of_mem _ hx)
     refine ⟨e :: l, ?_, by simp [h2], fun x hx => ?_⟩
     · have ha : agT Tryz.prog 38 = true := by kernel_rfl
       rw [ha] at h1
       simp only [List.map_cons, ha, h1]; rfl
     · rcases List.mem_cons.1 hx with rfl | hx
       · exact he
       · exact h3 x hx
  obtain ⟨l, h4, h5, h6⟩ := this ess fun c hc => (h2 c hc).1
  have hb : decide (0 < Tryz.prog.bytesOf 38) = true := by kernel_rfl
  have hb := of_decide_eq_true hb
  have ha : agT Tryz.prog 55 = false := by kernel_rfl
  rw [ha] at e
  refine ⟨l, ?_, ?_, h6⟩
  · rw [e]; show mkE false [AV.lst _] = _; rw [h4]; rfl
  · rw [h5]; exact Nat.le_trans (Nat.le_mul_of_pos_right _ hb) h1
theorem raftPlays_law {a0 a1 a2 : AV} {u0 u1 u2 : Nat} {l0 l1 l2 : List AV} (e0 : a0 = mkE (agT Tryz.prog 3) l0) (y0 : tyC Tryz.prog (4096 * 1048576) u0 3 l0) (e1 : a1 = mkE (agT Tryz.prog 27) l1) (y1 : tyC Tryz.prog (4096 * 1048576) u1 27 l1) (e2 : a2 = mkE (agT Tryz.prog 55) l2) (y2 : tyC Tryz.prog (4096 * 1048576) u2 55 l2) :
  EV C n_law19_RaftPlays [a0, a1, a2] [] = some (.bool true, [], []) := by
 obtain ⟨n, rfl⟩ := ty_n e0 y0
 obtain ⟨g, rfl, hn⟩ := ty_lg e1 y1
 obtain ⟨xs, rfl, hx, hb⟩ := ty_inps e2 y2
 have h1 := hn.m; have h2 := hn.e
 have hx' : xs.length < 2^60 := Nat.lt_of_le_of_lt hx (of_decide_eq_true (by kernel_rfl))
 exact RaftPlays_law n g xs ⟨by omega, by omega, fun e he => by have := hn.d e he; omega⟩ (fun x hx => (hb x hx).m.w) hx'
end Go.Pm
