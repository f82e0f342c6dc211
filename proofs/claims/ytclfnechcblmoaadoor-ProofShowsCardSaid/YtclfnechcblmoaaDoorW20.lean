/- Keys and spans; package scan (In, Point, Empty). -/
import Derived.Test.YtclfnechcblmoaaDoorW19
namespace Go.Pm
open Go.Proofs
set_option linter.unusedVariables false
set_option linter.unusedSimpArgs false
/-! ### the order of keys -/
abbrev Bs := List UInt8
def ltB (a b : Bs) : Bool := Op.bytesLess a b
theorem ltB_nil (b : Bs) : ltB [] b = !b.isEmpty := by cases b <;> rfl
theorem ltB_cons_nil (a : UInt8) (x : Bs) : ltB (a :: x) [] = false := rfl
theorem ltB_cons (a b : UInt8) (x y : Bs) : ltB (a :: x) (b :: y) = (decide (a < b) || (decide (a = b) && ltB x y)) := by
  show (decide (a < b) || (a == b && Op.bytesLess x y)) = _
  congr 1
theorem ltB_irrefl : ∀ a, ltB a a = false
  | [] => rfl
  | a :: x => by simp [ltB_cons, ltB_irrefl x]
theorem ltB_trans : ∀ {a b c : Bs}, ltB a b = true → ltB b c = true → ltB a c = true
  | [], b, [], h1, h2 => by cases b <;> simp [ltB_nil, ltB_cons_nil] at h1 h2
  | [], _, _ :: _, _, _ => rfl
  | _ :: _, [], _, h1, _ => by simp [ltB_cons_nil] at h1
  | _ :: _, _ :: _, [], _, h2 => by simp [ltB_cons_nil] at h2
  | a :: x, b :: y, c :: z, h1, h2 => by
    simp only [ltB_cons, Bool.or_eq_true, decide_eq_true_eq, Bool.and_eq_true] at h1 h2 ⊢
    rcases h1 with h1 | ⟨rfl, h1⟩
    · rcases h2 with h2 | ⟨rfl, h2⟩
      · exact .inl (UInt8.lt_trans h1 h2)
      · exact .inl h1
    · rcases h2 with h2 | ⟨rfl, h2⟩
      · exact .inl h2
      · exact .inr ⟨rfl, ltB_trans h1 h2⟩
theorem ltB_tri : ∀ {a b : Bs}, ltB a b = false → ltB b a = false → a = b
  | [], [], _, _ => rfl
  | [], _ :: _, h, _ => by simp [ltB_nil] at h
  | _ :: _, [], _, h => by simp [ltB_nil] at h
  | a :: x, b :: y, h1, h2 => by
    simp only [ltB_cons, Bool.or_eq_false_iff, decide_eq_false_iff_not, Bool.and_eq_false_iff] at h1 h2
    have hab : a = b := by
      have := h1.1; have := h2.1
      exact UInt8.le_antisymm (UInt8.not_lt.1 h2.1) (UInt8.not_lt.1 h1.1)
    subst hab
    rw [ltB_tri (a := x) (b := y) (by simpa using h1.2) (by simpa using h2.2)]
theorem ltB_asymm {a b : Bs} (h : ltB a b = true) : ltB b a = false := by
  cases hb : ltB b a with
  | false => rfl
  | true => have := ltB_trans h hb; rw [ltB_irrefl] at this; cases this
/-- at most -/
theorem leB_trans {a b c : Bs} (h1 : ltB b a = false) (h2 : ltB c b = false) : ltB c a = false := by
  cases h : ltB c a with
  | false => rfl
  | true =>
    cases hab : ltB a b with
    | true => have := ltB_trans h hab; rw [this] at h2; cases h2
    | false => rw [ltB_tri hab h1] at h; rw [h] at h2; cases h2
theorem lt_le {a b c : Bs} (h1 : ltB a b = true) (h2 : ltB c b = false) : ltB a c = true := by
  cases h : ltB a c with
  | true => rfl
  | false =>
    exfalso
    cases hc : ltB c a with
    | true => rw [ltB_trans hc h1] at h2; cases h2
    | false => rw [ltB_tri h hc] at h1; rw [h1] at h2; cases h2
theorem le_lt {a b c : Bs} (h1 : ltB b a = false) (h2 : ltB b c = true) : ltB a c = true := by
  cases h : ltB a c with
  | true => rfl
  | false =>
    exfalso
    cases hc : ltB c a with
    | true => rw [ltB_trans h2 hc] at h1; cases h1
    | false => rw [← ltB_tri h hc] at h2; rw [h2] at h1; cases h1
theorem lt_next : ∀ (f low : Bs), ltB f (low ++ [0]) = !ltB low f
  | [], [] => rfl
  | [], a :: x => by simp [ltB_nil, ltB_cons_nil]
  | b :: y, [] => by
    rw [List.nil_append, ltB_cons, ltB_nil]
    have h1 : ¬ b < 0 := by simp
    simp only [h1, decide_false, Bool.false_or, List.isEmpty_cons, Bool.not_false, Bool.not_true, Bool.and_eq_false_iff]
    right; cases y <;> rfl
  | b :: y, a :: x => by
    rw [List.cons_append, ltB_cons, ltB_cons, lt_next y x]
    by_cases hab : a = b
    · subst hab; simp
    · have h1 : a < b ∨ b < a := by
        rcases UInt8.lt_or_lt_of_ne hab with h | h
        · exact .inl h
        · exact .inr h
      rcases h1 with h | h
      · have : ¬ b < a := fun h2 => absurd (UInt8.lt_trans h h2) (UInt8.lt_irrefl _)
        simp [h, this, hab, Ne.symm hab]
      · have : ¬ a < b := fun h2 => absurd (UInt8.lt_trans h h2) (UInt8.lt_irrefl _)
        simp [h, this, hab, Ne.symm hab]
theorem cmp_spec : ∀ (a b : Bs), Lib.compareBytes a b = if ltB a b = true then -1 else if ltB b a = true then 1 else 0
  | [], [] => rfl
  | [], _ :: _ => rfl
  | _ :: _, [] => rfl
  | a :: x, b :: y => by
    rw [Lib.compareBytes, ltB_cons, ltB_cons, cmp_spec x y]
    by_cases h1 : a < b
    · simp [h1]
    · by_cases h2 : b < a
      · have : a ≠ b := fun e => by subst e; exact h1 h2
        simp [h1, h2, this]
      · have : a = b := UInt8.le_antisymm (UInt8.not_lt.1 h2) (UInt8.not_lt.1 h1)
        subst this; simp
theorem cmp_ge (a b : Bs) : decide (0 ≤ Lib.compareBytes a b) = !ltB a b := by
  rw [cmp_spec]; cases h : ltB a b <;> simp; split <;> simp
theorem cmp_lt (a b : Bs) : decide (Lib.compareBytes a b < 0) = ltB a b := by
  rw [cmp_spec]; cases h : ltB a b <;> simp; split <;> simp
theorem cmp_gt (a b : Bs) : decide (0 < Lib.compareBytes a b) = ltB b a := by
  rw [cmp_spec]; cases h : ltB a b
  · simp; split <;> simp_all
  · simp [ltB_asymm h]
theorem cmp_eq0 (a b : Bs) : decide (Lib.compareBytes a b = 0) = decide (a = b) := by
  rw [cmp_spec]; cases h : ltB a b
  · cases h2 : ltB b a
    · simp [ltB_tri h h2]
    · have : a ≠ b := fun e => by subst e; rw [ltB_irrefl] at h2; cases h2
      simp [this]
  · have : a ≠ b := fun e => by subst e; rw [ltB_irrefl] at h; cases h
    simp [this]
theorem Compare_ok (a b : Bs) : EV C n_bytes_Compare [bys a, bys b] [] = some (.int .i64 (Lib.compareBytes a b), [], []) := by
  have hI : C.I n_bytes_Compare = some cmpF := by
    show addI n_bytes_Compare cmpF (clonesI C0 [n_Clone_byte, n_scan_next]) n_bytes_Compare = some cmpF
    exact if_pos rfl
  rw [EV_I C hI]
  show (toBytes (a.map u8)).bind (fun l => (toBytes (b.map u8)).bind fun m => some (AV.int .i64 (Lib.compareBytes l m), [], [])) = _
  rw [toBytes_u8, Option.bind_some, toBytes_u8]; rfl
theorem CompareK {β : Type} (a b : Bs) (H : List AObj) (K : AV → List AObj → List Nat → Option β) : callK (EV C) false n_bytes_Compare [bys a, bys b] H K = K (.int .i64 (Lib.compareBytes a b)) H [] := callK_ok (by simp) (Compare_ok a b)
theorem CompareD (a b : Bs) (H : List AObj) : callD (EV C) n_bytes_Compare [bys a, bys b] H = some (.int .i64 (Lib.compareBytes a b)) := callD_ok (by simp) (Compare_ok a b)
theorem lss_str (d : TypeDesc) (c : TypeId → Bool) (b : Bool) (x y : Bs) : binA .lss d c b (.str ⟨x.toArray⟩) (.str ⟨y.toArray⟩) = some (.bool (ltB x y)) := by
  show some (AV.bool (Op.bytesLess (bl ⟨x.toArray⟩) (bl ⟨y.toArray⟩))) = _
  rw [bl_mk, bl_mk]; rfl
theorem geq_str (d : TypeDesc) (c : TypeId → Bool) (b : Bool) (x y : Bs) : binA .geq d c b (.str ⟨x.toArray⟩) (.str ⟨y.toArray⟩) = some (.bool (!ltB x y)) := by
  show some (AV.bool (!Op.bytesLess (bl ⟨x.toArray⟩) (bl ⟨y.toArray⟩))) = _
  rw [bl_mk, bl_mk]; rfl
theorem leq_str (d : TypeDesc) (c : TypeId → Bool) (b : Bool) (x y : Bs) : binA .leq d c b (.str ⟨x.toArray⟩) (.str ⟨y.toArray⟩) = some (.bool (!ltB y x)) := by
  show some (AV.bool (Op.bytesLess (bl ⟨x.toArray⟩) (bl ⟨y.toArray⟩) || decide (bl ⟨x.toArray⟩ = bl ⟨y.toArray⟩))) = _
  rw [bl_mk, bl_mk]
  congr 2
  show (ltB x y || decide (x = y)) = !ltB y x
  cases h : ltB x y
  · cases h2 : ltB y x
    · simp [ltB_tri h h2]
    · have : x ≠ y := fun e => by subst e; rw [ltB_irrefl] at h2; cases h2
      simp [this]
  · simp [ltB_asymm h]
theorem gtr_str (d : TypeDesc) (c : TypeId → Bool) (b : Bool) (x y : Bs) : binA .gtr d c b (.str ⟨x.toArray⟩) (.str ⟨y.toArray⟩) = some (.bool (ltB y x)) := by
  have := leq_str d c b x y
  show some (AV.bool (!(Op.bytesLess (bl ⟨x.toArray⟩) (bl ⟨y.toArray⟩) || decide (bl ⟨x.toArray⟩ = bl ⟨y.toArray⟩)))) = _
  have h2 : some (AV.bool (Op.bytesLess (bl ⟨x.toArray⟩) (bl ⟨y.toArray⟩) || decide (bl ⟨x.toArray⟩ = bl ⟨y.toArray⟩))) = some (AV.bool (!ltB y x)) := this
  simp only [Option.some.injEq, AV.bool.injEq] at h2
  rw [h2, Bool.not_not]
/-! ### spans -/
structure Spn where
  (a b : Bs)
  (o : Bool)
def Spn.av (s : Spn) : AV := .agg [bys s.a, bys s.b, .bool s.o]
@[simp] theorem good_sp (s : Spn) : s.av.good = true := by simp [Spn.av, AV.good, goodL]
theorem new_sp {β : Type} (s : Spn) (H : List AObj) (K : AV → List AObj → List Nat → Option β) : newK s.av H K = K (.ptr H.length 1 0 0) (H ++ [.row 3 [s.av]]) [] := new_agg (by simp) rfl H K
theorem ld_sp0_a (s : Spn) (T : List AObj) : loadA false 1 (.ptr 0 1 0 0) (.row 3 [s.av] :: T) = some (bys s.a) := Eq.trans rfl rfl
theorem ld_sp0_b (s : Spn) (T : List AObj) : loadA false 1 (.ptr 0 1 0 1) (.row 3 [s.av] :: T) = some (bys s.b) := Eq.trans rfl rfl
theorem ld_sp0_o (s : Spn) (T : List AObj) : loadA false 1 (.ptr 0 1 0 2) (.row 3 [s.av] :: T) = some (.bool s.o) := Eq.trans rfl rfl
theorem ld_sp0 (s : Spn) (T : List AObj) : loadA true 3 (.ptr 0 1 0 0) (.row 3 [s.av] :: T) = some s.av := Eq.trans rfl rfl
theorem ld_sp1 (s : Spn) (o0 : AObj) (T : List AObj) : loadA true 3 (.ptr 1 1 0 0) (o0 :: .row 3 [s.av] :: T) = some s.av := Eq.trans rfl rfl
def inF (s : Spn) (k : Bs) : Bool := !ltB k s.a && (s.o || ltB k s.b)
def fromF (s : Spn) (low : Bs) (hl : Bool) : Bs := if hl && ltB s.a (low ++ [0]) then low ++ [0] else s.a
def emptyF (s : Spn) (low high : Bs) (hl hh : Bool) : Bool := (!s.o && !ltB (fromF s low hl) s.b) || (hh && !ltB (fromF s low hl) high)
theorem In_ok (s : Spn) (k : Bs) : EV C n_scan_In [s.av, bys k] [] = some (.bool (inF s k), [], []) := by
  refine scan_In_of ?_
  simp -implicitDefEqProofs only [new_sp, ld_sp0_a, ld_sp0_b, ld_sp0_o, CompareK, cmp_ge, cmp_lt, ZS, Nat.reduceAdd]
  unfold inF
  cases ltB k s.a with
  | true => simp only [Bool.not_true, splitK_f, Bool.false_and]; exact endB_good rfl
  | false =>
    simp only [Bool.not_false, splitK_t, Bool.true_and]
    cases s.o with
    | true => simp only [splitK_t, Bool.true_or]; exact endB_good rfl
    | false =>
      simp -implicitDefEqProofs only [splitK_f, Bool.false_or, CompareK, cmp_lt, ZS, Nat.reduceAdd]
      exact endB_good rfl
theorem cloneR_cons (x : UInt8) (l : Bs) (h : (x :: l).length ≤ 140737489400000) (H : List AObj) : EV C0 n_Clone_byte_r [bys (x :: l)] H = some (.slc H.length 0 (l.length + 1) (l.length + 1), H ++ [.row 1 ((x :: l).map u8)], []) := by
  refine Clone_byte_r_of ?_
  have e1 : binA .eql (.slice 5) (cmpT Tryd.prog) true (bys (x :: l)) .nils = some (.bool false) := rfl
  have e2 : ∀ (K : AV → List AObj → List Nat → Option R3), rawK 1 0 (.int .u8 0) [] H K = K (.slc H.length 0 0 0) (H ++ [.row 1 (([] : Bs).map u8)]) [] := fun K => rfl
  simp only [e1, e2, Option.bind_some, condK_f]
  rw [appB (n := 0) (es := []) (ys := x :: l) (elemsA_bys _ _) (by simp) rfl (by simp at h ⊢; omega)]
  rw [endB_raw]
  simp
theorem next_ok (k : Bs) (h : k.length ≤ 140737489400000) : EV C n_scan_next [bys k] [] = some (bys (k ++ [0]), [], []) := by
  have hI : C.I n_scan_next = clonesI C0 [n_Clone_byte, n_scan_next] n_scan_next := by
    show (if n_scan_next = n_bytes_Compare then some cmpF else clonesI C0 [n_Clone_byte, n_scan_next] n_scan_next) = _
    exact if_neg (by decide)
  cases k with
  | nil =>
    refine clone_nil (C0 := C0) (l := [n_Clone_byte, n_scan_next]) hI rfl ?_ ?_
    · refine scan_next_of ?_
      have : EV C0 n_Clone_byte_r [.emp true] [] = some (.nils, [], []) := by
        refine Clone_byte_r_of ?_
        rfl
      simp only []
      rw [callK_raw this, lit0 0 0 rfl]
      show endB false false 0 (.slc 0 0 1 1) [.row 1 [u8 0]] [] = _
      exact endB_frz (u := bys [0]) rfl rfl
    · refine scan_next_of ?_
      have : EV C0 n_Clone_byte_r [.emp false] [] = some (.slc 0 0 0 0, [.row 1 []], []) := by
        refine Clone_byte_r_of ?_
        rfl
      simp only []
      rw [callK_raw this, lit0 0 0 rfl]
      show endB false false 0 (.slc 0 0 1 1) [.row 1 [u8 0]] [] = _
      exact endB_frz (u := bys [0]) rfl rfl
  | cons x l =>
    rw [show bys (x :: l) = .lst (u8 x :: l.map u8) from rfl, clone_cons (C0 := C0) (l := [n_Clone_byte, n_scan_next]) hI rfl]
    refine scan_next_of ?_
    simp only []
    rw [show AV.lst (u8 x :: l.map u8) = bys (x :: l) from rfl, callK_raw (cloneR_cons x l h []), lit0 0 0 rfl]
    simp only [List.length_nil, List.nil_append]
    rw [appB (l := 0) (n := l.length + 1) (es := x :: l) (ys := [0]) (elemsA_bys _ _) rfl (by simp) (by simp at h ⊢; omega)]
    exact endB_frz (frz_row (z := 1) rfl (by simp) (goodL_u8 _)) (good_bys _)
theorem nextK {β : Type} (k : Bs) (h : k.length ≤ 140737489400000) (H : List AObj) (K : AV → List AObj → List Nat → Option β) : callK (EV C) false n_scan_next [bys k] H K = K (bys (k ++ [0])) H [] := callK_ok (by simp) (next_ok k h)
def pointF (k : Bs) : Spn := ⟨k, k ++ [0], false⟩
theorem Point_ok (k : Bs) (h : k.length ≤ 140737489400000) : EV C n_scan_Point [bys k] [] = some ((pointF k).av, [], []) := by
  refine scan_Point_of ?_
  have n1 : ∀ (H : List AObj) (K : AV → List AObj → List Nat → Option R3), newK (.agg [.nils, .nils, .bool false]) H K = K (.ptr H.length 1 0 0) (H ++ [.row 3 [.agg [.nils, .nils, .bool false]]]) [] := fun H K => new_agg (by simp) rfl H K
  have fl : ∀ (a b : Bs) (K : List AV → Option R3), (fillB (AV.cells (.agg [.nils, .nils, .bool false])) [(0, 1, bys a), (1, 1, bys b)]).bind K = K [bys a, bys b, .bool false] := fun a b K => by simp [fillB, AV.cells, AV.isBad, bys]
  simp only [n1, List.length_nil, List.nil_append]
  rw [callK_ok (by simp) (Clone_byte_ok k (by omega)), nextK k h, fl]
  rw [sto_agg (l := 0) (z := 3) (cs := [.nils, .nils, .bool false]) (ds := [bys k, bys (k ++ [0]), .bool false]) rfl rfl rfl (by simp [AV.one, bys])]
  rw [List.set_cons_zero, ld_agg (z := 3) (cs := [bys k, bys (k ++ [0]), .bool false]) rfl rfl]
  exact endB_good (good_sp (pointF k))
set_option maxHeartbeats 4000000 in
theorem Empty_ok (s : Spn) (low high : Bs) (hl hh : Bool) (h : low.length ≤ 2^45) : EV C n_scan_Empty [s.av, bys low, bys high, .bool hl, .bool hh] [] = some (.bool (emptyF s low high hl hh), [], []) := by
  have key : ∀ b1 b2 b3 b4 b5 : Bool, ltB s.a (low ++ [0]) = b1 → ltB s.a s.b = b2 → ltB (low ++ [0]) s.b = b3 → ltB s.a high = b4 → ltB (low ++ [0]) high = b5 → EV C n_scan_Empty [s.av, bys low, bys high, .bool hl, .bool hh] [] = some (.bool (emptyF s low high hl hh), [], []) := fun b1 b2 b3 b4 b5 h1 h2 h3 h4 h5 => by
    refine scan_Empty_of ?_
    cases ho : s.o <;> cases hl <;> cases hh <;> cases b1 <;> cases b2 <;> cases b3 <;> cases b4 <;> cases b5 <;>
      simp -implicitDefEqProofs only [new_sp, ld_sp0_a, ld_sp0_b, ld_sp0_o, CompareK, nextK low (by omega), cmp_ge, cmp_gt, ho, h1, h2, h3, h4, h5, not_bool, emptyF, fromF, Bool.true_and, Bool.and_true, Bool.false_and, Bool.and_false, Bool.or_false, Bool.or_true, Bool.false_or, Bool.true_or, Bool.false_eq_true, ZS, Nat.reduceAdd] <;> exact endB_good rfl
  exact key _ _ _ _ _ rfl rfl rfl rfl rfl
theorem EmptyK {β : Type} (s : Spn) (low high : Bs) (hl hh : Bool) (h : low.length ≤ 2^45) (H : List AObj) (K : AV → List AObj → List Nat → Option β) : callK (EV C) false n_scan_Empty [s.av, bys low, bys high, .bool hl, .bool hh] H K = K (.bool (emptyF s low high hl hh)) H [] := callK_ok (by simp [goodL, AV.good]) (Empty_ok s low high hl hh h)
theorem InK {β : Type} (s : Spn) (k : Bs) (H : List AObj) (K : AV → List AObj → List Nat → Option β) : callK (EV C) false n_scan_In [s.av, bys k] H K = K (.bool (inF s k)) H [] := callK_ok (by simp) (In_ok s k)
end Go.Pm
