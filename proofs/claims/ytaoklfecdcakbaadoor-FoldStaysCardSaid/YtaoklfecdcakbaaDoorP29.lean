/- A part of the proof: what the functions of the program answer, as plain lists and numbers. -/
import Derived.Test.YtaoklfecdcakbaaDoorP28
namespace Go.Pm
open Go.Proofs
set_option linter.unusedVariables false
set_option linter.unusedSimpArgs false
theorem endB_take {n : Nat} {v u : AV} {H H' : List AObj} {E : List Nat} (h0 : frz H v = some u) (h1 : u.good = true) (hE : E = []) (hH : (killAll H (kills v)).take n = H') : endB false false n v H E = some (u, H', []) := by
  subst hE
  simp [endB, endA, h0, bel_good n u h1, hH]
theorem endB_at {v u : AV} {H H0 : List AObj} {E : List Nat} (h0 : frz H v = some u) (h1 : u.good = true) (hk : kills v = []) (hE : E = []) (hn : H.length = H0.length) : endB false false H0.length v H E = some (u, H, []) :=
  endB_take h0 h1 hE (by rw [hk]; simp [killAll, ← hn])
theorem nilA_ptr (l tot i off : Nat) : nilA (.ptr l tot i off) = some (.ptr l tot i off) := rfl
def Rd.cs (s : Rd) : List AV := [bys s.b, .bool s.bad]
def Rd.row (s : Rd) : AObj := .row 2 [.agg s.cs]
theorem rd_b {H : List AObj} {l : Nat} {s : Rd} (h : H[l]? = some s.row) : loadA false 1 (.ptr l 1 0 0) H = some (bys s.b) := ld_fld h rfl
theorem rd_bad {H : List AObj} {l : Nat} {s : Rd} (h : H[l]? = some s.row) : loadA false 1 (.ptr l 1 0 1) H = some (.bool s.bad) := ld_fld h rfl
theorem rd_sto_bad {β : Type} {H : List AObj} {l : Nat} {s : Rd} {x : Bool} {K : List AObj → List Nat → Option β} (h : H[l]? = some s.row) : stoK 1 (.ptr l 1 0 1) (.bool x) H K = K (H.set l (Rd.row ⟨s.b, x⟩)) [] := by
  rw [sto_fld h (by simp [Rd.cs]) rfl rfl, escs_good (by simp [goodL, AV.good])]; rfl
theorem rd_sto_b {β : Type} {H : List AObj} {l : Nat} {s : Rd} {x : Bs} {K : List AObj → List Nat → Option β} (h : H[l]? = some s.row) : stoK 1 (.ptr l 1 0 0) (bys x) H K = K (H.set l (Rd.row ⟨x, s.bad⟩)) [] := by
  rw [sto_fld h (by simp [Rd.cs]) rfl rfl, escs_good (by simp [goodL])]; rfl
theorem lt_get {α : Type} {H : List α} {l : Nat} {x : α} (h : H[l]? = some x) : l < H.length := (List.getElem?_eq_some_iff.1 h).1
theorem set_get {α : Type} {H : List α} {l : Nat} {x y : α} (h : H[l]? = some x) : (H.set l y)[l]? = some y := by rw [List.getElem?_set_self (lt_get h)]
theorem set_same {α : Type} {H : List α} {l : Nat} {x : α} (h : H[l]? = some x) : H.set l x = H := by
  apply List.ext_getElem?
  intro i
  rw [List.getElem?_set]
  split
  · rename_i e; subst e; rw [if_pos (lt_get h), h]
  · rfl
theorem take_ok {H : List AObj} {l n : Nat} {s : Rd} (h : H[l]? = some s.row) (hb : s.b.length ≤ 2 ^ 50) (hn : n ≤ 2 ^ 50) : EV C n_coder_Reader_take [.ptr l 1 0 0, .int .i64 (n : Int)] H = some (bys (takeP n s).1, H.set l (takeP n s).2.row, []) := by
  refine coder_Reader_take_of ?_
  simp -implicitDefEqProofs only [nilA_ptr, offA_ptr, Nat.zero_add, Option.bind_some, rd_bad h, rd_b h, rd_sto_bad h, lenV_bys, gtr_int]
  unfold takeP
  cases hbad : s.bad with
  | true =>
    rw [if_pos (.inl rfl)]
    simp only [splitK_t]
    exact endB_at rfl rfl rfl rfl (by simp)
  | false =>
    simp only [splitK_f, condK_dec]
    by_cases hl : s.b.length < n
    · have hl' : ((s.b.length : Int) < (n : Int)) := by omega
      rw [if_pos hl', if_pos (.inr hl)]
      exact endB_at rfl rfl rfl rfl (by simp)
    · have hl' : ¬ ((s.b.length : Int) < (n : Int)) := by omega
      have c1 : cutA 1 (bys s.b) none (some (.int .i64 (n : Int))) (some (.int .i64 (n : Int))) H = some (bys (s.b.take n)) := by
        unfold bys
        simp only [cutA, lenA, Option.bind_some, boundA, List.length_map, Option.isSome_some, lz_u8, if_true]
        rw [if_pos ⟨by omega, by omega, by omega, by omega, fun _ => trivial⟩]
        simp
      have c2 : cutA 1 (bys s.b) (some (.int .i64 (n : Int))) none none H = some (bys (s.b.drop n)) := by
        rw [cutA_bys (i := n) (j := s.b.length) rfl rfl (by omega) (by omega), List.take_length]
      rw [if_neg hl', if_neg (by simp; omega)]
      simp -implicitDefEqProofs only [c1, c2, Option.bind_some, rd_sto_b h]
      rw [hbad]
      exact endB_at (frz_good _ _ (good_bys _)) (good_bys _) (kills_good _ (good_bys _)) rfl (by simp)
/-- a call of a method -/
theorem callM {β : Type} {g : FuncId} {l : Nat} {bs : List AV} {H H' : List AObj} {K : AV → List AObj → List Nat → Option β} {v : AV} (ha : goodL bs = true) (h3 : EV C g (.ptr l 1 0 0 :: bs) H = some (v, H', [])) :
    callK (EV C) false g (.ptr l 1 0 0 :: bs) H K = K v H' [] := by
  have hf : frzL H (.ptr l 1 0 0 :: bs) = some (.ptr l 1 0 0 :: bs) := frzL_cons rfl (frzL_good _ _ ha)
  have hk : killsL (.ptr l 1 0 0 :: bs) = [] := by simp [killsL, kills, killsL_good _ ha]
  exact callK_ptr hf (by simp [belL, AV.bel]) hk h3
theorem takeK {β : Type} {H : List AObj} {l n : Nat} {s : Rd} (h : H[l]? = some s.row) (hb : s.b.length ≤ 2 ^ 50) (hn : n ≤ 2 ^ 50) {K : AV → List AObj → List Nat → Option β} : callK (EV C) false n_coder_Reader_take [.ptr l 1 0 0, .int .i64 (n : Int)] H K = K (bys (takeP n s).1) (H.set l (takeP n s).2.row) [] := callM (by simp [goodL, AV.good]) (take_ok h hb hn)
theorem byte_ok {H : List AObj} {l : Nat} {s : Rd} (h : H[l]? = some s.row) (hb : s.b.length ≤ 2 ^ 50) : EV C n_coder_Reader_Byte [.ptr l 1 0 0] H = some (u8 (byteP s).1, H.set l (byteP s).2.row, []) := by
  refine coder_Reader_Byte_of ?_
  have := takeK (n := 1) h hb (by decide) (K := fun a1 H1 E1 =>
    (lenV a1 H1).bind fun a2 =>
    (binA .eql (Go.TypeDesc.int Go.IntKind.i64) (cmpT Tryd.prog) true a2 (.int .i64 0)).bind fun a3 =>
    condK a3
      (endB false false H.length (.int .u8 0) H1 (E1 ++ []))
      ((ixA 1 a1 (.int .i64 0) H1).bind fun a4 =>
      (loadA false 1 a4 H1).bind fun a5 =>
      endB false false H.length a5 H1 (E1 ++ [])))
  refine this.trans ?_
  unfold byteP
  generalize hx : takeP 1 s = x
  obtain ⟨t, s'⟩ := x
  cases t with
  | nil =>
    simp -implicitDefEqProofs only [ZS, Nat.reduceAdd]
    exact endB_at rfl rfl rfl rfl (by simp)
  | cons c t =>
    have e0 : ¬ (((c :: t).length : Int) = 0) := by simp; omega
    have ix : ∀ H, ixA 1 (bys (c :: t)) (.int .i64 0) H = some (.ip [u8 c]) := fun H => ixA_bys (i := 0) rfl
    simp -implicitDefEqProofs only [lenV_bys, Option.bind_some, eql_int, condK_dec]
    rw [if_neg e0]
    simp -implicitDefEqProofs only [ix, ZS, Nat.reduceAdd]
    exact endB_at rfl rfl rfl rfl (by simp)
theorem byteK {β : Type} {H : List AObj} {l : Nat} {s : Rd} (h : H[l]? = some s.row) (hb : s.b.length ≤ 2 ^ 50) {K : AV → List AObj → List Nat → Option β} : callK (EV C) false n_coder_Reader_Byte [.ptr l 1 0 0] H K = K (u8 (byteP s).1) (H.set l (byteP s).2.row) [] := callM rfl (byte_ok h hb)
theorem or_byte {a : Nat} (h : a < 2 ^ 56) (x : UInt8) : bitsA .or .u64 ((a * 2 ^ 8 : Nat) : Int) (x.toNat : Int) = ((a * 256 + x.toNat : Nat) : Int) := by
  have hx := x.toNat_lt
  rw [or_u64 (by omega) (by omega), Nat.mul_comm a, ← Nat.two_pow_add_eq_or_of_lt (by omega)]
theorem num_J7 (l : Nat) (t : Bs) (ht : t.length ≤ 8) (s : Rd) (H0 H : List AObj) (h : H[l]? = some s.row) (hn : H.length = H0.length) : ∀ (m i : Nat), i + m = t.length →
    coder_Reader_Number_J7 H0.length (.ptr l 1 0 0) (bys t) (.int .u64 (valF (t.take i) : Int)) (bys t) (.int .i64 (t.length : Int)) (.int .i64 (i : Int)) H [] = some (.int .u64 ((numL t s).1 : Int), H.set l (numL t s).2.row, [])
  | 0, i, hi => by
    refine coder_Reader_Number_J7_of ?_
    obtain rfl : i = t.length := by omega
    simp -implicitDefEqProofs only [Int.lt_irrefl, nilA_ptr, rd_sto_bad h, List.take_length, ZS, Nat.reduceAdd]
    unfold numL
    cases t with
    | nil =>
      rw [if_pos (show (((([] : Bs).length : Nat) : Int) = 0) from rfl), if_pos (.inl rfl)]
      exact endB_at rfl rfl rfl rfl (by simp [hn])
    | cons c t =>
      have e0 : ¬ (((c :: t).length : Int) = 0) := by simp; omega
      have ix : ∀ H, ixA 1 (bys (c :: t)) (.int .i64 0) H = some (.ip [u8 c]) := fun H => ixA_bys (i := 0) rfl
      rw [if_neg e0]
      have eu : ∀ d c' b, binA .eql d c' b (u8 c) (.int .u8 0) = some (.bool (decide ((c.toNat : Int) = 0))) := fun _ _ _ => rfl
      simp -implicitDefEqProofs only [ix, eu, nilA_ptr, rd_sto_bad h, ZS, Nat.reduceAdd]
      by_cases hc : c.toNat = 0
      · have hc' : (c.toNat : Int) = 0 := by omega
        rw [if_pos hc', if_pos (.inr (.inl hc))]
        exact endB_at rfl rfl rfl rfl (by simp [hn])
      · have hc' : ¬ (c.toNat : Int) = 0 := by omega
        rw [if_neg hc']
        by_cases hv : valF (c :: t) < 248
        · have hv' : (valF (c :: t) : Int) ≤ 247 := by omega
          rw [if_pos hv', if_pos (.inr (.inr hv))]
          exact endB_at rfl rfl rfl rfl (by simp [hn])
        · have hv' : ¬ (valF (c :: t) : Int) ≤ 247 := by omega
          rw [if_neg hv', if_neg (by simp [hc]; omega), set_same h]
          exact endB_at rfl rfl rfl rfl hn
  | m + 1, i, hi => by
    refine coder_Reader_Number_J7_of ?_
    have hlt : i < t.length := by omega
    have e1 : ((i : Int) < (t.length : Int)) := by omega
    have e3 : IntKind.i64.wrap ((i : Int) + 1) = ((i + 1 : Nat) : Int) := w64 (by omega) (by omega)
    have vl := valF_lt (t.take i)
    rw [List.length_take, Nat.min_eq_left (by omega)] at vl
    have v7 : valF (t.take i) < 2 ^ 56 := Nat.lt_of_lt_of_le vl (by
      have : 256 ^ i ≤ 256 ^ 7 := Nat.pow_le_pow_right (by decide) (by omega)
      omega)
    have c8 : ∀ x : UInt8, cvI .u64 (u8 x) = some (.int .u64 (x.toNat : Int)) := fun x => by
      have := x.toNat_lt
      show some (AV.int .u64 (IntKind.u64.wrap (x.toNat : Int))) = _
      rw [wrap_u64 (by omega)]
    have sh : ∀ d c b, binA .shl d c b (.int .u64 (valF (t.take i) : Int)) (.int .u64 8) = some (.int .u64 ((valF (t.take i) * 2 ^ 8 : Nat) : Int)) := fun d c b => by
      have := shl_nat d c b .u64 .u64 (valF (t.take i)) 8 (by decide)
      rw [wrap_u64 (by omega)] at this; exact this
    have tk : t.take (i + 1) = t.take i ++ [t[i]] := by rw [List.take_succ_eq_append_getElem hlt]
    simp -implicitDefEqProofs only [e1, ixA_bys (List.getElem?_eq_getElem hlt), sh, c8, or_int, or_byte v7, add_int, e3, ZS, Nat.reduceAdd]
    have := num_J7 l t ht s H0 H h hn m (i + 1) (by omega)
    rw [tk, valF_snoc] at this
    exact this
end Go.Pm
