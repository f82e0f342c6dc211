/- The document's tables of SHA-256 are the program's. -/
import Derived.Test.YtclfnechcblmoaaDoorW13
namespace Go.Pm
open Go.Proofs
set_option linter.unusedVariables false
set_option linter.unusedSimpArgs false
def addAt : List Nat → Nat → Nat → List Nat
  | [], _, _ => []
  | o :: os, 0, v => ((o + v) % 2^64) :: os
  | o :: os, k + 1, v => o :: addAt os k v
theorem addAt_eq : ∀ (out : List Nat) (k v : Nat), addAt out k v = out.set k ((out.getD k 0 + v) % 2^64)
  | [], _, _ => rfl
  | o :: os, 0, v => rfl
  | o :: os, k + 1, v => by rw [addAt, addAt_eq os k v]; simp
def mulRow (a : Nat) : List Nat → Nat → List Nat → List Nat
  | [], _, out => out
  | b :: bs, k, out => mulRow a bs (k + 1) (addAt out k (a * b % 2^64))
theorem mulIn_eq (b : List Nat) (ai i : Nat) : ∀ (m k : Nat) (out : List Nat), k + m = b.length → mulIn b ai i m k out = mulRow ai (b.drop k) (i + k) out
  | 0, k, out, h => by rw [List.drop_eq_nil_of_le (by omega)]; rfl
  | m + 1, k, out, h => by
    have hk : k < b.length := by omega
    rw [mulIn, List.drop_eq_getElem_cons hk, mulRow, mulIn_eq b ai i m (k + 1) _ (by omega), addAt_eq]
    have : b.getD k 0 = b[k] := by simp [List.getD_eq_getElem?_getD, List.getElem?_eq_getElem hk]
    rw [this]; rfl
def mulAll : List Nat → List Nat → Nat → List Nat → List Nat
  | [], _, _, out => out
  | a :: l, b, i, out => mulAll l b (i + 1) (mulRow a b i out)
theorem mulOut_eq (a b : List Nat) : ∀ (m i : Nat) (out : List Nat), i + m = a.length → mulOut a b m i out = mulAll (a.drop i) b i out
  | 0, i, out, h => by rw [List.drop_eq_nil_of_le (by omega)]; rfl
  | m + 1, i, out, h => by
    have hk : i < a.length := by omega
    rw [mulOut, List.drop_eq_getElem_cons hk, mulAll, mulOut_eq a b m (i + 1) _ (by omega), mulIn_eq b _ i b.length 0 out (by omega)]
    have : a.getD i 0 = a[i] := by simp [List.getD_eq_getElem?_getD, List.getElem?_eq_getElem hk]
    rw [this]; rfl
def carryR : Nat → List Nat → List Nat
  | o, [] => [o]
  | o, o2 :: os => (o % 65536) :: carryR ((o2 + o / 65536 % 2^64) % 2^64) os
theorem carryF_eq : ∀ (rest A : List Nat) (o : Nat), carryF rest.length A.length (A ++ o :: rest) = A ++ carryR o rest
  | [], A, o => rfl
  | o2 :: os, A, o => by
    have g0 : ∀ x l, (A ++ x :: l).getD A.length 0 = x := fun x l => by simp [List.getD_eq_getElem?_getD]
    have g1 : (A ++ o :: o2 :: os).getD (A.length + 1) 0 = o2 := by simp [List.getD_eq_getElem?_getD, List.getElem?_append_right]
    have s1 : ∀ v, (A ++ o :: o2 :: os).set (A.length + 1) v = A ++ o :: v :: os := fun v => by
      rw [List.set_append_right _ _ (by omega)]; simp
    have s0 : ∀ v l, (A ++ o :: l).set A.length v = A ++ v :: l := fun v l => by
      rw [List.set_append_right _ _ (by omega)]; simp
    rw [List.length_cons, carryF, s1, s0, g0, g0, g1, carryR]
    have := carryF_eq os (A ++ [o % 65536]) ((o2 + o / 65536 % 2^64) % 2^64)
    simpa using this
def carryL : List Nat → List Nat
  | [] => []
  | o :: os => carryR o os
def timesE (a b : List Nat) : List Nat := carryL (mulAll a b 0 (List.replicate (a.length + b.length + 1) 0))
theorem timesF_eq (a b : List Nat) : timesF a b = timesE a b := by
  unfold timesF timesE
  have h := mulOut_eq a b a.length 0 (List.replicate (a.length + b.length + 1) 0) (by omega)
  rw [List.drop_zero] at h
  have hl := mulOut_len a b a.length 0 (List.replicate (a.length + b.length + 1) 0)
  rw [h] at hl
  rw [h]
  cases hx : mulAll a b 0 (List.replicate (a.length + b.length + 1) 0) with
  | nil => rw [hx] at hl; simp at hl
  | cons o os =>
    rw [hx] at hl
    simp only [List.length_cons, List.length_replicate] at hl
    have := carryF_eq os [] o
    simp only [List.length_nil, List.nil_append] at this
    rw [show a.length + b.length = os.length by omega, this]; rfl
def cmpR : List Nat → List Nat → Bool
  | z :: zs, l :: ls => if z = l then cmpR zs ls else decide (z < l)
  | _, _ => true
theorem cmpDown_eq (z l : List Nat) : ∀ (m : Nat), m ≤ z.length → m ≤ l.length → cmpDown z l m = cmpR (z.take m).reverse (l.take m).reverse
  | 0, _, _ => by simp [cmpDown, cmpR]
  | m + 1, h1, h2 => by
    have e : ∀ (x : List Nat) (h : m < x.length), (x.take (m + 1)).reverse = x.getD m 0 :: (x.take m).reverse := fun x h => by
      rw [List.take_add_one, List.getElem?_eq_getElem h]
      simp [List.getD_eq_getElem?_getD, List.getElem?_eq_getElem h]
    rw [cmpDown, e z (by omega), e l (by omega), cmpR, cmpDown_eq z l m (by omega) (by omega)]
def prodE (y : Nat) (cube : Bool) : List Nat := if cube = true then timesE (timesE (digitsF y) (digitsF y)) (digitsF y) else timesE (digitsF y) (digitsF y)
def belowE (y p : Nat) (cube : Bool) : Bool := cmpR (prodE y cube).reverse ((List.replicate (prodE y cube).length 0).set (if cube = true then 6 else 4) p).reverse
theorem belowF_eq (y p : Nat) (cube : Bool) : belowF y p cube = belowE y p cube := by
  have e : prodF y cube = prodE y cube := by simp only [prodF, prodE, timesF_eq]
  unfold belowF belowE
  rw [e, cmpDown_eq _ _ _ (Nat.le_refl _) (by simp), List.take_length, List.take_of_length_le (by simp)]
def rootE (p : Nat) (cube : Bool) : Nat → Nat → Nat → Nat
  | 0, _, x => x
  | n + 1, bit, x => rootE p cube n (bit / 2) (if belowE (x + bit) p cube = true then x + bit else x)
theorem rootE_eq (p : Nat) (cube : Bool) : ∀ (n x : Nat), n ≤ 36 → x + 2 * 2^n ≤ 2^40 → 0 < n → rootF p cube n (2^(n - 1)) x = rootE p cube n (2^(n - 1)) x
  | 1, x, h, hx, h0 => by
    have e : (x + 2^(1 - 1)) % 2^64 = x + 2^(1 - 1) := Nat.mod_eq_of_lt (by omega)
    simp only [rootF, rootE, e, belowF_eq]
    rfl
  | n + 2, x, h, hx, h0 => by
    have hp : 2^(n + 2) = 4 * 2^n := by rw [Nat.pow_add]; omega
    have hp1 : 2^(n + 1) = 2 * 2^n := by rw [Nat.pow_succ]; omega
    have hp0 : 0 < 2^n := Nat.two_pow_pos n
    have e1 : n + 2 - 1 = n + 1 := rfl
    have e2 : n + 1 - 1 = n := rfl
    have e : (x + 2^(n + 1)) % 2^64 = x + 2^(n + 1) := Nat.mod_eq_of_lt (by omega)
    have q : 2^(n + 1) / 2 = 2^n := by omega
    have q' : 2^(n + 1) / 2 % 2^64 = 2^n := by rw [q]; exact Nat.mod_eq_of_lt (by omega)
    rw [e1, rootF, rootE, q', q, if_pos (by omega), e, belowF_eq]
    have := rootE_eq p cube (n + 1) (if belowE (x + 2^(n + 1)) p cube = true then x + 2^(n + 1) else x) (by omega) (by split <;> omega) (by omega)
    rw [e2] at this
    exact this
def rootC (p : Nat) (cube : Bool) : Nat := rootE p cube 36 34359738368 0 % 4294967296
theorem rootW_eq (p : Nat) (cube : Bool) : rootW p cube = UInt32.ofNat (rootC p cube) := by
  have h : rootF p cube 36 (2^35) 0 = rootE p cube 36 34359738368 0 := rootE_eq p cube 36 0 (by omega) (by omega) (by omega)
  unfold rootW rootC
  rw [h]
  apply UInt32.toNat.inj
  simp
def primesG : Nat → Nat → List Nat → List Nat
  | 0, _, l => l
  | n + 1, k, l => if l.length < 64 then primesG n ((k + 1) % 2^64) (if l.all (fun p => !decide (k % p = 0)) then l ++ [k] else l) else l
def primesL : List Nat := primesG 310 2 []
def primesC : List Nat := [2, 3, 5, 7, 11, 13, 17, 19, 23, 29, 31, 37, 41, 43, 47, 53, 59, 61, 67, 71, 73, 79, 83, 89, 97, 101, 103, 107, 109, 113, 127, 131, 137, 139, 149, 151, 157, 163, 167, 173, 179, 181, 191, 193, 197, 199, 211, 223, 227, 229, 233, 239, 241, 251, 257, 263, 269, 271, 277, 281, 283, 293, 307, 311]
theorem primesL_eq : primesL = primesC := by kernel_rfl
theorem hC_eq : ((primesC.take 8).map fun p => rootC p false) = hCst.map UInt32.toNat := by kernel_rfl
theorem kC_eq : (primesC.map fun p => rootC p true) = kCst.map UInt32.toNat := by kernel_rfl
theorem ofs (l : List UInt32) : (l.map UInt32.toNat).map UInt32.ofNat = l := by
  rw [List.map_map]
  conv => rhs; rw [← List.map_id l]
  exact List.map_congr_left fun x _ => by simp
theorem hT_eq : ((primesL.take 8).map fun p => rootW p false) = hCst := by
  rw [primesL_eq, ← ofs hCst, ← hC_eq, List.map_map]
  exact List.map_congr_left fun p _ => rootW_eq p false
theorem kT_eq : (primesL.map fun p => rootW p true) = kCst := by
  rw [primesL_eq, ← ofs kCst, ← kC_eq, List.map_map]
  exact List.map_congr_left fun p _ => rootW_eq p true
end Go.Pm
