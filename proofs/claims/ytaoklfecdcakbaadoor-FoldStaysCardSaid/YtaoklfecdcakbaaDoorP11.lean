/- A part of the proof: what the functions of the program answer, as plain lists and numbers. -/
import Derived.Test.YtaoklfecdcakbaaDoorP8
namespace Go.Pm
set_option linter.unusedVariables false
set_option linter.unusedSimpArgs false
section
variable (d : TypeDesc) (c : TypeId → Bool) (b : Bool)
theorem wrap_w (n : Nat) : IntKind.u32.wrap (n : Int) = ((n % 2^32 : Nat) : Int) := by
  simp [IntKind.wrap, IntKind.bits, IntKind.signed]
theorem add_w (x y : UInt32) : binA .add d c b (u32 x) (u32 y) = some (u32 (x + y)) := by
  simp only [u32, add_int, ← Int.natCast_add, wrap_w, UInt32.toNat_add]
theorem xor_w (x y : UInt32) : binA .xor d c b (u32 x) (u32 y) = some (u32 (x ^^^ y)) := by
  simp only [u32, xor_int, xor_u32 x.toNat_lt y.toNat_lt, UInt32.toNat_xor]
theorem and_w (x y : UInt32) : binA .and d c b (u32 x) (u32 y) = some (u32 (x &&& y)) := by
  simp only [u32, and_int, and_u32 x.toNat_lt y.toNat_lt, UInt32.toNat_and]
theorem or_w (x y : UInt32) : binA .or d c b (u32 x) (u32 y) = some (u32 (x ||| y)) := by
  simp only [u32, or_int, or_u32 x.toNat_lt y.toNat_lt, UInt32.toNat_or]
theorem not_w (x : UInt32) : unA .xor (u32 x) = some (u32 (~~~x)) := by
  have h : bitsA .xor .u32 4294967295 (x.toNat : Int) = ((4294967295 ^^^ x.toNat : Nat) : Int) := xor_u32 (x := 4294967295) (by decide) x.toNat_lt
  have e : 4294967295 ^^^ x.toNat = (~~~x).toNat := by
    have : (~~~x) = (4294967295 : UInt32) ^^^ x := by
      apply UInt32.toBitVec_inj.1
      simp only [UInt32.toBitVec_not, UInt32.toBitVec_xor]
      have : (4294967295 : UInt32).toBitVec = BitVec.allOnes 32 := by decide
      rw [this, BitVec.allOnes_xor]
    rw [this, UInt32.toNat_xor]; rfl
  show some (AV.int .u32 (bitsA .xor .u32 4294967295 (x.toNat : Int))) = _
  rw [h, e]; rfl
theorem shr_w (k : IntKind) (x : UInt32) (s : Nat) (h : s < 32) : binA .shr d c b (u32 x) (.int k (s : Int)) = some (u32 (x >>> UInt32.ofNat s)) := by
  rw [u32, shr_nat d c b .u32 k x.toNat s (by show s ≤ 32; omega), u32, UInt32.toNat_shiftRight, Nat.shiftRight_eq_div_pow]
  have : (UInt32.ofNat s).toNat % 32 = s := by simp; omega
  rw [this]
theorem shl_w (k : IntKind) (x : UInt32) (s : Nat) (h : s < 32) : binA .shl d c b (u32 x) (.int k (s : Int)) = some (u32 (x <<< UInt32.ofNat s)) := by
  rw [u32, shl_nat d c b .u32 k x.toNat s (by show s ≤ 32; omega), wrap_w, u32, UInt32.toNat_shiftLeft, Nat.shiftLeft_eq]
  have : (UInt32.ofNat s).toNat % 32 = s := by simp; omega
  rw [this]
theorem cv_u8w (x : UInt32) : cvI .u8 (u32 x) = some (u8 x.toUInt8) := by
  simp only [u32, cvI_int, wrap_u8, u8, UInt32.toNat_toUInt8]
theorem cv_w8 (x : UInt8) : cvI .u32 (u8 x) = some (u32 x.toUInt32) := by
  have h := x.toNat_lt
  simp only [u8, cvI_int, wrap_w, u32, UInt8.toNat_toUInt32]
  rw [Nat.mod_eq_of_lt (by omega)]
end
@[simp] theorem good_u32 (x : UInt32) : (u32 x).good = true := rfl
@[simp] theorem goodL_u32 (l : List UInt32) : goodL (l.map u32) = true := goodL_map good_u32 l
@[simp] theorem lz_u32 (l : List UInt32) : lz 1 (l.map u32) = true := by cases l <;> rfl
/-- eight words -/
structure V8 where
  (a b c d e f g h : UInt32)
def V8.ws (v : V8) : List UInt32 := [v.a, v.b, v.c, v.d, v.e, v.f, v.g, v.h]
def V8.av (v : V8) : AV := .agg [u32 v.a, u32 v.b, u32 v.c, u32 v.d, u32 v.e, u32 v.f, u32 v.g, u32 v.h]
def V8.zero : V8 := ⟨0, 0, 0, 0, 0, 0, 0, 0⟩
def V8.add (v x : V8) : V8 := ⟨v.a + x.a, v.b + x.b, v.c + x.c, v.d + x.d, v.e + x.e, v.f + x.f, v.g + x.g, v.h + x.h⟩
@[simp] theorem good_v8 (v : V8) : v.av.good = true := rfl
def rotr (x : UInt32) (s : Nat) : UInt32 := x >>> UInt32.ofNat s ||| x <<< UInt32.ofNat (32 - s)
def roundF (v : V8) (k w : UInt32) : V8 :=
  let t1 := v.h + (rotr v.e 6 ^^^ rotr v.e 11 ^^^ rotr v.e 25) + (v.e &&& v.f ^^^ ~~~v.e &&& v.g) + k + w
  let t2 := (rotr v.a 2 ^^^ rotr v.a 13 ^^^ rotr v.a 22) + (v.a &&& v.b ^^^ v.a &&& v.c ^^^ v.b &&& v.c)
  ⟨t1 + t2, v.a, v.b, v.c, v.d + t1, v.e, v.f, v.g⟩
def roundsF : V8 → List UInt32 → List UInt32 → V8
  | v, k :: ks, w :: ws => roundsF (roundF v k w) ks ws
  | v, _, _ => v
def word (a b c d : UInt8) : UInt32 := ((((0 : UInt32) <<< 8 ||| a.toUInt32) <<< 8 ||| b.toUInt32) <<< 8 ||| c.toUInt32) <<< 8 ||| d.toUInt32
def words16 : List UInt8 → List UInt32
  | a :: b :: c :: d :: l => word a b c d :: words16 l
  | _ => []
def nextW (ws : List UInt32) (i : Nat) : UInt32 :=
  let x := ws.getD (i - 15) 0; let y := ws.getD (i - 2) 0
  ws.getD (i - 16) 0 + (rotr x 7 ^^^ rotr x 18 ^^^ x >>> 3) + ws.getD (i - 7) 0 + (rotr y 17 ^^^ rotr y 19 ^^^ y >>> 10)
def extF : Nat → Nat → List UInt32 → List UInt32
  | 0, _, ws => ws
  | n + 1, i, ws => extF n (i + 1) (ws ++ [nextW ws i])
def wordsF (b : List UInt8) : List UInt32 := extF 48 16 (words16 b)
def stepF (v : V8) (b : List UInt8) : V8 := v.add (roundsF v kCst (wordsF b))
def stepsF : V8 → Nat → List UInt8 → V8
  | v, 0, _ => v
  | v, n + 1, l => stepsF (stepF v (l.take 64)) n (l.drop 64)
def hV : V8 := ⟨0x6a09e667, 0xbb67ae85, 0x3c6ef372, 0xa54ff53a, 0x510e527f, 0x9b05688c, 0x1f83d9ab, 0x5be0cd19⟩
def be4 (x : UInt32) : List UInt8 := [(x >>> 24).toUInt8, (x >>> 16).toUInt8, (x >>> 8).toUInt8, x.toUInt8]
def zerosF (n : Nat) : Nat := (119 - n % 64) % 64
def be8 (n : Nat) : List UInt8 := [UInt8.ofNat (8 * n / 2 ^ 56), UInt8.ofNat (8 * n / 2 ^ 48), UInt8.ofNat (8 * n / 2 ^ 40), UInt8.ofNat (8 * n / 2 ^ 32), UInt8.ofNat (8 * n / 2 ^ 24), UInt8.ofNat (8 * n / 2 ^ 16), UInt8.ofNat (8 * n / 2 ^ 8), UInt8.ofNat (8 * n / 2 ^ 0)]
def tailF (n : Nat) : List UInt8 := 128 :: (List.replicate (zerosF n) 0 ++ be8 n)
def sumF (b : List UInt8) : List UInt8 :=
  let all := b ++ tailF b.length
  (stepsF hV (all.length / 64) all).ws.flatMap be4
end Go.Pm
