/- Shapes: how the words of a printed text answer at values of known shape. -/
import Derived.Test.YtclfnechcblmoaaDoorPm27
namespace Go.Pm
set_option linter.unusedVariables false
/-- one's own bytes -/
def u8 (b : UInt8) : AV := .int .u8 b.toNat
def bys (l : List UInt8) : AV := .lst (l.map u8)
theorem u8_cells (b : UInt8) : (u8 b).cells = [u8 b] := rfl
@[simp] theorem lenV_lst (es : List AV) (H : List AObj) : lenV (.lst es) H = some (.int .i64 es.length) := rfl
@[simp] theorem lenV_bys (l : List UInt8) (H : List AObj) : lenV (bys l) H = some (.int .i64 l.length) := by simp [lenV, lenA, bys]
@[simp] theorem lss_int (d : TypeDesc) (c : TypeId → Bool) (b : Bool) (k : IntKind) (x y : Int) : binA .lss d c b (.int k x) (.int k y) = some (.bool (decide (x < y))) := by simp [binA]
@[simp] theorem leq_int (d : TypeDesc) (c : TypeId → Bool) (b : Bool) (k : IntKind) (x y : Int) : binA .leq d c b (.int k x) (.int k y) = some (.bool (decide (x ≤ y))) := by simp [binA]
@[simp] theorem gtr_int (d : TypeDesc) (c : TypeId → Bool) (b : Bool) (k : IntKind) (x y : Int) : binA .gtr d c b (.int k x) (.int k y) = some (.bool (decide (y < x))) := by simp [binA]
@[simp] theorem geq_int (d : TypeDesc) (c : TypeId → Bool) (b : Bool) (k : IntKind) (x y : Int) : binA .geq d c b (.int k x) (.int k y) = some (.bool (decide (y ≤ x))) := by simp [binA]
@[simp] theorem eql_int (d : TypeDesc) (c : TypeId → Bool) (b : Bool) (k : IntKind) (x y : Int) : binA .eql d c b (.int k x) (.int k y) = some (.bool (decide (x = y))) := by simp [binA]
@[simp] theorem neq_int (d : TypeDesc) (c : TypeId → Bool) (b : Bool) (k : IntKind) (x y : Int) : binA .neq d c b (.int k x) (.int k y) = some (.bool (!decide (x = y))) := by simp [binA]
@[simp] theorem add_int (d : TypeDesc) (c : TypeId → Bool) (b : Bool) (k : IntKind) (x y : Int) : binA .add d c b (.int k x) (.int k y) = some (.int k (k.wrap (x + y))) := by simp [binA]
@[simp] theorem sub_int (d : TypeDesc) (c : TypeId → Bool) (b : Bool) (k : IntKind) (x y : Int) : binA .sub d c b (.int k x) (.int k y) = some (.int k (k.wrap (x - y))) := by simp [binA]
@[simp] theorem mul_int (d : TypeDesc) (c : TypeId → Bool) (b : Bool) (k : IntKind) (x y : Int) : binA .mul d c b (.int k x) (.int k y) = some (.int k (k.wrap (x * y))) := by simp [binA]
@[simp] theorem xor_int (d : TypeDesc) (c : TypeId → Bool) (b : Bool) (k : IntKind) (x y : Int) : binA .xor d c b (.int k x) (.int k y) = some (.int k (bitsA .xor k x y)) := by simp [binA]
@[simp] theorem and_int (d : TypeDesc) (c : TypeId → Bool) (b : Bool) (k : IntKind) (x y : Int) : binA .and d c b (.int k x) (.int k y) = some (.int k (bitsA .and k x y)) := by simp [binA]
@[simp] theorem or_int (d : TypeDesc) (c : TypeId → Bool) (b : Bool) (k : IntKind) (x y : Int) : binA .or d c b (.int k x) (.int k y) = some (.int k (bitsA .or k x y)) := by simp [binA]
theorem shr_int (d : TypeDesc) (c : TypeId → Bool) (b : Bool) (k k' : IntKind) (x s : Int) (h0 : 0 ≤ s) (h1 : s.toNat ≤ k.bits) : binA .shr d c b (.int k x) (.int k' s) = some (.int k (x.fdiv (2 ^ s.toNat))) := by
  simp [binA, Nat.min_eq_left h1, Int.not_lt.2 h0]
theorem shl_int (d : TypeDesc) (c : TypeId → Bool) (b : Bool) (k k' : IntKind) (x s : Int) (h0 : 0 ≤ s) (h1 : s.toNat ≤ k.bits) : binA .shl d c b (.int k x) (.int k' s) = some (.int k (k.wrap (x * 2 ^ s.toNat))) := by
  simp [binA, Nat.min_eq_left h1, Int.not_lt.2 h0]
@[simp] theorem condK_t {β : Type} (a b : Option β) : condK (.bool true) a b = a := rfl
@[simp] theorem condK_f {β : Type} (a b : Option β) : condK (.bool false) a b = b := rfl
@[simp] theorem splitK_t {β : Type} (a b : Option β) : splitK (.bool true) a b = a := rfl
@[simp] theorem splitK_f {β : Type} (a b : Option β) : splitK (.bool false) a b = b := rfl
theorem condK_dec {β : Type} (p : Prop) [Decidable p] (a b : Option β) : condK (.bool (decide p)) a b = if p then a else b := by
  by_cases h : p <;> simp [h]
theorem splitK_dec {β : Type} (p : Prop) [Decidable p] (a b : Option β) : splitK (.bool (decide p)) a b = if p then a else b := by
  by_cases h : p <;> simp [h]
@[simp] theorem cvI_int (k k' : IntKind) (x : Int) : cvI k (.int k' x) = some (.int k (k.wrap x)) := rfl
@[simp] theorem loadA_ip1 (e : AV) (H : List AObj) : loadA false 1 (.ip [e]) H = some e := rfl
theorem ixA_lst {z : Nat} {es : List AV} {k : IntKind} {i : Int} {e : AV} {H : List AObj} (h0 : 0 ≤ i) (h : es[i.toNat]? = some e) (hz : e.cells.length = z) : ixA z (.lst es) (.int k i) H = some (.ip e.cells) := by
  simp [ixA, indexA, h0, h, hz]
theorem ixA_bys {l : List UInt8} {k : IntKind} {i : Nat} {b : UInt8} {H : List AObj} (h : l[i]? = some b) : ixA 1 (bys l) (.int k i) H = some (.ip [u8 b]) := by
  unfold bys
  exact ixA_lst (e := u8 b) (by omega) (by simp [h]) rfl
end Go.Pm
