/- A part of the proof: what the functions of the program answer, as plain lists and numbers. -/
import Derived.Test.YtahipmiaknbkoaaP9
import Derived.Test.YtahipmiaknbkoaaP10
import Derived.Test.YtahipmiaknbkoaaP11
import Derived.Test.YtahipmiaknbkoaaP12
import Derived.Test.YtahipmiaknbkoaaP13
import Derived.Test.YtahipmiaknbkoaaP14
import Derived.Test.YtahipmiaknbkoaaP15
import Derived.Test.YtahipmiaknbkoaaP16
import Derived.Test.YtahipmiaknbkoaaP25
import Derived.Test.YtahipmiaknbkoaaP39
namespace Go.Pm
open Go.Proofs
set_option linter.unusedVariables false
set_option linter.unusedSimpArgs false
theorem ix_row {H : List AObj} {m n i : Nat} {es : List AV} (h : H[m]? = some (.row 1 es)) (hn : es.length = n) (hi : i < n) : ixA 1 (.slc m 0 n n) (.int .i64 (i : Int)) H = some (.ptr m n i 0) := by
  simp [ixA, indexA, h, hn]; omega
theorem ld_row {H : List AObj} {m n i : Nat} {l : List UInt8} (h : H[m]? = some (.row 1 (l.map u8))) (hn : l.length = n) (hi : i < l.length) : loadA false 1 (.ptr m n i 0) H = some (u8 l[i]) := by
  simp [loadA, h, hn, ldv, List.getElem?_eq_getElem hi, AV.cells, u8]
theorem sto_u8 {H : List AObj} {m n i : Nat} {l : List UInt8} {v : UInt8} {K : List AObj → List Nat → Option R3} (h : H[m]? = some (.row 1 (l.map u8))) (hn : l.length = n) (hi : i < l.length) : stoK 1 (.ptr m n i 0) (u8 v) H K = K (H.set m (.row 1 ((l.set i v).map u8))) [] := by
  have h2 : storeA 1 (.ptr m n i 0) (u8 v) H = some (H.set m (.row 1 ((l.set i v).map u8)), []) := by
    simp [storeA, h, hn, List.getElem?_eq_getElem hi, AV.cells, u8, setC, set1, AV.one, escs, belL, AV.bel, List.map_set]
  unfold stoK; rw [h2]; rfl
theorem add_u8 (x : UInt8) : ∃ v : UInt8, binA .add (Go.TypeDesc.int Go.IntKind.u8) (cmpT Try.prog) true (u8 x) (.int .u8 1) = some (u8 v) := by
  refine ⟨UInt8.ofNat (x.toNat + 1), ?_⟩
  rw [show u8 x = .int .u8 (x.toNat : Int) from rfl, add_int]
  congr 1
end Go.Pm
