/- A part of the proof: what the functions of the program answer, as plain lists and numbers. -/
import Derived.Shelf.SlIter.Nil
import Derived.Shelf.SortM.Plain
import Derived.Shelf.SortM.SortNone
import Derived.Test.YtahipmiaknbkoaaP2
import Derived.Test.YtahipmiaknbkoaaP9
import Derived.Test.YtahipmiaknbkoaaP10
import Derived.Test.YtahipmiaknbkoaaP11
import Derived.Test.YtahipmiaknbkoaaP12
import Derived.Test.YtahipmiaknbkoaaP13
import Derived.Test.YtahipmiaknbkoaaP14
import Derived.Test.YtahipmiaknbkoaaP15
import Derived.Test.YtahipmiaknbkoaaP16
namespace Go.Proofs
open Go.Shelf
set_option linter.unusedVariables false
set_option linter.unusedSimpArgs false
def Try.keys44_ren : Go.Shelf.Ren := ⟨fun | 7 => 44 | 10 => 51 | n => n, fun | 23 => 55 | 26 => 9 | 3 => 59 | 28 => 79 | 0 => 0 | 27 => 78 | 33 => 61 | 4 => 4 | n => n, fun | n => n⟩
theorem Try.keys44 : Go.Proofs.SlLaysZ.n7 Try.prog Try.keys44_ren := {
  mixed := by kernel_rfl
  f7 := ⟨Try.f44.name, by decide, Try.func44.trans (congrArg some (by kernel_rfl))⟩
  f10 := ⟨Try.f51.name, by decide, Try.func51.trans (congrArg some (by kernel_rfl))⟩
  t0 := Try.underlying0
  a0 := Try.isAgg0
  z0 := Try.sizeOf0
  v0 := Try.zeroValue0
  t4 := Try.underlying4
  a4 := Try.isAgg4
  z4 := Try.sizeOf4
  v4 := Try.zeroValue4
  t23 := Try.underlying55
  a23 := Try.isAgg55
  z23 := Try.sizeOf55
  v23 := Try.zeroValue55
  t26 := Try.underlying9
  a26 := Try.isAgg9
  z26 := Try.sizeOf9
  v26 := Try.zeroValue9
  t27 := Try.underlying78
  a27 := Try.isAgg78
  z27 := Try.sizeOf78
  v27 := Try.zeroValue78
  t28 := Try.underlying79
  a28 := Try.isAgg79
  z28 := Try.sizeOf79
  v28 := Try.zeroValue79
  t33 := Try.underlying61
  a33 := Try.isAgg61
  z33 := Try.sizeOf61
  v33 := Try.zeroValue61 }
def Try.sorted43_ren : Go.Shelf.Ren := ⟨fun | 6 => 43 | 8 => 49 | 9 => 50 | 11 => 53 | 13 => 55 | 12 => 54 | 23 => 65 | 24 => 66 | 14 => 56 | 15 => 57 | 16 => 58 | 17 => 59 | 18 => 60 | 19 => 61 | 20 => 62 | 21 => 63 | 22 => 64 | 25 => 67 | 26 => 68 | 27 => 69 | 28 => 70 | 29 => 71 | 30 => 72 | 31 => 73 | n => n, fun | 26 => 9 | 28 => 79 | 24 => 64 | 0 => 0 | 3 => 3 | 37 => 81 | 48 => 66 | 50 => 113 | 4 => 4 | 40 => 104 | 39 => 103 | 45 => 109 | 5 => 5 | 9 => 9 | 51 => 114 | 55 => 118 | 57 => 120 | 58 => 121 | 33 => 61 | n => n, fun | n => n⟩
theorem Try.sorted43 : Go.Proofs.SlLaysZ.n6 Try.prog Try.sorted43_ren := {
  mixed := by kernel_rfl
  f6 := ⟨Try.f43.name, by decide, Try.func43.trans (congrArg some (by kernel_rfl))⟩
  f8 := ⟨Try.f49.name, by decide, Try.func49.trans (congrArg some (by kernel_rfl))⟩
  f11 := ⟨Try.f53.name, by decide, Try.func53.trans (congrArg some (by kernel_rfl))⟩
  t0 := Try.underlying0
  a0 := Try.isAgg0
  z0 := Try.sizeOf0
  v0 := Try.zeroValue0
  t24 := Try.underlying64
  a24 := Try.isAgg64
  z24 := Try.sizeOf64
  v24 := Try.zeroValue64
  t26 := Try.underlying9
  a26 := Try.isAgg9
  z26 := Try.sizeOf9
  v26 := Try.zeroValue9
  t28 := Try.underlying79
  a28 := Try.isAgg79
  z28 := Try.sizeOf79
  v28 := Try.zeroValue79
  i26 := by kernel_rfl }
def Try.sort50_ren : Go.Shelf.Ren := ⟨fun | 6 => 50 | 8 => 55 | 9 => 54 | 19 => 65 | 20 => 66 | 21 => 56 | 22 => 57 | 23 => 58 | 24 => 59 | 25 => 60 | 26 => 61 | 27 => 62 | 28 => 63 | 29 => 64 | 36 => 67 | 31 => 68 | 32 => 69 | 37 => 70 | 38 => 71 | 39 => 72 | 41 => 73 | n => n, fun | 27 => 64 | 29 => 9 | 3 => 3 | 32 => 81 | 26 => 64 | 0 => 0 | 44 => 66 | 46 => 113 | 4 => 4 | 36 => 104 | 35 => 103 | 41 => 109 | 5 => 5 | 9 => 9 | 53 => 114 | 57 => 118 | 63 => 120 | 64 => 121 | n => n, fun | n => n⟩
theorem Try.sort50 : Go.Proofs.SlLaysM.n6 Try.prog Try.sort50_ren := {
  mixed := by kernel_rfl
  f6 := ⟨Try.f50.name, by decide, Try.func50.trans (congrArg some (by kernel_rfl))⟩
  f8 := Try.func55.trans (congrArg some (by kernel_rfl))
  f9 := ⟨Try.f54.name, by decide, Try.func54.trans (congrArg some (by kernel_rfl))⟩
  f19 := Try.func65.trans (congrArg some (by kernel_rfl))
  f20 := Try.func66.trans (congrArg some (by kernel_rfl))
  f21 := ⟨Try.f56.name, by decide, Try.func56.trans (congrArg some (by kernel_rfl))⟩
  f22 := ⟨Try.f57.name, by decide, Try.func57.trans (congrArg some (by kernel_rfl))⟩
  f23 := ⟨Try.f58.name, by decide, Try.func58.trans (congrArg some (by kernel_rfl))⟩
  f24 := ⟨Try.f59.name, by decide, Try.func59.trans (congrArg some (by kernel_rfl))⟩
  f25 := ⟨Try.f60.name, by decide, Try.func60.trans (congrArg some (by kernel_rfl))⟩
  f26 := ⟨Try.f61.name, by decide, Try.func61.trans (congrArg some (by kernel_rfl))⟩
  f27 := ⟨Try.f62.name, by decide, Try.func62.trans (congrArg some (by kernel_rfl))⟩
  f28 := ⟨Try.f63.name, by decide, Try.func63.trans (congrArg some (by kernel_rfl))⟩
  f29 := ⟨Try.f64.name, by decide, Try.func64.trans (congrArg some (by kernel_rfl))⟩
  f31 := Try.func68.trans (congrArg some (by kernel_rfl))
  f32 := Try.func69.trans (congrArg some (by kernel_rfl))
  f36 := ⟨Try.f67.name, by decide, Try.func67.trans (congrArg some (by kernel_rfl))⟩
  f37 := ⟨Try.f70.name, by decide, Try.func70.trans (congrArg some (by kernel_rfl))⟩
  f38 := ⟨Try.f71.name, by decide, Try.func71.trans (congrArg some (by kernel_rfl))⟩
  f39 := ⟨Try.f72.name, by decide, Try.func72.trans (congrArg some (by kernel_rfl))⟩
  f41 := ⟨Try.f73.name, by decide, Try.func73.trans (congrArg some (by kernel_rfl))⟩
  t0 := Try.underlying0
  a0 := Try.isAgg0
  z0 := Try.sizeOf0
  v0 := Try.zeroValue0
  t3 := Try.underlying3
  a3 := Try.isAgg3
  z3 := Try.sizeOf3
  v3 := Try.zeroValue3
  t4 := Try.underlying4
  a4 := Try.isAgg4
  z4 := Try.sizeOf4
  v4 := Try.zeroValue4
  t5 := Try.underlying5
  a5 := Try.isAgg5
  z5 := Try.sizeOf5
  v5 := Try.zeroValue5
  t9 := Try.underlying9
  a9 := Try.isAgg9
  z9 := Try.sizeOf9
  v9 := Try.zeroValue9
  t26 := Try.underlying64
  a26 := Try.isAgg64
  z26 := Try.sizeOf64
  v26 := Try.zeroValue64
  t27 := Try.underlying64
  a27 := Try.isAgg64
  z27 := Try.sizeOf64
  v27 := Try.zeroValue64
  t29 := Try.underlying9
  a29 := Try.isAgg9
  z29 := Try.sizeOf9
  v29 := Try.zeroValue9
  t32 := Try.underlying81
  a32 := Try.isAgg81
  z32 := Try.sizeOf81
  v32 := Try.zeroValue81
  t35 := Try.underlying103
  a35 := Try.isAgg103
  z35 := Try.sizeOf103
  v35 := Try.zeroValue103
  t36 := Try.underlying104
  a36 := Try.isAgg104
  z36 := Try.sizeOf104
  v36 := Try.zeroValue104
  t41 := Try.underlying109
  a41 := Try.isAgg109
  z41 := Try.sizeOf109
  v41 := Try.zeroValue109
  t44 := Try.underlying66
  a44 := Try.isAgg66
  z44 := Try.sizeOf66
  v44 := Try.zeroValue66
  t46 := Try.underlying113
  a46 := Try.isAgg113
  z46 := Try.sizeOf113
  v46 := Try.zeroValue113
  t53 := Try.underlying114
  a53 := Try.isAgg114
  z53 := Try.sizeOf114
  v53 := Try.zeroValue114
  t57 := Try.underlying118
  a57 := Try.isAgg118
  z57 := Try.sizeOf118
  v57 := Try.zeroValue118
  t63 := Try.underlying120
  a63 := Try.isAgg120
  z63 := Try.sizeOf120
  v63 := Try.zeroValue120
  t64 := Try.underlying121
  a64 := Try.isAgg121
  z64 := Try.sizeOf121
  v64 := Try.zeroValue121 }
open Go.RowKit Go.Maps Go.Sort Go.Shelf
theorem Try.sorts43 (m : Nat) : AnyZ.SortsIn Try.prog Try.sorted43_ren Fence.wide m :=
  ⟨fun blk off cap ss W hH hblk hsz => callsIn_wide.2 (AnyM.slices_Sort_string Try.sort50 blk off cap ss W hH hblk hsz),
   fun p cap W => callsIn_wide.2 (AnyM.slices_Sort_string_none Try.sort50 p cap W)⟩

set_option maxHeartbeats 1000000 in
theorem Try.sorted_box {H : Type} (p b nn : Nat) (D0 : DataW H) (R : Value → Option (DataW H × List MemPlace)) (w : World) (hp : p < w.heap.size) (hc : w.cell? ⟨p, 0, none⟩ = some (.map (some b))) (hown : w.ownsMap Try.prog 9 R b nn D0) (hmax : Maps.size D0 ≤ maxLen) (hbytes : Maps.size D0 * 16 ≤ 140737488355328) :
    CallsIn Fence.wide 5 Try.prog 43 #[.func (.func 51) #[] #[.pointer (some ⟨p, 0, none⟩)]] w fun e w' => ∃ (v : Value) (ss : List (List UInt8)), e = .returned v ∧ ss.Perm (strKeys D0) ∧
      w'.ownsRow w.heap.size 9 1 v ss.length ((ss.mergeSort (fun x y => decide (x ≤ y))).map encStr) ∧ (v = .slice none 0 0 ↔ ss = []) ∧ Below w.heap.size w w' := by
  have hseq : SeqGives Fence.wide 2 Try.prog 51 #[.pointer (some ⟨p, 0, none⟩)] encStr (fun ss => ss.Perm (strKeys D0)) (Maps.size D0) w :=
    AnyZ.keys_gives (ρ := Try.keys44_ren) { Try.keys44 with } Fence.wide _ trivial rfl (by omega) p b nn D0 w hp hc hown
  exact AnyZ.sorted_in Try.sorted43 Fence.wide 5 trivial trivial trivial trivial rfl (by omega) (Try.sorts43 _) (enters_of Try.func50 (by kernel_rfl) rfl) 51 _ trivial (enters_of Try.func51 (by kernel_rfl) rfl) _ _ hmax hbytes _ hseq
end Go.Proofs
