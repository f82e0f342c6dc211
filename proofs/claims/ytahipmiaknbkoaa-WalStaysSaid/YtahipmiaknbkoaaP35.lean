/- A part of the proof: what the functions of the program answer, as plain lists and numbers. -/
import Derived.Test.YtahipmiaknbkoaaP34
namespace Go.Pm
open Go.Proofs
set_option linter.unusedVariables false
set_option linter.unusedSimpArgs false
abbrev KK := AV → List AObj → List Nat → Option R3
theorem At_new (H : List AObj) (sz : Int) : At (H ++ [fobj [], drow H.length (newD sz)]) H.length (H.length + 1) (newD sz) :=
  ⟨by rw [List.getElem?_append_right (Nat.le_refl _)]; simp [newD], by rw [List.getElem?_append_right (by omega)]; simp, by omega⟩
theorem New_K (sz : Int) (h0 : 0 ≤ sz) (h1 : sz ≤ 67108864) (H : List AObj) : ∃ H', At H' H.length (H.length + 1) (newD sz) ∧ ∀ K : KK, callK (EV C) true n_disk_New [.int .i64 sz] H K = K (.tup [.ptr (H.length + 1) 1 0 0, .nili]) H' [] :=
  ⟨_, At_new H sz, fun K => callK_raw (New_ok sz h0 h1 H)⟩
theorem open_new (sz : Int) : openF (newD sz) = (0, [], newD sz) := by
  unfold openF
  rw [show cleanF (newD sz) = (0, newD sz) from rfl]
  rfl
theorem Open_K {d : Dk} (ho : d.ok) (hon : d.off = false) {H : List AObj} {L D : Nat} (ha : At H L D d) : ∃ H' W, Wt H' L D W (openF d).2.2 ∧ ∀ K : KK, callK (EV C) true n_wal_Open [.ptr D 1 0 0] H K = K (openV W (openF d)) H' [] := by
  refine ⟨pt H L D (openF d).2.2 ++ [wrow D], H.length, ⟨(ha.pt _).app _, ?_, ha.dl⟩, fun K => callK_raw (Open_ok ho hon ha)⟩
  rw [List.getElem?_append_right (by rw [pt_len]; omega), pt_len]; simp
theorem ptr_nil (t : TypeId) (b : Bool) (D : Nat) : binA .eql (Go.TypeDesc.pointer t) (cmpT Try.prog) b (.ptr D 1 0 0) .nilp = some (.bool false) := rfl
theorem nil_neq (ms : Array (String × TypeId)) : binA .neq (.interface ms) (cmpT Try.prog) true .nili .nili = some (.bool false) := rfl
theorem nil_eql (ms : Array (String × TypeId)) : binA .eql (.interface ms) (cmpT Try.prog) true .nili .nili = some (.bool true) := rfl
theorem appendF_go {d : Dk} {nm b : List UInt8} (hoff : d.off = false) (hn : namedF nm = true) (hr : (b.length : Int) ≤ roomOf d) (h8 : (getL nm d.fs).isNone = true → d.fs.length < 8) : appendF d nm b = stepE (putF d nm ⟨(fileOf nm d).b ++ b, (fileOf nm d).sy⟩) := by
  unfold appendF
  rw [if_neg (by rw [hoff]; simp), if_pos hn, if_neg (by omega), if_neg (fun q => by have := h8 q.1; omega)]
end Go.Pm
