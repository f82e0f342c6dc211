/- A part of the proof: what the functions of the program answer, as plain lists and numbers. -/
import Derived.Test.YtahipmiaknbkoaaP7
import Derived.Test.YtahipmiaknbkoaaP8
import Derived.Test.YtahipmiaknbkoaaP10
import Derived.Test.YtahipmiaknbkoaaP12
import Derived.Test.YtahipmiaknbkoaaP14
namespace Go.Pm
open Go.Proofs
set_option linter.unusedVariables false
set_option linter.unusedSimpArgs false
set_option maxHeartbeats 1000000 in
theorem DiskStays_ok (b : List UInt8) : EV C n_law15_DiskStays [bys b] [] = some (.bool true, [], []) := by
  refine law15_DiskStays_of ?_
  dsimp only
  have o0 := newD_ok (sz := 1048576) (by decide) (by decide)
  obtain ⟨H1, g1, k1⟩ := New_K 1048576 (by decide) (by decide) []
  rw [callK_ok rfl law15_up_ok, k1]
  simp -implicitDefEqProofs only [extA_0, extA_1, Option.bind_some, ptr_nil, ptr_nnil, nil_neq, nil_eql, splitK_f, splitK_t, List.length_nil, Nat.zero_add, lenV_bys, gtr_int, condK_dec] at g1 ⊢
  by_cases h1 : (5000 : Int) < (b.length : Int)
  · rw [if_pos h1]; exact endB_good rfl
  · rw [if_neg h1]
    have hD : Dt (H1 ++ [.row 1 (([] : List UInt8).map u8)]) 0 1 H1.length (newD 1048576) [] := by
      have := g1.dl
      exact ⟨g1.app _, by simp, by omega, by omega⟩
    obtain ⟨H2, g2, k2⟩ := hD.app b (by simp; omega)
    rw [show ∀ K : KK, rawK 1 0 (.int .u8 0) [] H1 K = K (.slc H1.length 0 ([] : List UInt8).length ([] : List UInt8).length) (H1 ++ [.row 1 (([] : List UInt8).map u8)]) [] from fun _ => rfl, k2]
    rw [List.nil_append] at g2 ⊢
    obtain ⟨p1, p2, p3, p4⟩ := append_free (n := 20) (nm := nA) (b := b) (new_free 1048576 _) (by decide) named_A (by show _ ≤ (1048576 : Int) - ((totF [] : Nat) : Int); simp [totF]; omega) (fun _ => by decide)
    have q1 : (appendF (newD 1048576) nA b).2.fs = [(nA, ⟨b, 0⟩)] := p1.trans rfl
    have hA := Append_r o0 nA b (by omega) g2.a g2.r
    have o1 := append_ok' o0 nA b
    rw [p3] at hA
    rw [show (AV.str { data := #[97] }) = sv nA from rfl, callK_raw hA]
    have g3 := g2.pt (appendF (newD 1048576) nA b).2
    generalize (appendF (newD 1048576) nA b).2 = d1 at *
    generalize pt H2 0 1 d1 = H3 at *
    dsimp only
    have hcv : cvL (.slc H1.length 0 b.length b.length) H3 = some (.str ⟨b.toArray⟩) := by
      have e : elemsA (.slc H1.length 0 b.length b.length) H3 = some (b.map u8) := by
        simp only [elemsA, g3.r, List.length_map, if_true, List.drop_zero]; rw [List.take_of_length_le (by simp)]
      unfold cvL
      dsimp only
      rw [e, Option.bind_some, toBytes_u8]; rfl
    rw [hcv, Option.bind_some, cvL_bys, Option.bind_some, eql_str, decide_eq_true rfl, Option.bind_some, show erA 0 = .nili from rfl]
    exact stays_J9 (b := b) o1 p4.1 (show getL nA d1.fs = some ⟨b, 0⟩ by rw [q1, getNA]) rfl (by omega) (by omega) b.length 0 _ _ b (by omega) rfl g3
end Go.Pm
namespace Go.Pm
open Go.Proofs
set_option linter.unusedVariables false
set_option linter.unusedSimpArgs false
theorem C_I : ∀ f F a H r, C.I f = some F → F a H = some r → SpecR C.P C.G f a H r :=
  addI_ok roomF_ok (addI_ok sortF_ok (addI_ok isF_ok (clone_ok (C0 := C0) (fun f => rfl))))
theorem choose_map {α β : Type} {f : β → AV} {g : α → AV} : ∀ {l : List α}, (∀ a ∈ l, ∃ b, g a = f b) → ∃ l' : List β, l'.length = l.length ∧ l.map g = l'.map f
  | [], _ => ⟨[], rfl, rfl⟩
  | a :: l, h => by
    obtain ⟨b, hb⟩ := h a (by simp)
    obtain ⟨l', h1, h2⟩ := choose_map (l := l) fun x hx => h x (List.mem_cons_of_mem _ hx)
    exact ⟨b :: l', by simp [h1], by simp [hb, h2]⟩
theorem ty_int {B : Nat} {P : Program} {k : IntKind} {f : Nat} {cs : List AV} {t : TypeId} (ht : P.underlying t = some (.int k)) (h : tyC P B f t cs) : ∃ n, cs = [.int k n] ∧ k.min ≤ n ∧ n ≤ k.max := by
  cases f with
  | zero => simp [tyC] at h
  | succ f =>
    simp only [tyC, ht] at h
    obtain ⟨n, h1, h2, h3⟩ := h
    exact ⟨n, h1, h2, h3⟩
theorem ty_u8 {B : Nat} {P : Program} {f : Nat} {cs : List AV} {t : TypeId} (ht : P.underlying t = some (.int .u8)) (h : tyC P B f t cs) : ∃ b : UInt8, cs = [u8 b] := by
  obtain ⟨n, rfl, h1, h2⟩ := ty_int ht h
  refine ⟨UInt8.ofNat n.toNat, ?_⟩
  have a1 : IntKind.u8.min = 0 := rfl
  have a2 : IntKind.u8.max = 255 := rfl
  rw [a1] at h1; rw [a2] at h2
  rw [u8_nat]
  congr 2
  omega
theorem ty_slice {B : Nat} {P : Program} {α : Type} {g : α → AV} {f : Nat} {cs : List AV} {t e : TypeId} (ht : P.underlying t = some (.slice e)) (h : tyC P B f t cs) (hel : ∀ f cs, tyC P B f e cs → ∃ a, mkE (agT P e) cs = g a) :
    ∃ l : List α, cs = [.lst (l.map g)] ∧ l.length * P.bytesOf e ≤ B := by
  cases f with
  | zero => simp [tyC] at h
  | succ f =>
    simp only [tyC, ht] at h
    obtain ⟨ess, rfl, h1, h2⟩ := h
    obtain ⟨l, h3, h4⟩ := choose_map (f := g) (g := mkE (agT P e)) (l := ess) fun a ha => hel f a (h2 a ha).1
    exact ⟨l, by rw [h4], by rw [h3]; exact h1⟩
theorem agT_f {P : Program} {t : TypeId} {d : TypeDesc} (h : P.underlying t = some d) (hd : (match d with | .struct _ => true | .array _ _ => true | _ => false) = false) : agT P t = false := by
  unfold agT; rw [h]; cases d <;> simp at hd ⊢
variable {B : Nat} {f : Nat} {cs : List AV}
theorem ty_bytes (h : tyC Try.prog B f 22 cs) : ∃ l : List UInt8, cs = [bys l] ∧ l.length ≤ B := by
  obtain ⟨l, h1, h2⟩ := ty_slice (g := u8) Try.underlying22 h fun f cs h => by
    obtain ⟨b, rfl⟩ := ty_u8 Try.underlying5 h
    exact ⟨b, by rw [agT_f Try.underlying5 rfl]; rfl⟩
  rw [show Try.prog.bytesOf 5 = 1 from by kernel_rfl] at h2
  exact ⟨l, h1, by omega⟩
theorem ty_b {a : AV} (e : a = mkE (agT Try.prog 22) cs) (h : tyC Try.prog B f 22 cs) : ∃ l, a = bys l := by
  obtain ⟨l, rfl, _⟩ := ty_bytes h
  exact ⟨l, by rw [e, agT_f Try.underlying22 rfl]; rfl⟩
theorem diskStays_law {B0 : Nat} {a0 : AV} {u0 : Nat} {l0 : List AV} (e0 : a0 = mkE (agT Try.prog 22) l0) (y0 : tyC Try.prog B0 u0 22 l0) : EV C n_law15_DiskStays [a0] [] = some (.bool true, [], []) := by
  obtain ⟨b, rfl⟩ := ty_b e0 y0
  exact DiskStays_ok b
end Go.Pm
