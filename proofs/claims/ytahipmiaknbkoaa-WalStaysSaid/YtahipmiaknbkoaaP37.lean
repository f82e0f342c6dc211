/- A part of the proof: what the functions of the program answer, as plain lists and numbers. -/
import Derived.Test.YtahipmiaknbkoaaP36
namespace Go.Pm
set_option linter.unusedVariables false
set_option linter.unusedSimpArgs false
theorem numL_four (v : Nat) (h : v < 2^32) (t : List UInt8) : numL (fourL v ++ t) = v := by
  unfold fourL
  simp only [List.cons_append, List.nil_append, numL, UInt8.toNat_ofNat']
  omega
theorem rec_shift (p X : List UInt8) : recAt (p ++ X) p.length = recAt X 0 := by
  unfold recAt
  have hs : ∀ i j, sub (p ++ X) (p.length + i) (p.length + j) = sub X i j := fun i j => by
    rw [sub_eq, sub_eq, List.drop_append, List.drop_of_length_le (by omega), List.nil_append]
    congr 1
    · omega
    · congr 1; omega
  have h0 := hs 0 4
  rw [Nat.add_zero] at h0
  rw [h0, hs 4 8]
  dsimp only [Nat.zero_add]
  rw [Nat.add_assoc p.length 8, hs 8 (8 + numL (sub X 0 4)), List.length_append]
  simp only [Nat.zero_add, Nat.add_le_add_iff_left]
theorem four_len (v : Nat) : (fourL v).length = 4 := rfl
theorem rec_frame (r t : List UInt8) (h : r.length ≤ 2097152) : recAt (frame r ++ t) 0 = some r := by
  have hX : frame r ++ t = fourL r.length ++ (fourL (crc (fourL r.length ++ r)) ++ (r ++ t)) := by unfold frame; simp only [List.append_assoc]
  have s0 : sub (frame r ++ t) 0 (0 + 4) = fourL r.length := by rw [sub_eq, hX, List.drop_zero]; exact List.take_left' rfl
  have s4 : sub (frame r ++ t) (0 + 4) (0 + 8) = fourL (crc (fourL r.length ++ r)) := by
    rw [sub_eq, hX, List.drop_left' (by rfl)]; exact List.take_left' rfl
  have n0 : numL (fourL r.length) = r.length := by have := numL_four r.length (by omega) []; rwa [List.append_nil] at this
  have n4 : numL (fourL (crc (fourL r.length ++ r))) = crc (fourL r.length ++ r) := by have := numL_four _ (crc_lt (fourL r.length ++ r)) []; rwa [List.append_nil] at this
  have s8 : sub (frame r ++ t) (0 + 8) (0 + 8 + r.length) = r := by
    rw [sub_eq, hX, ← List.append_assoc, List.drop_left' (by rfl)]; exact List.take_left' (by omega)
  unfold recAt
  rw [if_pos (by rw [List.length_append, frame_len]; omega), s0, n0, s4, n4]
  dsimp only [Nat.zero_add]
  rw [Nat.zero_add] at s8
  rw [s8]
  rw [if_pos ⟨h, by rw [List.length_append, frame_len]; omega⟩, if_pos rfl]
theorem rec_part (r : List UInt8) (h : r.length ≤ 2097152) (j : Nat) (hj : j < (frame r).length) : recAt ((frame r).take j) 0 = none := by
  rw [frame_len] at hj
  unfold recAt
  by_cases h8 : 0 + 8 ≤ ((frame r).take j).length
  · rw [if_pos h8]
    rw [List.length_take, frame_len] at h8
    have s0 : numL (sub ((frame r).take j) 0 (0 + 4)) = r.length := by
      have n0 : numL (fourL r.length) = r.length := by have := numL_four r.length (by omega) []; rwa [List.append_nil] at this
      rw [sub_eq, List.drop_zero, List.take_take]
      have : frame r = fourL r.length ++ (fourL (crc (fourL r.length ++ r)) ++ r) := rfl
      rw [this, show min (0 + 4 - 0) j = (fourL r.length).length by rw [four_len]; omega, List.take_left, n0]
    dsimp only
    rw [s0, if_neg (by rw [List.length_take, frame_len]; omega)]
  · rw [if_neg h8]
theorem rec_nil : recAt [] 0 = none := rfl
/-- a beginning of frames -/
theorem scan_frames : ∀ (b : List (List UInt8)) (p : List UInt8) (m j : Nat), (∀ r ∈ b, r.length ≤ 2097152) → ((framesF b).take j).length ≤ m →
    ∃ k, k ≤ b.length ∧ (scanF (p ++ (framesF b).take j) m p.length).1 = b.take k ∧ (k < b.length → j < (framesF (b.take (k + 1))).length) ∧ (scanF (p ++ (framesF b).take j) m p.length).2 = p.length + (framesF (b.take k)).length
  | b, p, 0, j, h, hm => by
    refine ⟨0, Nat.zero_le _, by simp [scanF], fun q => ?_, by simp [scanF, framesF]⟩
    rw [List.length_take] at hm
    cases b with
    | nil => cases q
    | cons r b =>
      rw [framesF_cons, List.length_append, frame_len] at hm
      rw [List.take_succ_cons, framesF_cons, List.length_append, frame_len]; omega
  | [], p, m + 1, j, h, hm => by
    refine ⟨0, Nat.le_refl _, ?_⟩
    unfold scanF
    rw [rec_shift]
    simp [framesF, rec_nil]
  | r :: b, p, m + 1, j, h, hm => by
    have hr := h r (by simp)
    rw [framesF_cons] at hm ⊢
    by_cases hj : j < (frame r).length
    · refine ⟨0, Nat.zero_le _, ?_⟩
      rw [List.take_append_of_le_length (by omega)]
      unfold scanF
      rw [rec_shift, rec_part r hr j hj]
      refine ⟨rfl, fun q => ?_, ?_⟩
      · rw [List.take_succ_cons, framesF_cons, List.length_append]; omega
      · simp [framesF]
    · have ht : (frame r ++ framesF b).take j = frame r ++ (framesF b).take (j - (frame r).length) := by
        rw [List.take_append, List.take_of_length_le (by omega)]
      rw [ht, List.length_append] at hm
      have hfl := frame_len r
      obtain ⟨k, h1, h2, h3, h4⟩ := scan_frames b (p ++ frame r) m (j - (frame r).length) (fun x hx => h x (by simp [hx])) (by omega)
      rw [List.length_append, hfl, List.append_assoc] at h2 h4
      refine ⟨k + 1, by simp; omega, ?_⟩
      rw [ht]
      unfold scanF
      rw [rec_shift, rec_frame r _ hr]
      dsimp only
      rw [Nat.add_assoc p.length 8]
      rw [← hfl] at h2 h4 ⊢
      rw [h2, h4]
      refine ⟨by simp, fun q => ?_, ?_⟩
      · rw [List.take_succ_cons, framesF_cons, List.length_append]
        have := h3 (by simp at q; omega)
        omega
      · rw [List.take_succ_cons, framesF_cons, List.length_append]; omega
theorem frames_take (b : List (List UInt8)) (k : Nat) : (framesF (b.take k)).length ≤ (framesF b).length := by
  conv => rhs; rw [← List.take_append_drop k b]
  rw [framesF_app, List.length_append]; omega
/-- frames of a, then a beginning of those of b -/
theorem scan_ab (a b : List (List UInt8)) (ha : ∀ r ∈ a, r.length ≤ 2097152) (hb : ∀ r ∈ b, r.length ≤ 2097152) (j : Nat) :
    ∃ k, k ≤ b.length ∧ (scanF (framesF a ++ (framesF b).take j) (framesF a ++ (framesF b).take j).length 0).1 = a ++ b.take k ∧ ((framesF b).length ≤ j → k = b.length) ∧
      (scanF (framesF a ++ (framesF b).take j) (framesF a ++ (framesF b).take j).length 0).2 = (framesF a).length + (framesF (b.take k)).length := by
  have ht : (framesF (a ++ b)).take ((framesF a).length + j) = framesF a ++ (framesF b).take j := by
    rw [framesF_app, List.take_append, List.take_of_length_le (by omega), Nat.add_sub_cancel_left]
  obtain ⟨k, h1, h2, h3, h4⟩ := scan_frames (a ++ b) [] (framesF a ++ (framesF b).take j).length ((framesF a).length + j) (fun r hr => (List.mem_append.1 hr).elim (ha r) (hb r)) (by rw [ht]; exact Nat.le_refl _)
  rw [ht] at h2 h4
  simp only [List.nil_append, List.length_nil, Nat.zero_add] at h2 h4
  have hk : a.length ≤ k := by
    rcases Nat.lt_or_ge k a.length with q | q
    · have h5 := h3 (by rw [List.length_append]; omega)
      rw [List.take_append_of_le_length (by omega)] at h5
      have := frames_take a (k + 1)
      omega
    · exact q
  rw [List.length_append] at h1
  have e : (a ++ b).take k = a ++ b.take (k - a.length) := by rw [List.take_append, List.take_of_length_le hk]
  rw [e] at h2 h4
  refine ⟨k - a.length, by omega, h2, fun q => ?_, by rw [h4, framesF_app, List.length_append]⟩
  rcases Nat.lt_or_ge k (a.length + b.length) with w | w
  · have h5 := h3 (by rw [List.length_append]; omega)
    have h6 := frames_take (a ++ b) (k + 1)
    rw [framesF_app, List.length_append] at h6
    omega
  · omega
/-- whole frames -/
theorem scan_all (a : List (List UInt8)) (ha : ∀ r ∈ a, r.length ≤ 2097152) : scanF (framesF a) (framesF a).length 0 = (a, (framesF a).length) := by
  obtain ⟨k, h1, h2, h3, h4⟩ := scan_ab a [] ha (fun r hr => by cases hr) 0
  simp only [framesF, List.map_nil, List.flatten_nil, List.take_nil, List.append_nil, List.length_nil, Nat.add_zero] at h2 h4
  exact Prod.ext h2 h4
end Go.Pm
