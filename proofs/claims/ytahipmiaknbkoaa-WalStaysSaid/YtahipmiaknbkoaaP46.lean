/- A part of the proof: what the functions of the program answer, as plain lists and numbers. -/
import Derived.Test.YtahipmiaknbkoaaP2
import Derived.Test.YtahipmiaknbkoaaP45
namespace Go.Pm
open Go.Proofs
set_option linter.unusedVariables false
theorem ent_sum {X : Cx} : ∀ {es : List (AV × AV)} {cs : List MapEntry} {s : Nat}, EntM X es cs → sumLen es = some s →
    (∀ x ∈ cs, ∃ (A : Option Addr) (n c : Nat) (k : IntKind) (y : Int), x.val = .agg #[.slice A n c, .int k y]) ∧ ((cs.map PmRoom.gE).map fun e => valOf e.val).sum = (s : Int)
  | [], cs, s, hm, hs => by
    unfold EntM at hm
    subst hm
    unfold sumLen at hs
    injection hs with hs
    subst hs
    exact ⟨fun x hx => (by cases hx), rfl⟩
  | p :: es, cs, s, hm, hs => by
    unfold EntM at hm
    obtain ⟨e, r, rfl, _, h2, h3⟩ := hm
    unfold sumLen at hs
    cases hf : fileLen p.2 with
    | none => rw [hf] at hs; cases hs
    | some n =>
      rw [hf, Option.bind_some] at hs
      cases ht : sumLen es with
      | none => rw [ht] at hs; cases hs
      | some t =>
        rw [ht] at hs
        injection hs with hs
        have hs : n + t = s := hs
        obtain ⟨k1, k2⟩ := ent_sum h3 ht
        have hv : ∃ (A : Option Addr) (c : Nat) (y : Int), e.val = .agg #[.slice A n c, .int .i64 y] := by
          unfold fileLen at hf
          split at hf
          · rename_i bs y hp
            injection hf with hf
            rw [hp] at h2
            unfold M at h2
            obtain ⟨vs, e1, h4⟩ := h2
            unfold Ms at h4
            obtain ⟨u1, us, e2, g1, h4⟩ := h4
            unfold Ms at h4
            obtain ⟨u2, us2, e3, g2, h4⟩ := h4
            unfold Ms at h4
            unfold M at g1 g2
            obtain ⟨A, c, g3, _⟩ := g1
            refine ⟨A, c, y, ?_⟩
            rw [e1]
            congr 1
            apply Array.toList_inj.1
            rw [e2, e3, h4, g3, g2, hf]
          · cases hf
        obtain ⟨A, c, y, hv⟩ := hv
        refine ⟨fun x hx => ?_, ?_⟩
        · rcases List.mem_cons.1 hx with rfl | hx
          · exact ⟨A, n, c, .i64, y, hv⟩
          · exact k1 x hx
        · have hl : valOf (PmRoom.gE e).val = (n : Int) := by show PmRoom.lnV e.val = _; rw [hv]; rfl
          rw [List.map_cons, List.map_cons, List.sum_cons, k2, hl, ← hs]
          omega
theorem roomF_ok : ∀ a H r, roomF a H = some r → SpecR C.P C.G n_disk_Disk_Room a H r := by
  intro a H r hr
  unfold roomF at hr
  split at hr
  · rename_i D
    split at hr
    · rename_i sz L x1 x2 x3 x4 hD
      split at hr
      · rename_i es hL
        cases hs : sumLen es with
        | none => rw [hs] at hr; cases hr
        | some s =>
          rw [hs, Option.bind_some] at hr
          split at hr
          · rename_i hc
            injection hr with hr; subst hr
            intro X args hH hR hM
            subst hH
            unfold Ms at hM
            obtain ⟨v1, vs1, e1, g1, hM⟩ := hM
            unfold Ms at hM
            unfold M at g1
            obtain ⟨_, _, g1⟩ := g1
            obtain ⟨b, z, hrow, hi, hv1⟩ := g1 (by unfold lenOf; rw [hD]; rfl)
            obtain ⟨rfl, _, hme, _⟩ := hR.rows D 6 _ b z hD hi
            unfold Me at hme
            obtain ⟨⟨_, hmc⟩, _⟩ := hme
            unfold Mc at hmc
            obtain ⟨⟨u0, c0, m0⟩, hmc⟩ := hmc
            unfold Mc at hmc
            obtain ⟨⟨u1, c1, m1⟩, _⟩ := hmc
            unfold M at m0 m1
            obtain ⟨bm, z2, hi2, hu1⟩ := m1.2 (by rw [hL]; trivial)
            obtain ⟨cs, clock, hb, hent, hst, _⟩ := hR.maps.1 L es bm z2 hL hi2
            obtain ⟨hvs, hsum⟩ := ent_sum hent hs
            rw [m0, ← cell?_plain] at c0
            rw [hu1, ← cell?_plain] at c1
            have ha : args = #[.pointer (some ⟨b, 0, none⟩)] := by
              apply Array.toList_inj.1
              rw [e1, hM, hv1]
            subst ha
            have key := PmRoom.room_any b bm cs clock X.w sz c0 c1 hb hst hc.1 (by have := hc.2.1; omega) (s : Int) hsum.symm (by have := hc.2.2; omega) hvs
            refine Calls.mono key ?_
            rintro e w' ⟨h1, h2, h3⟩
            obtain ⟨k1, k2, _⟩ := push_im (w' := w') hR (fun j hj => h2.block j hj (by simp)) h3 h2.tape h2.os h2.output
            exact ⟨.int .i64 (sz - s), ⟨X.F, X.ι, X.H, w'⟩, rfl, h1, rfl, k1, k2, EscI.refl _, by unfold M; rfl⟩
          · cases hr
      · cases hr
    · cases hr
  · cases hr
end Go.Pm
