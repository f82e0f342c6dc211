/- A part of the proof: what the functions of the program answer, as plain lists and numbers. -/
import Derived.WalkKit
import Derived.RowKitTokens
import Derived.Maps.Range
import Derived.Test.YtahipmiaknbkoaaP9
import Derived.Test.YtahipmiaknbkoaaP10
import Derived.Test.YtahipmiaknbkoaaP11
import Derived.Test.YtahipmiaknbkoaaP12
import Derived.Test.YtahipmiaknbkoaaP13
import Derived.Test.YtahipmiaknbkoaaP14
import Derived.Test.YtahipmiaknbkoaaP15
import Derived.Test.YtahipmiaknbkoaaP16
namespace Go.Proofs.PmRoom
open Go.RowKit Go.MapKept Go.ChangeMaps
def lnV : Value → Int
  | .agg vs => match vs.toList with
    | .slice _ n _ :: _ => n
    | _ => 0
  | _ => 0
def gE (e : MapEntry) : MapEntry := { e with val := .int .i64 (lnV e.val) }
theorem run_entry_at {P : Program} (w : World) (r bm since : Nat) (seen : Array Nat) (es : Array MapEntry) (clock : Nat) (e : MapEntry) (hr : w.heap[r]? = some (.mapIter (some bm) since (seen.push e.born) clock)) (hb : w.heap[bm]? = some (.map es clock)) (he : e ∈ es.toList) (hn : (es.toList.map (·.born)).Nodup) :
    (Instr.entry (.pointer (some ⟨r, 0, none⟩))).run P w = .ok (.tuple #[e.key, e.val]) w := by
  have hf : es.find? (·.born == e.born) = some e := by rw [← Array.find?_toList]; exact find_born e es.toList hn he
  simp only [Instr.entry, getObj, Sem.run_bind, Sem.run, hr, hb, Result.andThen, Array.back?_push, bne_self_eq_false, Bool.false_eq_true, if_false, hf]
  rfl
theorem lnV_nn (v : Value) : 0 ≤ lnV v := by
  unfold lnV
  split
  · split <;> omega
  · omega
theorem seen_bounds (seen : Array Nat) : ∀ (l : List MapEntry), (∀ x ∈ l, 0 ≤ valOf x.val) → 0 ≤ seenSum l seen ∧ seenSum l seen ≤ (l.map fun e => valOf e.val).sum
  | [], _ => ⟨Int.le_refl _, Int.le_refl _⟩
  | x :: l, h => by
    have h1 := h x (by simp)
    have h2 := seen_bounds seen l (fun y hy => h y (by simp [hy]))
    simp only [seenSum, List.map_cons, List.sum_cons]
    split <;> omega
set_option maxRecDepth 1000000 in
set_option maxHeartbeats 4000000 in
theorem room_any (D bm : Nat) (es : Array MapEntry) (clock : Nat) (w : World) (sz : Int) (hc0 : w.cell? ⟨D, 0, none⟩ = some (.int .i64 sz)) (hc1 : w.cell? ⟨D, 1, none⟩ = some (.map (some bm)))
    (hb : w.heap[bm]? = some (.map es clock)) (hst : MapKept.Stamped es clock) (hz0 : 0 ≤ sz) (hz1 : sz < 4611686018427387904) (T : Int) (hT : T = ((es.toList.map gE).map fun e => valOf e.val).sum) (hT1 : T < 4611686018427387904) (hv : ∀ x ∈ es.toList, ∃ (A : Option Addr) (n c : Nat) (k : IntKind) (y : Int), x.val = .agg #[.slice A n c, .int k y]) :
    Calls Try.prog 23 #[.pointer (some ⟨D, 0, none⟩)] w fun e w' => e = .returned (.int .i64 (sz - T)) ∧ w.grownBy w' none ∧ w.heap.size < w'.heap.size := by
  have hrg := run_range_map (P := Try.prog) w 55 9 59 bm es clock Try.underlying55 hb
  go_enter Try.func23, Try.ntmps23
  go_wp2
  go_loopw [3] (fun s wr => ∃ (seen : Array Nat) (c0 : Nat), wr.heap[bm]? = some (.map es clock) ∧ wr.heap[w.heap.size]? = some (.mapIter (some bm) clock seen c0) ∧ clock ≤ c0 ∧ w.grownBy wr none ∧ w.heap.size < wr.heap.size ∧ s = .int .i64 (sz - seenSum (es.toList.map gE) seen)) (fun _ wr => (leftOf es (wr.iterSeen w.heap.size)).size)
  case atStart =>
    refine ⟨#[], clock, ?_, heap_alloc_new _ _, Nat.le_refl _, World.grownBy_alloc w _ none, by simp, ?_⟩
    · rw [heap_alloc_old _ _ (Array.getElem?_eq_some_iff.1 hb).1]; exact hb
    · rw [seenSum_none]; simp
  case round =>
    obtain ⟨seen, c0, q1, q2, q3, q4, q5, rfl⟩ := hrel
    have hbd := fun s => seen_bounds s (es.toList.map gE) (fun x hx => by
      obtain ⟨y, _, rfl⟩ := List.mem_map.1 hx; exact lnV_nn _)
    rw [← hT] at hbd
    have hnd : ((es.toList.map gE).map (·.born)).Nodup := by rw [List.map_map]; exact hst.2.1
    rcases run_next_at (P := Try.prog) wr 0 w.heap.size bm clock c0 seen es clock q2 q1 hst.1 q3 with ⟨h0, hrun⟩ | ⟨e, he, w1, hal, hrun⟩
    · have hnx : ∀ ty, (Instr.next (.pointer (some ⟨w.heap.size, 0, none⟩)) false ty).run Try.prog wr = _ := fun _ => hrun
      go_wp2
      go_ret
      have hall := seenSum_full seen (es.toList.map gE) (fun x hx => by
        obtain ⟨y, hy, rfl⟩ := List.mem_map.1 hx; exact all_seen es seen h0 y hy)
      rw [hall, ← hT]
      exact ⟨rfl, q4, q5⟩
    · obtain ⟨A, n, c, kd, y, hval⟩ := hv e (mem_left he).1
      rw [hval] at hrun
      have hne : bm ≠ w.heap.size := fun h => by have := (Array.getElem?_eq_some_iff.1 hb).1; omega
      have q1' : w1.heap[bm]? = some (.map es clock) := by rcases hal with rfl | rfl <;> exact q1
      have q2' : w1.heap[w.heap.size]? = some (.mapIter (some bm) clock seen c0) := by rcases hal with rfl | rfl <;> exact q2
      have hset := heap_set (o' := .mapIter (some bm) clock (seen.push e.born) clock) q2'
      obtain ⟨w2, hw2⟩ : ∃ w2, w2 = setBlock w1 w.heap.size (.mapIter (some bm) clock (seen.push e.born) clock) := ⟨_, rfl⟩
      rw [← hw2] at hrun
      have hnx : ∀ ty, (Instr.next (.pointer (some ⟨w.heap.size, 0, none⟩)) false ty).run Try.prog wr = _ := fun _ => hrun
      have p2 : w2.heap[w.heap.size]? = some (.mapIter (some bm) clock (seen.push e.born) clock) := by rw [hw2]; exact hset.1
      have p1 : w2.heap[bm]? = some (.map es clock) := by rw [hw2]; exact (hset.2 bm hne).trans q1'
      have hen := run_entry_at (P := Try.prog) w2 w.heap.size bm clock seen es clock e p2 p1 (mem_left he).1 hst.2.1
      rw [hval] at hen
      have hpush := seenSum_push seen (gE e) (mem_left he).2 (es.toList.map gE) hnd (List.mem_map.2 ⟨e, (mem_left he).1, rfl⟩)
      have hln : valOf (gE e).val = (n : Int) := by show lnV e.val = _; rw [hval]; rfl
      rw [hln] at hpush
      have hbe : (gE e).born = e.born := rfl
      rw [hbe] at hpush
      have hb1 := hbd seen
      have hb2 := hbd (seen.push e.born)
      have hsz : w1.heap.size = wr.heap.size := by rcases hal with rfl | rfl <;> rfl
      have hs2 : w2.heap.size = wr.heap.size := by rw [hw2, ← hsz]; exact Array.size_setIfInBounds ..
      have hg2 : w.grownBy w2 none := by
        have ho : w1.os = wr.os ∧ w1.tape = wr.tape ∧ w1.output = wr.output ∧ w1.heap = wr.heap := by rcases hal with rfl | rfl <;> exact ⟨rfl, rfl, rfl, rfl⟩
        refine ⟨by rw [hw2]; exact ho.1.trans q4.os, by rw [hw2]; exact ho.2.1.trans q4.tape, by rw [hw2]; exact ho.2.2.1.trans q4.output, by rw [hs2]; exact q4.size, fun k hk hne => ?_⟩
        have h3 := q4.block k hk hne
        rw [← ho.2.2.2] at h3
        rw [hw2]
        exact (hset.2 k (by omega)).trans h3
      clear hw2
      go_wp2
      go_roundw
      case rel =>
        have h1 := (Array.getElem?_eq_some_iff.1 p1).1
        have h2 := (Array.getElem?_eq_some_iff.1 p2).1
        refine ⟨seen.push e.born, clock, ?_, ?_, Nat.le_refl _, hg2.andThen (World.grownBy_alloc w2 _ none) (fun j hj => by cases hj), ?_, ?_⟩
        · rw [heap_alloc_old _ _ h1]; exact p1
        · rw [heap_alloc_old _ _ h2]; exact p2
        · simp; omega
        · rw [hpush]; congr 1; omega
      case measure =>
        have h2 := (Array.getElem?_eq_some_iff.1 p2).1
        have e1 : (w2.alloc (Obj.cells #[Value.slice A n c, Value.int kd y] 59)).iterSeen w.heap.size = seen.push e.born := by
          unfold World.iterSeen; rw [heap_alloc_old _ _ h2, p2]
        have e2 : wr.iterSeen w.heap.size = seen := by unfold World.iterSeen; rw [q2]
        rw [e1, e2]
        exact left_shrinks es seen e he
end Go.Proofs.PmRoom
