/- A part of the proof: what the functions of the program answer, as plain lists and numbers. -/
import Derived.Test.YtaoklfecdcakbaaDoorP10
import Derived.Test.YtaoklfecdcakbaaDoorP11
namespace Go.Pm
open Go.Proofs
set_option linter.unusedVariables false
set_option linter.unusedSimpArgs false
theorem w64 {x : Int} {n : Nat} (h : x = n) (h1 : n < 2^63) : IntKind.i64.wrap x = (n : Int) := by subst h; rw [wrap64] <;> omega
@[simp] theorem offA_ptr (l tot i off k : Nat) : offA (.ptr l tot i off) k = some (.ptr l tot i (off + k)) := rfl
@[simp] theorem offA_ip (cs : List AV) (k : Nat) : offA (.ip cs) k = some (.ip (cs.drop k)) := rfl
@[simp] theorem loadA_ipc (c : AV) (cs : List AV) (H : List AObj) : loadA false 1 (.ip (c :: cs)) H = some c := rfl
@[simp] theorem new_v8 {β : Type} (v : V8) (H : List AObj) (K : AV → List AObj → List Nat → Option β) : newK v.av H K = K (.ptr H.length 1 0 0) (H ++ [.row 8 [v.av]]) [] := Eq.trans rfl rfl
@[simp] theorem new_v80 {β : Type} (H : List AObj) (K : AV → List AObj → List Nat → Option β) : newK (.agg [(.int .u32 0), (.int .u32 0), (.int .u32 0), (.int .u32 0), (.int .u32 0), (.int .u32 0), (.int .u32 0), (.int .u32 0)]) H K = K (.ptr H.length 1 0 0) (H ++ [.row 8 [V8.zero.av]]) [] := Eq.trans rfl rfl
theorem ld_v8 {H : List AObj} {l : Nat} {v : V8} (h : H[l]? = some (.row 8 [v.av])) : loadA true 8 (.ptr l 1 0 0) H = some v.av := by
  simp only [loadA, h]; rfl
theorem sto_v8 {β : Type} {H : List AObj} {l : Nat} {v x : V8} {K : List AObj → List Nat → Option β} (h : H[l]? = some (.row 8 [v.av])) :
    stoK 8 (.ptr l 1 0 0) x.av H K = K (H.set l (.row 8 [x.av])) [] := by
  have h2 : storeA 8 (.ptr l 1 0 0) x.av H = some (H.set l (.row 8 [x.av]), []) := by
    unfold storeA; simp only [h]; rfl
  unfold stoK; rw [h2]; rfl
theorem arA_ptr (n s l tot i : Nat) (k : IntKind) (j : Nat) (h : j < n) : arA n s (.ptr l tot i 0) (.int k (j : Int)) = some (.ptr l tot i (j * s)) := by
  simp [arA, h]
theorem rotl_ok (x : UInt32) (s : Nat) (n : Int) (hs : 0 < s ∧ s < 32) (e : bitsA .and .u64 (IntKind.u64.wrap n) 31 = ((32 - s : Nat) : Int)) : EV C n_math_bits_RotateLeft32 [u32 x, .int .i64 n] [] = some (u32 (rotr x s), [], []) := by
  refine math_bits_RotateLeft32_of ?_
  have e3 : IntKind.u64.wrap (32 - ((32 - s : Nat) : Int)) = (s : Int) := by
    have : (32 - ((32 - s : Nat) : Int)) = ((s : Nat) : Int) := by omega
    rw [this, wrap_u64 (by omega)]
  simp only [cvI_int, Option.bind_some, and_int, e, sub_int, e3, shl_w _ _ _ _ x (32 - s) (by omega), shr_w _ _ _ _ x s (by omega), or_w]
  refine (endB_good rfl).trans ?_
  rw [rotr, UInt32.or_comm]
theorem rot6 (x : UInt32) : EV C n_math_bits_RotateLeft32 [u32 x, .int .i64 (-6)] [] = some (u32 (rotr x 6), [], []) := rotl_ok x 6 _ (by decide) (by decide)
theorem rot11 (x : UInt32) : EV C n_math_bits_RotateLeft32 [u32 x, .int .i64 (-11)] [] = some (u32 (rotr x 11), [], []) := rotl_ok x 11 _ (by decide) (by decide)
theorem rot25 (x : UInt32) : EV C n_math_bits_RotateLeft32 [u32 x, .int .i64 (-25)] [] = some (u32 (rotr x 25), [], []) := rotl_ok x 25 _ (by decide) (by decide)
theorem rot2 (x : UInt32) : EV C n_math_bits_RotateLeft32 [u32 x, .int .i64 (-2)] [] = some (u32 (rotr x 2), [], []) := rotl_ok x 2 _ (by decide) (by decide)
theorem rot13 (x : UInt32) : EV C n_math_bits_RotateLeft32 [u32 x, .int .i64 (-13)] [] = some (u32 (rotr x 13), [], []) := rotl_ok x 13 _ (by decide) (by decide)
theorem rot22 (x : UInt32) : EV C n_math_bits_RotateLeft32 [u32 x, .int .i64 (-22)] [] = some (u32 (rotr x 22), [], []) := rotl_ok x 22 _ (by decide) (by decide)
theorem rot7 (x : UInt32) : EV C n_math_bits_RotateLeft32 [u32 x, .int .i64 (-7)] [] = some (u32 (rotr x 7), [], []) := rotl_ok x 7 _ (by decide) (by decide)
theorem rot18 (x : UInt32) : EV C n_math_bits_RotateLeft32 [u32 x, .int .i64 (-18)] [] = some (u32 (rotr x 18), [], []) := rotl_ok x 18 _ (by decide) (by decide)
theorem rot17 (x : UInt32) : EV C n_math_bits_RotateLeft32 [u32 x, .int .i64 (-17)] [] = some (u32 (rotr x 17), [], []) := rotl_ok x 17 _ (by decide) (by decide)
theorem rot19 (x : UInt32) : EV C n_math_bits_RotateLeft32 [u32 x, .int .i64 (-19)] [] = some (u32 (rotr x 19), [], []) := rotl_ok x 19 _ (by decide) (by decide)
theorem rotD6 (x : UInt32) (H : List AObj) : callD (EV C) n_math_bits_RotateLeft32 [u32 x, .int .i64 (-6)] H = some (u32 (rotr x 6)) := callD_ok rfl (rot6 x)
theorem rotD11 (x : UInt32) (H : List AObj) : callD (EV C) n_math_bits_RotateLeft32 [u32 x, .int .i64 (-11)] H = some (u32 (rotr x 11)) := callD_ok rfl (rot11 x)
theorem rotD25 (x : UInt32) (H : List AObj) : callD (EV C) n_math_bits_RotateLeft32 [u32 x, .int .i64 (-25)] H = some (u32 (rotr x 25)) := callD_ok rfl (rot25 x)
theorem rotK2 {β : Type} (x : UInt32) (H : List AObj) (K : AV → List AObj → List Nat → Option β) : callK (EV C) false n_math_bits_RotateLeft32 [u32 x, .int .i64 (-2)] H K = K (u32 (rotr x 2)) H [] := callK_ok rfl (rot2 x)
theorem rotK13 {β : Type} (x : UInt32) (H : List AObj) (K : AV → List AObj → List Nat → Option β) : callK (EV C) false n_math_bits_RotateLeft32 [u32 x, .int .i64 (-13)] H K = K (u32 (rotr x 13)) H [] := callK_ok rfl (rot13 x)
theorem rotK22 {β : Type} (x : UInt32) (H : List AObj) (K : AV → List AObj → List Nat → Option β) : callK (EV C) false n_math_bits_RotateLeft32 [u32 x, .int .i64 (-22)] H K = K (u32 (rotr x 22)) H [] := callK_ok rfl (rot22 x)
theorem rotK7 {β : Type} (x : UInt32) (H : List AObj) (K : AV → List AObj → List Nat → Option β) : callK (EV C) false n_math_bits_RotateLeft32 [u32 x, .int .i64 (-7)] H K = K (u32 (rotr x 7)) H [] := callK_ok rfl (rot7 x)
theorem rotK18 {β : Type} (x : UInt32) (H : List AObj) (K : AV → List AObj → List Nat → Option β) : callK (EV C) false n_math_bits_RotateLeft32 [u32 x, .int .i64 (-18)] H K = K (u32 (rotr x 18)) H [] := callK_ok rfl (rot18 x)
theorem rotK17 {β : Type} (x : UInt32) (H : List AObj) (K : AV → List AObj → List Nat → Option β) : callK (EV C) false n_math_bits_RotateLeft32 [u32 x, .int .i64 (-17)] H K = K (u32 (rotr x 17)) H [] := callK_ok rfl (rot17 x)
theorem rotK19 {β : Type} (x : UInt32) (H : List AObj) (K : AV → List AObj → List Nat → Option β) : callK (EV C) false n_math_bits_RotateLeft32 [u32 x, .int .i64 (-19)] H K = K (u32 (rotr x 19)) H [] := callK_ok rfl (rot19 x)
theorem arr (n tot l : Nat) (k : IntKind) (j : Nat) (h : j < n) (i : Int) (hi : i = j) : arA n 1 (.ptr l tot 0 0) (.int k i) = some (.ptr l tot 0 j) := by
  subst hi; simpa using arA_ptr n 1 l tot 0 k j h
theorem ld8 (v : V8) (T : List AObj) (j : Nat) : loadA false 1 (.ptr 0 1 0 j) (.row 8 [v.av] :: T) = ldv false 1 ([u32 v.a, u32 v.b, u32 v.c, u32 v.d, u32 v.e, u32 v.f, u32 v.g, u32 v.h].drop j) := Eq.trans rfl rfl
theorem ldv1 (c : AV) (cs : List AV) : ldv false 1 (c :: cs) = some c := Eq.trans rfl rfl
theorem fill8 {β : Type} (a b c d e f g h : UInt32) (K : List AV → Option β) : (fillB (AV.cells (.agg [(.int .u32 0), (.int .u32 0), (.int .u32 0), (.int .u32 0), (.int .u32 0), (.int .u32 0), (.int .u32 0), (.int .u32 0)])) [(0, 1, u32 a), (1, 1, u32 b), (2, 1, u32 c), (3, 1, u32 d), (4, 1, u32 e), (5, 1, u32 f), (6, 1, u32 g), (7, 1, u32 h)]).bind K = K [u32 a, u32 b, u32 c, u32 d, u32 e, u32 f, u32 g, u32 h] := by
  simp [fillB, u32, AV.cells, AV.isBad]
theorem agg8 (a b c d e f g h : UInt32) : AV.agg [u32 a, u32 b, u32 c, u32 d, u32 e, u32 f, u32 g, u32 h] = (V8.mk a b c d e f g h).av := Eq.trans rfl rfl
theorem Round_ok (v : V8) (k w : UInt32) : EV C n_sha_Round [v.av, u32 k, u32 w] [] = some ((roundF v k w).av, [], []) := by
  refine sha_Round_of ?_
  have a0 := arr 8 1 0 .i64 0 (by decide) 0 rfl
  have a1 := arr 8 1 0 .i64 1 (by decide) 1 rfl
  have a2 := arr 8 1 0 .i64 2 (by decide) 2 rfl
  have a3 := arr 8 1 0 .i64 3 (by decide) 3 rfl
  have a4 := arr 8 1 0 .i64 4 (by decide) 4 rfl
  have a5 := arr 8 1 0 .i64 5 (by decide) 5 rfl
  have a6 := arr 8 1 0 .i64 6 (by decide) 6 rfl
  have a7 := arr 8 1 0 .i64 7 (by decide) 7 rfl
  simp -implicitDefEqProofs only [List.length_nil, new_v8, new_v80, List.nil_append, List.cons_append, a0, a1, a2, a3, a4, a5, a6, a7, Option.bind_some, ld8, List.drop_succ_cons, List.drop_zero, ldv1, rotK2, rotK13, rotK22, rotK7, rotK18, rotK17, rotK19, rotD6, rotD11, rotD25, xor_w, and_w, not_w, add_w]
  rw [fill8, agg8, sto_v8 rfl]
  rw [ld_v8 rfl]
  exact endB_good (good_v8 _)
end Go.Pm
