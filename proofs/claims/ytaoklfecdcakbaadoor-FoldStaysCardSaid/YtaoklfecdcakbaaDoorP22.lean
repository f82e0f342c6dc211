/- A part of the proof: what the functions of the program answer, as plain lists and numbers. -/
import Derived.Test.YtaoklfecdcakbaaDoorP10
import Derived.Test.YtaoklfecdcakbaaDoorP17
import Derived.Test.YtaoklfecdcakbaaDoorP18
import Derived.Test.YtaoklfecdcakbaaDoorP21
namespace Go.Pm
open Go.Proofs
set_option linter.unusedVariables false
set_option linter.unusedSimpArgs false
set_option maxRecDepth 100000
theorem l3_s0 {x0 x1 x2 a1 a2 a3 a4 a6 a7 a8 a9 a10 a11 a12 a13 a14 a15 a16 a17 : AV} {H H16 H18 H19 : List AObj} {E E16 E18 E19 : List Nat}  :
    stA Tryd.prog C.G (EV C) (C.hint 112) 3 (opsOf Tryd.f112 3) ⟨[x0, x1, x2, a1, a2, a3, a4, (.bool false), a6, a7, a8, a9, a10, a11, (.tup []), (.tup []), (.tup []), (.tup []), (.tup []), (.tup []), (.tup []), (.tup []), (.tup []), (.tup []), (.tup []), (.tup [])], H, E⟩ 0 = some ⟨[x0, x1, x2, a1, a2, a3, a4, (.bool false), a6, a7, a8, a9, a10, a11, (.tup []), (.tup []), (.tup []), (.tup []), (.tup []), (.tup []), (.tup []), (.tup []), (.tup []), (.tup []), (.tup []), (.tup [])], H, E⟩ := by
  refine stA_of ?_
  refine Eq.trans (b := (some ⟨[x0, x1, x2, a1, a2, a3, a4, (.bool false), a6, a7, a8, a9, a10, a11, (.tup []), (.tup []), (.tup []), (.tup []), (.tup []), (.tup []), (.tup []), (.tup []), (.tup []), (.tup []), (.tup []), (.tup [])], H, E⟩)) (by kernel_rfl) ?_
  rfl

theorem l3_s1 {x0 x1 x2 a1 a2 a3 a4 a6 a7 a8 a9 a10 a11 a12 a13 a14 a15 a16 a17 : AV} {H H16 H18 H19 : List AObj} {E E16 E18 E19 : List Nat} (f0 : loadA false 1 x2 H = some a12) :
    stA Tryd.prog C.G (EV C) (C.hint 112) 3 (opsOf Tryd.f112 3) ⟨[x0, x1, x2, a1, a2, a3, a4, (.bool false), a6, a7, a8, a9, a10, a11, (.tup []), (.tup []), (.tup []), (.tup []), (.tup []), (.tup []), (.tup []), (.tup []), (.tup []), (.tup []), (.tup []), (.tup [])], H, E⟩ 1 = some ⟨[x0, x1, x2, a1, a2, a3, a4, (.bool false), a6, a7, a8, a9, a10, a11, a12, (.tup []), (.tup []), (.tup []), (.tup []), (.tup []), (.tup []), (.tup []), (.tup []), (.tup []), (.tup []), (.tup [])], H, E⟩ := by
  refine stA_of ?_
  refine Eq.trans (b := ((loadA false 1 x2 H).bind fun a12 =>
    some ⟨[x0, x1, x2, a1, a2, a3, a4, (.bool false), a6, a7, a8, a9, a10, a11, a12, (.tup []), (.tup []), (.tup []), (.tup []), (.tup []), (.tup []), (.tup []), (.tup []), (.tup []), (.tup []), (.tup [])], H, E⟩)) (by kernel_rfl) ?_
  simp only [f0, Option.bind_some, List.nil_append]

theorem l3_s2 {x0 x1 x2 a1 a2 a3 a4 a6 a7 a8 a9 a10 a11 a12 a13 a14 a15 a16 a17 : AV} {H H16 H18 H19 : List AObj} {E E16 E18 E19 : List Nat} (f0 : loadA false 1 x2 H = some a12) (f1 : loadA true 5 a1 H = some a13) :
    stA Tryd.prog C.G (EV C) (C.hint 112) 3 (opsOf Tryd.f112 3) ⟨[x0, x1, x2, a1, a2, a3, a4, (.bool false), a6, a7, a8, a9, a10, a11, (.tup []), (.tup []), (.tup []), (.tup []), (.tup []), (.tup []), (.tup []), (.tup []), (.tup []), (.tup []), (.tup []), (.tup [])], H, E⟩ 2 = some ⟨[x0, x1, x2, a1, a2, a3, a4, (.bool false), a6, a7, a8, a9, a10, a11, a12, a13, (.tup []), (.tup []), (.tup []), (.tup []), (.tup []), (.tup []), (.tup []), (.tup []), (.tup []), (.tup [])], H, E⟩ := by
  refine stA_of ?_
  refine Eq.trans (b := ((loadA false 1 x2 H).bind fun a12 =>
    (loadA true 5 a1 H).bind fun a13 =>
    some ⟨[x0, x1, x2, a1, a2, a3, a4, (.bool false), a6, a7, a8, a9, a10, a11, a12, a13, (.tup []), (.tup []), (.tup []), (.tup []), (.tup []), (.tup []), (.tup []), (.tup []), (.tup []), (.tup [])], H, E⟩)) (by kernel_rfl) ?_
  simp only [f0, f1, Option.bind_some, List.nil_append]

theorem l3_s3 {x0 x1 x2 a1 a2 a3 a4 a6 a7 a8 a9 a10 a11 a12 a13 a14 a15 a16 a17 : AV} {H H16 H18 H19 : List AObj} {E E16 E18 E19 : List Nat} (f0 : loadA false 1 x2 H = some a12) (f1 : loadA true 5 a1 H = some a13) (f2 : lenV a12 H = some a14) :
    stA Tryd.prog C.G (EV C) (C.hint 112) 3 (opsOf Tryd.f112 3) ⟨[x0, x1, x2, a1, a2, a3, a4, (.bool false), a6, a7, a8, a9, a10, a11, (.tup []), (.tup []), (.tup []), (.tup []), (.tup []), (.tup []), (.tup []), (.tup []), (.tup []), (.tup []), (.tup []), (.tup [])], H, E⟩ 3 = some ⟨[x0, x1, x2, a1, a2, a3, a4, (.bool false), a6, a7, a8, a9, a10, a11, a12, a13, a14, (.tup []), (.tup []), (.tup []), (.tup []), (.tup []), (.tup []), (.tup []), (.tup []), (.tup [])], H, E⟩ := by
  refine stA_of ?_
  refine Eq.trans (b := ((loadA false 1 x2 H).bind fun a12 =>
    (loadA true 5 a1 H).bind fun a13 =>
    (lenV a12 H).bind fun a14 =>
    some ⟨[x0, x1, x2, a1, a2, a3, a4, (.bool false), a6, a7, a8, a9, a10, a11, a12, a13, a14, (.tup []), (.tup []), (.tup []), (.tup []), (.tup []), (.tup []), (.tup []), (.tup []), (.tup [])], H, E⟩)) (by kernel_rfl) ?_
  simp only [f0, f1, f2, Option.bind_some, List.nil_append]

theorem l3_s4 {x0 x1 x2 a1 a2 a3 a4 a6 a7 a8 a9 a10 a11 a12 a13 a14 a15 a16 a17 : AV} {H H16 H18 H19 : List AObj} {E E16 E18 E19 : List Nat} (f0 : loadA false 1 x2 H = some a12) (f1 : loadA true 5 a1 H = some a13) (f2 : lenV a12 H = some a14) (f3 : ∀ K : AV → List AObj → List Nat → Option St, litK 5 1 (.agg [(.int .i64 0), .nils, .nils, .nils, .nils]) [(0, (.agg [(.int .i64 0), .nils, .nils, .nils, .nils]))] H K = K a15 H []) :
    stA Tryd.prog C.G (EV C) (C.hint 112) 3 (opsOf Tryd.f112 3) ⟨[x0, x1, x2, a1, a2, a3, a4, (.bool false), a6, a7, a8, a9, a10, a11, (.tup []), (.tup []), (.tup []), (.tup []), (.tup []), (.tup []), (.tup []), (.tup []), (.tup []), (.tup []), (.tup []), (.tup [])], H, E⟩ 4 = some ⟨[x0, x1, x2, a1, a2, a3, a4, (.bool false), a6, a7, a8, a9, a10, a11, a12, a13, a14, a15, (.tup []), (.tup []), (.tup []), (.tup []), (.tup []), (.tup []), (.tup []), (.tup [])], H, E⟩ := by
  refine stA_of ?_
  refine Eq.trans (b := ((loadA false 1 x2 H).bind fun a12 =>
    (loadA true 5 a1 H).bind fun a13 =>
    (lenV a12 H).bind fun a14 =>
    litK 5 1 (.agg [(.int .i64 0), .nils, .nils, .nils, .nils]) [(0, (.agg [(.int .i64 0), .nils, .nils, .nils, .nils]))] H fun a15 H15 E15 =>
    some ⟨[x0, x1, x2, a1, a2, a3, a4, (.bool false), a6, a7, a8, a9, a10, a11, a12, a13, a14, a15, (.tup []), (.tup []), (.tup []), (.tup []), (.tup []), (.tup []), (.tup []), (.tup [])], H15, (E15 ++ E)⟩)) (by kernel_rfl) ?_
  simp only [f0, f1, f2, f3, Option.bind_some, List.nil_append]

theorem l3_s5 {x0 x1 x2 a1 a2 a3 a4 a6 a7 a8 a9 a10 a11 a12 a13 a14 a15 a16 a17 : AV} {H H16 H18 H19 : List AObj} {E E16 E18 E19 : List Nat} (f0 : loadA false 1 x2 H = some a12) (f1 : loadA true 5 a1 H = some a13) (f2 : lenV a12 H = some a14) (f3 : ∀ K : AV → List AObj → List Nat → Option St, litK 5 1 (.agg [(.int .i64 0), .nils, .nils, .nils, .nils]) [(0, (.agg [(.int .i64 0), .nils, .nils, .nils, .nils]))] H K = K a15 H []) (f4 : ∀ K : AV → List AObj → List Nat → Option St, appK 5 104 a12 a15 H K = K a16 H16 E16) :
    stA Tryd.prog C.G (EV C) (C.hint 112) 3 (opsOf Tryd.f112 3) ⟨[x0, x1, x2, a1, a2, a3, a4, (.bool false), a6, a7, a8, a9, a10, a11, (.tup []), (.tup []), (.tup []), (.tup []), (.tup []), (.tup []), (.tup []), (.tup []), (.tup []), (.tup []), (.tup []), (.tup [])], H, E⟩ 5 = some ⟨[x0, x1, x2, a1, a2, a3, a4, (.bool false), a6, a7, a8, a9, a10, a11, a12, a13, a14, a15, a16, (.tup []), (.tup []), (.tup []), (.tup []), (.tup []), (.tup []), (.tup [])], H16, (E16 ++ E)⟩ := by
  refine stA_of ?_
  refine Eq.trans (b := ((loadA false 1 x2 H).bind fun a12 =>
    (loadA true 5 a1 H).bind fun a13 =>
    (lenV a12 H).bind fun a14 =>
    litK 5 1 (.agg [(.int .i64 0), .nils, .nils, .nils, .nils]) [(0, (.agg [(.int .i64 0), .nils, .nils, .nils, .nils]))] H fun a15 H15 E15 =>
    appK 5 104 a12 a15 H15 fun a16 H16 E16 =>
    some ⟨[x0, x1, x2, a1, a2, a3, a4, (.bool false), a6, a7, a8, a9, a10, a11, a12, a13, a14, a15, a16, (.tup []), (.tup []), (.tup []), (.tup []), (.tup []), (.tup []), (.tup [])], H16, (E16 ++ (E15 ++ E))⟩)) (by kernel_rfl) ?_
  simp only [f0, f1, f2, f3, f4, Option.bind_some, List.nil_append]

theorem l3_s6 {x0 x1 x2 a1 a2 a3 a4 a6 a7 a8 a9 a10 a11 a12 a13 a14 a15 a16 a17 : AV} {H H16 H18 H19 : List AObj} {E E16 E18 E19 : List Nat} (f0 : loadA false 1 x2 H = some a12) (f1 : loadA true 5 a1 H = some a13) (f2 : lenV a12 H = some a14) (f3 : ∀ K : AV → List AObj → List Nat → Option St, litK 5 1 (.agg [(.int .i64 0), .nils, .nils, .nils, .nils]) [(0, (.agg [(.int .i64 0), .nils, .nils, .nils, .nils]))] H K = K a15 H []) (f4 : ∀ K : AV → List AObj → List Nat → Option St, appK 5 104 a12 a15 H K = K a16 H16 E16) (f5 : ixA 5 a16 a14 H16 = some a17) :
    stA Tryd.prog C.G (EV C) (C.hint 112) 3 (opsOf Tryd.f112 3) ⟨[x0, x1, x2, a1, a2, a3, a4, (.bool false), a6, a7, a8, a9, a10, a11, (.tup []), (.tup []), (.tup []), (.tup []), (.tup []), (.tup []), (.tup []), (.tup []), (.tup []), (.tup []), (.tup []), (.tup [])], H, E⟩ 6 = some ⟨[x0, x1, x2, a1, a2, a3, a4, (.bool false), a6, a7, a8, a9, a10, a11, a12, a13, a14, a15, a16, a17, (.tup []), (.tup []), (.tup []), (.tup []), (.tup []), (.tup [])], H16, (E16 ++ E)⟩ := by
  refine stA_of ?_
  refine Eq.trans (b := ((loadA false 1 x2 H).bind fun a12 =>
    (loadA true 5 a1 H).bind fun a13 =>
    (lenV a12 H).bind fun a14 =>
    litK 5 1 (.agg [(.int .i64 0), .nils, .nils, .nils, .nils]) [(0, (.agg [(.int .i64 0), .nils, .nils, .nils, .nils]))] H fun a15 H15 E15 =>
    appK 5 104 a12 a15 H15 fun a16 H16 E16 =>
    (ixA 5 a16 a14 H16).bind fun a17 =>
    some ⟨[x0, x1, x2, a1, a2, a3, a4, (.bool false), a6, a7, a8, a9, a10, a11, a12, a13, a14, a15, a16, a17, (.tup []), (.tup []), (.tup []), (.tup []), (.tup []), (.tup [])], H16, (E16 ++ (E15 ++ E))⟩)) (by kernel_rfl) ?_
  simp only [f0, f1, f2, f3, f4, f5, Option.bind_some, List.nil_append]

theorem l3_s7 {x0 x1 x2 a1 a2 a3 a4 a6 a7 a8 a9 a10 a11 a12 a13 a14 a15 a16 a17 : AV} {H H16 H18 H19 : List AObj} {E E16 E18 E19 : List Nat} (f0 : loadA false 1 x2 H = some a12) (f1 : loadA true 5 a1 H = some a13) (f2 : lenV a12 H = some a14) (f3 : ∀ K : AV → List AObj → List Nat → Option St, litK 5 1 (.agg [(.int .i64 0), .nils, .nils, .nils, .nils]) [(0, (.agg [(.int .i64 0), .nils, .nils, .nils, .nils]))] H K = K a15 H []) (f4 : ∀ K : AV → List AObj → List Nat → Option St, appK 5 104 a12 a15 H K = K a16 H16 E16) (f5 : ixA 5 a16 a14 H16 = some a17) (f6 : ∀ K : List AObj → List Nat → Option St, stoK 5 a17 a13 H16 K = K H18 E18) :
    stA Tryd.prog C.G (EV C) (C.hint 112) 3 (opsOf Tryd.f112 3) ⟨[x0, x1, x2, a1, a2, a3, a4, (.bool false), a6, a7, a8, a9, a10, a11, (.tup []), (.tup []), (.tup []), (.tup []), (.tup []), (.tup []), (.tup []), (.tup []), (.tup []), (.tup []), (.tup []), (.tup [])], H, E⟩ 7 = some ⟨[x0, x1, x2, a1, a2, a3, a4, (.bool false), a6, a7, a8, a9, a10, a11, a12, a13, a14, a15, a16, a17, (.tup []), (.tup []), (.tup []), (.tup []), (.tup []), (.tup [])], H18, (E18 ++ (E16 ++ E))⟩ := by
  refine stA_of ?_
  refine Eq.trans (b := ((loadA false 1 x2 H).bind fun a12 =>
    (loadA true 5 a1 H).bind fun a13 =>
    (lenV a12 H).bind fun a14 =>
    litK 5 1 (.agg [(.int .i64 0), .nils, .nils, .nils, .nils]) [(0, (.agg [(.int .i64 0), .nils, .nils, .nils, .nils]))] H fun a15 H15 E15 =>
    appK 5 104 a12 a15 H15 fun a16 H16 E16 =>
    (ixA 5 a16 a14 H16).bind fun a17 =>
    stoK 5 a17 a13 H16 fun H18 E18 =>
    some ⟨[x0, x1, x2, a1, a2, a3, a4, (.bool false), a6, a7, a8, a9, a10, a11, a12, a13, a14, a15, a16, a17, (.tup []), (.tup []), (.tup []), (.tup []), (.tup []), (.tup [])], H18, (E18 ++ (E16 ++ (E15 ++ E)))⟩)) (by kernel_rfl) ?_
  simp only [f0, f1, f2, f3, f4, f5, f6, Option.bind_some, List.nil_append]

theorem l3_s8 {x0 x1 x2 a1 a2 a3 a4 a6 a7 a8 a9 a10 a11 a12 a13 a14 a15 a16 a17 : AV} {H H16 H18 H19 : List AObj} {E E16 E18 E19 : List Nat} (f0 : loadA false 1 x2 H = some a12) (f1 : loadA true 5 a1 H = some a13) (f2 : lenV a12 H = some a14) (f3 : ∀ K : AV → List AObj → List Nat → Option St, litK 5 1 (.agg [(.int .i64 0), .nils, .nils, .nils, .nils]) [(0, (.agg [(.int .i64 0), .nils, .nils, .nils, .nils]))] H K = K a15 H []) (f4 : ∀ K : AV → List AObj → List Nat → Option St, appK 5 104 a12 a15 H K = K a16 H16 E16) (f5 : ixA 5 a16 a14 H16 = some a17) (f6 : ∀ K : List AObj → List Nat → Option St, stoK 5 a17 a13 H16 K = K H18 E18) (f7 : ∀ K : List AObj → List Nat → Option St, stoK 1 x2 a16 H18 K = K H19 E19) :
    stA Tryd.prog C.G (EV C) (C.hint 112) 3 (opsOf Tryd.f112 3) ⟨[x0, x1, x2, a1, a2, a3, a4, (.bool false), a6, a7, a8, a9, a10, a11, (.tup []), (.tup []), (.tup []), (.tup []), (.tup []), (.tup []), (.tup []), (.tup []), (.tup []), (.tup []), (.tup []), (.tup [])], H, E⟩ 8 = some ⟨[x0, x1, x2, a1, a2, a3, a4, (.bool false), a6, a7, a8, a9, a10, a11, a12, a13, a14, a15, a16, a17, (.tup []), (.tup []), (.tup []), (.tup []), (.tup []), (.tup [])], H19, (E19 ++ (E18 ++ (E16 ++ E)))⟩ := by
  refine stA_of ?_
  refine Eq.trans (b := ((loadA false 1 x2 H).bind fun a12 =>
    (loadA true 5 a1 H).bind fun a13 =>
    (lenV a12 H).bind fun a14 =>
    litK 5 1 (.agg [(.int .i64 0), .nils, .nils, .nils, .nils]) [(0, (.agg [(.int .i64 0), .nils, .nils, .nils, .nils]))] H fun a15 H15 E15 =>
    appK 5 104 a12 a15 H15 fun a16 H16 E16 =>
    (ixA 5 a16 a14 H16).bind fun a17 =>
    stoK 5 a17 a13 H16 fun H18 E18 =>
    stoK 1 x2 a16 H18 fun H19 E19 =>
    some ⟨[x0, x1, x2, a1, a2, a3, a4, (.bool false), a6, a7, a8, a9, a10, a11, a12, a13, a14, a15, a16, a17, (.tup []), (.tup []), (.tup []), (.tup []), (.tup []), (.tup [])], H19, (E19 ++ (E18 ++ (E16 ++ (E15 ++ E))))⟩)) (by kernel_rfl) ?_
  simp only [f0, f1, f2, f3, f4, f5, f6, f7, Option.bind_some, List.nil_append]
theorem l3_swap {x0 x1 x2 a1 a2 a3 a4 a6 a7 a8 a9 a10 a11 a12 a13 a14 a15 a16 a17 : AV} {H H16 H18 H19 Hm : List AObj} {E E16 E19 : List Nat} (f0 : loadA false 1 x2 H = some a12) (f1 : loadA true 5 a1 H = some a13) (f2 : lenV a12 H = some a14) (f3 : ∀ K : AV → List AObj → List Nat → Option St, litK 5 1 (.agg [(.int .i64 0), .nils, .nils, .nils, .nils]) [(0, (.agg [(.int .i64 0), .nils, .nils, .nils, .nils]))] H K = K a15 H []) (f4 : ∀ K : AV → List AObj → List Nat → Option St, appK 5 104 a12 a15 H K = K a16 H16 E16) (f5 : ixA 5 a16 a14 H16 = some a17) (f6 : ∀ K : List AObj → List Nat → Option St, stoK 5 a17 a13 H16 K = K H18 []) (f7 : ∀ K : List AObj → List Nat → Option St, stoK 1 x2 a16 H18 K = K H19 E19) (g5 : ixA 5 a16 a14 H19 = some a17) (g5' : ixA 5 a16 a14 Hm = some a17) (g7 : ∀ K : AV → List AObj → List Nat → Option R3, (stoK 1 x2 a16 H16 fun H E => K (.tup []) H E) = K (.tup []) Hm E19) (g6 : ∀ K : AV → List AObj → List Nat → Option R3, (stoK 5 a17 a13 Hm fun H E => K (.tup []) H E) = K (.tup []) H19 [])
    (f6r : ∀ K : List AObj → List Nat → Option R3, stoK 5 a17 a13 H16 K = K H18 []) (f7r : ∀ K : List AObj → List Nat → Option R3, stoK 1 x2 a16 H18 K = K H19 E19) (f3d : litD 5 1 (.agg [(.int .i64 0), .nils, .nils, .nils, .nils]) [(0, (.agg [(.int .i64 0), .nils, .nils, .nils, .nils]))] H = some a15) :
    SwapOk Tryd.prog C.G (EV C) (C.hint 112) 3 (opsOf Tryd.f112 3) ⟨[x0, x1, x2, a1, a2, a3, a4, (.bool false), a6, a7, a8, a9, a10, a11, (.tup []), (.tup []), (.tup []), (.tup []), (.tup []), (.tup []), (.tup []), (.tup []), (.tup []), (.tup []), (.tup []), (.tup [])], H, E⟩ := by
  have sz : (opsOf Tryd.f112 3).size = 8 := by kernel_rfl
  have o0 : (opsOf Tryd.f112 3)[0]? = some ((opsOf Tryd.f112 3)[0]'(by rw [sz]; decide)) := Array.getElem?_eq_getElem _
  have o1 : (opsOf Tryd.f112 3)[1]? = some ((opsOf Tryd.f112 3)[1]'(by rw [sz]; decide)) := Array.getElem?_eq_getElem _
  have o2 : (opsOf Tryd.f112 3)[2]? = some ((opsOf Tryd.f112 3)[2]'(by rw [sz]; decide)) := Array.getElem?_eq_getElem _
  have o3 : (opsOf Tryd.f112 3)[3]? = some ((opsOf Tryd.f112 3)[3]'(by rw [sz]; decide)) := Array.getElem?_eq_getElem _
  have o4 : (opsOf Tryd.f112 3)[4]? = some ((opsOf Tryd.f112 3)[4]'(by rw [sz]; decide)) := Array.getElem?_eq_getElem _
  have o5 : (opsOf Tryd.f112 3)[5]? = some ((opsOf Tryd.f112 3)[5]'(by rw [sz]; decide)) := Array.getElem?_eq_getElem _
  have o6 : (opsOf Tryd.f112 3)[6]? = some ((opsOf Tryd.f112 3)[6]'(by rw [sz]; decide)) := Array.getElem?_eq_getElem _
  have o7 : (opsOf Tryd.f112 3)[7]? = some ((opsOf Tryd.f112 3)[7]'(by rw [sz]; decide)) := Array.getElem?_eq_getElem _
  have s0 := l3_s0 (x0 := x0) (x1 := x1) (x2 := x2) (a1 := a1) (a2 := a2) (a3 := a3) (a4 := a4) (a6 := a6) (a7 := a7) (a8 := a8) (a9 := a9) (a10 := a10) (a11 := a11) (a12 := a12) (a13 := a13) (a14 := a14) (a15 := a15) (a16 := a16) (a17 := a17) (H := H) (H16 := H16) (H18 := H18) (H19 := H19) (E := E) (E16 := E16) (E19 := E19) (E18 := [])
  have s1 := l3_s1 (x0 := x0) (x1 := x1) (x2 := x2) (a1 := a1) (a2 := a2) (a3 := a3) (a4 := a4) (a6 := a6) (a7 := a7) (a8 := a8) (a9 := a9) (a10 := a10) (a11 := a11) (a12 := a12) (a13 := a13) (a14 := a14) (a15 := a15) (a16 := a16) (a17 := a17) (H := H) (H16 := H16) (H18 := H18) (H19 := H19) (E := E) (E16 := E16) (E19 := E19) (E18 := []) f0
  have s2 := l3_s2 (x0 := x0) (x1 := x1) (x2 := x2) (a1 := a1) (a2 := a2) (a3 := a3) (a4 := a4) (a6 := a6) (a7 := a7) (a8 := a8) (a9 := a9) (a10 := a10) (a11 := a11) (a12 := a12) (a13 := a13) (a14 := a14) (a15 := a15) (a16 := a16) (a17 := a17) (H := H) (H16 := H16) (H18 := H18) (H19 := H19) (E := E) (E16 := E16) (E19 := E19) (E18 := []) f0 f1
  have s3 := l3_s3 (x0 := x0) (x1 := x1) (x2 := x2) (a1 := a1) (a2 := a2) (a3 := a3) (a4 := a4) (a6 := a6) (a7 := a7) (a8 := a8) (a9 := a9) (a10 := a10) (a11 := a11) (a12 := a12) (a13 := a13) (a14 := a14) (a15 := a15) (a16 := a16) (a17 := a17) (H := H) (H16 := H16) (H18 := H18) (H19 := H19) (E := E) (E16 := E16) (E19 := E19) (E18 := []) f0 f1 f2
  have s4 := l3_s4 (x0 := x0) (x1 := x1) (x2 := x2) (a1 := a1) (a2 := a2) (a3 := a3) (a4 := a4) (a6 := a6) (a7 := a7) (a8 := a8) (a9 := a9) (a10 := a10) (a11 := a11) (a12 := a12) (a13 := a13) (a14 := a14) (a15 := a15) (a16 := a16) (a17 := a17) (H := H) (H16 := H16) (H18 := H18) (H19 := H19) (E := E) (E16 := E16) (E19 := E19) (E18 := []) f0 f1 f2 f3
  have s5 := l3_s5 (x0 := x0) (x1 := x1) (x2 := x2) (a1 := a1) (a2 := a2) (a3 := a3) (a4 := a4) (a6 := a6) (a7 := a7) (a8 := a8) (a9 := a9) (a10 := a10) (a11 := a11) (a12 := a12) (a13 := a13) (a14 := a14) (a15 := a15) (a16 := a16) (a17 := a17) (H := H) (H16 := H16) (H18 := H18) (H19 := H19) (E := E) (E16 := E16) (E19 := E19) (E18 := []) f0 f1 f2 f3 f4
  have s6 := l3_s6 (x0 := x0) (x1 := x1) (x2 := x2) (a1 := a1) (a2 := a2) (a3 := a3) (a4 := a4) (a6 := a6) (a7 := a7) (a8 := a8) (a9 := a9) (a10 := a10) (a11 := a11) (a12 := a12) (a13 := a13) (a14 := a14) (a15 := a15) (a16 := a16) (a17 := a17) (H := H) (H16 := H16) (H18 := H18) (H19 := H19) (E := E) (E16 := E16) (E19 := E19) (E18 := []) f0 f1 f2 f3 f4 f5
  have s7 := l3_s7 (x0 := x0) (x1 := x1) (x2 := x2) (a1 := a1) (a2 := a2) (a3 := a3) (a4 := a4) (a6 := a6) (a7 := a7) (a8 := a8) (a9 := a9) (a10 := a10) (a11 := a11) (a12 := a12) (a13 := a13) (a14 := a14) (a15 := a15) (a16 := a16) (a17 := a17) (H := H) (H16 := H16) (H18 := H18) (H19 := H19) (E := E) (E16 := E16) (E19 := E19) (E18 := []) f0 f1 f2 f3 f4 f5 f6
  have s8 := l3_s8 (x0 := x0) (x1 := x1) (x2 := x2) (a1 := a1) (a2 := a2) (a3 := a3) (a4 := a4) (a6 := a6) (a7 := a7) (a8 := a8) (a9 := a9) (a10 := a10) (a11 := a11) (a12 := a12) (a13 := a13) (a14 := a14) (a15 := a15) (a16 := a16) (a17 := a17) (H := H) (H16 := H16) (H18 := H18) (H19 := H19) (E := E) (E16 := E16) (E19 := E19) (E18 := []) f0 f1 f2 f3 f4 f5 f6 f7
  have dq : drawQ (C.hint 112) 3 (opsOf Tryd.f112 3) = [(0, 0), (1, 1), (2, 2), (3, 3), (5, 5), (5, 8)] := by kernel_rfl
  have sq : swapQ (C.hint 112) 3 (opsOf Tryd.f112 3) 6 7 = [5] := by kernel_rfl
  refine ⟨by kernel_rfl, ?_, 6, 7, by kernel_rfl, ?_⟩
  · rw [dq]
    intro p hp
    simp only [List.mem_cons, List.not_mem_nil, or_false] at hp
    rcases hp with rfl | rfl | rfl | rfl | rfl | rfl
    · exact drawAt_of o0 (by kernel_rfl) (by kernel_rfl) s0 s0 ((by kernel_rfl : _ = (loadA false 1 x2 H).bind fun v => some v).trans (by rw [f0]; rfl)) ((by kernel_rfl : _ = (loadA false 1 x2 H).bind fun v => some v).trans (by rw [f0]; rfl))
    · exact drawAt_of o1 (by kernel_rfl) (by kernel_rfl) s1 s1 ((by kernel_rfl : _ = (loadA true 5 a1 H).bind fun v => some v).trans (by rw [f1]; rfl)) ((by kernel_rfl : _ = (loadA true 5 a1 H).bind fun v => some v).trans (by rw [f1]; rfl))
    · exact drawAt_of o2 (by kernel_rfl) (by kernel_rfl) s2 s2 ((by kernel_rfl : _ = (lenV a12 H).bind fun v => some v).trans (by rw [f2]; rfl)) ((by kernel_rfl : _ = (lenV a12 H).bind fun v => some v).trans (by rw [f2]; rfl))
    · exact drawAt_of o3 (by kernel_rfl) (by kernel_rfl) s3 s3 ((by kernel_rfl : _ = (litD 5 1 (.agg [(.int .i64 0), .nils, .nils, .nils, .nils]) [(0, (.agg [(.int .i64 0), .nils, .nils, .nils, .nils]))] H).bind fun v => some v).trans (by rw [f3d]; rfl)) ((by kernel_rfl : _ = (litD 5 1 (.agg [(.int .i64 0), .nils, .nils, .nils, .nils]) [(0, (.agg [(.int .i64 0), .nils, .nils, .nils, .nils]))] H).bind fun v => some v).trans (by rw [f3d]; rfl))
    · exact drawAt_of o5 (by kernel_rfl) (by kernel_rfl) s5 s5 ((by kernel_rfl : _ = (ixA 5 a16 a14 H16).bind fun v => some v).trans (by rw [f5]; rfl)) ((by kernel_rfl : _ = (ixA 5 a16 a14 H16).bind fun v => some v).trans (by rw [f5]; rfl))
    · exact drawAt_of o5 (by kernel_rfl) (by kernel_rfl) s5 s8 ((by kernel_rfl : _ = (ixA 5 a16 a14 H16).bind fun v => some v).trans (by rw [f5]; rfl)) ((by kernel_rfl : _ = (ixA 5 a16 a14 H19).bind fun v => some v).trans (by rw [g5]; rfl))
  · refine ⟨_, _, _, _, _, _, _, Hm, o6, o7, s6, s7, s8, valE_of (by kernel_rfl) ((by kernel_rfl : _ = stoK 5 a17 a13 H16 fun H E => some (.tup [], H, E)).trans (f6r _)), valE_of (by kernel_rfl) ((by kernel_rfl : _ = stoK 1 x2 a16 H18 fun H E => some (.tup [], H, E)).trans (f7r _)),
      valE_of (by kernel_rfl) ((by kernel_rfl : _ = stoK 1 x2 a16 H16 fun H E => some (.tup [], H, E)).trans (g7 fun v H E => some (v, H, E))), valE_of (by kernel_rfl) ((by kernel_rfl : _ = stoK 5 a17 a13 Hm fun H E => some (.tup [], H, E)).trans (g6 fun v H E => some (v, H, E))), by simp, ?_⟩
    rw [sq]
    intro i hi
    obtain rfl : i = 5 := by simpa using hi
    exact swapRd_of o5 (by kernel_rfl) (by kernel_rfl) s5 ((by kernel_rfl : _ = (ixA 5 a16 a14 H16).bind fun v => some v).trans (by rw [f5]; rfl)) ((by kernel_rfl : _ = (ixA 5 a16 a14 Hm).bind fun v => some v).trans (by rw [g5']; rfl))
end Go.Pm
