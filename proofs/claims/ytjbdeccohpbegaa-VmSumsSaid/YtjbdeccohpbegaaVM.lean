import Derived.Test.YtjbdeccohpbegaaVL
namespace Go.Proofs.Ytjbdeccohpbegaa.Vm
open Go Go.RowKit Go.Proofs Go.Proofs.Ytjbdeccohpbegaa.X
set_option linter.unusedVariables false
set_option linter.unusedSimpArgs false
noncomputable section
/-! VmSums: the module's steps -/
abbrev cs (n p v q : Int) : List (Int × Int) := [(1, 0), (6, 0), (1, 0), (6, 1), (5, 1), (1, n), (18, 0), (19, 0), (25, 19), (5, 1), (20, 0), (5, 0), (7, 0), (6, 0), (5, 1), (1, 1), (7, 0), (6, 1), (24, 4), (1, n), (5, 0), (23, 0), (1, p), (1, v), (23, 0), (1, p), (22, 0), (1, q), (4, 0), (23, 0), (27, 0)]
abbrev MV (n p v q : Int) : (Int × List Int × Fs) × Unit × Unit × (Bool × Int × List Int × Int) × Unit := MS 600 [] (one (cs n p v q)) false 0 [] 0
abbrev SV (n p v q : Int) (c : List Int) (pc : Int) (lo s : List Int) : ((Unit × Unit) × Unit) × ((Int × List Int × Fs) × Unit × Unit × (Bool × Int × List Int × Int) × Unit) × List Int × Fr × Unit := ((((), ()), ()), MV n p v q, c, [(0, pc, lo, s)], ())
abbrev RV (n p v q : Int) (c : List Int) (pc : Int) (lo s : List Int) : Option (Unit × ((Int × List Int × Fs) × Unit × Unit × (Bool × Int × List Int × Int) × Unit) × List Int × Unit × Fr × Unit) := some ((), MV n p v q, c, (), [(0, pc, lo, s)], ())
theorem v0 (k : Nat) (n p v q : Int) (c : List Int) (x y z w u : Int) : f26 (k + 60) (SV n p v q c 0 [x, y, z] []) = RV n p v q c 1 [x, y, z] [0] := by kernel_rfl
theorem v1 (k : Nat) (n p v q : Int) (c : List Int) (x y z w u : Int) : f26 (k + 60) (SV n p v q c 1 [x, y, z] [w]) = RV n p v q c 2 [w, y, z] [] := by kernel_rfl
theorem v2 (k : Nat) (n p v q : Int) (c : List Int) (x y z w u : Int) : f26 (k + 60) (SV n p v q c 2 [x, y, z] []) = RV n p v q c 3 [x, y, z] [0] := by kernel_rfl
theorem v3 (k : Nat) (n p v q : Int) (c : List Int) (x y z w u : Int) : f26 (k + 60) (SV n p v q c 3 [x, y, z] [w]) = RV n p v q c 4 [x, w, z] [] := by kernel_rfl
theorem v4 (k : Nat) (n p v q : Int) (c : List Int) (x y z w u : Int) : f26 (k + 60) (SV n p v q c 4 [x, y, z] []) = RV n p v q c 5 [x, y, z] [y] := by kernel_rfl
theorem v5 (k : Nat) (n p v q : Int) (c : List Int) (x y z w u : Int) : f26 (k + 60) (SV n p v q c 5 [x, y, z] [w]) = RV n p v q c 6 [x, y, z] [w, n] := by kernel_rfl
theorem v6 (k : Nat) (n p v q : Int) (c : List Int) (x y z w u : Int) : f26 (k + 60) (SV n p v q c 6 [x, y, z] [w, u]) = RV n p v q c 7 [x, y, z] [cond (decide (w < u)) (1 : Int) 0] := by kernel_rfl
theorem v7a (k : Nat) (n p v q : Int) (c : List Int) (x y z w u : Int) : f26 (k + 60) (SV n p v q c 7 [x, y, z] [1]) = RV n p v q c 8 [x, y, z] [0] := by kernel_rfl
theorem v7b (k : Nat) (n p v q : Int) (c : List Int) (x y z w u : Int) : f26 (k + 60) (SV n p v q c 7 [x, y, z] [0]) = RV n p v q c 8 [x, y, z] [1] := by kernel_rfl
theorem v8a (k : Nat) (n p v q : Int) (c : List Int) (x y z w u : Int) : f26 (k + 60) (SV n p v q c 8 [x, y, z] [0]) = RV n p v q c 9 [x, y, z] [] := by kernel_rfl
theorem v8b (k : Nat) (n p v q : Int) (c : List Int) (x y z w u : Int) : f26 (k + 60) (SV n p v q c 8 [x, y, z] [1]) = RV n p v q c 19 [x, y, z] [] := by kernel_rfl
theorem v9 (k : Nat) (n p v q : Int) (c : List Int) (x y z w u : Int) : f26 (k + 60) (SV n p v q c 9 [x, y, z] []) = RV n p v q c 10 [x, y, z] [y] := by kernel_rfl
theorem v10 (k : Nat) (n p v q : Int) (c : List Int) (x y z w u : Int) : f26 (k + 60) (SV n p v q c 10 [x, y, z] [w]) = (f34 (k + 60) ((((), ()), ((20 : Int), ()), ([w], ()), ()), MV n p v q, c, [(0, 11, [x, y, z], [])], ())).bind fun v => some ((), ((v.2.1.1.1, v.2.1.1.2.1, v.2.1.1.2.2), (), (), (v.2.1.2.2.2.1.1, v.2.1.2.2.2.1.2.1, v.2.1.2.2.2.1.2.2.1, v.2.1.2.2.2.1.2.2.2), ()), v.2.2.1, (), List.take (List.length v.2.2.2.1) v.2.2.2.1, ()) := by kernel_rfl
theorem v11 (k : Nat) (n p v q : Int) (c : List Int) (x y z w u : Int) : f26 (k + 60) (SV n p v q c 11 [x, y, z] [w]) = RV n p v q c 12 [x, y, z] [w, x] := by kernel_rfl
theorem v12 (k : Nat) (n p v q : Int) (c : List Int) (x y z w u : Int) : f26 (k + 60) (SV n p v q c 12 [x, y, z] [w, u]) = RV n p v q c 13 [x, y, z] [IntKind.i64.wrap (w + u)] := by kernel_rfl
theorem v13 (k : Nat) (n p v q : Int) (c : List Int) (x y z w u : Int) : f26 (k + 60) (SV n p v q c 13 [x, y, z] [w]) = RV n p v q c 14 [w, y, z] [] := by kernel_rfl
theorem v14 (k : Nat) (n p v q : Int) (c : List Int) (x y z w u : Int) : f26 (k + 60) (SV n p v q c 14 [x, y, z] []) = RV n p v q c 15 [x, y, z] [y] := by kernel_rfl
theorem v15 (k : Nat) (n p v q : Int) (c : List Int) (x y z w u : Int) : f26 (k + 60) (SV n p v q c 15 [x, y, z] [w]) = RV n p v q c 16 [x, y, z] [w, 1] := by kernel_rfl
theorem v16 (k : Nat) (n p v q : Int) (c : List Int) (x y z w u : Int) : f26 (k + 60) (SV n p v q c 16 [x, y, z] [w, u]) = RV n p v q c 17 [x, y, z] [IntKind.i64.wrap (w + u)] := by kernel_rfl
theorem v17 (k : Nat) (n p v q : Int) (c : List Int) (x y z w u : Int) : f26 (k + 60) (SV n p v q c 17 [x, y, z] [w]) = RV n p v q c 18 [x, w, z] [] := by kernel_rfl
theorem v18 (k : Nat) (n p v q : Int) (c : List Int) (x y z w u : Int) : f26 (k + 60) (SV n p v q c 18 [x, y, z] []) = RV n p v q c 4 [x, y, z] [] := by kernel_rfl
theorem v19 (k : Nat) (n p v q : Int) (c : List Int) (x y z w u : Int) : f26 (k + 60) (SV n p v q c 19 [x, y, z] []) = RV n p v q c 20 [x, y, z] [n] := by kernel_rfl
theorem v20 (k : Nat) (n p v q : Int) (c : List Int) (x y z w u : Int) : f26 (k + 60) (SV n p v q c 20 [x, y, z] [w]) = RV n p v q c 21 [x, y, z] [w, x] := by kernel_rfl
theorem v21 (k : Nat) (n p v q : Int) (c : List Int) (x y z w u : Int) : f26 (k + 60) (SV n p v q c 21 [x, y, z] [w, u]) = (f34 (k + 60) ((((), ()), ((23 : Int), ()), ([w, u], ()), ()), MV n p v q, c, [(0, 22, [x, y, z], [])], ())).bind fun v => some ((), ((v.2.1.1.1, v.2.1.1.2.1, v.2.1.1.2.2), (), (), (v.2.1.2.2.2.1.1, v.2.1.2.2.2.1.2.1, v.2.1.2.2.2.1.2.2.1, v.2.1.2.2.2.1.2.2.2), ()), v.2.2.1, (), List.take (List.length v.2.2.2.1) v.2.2.2.1, ()) := by kernel_rfl
theorem v22 (k : Nat) (n p v q : Int) (c : List Int) (x y z w u : Int) : f26 (k + 60) (SV n p v q c 22 [x, y, z] []) = RV n p v q c 23 [x, y, z] [p] := by kernel_rfl
theorem v23 (k : Nat) (n p v q : Int) (c : List Int) (x y z w u : Int) : f26 (k + 60) (SV n p v q c 23 [x, y, z] [w]) = RV n p v q c 24 [x, y, z] [w, v] := by kernel_rfl
theorem v24 (k : Nat) (n p v q : Int) (c : List Int) (x y z w u : Int) : f26 (k + 60) (SV n p v q c 24 [x, y, z] [w, u]) = (f34 (k + 60) ((((), ()), ((23 : Int), ()), ([w, u], ()), ()), MV n p v q, c, [(0, 25, [x, y, z], [])], ())).bind fun v => some ((), ((v.2.1.1.1, v.2.1.1.2.1, v.2.1.1.2.2), (), (), (v.2.1.2.2.2.1.1, v.2.1.2.2.2.1.2.1, v.2.1.2.2.2.1.2.2.1, v.2.1.2.2.2.1.2.2.2), ()), v.2.2.1, (), List.take (List.length v.2.2.2.1) v.2.2.2.1, ()) := by kernel_rfl
theorem v25 (k : Nat) (n p v q : Int) (c : List Int) (x y z w u : Int) : f26 (k + 60) (SV n p v q c 25 [x, y, z] []) = RV n p v q c 26 [x, y, z] [p] := by kernel_rfl
theorem v26 (k : Nat) (n p v q : Int) (c : List Int) (x y z w u : Int) : f26 (k + 60) (SV n p v q c 26 [x, y, z] [w]) = (f34 (k + 60) ((((), ()), ((22 : Int), ()), ([w], ()), ()), MV n p v q, c, [(0, 27, [x, y, z], [])], ())).bind fun v => some ((), ((v.2.1.1.1, v.2.1.1.2.1, v.2.1.1.2.2), (), (), (v.2.1.2.2.2.1.1, v.2.1.2.2.2.1.2.1, v.2.1.2.2.2.1.2.2.1, v.2.1.2.2.2.1.2.2.2), ()), v.2.2.1, (), List.take (List.length v.2.2.2.1) v.2.2.2.1, ()) := by kernel_rfl
theorem v27 (k : Nat) (n p v q : Int) (c : List Int) (x y z w u : Int) : f26 (k + 60) (SV n p v q c 27 [x, y, z] [w]) = RV n p v q c 28 [x, y, z] [w, q] := by kernel_rfl
theorem v28 (k : Nat) (n p v q : Int) (c : List Int) (x y z w u : Int) : f26 (k + 60) (SV n p v q c 28 [x, y, z] [w, u]) = RV n p v q c 29 [x, y, z] [u, w] := by kernel_rfl
theorem v29 (k : Nat) (n p v q : Int) (c : List Int) (x y z w u : Int) : f26 (k + 60) (SV n p v q c 29 [x, y, z] [w, u]) = (f34 (k + 60) ((((), ()), ((23 : Int), ()), ([w, u], ()), ()), MV n p v q, c, [(0, 30, [x, y, z], [])], ())).bind fun v => some ((), ((v.2.1.1.1, v.2.1.1.2.1, v.2.1.1.2.2), (), (), (v.2.1.2.2.2.1.1, v.2.1.2.2.2.1.2.1, v.2.1.2.2.2.1.2.2.1, v.2.1.2.2.2.1.2.2.2), ()), v.2.2.1, (), List.take (List.length v.2.2.2.1) v.2.2.2.1, ()) := by kernel_rfl
theorem v30 (k : Nat) (n p v q : Int) (c : List Int) (x y z w u : Int) : f26 (k + 60) (SV n p v q c 30 [x, y, z] []) = some ((), MV n p v q, c, (), [], ()) := by kernel_rfl
theorem beg_v (k : Nat) (n p v q : Int) (c : List Int) : f10 (k + 60) ((((), ()), ((9 : Int), ()), ((9 : Int), ()), ((9 : Int), ()), ()), MV n p v q, c, [], ()) = some ((((0 : Int), ()), ()), MV n p v q, c, (), [(0, 0, [9, 9, 9], [])], ()) := by kernel_rfl
theorem rv (k : Nat) (d : List Int) (n p v q : Int) : loopN (e37_1 (k + 60) 600 d (one (cs n p v q))) (k + 60) (((one (cs n p v q), ()), ((1 : Int), ()), ((0 : Int), ()), ()), ()) = some (((true, ()), ()), ()) := by kernel_rfl
end
end Go.Proofs.Ytjbdeccohpbegaa.Vm
