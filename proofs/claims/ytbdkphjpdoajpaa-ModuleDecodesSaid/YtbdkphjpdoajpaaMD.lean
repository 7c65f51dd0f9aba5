import Derived.Test.YtbdkphjpdoajpaaMC
namespace Go.Proofs.Ytbdkphjpdoajpaa.Md
open Go Go.RowKit Go.Proofs Go.Proofs.Ytbdkphjpdoajpaa.X
set_option linter.unusedVariables false
set_option linter.unusedSimpArgs false
noncomputable section
/-! A function -/
def e34_0 (g : ((List Int × Unit) × (Int × Unit) × (Int × Unit) × (Int × Unit) × Unit) × Unit) (L : ((List Int × Unit) × (Int × Unit) × (Int × Unit) × (Int × Unit) × Unit) × Unit → Option (((Int × Unit) × Unit) × Unit)) : Option (((Int × Unit) × Unit) × Unit) := bif decide (g.1.2.2.2.1.1 < g.1.2.2.1.1) then bif decide ((0 : Int) ≤ g.1.2.2.2.1.1 ∧ g.1.2.2.2.1.1 < (↑g.1.1.1.length : Int)) then bif g.1.2.1.1 == gt is g.1.1.1 g.1.2.2.2.1.1.toNat then some (((g.1.2.2.2.1.1, ()), ()), ()) else L (((g.1.1.1, ()), (g.1.2.1.1, ()), (g.1.2.2.1.1, ()), (IntKind.i64.wrap (g.1.2.2.2.1.1 + (1 : Int)), ()), ()), ()) else none else some ((((-1 : Int), ()), ()), ())
theorem e34_eq (k : Nat) (l : List Int) (n : Int) : f34 k (((l, ()), (n, ()), ()), ()) = loopN e34_0 k (((l, ()), (n, ()), ((↑l.length : Int), ()), ((0 : Int), ()), ()), ()) := by kernel_rfl
theorem e27_eq (k : Nat) (l : List Int) (n : Int) : f27 k (((l, ()), (n, ()), ()), ()) = (f34 k (((l, ()), (n, ()), ()), ())).bind fun v => some (((decide (v.1.1.1 ≥ (0 : Int)), ()), ()), ()) := by kernel_rfl
theorem e16_eq (k : Nat) (n : Int) : f16 k (((n, ()), ()), ()) = (f27 k ((([(1 : Int), (5 : Int), (6 : Int), (24 : Int), (25 : Int), (26 : Int), (28 : Int)], ()), (n, ()), ()), ())).bind fun v => some (((v.1.1.1, ()), ()), ()) := by kernel_rfl
theorem e29_eq (k : Nat) (n : Int) : f29 k (((n, ()), ()), ()) = bif n == (1 : Int) then some (((true, ()), ()), ()) else bif n == (5 : Int) then some (((true, ()), ()), ()) else bif n == (6 : Int) then some (((true, ()), ()), ()) else bif n == (24 : Int) then some (((true, ()), ()), ()) else bif n == (25 : Int) then some (((true, ()), ()), ()) else bif n == (26 : Int) then some (((true, ()), ()), ()) else some (((n == (28 : Int), ()), ()), ()) := by kernel_rfl
def e19_0 (k : Nat) (b : List Int) (p : Int) (bad : Bool) (g : ((Unit × Unit) × (Unit × Unit) × (Unit × Unit) × (Int × Unit) × Unit) × ((List Int × Int × Bool) × Unit) × ((Int × Int × Int × List (Int × Int)) × Unit) × (Int × Int × Int × Unit × Unit) × List (Int × Int) × Unit) (L : ((Unit × Unit) × (Unit × Unit) × (Unit × Unit) × (Int × Unit) × Unit) × ((List Int × Int × Bool) × Unit) × ((Int × Int × Int × List (Int × Int)) × Unit) × (Int × Int × Int × Unit × Unit) × List (Int × Int) × Unit → Option ((((Int × Int × Int × List (Int × Int)) × Unit) × Unit) × ((List Int × Int × Bool) × Unit) × Unit)) : Option ((((Int × Int × Int × List (Int × Int)) × Unit) × Unit) × ((List Int × Int × Bool) × Unit) × Unit) := bif decide (g.1.2.2.2.1.1 > (0 : Int)) then bif !g.2.1.1.2.2 then (f17 k ((((), ()), ((0 : Int), ()), ((29 : Int), ()), ()), ((g.2.1.1.1, g.2.1.1.2.1, g.2.1.1.2.2), ()), ())).bind fun v => (f16 k (((v.1.1.1, ()), ()), ())).bind fun v_1 => bif v_1.1.1.1 then (f28 k ((((), ()), ()), ((v.2.1.1.1, v.2.1.1.2.1, v.2.1.1.2.2), ()), ())).bind fun v_2 => bif ((g.2.2.2.2.1.length + [(v.1.1.1, v_2.1.1.1)].length) * (16 : Nat)).ble (140737488355328 : Nat) then L ((((), ()), ((), ()), ((), ()), (IntKind.i64.wrap (g.1.2.2.2.1.1 - (1 : Int)), ()), ()), ((v_2.2.1.1.1, v_2.2.1.1.2.1, v_2.2.1.1.2.2), ()), ((g.2.2.1.1.1, g.2.2.1.1.2.1, g.2.2.1.1.2.2.1, g.2.2.1.1.2.2.2), ()), (g.2.2.2.1.1, g.2.2.2.1.2.1, g.2.2.2.1.2.2.1, (), ()), g.2.2.2.2.1 ++ [(v.1.1.1, v_2.1.1.1)], ()) else none else bif ((g.2.2.2.2.1.length + [(v.1.1.1, (0 : Int))].length) * (16 : Nat)).ble (140737488355328 : Nat) then L ((((), ()), ((), ()), ((), ()), (IntKind.i64.wrap (g.1.2.2.2.1.1 - (1 : Int)), ()), ()), ((v.2.1.1.1, v.2.1.1.2.1, v.2.1.1.2.2), ()), ((g.2.2.1.1.1, g.2.2.1.1.2.1, g.2.2.1.1.2.2.1, g.2.2.1.1.2.2.2), ()), (g.2.2.2.1.1, g.2.2.2.1.2.1, g.2.2.2.1.2.2.1, (), ()), g.2.2.2.2.1 ++ [(v.1.1.1, (0 : Int))], ()) else none else some ((((g.2.2.2.1.1, g.2.2.2.1.2.1, g.2.2.2.1.2.2.1, g.2.2.2.2.1), ()), ()), ((g.2.1.1.1, g.2.1.1.2.1, g.2.1.1.2.2), ()), ()) else some ((((g.2.2.2.1.1, g.2.2.2.1.2.1, g.2.2.2.1.2.2.1, g.2.2.2.2.1), ()), ()), ((g.2.1.1.1, g.2.1.1.2.1, g.2.1.1.2.2), ()), ())
theorem e19_eq (k : Nat) (b : List Int) (p : Int) (bad : Bool) : f19 k ((((), ()), ()), ((b, p, bad), ()), ()) = (f17 k ((((), ()), ((0 : Int), ()), ((8 : Int), ()), ()), ((b, p, bad), ()), ())).bind fun v => (f17 k ((((), ()), ((0 : Int), ()), ((1 : Int), ()), ()), ((v.2.1.1.1, v.2.1.1.2.1, v.2.1.1.2.2), ()), ())).bind fun v_1 => (f17 k ((((), ()), ((0 : Int), ()), (IntKind.i64.wrap ((16 : Int) - v.1.1.1), ()), ()), ((v_1.2.1.1.1, v_1.2.1.1.2.1, v_1.2.1.1.2.2), ()), ())).bind fun v_2 => (f18 k ((((), ()), ((1 : Int), ()), ((400 : Int), ()), ()), ((v_2.2.1.1.1, v_2.2.1.1.2.1, v_2.2.1.1.2.2), ()), ())).bind fun v_3 => loopN (e19_0 k b p bad) k ((((), ()), ((), ()), ((), ()), (v_3.1.1.1, ()), ()), ((v_3.2.1.1.1, v_3.2.1.1.2.1, v_3.2.1.1.2.2), ()), (((0 : Int), (0 : Int), (0 : Int), []), ()), (v.1.1.1, v_1.1.1.1, v_2.1.1.1, (), ()), [], ()) := by kernel_rfl
def e22_0 (k : Nat) (b : List Int) (p : Int) (ok : Bool) (g : ((Unit × Unit) × (Unit × Unit) × (Unit × Unit) × (Unit × Unit) × (Int × Unit) × (Int × Unit) × Unit) × ((List Int × Int × Bool) × Unit) × ((Int × Int × Int × List (Int × Int)) × Unit) × ((List Int × Int × Bool) × Unit) × (Int × Int × Int × Unit × Unit) × List (Int × Int) × Unit) (L : ((Unit × Unit) × (Unit × Unit) × (Unit × Unit) × (Unit × Unit) × (Int × Unit) × (Int × Unit) × Unit) × ((List Int × Int × Bool) × Unit) × ((Int × Int × Int × List (Int × Int)) × Unit) × ((List Int × Int × Bool) × Unit) × (Int × Int × Int × Unit × Unit) × List (Int × Int) × Unit → Option ((((Int × Int × Int × List (Int × Int)) × Unit) × ((List Int × Int × Bool) × Unit) × Unit) × Unit)) : Option ((((Int × Int × Int × List (Int × Int)) × Unit) × ((List Int × Int × Bool) × Unit) × Unit) × Unit) := bif decide (g.1.2.2.2.2.2.1.1 < g.1.2.2.2.2.1.1) then bif g.2.1.1.2.2 then (f20 k ((((g.2.1.1.1, g.2.1.1.2.1, g.2.1.1.2.2), ()), ((0 : Int), ()), ((29 : Int), ()), ()), ())).bind fun v => (f29 k (((v.1.1.1, ()), ()), ())).bind fun v_1 => bif v_1.1.1.1 then (f30 k ((((v.1.2.1.1.1, v.1.2.1.1.2.1, v.1.2.1.1.2.2), ()), ()), ())).bind fun v_2 => bif ((g.2.2.2.2.2.1.length + [(v.1.1.1, v_2.1.1.1)].length) * (16 : Nat)).ble (140737488355328 : Nat) then L ((((), ()), ((), ()), ((), ()), ((), ()), (g.1.2.2.2.2.1.1, ()), (IntKind.i64.wrap (g.1.2.2.2.2.2.1.1 + (1 : Int)), ()), ()), ((v_2.1.2.1.1.1, v_2.1.2.1.1.2.1, v_2.1.2.1.1.2.2), ()), ((g.2.2.1.1.1, g.2.2.1.1.2.1, g.2.2.1.1.2.2.1, g.2.2.1.1.2.2.2), ()), ((g.2.2.2.1.1.1, g.2.2.2.1.1.2.1, g.2.2.2.1.1.2.2), ()), (g.2.2.2.2.1.1, g.2.2.2.2.1.2.1, g.2.2.2.2.1.2.2.1, (), ()), g.2.2.2.2.2.1 ++ [(v.1.1.1, v_2.1.1.1)], ()) else none else bif ((g.2.2.2.2.2.1.length + [(v.1.1.1, (0 : Int))].length) * (16 : Nat)).ble (140737488355328 : Nat) then L ((((), ()), ((), ()), ((), ()), ((), ()), (g.1.2.2.2.2.1.1, ()), (IntKind.i64.wrap (g.1.2.2.2.2.2.1.1 + (1 : Int)), ()), ()), ((v.1.2.1.1.1, v.1.2.1.1.2.1, v.1.2.1.1.2.2), ()), ((g.2.2.1.1.1, g.2.2.1.1.2.1, g.2.2.1.1.2.2.1, g.2.2.1.1.2.2.2), ()), ((g.2.2.2.1.1.1, g.2.2.2.1.1.2.1, g.2.2.2.1.1.2.2), ()), (g.2.2.2.2.1.1, g.2.2.2.2.1.2.1, g.2.2.2.2.1.2.2.1, (), ()), g.2.2.2.2.2.1 ++ [(v.1.1.1, (0 : Int))], ()) else none else some ((((g.2.2.2.2.1.1, g.2.2.2.2.1.2.1, g.2.2.2.2.1.2.2.1, g.2.2.2.2.2.1), ()), ((g.2.1.1.1, g.2.1.1.2.1, g.2.1.1.2.2), ()), ()), ()) else some ((((g.2.2.2.2.1.1, g.2.2.2.2.1.2.1, g.2.2.2.2.1.2.2.1, g.2.2.2.2.2.1), ()), ((g.2.1.1.1, g.2.1.1.2.1, g.2.1.1.2.2), ()), ()), ())
theorem e22_eq (k : Nat) (b : List Int) (p : Int) (ok : Bool) : f22 k ((((b, p, ok), ()), ()), ()) = (f20 k ((((b, p, ok), ()), ((0 : Int), ()), ((8 : Int), ()), ()), ())).bind fun v => (f20 k ((((v.1.2.1.1.1, v.1.2.1.1.2.1, v.1.2.1.1.2.2), ()), ((0 : Int), ()), ((1 : Int), ()), ()), ())).bind fun v_1 => (f20 k ((((v_1.1.2.1.1.1, v_1.1.2.1.1.2.1, v_1.1.2.1.1.2.2), ()), ((0 : Int), ()), (IntKind.i64.wrap ((16 : Int) - v.1.1.1), ()), ()), ())).bind fun v_2 => (f21 k ((((v_2.1.2.1.1.1, v_2.1.2.1.1.2.1, v_2.1.2.1.1.2.2), ()), ((1 : Int), ()), ((400 : Int), ()), ()), ())).bind fun v_3 => loopN (e22_0 k b p ok) k ((((), ()), ((), ()), ((), ()), ((), ()), (v_3.1.1.1, ()), ((0 : Int), ()), ()), ((v_3.1.2.1.1.1, v_3.1.2.1.1.2.1, v_3.1.2.1.1.2.2), ()), (((0 : Int), (0 : Int), (0 : Int), []), ()), (([], (0 : Int), false), ()), (v.1.1.1, v_1.1.1.1, v_2.1.1.1, (), ()), [], ()) := by kernel_rfl

def hasP (n : Int) : Bool := n == 1 || (n == 5 || (n == 6 || (n == 24 || (n == 25 || (n == 26 || n == 28)))))
theorem has_ref (k : Nat) (n : Int) : f29 k (((n, ()), ()), ()) = some (((hasP n, ()), ()), ()) := by
  rw [e29_eq]
  unfold hasP
  cases n == 1 <;> cases n == 5 <;> cases n == 6 <;> cases n == 24 <;> cases n == 25 <;> cases n == 26 <;> rfl
theorem gt_at {xs : List Int} {i : Nat} (h : i < xs.length) : gt is xs i = xs[i] := by simp [gt, h]
theorem idx_loop (n : Int) (l : List Int) (hl : l.length ≤ 1000) : ∀ (m i : Nat) (k : Nat), l.length - i ≤ m → l.length - i + 1 ≤ k → ∃ r : Int, loopN e34_0 k (((l, ()), (n, ()), ((l.length : Int), ()), ((i : Int), ()), ()), ()) = some (((r, ()), ()), ()) ∧ decide (r ≥ 0) = (l.drop i).any (fun x => n == x) := by
  intro m
  induction m with
  | zero =>
    intro i k hm hk
    obtain ⟨k, rfl⟩ : ∃ k2, k = k2 + 1 := ⟨k - 1, by omega⟩
    rw [loopN_succ, e34_0]
    simp only []
    rw [cneg (by omega), List.drop_of_length_le (by omega)]
    exact ⟨-1, rfl, rfl⟩
  | succ m ih =>
    intro i k hm hk
    obtain ⟨k, rfl⟩ : ∃ k2, k = k2 + 1 := ⟨k - 1, by omega⟩
    rw [loopN_succ, e34_0]
    simp only []
    by_cases h0 : l.length ≤ i
    · rw [cneg (by omega), List.drop_of_length_le h0]
      exact ⟨-1, rfl, rfl⟩
    · have hlt : i < l.length := by omega
      rw [cpos (by omega), cpos (by omega), show ((i : Int)).toNat = i from Int.toNat_natCast i, gt_at hlt, List.drop_eq_getElem_cons hlt, List.any_cons]
      cases hc : n == l[i] with
      | true => exact ⟨i, rfl, by rw [decide_eq_true (by omega)]; rfl⟩
      | false =>
        rw [cond_false, wrapId (by omega) (by omega), show ((i : Int) + 1) = ((i + 1 : Nat) : Int) by omega]
        obtain ⟨r, h1, h2⟩ := ih (i + 1) k (by omega) (by omega)
        exact ⟨r, h1, by rw [h2]; rfl⟩
theorem has_ok (k : Nat) (n : Int) (hk : 10 ≤ k) : f16 k (((n, ()), ()), ()) = some (((hasP n, ()), ()), ()) := by
  obtain ⟨r, h1, h2⟩ := idx_loop n [1, 5, 6, 24, 25, 26, 28] (by decide) 7 0 k (by decide) (by simp; omega)
  rw [e16_eq, e27_eq, e34_eq]
  have h1' : loopN e34_0 k ((([1, 5, 6, 24, 25, 26, 28], ()), (n, ()), ((([1, 5, 6, 24, 25, 26, 28] : List Int).length : Int), ()), ((0 : Int), ()), ()), ()) = some (((r, ()), ()), ()) := h1
  rw [h1', Option.bind_some]
  simp only []
  rw [h2, Option.bind_some]
  simp only [List.drop_zero, List.any_cons, List.any_nil, Bool.or_false, hasP]
abbrev Fn : Type := Int × Int × Int × List (Int × Int)
abbrev O19 (f : Fn) (b : List Int) (p : Int) (bad : Bool) : Option F19.post.T := some (((f, ()), ()), ((b, p, bad), ()), ())
abbrev O22 (f : Fn) (b : List Int) (p : Int) (ok : Bool) : Option F22.post.T := some (((f, ()), ((b, p, ok), ()), ()), ())
abbrev G19 (n : Int) (b : List Int) (p : Int) (bad : Bool) (A B C : Int) (cs : List (Int × Int)) : ((Unit × Unit) × (Unit × Unit) × (Unit × Unit) × (Int × Unit) × Unit) × ((List Int × Int × Bool) × Unit) × ((Int × Int × Int × List (Int × Int)) × Unit) × (Int × Int × Int × Unit × Unit) × List (Int × Int) × Unit :=
  ((((), ()), ((), ()), ((), ()), (n, ()), ()), ((b, p, bad), ()), (((0 : Int), (0 : Int), (0 : Int), []), ()), (A, B, C, (), ()), cs, ())
abbrev G22 (N i : Int) (b : List Int) (p : Int) (ok : Bool) (q : List Int × Int × Bool) (A B C : Int) (cs : List (Int × Int)) : ((Unit × Unit) × (Unit × Unit) × (Unit × Unit) × (Unit × Unit) × (Int × Unit) × (Int × Unit) × Unit) × ((List Int × Int × Bool) × Unit) × ((Int × Int × Int × List (Int × Int)) × Unit) × ((List Int × Int × Bool) × Unit) × (Int × Int × Int × Unit × Unit) × List (Int × Int) × Unit :=
  ((((), ()), ((), ()), ((), ()), ((), ()), (N, ()), (i, ()), ()), ((b, p, ok), ()), (((0 : Int), (0 : Int), (0 : Int), []), ()), (q, ()), (A, B, C, (), ()), cs, ())
theorem fun_bad (k0 : Nat) (b b0 : List Int) (p0 : Int) (bad0 : Bool) (q : List Int × Int × Bool) (n N i p A B C : Int) (cs cs' : List (Int × Int)) (k k' : Nat) (hk : 1 ≤ k) (hk' : 1 ≤ k') :
    loopN (e19_0 k0 b0 p0 bad0) k (G19 n b p true A B C cs) = O19 (A, B, C, cs) b p true ∧ loopN (e22_0 k0 b0 p0 (!bad0)) k' (G22 N i b p false q A B C cs') = O22 (A, B, C, cs') b p false := by
  obtain ⟨k, rfl⟩ : ∃ k2, k = k2 + 1 := ⟨k - 1, by omega⟩
  obtain ⟨k', rfl⟩ : ∃ k2, k' = k2 + 1 := ⟨k' - 1, by omega⟩
  refine ⟨?_, ?_⟩
  · rw [loopN_succ, e19_0]
    simp only []
    by_cases h : n > 0
    · rw [cpos h, Bool.not_true, cond_false]
    · rw [cneg h]
  · rw [loopN_succ, e22_0]
    simp only []
    by_cases h : i < N
    · rw [cpos h, cond_false]
    · rw [cneg h]
theorem bl16 {α : Type} {l : List (Int × Int)} {x : Int × Int} {a b : α} (h : l.length ≤ 100000) : cond (((l.length + [x].length) * 16).ble 140737488355328) a b = a := by
  have : ((l.length + [x].length) * 16).ble 140737488355328 = true := Nat.ble_eq ▸ (by rw [List.length_singleton]; omega)
  rw [this]; rfl
theorem fun_loop (k0 : Nat) (b b0 : List Int) (p0 : Int) (bad0 : Bool) (q : List Int × Int × Bool) (hk0 : 30 ≤ k0) (N A B C : Int) (hN : N ≤ 1000) : ∀ (m : Nat) (i p : Int) (cs : List (Int × Int)) (k k' : Nat), N - i ≤ m → 0 ≤ i → m + 2 ≤ k → m + 2 ≤ k' → Pos b p → cs.length ≤ i → i ≤ 1000 →
    ∃ v v' p' bad', loopN (e19_0 k0 b0 p0 bad0) k (G19 (N - i) b p false A B C cs) = O19 (A, B, C, v) b p' bad' ∧ loopN (e22_0 k0 b0 p0 (!bad0)) k' (G22 N i b p true q A B C cs) = O22 (A, B, C, v') b p' (!bad') ∧ Pos b p' ∧ (bad' = false → v = v' ∧ v.length ≤ 1000) := by
  intro m
  induction m with
  | zero =>
    intro i p cs k k' hm hi hk hk' hp hcs hi2
    obtain ⟨k, rfl⟩ : ∃ k2, k = k2 + 1 := ⟨k - 1, by omega⟩
    obtain ⟨k', rfl⟩ : ∃ k2, k' = k2 + 1 := ⟨k' - 1, by omega⟩
    refine ⟨cs, cs, p, false, ?_, ?_, hp, fun _ => ⟨rfl, by omega⟩⟩
    · rw [loopN_succ, e19_0]
      simp only []
      rw [cneg (by omega)]
    · rw [loopN_succ, e22_0]
      simp only []
      rw [cneg (by omega)]; rfl
  | succ m ih =>
    intro i p cs k k' hm hi hk hk' hp hcs hi2
    obtain ⟨k, rfl⟩ : ∃ k2, k = k2 + 1 := ⟨k - 1, by omega⟩
    obtain ⟨k', rfl⟩ : ∃ k2, k' = k2 + 1 := ⟨k' - 1, by omega⟩
    by_cases hle : N - i ≤ 0
    · refine ⟨cs, cs, p, false, ?_, ?_, hp, fun _ => ⟨rfl, by omega⟩⟩
      · rw [loopN_succ, e19_0]
        simp only []
        rw [cneg (by omega)]
      · rw [loopN_succ, e22_0]
        simp only []
        rw [cneg (by omega)]; rfl
    have hnp := nx_pos hp false 0 29
    have ho := one_ok k0 hp false 0 29
    rw [Bool.not_false] at ho
    rw [loopN_succ, loopN_succ, e19_0, e22_0]
    simp only []
    rw [cpos (by omega), Bool.not_false, cond_true, cpos (by omega), cond_true, next_ok k0 hp, Option.bind_some, ho, Option.bind_some]
    simp only []
    rw [has_ok k0 _ (by omega), Option.bind_some, has_ref, Option.bind_some]
    simp only []
    generalize nx b p false 0 29 = w at *
    obtain ⟨op, p1, bad1⟩ := w
    simp only [] at hnp ⊢
    have hcl : ∀ x : Int × Int, (cs ++ [x]).length = cs.length + 1 := fun x => by rw [List.length_append, List.length_singleton]
    have goOn : ∀ (x x' : Int × Int) (p2 : Int) (bad2 : Bool), Pos b p2 → (bad2 = false → x = x') → ∃ v v' p' bad', loopN (e19_0 k0 b0 p0 bad0) k (G19 (N - i - 1) b p2 bad2 A B C (cs ++ [x])) = O19 (A, B, C, v) b p' bad' ∧ loopN (e22_0 k0 b0 p0 (!bad0)) k' (G22 N (i + 1) b p2 (!bad2) q A B C (cs ++ [x'])) = O22 (A, B, C, v') b p' (!bad') ∧ Pos b p' ∧ (bad' = false → v = v' ∧ v.length ≤ 1000) := by
      intro x x' p2 bad2 hp2 hx
      cases bad2 with
      | true =>
        obtain ⟨h1, h2⟩ := fun_bad k0 b b0 p0 bad0 q (N - i - 1) N (i + 1) p2 A B C (cs ++ [x]) (cs ++ [x']) k k' (by omega) (by omega)
        exact ⟨_, _, p2, true, h1, h2, hp2, fun h => by cases h⟩
      | false =>
        have := hx rfl
        subst this
        have := ih (i + 1) p2 (cs ++ [x]) k k' (by omega) (by omega) (by omega) (by omega) hp2 (by rw [hcl]; omega) (by omega)
        rw [show N - (i + 1) = N - i - 1 by omega] at this
        exact this
    cases hasP op with
    | true =>
      obtain ⟨v, hv1, hv2⟩ := number_ok k0 hnp bad1 (by omega)
      have hr := number_ref k0 hnp bad1 (by omega)
      rw [cond_true, cond_true, hv1, hr, Option.bind_some, Option.bind_some]
      simp only []
      rw [bl16 (by omega), bl16 (by omega), wrapId (n := N - i - 1) (by omega) (by omega), wrapId (n := i + 1) (by omega) (by omega)]
      refine goOn (op, v) (op, _) _ _ (numR_pos hnp bad1) fun h => ?_
      rw [h, if_neg Bool.false_ne_true, hv2 h]
    | false =>
      rw [cond_false, cond_false, bl16 (by omega), bl16 (by omega), wrapId (n := N - i - 1) (by omega) (by omega), wrapId (n := i + 1) (by omega) (by omega)]
      exact goOn (op, 0) (op, 0) p1 bad1 hnp fun _ => rfl
theorem tw_le {b : List Int} {p : Int} (h : Pos b p) (bad : Bool) (lo hi : Int) (hb : (tw b p bad lo hi).2.2 = false) : (tw b p bad lo hi).1 ≤ hi ∧ 0 ≤ (tw b p bad lo hi).1 := by
  unfold tw at hb ⊢
  have hv := nx_val h bad 0 (min hi 255)
  have hp := nx_pos h bad 0 (min hi 255)
  generalize nx b p bad 0 (min hi 255) = q at *
  have hv2 := nx_val hp q.2.2 (if q.1 < lo then 1 else 0) ((hi - q.1) / 256)
  have := (hv2.2.2 hb).2
  simp only [] at hb ⊢
  omega
theorem func_ok (k : Nat) {b : List Int} {p : Int} (h : Pos b p) (bad : Bool) (hk : 2000 ≤ k) : ∃ (v v' : Fn) (p' : Int) (bad' : Bool), f19 k ((((), ()), ()), (((b, p, bad), ()), ())) = O19 v b p' bad' ∧ f22 k ((((b, p, !bad), ()), ()), ()) = O22 v' b p' (!bad') ∧ Pos b p' ∧ (bad' = false → v = v' ∧ v.2.2.2.length ≤ 1000) := by
  rw [e19_eq, e22_eq, next_ok k h, one_ok k h, Option.bind_some, Option.bind_some]
  simp only []
  have h1 := nx_pos h bad 0 8
  have hv1 := nx_val h bad 0 8
  generalize nx b p bad 0 8 = w1 at *
  obtain ⟨A, p1, bad1⟩ := w1
  simp only [] at h1 hv1 ⊢
  rw [next_ok k h1, one_ok k h1, Option.bind_some, Option.bind_some]
  simp only []
  have h2 := nx_pos h1 bad1 0 1
  generalize nx b p1 bad1 0 1 = w2 at *
  obtain ⟨B, p2, bad2⟩ := w2
  simp only [] at h2 ⊢
  rw [wrapId (n := 16 - A) (by omega) (by omega), next_ok k h2, one_ok k h2, Option.bind_some, Option.bind_some]
  simp only []
  have h3 := nx_pos h2 bad2 0 (16 - A)
  generalize nx b p2 bad2 0 (16 - A) = w3 at *
  obtain ⟨C, p3, bad3⟩ := w3
  simp only [] at h3 ⊢
  rw [two_ok k h3 bad3 (by omega), pair_ok k h3 bad3 (by omega) (.inr ⟨rfl, by omega⟩) (by omega), Option.bind_some, Option.bind_some]
  simp only []
  have h4 := tw_pos h3 bad3 1 400
  have hle := tw_le h3 bad3 1 400
  generalize tw b p3 bad3 1 400 = w4 at *
  obtain ⟨N, p4, bad4⟩ := w4
  simp only [] at h4 hle ⊢
  cases bad4 with
  | true =>
    obtain ⟨g1, g2⟩ := fun_bad k b b p bad ([], 0, false) N 0 0 p4 A B C [] [] k k (by omega) (by omega)
    exact ⟨_, _, p4, true, g1, g2, h4, fun q => by cases q⟩
  | false =>
    have hl := hle rfl
    obtain ⟨v, v', p', bad', g1, g2, g3, g4⟩ := fun_loop k b b p bad ([], 0, false) (by omega) N A B C (by omega) 1000 0 p4 [] k k (by omega) (by omega) (by omega) (by omega) h4 (by simp) (by omega)
    rw [show N - 0 = N by omega] at g1
    exact ⟨(A, B, C, v), (A, B, C, v'), p', bad', g1, g2, g3, fun q => by obtain ⟨r1, r2⟩ := g4 q; exact ⟨by rw [r1], r2⟩⟩
end
end Go.Proofs.Ytbdkphjpdoajpaa.Md
