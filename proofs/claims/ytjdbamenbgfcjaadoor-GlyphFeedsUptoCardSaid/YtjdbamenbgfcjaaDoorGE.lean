import Derived.Test.YtjdbamenbgfcjaaDoorGD
namespace Go.Proofs.YtjdbamenbgfcjaaDoor.Gl
open Go Go.RowKit Go.Proofs Go.Proofs.YtjdbamenbgfcjaaDoor.X
set_option linter.unusedVariables false
set_option linter.unusedSimpArgs false
noncomputable section
/-! Widths and totals -/
def e25_0 (k : Nat) (xs : List Int) (g : ((Int × PUnit) × (List Int × PUnit) × (Int × PUnit) × (Int × PUnit) × PUnit) × PUnit) (L : ((Int × PUnit) × (List Int × PUnit) × (Int × PUnit) × (Int × PUnit) × PUnit) × PUnit →
  Option (((Int × PUnit) × PUnit) × PUnit)) : Option (((Int × PUnit) × PUnit) × PUnit) := bif decide (g.1.2.2.2.1.1 < g.1.2.2.1.1) then
  bif decide ((0 : Int) ≤ g.1.2.2.2.1.1 ∧ g.1.2.2.2.1.1 < (↑g.1.2.1.1.length : Int)) then
    (f23 k (((gt (Sh.int IntKind.i32) g.1.2.1.1 g.1.2.2.2.1.1.toNat, ()), ()), ())).bind fun v =>
      L
        (((IntKind.i64.wrap (g.1.1.1 + v.1.1.1), ()), (g.1.2.1.1, ()), (g.1.2.2.1.1, ()),
            (IntKind.i64.wrap (g.1.2.2.2.1.1 + (1 : Int)), ()), ()),
          ())
  else none
else some (((g.1.1.1, ()), ()), ())
theorem e25_eq (k : Nat) (xs : List Int) : f25 k (((xs, ()), ()), ()) = loopN (e25_0 k xs) k ((((0 : Int), ()), (xs, ()), ((↑xs.length : Int), ()), ((0 : Int), ()), ()), ()) := by kernel_rfl
def e26_0 (k : Nat) (xs : List Int) (g : ((List Int × PUnit) × (Int × PUnit) × (Int × PUnit) × PUnit) × PUnit) (L : ((List Int × PUnit) × (Int × PUnit) × (Int × PUnit) × PUnit) × PUnit → Option (((Int × PUnit) × PUnit) × PUnit)) : Option (((Int × PUnit) × PUnit) × PUnit) := bif decide (g.1.2.2.1.1 < (↑g.1.1.1.length : Int)) then
  bif decide ((0 : Int) ≤ g.1.2.2.1.1 ∧ g.1.2.2.1.1 < (↑g.1.1.1.length : Int)) then
    (f24 k (((gt (Sh.int IntKind.i32) g.1.1.1 g.1.2.2.1.1.toNat, ()), ()), ())).bind fun v =>
      L
        (((g.1.1.1, ()), (IntKind.i64.wrap (g.1.2.1.1 + v.1.1.1), ()), (IntKind.i64.wrap (g.1.2.2.1.1 + (1 : Int)), ()),
            ()),
          ())
  else none
else some (((g.1.2.1.1, ()), ()), ())
theorem e26_eq (k : Nat) (xs : List Int) : f26 k (((xs, ()), ()), ()) = loopN (e26_0 k xs) k (((xs, ()), ((0 : Int), ()), ((0 : Int), ()), ()), ()) := by kernel_rfl
def e7_0 (k : Nat) (a : Int) (xs : List Int) (g : ((Int × PUnit) × (List Int × PUnit) × (List Int × PUnit) × (Int × PUnit) × (Int × PUnit) × PUnit) × PUnit) (L : ((Int × PUnit) × (List Int × PUnit) × (List Int × PUnit) × (Int × PUnit) × (Int × PUnit) × PUnit) × PUnit →
  Option (((Bool × PUnit) × PUnit) × PUnit)) : Option (((Bool × PUnit) × PUnit) × PUnit) := bif decide (g.1.2.2.2.2.1.1 < g.1.2.2.2.1.1) then
  bif decide ((0 : Int) ≤ g.1.2.2.2.2.1.1 ∧ g.1.2.2.2.2.1.1 < (↑g.1.2.2.1.1.length : Int)) then
    (f23 k (((gt (Sh.int IntKind.i32) g.1.2.2.1.1 g.1.2.2.2.2.1.1.toNat, ()), ()), ())).bind fun v =>
      (f24 k (((gt (Sh.int IntKind.i32) g.1.2.2.1.1 g.1.2.2.2.2.1.1.toNat, ()), ()), ())).bind fun v_1 =>
        bif v.1.1.1 != v_1.1.1.1 then some (((false, ()), ()), ())
        else
          L
            (((g.1.1.1, ()), (g.1.2.1.1, ()), (g.1.2.2.1.1, ()), (g.1.2.2.2.1.1, ()),
                (IntKind.i64.wrap (g.1.2.2.2.2.1.1 + (1 : Int)), ()), ()),
              ())
  else none
else
  (f23 k (((g.1.1.1, ()), ()), ())).bind fun v =>
    (f24 k (((g.1.1.1, ()), ()), ())).bind fun v_1 =>
      bif v.1.1.1 == v_1.1.1.1 then
        (f25 k (((g.1.2.1.1, ()), ()), ())).bind fun v_2 =>
          (f26 k (((g.1.2.1.1, ()), ()), ())).bind fun v => some (((v_2.1.1.1 == v.1.1.1, ()), ()), ())
      else some (((false, ()), ()), ())
theorem e7_eq (k : Nat) (a : Int) (xs : List Int) : f7 k (((a, ()), (xs, ()), ()), ()) = (f11 k ((), ())).bind fun v =>
  bif !v.1.1.1 then some (((false, ()), ()), ())
  else loopN (e7_0 k a xs) k (((a, ()), (xs, ()), (xs, ()), ((↑xs.length : Int), ()), ((0 : Int), ()), ()), ()) := by kernel_rfl

def total (xs : List Int) : Int := (xs.map width).sum
theorem width_le (n : Int) : 0 ≤ width n ∧ width n ≤ 2 := by
  unfold width; split
  · omega
  · split
    · omega
    · split <;> omega
theorem total_nil : total [] = 0 := rfl
theorem total_cons (x : Int) (xs : List Int) : total (x :: xs) = width x + total xs := rfl
theorem total_app (xs ys : List Int) : total (xs ++ ys) = total xs + total ys := by
  induction xs with
  | nil => simp [total_nil]
  | cons x xs ih => rw [List.cons_append, total_cons, total_cons, ih]; omega
theorem total_le : ∀ xs : List Int, 0 ≤ total xs ∧ total xs ≤ 2 * (xs.length : Int)
  | [] => by simp [total_nil]
  | x :: xs => by
    have := width_le x
    have := total_le xs
    rw [total_cons, List.length_cons]; omega
theorem total_drop {xs : List Int} {i : Nat} (h : i < xs.length) : total (xs.drop i) = width xs[i] + total (xs.drop (i + 1)) := by
  rw [List.drop_eq_getElem_cons h, total_cons]
theorem gt_at {xs : List Int} {i : Nat} (h : i < xs.length) (k : IntKind) : gt (Sh.int k) xs i = xs[i] := by simp [gt, h]
theorem total_ok (k : Nat) (xs : List Int) (hl : xs.length ≤ 140737488351232) (hk : xs.length + 20 ≤ k) : f25 k (((xs, ()), ()), ()) = some (((total xs, ()), ()), ()) := by
  rw [e25_eq]
  have loop : ∀ (j k' i : Nat) (t : Int), i + j = xs.length → j + 1 ≤ k' → 0 ≤ t → t ≤ 2 * (i : Int) → loopN (e25_0 k xs) k' (((t, ()), (xs, ()), ((xs.length : Int), ()), ((i : Int), ()), ()), ()) = some (((t + total (xs.drop i), ()), ()), ()) := by
    intro j
    induction j with
    | zero =>
      intro k' i t hi hk _ _
      obtain ⟨k', rfl⟩ : ∃ k2, k' = k2 + 1 := ⟨k' - 1, by omega⟩
      simp only [loopN_succ, e25_0]
      rw [cneg (by omega), List.drop_eq_nil_of_le (by omega), total_nil, Int.add_zero]
    | succ j ih =>
      intro k' i t hi hk h0 h1
      obtain ⟨k', rfl⟩ : ∃ k2, k' = k2 + 1 := ⟨k' - 1, by omega⟩
      have hlt : i < xs.length := by omega
      have hw := width_le xs[i]
      simp only [loopN_succ, e25_0]
      rw [cpos (by omega), cpos (by omega), Int.toNat_natCast, gt_at hlt, width_ok k _ (by omega), Option.bind_some]
      simp only []
      rw [wrapId (n := t + width xs[i]) (by omega) (by omega), wrapId (n := (i : Int) + 1) (by omega) (by omega), show ((i : Int) + 1) = ((i + 1 : Nat) : Int) by omega, ih k' (i + 1) _ (by omega) (by omega) (by omega) (by omega), total_drop hlt, Int.add_assoc]
  rw [show (0 : Int) = ((0 : Nat) : Int) from rfl, loop xs.length k 0 _ (by omega) (by omega) (by omega) (by omega)]
  simp
abbrev I32 (n : Int) : Prop := -2147483648 ≤ n ∧ n < 2147483648
theorem rtotal_ok (k : Nat) (xs : List Int) (hx : ∀ x ∈ xs, I32 x) (hl : xs.length ≤ 140737488351232) (hk : xs.length + 20 ≤ k) : f26 k (((xs, ()), ()), ()) = some (((total xs, ()), ()), ()) := by
  rw [e26_eq]
  have loop : ∀ (j k' i : Nat) (t : Int), i + j = xs.length → j + 1 ≤ k' → 0 ≤ t → t ≤ 2 * (i : Int) → loopN (e26_0 k xs) k' (((xs, ()), (t, ()), ((i : Int), ()), ()), ()) = some (((t + total (xs.drop i), ()), ()), ()) := by
    intro j
    induction j with
    | zero =>
      intro k' i t hi hk _ _
      obtain ⟨k', rfl⟩ : ∃ k2, k' = k2 + 1 := ⟨k' - 1, by omega⟩
      simp only [loopN_succ, e26_0]
      rw [cneg (by omega), List.drop_eq_nil_of_le (by omega), total_nil, Int.add_zero]
    | succ j ih =>
      intro k' i t hi hk h0 h1
      obtain ⟨k', rfl⟩ : ∃ k2, k' = k2 + 1 := ⟨k' - 1, by omega⟩
      have hlt : i < xs.length := by omega
      have hw := width_le xs[i]
      simp only [loopN_succ, e26_0]
      rw [cpos (by omega), cpos (by omega), Int.toNat_natCast, gt_at hlt, wref_all k _ (hx _ (List.getElem_mem hlt)), Option.bind_some]
      simp only []
      rw [wrapId (n := t + width xs[i]) (by omega) (by omega), wrapId (n := (i : Int) + 1) (by omega) (by omega), show ((i : Int) + 1) = ((i + 1 : Nat) : Int) by omega, ih k' (i + 1) _ (by omega) (by omega) (by omega) (by omega), total_drop hlt, Int.add_assoc]
  rw [show (0 : Int) = ((0 : Nat) : Int) from rfl, loop xs.length k 0 _ (by omega) (by omega) (by omega) (by omega)]
  simp
theorem i32_of {n : Int} (h : (Lit.int .i32 n).wf = true) : I32 n := by
  simp only [Lit.wf, Bool.and_eq_true, decide_eq_true_eq] at h
  have h1 : -2147483648 ≤ n := h.1
  have h2 : n ≤ 2147483647 := h.2
  exact ⟨h1, by omega⟩
theorem glyphWidths (a : Int) (xs : List Int) (ha0 : (Lit.int .i32 a).wf = true) (hx0 : ∀ x ∈ xs, (Lit.int .i32 x).wf = true) (hl4 : xs.length * 4 ≤ 140737488351232) : f7 (xs.length + 20 + 20) (((a, ()), (xs, ()), ()), ()) = some (((true, ()), ()), ()) := by
  have ha := i32_of ha0
  have hx : ∀ x ∈ xs, I32 x := fun x h => i32_of (hx0 x h)
  have hl : xs.length ≤ 140737488351232 := by omega
  rw [e7_eq, alive, Option.bind_some]
  have loop : ∀ (j k' i : Nat), i + j = xs.length → j + 1 ≤ k' → loopN (e7_0 (xs.length + 20 + 20) a xs) k' (((a, ()), (xs, ()), (xs, ()), ((xs.length : Int), ()), ((i : Int), ()), ()), ()) = some (((true, ()), ()), ()) := by
    intro j
    induction j with
    | zero =>
      intro k' i hi hk
      obtain ⟨k', rfl⟩ : ∃ k2, k' = k2 + 1 := ⟨k' - 1, by omega⟩
      simp only [loopN_succ, e7_0]
      rw [cneg (by omega), width_ok _ _ (by omega), Option.bind_some, wref_all _ _ ha, Option.bind_some]
      simp only []
      rw [beq_self_eq_true, cond_true, total_ok _ _ hl (by omega), Option.bind_some, rtotal_ok _ _ hx hl (by omega), Option.bind_some]
      simp only []
      rw [beq_self_eq_true]
    | succ j ih =>
      intro k' i hi hk
      obtain ⟨k', rfl⟩ : ∃ k2, k' = k2 + 1 := ⟨k' - 1, by omega⟩
      have hlt : i < xs.length := by omega
      simp only [loopN_succ, e7_0]
      rw [cpos (by omega), cpos (by omega), Int.toNat_natCast, gt_at hlt, width_ok _ _ (by omega), Option.bind_some, wref_all _ _ (hx _ (List.getElem_mem hlt)), Option.bind_some]
      simp only []
      rw [show (width xs[i] != width xs[i]) = false by simp, cond_false, wrapId (n := (i : Int) + 1) (by omega) (by omega), show ((i : Int) + 1) = ((i + 1 : Nat) : Int) by omega]
      exact ih k' (i + 1) (by omega) (by omega)
  have h := loop xs.length (xs.length + 20 + 20) 0 (by omega) (by omega)
  exact h
end
end Go.Proofs.YtjdbamenbgfcjaaDoor.Gl
