import Derived.Test.YtjdbamenbgfcjaaDoorGE
namespace Go.Proofs.YtjdbamenbgfcjaaDoor.Gl
open Go Go.RowKit Go.Proofs Go.Proofs.YtjdbamenbgfcjaaDoor.X
set_option linter.unusedVariables false
set_option linter.unusedSimpArgs false
noncomputable section
/-! Cuts -/
def e13_0 (g : ((List Int × PUnit) × (List Int × PUnit) × (Int × PUnit) × PUnit) × PUnit) (L : ((List Int × PUnit) × (List Int × PUnit) × (Int × PUnit) × PUnit) × PUnit → Option (((Bool × PUnit) × PUnit) × PUnit)) : Option (((Bool × PUnit) × PUnit) × PUnit) := bif decide (g.1.2.2.1.1 < (↑g.1.1.1.length : Int)) then
  bif decide ((0 : Int) ≤ g.1.2.2.1.1 ∧ g.1.2.2.1.1 < (↑g.1.1.1.length : Int)) then
    bif decide ((0 : Int) ≤ g.1.2.2.1.1 ∧ g.1.2.2.1.1 < (↑g.1.2.1.1.length : Int)) then
      bif gt (Sh.int IntKind.i32) g.1.1.1 g.1.2.2.1.1.toNat != gt (Sh.int IntKind.i32) g.1.2.1.1 g.1.2.2.1.1.toNat then
        some (((false, ()), ()), ())
      else L (((g.1.1.1, ()), (g.1.2.1.1, ()), (IntKind.i64.wrap (g.1.2.2.1.1 + (1 : Int)), ()), ()), ())
    else none
  else none
else some (((true, ()), ()), ())
theorem e13_eq (k : Nat) (xs : List Int) (ys : List Int) : f13 k (((xs, ()), (ys, ()), ()), ()) = bif (↑xs.length : Int) != (↑ys.length : Int) then some (((false, ()), ()), ())
else loopN e13_0 k (((xs, ()), (ys, ()), ((0 : Int), ()), ()), ()) := by kernel_rfl
def e27_0 (k : Nat) (xs : List Int) (w : Int) (g : ((List Int × PUnit) × (Int × PUnit) × (Int × PUnit) × (List Int × PUnit) × (Int × PUnit) × (Int × PUnit) × PUnit) ×
  PUnit) (L : ((List Int × PUnit) × (Int × PUnit) × (Int × PUnit) × (List Int × PUnit) × (Int × PUnit) × (Int × PUnit) × PUnit) ×
    PUnit →
  Option (((PUnit × PUnit) × (Int × PUnit) × PUnit) × List Int × PUnit)) : Option (((PUnit × PUnit) × (Int × PUnit) × PUnit) × List Int × PUnit) := bif decide (g.1.2.2.2.2.2.1.1 < g.1.2.2.2.2.1.1) then
  bif decide ((0 : Int) ≤ g.1.2.2.2.2.2.1.1 ∧ g.1.2.2.2.2.2.1.1 < (↑g.1.2.2.2.1.1.length : Int)) then
    (f23 k (((gt (Sh.int IntKind.i32) g.1.2.2.2.1.1 g.1.2.2.2.2.2.1.1.toNat, ()), ()), ())).bind fun v =>
      bif decide (v.1.1.1 > IntKind.i64.wrap (g.1.2.1.1 - g.1.2.2.1.1)) then
        bif
            decide
              ((0 : Int) ≤ (0 : Int) ∧
                (0 : Int) ≤ g.1.2.2.2.2.2.1.1 ∧
                  g.1.2.2.2.2.2.1.1 ≤ g.1.2.2.2.2.2.1.1 ∧ g.1.2.2.2.2.2.1.1 ≤ (↑g.1.1.1.length : Int)) then
          (f38 k (((List.drop (Int.toNat (0 : Int)) (List.take g.1.2.2.2.2.2.1.1.toNat g.1.1.1), ()), ()), ())).bind
            fun v => some ((((), ()), (g.1.2.2.1.1, ()), ()), v.2.1, ())
        else none
      else
        bif decide (g.1.2.1.1 < (0 : Int)) then
          bif
              decide
                ((0 : Int) ≤ (0 : Int) ∧
                  (0 : Int) ≤ g.1.2.2.2.2.2.1.1 ∧
                    g.1.2.2.2.2.2.1.1 ≤ g.1.2.2.2.2.2.1.1 ∧ g.1.2.2.2.2.2.1.1 ≤ (↑g.1.1.1.length : Int)) then
            (f38 k (((List.drop (Int.toNat (0 : Int)) (List.take g.1.2.2.2.2.2.1.1.toNat g.1.1.1), ()), ()), ())).bind
              fun v => some ((((), ()), (g.1.2.2.1.1, ()), ()), v.2.1, ())
          else none
        else
          (f23 k (((gt (Sh.int IntKind.i32) g.1.2.2.2.1.1 g.1.2.2.2.2.2.1.1.toNat, ()), ()), ())).bind fun v =>
            L
              (((g.1.1.1, ()), (g.1.2.1.1, ()), (IntKind.i64.wrap (g.1.2.2.1.1 + v.1.1.1), ()), (g.1.2.2.2.1.1, ()),
                  (g.1.2.2.2.2.1.1, ()), (IntKind.i64.wrap (g.1.2.2.2.2.2.1.1 + (1 : Int)), ()), ()),
                ())
  else none
else (f38 k (((g.1.1.1, ()), ()), ())).bind fun v => some ((((), ()), (g.1.2.2.1.1, ()), ()), v.2.1, ())
theorem e27_eq (k : Nat) (xs : List Int) (w : Int) : f27 k (((xs, ()), (w, ()), ()), ()) = loopN (e27_0 k xs w) k
  (((xs, ()), (w, ()), ((0 : Int), ()), (xs, ()), ((↑xs.length : Int), ()), ((0 : Int), ()), ()), ()) := by kernel_rfl
def e28_0 (k : Nat) (xs : List Int) (w : Int) (g : ((List Int × PUnit) × (Int × PUnit) × (Int × PUnit) × (PUnit × PUnit) × (Int × PUnit) × PUnit) × List Int × PUnit) (L : ((List Int × PUnit) × (Int × PUnit) × (Int × PUnit) × (PUnit × PUnit) × (Int × PUnit) × PUnit) × List Int × PUnit →
  Option (((List Int × PUnit) × (Int × PUnit) × PUnit) × PUnit)) : Option (((List Int × PUnit) × (Int × PUnit) × PUnit) × PUnit) := bif decide (g.1.2.2.2.2.1.1 < (↑g.1.1.1.length : Int)) then
  bif decide ((0 : Int) ≤ g.1.2.2.2.2.1.1 ∧ g.1.2.2.2.2.1.1 < (↑g.1.1.1.length : Int)) then
    (f24 k (((gt (Sh.int IntKind.i32) g.1.1.1 g.1.2.2.2.2.1.1.toNat, ()), ()), ())).bind fun v =>
      bif decide (g.1.2.1.1 < (0 : Int)) then some (((g.2.1, ()), (g.1.2.2.1.1, ()), ()), ())
      else
        bif decide (IntKind.i64.wrap (g.1.2.2.1.1 + v.1.1.1) > g.1.2.1.1) then
          some (((g.2.1, ()), (g.1.2.2.1.1, ()), ()), ())
        else
          bif decide ((0 : Int) ≤ g.1.2.2.2.2.1.1 ∧ g.1.2.2.2.2.1.1 < (↑g.1.1.1.length : Int)) then
            bif
                ((g.2.1.length + [gt (Sh.int IntKind.i32) g.1.1.1 g.1.2.2.2.2.1.1.toNat].length) * (4 : Nat)).ble
                  (140737488355328 : Nat) then
              L
                (((g.1.1.1, ()), (g.1.2.1.1, ()), (IntKind.i64.wrap (g.1.2.2.1.1 + v.1.1.1), ()), ((), ()),
                    (IntKind.i64.wrap (g.1.2.2.2.2.1.1 + (1 : Int)), ()), ()),
                  g.2.1 ++ [gt (Sh.int IntKind.i32) g.1.1.1 g.1.2.2.2.2.1.1.toNat], ())
            else none
          else none
  else none
else some (((g.2.1, ()), (g.1.2.2.1.1, ()), ()), ())
theorem e28_eq (k : Nat) (xs : List Int) (w : Int) : f28 k (((xs, ()), (w, ()), ()), ()) = loopN (e28_0 k xs w) k (((xs, ()), (w, ()), ((0 : Int), ()), ((), ()), ((0 : Int), ()), ()), [], ()) := by kernel_rfl
def e8_0 (k : Nat) (xs : List Int) (w : Int) (g : ((List Int × PUnit) × (Int × PUnit) × (PUnit × PUnit) × (List Int × PUnit) × (Int × PUnit) × (Int × PUnit) × PUnit) ×
  List Int × PUnit) (L : ((List Int × PUnit) × (Int × PUnit) × (PUnit × PUnit) × (List Int × PUnit) × (Int × PUnit) × (Int × PUnit) × PUnit) ×
    List Int × PUnit →
  Option (((Bool × PUnit) × PUnit) × PUnit)) : Option (((Bool × PUnit) × PUnit) × PUnit) := bif decide (g.1.2.2.2.2.2.1.1 < g.1.2.2.2.2.1.1) then
  bif decide ((0 : Int) ≤ g.1.2.2.2.2.2.1.1 ∧ g.1.2.2.2.2.2.1.1 < (↑g.2.1.length : Int)) then
    L
      (((g.1.1.1, ()), (g.1.2.1.1, ()), ((), ()), (g.1.2.2.2.1.1, ()), (g.1.2.2.2.2.1.1, ()),
          (IntKind.i64.wrap (g.1.2.2.2.2.2.1.1 + (1 : Int)), ()), ()),
        g.2.1.set g.1.2.2.2.2.2.1.1.toNat (7 : Int), ())
  else none
else
  (f27 k (((g.1.1.1, ()), (g.1.2.1.1, ()), ()), ())).bind fun v =>
    (f13 k (((v.2.1, ()), (g.1.2.2.2.1.1, ()), ()), ())).bind fun v => some (((v.1.1.1, ()), ()), ())
theorem e8_eq (k : Nat) (xs : List Int) (w : Int) : f8 k (((xs, ()), (w, ()), ()), ()) = (f11 k ((), ())).bind fun v =>
  bif !v.1.1.1 then some (((false, ()), ()), ())
  else
    (f27 k (((xs, ()), (w, ()), ()), ())).bind fun v_1 =>
      (f28 k (((xs, ()), (w, ()), ()), ())).bind fun v_2 =>
        (f13 k (((v_1.2.1, ()), (v_2.1.1.1, ()), ()), ())).bind fun v_3 =>
          bif !v_3.1.1.1 then some (((false, ()), ()), ())
          else
            bif v_1.1.2.1.1 != v_2.1.2.1.1 then some (((false, ()), ()), ())
            else
              (f25 k (((v_1.2.1, ()), ()), ())).bind fun v_4 =>
                bif v_1.1.2.1.1 != v_4.1.1.1 then some (((false, ()), ()), ())
                else
                  bif decide ((↑(List.length v_1.2.1) : Int) < (↑xs.length : Int)) then
                    bif decide (w ≥ (0 : Int)) then
                      bif
                          decide
                            ((0 : Int) ≤ (0 : Int) ∧
                              (0 : Int) ≤ IntKind.i64.wrap ((↑(List.length v_1.2.1) : Int) + (1 : Int)) ∧
                                IntKind.i64.wrap ((↑(List.length v_1.2.1) : Int) + (1 : Int)) ≤
                                    IntKind.i64.wrap ((↑(List.length v_1.2.1) : Int) + (1 : Int)) ∧
                                  IntKind.i64.wrap ((↑(List.length v_1.2.1) : Int) + (1 : Int)) ≤
                                    (↑xs.length : Int)) then
                        (f25 k
                              (((List.drop (Int.toNat (0 : Int))
                                      (List.take (IntKind.i64.wrap ((↑(List.length v_1.2.1) : Int) + (1 : Int))).toNat
                                        xs),
                                    ()),
                                  ()),
                                ())).bind
                          fun v =>
                          bif decide (v.1.1.1 ≤ w) then some (((false, ()), ()), ())
                          else
                            loopN (e8_0 k xs w) k
                              (((xs, ()), (w, ()), ((), ()), (v_2.1.1.1, ()), ((↑(List.length v_1.2.1) : Int), ()),
                                  ((0 : Int), ()), ()),
                                v_1.2.1, ())
                      else none
                    else
                      loopN (e8_0 k xs w) k
                        (((xs, ()), (w, ()), ((), ()), (v_2.1.1.1, ()), ((↑(List.length v_1.2.1) : Int), ()),
                            ((0 : Int), ()), ()),
                          v_1.2.1, ())
                  else
                    loopN (e8_0 k xs w) k
                      (((xs, ()), (w, ()), ((), ()), (v_2.1.1.1, ()), ((↑(List.length v_1.2.1) : Int), ()),
                          ((0 : Int), ()), ()),
                        v_1.2.1, ()) := by kernel_rfl

theorem clone1 (k : Nat) (xs : List Int) (h : xs.length ≤ 140737488355328) : f32 k (((xs, ()), ()), ()) = some (ownV xs) := by
  rw [f32_fun]
  show cloneB 1 xs = _
  unfold cloneB
  rw [show ((0 + xs.length) * 1).ble 140737488355328 = true by rw [Nat.ble_eq]; omega]; rfl
theorem clone4 (k : Nat) (xs : List Int) (h : xs.length * 4 ≤ 140737488355328) : f38 k (((xs, ()), ()), ()) = some (ownV xs) := by
  rw [f38_fun]
  show cloneB 4 xs = _
  unfold cloneB
  rw [show ((0 + xs.length) * 4).ble 140737488355328 = true by rw [Nat.ble_eq]; omega]; rfl
theorem same_ok (k : Nat) (xs ys : List Int) (hl : xs.length ≤ 140737488351232) (hk : xs.length + 1 ≤ k) : f13 k (((xs, ()), (ys, ()), ()), ()) = some (((decide (xs = ys), ()), ()), ()) := by
  rw [e13_eq]
  by_cases hle : xs.length = ys.length
  · have loop : ∀ (j k' i : Nat), i + j = xs.length → j + 1 ≤ k' → xs.take i = ys.take i → loopN e13_0 k' (((xs, ()), (ys, ()), ((i : Int), ()), ()), ()) = some (((decide (xs = ys), ()), ()), ()) := by
      intro j
      induction j with
      | zero =>
        intro k' i hi hk ht
        obtain ⟨k', rfl⟩ : ∃ k2, k' = k2 + 1 := ⟨k' - 1, by omega⟩
        simp only [loopN_succ, e13_0]
        rw [cneg (by omega)]
        rw [List.take_of_length_le (by omega), List.take_of_length_le (by omega)] at ht
        rw [decide_eq_true ht]
      | succ j ih =>
        intro k' i hi hk ht
        obtain ⟨k', rfl⟩ : ∃ k2, k' = k2 + 1 := ⟨k' - 1, by omega⟩
        have h1 : i < xs.length := by omega
        have h2 : i < ys.length := by omega
        simp only [loopN_succ, e13_0]
        rw [cpos (by omega), cpos (by omega), cpos (by omega), Int.toNat_natCast, gt_at h1, gt_at h2]
        by_cases he : xs[i] = ys[i]
        · rw [show (xs[i] != ys[i]) = false by simp [he], cond_false, wrapId (n := (i : Int) + 1) (by omega) (by omega), show ((i : Int) + 1) = ((i + 1 : Nat) : Int) by omega]
          refine ih k' (i + 1) (by omega) (by omega) ?_
          rw [List.take_add_one, List.take_add_one, ht, List.getElem?_eq_getElem h1, List.getElem?_eq_getElem h2, he]
        · rw [show (xs[i] != ys[i]) = true by simp [he], cond_true, decide_eq_false (fun h => he (by subst h; rfl))]
    have h := loop xs.length k 0 (by omega) (by omega) rfl
    rw [show ((xs.length : Int) != (ys.length : Int)) = false by simp [hle], cond_false]
    exact h
  · rw [show ((xs.length : Int) != (ys.length : Int)) = true by simp; omega, cond_true, decide_eq_false (fun h => hle (by rw [h]))]
def cutAt : List Int → Int → Int → Nat
  | [], _, _ => 0
  | x :: r, w, n => if width x > w - n ∨ w < 0 then 0 else cutAt r w (n + width x) + 1
theorem cutAt_le : ∀ (xs : List Int) (w n : Int), cutAt xs w n ≤ xs.length
  | [], _, _ => Nat.le_refl _
  | x :: r, w, n => by
    unfold cutAt
    split
    · omega
    · have := cutAt_le r w (n + width x); rw [List.length_cons]; omega
theorem cutAt_fits : ∀ (xs : List Int) (w n : Int), 0 ≤ n → (w < 0 ∧ cutAt xs w n = 0 ∨ n + total (xs.take (cutAt xs w n)) ≤ w ∨ cutAt xs w n = 0)
  | [], w, n, h => .inr (.inr rfl)
  | x :: r, w, n, h => by
    unfold cutAt
    split
    · exact .inr (.inr rfl)
    · rename_i hc
      have hw := width_le x
      rw [List.take_succ_cons, total_cons]
      rcases cutAt_fits r w (n + width x) (by omega) with ⟨h1, _⟩ | h1 | h1
      · omega
      · exact .inr (.inl (by omega))
      · rw [h1]; simp only [List.take_zero, total_nil]; exact .inr (.inl (by omega))
theorem cutAt_over : ∀ (xs : List Int) (w n : Int), 0 ≤ w → cutAt xs w n < xs.length → w < n + total (xs.take (cutAt xs w n + 1))
  | [], w, n, _, h => by simp at h
  | x :: r, w, n, h0, h => by
    unfold cutAt at h ⊢
    split
    · rename_i hc
      rw [Nat.zero_add, List.take_succ_cons, List.take_zero, total_cons, total_nil]; omega
    · rename_i hc
      rw [if_neg hc] at h
      have := cutAt_over r w (n + width x) h0 (by rw [List.length_cons] at h; omega)
      rw [List.take_succ_cons, total_cons]; omega
theorem take_drop_one {xs : List Int} {i m : Nat} (h : i < xs.length) : total ((xs.drop i).take (m + 1)) = width xs[i] + total ((xs.drop (i + 1)).take m) := by
  rw [List.drop_eq_getElem_cons h, List.take_succ_cons, total_cons]
theorem cut_ok (k : Nat) (xs : List Int) (w : Int) (hw : -9223372036854775808 ≤ w ∧ w < 9223372036854775808) (hl : xs.length * 4 ≤ 140737488351232) (hk : xs.length + 20 ≤ k) :
    f27 k (((xs, ()), (w, ()), ()), ()) = some (((((), ()), (total (xs.take (cutAt xs w 0)), ()), ())), (xs.take (cutAt xs w 0), ())) := by
  rw [e27_eq]
  have loop : ∀ (j k' i : Nat) (n : Int), i + j = xs.length → j + 1 ≤ k' → 0 ≤ n → n ≤ 2 * (i : Int) → loopN (e27_0 k xs w) k' (((xs, ()), (w, ()), (n, ()), (xs, ()), ((xs.length : Int), ()), ((i : Int), ()), ()), ()) =
      some (((((), ()), (n + total ((xs.drop i).take (cutAt (xs.drop i) w n)), ()), ())), (xs.take (i + cutAt (xs.drop i) w n), ())) := by
    intro j
    induction j with
    | zero =>
      intro k' i n hi hk h0 h1
      obtain ⟨k', rfl⟩ : ∃ k2, k' = k2 + 1 := ⟨k' - 1, by omega⟩
      simp only [loopN_succ, e27_0]
      rw [cneg (by omega), clone4 k xs (by omega), Option.bind_some, List.drop_eq_nil_of_le (by omega)]
      simp only [cutAt, List.take_zero, total_nil, Int.add_zero, Nat.add_zero]
      rw [List.take_of_length_le (by omega)]
    | succ j ih =>
      intro k' i n hi hk h0 h1
      obtain ⟨k', rfl⟩ : ∃ k2, k' = k2 + 1 := ⟨k' - 1, by omega⟩
      have hlt : i < xs.length := by omega
      have hwd := width_le xs[i]
      have hcl : f38 k (((List.drop (Int.toNat (0 : Int)) (List.take i xs), ()), ()), ()) = some (ownV (xs.take i)) := by
        rw [show Int.toNat (0 : Int) = 0 from rfl, List.drop_zero]; exact clone4 k _ (by rw [List.length_take]; omega)
      simp only [loopN_succ, e27_0]
      rw [cpos (by omega), cpos (by omega), Int.toNat_natCast, gt_at hlt, width_ok k _ (by omega), Option.bind_some, cpos (p := (0 : Int) ≤ 0 ∧ (0 : Int) ≤ (i : Int) ∧ (i : Int) ≤ (i : Int) ∧ (i : Int) ≤ (xs.length : Int)) (by omega)]
      rw [hcl, Option.bind_some, Option.bind_some]
      simp only []
      have hcut : cutAt (xs.drop i) w n = if width xs[i] > w - n ∨ w < 0 then 0 else cutAt (xs.drop (i + 1)) w (n + width xs[i]) + 1 := by
        rw [List.drop_eq_getElem_cons hlt]; rfl
      by_cases hneg : w < 0
      · rw [hcut, if_pos (.inr hneg), cpos hneg]
        simp only [List.take_zero, total_nil, Int.add_zero, Nat.add_zero]
        cases decide (width xs[i] > IntKind.i64.wrap (w - n)) <;> rfl
      · rw [cneg hneg, wrapId (n := w - n) (by omega) (by omega)]
        by_cases hgt : width xs[i] > w - n
        · rw [cpos hgt, hcut, if_pos (.inl hgt)]
          simp only [List.take_zero, total_nil, Int.add_zero, Nat.add_zero]
        · rw [cneg hgt, hcut, if_neg (by omega), take_drop_one hlt, wrapId (n := n + width xs[i]) (by omega) (by omega), wrapId (n := (i : Int) + 1) (by omega) (by omega), show ((i : Int) + 1) = ((i + 1 : Nat) : Int) by omega,
            ih k' (i + 1) _ (by omega) (by omega) (by omega) (by omega), Int.add_assoc, show i + (cutAt (List.drop (i + 1) xs) w (n + width xs[i]) + 1) = i + 1 + cutAt (List.drop (i + 1) xs) w (n + width xs[i]) by omega]
  have h := loop xs.length k 0 0 (by omega) (by omega) (by omega) (by omega)
  rw [List.drop_zero, Int.zero_add, Nat.zero_add] at h
  exact h
theorem rcut_ok (k : Nat) (xs : List Int) (w : Int) (hx : ∀ x ∈ xs, I32 x) (hw : -9223372036854775808 ≤ w ∧ w < 9223372036854775808) (hl : xs.length * 4 ≤ 140737488351232) (hk : xs.length + 20 ≤ k) :
    f28 k (((xs, ()), (w, ()), ()), ()) = some (((xs.take (cutAt xs w 0), ()), (total (xs.take (cutAt xs w 0)), ()), ()), ()) := by
  rw [e28_eq]
  have loop : ∀ (j k' i : Nat) (n : Int), i + j = xs.length → j + 1 ≤ k' → 0 ≤ n → n ≤ 2 * (i : Int) → loopN (e28_0 k xs w) k' ((((xs, ()), (w, ()), (n, ()), ((), ()), ((i : Int), ()), ()), (xs.take i, ()))) =
      some (((xs.take (i + cutAt (xs.drop i) w n), ()), (n + total ((xs.drop i).take (cutAt (xs.drop i) w n)), ()), ()), ()) := by
    intro j
    induction j with
    | zero =>
      intro k' i n hi hk h0 h1
      obtain ⟨k', rfl⟩ : ∃ k2, k' = k2 + 1 := ⟨k' - 1, by omega⟩
      simp only [loopN_succ, e28_0]
      rw [cneg (by omega), List.drop_eq_nil_of_le (by omega)]
      simp only [cutAt, List.take_zero, total_nil, Int.add_zero, Nat.add_zero]
    | succ j ih =>
      intro k' i n hi hk h0 h1
      obtain ⟨k', rfl⟩ : ∃ k2, k' = k2 + 1 := ⟨k' - 1, by omega⟩
      have hlt : i < xs.length := by omega
      have hwd := width_le xs[i]
      simp only [loopN_succ, e28_0]
      rw [cpos (p := (i : Int) < (xs.length : Int)) (by omega), cpos (by omega), Int.toNat_natCast, gt_at hlt, wref_all k _ (hx _ (List.getElem_mem hlt)), Option.bind_some]
      simp only []
      have hcut : cutAt (xs.drop i) w n = if width xs[i] > w - n ∨ w < 0 then 0 else cutAt (xs.drop (i + 1)) w (n + width xs[i]) + 1 := by
        rw [List.drop_eq_getElem_cons hlt]; rfl
      by_cases hneg : w < 0
      · rw [hcut, if_pos (.inr hneg), cpos hneg]
        simp only [List.take_zero, total_nil, Int.add_zero, Nat.add_zero]
      · rw [cneg hneg, wrapId (n := n + width xs[i]) (by omega) (by omega)]
        by_cases hgt : width xs[i] > w - n
        · rw [cpos (by omega), hcut, if_pos (.inl hgt)]
          simp only [List.take_zero, total_nil, Int.add_zero, Nat.add_zero]
        · rw [cneg (by omega), cpos (by omega), show ((xs.take i).length + [xs[i]].length) * 4 = (i + 1) * 4 by simp; omega, show ((i + 1) * 4).ble 140737488355328 = true by rw [Nat.ble_eq]; omega, cond_true]
          rw [show xs.take i ++ [xs[i]] = xs.take (i + 1) by rw [List.take_add_one, List.getElem?_eq_getElem hlt]; rfl]
          rw [hcut, if_neg (by omega), take_drop_one hlt, wrapId (n := (i : Int) + 1) (by omega) (by omega), show ((i : Int) + 1) = ((i + 1 : Nat) : Int) by omega,
            ih k' (i + 1) _ (by omega) (by omega) (by omega) (by omega), Int.add_assoc, show i + (cutAt (List.drop (i + 1) xs) w (n + width xs[i]) + 1) = i + 1 + cutAt (List.drop (i + 1) xs) w (n + width xs[i]) by omega]
  have h := loop xs.length k 0 0 (by omega) (by omega) (by omega) (by omega)
  rw [List.drop_zero, Int.zero_add, Nat.zero_add] at h
  exact h
theorem i64_of {n : Int} (h : (Lit.int .i64 n).wf = true) : -9223372036854775808 ≤ n ∧ n < 9223372036854775808 := by
  simp only [Lit.wf, Bool.and_eq_true, decide_eq_true_eq] at h
  have h1 : -9223372036854775808 ≤ n := h.1
  have h2 : n ≤ 9223372036854775807 := h.2
  exact ⟨h1, by omega⟩
theorem glyphCuts (xs : List Int) (w : Int) (hx0 : ∀ x ∈ xs, (Lit.int .i32 x).wf = true) (hl4 : xs.length * 4 ≤ 140737488351232) (hw0 : (Lit.int .i64 w).wf = true) : f8 (xs.length + 20 + 20) (((xs, ()), (w, ()), ()), ()) = some (((true, ()), ()), ()) := by
  have hx : ∀ x ∈ xs, I32 x := fun x h => i32_of (hx0 x h)
  have hw := i64_of hw0
  have hcl := cutAt_le xs w 0
  generalize hK : xs.length + 20 = K at *
  have hcut := cut_ok (K + 20) xs w hw hl4 (by omega)
  have hrcut := rcut_ok (K + 20) xs w hx hw hl4 (by omega)
  have hover := cutAt_over xs w 0
  rw [Int.zero_add] at hover
  rw [e8_eq, alive, Option.bind_some, hcut, Option.bind_some, hrcut, Option.bind_some]
  generalize hc : cutAt xs w 0 = c at *
  have htl : (xs.take c).length = c := by rw [List.length_take]; omega
  have hsame := same_ok (K + 20) (xs.take c) (xs.take c) (by omega) (by omega)
  rw [decide_eq_true rfl] at hsame
  have loop : ∀ (j k' i : Nat) (L : List Int), i + j = c → j + 1 ≤ k' → L.length = c → loopN (e8_0 (K + 20) xs w) k' (((xs, ()), (w, ()), ((), ()), (xs.take c, ()), ((c : Int), ()), ((i : Int), ()), ()), (L, ())) = some (((true, ()), ()), ()) := by
    intro j
    induction j with
    | zero =>
      intro k' i L hi hk hL
      obtain ⟨k', rfl⟩ : ∃ k2, k' = k2 + 1 := ⟨k' - 1, by omega⟩
      simp only [loopN_succ, e8_0]
      rw [cneg (by omega), hcut, Option.bind_some]
      simp only []
      rw [hsame, Option.bind_some]
    | succ j ih =>
      intro k' i L hi hk hL
      obtain ⟨k', rfl⟩ : ∃ k2, k' = k2 + 1 := ⟨k' - 1, by omega⟩
      simp only [loopN_succ, e8_0]
      rw [cpos (by omega), cpos (by omega), wrapId (n := (i : Int) + 1) (by omega) (by omega), show ((i : Int) + 1) = ((i + 1 : Nat) : Int) by omega]
      exact ih k' (i + 1) _ (by omega) (by omega) (by rw [List.length_set]; exact hL)
  have hfin := loop c (K + 20) 0 (xs.take c) (by omega) (by omega) htl
  simp only [Bool.not_true, cond_false]
  rw [hsame, Option.bind_some]
  simp only [Bool.not_true, cond_false]
  rw [show (total (xs.take c) != total (xs.take c)) = false by simp, cond_false, total_ok (K + 20) (xs.take c) (by omega) (by omega), Option.bind_some]
  simp only []
  rw [show (total (xs.take c) != total (xs.take c)) = false by simp, cond_false, htl]
  have hfin' : loopN (e8_0 (K + 20) xs w) (K + 20) (((xs, ()), (w, ()), ((), ()), (xs.take c, ()), ((c : Int), ()), ((0 : Int), ()), ()), (xs.take c, ())) = some (((true, ()), ()), ()) := hfin
  rw [hfin']
  by_cases h1 : (c : Int) < (xs.length : Int)
  · rw [cpos h1]
    by_cases h2 : w ≥ 0
    · rw [cpos h2, wrapId (n := (c : Int) + 1) (by omega) (by omega), cpos (by omega), show ((c : Int) + 1).toNat = c + 1 by omega, show Int.toNat (0 : Int) = 0 from rfl, List.drop_zero, total_ok (K + 20) _ (by rw [List.length_take]; omega) (by rw [List.length_take]; omega), Option.bind_some]
      simp only []
      have hnot : ¬ total (List.take (c + 1) xs) ≤ w := by have := hover h2 (by omega); omega
      rw [cneg hnot]
    · rw [cneg h2]
  · rw [cneg h1]
end
end Go.Proofs.YtjdbamenbgfcjaaDoor.Gl
