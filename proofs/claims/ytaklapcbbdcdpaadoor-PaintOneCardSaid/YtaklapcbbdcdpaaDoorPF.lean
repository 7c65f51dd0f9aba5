import Derived.Test.YtaklapcbbdcdpaaDoorPE
namespace Go.Proofs.YtaklapcbbdcdpaaDoor.Pt
open Go Go.RowKit Go.Proofs Go.Proofs.YtaklapcbbdcdpaaDoor.X
set_option linter.unusedVariables false
set_option linter.unusedSimpArgs false
noncomputable section
/-! Right, as the document has it -/
theorem wide_ok (k : Nat) (c : Cel) (h : I32 c.1) : f53 k ((((c.1, c.2.1, c.2.2.1, c.2.2.2), ()), ()), ()) = V1 (decide (width c.1 = 2)) := by
  rw [e53_eq, wref_all k _ h]
  simp only [Option.bind_some, bq]
theorem ble_of {a b : Nat} (h : a ≤ b) : a.ble b = true := Nat.ble_eq_true_of_le h
theorem mend_ok (k : Nat) (a : List Cel) (hw : I64A a) (hl : a.length ≤ 4398046511103) (hk : a.length + 1 ≤ k) : f32 k (((a, ()), ()), ()) = some (((mendL a, ()), ()), ()) := by
  rw [e32_eq]
  have loop : ∀ (n k' i : Nat) (out : List Cel), a.length - i ≤ n → i ≤ a.length → out.length ≤ i → n + 1 ≤ k' → loopN (e32_0 k a) k' (((a, ()), ((), ()), ((i : Int), ()), ()), out, ()) = some (((out ++ mendL (a.drop i), ()), ()), ()) := by
    intro n
    induction n with
    | zero =>
      intro k' i out hn hi ho hk
      obtain ⟨k', rfl⟩ : ∃ k2, k' = k2 + 1 := ⟨k' - 1, by omega⟩
      simp only [loopN_succ, e32_0]
      rw [cneg (by omega), List.drop_of_length_le (by omega)]
      simp [mendL]
    | succ n ih =>
      intro k' i out hn hi ho hk
      obtain ⟨k', rfl⟩ : ∃ k2, k' = k2 + 1 := ⟨k' - 1, by omega⟩
      simp only [loopN_succ, e32_0]
      by_cases h1 : i < a.length
      · have hc := (hw _ (List.getElem_mem h1)).1
        have g0 : gt S43 a i = a[i] := gtx h1
        have hble : ((out.length + 1) * 32).ble 140737488355328 = true := ble_of (by omega)
        have hble2 : ((out.length + 2) * 32).ble 140737488355328 = true := ble_of (by omega)
        have next : ∀ x : Cel, loopN (e32_0 k a) k' (((a, ()), ((), ()), (IntKind.i64.wrap ((i : Int) + 1), ()), ()), out ++ [x], ()) = some (((out ++ x :: mendL (a.drop (i + 1)), ()), ()), ()) := fun x => by
          rw [wrapId (n := (i : Int) + 1) (by omega) (by omega), show ((i : Int) + 1) = ((i + 1 : Nat) : Int) by omega, ih k' (i + 1) _ (by omega) (by omega) (by simp; omega) (by omega)]
          simp
        rw [cpos (by omega), cpos (by omega)]
        simp only [tn0, g0, wide_ok k a[i] hc, Option.bind_some, List.length_singleton, List.length_cons, List.length_nil, Nat.zero_add, hble, hble2, cond_true]
        rw [wrapId (n := (i : Int) + 1) (by omega) (by omega), dropc h1]
        by_cases w2 : width a[i].1 = 2
        · rw [decide_eq_true w2]
          simp only [cond_true]
          by_cases h2 : i + 1 < a.length
          · have g1 : gt S43 a (i + 1) = a[i + 1] := gtx h2
            rw [cpos (by omega), cpos (by omega)]
            simp only [tn1, g1, bq]
            rw [dropc h2]
            by_cases hd : a[i + 1].1 = 0
            · rw [decide_eq_true hd, cond_true, cpos (by omega), cpos (by omega), wrapId (n := (i : Int) + 2) (by omega) (by omega), show ((i : Int) + 2) = ((i + 2 : Nat) : Int) by omega, ih k' (i + 2) _ (by omega) (by omega) (by simp; omega) (by omega), mendL, if_pos ⟨w2, hd⟩]
              simp
            · have nx := next (32, a[i].2)
              rw [wrapId (n := (i : Int) + 1) (by omega) (by omega)] at nx
              rw [decide_eq_false hd, cond_false, cpos (by omega), nx, mendL, if_neg (fun q => hd q.2), ← dropc h2]
              simp [fix, w2]
          · have nx := next (32, a[i].2)
            rw [wrapId (n := (i : Int) + 1) (by omega) (by omega)] at nx
            rw [cneg (by omega), cpos (by omega), nx, List.drop_of_length_le (by omega)]
            simp [mendL, fix, w2]
        · rw [decide_eq_false w2]
          simp only [cond_false]
          rw [cpos (by omega), mend_one _ w2]
          simp only [bq]
          by_cases h0 : a[i].1 = 0
          · have nx := next (32, a[i].2)
            rw [wrapId (n := (i : Int) + 1) (by omega) (by omega)] at nx
            rw [decide_eq_true h0, cond_true, nx, fix, if_pos (.inr h0)]
          · have nx := next a[i]
            rw [wrapId (n := (i : Int) + 1) (by omega) (by omega)] at nx
            rw [decide_eq_false h0, cond_false, nx, fix, if_neg (by simp [w2, h0])]
      · rw [cneg (by omega), List.drop_of_length_le (by omega)]
        simp [mendL]
  have := loop a.length k 0 [] (by omega) (by omega) (by simp) (by omega)
  simpa using this
theorem mend_len : ∀ (n : Nat) (a : List Cel), a.length ≤ n → (mendL a).length = a.length
  | _, [], _ => rfl
  | 0, _ :: _, h => by simp at h
  | n + 1, [c], _ => rfl
  | n + 1, c :: d :: r, h => by
    simp only [List.length_cons] at h
    rw [mendL]
    split
    · simp [mend_len n r (by omega)]
    · simp [mend_len n (d :: r) (by simp; omega)]
def rowC (w : Int) (r : List Cel) : Bool := decide ((r.length : Int) = w) && (decide (mendL r = r) && chk none r)
theorem rowAC (w : Int) (r : List Cel) : rowA w r = rowC w r := by
  unfold rowA rowC
  rw [rr_chk r.length r none (Nat.le_refl _)]
theorem head_of {r : List Cel} (h : mendL r = r) (h0 : 0 < r.length) : r[0].1 ≠ 0 := by
  match r, h0 with
  | c :: r, _ =>
    intro q
    have q : c.1 = 0 := q
    have hw : width c.1 ≠ 2 := by rw [q, width0]; decide
    rw [mend_one r hw, fix, if_pos (.inr q)] at h
    have := congrArg Prod.fst (List.cons.inj h).1
    simp only at this; omega
abbrev St (a b : Int) (c : List (List Cel)) (d e : Int) (g : Bool) : (Int × Int × List (List Cel) × Int × Int × Bool) × Unit := ((a, b, c, d, e, g), ())
theorem cells_ok (k : Nat) (a b : Int) (c : List (List Cel)) (d e : Int) (g : Bool) (L : (((Unit × Unit) × (Int × Unit) × Unit) × ((Int × Int × List (List Cel) × Int × Int × Bool) × Unit) × Unit) → Option (((Bool × Unit) × Unit) × Unit)) (y : Int) (row : List Cel) (hw : I64A row) (hl : (row.length : Int) = a) (hm : mendL row = row) (ha : a ≤ 200) (hk : 300 ≤ k) :
    loopN (e15_0 k a b c d e g L) k ((((), ()), (y, ()), (row, ()), ((0 : Int), ()), ()), St a b c d e g, ()) = bif chk none row then L ((((), ()), (IntKind.i64.wrap (y + 1), ()), ()), St a b c d e g, ()) else V1 false := by
  have loop : ∀ (j k' i : Nat) (p : Option Cel), i + j = row.length → j + 1 ≤ k' → (∀ (h : i < row.length), i = 0 ∨ ∃ q, p = some q ∧ 1 ≤ i ∧ row[i - 1]? = some q) → loopN (e15_0 k a b c d e g L) k' ((((), ()), (y, ()), (row, ()), ((i : Int), ()), ()), St a b c d e g, ()) = bif chk p (row.drop i) then L ((((), ()), (IntKind.i64.wrap (y + 1), ()), ()), St a b c d e g, ()) else V1 false := by
    intro j
    induction j with
    | zero =>
      intro k' i p hi hk hp
      obtain ⟨k', rfl⟩ : ∃ k2, k' = k2 + 1 := ⟨k' - 1, by omega⟩
      simp only [loopN_succ, e15_0]
      rw [cneg (by omega), List.drop_of_length_le (by omega)]
      rfl
    | succ j ih =>
      intro k' i p hi hk hp
      obtain ⟨k', rfl⟩ : ∃ k2, k' = k2 + 1 := ⟨k' - 1, by omega⟩
      have h1 : i < row.length := by omega
      have g0 : gt S43 row i = row[i] := gtx h1
      have hc := hw _ (List.getElem_mem h1)
      simp only [loopN_succ, e15_0]
      rw [cpos (by omega), cpos (by omega)]
      simp only [tn0, g0]
      rw [sty2_ok, Option.bind_some, dropc h1]
      have es : (row[i].2.1, row[i].2.2.1, row[i].2.2.2) = row[i].2 := rfl
      rw [es]
      have nx := ih k' (i + 1) (some row[i]) (by omega) (by omega) (fun h => .inr ⟨_, rfl, by omega, by simp [h1]⟩)
      have ew : IntKind.i64.wrap ((i : Int) + 1) = ((i + 1 : Nat) : Int) := by rw [wrapId (by omega) (by omega)]; omega
      cases hs : sty row[i].2 with
      | false => simp [chk, hs]
      | true =>
        rw [Bool.not_true, cond_false]
        simp only [bne, bq]
        by_cases h0 : row[i].1 = 0
        · rw [decide_eq_true h0]
          simp only [Bool.not_true, cond_false, cond_true]
          rcases hp h1 with rfl | ⟨q, rfl, hi1, hq⟩
          · exact absurd h0 (head_of hm h1)
          · have h2 : i - 1 < row.length := by omega
            have g1 : gt S43 row (i - 1) = row[i - 1] := gtx h2
            have hq' : row[i - 1] = q := by rw [List.getElem?_eq_getElem h2] at hq; exact Option.some.inj hq
            rw [wrapId (n := (i : Int) - 1) (by omega) (by omega), cpos (by omega), tnm i hi1, g1, hq']
            have hc2 : seq q.2 row[i].2 = decide (q.2 = row[i].2) := seq_is _ _
            unfold seq at hc2
            simp only [bq] at hc2
            rw [hc2, ew]
            by_cases hsq : q.2 = row[i].2
            · rw [decide_eq_true hsq, Bool.not_true, cond_false]
              refine nx.trans ?_
              simp [chk, hs, h0, hsq]
            · rw [decide_eq_false hsq, Bool.not_false, cond_true]
              simp [chk, hs, h0, hsq]
        · rw [decide_eq_false h0]
          simp only [Bool.not_false, cond_true, cond_false]
          rw [wref_all k _ hc.1, Option.bind_some]
          by_cases w0 : width row[i].1 = 0
          · rw [decide_eq_true w0, cond_true]
            simp [chk, hs, h0, w0]
          · rw [decide_eq_false w0, cond_false, ew]
            refine nx.trans ?_
            simp [chk, hs, h0, w0]
  have := loop row.length k 0 none (by omega) (by omega) (fun _ => .inl rfl)
  rw [List.drop_zero] at this
  exact this
theorem right2_ok (k : Nat) (a b : Int) (c : List (List Cel)) (d e : Int) (g : Bool) (hw : ∀ r ∈ c, I64A r) (ha : a ≤ 200) (hb : (c.length : Int) = b) (hl : c.length ≤ 200) (hk : 300 ≤ k) :
    loopN (e15_1 k a b c d e g) k ((((), ()), ((0 : Int), ()), ()), St a b c d e g, ()) = V1 (c.all (rowC a)) := by
  have loop : ∀ (j k' i : Nat), i + j = c.length → j + 1 ≤ k' → loopN (e15_1 k a b c d e g) k' ((((), ()), ((i : Int), ()), ()), St a b c d e g, ()) = V1 ((c.drop i).all (rowC a)) := by
    intro j
    induction j with
    | zero =>
      intro k' i hi hk
      obtain ⟨k', rfl⟩ : ∃ k2, k' = k2 + 1 := ⟨k' - 1, by omega⟩
      simp only [loopN_succ, e15_1]
      rw [cneg (by omega), List.drop_of_length_le (by omega)]
      rfl
    | succ j ih =>
      intro k' i hi hk
      obtain ⟨k', rfl⟩ : ∃ k2, k' = k2 + 1 := ⟨k' - 1, by omega⟩
      have h1 : i < c.length := by omega
      have g0 : gt S43.sl c i = c[i] := gtx h1
      have hc := hw _ (List.getElem_mem h1)
      simp only [loopN_succ, e15_1]
      rw [cpos (by omega), cpos (by omega)]
      simp only [tn0, g0, bne, bq]
      rw [List.drop_eq_getElem_cons h1, List.all_cons]
      by_cases h2 : (c[i].length : Int) = a
      · rw [decide_eq_true h2, Bool.not_true, cond_false, mend_ok k c[i] hc (by omega) (by omega), Option.bind_some]
        have ml := mend_len _ c[i] (Nat.le_refl _)
        rw [row1_ok k (mendL c[i]) c[i] (by omega) (by omega), Option.bind_some]
        by_cases hm : mendL c[i] = c[i]
        · rw [decide_eq_true hm, Bool.not_true, cond_false]
          refine (cells_ok k a b c d e g _ i c[i] hc h2 hm ha (by omega)).trans ?_
          have hrow : rowC a c[i] = chk none c[i] := by
            unfold rowC
            rw [decide_eq_true h2, decide_eq_true hm, Bool.true_and, Bool.true_and]
          rw [hrow]
          cases hk2 : chk none c[i] with
          | false => rfl
          | true =>
            rw [cond_true, wrapId (n := (i : Int) + 1) (by omega) (by omega), show ((i : Int) + 1) = ((i + 1 : Nat) : Int) by omega]
            exact (ih k' (i + 1) (by omega) (by omega)).trans (by simp)
        · rw [decide_eq_false hm, Bool.not_false, cond_true]
          unfold rowC
          rw [decide_eq_false hm]; simp
      · rw [decide_eq_false h2, Bool.not_false, cond_true]
        unfold rowC
        rw [decide_eq_false h2]; simp
  have := loop c.length k 0 (by omega) (by omega)
  rw [List.drop_zero] at this
  exact this
theorem rightR_ok (k : Nat) (a b : Int) (c : List (List Cel)) (d e : Int) (g : Bool) (hw : ∀ r ∈ c, I64A r) (hk : 300 ≤ k) : f15 k ((((a, b, c, d, e, g), ()), ()), ()) = V1 (rightB a b c d e) := by
  rw [e15_eq]
  unfold rightB
  have hall : c.all (rowA a) = c.all (rowC a) := by congr 1; funext r; exact rowAC a r
  rw [hall]
  by_cases h : 1 ≤ a ∧ a ≤ 200 ∧ 1 ≤ b ∧ b ≤ 200 ∧ (c.length : Int) = b ∧ 0 ≤ d ∧ d < a ∧ 0 ≤ e ∧ e < b
  · obtain ⟨h1, h2, h3, h4, h5, h6, h7, h8, h9⟩ := h
    rw [cneg (by omega), cneg (by omega), cneg (by omega), cneg (by omega)]
    simp only [bne, bq]
    rw [decide_eq_true h5, Bool.not_true, cond_false, cneg (by omega), cneg (by omega), cneg (by omega), cneg (by omega), decide_eq_true ⟨h1, h2, h3, h4, h5, h6, h7, h8, h9⟩, Bool.true_and]
    exact right2_ok k a b c d e g hw h2 h5 (by omega) hk
  · rw [decide_eq_false h, Bool.false_and]
    simp only [bne, bq]
    by_cases h1 : a < 1
    · rw [cpos h1]
    by_cases h2 : a > 200
    · rw [cneg h1, cpos h2]
    by_cases h3 : b < 1
    · rw [cneg h1, cneg h2, cpos h3]
    by_cases h4 : b > 200
    · rw [cneg h1, cneg h2, cneg h3, cpos h4]
    by_cases h5 : (c.length : Int) = b
    · rw [cneg h1, cneg h2, cneg h3, cneg h4, decide_eq_true h5, Bool.not_true, cond_false]
      by_cases h6 : d < 0
      · rw [cpos h6]
      by_cases h7 : d ≥ a
      · rw [cneg h6, cpos h7]
      by_cases h8 : e < 0
      · rw [cneg h6, cneg h7, cpos h8]
      by_cases h9 : e ≥ b
      · rw [cneg h6, cneg h7, cneg h8, cpos h9]
      · exact absurd ⟨by omega, by omega, by omega, by omega, h5, by omega, by omega, by omega, by omega⟩ h
    · rw [cneg h1, cneg h2, cneg h3, cneg h4, decide_eq_false h5]; rfl
end
end Go.Proofs.YtaklapcbbdcdpaaDoor.Pt
