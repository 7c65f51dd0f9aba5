import Derived.Test.YtaklapcbbdcdpaaDoorPD
namespace Go.Proofs.YtaklapcbbdcdpaaDoor.Pt
open Go Go.RowKit Go.Proofs Go.Proofs.YtaklapcbbdcdpaaDoor.X
set_option linter.unusedVariables false
set_option linter.unusedSimpArgs false
noncomputable section
/-! Rows and screens that are right, both ways -/
def rr : List Cel → Bool
  | [] => true
  | [c] => decide (width c.1 ≠ 0) && (sty c.2 && decide (width c.1 ≠ 2))
  | c :: d :: r => decide (width c.1 ≠ 0) && (sty c.2 && (if width c.1 = 2 then decide (d = (0, c.2)) && rr r else rr (d :: r)))
def fix (c : Cel) : Cel := if width c.1 = 2 ∨ c.1 = 0 then (32, c.2) else c
def mendL : List Cel → List Cel
  | [] => []
  | [c] => [fix c]
  | c :: d :: r => if width c.1 = 2 ∧ d.1 = 0 then c :: d :: mendL r else fix c :: mendL (d :: r)
def chk : Option Cel → List Cel → Bool
  | _, [] => true
  | p, c :: r => sty c.2 && ((decide (c.1 = 0) || decide (width c.1 ≠ 0)) && ((decide (c.1 ≠ 0) || (match p with
    | some q => decide (q.2 = c.2)
    | none => false)) && chk (some c) r))
theorem width0 : width 0 = 0 := by decide
theorem width32 : width 32 = 1 := by decide
theorem rr_cons (c : Cel) (r : List Cel) : rr (c :: r) = (decide (width c.1 ≠ 0) && (sty c.2 && (if width c.1 = 2 then (match r with
    | [] => false
    | d :: r' => decide (d = (0, c.2)) && rr r') else rr r))) := by
  cases r with
  | nil => by_cases h : width c.1 = 2 <;> simp [rr, h]
  | cons d r' => rw [rr]
theorem mend_one {c : Cel} (r : List Cel) (h : width c.1 ≠ 2) : mendL (c :: r) = fix c :: mendL r := by
  cases r with
  | nil => simp [mendL]
  | cons d r => rw [mendL, if_neg (fun q => h q.1)]
theorem rr_chk : ∀ (n : Nat) (row : List Cel) (p : Option Cel), row.length ≤ n → rr row = (decide (mendL row = row) && chk p row)
  | _, [], p, _ => by simp [rr, mendL, chk]
  | 0, c :: r, p, h => by simp at h
  | n + 1, c :: r, p, h => by
    have hr : r.length ≤ n := by simpa using h
    by_cases h0 : c.1 = 0
    · have hw : width c.1 = 0 := by rw [h0]; exact width0
      rw [rr_cons, mend_one r (by omega)]
      have : ¬ (fix c :: mendL r = c :: r) := fun q => by
        have := (List.cons.inj q).1
        rw [fix, if_pos (.inr h0)] at this
        have := congrArg Prod.fst this
        simp only at this; omega
      simp [hw, this]
    · by_cases hw0 : width c.1 = 0
      · rw [rr_cons]; simp [hw0, chk, h0]
      · by_cases hw2 : width c.1 = 2
        · cases r with
          | nil =>
            have : ¬ (fix c = c) := fun q => by
              rw [fix, if_pos (.inl hw2)] at q
              have := congrArg Prod.fst q
              simp only at this
              rw [← this, width32] at hw2; omega
            rw [rr_cons]; simp [hw2, mendL, this]
          | cons d r' =>
            by_cases hd : d.1 = 0
            · have ih := rr_chk n r' (some d) (by simp at hr; omega)
              rw [rr_cons, if_pos hw2, mendL, if_pos ⟨hw2, hd⟩]
              simp only [hw2, ih, chk, hd, width0]
              obtain ⟨d1, d2⟩ := d
              simp only at hd
              subst hd
              by_cases hs : d2 = c.2
              · subst hs
                cases hS : sty c.2 <;> simp [h0, hS]
              · have hs' : ¬ c.2 = d2 := fun q => hs q.symm
                simp [hs, hs', h0]
            · have : ¬ (fix c = c) := fun q => by
                rw [fix, if_pos (.inl hw2)] at q
                have := congrArg Prod.fst q
                simp only at this
                rw [← this, width32] at hw2; omega
              rw [rr_cons, if_pos hw2, mendL, if_neg (fun q => hd q.2)]
              have hd2 : ¬ d = (0, c.2) := fun q => hd (by rw [q])
              simp [hw2, this, hd2]
        · have ih := rr_chk n r (some c) hr
          have hf : fix c = c := by rw [fix, if_neg (by simp [hw2, h0])]
          rw [rr_cons, mend_one r hw2, hf, if_neg hw2, ih]
          simp only [chk]
          cases hS : sty c.2 <;> simp [h0, hw0, hS]
/-! as the code has it -/
theorem dropc {a : List Cel} {i : Nat} (h : i < a.length) : a.drop i = a[i] :: a.drop (i + 1) := List.drop_eq_getElem_cons h
abbrev I64A (a : List Cel) : Prop := ∀ c ∈ a, I32 c.1 ∧ I64 c.2.2.2
theorem rrow_ok (k : Nat) (a : List Cel) (hw : I64A a) (hl : a.length ≤ 140737488355328) (hk : a.length + 1 ≤ k) (hk2 : 20 ≤ k) : f36 k (((a, ()), ()), ()) = V1 (rr a) := by
  rw [e36_eq]
  have loop : ∀ (n k' i : Nat), a.length - i ≤ n → i ≤ a.length → n + 1 ≤ k' → loopN (e36_0 k a) k' (((a, ()), ((i : Int), ()), ()), ()) = V1 (rr (a.drop i)) := by
    intro n
    induction n with
    | zero =>
      intro k' i hn hi hk
      obtain ⟨k', rfl⟩ : ∃ k2, k' = k2 + 1 := ⟨k' - 1, by omega⟩
      simp only [loopN_succ, e36_0]
      rw [cneg (by omega), List.drop_of_length_le (by omega)]
      rfl
    | succ n ih =>
      intro k' i hn hi hk
      obtain ⟨k', rfl⟩ : ∃ k2, k' = k2 + 1 := ⟨k' - 1, by omega⟩
      simp only [loopN_succ, e36_0]
      by_cases h1 : i < a.length
      · rw [cpos (by omega), cpos (by omega), tn0, gtx (s := S43) h1, width_ok k _ hk2]
        have hc := hw _ (List.getElem_mem h1)
        rw [dropc h1, rr_cons]
        simp only [Option.bind_some, bq]
        by_cases w0 : width a[i].1 = 0
        · rw [decide_eq_true w0]; simp [w0]
        · rw [decide_eq_false w0, cond_false, cpos (by omega), sty1_ok k _ _ _ hc.2]
          simp only [Option.bind_some]
          have es : (a[i].2.1, a[i].2.2.1, a[i].2.2.2) = a[i].2 := rfl
          rw [es]
          cases hs : sty a[i].2 with
          | false => simp [w0]
          | true =>
            rw [Bool.not_true, cond_false]
            by_cases w2 : width a[i].1 = 2
            · rw [decide_eq_true w2, cond_true, wrapId (n := (i : Int) + 1) (by omega) (by omega)]
              by_cases h2 : i + 1 < a.length
              · rw [decide_eq_false (by omega), cond_false, cpos (by omega), wrapId (n := (i : Int) + 1 - 1) (by omega) (by omega), cpos (by omega), tn1, tn2, gtx (s := S43) h2, gtx (s := S43) h1]
                have hc2 : ceq a[i + 1] (0, a[i].2) = decide (a[i + 1] = (0, a[i].2)) := ceq_is _ _
                unfold ceq at hc2
                simp only [bq] at hc2 ⊢
                rw [hc2, dropc h2]
                by_cases he : a[i + 1] = (0, a[i].2)
                · rw [decide_eq_true he, Bool.not_true, cond_false, wrapId (n := (i : Int) + 1 + 1) (by omega) (by omega), show ((i : Int) + 1 + 1) = ((i + 2 : Nat) : Int) by omega, ih k' (i + 2) (by omega) (by omega) (by omega)]
                  simp [w2, he]
                · rw [decide_eq_false he]; simp [w2, he]
              · rw [decide_eq_true (by omega), cond_true, List.drop_of_length_le (by omega)]
                simp [w2]
            · rw [decide_eq_false w2, cond_false, wrapId (n := (i : Int) + 1) (by omega) (by omega), show ((i : Int) + 1) = ((i + 1 : Nat) : Int) by omega, ih k' (i + 1) (by omega) (by omega) (by omega)]
              simp [w2, w0]
      · rw [cneg (by omega), List.drop_of_length_le (by omega)]
        rfl
  have := loop a.length k 0 (by omega) (by omega) (by omega)
  rw [List.drop_zero] at this
  exact this
def rowA (w : Int) (r : List Cel) : Bool := decide ((r.length : Int) = w) && rr r
theorem right1_ok (k : Nat) (a b : Int) (c : List (List Cel)) (d e : Int) (g : Bool) (hw : ∀ r ∈ c, I64A r) (ha : a ≤ 200) (hl : c.length ≤ 200) (hk : 300 ≤ k) :
    f34 k (((c, ()), ((), ()), ()), ((a, b, c, d, e, g), ()), ()) = V1 (!c.all (rowA a)) := by
  have one : ∀ r ∈ c, f35 k (((r, ()), ((), ()), ()), ((a, b, c, d, e, g), ()), ()) = V1 (!rowA a r) := by
    intro r hr
    rw [e35_eq]
    unfold rowA
    by_cases h : (r.length : Int) = a
    · rw [rrow_ok k r (hw r hr) (by omega) (by omega) (by omega)]
      simp [h, bne, bq]
    · simp [h, bne, bq]
  have loop : ∀ (j k' i : Nat), i + j = c.length → j + 1 ≤ k' → ∃ n : Int, loopN (e54_0 k c a b c d e g) k' (((c, ()), ((), ()), ((c.length : Int), ()), ((i : Int), ()), ()), ()) = some (((n, ()), ()), ()) ∧ decide (n ≥ 0) = !(c.drop i).all (rowA a) := by
    intro j
    induction j with
    | zero =>
      intro k' i hi hk
      obtain ⟨k', rfl⟩ : ∃ k2, k' = k2 + 1 := ⟨k' - 1, by omega⟩
      simp only [loopN_succ, e54_0]
      rw [cneg (by omega), List.drop_of_length_le (by omega)]
      exact ⟨-1, rfl, by simp⟩
    | succ j ih =>
      intro k' i hi hk
      obtain ⟨k', rfl⟩ : ∃ k2, k' = k2 + 1 := ⟨k' - 1, by omega⟩
      have h1 : i < c.length := by omega
      simp only [loopN_succ, e54_0]
      rw [cpos (by omega), cpos (by omega), tn0, gtx (s := S43.sl) h1, one _ (List.getElem_mem h1), List.drop_eq_getElem_cons h1]
      simp only [Option.bind_some]
      cases hb : rowA a c[i] with
      | false => exact ⟨i, rfl, by rw [decide_eq_true (by omega), List.all_cons, hb]; rfl⟩
      | true =>
        obtain ⟨n, e1, e2⟩ := ih k' (i + 1) (by omega) (by omega)
        refine ⟨n, ?_, by rw [e2, List.all_cons, hb, Bool.true_and]⟩
        rw [Bool.not_true, cond_false, wrapId (n := (i : Int) + 1) (by omega) (by omega), show ((i : Int) + 1) = ((i + 1 : Nat) : Int) by omega]
        exact e1
  obtain ⟨n, e1, e2⟩ := loop c.length k 0 (by omega) (by omega)
  rw [e34_eq, e54_eq]
  have e1' : loopN (e54_0 k c a b c d e g) k (((c, ()), ((), ()), ((c.length : Int), ()), ((0 : Int), ()), ()), ()) = some (((n, ()), ()), ()) := e1
  rw [e1', Option.bind_some, e2, List.drop_zero]
def rightB (a b : Int) (c : List (List Cel)) (d e : Int) : Bool := decide (1 ≤ a ∧ a ≤ 200 ∧ 1 ≤ b ∧ b ≤ 200 ∧ (c.length : Int) = b ∧ 0 ≤ d ∧ d < a ∧ 0 ≤ e ∧ e < b) && c.all (rowA a)
theorem rightS_ok (k : Nat) (a b : Int) (c : List (List Cel)) (d e : Int) (g : Bool) (hw : ∀ r ∈ c, I64A r) (hk : 300 ≤ k) : f13 k ((((a, b, c, d, e, g), ()), ()), ()) = V1 (rightB a b c d e) := by
  rw [e13_eq]
  unfold rightB
  by_cases h : 1 ≤ a ∧ a ≤ 200 ∧ 1 ≤ b ∧ b ≤ 200 ∧ (c.length : Int) = b ∧ 0 ≤ d ∧ d < a ∧ 0 ≤ e ∧ e < b
  · obtain ⟨h1, h2, h3, h4, h5, h6, h7, h8, h9⟩ := h
    rw [cneg (by omega), cneg (by omega), cneg (by omega), cneg (by omega)]
    simp only [bne, bq]
    rw [decide_eq_true h5, Bool.not_true, cond_false, cneg (by omega), cneg (by omega), cneg (by omega), cneg (by omega), right1_ok k a b c d e g hw h2 (by omega) hk, decide_eq_true ⟨h1, h2, h3, h4, h5, h6, h7, h8, h9⟩]
    simp
  · rw [decide_eq_false h, Bool.false_and]
    simp only [bne, bq]
    by_cases h1 : a < 1
    · rw [cpos h1]
    by_cases h2 : a > 200
    · rw [cneg h1, cpos h2]
    by_cases h3 : b < 1
    · rw [cneg h1, cneg h2, cpos h3]
    by_cases h4 : b > 200
    · rw [cneg h1, cneg h2, cneg h3, cpos h4]
    by_cases h5 : (c.length : Int) = b
    · rw [cneg h1, cneg h2, cneg h3, cneg h4, decide_eq_true h5, Bool.not_true, cond_false]
      by_cases h6 : d < 0
      · rw [cpos h6]
      by_cases h7 : d ≥ a
      · rw [cneg h6, cpos h7]
      by_cases h8 : e < 0
      · rw [cneg h6, cneg h7, cpos h8]
      by_cases h9 : e ≥ b
      · rw [cneg h6, cneg h7, cneg h8, cpos h9]
      · exact absurd ⟨by omega, by omega, by omega, by omega, h5, by omega, by omega, by omega, by omega⟩ h
    · rw [cneg h1, cneg h2, cneg h3, cneg h4, decide_eq_false h5]; rfl
end
end Go.Proofs.YtaklapcbbdcdpaaDoor.Pt
