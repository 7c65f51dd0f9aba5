import Derived.Test.YtopnjcclbepdoaaKD
namespace Go.Proofs.Ytopnjcclbepdoaa.Caps
open Go Go.RowKit Go.Proofs Go.Proofs.Ytopnjcclbepdoaa.X
set_option linter.unusedVariables false
set_option linter.unusedSimpArgs false
noncomputable section
/-! Every call is answered, if it has its arguments -/
abbrev RD : Type := ((Bool × Unit) × Unit) × (CT × Unit) × Unit
abbrev rd (b : Bool) (c : CT) : RD := (((b, ()), ()), (c, ()), ())
abbrev f38a (k : Nat) (n : Int) (ar : List Int) : Option RD := f38 k ((((), ()), (ar, ()), ()), (((c0 n 0 : CT), ()), ()))
theorem rd0 (k : Nat) (a b c : Int) : f38a k 0 [a, b, c] = (f45 k (((a, ()), (b, ()), ()), ())).bind fun v => bif !v.1.1.1 then some (rd false (c0 0 0)) else
    (f46 k (((c, ()), (0, ()), (1114111, ()), ()), ())).bind fun v1 => bif !v1.1.1.1 then some (rd false (c0 0 0)) else
    (f47 k (((IntKind.i32.wrap c, ()), ()), ())).bind fun v2 => bif v2.1.1.1 != 1 then some (rd false (c0 0 0)) else some (rd true (0, 0, a, b, 0, IntKind.i32.wrap c, (0, 0, 0), [])) := by kernel_rfl
theorem rd1 (k : Nat) (a b c : Int) : f38a k 1 [a, b, c] = (f48 k ((((a, b, c), ()), ()), ())).bind fun v => some (rd v.1.1.1 (1, 0, 0, 0, 0, 0, (a, b, c), [])) := by kernel_rfl
theorem rd2 (k : Nat) : f38a k 2 [] = some (rd true (c0 2 0)) := by kernel_rfl
theorem rd3 (k : Nat) (a : Int) : f38a k 3 [a] = (f46 k (((a, ()), (1, ()), (8, ()), ()), ())).bind fun v => some (rd v.1.1.1 (3, 0, 0, 0, a, 0, (0, 0, 0), [])) := by kernel_rfl
theorem rd4 (k : Nat) (a : Int) : f38a k 4 [a] = (f46 k (((a, ()), (1, ()), (8, ()), ()), ())).bind fun v => some (rd v.1.1.1 (4, 0, 0, 0, a, 0, (0, 0, 0), [])) := by kernel_rfl
theorem rd5 (k : Nat) (a b c : Int) : f38a k 5 [a, b, c] = (f46 k (((a, ()), (1, ()), (1099511627776, ()), ()), ())).bind fun v => bif v.1.1.1 then (f46 k (((c, ()), (0, ()), (64, ()), ()), ())).bind fun v => some (rd v.1.1.1 (c0 5 a)) else some (rd false (c0 5 a)) := by kernel_rfl
theorem rd6 (k : Nat) (a : Int) : f38a k 6 [a] = (f46 k (((a, ()), (1, ()), (1099511627776, ()), ()), ())).bind fun v => some (rd v.1.1.1 (c0 6 a)) := by kernel_rfl
theorem rd7 (k : Nat) : f38a k 7 [] = some (rd true (c0 7 0)) := by kernel_rfl
theorem rd8 (k : Nat) (a : Int) : f38a k 8 [a] = (f46 k (((a, ()), (1, ()), (1099511627776, ()), ()), ())).bind fun v => some (rd v.1.1.1 (c0 8 a)) := by kernel_rfl
theorem rd9 (k : Nat) (a b c : Int) : f38a k 9 [a, b, c] = (f46 k (((a, ()), (1, ()), (1099511627776, ()), ()), ())).bind fun v => bif v.1.1.1 then (f45 k (((b, ()), (c, ()), ()), ())).bind fun v => some (rd v.1.1.1 (9, a, b, c, 0, 0, (0, 0, 0), [])) else some (rd false (9, a, b, c, 0, 0, (0, 0, 0), [])) := by kernel_rfl
theorem rd10 (k : Nat) : f38a k 10 [] = some (rd true (c0 10 0)) := by kernel_rfl
theorem rd11 (k : Nat) (a b : Int) : f38a k 11 [a, b] = (f46 k (((b, ()), (0, ()), (64, ()), ()), ())).bind fun v => some (rd v.1.1.1 (c0 11 0)) := by kernel_rfl
theorem side_ok (k : Nat) (a b : Int) : f45 k (((a, ()), (b, ()), ()), ()) = some (((decide (0 ≤ a ∧ a ≤ 199) && decide (0 ≤ b ∧ b ≤ 199), ()), ()), ()) := by
  rw [e45_eq, in_ok, Option.bind_some, in_ok, Option.bind_some]
  cases decide (0 ≤ a ∧ a ≤ 199) <;> rfl
def colB (a : Int) : Bool := decide (0 ≤ a ∧ a ≤ 256) || decide (16777216 ≤ a ∧ a < 33554432)
theorem col_ok (k : Nat) (a : Int) : f53 k (((a, ()), ()), ()) = some (((colB a, ()), ()), ()) := by
  rw [e53_eq]
  unfold colB
  simp only [ge_iff_le]
  by_cases h : 0 ≤ a <;> by_cases h2 : a ≤ 256 <;> by_cases h3 : 16777216 ≤ a <;> by_cases h4 : a < 33554432 <;> simp [h, h2, h3, h4]
theorem style_tot (k : Nat) (a b c : Int) : ∃ v, f48 k ((((a, b, c), ()), ()), ()) = some (((v, ()), ()), ()) := by
  rw [e48_eq, col_ok, Option.bind_some, col_ok, Option.bind_some]
  cases colB a
  · exact ⟨_, rfl⟩
  · cases colB b <;> exact ⟨_, rfl⟩
abbrev v0 (n : Int) : ((Int × PUnit) × (Bool × PUnit) × PUnit) × PUnit := (((cnt n, ()), (true, ()), ()), ())
abbrev same (c : CT) (b : List Int) : CT := (c.1, c.2.1, c.2.2.1, c.2.2.2.1, c.2.2.2.2.1, c.2.2.2.2.2.1, (c.2.2.2.2.2.2.1.1, c.2.2.2.2.2.2.1.2.1, c.2.2.2.2.2.2.1.2.2), b)
def fin (o : Option RD) (f : CT → Option (((CT × Unit) × (Int × Unit) × Unit) × Unit)) : Option (((CT × Unit) × (Int × Unit) × Unit) × Unit) := o.bind fun v => bif !v.1.1.1 then some (((c0 0 0, ()), (-3, ()), ()), ()) else f v.2.1.1
theorem in5 (k : Nat) (a b c : Int) (m : List Int) : inner k 5 [a, b, c] m (v0 5) = fin (f38a k 5 [a, b, c]) fun q => tailB k b c m (same q) := by kernel_rfl
theorem in11 (k : Nat) (a b : Int) (m : List Int) : inner k 11 [a, b] m (v0 11) = fin (f38a k 11 [a, b]) fun q => tailB k a b m (same q) := by kernel_rfl
abbrev pl (q : CT) : Option (((CT × Unit) × (Int × Unit) × Unit) × Unit) := some (((same q q.2.2.2.2.2.2.2, ()), (0, ()), ()), ())
theorem in0 (k : Nat) (ar m : List Int) (v) : inner k 0 ar m v = fin (f38a k 0 ar) pl := by kernel_rfl
theorem in1 (k : Nat) (ar m : List Int) (v) : inner k 1 ar m v = fin (f38a k 1 ar) pl := by kernel_rfl
theorem in2 (k : Nat) (ar m : List Int) (v) : inner k 2 ar m v = fin (f38a k 2 ar) pl := by kernel_rfl
theorem in3 (k : Nat) (ar m : List Int) (v) : inner k 3 ar m v = fin (f38a k 3 ar) pl := by kernel_rfl
theorem in4 (k : Nat) (ar m : List Int) (v) : inner k 4 ar m v = fin (f38a k 4 ar) pl := by kernel_rfl
theorem in6 (k : Nat) (ar m : List Int) (v) : inner k 6 ar m v = fin (f38a k 6 ar) pl := by kernel_rfl
theorem in7 (k : Nat) (ar m : List Int) (v) : inner k 7 ar m v = fin (f38a k 7 ar) pl := by kernel_rfl
theorem in8 (k : Nat) (ar m : List Int) (v) : inner k 8 ar m v = fin (f38a k 8 ar) pl := by kernel_rfl
theorem in9 (k : Nat) (ar m : List Int) (v) : inner k 9 ar m v = fin (f38a k 9 ar) pl := by kernel_rfl
theorem in10 (k : Nat) (ar m : List Int) (v) : inner k 10 ar m v = fin (f38a k 10 ar) pl := by kernel_rfl
/-- it is answered, and not by NotAllowed -/
def Ans (m : List Int) (o : Option (((CT × Unit) × (Int × Unit) × Unit) × Unit)) : Prop := ∃ (c : CT) (e : Int), o = some (((c, ()), (e, ()), ()), ()) ∧ e ≠ -2 ∧ c.2.2.2.2.2.2.2.length ≤ m.length
theorem ans_fin {m : List Int} (b : Bool) (c : CT) (f) (h : b = true → Ans m (f c)) : Ans m (fin (some (rd b c)) f) := by
  cases b with
  | true => exact h rfl
  | false => exact ⟨_, _, rfl, by decide, Nat.zero_le _⟩
theorem ans_pl {m : List Int} (c : CT) (h : c.2.2.2.2.2.2.2 = []) : Ans m (pl c) := ⟨_, _, rfl, by decide, by rw [h]; exact Nat.zero_le _⟩
theorem ans_tail {k : Nat} {a n : Int} {m : List Int} {q : CT} (hm : m.length ≤ 140737488355328) (h0 : 0 ≤ n) (h1 : n ≤ 64) : Ans m (tailB k a n m (same q)) := by
  rw [tail_ok k a n m _ hm h0 h1]
  split
  · exact ⟨_, _, rfl, by decide, by simp; omega⟩
  · exact ⟨_, _, rfl, by decide, Nat.zero_le _⟩
theorem one_of {l : List Int} (h : l.length = 1) : ∃ a, l = [a] := match l, h with | [a], _ => ⟨a, rfl⟩
theorem two_of {l : List Int} (h : l.length = 2) : ∃ a b, l = [a, b] := match l, h with | [a, b], _ => ⟨a, b, rfl⟩
theorem three_of {l : List Int} (h : l.length = 3) : ∃ a b c, l = [a, b, c] := match l, h with | [a, b, c], _ => ⟨a, b, c, rfl⟩
theorem inner_ok {k : Nat} {n : Int} {ar m : List Int} (hk : 20 ≤ k) (hm : m.length ≤ 140737488355328) (hn : 0 ≤ n ∧ n < 12) (hl : cnt n = (ar.length : Int)) : Ans m (inner k n ar m (v0 n)) := by
  have hcases : n = 0 ∨ n = 1 ∨ n = 2 ∨ n = 3 ∨ n = 4 ∨ n = 5 ∨ n = 6 ∨ n = 7 ∨ n = 8 ∨ n = 9 ∨ n = 10 ∨ n = 11 := by omega
  rcases hcases with rfl | rfl | rfl | rfl | rfl | rfl | rfl | rfl | rfl | rfl | rfl | rfl
  · obtain ⟨a, b, c, rfl⟩ := three_of (l := ar) (by have : cnt 0 = 3 := rfl; omega)
    rw [in0, rd0, side_ok, Option.bind_some, in_ok, Option.bind_some, width_ok k _ hk, Option.bind_some]
    simp only []
    cases (decide (0 ≤ a ∧ a ≤ 199) && decide (0 ≤ b ∧ b ≤ 199))
    · exact ans_fin false _ _ (fun h => by cases h)
    cases decide ((0 : Int) ≤ c ∧ c ≤ 1114111)
    · exact ans_fin false _ _ (fun h => by cases h)
    cases (width (IntKind.i32.wrap c) != 1)
    · exact ans_fin true _ _ (fun _ => ans_pl _ rfl)
    · exact ans_fin false _ _ (fun h => by cases h)
  · obtain ⟨a, b, c, rfl⟩ := three_of (l := ar) (by have : cnt 1 = 3 := rfl; omega)
    obtain ⟨v, hv⟩ := style_tot k a b c
    rw [in1, rd1, hv, Option.bind_some]
    exact ans_fin v _ _ (fun _ => ans_pl _ rfl)
  · obtain rfl : ar = [] := List.length_eq_zero_iff.mp (by have : cnt 2 = 0 := rfl; omega)
    rw [in2, rd2]
    exact ans_fin true _ _ (fun _ => ans_pl _ rfl)
  · obtain ⟨a, rfl⟩ := one_of (l := ar) (by have : cnt 3 = 1 := rfl; omega)
    rw [in3, rd3, in_ok, Option.bind_some]
    exact ans_fin _ _ _ (fun _ => ans_pl _ rfl)
  · obtain ⟨a, rfl⟩ := one_of (l := ar) (by have : cnt 4 = 1 := rfl; omega)
    rw [in4, rd4, in_ok, Option.bind_some]
    exact ans_fin _ _ _ (fun _ => ans_pl _ rfl)
  · obtain ⟨a, b, c, rfl⟩ := three_of (l := ar) (by have : cnt 5 = 3 := rfl; omega)
    rw [in5, rd5, in_ok, Option.bind_some, in_ok, Option.bind_some]
    simp only []
    cases decide ((1 : Int) ≤ a ∧ a ≤ 1099511627776)
    · exact ans_fin false _ _ (fun h => by cases h)
    · refine ans_fin _ _ _ (fun h => ?_)
      have h := of_decide_eq_true h
      exact ans_tail hm h.1 h.2
  · obtain ⟨a, rfl⟩ := one_of (l := ar) (by have : cnt 6 = 1 := rfl; omega)
    rw [in6, rd6, in_ok, Option.bind_some]
    exact ans_fin _ _ _ (fun _ => ans_pl _ rfl)
  · obtain rfl : ar = [] := List.length_eq_zero_iff.mp (by have : cnt 7 = 0 := rfl; omega)
    rw [in7, rd7]
    exact ans_fin true _ _ (fun _ => ans_pl _ rfl)
  · obtain ⟨a, rfl⟩ := one_of (l := ar) (by have : cnt 8 = 1 := rfl; omega)
    rw [in8, rd8, in_ok, Option.bind_some]
    exact ans_fin _ _ _ (fun _ => ans_pl _ rfl)
  · obtain ⟨a, b, c, rfl⟩ := three_of (l := ar) (by have : cnt 9 = 3 := rfl; omega)
    rw [in9, rd9, in_ok, Option.bind_some, side_ok, Option.bind_some]
    simp only []
    cases decide ((1 : Int) ≤ a ∧ a ≤ 1099511627776)
    · exact ans_fin false _ _ (fun h => by cases h)
    · exact ans_fin _ _ _ (fun _ => ans_pl _ rfl)
  · obtain rfl : ar = [] := List.length_eq_zero_iff.mp (by have : cnt 10 = 0 := rfl; omega)
    rw [in10, rd10]
    exact ans_fin true _ _ (fun _ => ans_pl _ rfl)
  · obtain ⟨a, b, rfl⟩ := two_of (l := ar) (by have : cnt 11 = 2 := rfl; omega)
    rw [in11, rd11, in_ok, Option.bind_some]
    refine ans_fin _ _ _ (fun h => ?_)
    have h := of_decide_eq_true h
    exact ans_tail hm h.1 h.2
end
end Go.Proofs.Ytopnjcclbepdoaa.Caps
