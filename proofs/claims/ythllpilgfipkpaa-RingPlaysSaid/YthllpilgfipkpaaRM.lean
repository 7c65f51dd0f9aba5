import Derived.Test.YthllpilgfipkpaaRG6
import Derived.Test.YthllpilgfipkpaaRK
namespace Go.Proofs.Ythllpilgfipkpaa.Ring
open Go Go.RowKit Go.Proofs Go.Proofs.Ythllpilgfipkpaa.X
set_option linter.unusedVariables false
set_option linter.unusedSimpArgs false
noncomputable section
/-! The reference: a plain list of numbers -/
theorem e50_eq (k : Nat) (a : Int) (b : Int) (c : Int) : f50 k (((a, ()), (b, ()), (c, ()), ()), ()) = bif decide (a < b) then some (((b, ()), ()), ())
else bif decide (a > c) then some (((c, ()), ()), ()) else some (((a, ()), ()), ()) := by kernel_rfl
theorem e31_eq (k : Nat) (a : Int) : f31 k (((a, ()), ()), ()) = (f50 k (((a, ()), ((0 : Int), ()), ((1000 : Int), ()), ()), ())).bind fun v =>
  some (((([], v.1.1.1, (0 : Int)), ()), ()), ()) := by kernel_rfl
theorem e34_eq (k : Nat) (xs : List Int) (m : Int) (g : Int) : f34 k ((((xs, m, g), ()), ()), ()) = bif (↑xs.length : Int) == (0 : Int) then some ((((xs, m, g), ()), ((0 : Int), ()), (false, ()), ()), ())
else
  bif
      decide
        ((0 : Int) ≤ IntKind.i64.wrap ((↑xs.length : Int) - (1 : Int)) ∧
          IntKind.i64.wrap ((↑xs.length : Int) - (1 : Int)) < (↑xs.length : Int)) then
    bif
        decide
          ((0 : Int) ≤ (0 : Int) ∧
            (0 : Int) ≤ IntKind.i64.wrap ((↑xs.length : Int) - (1 : Int)) ∧
              IntKind.i64.wrap ((↑xs.length : Int) - (1 : Int)) ≤ IntKind.i64.wrap ((↑xs.length : Int) - (1 : Int)) ∧
                IntKind.i64.wrap ((↑xs.length : Int) - (1 : Int)) ≤ (↑xs.length : Int)) then
      some
        ((((List.drop (Int.toNat (0 : Int)) (List.take (IntKind.i64.wrap ((↑xs.length : Int) - (1 : Int))).toNat xs), m,
                g),
              ()),
            (gt (Sh.int IntKind.i64) xs (IntKind.i64.wrap ((↑xs.length : Int) - (1 : Int))).toNat, ()), (true, ()), ()),
          ())
    else none
  else none := by kernel_rfl
def e36_0 (g : ((PUnit × PUnit) × (PUnit × PUnit) × PUnit) ×
  ((List Int × Int × Int) × PUnit) × ((List Int × Int × Int) × PUnit) × PUnit) (L : ((PUnit × PUnit) × (PUnit × PUnit) × PUnit) ×
    ((List Int × Int × Int) × PUnit) × ((List Int × Int × Int) × PUnit) × PUnit →
  Option ((((List Int × Int × Int) × PUnit) × PUnit) × PUnit)) : Option ((((List Int × Int × Int) × PUnit) × PUnit) × PUnit) := bif decide ((↑g.2.1.1.1.length : Int) > g.2.1.1.2.1) then
  bif
      decide
        ((0 : Int) ≤ (1 : Int) ∧
          (1 : Int) ≤ (↑g.2.1.1.1.length : Int) ∧
            (↑g.2.1.1.1.length : Int) ≤ (↑g.2.1.1.1.length : Int) ∧
              (↑g.2.1.1.1.length : Int) ≤ (↑g.2.1.1.1.length : Int)) then
    L
      ((((), ()), ((), ()), ()),
        ((List.drop (Int.toNat (1 : Int)) (List.take (↑g.2.1.1.1.length : Int).toNat g.2.1.1.1), g.2.1.1.2.1,
            IntKind.i64.wrap (g.2.1.1.2.2 + (1 : Int))),
          ()),
        ((g.2.2.1.1.1, g.2.2.1.1.2.1, g.2.2.1.1.2.2), ()), ())
  else none
else some ((((g.2.1.1.1, g.2.1.1.2.1, g.2.1.1.2.2), ()), ()), ())
theorem e36_eq (k : Nat) (xs : List Int) (m : Int) (g : Int) (v : Int) : f36 k ((((xs, m, g), ()), (v, ()), ()), ()) = (f50 k (((v, ()), ((0 : Int), ()), ((1000 : Int), ()), ()), ())).bind fun v =>
  loopN e36_0 k ((((), ()), ((), ()), ()), ((xs, v.1.1.1, g), ()), (([], (0 : Int), (0 : Int)), ()), ()) := by kernel_rfl
def e32_0 (g : ((Int × PUnit) × (PUnit × PUnit) × (PUnit × PUnit) × (PUnit × PUnit) × (Int × PUnit) × PUnit) ×
  ((List Int × Int × Int) × PUnit) × ((List Int × Int × Int) × PUnit) × List Int × PUnit) (L : ((Int × PUnit) × (PUnit × PUnit) × (PUnit × PUnit) × (PUnit × PUnit) × (Int × PUnit) × PUnit) ×
    ((List Int × Int × Int) × PUnit) × ((List Int × Int × Int) × PUnit) × List Int × PUnit →
  Option ((((List Int × Int × Int) × PUnit) × (Int × PUnit) × (Bool × PUnit) × PUnit) × PUnit)) : Option ((((List Int × Int × Int) × PUnit) × (Int × PUnit) × (Bool × PUnit) × PUnit) × PUnit) := bif decide (g.1.2.2.2.2.1.1 < (↑g.2.1.1.1.length : Int)) then
  bif decide ((0 : Int) ≤ g.1.2.2.2.2.1.1 ∧ g.1.2.2.2.2.1.1 < (↑g.2.1.1.1.length : Int)) then
    bif
        ((g.2.2.2.1.length + [gt (Sh.int IntKind.i64) g.2.1.1.1 g.1.2.2.2.2.1.1.toNat].length) * (8 : Nat)).ble
          (140737488355328 : Nat) then
      L
        (((g.1.1.1, ()), ((), ()), ((), ()), ((), ()), (IntKind.i64.wrap (g.1.2.2.2.2.1.1 + (1 : Int)), ()), ()),
          ((g.2.1.1.1, g.2.1.1.2.1, g.2.1.1.2.2), ()), ((g.2.2.1.1.1, g.2.2.1.1.2.1, g.2.2.1.1.2.2), ()),
          g.2.2.2.1 ++ [gt (Sh.int IntKind.i64) g.2.1.1.1 g.1.2.2.2.2.1.1.toNat], ())
    else none
  else none
else
  bif ((g.2.2.2.1.length + [g.1.1.1].length) * (8 : Nat)).ble (140737488355328 : Nat) then
    bif decide ((↑(g.2.2.2.1 ++ [g.1.1.1]).length : Int) ≤ g.2.1.1.2.1) then
      some ((((g.2.2.2.1 ++ [g.1.1.1], g.2.1.1.2.1, g.2.1.1.2.2), ()), ((0 : Int), ()), (false, ()), ()), ())
    else
      bif
          decide
            ((0 : Int) ≤ (1 : Int) ∧
              (1 : Int) ≤ (↑(g.2.2.2.1 ++ [g.1.1.1]).length : Int) ∧
                (↑(g.2.2.2.1 ++ [g.1.1.1]).length : Int) ≤ (↑(g.2.2.2.1 ++ [g.1.1.1]).length : Int) ∧
                  (↑(g.2.2.2.1 ++ [g.1.1.1]).length : Int) ≤ (↑(g.2.2.2.1 ++ [g.1.1.1]).length : Int)) then
        bif decide ((0 : Int) ≤ (0 : Int) ∧ (0 : Int) < (↑(g.2.2.2.1 ++ [g.1.1.1]).length : Int)) then
          some
            ((((List.take ((↑(g.2.2.2.1 ++ [g.1.1.1]).length : Int).toNat - Int.toNat (1 : Int))
                      (List.drop (Int.toNat (1 : Int)) (g.2.2.2.1 ++ [g.1.1.1])),
                    g.2.1.1.2.1, IntKind.i64.wrap (g.2.1.1.2.2 + (1 : Int))),
                  ()),
                (gt (Sh.int IntKind.i64) (g.2.2.2.1 ++ [g.1.1.1]) (Int.toNat (0 : Int)), ()), (true, ()), ()),
              ())
        else none
      else none
  else none
theorem e32_eq (k : Nat) (xs : List Int) (m : Int) (g : Int) (v : Int) : f32 k ((((xs, m, g), ()), (v, ()), ()), ()) = loopN e32_0 k
  (((v, ()), ((), ()), ((), ()), ((), ()), ((0 : Int), ()), ()), ((xs, m, g), ()), (([], (0 : Int), (0 : Int)), ()), [],
    ()) := by kernel_rfl
theorem between_ok (k : Nat) (a : Int) : f50 k (((a, ()), (0, ()), (1000, ()), ()), ()) = some (((bnd a, ()), ()), ()) := by
  rw [e50_eq]
  by_cases h : a < 0
  · rw [cpos h]; (unfold bnd; split <;> (try split) <;> first | rfl | omega | (congr 4; omega))
  · rw [cneg h]
    by_cases h2 : a > 1000
    · rw [cpos h2]; (unfold bnd; split <;> (try split) <;> first | rfl | omega | (congr 4; omega))
    · rw [cneg h2]; (unfold bnd; split <;> (try split) <;> first | rfl | omega | (congr 4; omega))
theorem new_r (k : Nat) (a : Int) : f31 k (((a, ()), ()), ()) = some (((([], bnd a, 0), ()), ()), ()) := by
  rw [e31_eq, between_ok, Option.bind_some]
theorem push_r {K n g : Nat} {C : List Int} (hn : n ≤ 1000) (hf : C.length ≤ n) (hg : g < 4611686018427387904) (hK : 1002 ≤ K) (v : Int) :
    f32 K ((((C, (n : Int), (g : Int)), ()), (v, ()), ()), ()) = some (((((C ++ [v]).drop (C.length + 1 - n), (n : Int), ((if C.length < n then g else g + 1 : Nat) : Int)), ()), ((if C.length < n then 0 else gt is (C ++ [v]) 0), ()), (decide (n ≤ C.length), ()), ()), ()) := by
  rw [e32_eq]
  have loop : ∀ (j k i : Nat) (out : List Int), out = C.take i → i + j = C.length → j + 1 ≤ k → loopN e32_0 k (((v, ()), ((), ()), ((), ()), ((), ()), ((i : Int), ()), ()), ((C, (n : Int), (g : Int)), ()), (([], (0 : Int), (0 : Int)), ()), out, ()) =
      some (((((C ++ [v]).drop (C.length + 1 - n), (n : Int), ((if C.length < n then g else g + 1 : Nat) : Int)), ()), ((if C.length < n then 0 else gt is (C ++ [v]) 0), ()), (decide (n ≤ C.length), ()), ()), ()) := by
    intro j
    induction j with
    | zero =>
      intro k i out ho hi hk
      obtain ⟨k, rfl⟩ : ∃ k', k = k' + 1 := ⟨k - 1, by omega⟩
      obtain rfl : out = C := by rw [ho, List.take_of_length_le (by omega)]
      simp only [loopN_succ, e32_0]
      have hb : ((out.length + [v].length) * 8).ble 140737488355328 = true := by
        rw [Nat.ble_eq]; simp only [List.length_cons, List.length_nil]; omega
      have hl : ((out ++ [v]).length : Int) = (out.length : Int) + 1 := by simp
      rw [cneg (by omega), hb, cond_true]
      simp only [hl]
      rcases Nat.lt_or_ge out.length n with h | h
      · rw [cpos (by omega), if_pos h, if_pos h, decide_eq_false (by omega), show out.length + 1 - n = 0 by omega, List.drop_zero]
      · rw [cneg (by omega), cpos (by omega), cpos (by omega), if_neg (by omega), if_neg (by omega), decide_eq_true h, show out.length + 1 - n = 1 by omega, wrapId (by omega) (by omega)]
        rw [List.take_of_length_le (by simp)]
        rfl
    | succ j ih =>
      intro k i out ho hi hk
      obtain ⟨k, rfl⟩ : ∃ k', k = k' + 1 := ⟨k - 1, by omega⟩
      have hlt : i < C.length := by omega
      have hol : out.length = i := by rw [ho, List.length_take]; omega
      simp only [loopN_succ, e32_0]
      have hb : ((out.length + [gt (Sh.int IntKind.i64) C (Int.toNat (i : Int))].length) * 8).ble 140737488355328 = true := by
        rw [Nat.ble_eq]; simp only [List.length_cons, List.length_nil]; omega
      rw [cpos (by omega), cpos (by omega), hb, cond_true, Int.toNat_natCast, gtI C i hlt, wrapId (n := (i : Int) + 1) (by omega) (by omega), show ((i : Int) + 1) = ((i + 1 : Nat) : Int) by omega]
      refine ih k (i + 1) _ ?_ (by omega) (by omega)
      rw [ho, List.take_add_one, List.getElem?_eq_getElem hlt]
      rfl
  exact loop C.length K 0 [] (by simp) (by omega) (by omega)
theorem pop_r {K : Nat} {C : List Int} {n g : Int} (hf : C.length ≤ 1000) :
    f34 K ((((C, n, g), ()), ()), ()) = some ((((C.dropLast, n, g), ()), ((if 0 < C.length then gt is C (C.length - 1) else 0), ()), (decide (0 < C.length), ()), ()), ()) := by
  rw [e34_eq]
  rcases Nat.eq_zero_or_pos C.length with h | h
  · obtain rfl : C = [] := List.length_eq_zero_iff.mp h
    rfl
  · have e0 : ((C.length : Int) == 0) = false := by simp; intro h1; rw [h1] at h; simp at h
    have hw : IntKind.i64.wrap ((C.length : Int) - 1) = ((C.length - 1 : Nat) : Int) := by rw [wrapId (by omega) (by omega)]; omega
    simp only [e0, cond_false, hw]
    rw [cpos (by omega), cpos (by omega), if_pos h, decide_eq_true h, Int.toNat_natCast, Int.toNat_zero, List.drop_zero, ← List.dropLast_eq_take]
theorem shrink_r {K n g : Nat} {C : List Int} (hf : C.length ≤ 1000) (hg : g < 4611686018427387904) (hK : 1002 ≤ K) (v : Int) :
    f36 K ((((C, (n : Int), (g : Int)), ()), (v, ()), ()), ()) = some ((((C.drop (C.length - (bnd v).toNat), bnd v, ((g + (C.length - (bnd v).toNat) : Nat) : Int)), ()), ()), ()) := by
  obtain ⟨hb1, hb2⟩ := bnd_ok v
  rw [e36_eq, between_ok, Option.bind_some]
  have loop : ∀ (j k t : Nat) (D : List Int), D = C.drop t → t + j = C.length - (bnd v).toNat → t ≤ C.length → j + 1 ≤ k → loopN e36_0 k ((((), ()), ((), ()), ()), ((D, bnd v, ((g + t : Nat) : Int)), ()), (([], (0 : Int), (0 : Int)), ()), ()) =
      some ((((C.drop (C.length - (bnd v).toNat), bnd v, ((g + (C.length - (bnd v).toNat) : Nat) : Int)), ()), ()), ()) := by
    intro j
    induction j with
    | zero =>
      intro k t D hD ht htl hk
      obtain ⟨k, rfl⟩ : ∃ k', k = k' + 1 := ⟨k - 1, by omega⟩
      have hDl : D.length = C.length - t := by rw [hD, List.length_drop]
      simp only [loopN_succ, e36_0]
      rw [cneg (by omega), hD, show t = C.length - (bnd v).toNat by omega]
    | succ j ih =>
      intro k t D hD ht htl hk
      obtain ⟨k, rfl⟩ : ∃ k', k = k' + 1 := ⟨k - 1, by omega⟩
      have hDl : D.length = C.length - t := by rw [hD, List.length_drop]
      simp only [loopN_succ, e36_0]
      rw [cpos (by omega), cpos (by omega), wrapId (n := ((g + t : Nat) : Int) + 1) (by omega) (by omega), show ((g + t : Nat) : Int) + 1 = ((g + (t + 1) : Nat) : Int) by omega]
      refine ih k (t + 1) _ ?_ (by omega) (by omega) (by omega)
      rw [Int.toNat_natCast, List.take_length, hD, List.drop_drop]
      rfl
  exact loop (C.length - (bnd v).toNat) K 0 C (by simp) (by omega) (by omega) (by omega)
end
end Go.Proofs.Ythllpilgfipkpaa.Ring
