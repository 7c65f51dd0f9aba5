import Derived.Test.YthllpilgfipkpaaRH
namespace Go.Proofs.Ythllpilgfipkpaa.Ring
open Go Go.RowKit Go.Proofs Go.Proofs.Ythllpilgfipkpaa.X
set_option linter.unusedVariables false
set_option linter.unusedSimpArgs false
noncomputable section
/-! A ring that is shrunk; lists alike -/
def e35_0 (k : Nat) (i : Int) (xs : List Int) (a : Int) (b : Int) (c : Int) (g : ((PUnit × PUnit) × (Int × PUnit) × (PUnit × PUnit) × (List Int × PUnit) × (Int × PUnit) × (Int × PUnit) × PUnit) ×
  (PUnit × Int × Int × Int × PUnit) × List Int × (PUnit × Int × Int × Int × PUnit) × List Int × PUnit) (L : ((PUnit × PUnit) × (Int × PUnit) × (PUnit × PUnit) × (List Int × PUnit) × (Int × PUnit) × (Int × PUnit) × PUnit) ×
    (PUnit × Int × Int × Int × PUnit) × List Int × (PUnit × Int × Int × Int × PUnit) × List Int × PUnit →
  Option (PUnit × (PUnit × Int × Int × Int × PUnit) × PUnit × List Int × PUnit)) : Option (PUnit × (PUnit × Int × Int × Int × PUnit) × PUnit × List Int × PUnit) := bif decide (g.1.2.2.2.2.2.1.1 < g.1.2.2.2.2.1.1) then
  bif decide ((0 : Int) ≤ g.1.2.2.2.2.2.1.1 ∧ g.1.2.2.2.2.2.1.1 < (↑g.1.2.2.2.1.1.length : Int)) then
    (f26 k
          ((((), ()), (gt (Sh.int IntKind.i64) g.1.2.2.2.1.1 g.1.2.2.2.2.2.1.1.toNat, ()), ()),
            ((), g.2.2.2.1.2.1, g.2.2.2.1.2.2.1, g.2.2.2.1.2.2.2.1, ()), g.2.2.2.2.1, ())).bind
      fun v =>
      L
        ((((), ()), (g.1.2.1.1, ()), ((), ()), (g.1.2.2.2.1.1, ()), (g.1.2.2.2.2.1.1, ()),
            (IntKind.i64.wrap (g.1.2.2.2.2.2.1.1 + (1 : Int)), ()), ()),
          ((), g.2.1.2.1, g.2.1.2.2.1, g.2.1.2.2.2.1, ()), g.2.2.1, ((), v.2.1.2.1, v.2.1.2.2.1, v.2.1.2.2.2.1, ()),
          v.2.2.1, ())
  else none
else
  some ((), ((), g.2.2.2.1.2.1, g.2.2.2.1.2.2.1, IntKind.i64.wrap (g.2.1.2.2.2.1 + g.1.2.1.1), ()), (), g.2.2.2.2.1, ())
theorem e35_eq (k : Nat) (xs : List Int) (a : Int) (b : Int) (c : Int) (i : Int) : f35 k ((((), ()), (i, ()), ()), mk xs a b c) = (f30 k ((((), ()), ()), ((), a, b, c, ()), xs, ())).bind fun v =>
  (f45 k (((i, ()), ()), ())).bind fun v_1 =>
    (f25 k (((i, ()), ()), ())).bind fun v_2 =>
      bif
          decide
            ((0 : Int) ≤ imax (IntKind.i64.wrap ((↑(List.length v.2.1) : Int) - v_1.1.1.1)) (0 : Int) ∧
              imax (IntKind.i64.wrap ((↑(List.length v.2.1) : Int) - v_1.1.1.1)) (0 : Int) ≤
                  (↑(List.length v.2.1) : Int) ∧
                (↑(List.length v.2.1) : Int) ≤ (↑(List.length v.2.1) : Int) ∧
                  (↑(List.length v.2.1) : Int) ≤ (↑(List.length v.2.1) : Int)) then
        loopN (e35_0 k i xs a b c) k
          ((((), ()), (imax (IntKind.i64.wrap ((↑(List.length v.2.1) : Int) - v_1.1.1.1)) (0 : Int), ()), ((), ()),
              (List.take
                  ((↑(List.length v.2.1) : Int).toNat -
                    Int.toNat (imax (IntKind.i64.wrap ((↑(List.length v.2.1) : Int) - v_1.1.1.1)) (0 : Int)))
                  (List.drop (Int.toNat (imax (IntKind.i64.wrap ((↑(List.length v.2.1) : Int) - v_1.1.1.1)) (0 : Int)))
                    v.2.1),
                ()),
              ((↑((↑(List.length v.2.1) : Int).toNat -
                      Int.toNat (imax (IntKind.i64.wrap ((↑(List.length v.2.1) : Int) - v_1.1.1.1)) (0 : Int))) :
                  Int),
                ()),
              ((0 : Int), ()), ()),
            ((), a, b, c, ()), xs, ((), v_2.2.1.2.1, v_2.2.1.2.2.1, v_2.2.1.2.2.2.1, ()), v_2.2.2.1, ())
      else none := by kernel_rfl
def e37_0 (g : ((List Int × PUnit) × (List Int × PUnit) × (Int × PUnit) × PUnit) × PUnit) (L : ((List Int × PUnit) × (List Int × PUnit) × (Int × PUnit) × PUnit) × PUnit → Option (((Bool × PUnit) × PUnit) × PUnit)) : Option (((Bool × PUnit) × PUnit) × PUnit) := bif decide (g.1.2.2.1.1 < (↑g.1.1.1.length : Int)) then
  bif decide ((0 : Int) ≤ g.1.2.2.1.1 ∧ g.1.2.2.1.1 < (↑g.1.1.1.length : Int)) then
    bif decide ((0 : Int) ≤ g.1.2.2.1.1 ∧ g.1.2.2.1.1 < (↑g.1.2.1.1.length : Int)) then
      bif gt (Sh.int IntKind.i64) g.1.1.1 g.1.2.2.1.1.toNat != gt (Sh.int IntKind.i64) g.1.2.1.1 g.1.2.2.1.1.toNat then
        some (((false, ()), ()), ())
      else L (((g.1.1.1, ()), (g.1.2.1.1, ()), (IntKind.i64.wrap (g.1.2.2.1.1 + (1 : Int)), ()), ()), ())
    else none
  else none
else some (((true, ()), ()), ())
theorem e37_eq (k : Nat) (xs : List Int) (ys : List Int) : f37 k (((xs, ()), (ys, ()), ()), ()) = bif (↑xs.length : Int) != (↑ys.length : Int) then some (((false, ()), ()), ())
else loopN e37_0 k (((xs, ()), (ys, ()), ((0 : Int), ()), ()), ()) := by kernel_rfl
theorem gtI (C : List Int) (i : Nat) (h : i < C.length) : gt (.int .i64) C i = C[i] := by simp [gt, h]
theorem samei_ok (xs : List Int) (k : Nat) (hl : xs.length < 4611686018427387904) (hk : xs.length + 1 ≤ k) : f37 k (((xs, ()), (xs, ()), ()), ()) = some (((true, ()), ()), ()) := by
  rw [e37_eq]
  simp only [bne_self_eq_false, cond_false]
  have loop : ∀ (j k i : Nat), i + j = xs.length → j + 1 ≤ k → loopN e37_0 k (((xs, ()), (xs, ()), ((i : Int), ()), ()), ()) = some (((true, ()), ()), ()) := by
    intro j
    induction j with
    | zero =>
      intro k i hi hk
      obtain ⟨k, rfl⟩ : ∃ k', k = k' + 1 := ⟨k - 1, by omega⟩
      simp only [loopN_succ, e37_0]
      rw [cneg (by omega)]
    | succ j ih =>
      intro k i hi hk
      obtain ⟨k, rfl⟩ : ∃ k', k = k' + 1 := ⟨k - 1, by omega⟩
      simp only [loopN_succ, e37_0]
      rw [cpos (by omega), cpos (by omega)]
      simp only [bne_self_eq_false, cond_false]
      rw [cpos (by omega), wrapId (by omega) (by omega), show ((i : Int) + 1) = ((i + 1 : Nat) : Int) by omega]
      exact ih k (i + 1) (by omega) (by omega)
  exact loop xs.length k 0 (by omega) hk
theorem shrink_c {K n fr g : Nat} {C xs : List Int} (hn : n ≤ 1000) (H : Has (s := .int .i64) n C fr xs) (hg : g < 4611686018427387904) (hK : 1002 ≤ K) (i : Int) :
    ∃ (fr' : Nat) (xs' : List Int), f35 K ((((), ()), (i, ()), ()), st (s := .int .i64) xs fr C g) = some ((), ((), (fr' : Int), ((C.drop (C.length - (bnd i).toNat)).length : Int), ((g + (C.length - (bnd i).toNat) : Nat) : Int), ()), (), xs', ()) ∧ Has (s := .int .i64) (bnd i).toNat (C.drop (C.length - (bnd i).toNat)) fr' xs' := by
  obtain ⟨hb1, hb2⟩ := bnd_ok i
  have hfit := H.fit
  rw [e35_eq, all_c (e49 K) (e30 K) hn (by omega) H (by omega), Option.bind_some, e45, Option.bind_some]
  obtain ⟨rs0, hnew, H0⟩ := new_c (e25 K) (by omega) i
  rw [hnew, Option.bind_some]
  simp only []
  have hov : imax (IntKind.i64.wrap ((C.length : Int) - bnd i)) 0 = ((C.length - (bnd i).toNat : Nat) : Int) := by
    rw [wrapId (by omega) (by omega)]; unfold imax; split <;> omega
  rw [hov, cpos (by omega)]
  simp only [Int.toNat_natCast]
  generalize hov2 : C.length - (bnd i).toNat = over at *
  rw [List.take_of_length_le (by simp)]
  have hD : (C.drop over).length ≤ (bnd i).toNat := by simp; omega
  have hDl : C.length - over = (C.drop over).length := by simp
  rw [hDl]
  generalize C.drop over = D at *
  have loop : ∀ (j k i0 fr0 : Nat) (rs E : List Int), i0 + j = D.length → j + 1 ≤ k → E = D.take i0 → Has (s := .int .i64) (bnd i).toNat E fr0 rs →
      ∃ (fr' : Nat) (xs' : List Int), loopN (e35_0 K i xs (fr : Int) (C.length : Int) (g : Int)) k ((((), ()), ((over : Int), ()), ((), ()), (D, ()), ((D.length : Int), ()), ((i0 : Int), ()), ()), ((), (fr : Int), (C.length : Int), (g : Int), ()), xs, ((), (fr0 : Int), (E.length : Int), ((0 : Nat) : Int), ()), rs, ()) =
        some ((), ((), (fr' : Int), (D.length : Int), ((g + over : Nat) : Int), ()), (), xs', ()) ∧ Has (s := .int .i64) (bnd i).toNat D fr' xs' := by
    intro j
    induction j with
    | zero =>
      intro k i0 fr0 rs E hi hk hE H1
      obtain ⟨k, rfl⟩ : ∃ k', k = k' + 1 := ⟨k - 1, by omega⟩
      obtain rfl : E = D := by rw [hE, List.take_of_length_le (by omega)]
      simp only [loopN_succ, e35_0]
      rw [cneg (by omega), wrapId (by omega) (by omega)]
      exact ⟨fr0, rs, by simp, H1⟩
    | succ j ih =>
      intro k i0 fr0 rs E hi hk hE H1
      obtain ⟨k, rfl⟩ : ∃ k', k = k' + 1 := ⟨k - 1, by omega⟩
      have hlt : i0 < D.length := by omega
      have hEl : E.length = i0 := by rw [hE, List.length_take]; omega
      obtain ⟨fr', rs', hp, H'⟩ := push_c (e49 K) (e26 K) (g := 0) hb2 H1 (by omega) (D[i0] : Int)
      have hd : (E ++ [D[i0]]).drop (E.length + 1 - (bnd i).toNat) = D.take (i0 + 1) := by
        rw [show E.length + 1 - (bnd i).toNat = 0 by omega, List.drop_zero, hE, List.take_add_one, List.getElem?_eq_getElem hlt]
        rfl
      rw [hd, if_pos (by omega), if_pos (by omega)] at hp
      rw [hd] at H'
      simp only [loopN_succ, e35_0]
      rw [cpos (by omega), cpos (by omega), Int.toNat_natCast, gtI D i0 hlt, hp, Option.bind_some, wrapId (n := (i0 : Int) + 1) (by omega) (by omega), show ((i0 : Int) + 1) = ((i0 + 1 : Nat) : Int) by omega]
      exact ih k (i0 + 1) fr' rs' _ (by omega) (by omega) rfl H'
  exact loop D.length K 0 0 rs0 [] (by omega) (by omega) (by simp) H0
end
end Go.Proofs.Ythllpilgfipkpaa.Ring
