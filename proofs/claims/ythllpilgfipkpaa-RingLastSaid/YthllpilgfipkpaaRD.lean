import Derived.Test.YthllpilgfipkpaaRC
namespace Go.Proofs.Ythllpilgfipkpaa.Ring
open Go Go.RowKit Go.Proofs Go.Proofs.Ythllpilgfipkpaa.X
set_option linter.unusedVariables false
set_option linter.unusedSimpArgs false
theorem last_end {k : Nat} {a : Int} {xs rs : List ByteArray} {b c d : Int} (hk : xs.length + 1001 ≤ k) (hl : xs.length < 4611686018427387904) (H : Holds (s := .str) (bnd a).toNat xs rs b c d) :
    lastEnd k a xs (mk rs b c d) (xs.take (xs.length - min xs.length (bnd a).toNat)) = some (((true, ()), ()), ()) := by
  obtain ⟨h1, h2⟩ := bnd_ok a
  have hn : nn a xs = ((min xs.length (bnd a).toNat : Nat) : Int) := by
    unfold nn; split <;> omega
  have hw : IntKind.i64.wrap ((xs.length : Int) - nn a xs) = ((xs.length - min xs.length (bnd a).toNat : Nat) : Int) := by
    rw [hn, wrapId (by omega) (by omega)]; omega
  have hc := H.cnt
  have hd := H.gone
  subst hc; subst hd
  unfold lastEnd
  rw [e15, Option.bind_some, hw, hn]
  simp only [beq_self_eq_true, cond_true]
  rw [e16, Option.bind_some]
  have e1 : (((xs.length - min xs.length (bnd a).toNat : Nat) : Int) == ((xs.take (xs.length - min xs.length (bnd a).toNat)).length : Int)) = true := by
    simp
  simp only [e1, cond_true]
  have e2 : decide (0 ≤ (0 : Int) ∧ 0 ≤ ((xs.length - min xs.length (bnd a).toNat : Nat) : Int) ∧ ((xs.length - min xs.length (bnd a).toNat : Nat) : Int) ≤ ((xs.length - min xs.length (bnd a).toNat : Nat) : Int) ∧ ((xs.length - min xs.length (bnd a).toNat : Nat) : Int) ≤ xs.length) = true := by
    simp only [decide_eq_true_eq]; omega
  have e3 : decide (0 ≤ ((xs.length - min xs.length (bnd a).toNat : Nat) : Int) ∧ ((xs.length - min xs.length (bnd a).toNat : Nat) : Int) ≤ xs.length ∧ (xs.length : Int) ≤ xs.length ∧ (xs.length : Int) ≤ xs.length) = true := by
    simp only [decide_eq_true_eq]; omega
  simp only [e2, e3, cond_true, Int.toNat_zero, List.drop_zero, Int.toNat_natCast]
  rw [same_ok _ k (by simp; omega) (by simp; omega), Option.bind_some]
  simp only [cond_true]
  rw [all_ok (e46 k) (e18 k) h2 (by omega) H (by omega), Option.bind_some, List.take_length]
  simp only []
  rw [same_ok _ k (by simp; omega) (by simp; omega), Option.bind_some]
theorem ringLast (a : Int) (xs : List ByteArray) (hl : xs.length * 16 ≤ 140737488351232) : f3 (xs.length + 1001 + 5) (((a, ()), (xs, ()), ()), ()) = some (((true, ()), ()), ()) := by
  obtain ⟨hb1, hb2⟩ := bnd_ok a
  rw [e3, new_ok (e12 _) (by omega) a, Option.bind_some, alive, Option.bind_some]
  simp only [Bool.not_true, cond_false]
  generalize hk : xs.length + 1001 + 5 = K
  have hK : xs.length + 1001 ≤ K := by omega
  clear hk
  have loop : ∀ (j k i : Nat) (rs : List ByteArray) (b c d : Int), i + j = xs.length → j + 1 ≤ k → Holds (s := .str) (bnd a).toNat (xs.take i) rs b c d →
      loopN (lastBody K) k (((a, ()), (xs, ()), ((), ()), ((), ()), (xs, ()), ((xs.length : Int), ()), ((i : Int), ()), ()), ((), b, c, d, ()), rs, xs.take (i - min i (bnd a).toNat), ()) = some (((true, ()), ()), ()) := by
    intro j
    induction j with
    | zero =>
      intro k i rs b c d hi hk H
      obtain ⟨k, rfl⟩ : ∃ k', k = k' + 1 := ⟨k - 1, by omega⟩
      have e1 : decide ((i : Int) < xs.length) = false := by simp; omega
      obtain rfl : i = xs.length := by omega
      rw [List.take_length] at H
      simp only [loopN_succ, lastBody, e1, cond_false]
      exact last_end hK (by omega) H
    | succ j ih =>
      intro k i rs b c d hi hk H
      obtain ⟨k, rfl⟩ : ∃ k', k = k' + 1 := ⟨k - 1, by omega⟩
      have hlt : i < xs.length := by omega
      have e1 : decide ((i : Int) < xs.length) = true := by simp; omega
      have e2 : decide (0 ≤ (i : Int) ∧ (i : Int) < xs.length) = true := by simp; omega
      have hg : gt .str xs i = xs[i] := by simp [gt, hlt]
      have hti : (xs.take i).length = i := by simp; omega
      have htake : xs.take i ++ [xs[i]] = xs.take (i + 1) := by rw [List.take_add_one, List.getElem?_eq_getElem hlt]; rfl
      obtain ⟨rs', b', c', d', hp, hH⟩ := push_ok (e46 K) (e14 K) hb2 H (by rw [hti]; omega) (xs[i] : (Sh.str).T)
      simp only [loopN_succ, lastBody, e1, e2, cond_true, Int.toNat_natCast, hg]
      rw [hp, Option.bind_some]
      rw [hti] at *
      have hH' : Holds (s := .str) (bnd a).toNat (xs.take (i + 1)) rs' b' c' d' := by
        rw [← htake]; exact hH
      have hn := ih k (i + 1) rs' b' c' d' (by omega) (by omega) hH'
      rcases Nat.lt_or_ge i (bnd a).toNat with h | h
      · have e3 : decide ((bnd a).toNat ≤ i) = false := by simp; omega
        simp only [e3, cond_false, h, if_true, beq_self_eq_true, Bool.not_true]
        rw [wrapId (by omega) (by omega), show ((i : Int) + 1) = ((i + 1 : Nat) : Int) by omega]
        have : i - min i (bnd a).toNat = i + 1 - min (i + 1) (bnd a).toNat := by omega
        rw [this]; exact hn
      · have e3 : decide ((bnd a).toNat ≤ i) = true := by simp; omega
        have e4 : ((xs.take (i - min i (bnd a).toNat)).length + [gt .str (xs.take i ++ [xs[i]]) (i - (bnd a).toNat)].length) * 16 ≤ 140737488355328 := by
          simp only [List.length_take, List.length_cons, List.length_nil]; omega
        have e5 : (((xs.take (i - min i (bnd a).toNat)).length + [gt .str (xs.take i ++ [xs[i]]) (i - (bnd a).toNat)].length) * 16).ble 140737488355328 = true := by rw [Nat.ble_eq]; exact e4
        have h' : ¬ i < (bnd a).toNat := by omega
        simp only [e3, cond_true, h', if_false]
        rw [e5, cond_true, wrapId (by omega) (by omega), show ((i : Int) + 1) = ((i + 1 : Nat) : Int) by omega]
        have h6 : i + 1 - min (i + 1) (bnd a).toNat = (i - min i (bnd a).toNat) + 1 := by omega
        have h7 : i - (bnd a).toNat = i - min i (bnd a).toNat := by omega
        have h8 : xs.take (i - min i (bnd a).toNat) ++ [gt .str (xs.take i ++ [xs[i]]) (i - (bnd a).toNat)] = xs.take (i + 1 - min (i + 1) (bnd a).toNat) := by
          have hx : gt .str (xs.take i ++ [xs[i]]) (i - (bnd a).toNat) = xs[i - min i (bnd a).toNat]'(by omega) := by
            rw [htake, h7]
            simp only [gt, List.getD_eq_getElem?_getD]
            rw [List.getElem?_take_of_lt (by omega), List.getElem?_eq_getElem (by omega)]
            rfl
          rw [hx, h6, List.take_add_one, List.getElem?_eq_getElem (by omega)]
          rfl
        rw [h8]; exact hn
  have h0 := loop xs.length K 0 (List.replicate (bnd a).toNat ByteArray.empty) 0 0 0 (by omega) (by omega) (by simpa using holds_nil (s := .str) (n := (bnd a).toNat) ByteArray.empty)
  simpa using h0
end Go.Proofs.Ythllpilgfipkpaa.Ring
