import Derived.Test.YthllpilgfipkpaaRC
namespace Go.Proofs.Ythllpilgfipkpaa.Ring
open Go Go.RowKit Go.Proofs Go.Proofs.Ythllpilgfipkpaa.X
set_option linter.unusedVariables false
set_option linter.unusedSimpArgs false
noncomputable section
/-! What a ring does, whatever it holds -/
variable {s : Sh}
/-- a ring of n places holds the things C, the oldest of them at the place fr -/
structure Has (n : Nat) (C : List s.T) (fr : Nat) (xs : List s.T) : Prop where
  len : xs.length = n
  fit : C.length ≤ n
  frm : 0 < n → fr < n
  el : ∀ t, t < C.length → xs[(fr + t) % n]? = C[t]?
abbrev st (xs : List s.T) (fr : Nat) (C : List s.T) (g : Nat) : RT s := mk xs (fr : Int) (C.length : Int) (g : Int)
theorem has_nil {n : Nat} (z : s.T) : Has n ([] : List s.T) 0 (List.replicate n z) := ⟨by simp, by simp, fun h => h, fun t h => by simp at h⟩
theorem place_c {f} (hf : PlaceEq s f) {n fr g : Nat} {C xs : List s.T} {b c : Int} (hn : 0 < n) (hN : n ≤ 1000) (hl : xs.length = n) (hfr : fr < n) {i : Nat} (hi : i ≤ n) :
    f ((((), ()), ((i : Int), ()), ()), mk xs (fr : Int) b c) = some ((((((fr + i) % n : Nat) : Int), ()), ()), ()) :=
  place_ok hf hn hN hl (by rw [Nat.mod_eq_of_lt hfr]) hi
theorem push_c {z : s.T} {f h} (hf : PlaceEq s f) (hh : PushEq s z f h) {n fr g : Nat} {C xs : List s.T} (hN : n ≤ 1000) (H : Has n C fr xs) (hg : g < 4611686018427387904) (v : s.T) :
    ∃ fr' xs', h ((((), ()), (v, ()), ()), st xs fr C g) = some (((if C.length < n then z else gt s (C ++ [v]) 0, ()), (decide (n ≤ C.length), ()), ()), st xs' fr' ((C ++ [v]).drop (C.length + 1 - n)) (if C.length < n then g else g + 1)) ∧ Has n ((C ++ [v]).drop (C.length + 1 - n)) fr' xs' := by
  obtain ⟨hlen, hfit, hfrm, hel⟩ := H
  rw [hh, hlen]
  rcases Nat.eq_zero_or_pos n with h0 | h0
  · subst h0
    obtain rfl : C = [] := List.length_eq_zero_iff.mp (by omega)
    refine ⟨fr, xs, ?_, hlen, ?_, fun h => absurd h (Nat.lt_irrefl 0), fun t h => ?_⟩
    · rw [wrapId (by omega) (by omega)]; simp [gt]
    · simp
    · simp at h
  · have e0 : ((n : Int) == 0) = false := by simp; omega
    simp only [e0, cond_false]
    have hfr := hfrm h0
    rcases Nat.lt_or_ge C.length n with h1 | h1
    · have e1 : decide ((C.length : Int) < (n : Int)) = true := by simp; omega
      simp only [e1, cond_true]
      rw [place_c hf (C := C) (g := g) h0 hN hlen hfr (i := C.length) (by omega)]
      have hx : (fr + C.length) % n < n := Nat.mod_lt _ h0
      have e3 : decide (0 ≤ (((fr + C.length) % n : Nat) : Int) ∧ (((fr + C.length) % n : Nat) : Int) < (n : Int)) = true := by
        simp only [decide_eq_true_eq]; omega
      simp only [Option.bind_some, e3, cond_true, Int.toNat_natCast]
      have hd : C.length + 1 - n = 0 := by omega
      rw [hd, List.drop_zero, if_pos h1, if_pos h1, decide_eq_false (by omega), wrapId (by omega) (by omega)]
      refine ⟨fr, xs.set ((fr + C.length) % n) v, ?_, by simp [hlen], by simp; omega, fun _ => hfr, fun t ht => ?_⟩
      · simp
      · simp only [List.length_append, List.length_cons, List.length_nil] at ht
        by_cases hm : t = C.length
        · subst hm; simp [hlen, hx]
        · rw [List.getElem?_append_left (by omega), ← hel t (by omega)]
          exact List.getElem?_set_ne (fun he => mod_ne (n := n) (m := fr + t) (i := fr + C.length) (by omega) (by omega) he.symm)
    · have hC : C.length = n := by omega
      have e1 : decide ((C.length : Int) < (n : Int)) = false := by simp; omega
      have e2 : decide (0 ≤ (fr : Int) ∧ (fr : Int) < (n : Int)) = true := by simp; omega
      simp only [e1, e2, cond_true, cond_false, Int.toNat_natCast]
      have hp := place_c hf (C := C) (g := g) (xs := xs.set fr v) (b := (C.length : Int)) (c := (g : Int)) h0 hN (by simp [hlen]) hfr (i := 1) (by omega)
      simp only [Int.natCast_one] at hp
      rw [hp]
      have eo : gt s xs fr = gt s (C ++ [v]) 0 := by
        have g0 := hel 0 (by omega)
        rw [Nat.add_zero, Nat.mod_eq_of_lt hfr] at g0
        simp only [gt, List.getD_eq_getElem?_getD]
        rw [g0, List.getElem?_append_left (by omega)]
      have hd : C.length + 1 - n = 1 := by omega
      rw [hd, Option.bind_some, if_neg (by omega), if_neg (by omega), decide_eq_true h1, wrapId (by omega) (by omega), eo]
      refine ⟨(fr + 1) % n, xs.set fr v, ?_, by simp [hlen], by simp; omega, fun _ => Nat.mod_lt _ h0, fun t ht => ?_⟩
      · simp
      · simp only [List.length_drop, List.length_append, List.length_cons, List.length_nil] at ht
        rw [Nat.mod_add_mod, List.getElem?_drop]
        by_cases hm : t + 1 = n
        · rw [show fr + 1 + t = fr + n by omega, Nat.add_mod_right, Nat.mod_eq_of_lt hfr, show 1 + t = C.length by omega]
          simp [hlen, hfr]
        · rw [List.getElem?_append_left (by omega), ← hel (1 + t) (by omega), show fr + 1 + t = fr + (1 + t) by omega]
          refine List.getElem?_set_ne (fun he => ?_)
          have := mod_ne (n := n) (m := fr) (i := fr + (1 + t)) (by omega) (by omega)
          rw [Nat.mod_eq_of_lt hfr] at this
          exact this he
theorem all_c {by_ k : Nat} {f h} (hf : PlaceEq s f) (hh : AllEq s by_ k f h) {n fr g : Nat} {C xs : List s.T} (hN : n ≤ 1000) (hby : by_ ≤ 1000) (H : Has n C fr xs) (hk : 1001 ≤ k) :
    h ((((), ()), ()), st xs fr C g) = some ((((), ()), ()), C, ()) := by
  obtain ⟨hlen, hfit, hfrm, hel⟩ := H
  rw [hh]
  have loop : ∀ (j : Nat) (k i : Nat) (out : List s.T), i + j = C.length → j + 1 ≤ k → out = C.take i →
      loopN (fun (q : AT s) L =>
      bif decide (q.1.2.2.2.1.1 < q.1.2.2.1.1) then
        (f ((((), ()), (q.1.2.2.2.1.1, ()), ()), mk xs (fr : Int) (C.length : Int) (g : Int))).bind fun val =>
          bif decide (0 ≤ val.1.1.1 ∧ val.1.1.1 < xs.length) then
            bif ((q.2.1.length + [gt s xs val.1.1.1.toNat].length) * by_).ble 140737488355328 then
              L ((((), ()), ((), ()), (q.1.2.2.1.1, ()), (IntKind.i64.wrap (q.1.2.2.2.1.1 + 1), ()), ()), q.2.1 ++ [gt s xs val.1.1.1.toNat], ())
            else none
          else none
      else some ((((), ()), ()), q.2.1, ())) k ((((), ()), ((), ()), ((C.length : Int), ()), ((i : Int), ()), ()), out, ()) = some ((((), ()), ()), C, ()) := by
    intro j
    induction j with
    | zero =>
      intro k i out hi hk ho
      obtain ⟨k, rfl⟩ : ∃ k', k = k' + 1 := ⟨k - 1, by omega⟩
      have e1 : decide ((i : Int) < (C.length : Int)) = false := by simp; omega
      simp only [loopN_succ, e1, cond_false]
      rw [ho, List.take_of_length_le (by omega)]
    | succ j ih =>
      intro k i out hi hk ho
      obtain ⟨k, rfl⟩ : ∃ k', k = k' + 1 := ⟨k - 1, by omega⟩
      have h0 : 0 < n := by omega
      have e1 : decide ((i : Int) < (C.length : Int)) = true := by simp; omega
      have hlo : out.length = i := by rw [ho]; simp; omega
      simp only [loopN_succ, e1, cond_true]
      rw [place_c hf (C := C) (g := g) h0 hN hlen (hfrm h0) (i := i) (by omega)]
      have hx : (fr + i) % n < n := Nat.mod_lt _ h0
      have e2 : decide (0 ≤ (((fr + i) % n : Nat) : Int) ∧ (((fr + i) % n : Nat) : Int) < (xs.length : Int)) = true := by
        rw [hlen]; simp only [decide_eq_true_eq]; omega
      have e3 : ∀ v : s.T, ((out.length + [v].length) * by_).ble 140737488355328 = true := fun v => by
        rw [Nat.ble_eq, hlo]
        have : (i + [v].length) * by_ ≤ 1001 * 1000 := Nat.mul_le_mul (by simp; omega) hby
        omega
      simp only [Option.bind_some, e2, cond_true, e3]
      have hgi : xs[(fr + i) % n]? = C[i]? := hel _ (by omega)
      have hlt : i < C.length := by omega
      rw [wrapId (by omega) (by omega), show ((i : Int) + 1) = ((i + 1 : Nat) : Int) by omega]
      refine ih k (i + 1) _ (by omega) (by omega) ?_
      rw [List.take_add_one, ← ho]
      congr 1
      rw [Int.toNat_natCast, gt, List.getD_eq_getElem?_getD, hgi, List.getElem?_eq_getElem hlt]
      rfl
  exact loop C.length k 0 [] (by omega) (by omega) (by simp)
theorem new_c {z : s.T} {by_ k : Nat} {h} (hh : NewEq s z by_ h k) (hby : by_ ≤ 1000) (a : Int) : ∃ xs, h (((a, ()), ()), ()) = some ((((), ()), ()), st xs 0 ([] : List s.T) 0) ∧ Has (bnd a).toNat [] 0 xs :=
  ⟨_, new_ok hh hby a, has_nil z⟩
end
end Go.Proofs.Ythllpilgfipkpaa.Ring
