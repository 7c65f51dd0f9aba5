import Derived.Test.YthllpilgfipkpaaRA
import Derived.Laws.BitsLemmas
namespace Go.Proofs.Ythllpilgfipkpaa.Ring
open Go Go.RowKit Go.Proofs Go.Proofs.Ythllpilgfipkpaa.X
set_option linter.unusedVariables false
set_option linter.unusedSimpArgs false
noncomputable section
/-! What a ring does -/
theorem wrapId {n : Int} (h0 : -9223372036854775808 ≤ n) (h1 : n < 9223372036854775808) : IntKind.i64.wrap n = n := by
  rw [IntKind.wrap_i64]; omega
variable {s : Sh} {p e : TypeId}
abbrev RT (s : Sh) : Type := (Unit × Int × Int × Int × Unit) × List s.T × Unit
abbrev mk (xs : List s.T) (a b c : Int) : RT s := (((), a, b, c, ()), xs, ())
def PlaceEq (s : Sh) (f : ((Unit × Unit) × (Int × Unit) × Unit) × RT s → Option (((Int × Unit) × Unit) × Unit)) : Prop :=
  ∀ (xs : List s.T) (a b c i : Int), f ((((), ()), (i, ()), ()), mk xs a b c) = bif decide ((xs.length : Int) ≠ 0) then some ((((IntKind.i64.wrap (a + i)).tmod xs.length, ()), ()), ()) else none
def PushEq (s : Sh) (z : s.T) (f : ((Unit × Unit) × (Int × Unit) × Unit) × RT s → Option (((Int × Unit) × Unit) × Unit)) (h : ((Unit × Unit) × (s.T × Unit) × Unit) × RT s → Option (((s.T × Unit) × (Bool × Unit) × Unit) × RT s)) : Prop :=
  ∀ (xs : List s.T) (a b c : Int) (i : s.T), h ((((), ()), (i, ()), ()), mk xs a b c) =
    bif (xs.length : Int) == 0 then some (((i, ()), (true, ()), ()), mk xs a b (IntKind.i64.wrap (c + 1)))
    else bif decide (b < xs.length) then
      (f ((((), ()), (b, ()), ()), mk xs a b c)).bind fun val => bif decide (0 ≤ val.1.1.1 ∧ val.1.1.1 < xs.length) then
        some (((z, ()), (false, ()), ()), mk (xs.set val.1.1.1.toNat i) a (IntKind.i64.wrap (b + 1)) c) else none
    else bif decide (0 ≤ a ∧ a < xs.length) then bif decide (0 ≤ a ∧ a < xs.length) then
      (f ((((), ()), (1, ()), ()), mk (xs.set a.toNat i) a b c)).bind fun val =>
        some (((gt s xs a.toNat, ()), (true, ()), ()), mk (xs.set a.toNat i) val.1.1.1 b (IntKind.i64.wrap (c + 1)))
      else none else none
theorem e46 (k : Nat) : PlaceEq .str (f46 k) := fun xs a b c i => by kernel_rfl
theorem e14 (k : Nat) : PushEq .str ⟨#[]⟩ (f46 k) (f14 k) := fun xs a b c i => by kernel_rfl
theorem e49 (k : Nat) : PlaceEq (.int .i64) (f49 k) := fun xs a b c i => by kernel_rfl
theorem e26 (k : Nat) : PushEq (.int .i64) (0 : Int) (f49 k) (f26 k) := fun xs a b c i => by kernel_rfl
/-- of what was pushed, 'T', a ring of n places holds the last ones -/
structure Holds (n : Nat) (T : List s.T) (xs : List s.T) (a b c : Int) : Prop where
  len : xs.length = n
  cnt : b = (min T.length n : Nat)
  gone : c = (T.length - min T.length n : Nat)
  frm : 0 < n → a = ((T.length - min T.length n) % n : Nat)
  el : ∀ m, T.length - min T.length n ≤ m → m < T.length → xs[m % n]? = T[m]?
theorem place_ok {f} (hf : PlaceEq s f) {n : Nat} {xs : List s.T} {a b c : Int} (hn : 0 < n) (hN : n ≤ 1000) (hl : xs.length = n) {x i : Nat} (ha : a = (x % n : Nat)) (hi : i ≤ n) :
    f ((((), ()), ((i : Int), ()), ()), mk xs a b c) = some ((((((x + i) % n : Nat) : Int), ()), ()), ()) := by

  rw [hf, hl]
  have h0 : ¬ (n : Int) = 0 := by omega
  have hx : x % n < n := Nat.mod_lt _ hn
  have hw : IntKind.i64.wrap (a + (i : Int)) = ((x % n + i : Nat) : Int) := by
    rw [wrapId (by omega) (by omega), ha]; omega
  have ht : (((x % n + i : Nat) : Int)).tmod (n : Int) = (((x + i) % n : Nat) : Int) := by
    rw [Int.tmod_eq_emod_of_nonneg (by omega), ← Int.natCast_emod, Nat.mod_add_mod]
  simp only [hw, ht, h0, ne_eq, not_false_eq_true, decide_true, cond_true]
theorem mod_ne {n i m : Nat} (h1 : m < i) (h2 : i < m + n) : m % n ≠ i % n := by
  intro h
  have h3 := Nat.div_add_mod m n
  have h4 := Nat.div_add_mod i n
  have h5 : i - m = n * (i / n - m / n) := by
    rw [Nat.mul_sub]; omega
  rcases Nat.eq_zero_or_pos (i / n - m / n) with h6 | h6
  · rw [h6] at h5; omega
  · have := Nat.le_mul_of_pos_right n h6
    omega
/-- what a push does -/
theorem push_ok {z : s.T} {f h} (hf : PlaceEq s f) (hh : PushEq s z f h) {n : Nat} {T xs : List s.T} {a b c : Int} (hN : n ≤ 1000) (H : Holds n T xs a b c) (hT : T.length < 4611686018427387904) (v : s.T) :
    ∃ xs' a' b' c', h ((((), ()), (v, ()), ()), mk xs a b c) = some (((if T.length < n then z else gt s (T ++ [v]) (T.length - n), ()), (decide (n ≤ T.length), ()), ()), mk xs' a' b' c') ∧ Holds n (T ++ [v]) xs' a' b' c' := by
  obtain ⟨hlen, hcnt, hgone, hfrm, hel⟩ := H
  rw [hh, hlen]
  rcases Nat.eq_zero_or_pos n with h0 | h0
  · subst h0
    refine ⟨xs, a, b, IntKind.i64.wrap (c + 1), ?_, hlen, ?_, ?_, fun h => absurd h (Nat.lt_irrefl 0), fun m h1 h2 => ?_⟩
    · simp [gt]
    · rw [hcnt]; simp
    · rw [hgone, wrapId (by omega) (by omega)]; simp
    · simp at h1 h2; omega
  · have e0 : ((n : Int) == 0) = false := by simp; omega
    simp only [e0, cond_false]
    rcases Nat.lt_or_ge T.length n with h1 | h1
    · have hb : b = (T.length : Int) := by rw [hcnt]; congr 1; omega
      have hc : c = 0 := by rw [hgone]; omega
      have ha : a = ((0 % n : Nat) : Int) := by rw [hfrm h0]; congr 2; omega
      have e1 : decide (b < (n : Int)) = true := by simp; omega
      simp only [e1, cond_true]
      rw [hb, place_ok hf h0 hN hlen ha (i := T.length) (by omega)]
      have e2 : (0 + T.length) % n = T.length := by rw [Nat.zero_add, Nat.mod_eq_of_lt h1]
      have e3 : decide (0 ≤ (T.length : Int) ∧ (T.length : Int) < (n : Int)) = true := by simp; omega
      simp only [e2, Option.bind_some, e3, cond_true, Int.toNat_natCast]
      refine ⟨xs.set T.length v, a, IntKind.i64.wrap ((T.length : Int) + 1), c, ?_, by simp [hlen], ?_, ?_, fun _ => ?_, fun m g1 g2 => ?_⟩
      · rw [if_pos h1, decide_eq_false (by omega)]
      · rw [wrapId (by omega) (by omega)]; simp; omega
      · rw [hc]; simp; omega
      · have : (T ++ [v]).length - min (T ++ [v]).length n = 0 := by simp; omega
        rw [ha, this]
      · simp at g1 g2
        rw [Nat.mod_eq_of_lt (by omega)]
        by_cases hm : m = T.length
        · subst hm; simp [hlen, h1]
        · rw [List.getElem?_set_ne (by omega), List.getElem?_append_left (by omega), ← hel m (by omega) (by omega), Nat.mod_eq_of_lt (by omega)]
    · have hmin : min T.length n = n := by omega
      rw [hmin] at hcnt hgone hfrm hel
      have ha := hfrm h0
      have hx : (T.length - n) % n < n := Nat.mod_lt _ h0
      have e1 : decide (b < (n : Int)) = false := by simp; omega
      have e2 : decide (0 ≤ a ∧ a < (n : Int)) = true := by simp; omega
      simp only [e1, e2, cond_true, cond_false]
      have hp := place_ok hf (xs := xs.set a.toNat v) (b := b) (c := c) h0 hN (by simp [hlen]) ha (i := 1) (by omega)
      simp only [Int.natCast_one] at hp
      rw [hp]
      have eo : gt s xs a.toNat = gt s (T ++ [v]) (T.length - n) := by
        have g := hel (T.length - n) (Nat.le_refl _) (by omega)
        simp only [gt, List.getD_eq_getElem?_getD]
        rw [ha, Int.toNat_natCast, g, List.getElem?_append_left (by omega)]
      have em : T.length % n = (T.length - n) % n := by
        rw [Nat.mod_eq_sub_mod h1]
      refine ⟨xs.set a.toNat v, (((T.length - n + 1) % n : Nat) : Int), b, IntKind.i64.wrap (c + 1), ?_, by simp [hlen], ?_, ?_, fun _ => ?_, fun m g1 g2 => ?_⟩
      · rw [if_neg (by omega), decide_eq_true h1, Option.bind_some, eo]
      · rw [hcnt]; simp; omega
      · rw [hgone, wrapId (by omega) (by omega)]; simp; omega
      · congr 2; simp; omega
      · simp at g1 g2
        rw [ha, Int.toNat_natCast]
        by_cases hm : m = T.length
        · subst hm
          rw [em]; simp [hlen, hx]
        · rw [List.getElem?_append_left (by omega), ← hel m (by omega) (by omega)]
          refine List.getElem?_set_ne ?_
          rw [← em]
          exact fun he => mod_ne (by omega) (by omega) he.symm
theorem holds_nil {n : Nat} (z : s.T) : Holds n ([] : List s.T) (List.replicate n z) 0 0 0 :=
  ⟨by simp, by simp, by simp, fun _ => by simp, fun m h1 h2 => by simp at h2⟩
abbrev AT (s : Sh) : Type := ((Unit × Unit) × (Unit × Unit) × (Int × Unit) × (Int × Unit) × Unit) × List s.T × Unit
def AllEq (s : Sh) (by_ : Nat) (k : Nat) (f : ((Unit × Unit) × (Int × Unit) × Unit) × RT s → Option (((Int × Unit) × Unit) × Unit)) (h : ((Unit × Unit) × Unit) × RT s → Option (((Unit × Unit) × Unit) × List s.T × Unit)) : Prop :=
  ∀ (xs : List s.T) (a b c : Int), h ((((), ()), ()), mk xs a b c) =
    loopN (fun (g : AT s) L =>
      bif decide (g.1.2.2.2.1.1 < g.1.2.2.1.1) then
        (f ((((), ()), (g.1.2.2.2.1.1, ()), ()), mk xs a b c)).bind fun val =>
          bif decide (0 ≤ val.1.1.1 ∧ val.1.1.1 < xs.length) then
            bif ((g.2.1.length + [gt s xs val.1.1.1.toNat].length) * by_).ble 140737488355328 then
              L ((((), ()), ((), ()), (g.1.2.2.1.1, ()), (IntKind.i64.wrap (g.1.2.2.2.1.1 + 1), ()), ()), g.2.1 ++ [gt s xs val.1.1.1.toNat], ())
            else none
          else none
      else some ((((), ()), ()), g.2.1, ())) k ((((), ()), ((), ()), (b, ()), (0, ()), ()), [], ())
theorem e18 (k : Nat) : AllEq .str 16 k (f46 k) (f18 k) := fun xs a b c => by kernel_rfl
theorem e30 (k : Nat) : AllEq (.int .i64) 8 k (f49 k) (f30 k) := fun xs a b c => by kernel_rfl
theorem loopN_succ {γ β : Type} (body : γ → (γ → Option β) → Option β) (k : Nat) (g : γ) : loopN body (k + 1) g = body g (loopN body k) := rfl
theorem all_ok {by_ k : Nat} {f h} (hf : PlaceEq s f) (hh : AllEq s by_ k f h) {n : Nat} {T xs : List s.T} {a b c : Int} (hN : n ≤ 1000) (hby : by_ ≤ 1000) (H : Holds n T xs a b c) (hk : 1001 ≤ k) :
    h ((((), ()), ()), mk xs a b c) = some ((((), ()), ()), T.drop (T.length - min T.length n), ()) := by
  obtain ⟨hlen, hcnt, hgone, hfrm, hel⟩ := H
  rw [hh]
  have loop : ∀ (j : Nat) (k i : Nat) (out : List s.T), i + j = min T.length n → j + 1 ≤ k → out = (T.drop (T.length - min T.length n)).take i →
      loopN (fun (g : AT s) L =>
      bif decide (g.1.2.2.2.1.1 < g.1.2.2.1.1) then
        (f ((((), ()), (g.1.2.2.2.1.1, ()), ()), mk xs a b c)).bind fun val =>
          bif decide (0 ≤ val.1.1.1 ∧ val.1.1.1 < xs.length) then
            bif ((g.2.1.length + [gt s xs val.1.1.1.toNat].length) * by_).ble 140737488355328 then
              L ((((), ()), ((), ()), (g.1.2.2.1.1, ()), (IntKind.i64.wrap (g.1.2.2.2.1.1 + 1), ()), ()), g.2.1 ++ [gt s xs val.1.1.1.toNat], ())
            else none
          else none
      else some ((((), ()), ()), g.2.1, ())) k ((((), ()), ((), ()), (b, ()), ((i : Int), ()), ()), out, ()) = some ((((), ()), ()), T.drop (T.length - min T.length n), ()) := by
    intro j
    induction j with
    | zero =>
      intro k i out hi hk ho
      obtain ⟨k, rfl⟩ : ∃ k', k = k' + 1 := ⟨k - 1, by omega⟩
      have e1 : decide ((i : Int) < b) = false := by simp; omega
      simp only [loopN_succ, e1, cond_false]
      rw [ho, List.take_of_length_le (by simp; omega)]
    | succ j ih =>
      intro k i out hi hk ho
      obtain ⟨k, rfl⟩ : ∃ k', k = k' + 1 := ⟨k - 1, by omega⟩
      have h0 : 0 < n := by omega
      have e1 : decide ((i : Int) < b) = true := by simp; omega
      have hlo : out.length = i := by rw [ho]; simp; omega
      simp only [loopN_succ, e1, cond_true]
      rw [place_ok hf h0 hN hlen (hfrm h0) (i := i) (by omega)]
      have hx : (T.length - min T.length n + i) % n < n := Nat.mod_lt _ h0
      have e2 : decide (0 ≤ (((T.length - min T.length n + i) % n : Nat) : Int) ∧ (((T.length - min T.length n + i) % n : Nat) : Int) < (xs.length : Int)) = true := by
        rw [hlen]; simp only [decide_eq_true_eq]; omega
      have e3 : ∀ v : s.T, ((out.length + [v].length) * by_).ble 140737488355328 = true := fun v => by
        rw [Nat.ble_eq, hlo]
        have : (i + [v].length) * by_ ≤ 1001 * 1000 := Nat.mul_le_mul (by simp; omega) hby
        omega
      simp only [Option.bind_some, e2, cond_true, e3]
      have hg : xs[(T.length - min T.length n + i) % n]? = T[T.length - min T.length n + i]? := hel _ (by omega) (by omega)
      have hlt : T.length - min T.length n + i < T.length := by omega
      rw [wrapId (by omega) (by omega), show ((i : Int) + 1) = ((i + 1 : Nat) : Int) by omega]
      refine ih k (i + 1) _ (by omega) (by omega) ?_
      rw [List.take_add_one, ← ho]
      congr 1
      rw [List.getElem?_drop, Int.toNat_natCast, gt, List.getD_eq_getElem?_getD, hg, List.getElem?_eq_getElem hlt]
      rfl
  exact loop (min T.length n) k 0 [] (by omega) (by omega) (by simp)
end
end Go.Proofs.Ythllpilgfipkpaa.Ring
