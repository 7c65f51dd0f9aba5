import Derived.Test.YtjbdeccohpbegaaVA
namespace Go.Proofs.Ytjbdeccohpbegaa.Vm
open Go Go.RowKit Go.Proofs Go.Proofs.Ytjbdeccohpbegaa.X
set_option linter.unusedVariables false
set_option linter.unusedSimpArgs false
noncomputable section
/-! Which modules have bytes -/
abbrev Fn : Type := Int × Int × Int × List (Int × Int)
abbrev Fs : Type := List Fn
def ca (c : List (Int × Int)) (i : Nat) : Int × Int := gt (S48) c i
def fa (l : Fs) (i : Nat) : Fn := gt (S63) l i
def ia (l : List Int) (i : Nat) : Int := gt (is) l i
theorem cpos {α : Type} {p : Prop} {hd : Decidable p} {a b : α} (h : p) : cond (@decide p hd) a b = a := by rw [decide_eq_true h]; rfl
theorem cneg {α : Type} {p : Prop} {hd : Decidable p} {a b : α} (h : ¬ p) : cond (@decide p hd) a b = b := by rw [decide_eq_false h]; rfl
theorem bpos {a c : Int} (h : a = c) : (a == c) = true := by simp [h]
theorem bneg {a c : Int} (h : ¬ a = c) : (a == c) = false := by simp [h]
theorem npos {a c : Int} (h : a ≠ c) : (a != c) = true := by simp [h]
theorem nneg {a c : Int} (h : a = c) : (a != c) = false := by simp [h]
theorem loopN_succ {γ β : Type} (body : γ → (γ → Option β) → Option β) (k : Nat) (g : γ) : loopN body (k + 1) g = body g (loopN body k) := rfl
theorem wrapId {n : Int} (h0 : -9223372036854775808 ≤ n) (h1 : n < 9223372036854775808) : IntKind.i64.wrap n = n := by
  rw [IntKind.wrap_i64]; omega
theorem blt {α : Type} {n : Nat} {a b : α} (h : n ≤ 140737488355328) : cond (n.ble 140737488355328) a b = a := by
  rw [Nat.ble_eq_true_of_le h]; rfl
def e45_0 (g : ((List Int × Unit) × (Int × Unit) × (Int × Unit) × (Int × Unit) × Unit) × Unit) (L : ((List Int × Unit) × (Int × Unit) × (Int × Unit) × (Int × Unit) × Unit) × Unit → Option (((Int × Unit) × Unit) × Unit)) : Option (((Int × Unit) × Unit) × Unit) := bif decide (g.1.2.2.2.1.1 < g.1.2.2.1.1) then bif decide ((0 : Int) ≤ g.1.2.2.2.1.1 ∧ g.1.2.2.2.1.1 < (↑g.1.1.1.length : Int)) then bif g.1.2.1.1 == ia g.1.1.1 g.1.2.2.2.1.1.toNat then some (((g.1.2.2.2.1.1, ()), ()), ()) else L (((g.1.1.1, ()), (g.1.2.1.1, ()), (g.1.2.2.1.1, ()), (IntKind.i64.wrap (g.1.2.2.2.1.1 + (1 : Int)), ()), ()), ()) else none else some ((((-1 : Int), ()), ()), ())
theorem e45_eq (k : Nat) (a : List Int) (x : Int) : f45 k (((a, ()), (x, ()), ()), ()) = loopN e45_0 k (((a, ()), (x, ()), ((↑a.length : Int), ()), ((0 : Int), ()), ()), ()) := by kernel_rfl
theorem e44_eq (k : Nat) (a : List Int) (x : Int) : f44 k (((a, ()), (x, ()), ()), ()) = (f45 k (((a, ()), (x, ()), ()), ())).bind fun v => some (((decide (v.1.1.1 ≥ (0 : Int)), ()), ()), ()) := by kernel_rfl
theorem e38_eq (k : Nat) (x : Int) : f38 k (((x, ()), ()), ()) = (f44 k ((([(1 : Int), (5 : Int), (6 : Int), (24 : Int), (25 : Int), (26 : Int), (28 : Int)], ()), (x, ()), ()), ())).bind fun v => some (((v.1.1.1, ()), ()), ()) := by kernel_rfl
theorem idx_tot : ∀ (e : Nat) (a : List Int) (x i : Int) (k : Nat), (a.length : Int) - i ≤ e → e + 1 ≤ k → 0 ≤ i → a.length ≤ 1000 → ∃ v, loopN e45_0 k (((a, ()), (x, ()), ((a.length : Int), ()), (i, ()), ()), ()) = some (((v, ()), ()), ()) := by
  intro e
  induction e with
  | zero =>
    intro a x i k he hk h0 hl
    obtain ⟨k, rfl⟩ : ∃ k2, k = k2 + 1 := ⟨k - 1, by omega⟩
    rw [loopN_succ, e45_0]
    simp only []
    rw [cneg (by omega)]
    exact ⟨_, rfl⟩
  | succ e ih =>
    intro a x i k he hk h0 hl
    obtain ⟨k, rfl⟩ : ∃ k2, k = k2 + 1 := ⟨k - 1, by omega⟩
    rw [loopN_succ, e45_0]
    simp only []
    by_cases h : i < (a.length : Int)
    · rw [cpos h, cpos ⟨h0, h⟩]
      cases hx : (x == ia a i.toNat) with
      | true => exact ⟨_, rfl⟩
      | false =>
        rw [cond_false, wrapId (by omega) (by omega)]
        exact ih a x (i + 1) k (by omega) (by omega) (by omega) hl
    · rw [cneg h]
      exact ⟨_, rfl⟩
theorem has_tot (k : Nat) (hk : 10 ≤ k) (x : Int) : ∃ b, f38 k (((x, ()), ()), ()) = some (((b, ()), ()), ()) := by
  rw [e38_eq, e44_eq, e45_eq]
  obtain ⟨v, hv⟩ := idx_tot 7 [1, 5, 6, 24, 25, 26, 28] x 0 k (by simp) (by omega) (by omega) (by simp)
  rw [hv]
  exact ⟨_, rfl⟩
/-- an instruction, a function that may be -/
def InOk (c : Int × Int) : Prop := 0 ≤ c.1 ∧ c.1 ≤ 29
structure FnOk (f : Fn) : Prop where
  p : 0 ≤ f.1 ∧ f.1 ≤ 8
  r : 0 ≤ f.2.1 ∧ f.2.1 ≤ 1
  v : 0 ≤ f.2.2.1 ∧ f.2.2.1 ≤ 16
  n : 1 ≤ f.2.2.2.length ∧ f.2.2.2.length ≤ 400
  c : ∀ i, i < f.2.2.2.length → InOk (ca f.2.2.2 i)
structure MOk (m : Int) (d : List Int) (l : Fs) : Prop where
  mm : 0 ≤ m ∧ m ≤ 1024
  dd : (d.length : Int) ≤ m
  n : 1 ≤ l.length ∧ l.length ≤ 16
  f : ∀ i, i < l.length → FnOk (fa l i)
def e37_0 (k : Nat) (m : Int) (d : List Int) (l : Fs) (L1 : ((Fs × Unit) × (Int × Unit) × (Int × Unit) × Unit) × Unit → Option (((Bool × Unit) × Unit) × Unit)) (g : ((Fs × Unit) × (Int × Unit) × (Int × Unit) × (List (Int × Int) × Unit) × (Int × Unit) × (Int × Unit) × Unit) × Unit) (L : ((Fs × Unit) × (Int × Unit) × (Int × Unit) × (List (Int × Int) × Unit) × (Int × Unit) × (Int × Unit) × Unit) × Unit → Option (((Bool × Unit) × Unit) × Unit)) : Option (((Bool × Unit) × Unit) × Unit) := bif decide (g.1.2.2.2.2.2.1.1 < g.1.2.2.2.2.1.1) then bif decide ((0 : Int) ≤ g.1.2.2.2.2.2.1.1 ∧ g.1.2.2.2.2.2.1.1 < (↑g.1.2.2.2.1.1.length : Int)) then bif decide ((ca g.1.2.2.2.1.1 g.1.2.2.2.2.2.1.1.toNat).1 < (0 : Int)) then some (((false, ()), ()), ()) else bif decide ((ca g.1.2.2.2.1.1 g.1.2.2.2.2.2.1.1.toNat).1 > (29 : Int)) then some (((false, ()), ()), ()) else (f38 k ((((ca g.1.2.2.2.1.1 g.1.2.2.2.2.2.1.1.toNat).1, ()), ()), ())).bind fun v => bif !v.1.1.1 then bif (ca g.1.2.2.2.1.1 g.1.2.2.2.2.2.1.1.toNat).2 != (0 : Int) then some (((false, ()), ()), ()) else L (((g.1.1.1, ()), (g.1.2.1.1, ()), (g.1.2.2.1.1, ()), (g.1.2.2.2.1.1, ()), (g.1.2.2.2.2.1.1, ()), (IntKind.i64.wrap (g.1.2.2.2.2.2.1.1 + (1 : Int)), ()), ()), ()) else L (((g.1.1.1, ()), (g.1.2.1.1, ()), (g.1.2.2.1.1, ()), (g.1.2.2.2.1.1, ()), (g.1.2.2.2.2.1.1, ()), (IntKind.i64.wrap (g.1.2.2.2.2.2.1.1 + (1 : Int)), ()), ()), ()) else none else L1 (((g.1.1.1, ()), (g.1.2.1.1, ()), (IntKind.i64.wrap (g.1.2.2.1.1 + (1 : Int)), ()), ()), ())
def e37_1 (k : Nat) (m : Int) (d : List Int) (l : Fs) (g : ((Fs × Unit) × (Int × Unit) × (Int × Unit) × Unit) × Unit) (L : ((Fs × Unit) × (Int × Unit) × (Int × Unit) × Unit) × Unit → Option (((Bool × Unit) × Unit) × Unit)) : Option (((Bool × Unit) × Unit) × Unit) := bif decide (g.1.2.2.1.1 < g.1.2.1.1) then bif decide ((0 : Int) ≤ g.1.2.2.1.1 ∧ g.1.2.2.1.1 < (↑g.1.1.1.length : Int)) then bif decide ((fa g.1.1.1 g.1.2.2.1.1.toNat).1 < (0 : Int)) then some (((false, ()), ()), ()) else bif decide ((fa g.1.1.1 g.1.2.2.1.1.toNat).1 > (8 : Int)) then some (((false, ()), ()), ()) else bif decide ((fa g.1.1.1 g.1.2.2.1.1.toNat).2.1 < (0 : Int)) then some (((false, ()), ()), ()) else bif decide ((fa g.1.1.1 g.1.2.2.1.1.toNat).2.1 > (1 : Int)) then some (((false, ()), ()), ()) else bif decide ((fa g.1.1.1 g.1.2.2.1.1.toNat).2.2.1 < (0 : Int)) then some (((false, ()), ()), ()) else bif decide ((fa g.1.1.1 g.1.2.2.1.1.toNat).2.2.1 > IntKind.i64.wrap ((16 : Int) - (fa g.1.1.1 g.1.2.2.1.1.toNat).1)) then some (((false, ()), ()), ()) else bif decide ((↑(List.length (fa g.1.1.1 g.1.2.2.1.1.toNat).2.2.2) : Int) < (1 : Int)) then some (((false, ()), ()), ()) else bif decide ((↑(List.length (fa g.1.1.1 g.1.2.2.1.1.toNat).2.2.2) : Int) > (400 : Int)) then some (((false, ()), ()), ()) else loopN (e37_0 k m d l L) k (((g.1.1.1, ()), (g.1.2.1.1, ()), (g.1.2.2.1.1, ()), ((fa g.1.1.1 g.1.2.2.1.1.toNat).2.2.2, ()), ((↑(List.length (fa g.1.1.1 g.1.2.2.1.1.toNat).2.2.2) : Int), ()), ((0 : Int), ()), ()), ()) else none else some (((true, ()), ()), ())
theorem e37_eq (k : Nat) (m : Int) (d : List Int) (l : Fs) : f37 k ((((m, d, l), ()), ()), ()) = bif decide (m < (0 : Int)) then some (((false, ()), ()), ()) else bif decide (m > (1024 : Int)) then some (((false, ()), ()), ()) else bif decide ((↑d.length : Int) > m) then some (((false, ()), ()), ()) else bif decide ((↑l.length : Int) < (1 : Int)) then some (((false, ()), ()), ()) else bif decide ((↑l.length : Int) > (16 : Int)) then some (((false, ()), ()), ()) else loopN (e37_1 k m d l) k (((l, ()), ((↑l.length : Int), ()), ((0 : Int), ()), ()), ()) := by kernel_rfl
abbrev T28 : Type := ((Fs × Unit) × (Int × Unit) × (Int × Unit) × Unit) × Unit
abbrev V28 : Type := Option (((Bool × Unit) × Unit) × Unit)
theorem right_in (k0 : Nat) (hk0 : 1000 ≤ k0) (m0 : Int) (d0 : List Int) (l0 : Fs) (L1 : T28 → V28) (l : Fs) (N i : Int) (c : List (Int × Int)) (hc : c.length ≤ 400) (hi : 0 ≤ i ∧ i ≤ 100) : ∀ (e j k : Nat), c.length - j ≤ e → e + 1 ≤ k →
    loopN (e37_0 k0 m0 d0 l0 L1) k (((l, ()), (N, ()), (i, ()), (c, ()), ((c.length : Int), ()), ((j : Int), ()), ()), ()) = some (((false, ()), ()), ()) ∨
    (loopN (e37_0 k0 m0 d0 l0 L1) k (((l, ()), (N, ()), (i, ()), (c, ()), ((c.length : Int), ()), ((j : Int), ()), ()), ()) = L1 (((l, ()), (N, ()), (i + 1, ()), ()), ()) ∧ ∀ p, j ≤ p → p < c.length → InOk (ca c p)) := by
  intro e
  induction e with
  | zero =>
    intro j k he hk
    obtain ⟨k, rfl⟩ : ∃ k2, k = k2 + 1 := ⟨k - 1, by omega⟩
    rw [loopN_succ, e37_0]
    simp only []
    rw [cneg (by omega), wrapId (by omega) (by omega)]
    exact .inr ⟨rfl, fun p h1 h2 => by omega⟩
  | succ e ih =>
    intro j k he hk
    obtain ⟨k, rfl⟩ : ∃ k2, k = k2 + 1 := ⟨k - 1, by omega⟩
    rw [loopN_succ, e37_0]
    simp only []
    by_cases h : (j : Int) < (c.length : Int)
    · rw [cpos h, cpos (p := 0 ≤ (j : Int) ∧ (j : Int) < (c.length : Int)) (by omega), Int.toNat_natCast]
      by_cases h1 : (ca c j).1 < 0
      · rw [cpos h1]; exact .inl rfl
      · rw [cneg h1]
        by_cases h2 : (ca c j).1 > 29
        · rw [cpos h2]; exact .inl rfl
        · rw [cneg h2]
          obtain ⟨b, hb⟩ := has_tot k0 (by omega) (ca c j).1
          rw [hb, Option.bind_some]
          simp only []
          have step := ih (j + 1) k (by omega) (by omega)
          rw [wrapId (n := (j : Int) + 1) (by omega) (by omega), show (j : Int) + 1 = ((j + 1 : Nat) : Int) by omega]
          have fin : ∀ {X : V28}, (X = some (((false, ()), ()), ()) ∨ (X = L1 (((l, ()), (N, ()), (i + 1, ()), ()), ()) ∧ ∀ p, j + 1 ≤ p → p < c.length → InOk (ca c p))) → (X = some (((false, ()), ()), ()) ∨ (X = L1 (((l, ()), (N, ()), (i + 1, ()), ()), ()) ∧ ∀ p, j ≤ p → p < c.length → InOk (ca c p))) := by
            rintro X (hX | ⟨hX, hp⟩)
            · exact .inl hX
            · refine .inr ⟨hX, fun p p1 p2 => ?_⟩
              by_cases hpj : p = j
              · subst hpj; exact ⟨by show 0 ≤ (ca c p).1; omega, by show (ca c p).1 ≤ 29; omega⟩
              · exact hp p (by omega) p2
          cases b with
          | true => rw [Bool.not_true, cond_false]; exact fin step
          | false =>
            rw [Bool.not_false, cond_true]
            cases hz : ((ca c j).2 != 0) with
            | true => exact .inl rfl
            | false => rw [cond_false]; exact fin step
    · rw [cneg h, wrapId (by omega) (by omega)]
      exact .inr ⟨rfl, fun p h1 h2 => by omega⟩
theorem right_out (k0 : Nat) (hk0 : 1000 ≤ k0) (m0 : Int) (d0 : List Int) (l0 l : Fs) (hl : l.length ≤ 16) : ∀ (e i k : Nat), l.length - i ≤ e → e + 1 ≤ k →
    ∃ b, loopN (e37_1 k0 m0 d0 l0) k (((l, ()), ((l.length : Int), ()), ((i : Int), ()), ()), ()) = some (((b, ()), ()), ()) ∧ (b = true → ∀ p, i ≤ p → p < l.length → FnOk (fa l p)) := by
  intro e
  induction e with
  | zero =>
    intro i k he hk
    obtain ⟨k, rfl⟩ : ∃ k2, k = k2 + 1 := ⟨k - 1, by omega⟩
    rw [loopN_succ, e37_1]
    simp only []
    rw [cneg (by omega)]
    exact ⟨true, rfl, fun _ p h1 h2 => by omega⟩
  | succ e ih =>
    intro i k he hk
    obtain ⟨k, rfl⟩ : ∃ k2, k = k2 + 1 := ⟨k - 1, by omega⟩
    rw [loopN_succ, e37_1]
    simp only []
    have no : ∀ {X : V28}, X = some (((false, ()), ()), ()) → ∃ b, X = some (((b, ()), ()), ()) ∧ (b = true → ∀ p, i ≤ p → p < l.length → FnOk (fa l p)) := fun h => ⟨false, h, fun q => by cases q⟩
    by_cases h : (i : Int) < (l.length : Int)
    · rw [cpos h, cpos (p := 0 ≤ (i : Int) ∧ (i : Int) < (l.length : Int)) (by omega), Int.toNat_natCast]
      by_cases h1 : (fa l i).1 < 0
      · rw [cpos h1]; exact no rfl
      rw [cneg h1]
      by_cases h2 : (fa l i).1 > 8
      · rw [cpos h2]; exact no rfl
      rw [cneg h2]
      by_cases h3 : (fa l i).2.1 < 0
      · rw [cpos h3]; exact no rfl
      rw [cneg h3]
      by_cases h4 : (fa l i).2.1 > 1
      · rw [cpos h4]; exact no rfl
      rw [cneg h4]
      by_cases h5 : (fa l i).2.2.1 < 0
      · rw [cpos h5]; exact no rfl
      rw [cneg h5, wrapId (n := 16 - (fa l i).1) (by omega) (by omega)]
      by_cases h6 : (fa l i).2.2.1 > 16 - (fa l i).1
      · rw [cpos h6]; exact no rfl
      rw [cneg h6]
      by_cases h7 : ((List.length (fa l i).2.2.2 : Nat) : Int) < 1
      · rw [cpos h7]; exact no rfl
      rw [cneg h7]
      by_cases h8 : ((List.length (fa l i).2.2.2 : Nat) : Int) > 400
      · rw [cpos h8]; exact no rfl
      rw [cneg h8]
      rcases right_in k0 hk0 m0 d0 l0 (loopN (e37_1 k0 m0 d0 l0) k) l (l.length : Int) (i : Int) (fa l i).2.2.2 (by omega) (by omega) 400 0 k0 (by omega) (by omega) with hq | ⟨hq, hin⟩
      · exact no hq
      · obtain ⟨b, hb, hp⟩ := ih (i + 1) k (by omega) (by omega)
        refine ⟨b, ?_, fun ht p p1 p2 => ?_⟩
        · rw [show ((i + 1 : Nat) : Int) = (i : Int) + 1 by omega] at hb
          exact hq.trans hb
        · by_cases e : p = i
          · subst e
            exact ⟨⟨by show 0 ≤ (fa l p).1; omega, by show (fa l p).1 ≤ 8; omega⟩, ⟨by show 0 ≤ (fa l p).2.1; omega, by show (fa l p).2.1 ≤ 1; omega⟩, ⟨by show 0 ≤ (fa l p).2.2.1; omega, by show (fa l p).2.2.1 ≤ 16; omega⟩, ⟨by show 1 ≤ (fa l p).2.2.2.length; omega, by show (fa l p).2.2.2.length ≤ 400; omega⟩, fun q hq => hin q (Nat.zero_le _) hq⟩
          · exact hp ht p (by omega) p2
    · rw [cneg h]
      exact ⟨true, rfl, fun _ p h1 h2 => by omega⟩
theorem right_tot (k : Nat) (hk : 1000 ≤ k) (m : Int) (d : List Int) (l : Fs) : ∃ b, f37 k ((((m, d, l), ()), ()), ()) = some (((b, ()), ()), ()) ∧ (b = true → MOk m d l) := by
  rw [e37_eq]
  have no : ∀ {X : V28}, X = some (((false, ()), ()), ()) → ∃ b, X = some (((b, ()), ()), ()) ∧ (b = true → MOk m d l) := fun h => ⟨false, h, fun q => by cases q⟩
  by_cases h1 : m < 0
  · rw [cpos h1]; exact no rfl
  rw [cneg h1]
  by_cases h2 : m > 1024
  · rw [cpos h2]; exact no rfl
  rw [cneg h2]
  by_cases h3 : (d.length : Int) > m
  · rw [cpos h3]; exact no rfl
  rw [cneg h3]
  by_cases h4 : (l.length : Int) < 1
  · rw [cpos h4]; exact no rfl
  rw [cneg h4]
  by_cases h5 : (l.length : Int) > 16
  · rw [cpos h5]; exact no rfl
  rw [cneg h5]
  obtain ⟨b, hb, hp⟩ := right_out k hk m d l l (by omega) 16 0 k (by omega) (by omega)
  exact ⟨b, hb, fun ht => ⟨⟨by omega, by omega⟩, by omega, ⟨by omega, by omega⟩, fun i hi => hp ht i (Nat.zero_le _) hi⟩⟩
def e39_0 (g : ((Unit × Unit) × (Int × Unit) × Unit) × Unit × List Int × Unit) (L : ((Unit × Unit) × (Int × Unit) × Unit) × Unit × List Int × Unit → Option (((Unit × Unit) × Unit) × Unit × List Int × Unit)) : Option (((Unit × Unit) × Unit) × Unit × List Int × Unit) := bif decide (g.1.2.1.1 ≥ (128 : Int)) then bif ((g.2.2.1.length + [IntKind.u8.wrap (↑(BitVec.ofInt IntKind.u8.bits (IntKind.u8.wrap g.1.2.1.1) ||| BitVec.ofInt IntKind.u8.bits (128 : Int)).toNat : Int)].length) * (1 : Nat)).ble (140737488355328 : Nat) then L ((((), ()), (g.1.2.1.1.fdiv ((2 : Int) ^ min (Int.toNat (7 : Int)) IntKind.u64.bits), ()), ()), (), g.2.2.1 ++ [IntKind.u8.wrap (↑(BitVec.ofInt IntKind.u8.bits (IntKind.u8.wrap g.1.2.1.1) ||| BitVec.ofInt IntKind.u8.bits (128 : Int)).toNat : Int)], ()) else none else bif ((g.2.2.1.length + [IntKind.u8.wrap g.1.2.1.1].length) * (1 : Nat)).ble (140737488355328 : Nat) then some ((((), ()), ()), (), g.2.2.1 ++ [IntKind.u8.wrap g.1.2.1.1], ()) else none
theorem e39_eq (k : Nat) (b : List Int) (n : Int) : f39 k ((((), ()), (n, ()), ()), b, ()) = loopN e39_0 k ((((), ()), (IntKind.u64.wrap (↑(BitVec.ofInt IntKind.u64.bits (IntKind.u64.wrap (IntKind.u64.wrap n * (2 : Int) ^ min (Int.toNat (1 : Int)) IntKind.u64.bits)) ^^^ BitVec.ofInt IntKind.u64.bits (IntKind.u64.wrap (n.fdiv ((2 : Int) ^ min (Int.toNat (63 : Int)) IntKind.i64.bits)))).toNat : Int), ()), ()), (), b, ()) := by kernel_rfl
theorem num_in : ∀ (e : Nat) (u : Int) (b : List Int) (k : Nat), 0 ≤ u → u < 128 ^ (e + 1) → e + 1 ≤ k → b.length + e ≤ 1000100 → e ≤ 20 → ∃ b', loopN e39_0 k ((((), ()), (u, ()), ()), (), b, ()) = some ((((), ()), ()), (), b', ()) ∧ b'.length ≤ b.length + e + 1 := by
  intro e
  induction e with
  | zero =>
    intro u b k h0 h1 hk hb hee
    obtain ⟨k, rfl⟩ : ∃ k2, k = k2 + 1 := ⟨k - 1, by omega⟩
    rw [loopN_succ, e39_0]
    simp only []
    rw [cneg (by omega), blt (by simp only [List.length_singleton]; omega)]
    exact ⟨_, rfl, by simp⟩
  | succ e ih =>
    intro u b k h0 h1 hk hb hee
    obtain ⟨k, rfl⟩ : ∃ k2, k = k2 + 1 := ⟨k - 1, by omega⟩
    rw [loopN_succ, e39_0]
    simp only []
    by_cases h : u ≥ 128
    · rw [cpos h, blt (by simp only [List.length_singleton]; omega)]
      have e1 : u.fdiv ((2 : Int) ^ min (Int.toNat (7 : Int)) IntKind.u64.bits) = u / 128 := Int.fdiv_eq_ediv_of_nonneg _ (by decide)
      rw [e1]
      obtain ⟨b', hb', hl⟩ := ih (u / 128) (b ++ [IntKind.u8.wrap (↑(BitVec.ofInt IntKind.u8.bits (IntKind.u8.wrap u) ||| BitVec.ofInt IntKind.u8.bits (128 : Int)).toNat : Int)]) k (by omega) (Int.ediv_lt_of_lt_mul (by decide) (by rw [← Int.pow_succ]; exact h1)) (by omega) (by rw [List.length_append, List.length_singleton]; omega) (by omega)
      exact ⟨b', hb', by rw [List.length_append, List.length_singleton] at hl; omega⟩
    · rw [cneg h, blt (by simp only [List.length_singleton]; omega)]
      exact ⟨_, rfl, by rw [List.length_append, List.length_singleton]; omega⟩
theorem num_tot (k : Nat) (hk : 20 ≤ k) (b : List Int) (n : Int) (hb : b.length ≤ 1000000) : ∃ b', f39 k ((((), ()), (n, ()), ()), b, ()) = some ((((), ()), ()), (), b', ()) ∧ b'.length ≤ b.length + 10 := by
  rw [e39_eq]
  have hr : ∀ x : Nat, 0 ≤ IntKind.u64.wrap (x : Int) ∧ IntKind.u64.wrap (x : Int) < 128 ^ 10 := fun x => by rw [IntKind.wrap_u64]; omega
  obtain ⟨b', h1, h2⟩ := num_in 9 _ b k (hr _).1 (hr _).2 (by omega) (by omega) (by omega)
  exact ⟨b', h1, by omega⟩
def e28_0 (k : Nat) (m : Int) (d : List Int) (l : Fs) (L1 : ((Unit × Unit) × (Fs × Unit) × (Int × Unit) × (Int × Unit) × Unit) × List Int × Unit → Option (((Unit × Unit) × (Int × Unit) × Unit) × List Int × Unit)) (g : ((Unit × Unit) × (Fs × Unit) × (Int × Unit) × (Int × Unit) × (List (Int × Int) × Unit) × (Int × Unit) × (Int × Unit) × Unit) × List Int × Unit) (L : ((Unit × Unit) × (Fs × Unit) × (Int × Unit) × (Int × Unit) × (List (Int × Int) × Unit) × (Int × Unit) × (Int × Unit) × Unit) × List Int × Unit → Option (((Unit × Unit) × (Int × Unit) × Unit) × List Int × Unit)) : Option (((Unit × Unit) × (Int × Unit) × Unit) × List Int × Unit) := bif decide (g.1.2.2.2.2.2.2.1.1 < g.1.2.2.2.2.2.1.1) then bif decide ((0 : Int) ≤ g.1.2.2.2.2.2.2.1.1 ∧ g.1.2.2.2.2.2.2.1.1 < (↑g.1.2.2.2.2.1.1.length : Int)) then bif ((g.2.1.length + [IntKind.u8.wrap (ca g.1.2.2.2.2.1.1 g.1.2.2.2.2.2.2.1.1.toNat).1].length) * (1 : Nat)).ble (140737488355328 : Nat) then (f38 k ((((ca g.1.2.2.2.2.1.1 g.1.2.2.2.2.2.2.1.1.toNat).1, ()), ()), ())).bind fun v => bif v.1.1.1 then (f39 k ((((), ()), ((ca g.1.2.2.2.2.1.1 g.1.2.2.2.2.2.2.1.1.toNat).2, ()), ()), g.2.1 ++ [IntKind.u8.wrap (ca g.1.2.2.2.2.1.1 g.1.2.2.2.2.2.2.1.1.toNat).1], ())).bind fun v => L ((((), ()), (g.1.2.1.1, ()), (g.1.2.2.1.1, ()), (g.1.2.2.2.1.1, ()), (g.1.2.2.2.2.1.1, ()), (g.1.2.2.2.2.2.1.1, ()), (IntKind.i64.wrap (g.1.2.2.2.2.2.2.1.1 + (1 : Int)), ()), ()), v.2.2.1, ()) else L ((((), ()), (g.1.2.1.1, ()), (g.1.2.2.1.1, ()), (g.1.2.2.2.1.1, ()), (g.1.2.2.2.2.1.1, ()), (g.1.2.2.2.2.2.1.1, ()), (IntKind.i64.wrap (g.1.2.2.2.2.2.2.1.1 + (1 : Int)), ()), ()), g.2.1 ++ [IntKind.u8.wrap (ca g.1.2.2.2.2.1.1 g.1.2.2.2.2.2.2.1.1.toNat).1], ()) else none else none else L1 ((((), ()), (g.1.2.1.1, ()), (g.1.2.2.1.1, ()), (IntKind.i64.wrap (g.1.2.2.2.1.1 + (1 : Int)), ()), ()), g.2.1, ())
def e28_1 (k : Nat) (m : Int) (d : List Int) (l : Fs) (g : ((Unit × Unit) × (Fs × Unit) × (Int × Unit) × (Int × Unit) × Unit) × List Int × Unit) (L : ((Unit × Unit) × (Fs × Unit) × (Int × Unit) × (Int × Unit) × Unit) × List Int × Unit → Option (((Unit × Unit) × (Int × Unit) × Unit) × List Int × Unit)) : Option (((Unit × Unit) × (Int × Unit) × Unit) × List Int × Unit) := bif decide (g.1.2.2.2.1.1 < g.1.2.2.1.1) then bif decide ((0 : Int) ≤ g.1.2.2.2.1.1 ∧ g.1.2.2.2.1.1 < (↑g.1.2.1.1.length : Int)) then bif ((g.2.1.length + [IntKind.u8.wrap (fa g.1.2.1.1 g.1.2.2.2.1.1.toNat).1, IntKind.u8.wrap (fa g.1.2.1.1 g.1.2.2.2.1.1.toNat).2.1, IntKind.u8.wrap (fa g.1.2.1.1 g.1.2.2.2.1.1.toNat).2.2.1, IntKind.u8.wrap (↑(List.length (fa g.1.2.1.1 g.1.2.2.2.1.1.toNat).2.2.2) : Int), IntKind.u8.wrap ((↑(List.length (fa g.1.2.1.1 g.1.2.2.2.1.1.toNat).2.2.2) : Int).fdiv ((2 : Int) ^ min (Int.toNat (8 : Int)) IntKind.i64.bits))].length) * (1 : Nat)).ble (140737488355328 : Nat) then loopN (e28_0 k m d l L) k ((((), ()), (g.1.2.1.1, ()), (g.1.2.2.1.1, ()), (g.1.2.2.2.1.1, ()), ((fa g.1.2.1.1 g.1.2.2.2.1.1.toNat).2.2.2, ()), ((↑(List.length (fa g.1.2.1.1 g.1.2.2.2.1.1.toNat).2.2.2) : Int), ()), ((0 : Int), ()), ()), g.2.1 ++ [IntKind.u8.wrap (fa g.1.2.1.1 g.1.2.2.2.1.1.toNat).1, IntKind.u8.wrap (fa g.1.2.1.1 g.1.2.2.2.1.1.toNat).2.1, IntKind.u8.wrap (fa g.1.2.1.1 g.1.2.2.2.1.1.toNat).2.2.1, IntKind.u8.wrap (↑(List.length (fa g.1.2.1.1 g.1.2.2.2.1.1.toNat).2.2.2) : Int), IntKind.u8.wrap ((↑(List.length (fa g.1.2.1.1 g.1.2.2.2.1.1.toNat).2.2.2) : Int).fdiv ((2 : Int) ^ min (Int.toNat (8 : Int)) IntKind.i64.bits))], ()) else none else none else bif decide ((↑g.2.1.length : Int) > (4096 : Int)) then some ((((), ()), ((2 : Int), ()), ()), [], ()) else some ((((), ()), ((0 : Int), ()), ()), g.2.1, ())
theorem e28_eq (k : Nat) (m : Int) (d : List Int) (l : Fs) : f28 k ((((m, d, l), ()), ()), ()) = (f37 k ((((m, d, l), ()), ()), ())).bind fun v => bif !v.1.1.1 then some ((((), ()), ((1 : Int), ()), ()), [], ()) else bif (([(67 : Int), (83 : Int), (77 : Int), (1 : Int), IntKind.u8.wrap m, IntKind.u8.wrap (m.fdiv ((2 : Int) ^ min (Int.toNat (8 : Int)) IntKind.i64.bits)), IntKind.u8.wrap (↑d.length : Int), IntKind.u8.wrap ((↑d.length : Int).fdiv ((2 : Int) ^ min (Int.toNat (8 : Int)) IntKind.i64.bits))].length + d.length) * (1 : Nat)).ble (140737488355328 : Nat) then bif ((([(67 : Int), (83 : Int), (77 : Int), (1 : Int), IntKind.u8.wrap m, IntKind.u8.wrap (m.fdiv ((2 : Int) ^ min (Int.toNat (8 : Int)) IntKind.i64.bits)), IntKind.u8.wrap (↑d.length : Int), IntKind.u8.wrap ((↑d.length : Int).fdiv ((2 : Int) ^ min (Int.toNat (8 : Int)) IntKind.i64.bits))] ++ d).length + [IntKind.u8.wrap (↑l.length : Int)].length) * (1 : Nat)).ble (140737488355328 : Nat) then loopN (e28_1 k m d l) k ((((), ()), (l, ()), ((↑l.length : Int), ()), ((0 : Int), ()), ()), [(67 : Int), (83 : Int), (77 : Int), (1 : Int), IntKind.u8.wrap m, IntKind.u8.wrap (m.fdiv ((2 : Int) ^ min (Int.toNat (8 : Int)) IntKind.i64.bits)), IntKind.u8.wrap (↑d.length : Int), IntKind.u8.wrap ((↑d.length : Int).fdiv ((2 : Int) ^ min (Int.toNat (8 : Int)) IntKind.i64.bits))] ++ d ++ [IntKind.u8.wrap (↑l.length : Int)], ()) else none else none := by kernel_rfl
abbrev T18 : Type := ((Unit × Unit) × (Fs × Unit) × (Int × Unit) × (Int × Unit) × Unit) × List Int × Unit
abbrev V18 : Type := Option (((Unit × Unit) × (Int × Unit) × Unit) × List Int × Unit)
theorem enc_in (k0 : Nat) (hk0 : 1000 ≤ k0) (m0 : Int) (d0 : List Int) (l0 : Fs) (L1 : T18 → V18) (l : Fs) (N i : Int) (c : List (Int × Int)) (hc : c.length ≤ 400) (hi : 0 ≤ i ∧ i ≤ 100) : ∀ (e j k : Nat) (b : List Int), c.length - j ≤ e → e + 1 ≤ k → e ≤ 400 → b.length + 11 * e ≤ 100000 →
    ∃ b', loopN (e28_0 k0 m0 d0 l0 L1) k ((((), ()), (l, ()), (N, ()), (i, ()), (c, ()), ((c.length : Int), ()), ((j : Int), ()), ()), b, ()) = L1 ((((), ()), (l, ()), (N, ()), (i + 1, ()), ()), b', ()) ∧ b'.length ≤ b.length + 11 * e := by
  intro e
  induction e with
  | zero =>
    intro j k b he hk hee hb
    obtain ⟨k, rfl⟩ : ∃ k2, k = k2 + 1 := ⟨k - 1, by omega⟩
    rw [loopN_succ, e28_0]
    simp only []
    rw [cneg (by omega), wrapId (by omega) (by omega)]
    exact ⟨b, rfl, by omega⟩
  | succ e ih =>
    intro j k b he hk hee hb
    obtain ⟨k, rfl⟩ : ∃ k2, k = k2 + 1 := ⟨k - 1, by omega⟩
    rw [loopN_succ, e28_0]
    simp only []
    by_cases h : (j : Int) < (c.length : Int)
    · rw [cpos h, cpos (p := 0 ≤ (j : Int) ∧ (j : Int) < (c.length : Int)) (by omega), Int.toNat_natCast, blt (by simp only [List.length_singleton]; omega)]
      obtain ⟨h1, hh⟩ := has_tot k0 (by omega) (ca c j).1
      rw [hh, Option.bind_some]
      simp only []
      rw [wrapId (n := (j : Int) + 1) (by omega) (by omega), show (j : Int) + 1 = ((j + 1 : Nat) : Int) by omega]
      cases h1 with
      | true =>
        obtain ⟨b', q1, q2⟩ := num_tot k0 (by omega) (b ++ [IntKind.u8.wrap (ca c j).1]) (ca c j).2 (by rw [List.length_append, List.length_singleton]; omega)
        rw [List.length_append, List.length_singleton] at q2
        rw [cond_true, q1, Option.bind_some]
        obtain ⟨b2, r1, r2⟩ := ih (j + 1) k b' (by omega) (by omega) (by omega) (by omega)
        exact ⟨b2, r1, by omega⟩
      | false =>
        rw [cond_false]
        obtain ⟨b2, r1, r2⟩ := ih (j + 1) k (b ++ [IntKind.u8.wrap (ca c j).1]) (by omega) (by omega) (by omega) (by rw [List.length_append, List.length_singleton]; omega)
        rw [List.length_append, List.length_singleton] at r2
        exact ⟨b2, r1, by omega⟩
    · rw [cneg h, wrapId (by omega) (by omega)]
      exact ⟨b, rfl, by omega⟩
set_option maxRecDepth 20000 in
theorem enc_out (k0 : Nat) (hk0 : 1000 ≤ k0) (m0 : Int) (d0 : List Int) (l0 l : Fs) (hl : l.length ≤ 16) (hf : ∀ i, i < l.length → FnOk (fa l i)) : ∀ (e i k : Nat) (b : List Int), l.length - i ≤ e → e + 1 ≤ k → e ≤ 16 → b.length + 4405 * e ≤ 90000 →
    ∃ b' x, loopN (e28_1 k0 m0 d0 l0) k ((((), ()), (l, ()), ((l.length : Int), ()), ((i : Int), ()), ()), b, ()) = some ((((), ()), (x, ()), ()), b', ()) := by
  intro e
  induction e with
  | zero =>
    intro i k b he hk hee hb
    obtain ⟨k, rfl⟩ : ∃ k2, k = k2 + 1 := ⟨k - 1, by omega⟩
    rw [loopN_succ, e28_1]
    simp only []
    rw [cneg (by omega)]
    cases decide ((b.length : Int) > 4096) with
    | true => exact ⟨_, _, rfl⟩
    | false => exact ⟨_, _, rfl⟩
  | succ e ih =>
    intro i k b he hk hee hb
    obtain ⟨k, rfl⟩ : ∃ k2, k = k2 + 1 := ⟨k - 1, by omega⟩
    rw [loopN_succ, e28_1]
    simp only []
    by_cases h : (i : Int) < (l.length : Int)
    · have hF := hf i (by omega)
      rw [cpos h, cpos (p := 0 ≤ (i : Int) ∧ (i : Int) < (l.length : Int)) (by omega), Int.toNat_natCast, blt (by simp only [List.length_cons, List.length_nil]; omega)]
      have hn := hF.n
      obtain ⟨b', q1, q2⟩ := enc_in k0 hk0 m0 d0 l0 (loopN (e28_1 k0 m0 d0 l0) k) l (l.length : Int) (i : Int) (fa l i).2.2.2 hn.2 (by omega) 400 0 k0 (b ++ [IntKind.u8.wrap (fa l i).1, IntKind.u8.wrap (fa l i).2.1, IntKind.u8.wrap (fa l i).2.2.1, IntKind.u8.wrap (↑(List.length (fa l i).2.2.2) : Int), IntKind.u8.wrap ((↑(List.length (fa l i).2.2.2) : Int).fdiv ((2 : Int) ^ min (Int.toNat (8 : Int)) IntKind.i64.bits))]) (by have := hn.2; show (fa l i).2.2.2.length - 0 ≤ 400; omega) (by omega) (by omega) (by simp only [List.length_append, List.length_cons, List.length_nil]; omega)
      simp only [List.length_append, List.length_cons, List.length_nil] at q2
      obtain ⟨b2, x, r⟩ := ih (i + 1) k b' (by omega) (by omega) (by omega) (by omega)
      rw [show ((i + 1 : Nat) : Int) = (i : Int) + 1 by omega] at r
      exact ⟨b2, x, q1.trans r⟩
    · rw [cneg h]
      cases decide ((b.length : Int) > 4096) with
      | true => exact ⟨_, _, rfl⟩
      | false => exact ⟨_, _, rfl⟩
theorem enc_tot (k : Nat) (hk : 1000 ≤ k) (m : Int) (d : List Int) (l : Fs) : ∃ b x, f28 k ((((m, d, l), ()), ()), ()) = some ((((), ()), (x, ()), ()), b, ()) ∧ (x = 0 → MOk m d l) := by
  rw [e28_eq]
  obtain ⟨r, h1, h2⟩ := right_tot k hk m d l
  rw [h1, Option.bind_some]
  simp only []
  cases r with
  | false => exact ⟨_, _, rfl, fun q => by cases q⟩
  | true =>
    have hM := h2 rfl
    have g1 := hM.mm
    have g2 := hM.dd
    have g3 := hM.n
    rw [Bool.not_true, cond_false, blt (by simp only [List.length_cons, List.length_nil]; omega), blt (by simp only [List.length_append, List.length_cons, List.length_nil]; omega)]
    have h3 : ∀ B : List Int, B.length ≤ 19000 → ∃ b x, loopN (e28_1 k m d l) k ((((), ()), (l, ()), ((l.length : Int), ()), ((0 : Int), ()), ()), B, ()) = some ((((), ()), (x, ()), ()), b, ()) ∧ (x = 0 → MOk m d l) := fun B hB => by
      obtain ⟨b, x, hq⟩ := enc_out k hk m d l l g3.2 hM.f 16 0 k B (by omega) (by omega) (by omega) (by omega)
      exact ⟨b, x, hq, fun _ => hM⟩
    exact h3 _ (by simp only [List.length_append, List.length_cons, List.length_nil]; omega)
end
end Go.Proofs.Ytjbdeccohpbegaa.Vm
