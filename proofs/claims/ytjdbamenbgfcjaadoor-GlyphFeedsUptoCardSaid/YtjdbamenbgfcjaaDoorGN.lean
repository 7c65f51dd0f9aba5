import Derived.Test.YtjdbamenbgfcjaaDoorGM
import Derived.Test.YtjdbamenbgfcjaaDoorGF
namespace Go.Proofs.YtjdbamenbgfcjaaDoor.Gl
open Go Go.RowKit Go.Proofs Go.Proofs.YtjdbamenbgfcjaaDoor.X
set_option linter.unusedVariables false
set_option linter.unusedSimpArgs false
noncomputable section
/-! All bytes' runes -/
def e12_0 (k : Nat) (b : List Int) (g : ((List Int × PUnit) × (PUnit × PUnit) × PUnit) × List Int × PUnit) (L : ((List Int × PUnit) × (PUnit × PUnit) × PUnit) × List Int × PUnit → Option (((PUnit × PUnit) × PUnit) × List Int × PUnit)) : Option (((PUnit × PUnit) × PUnit) × List Int × PUnit) := bif decide ((↑g.1.1.1.length : Int) > (0 : Int)) then (f29 k (((g.1.1.1, ()), ()), ())).bind fun v => bif ((g.2.1.length + [v.1.1.1].length) * (4 : Nat)).ble (140737488355328 : Nat) then bif decide ((0 : Int) ≤ v.1.2.1.1 ∧ v.1.2.1.1 ≤ (↑g.1.1.1.length : Int) ∧ (↑g.1.1.1.length : Int) ≤ (↑g.1.1.1.length : Int) ∧ (↑g.1.1.1.length : Int) ≤ (↑g.1.1.1.length : Int)) then L (((List.drop (Int.toNat v.1.2.1.1) (List.take (↑g.1.1.1.length : Int).toNat g.1.1.1), ()), ((), ()), ()), g.2.1 ++ [v.1.1.1], ()) else none else none else some ((((), ()), ()), g.2.1, ())
theorem e12_eq (k : Nat) (b : List Int) : f12 k (((b, ()), ()), ()) = loopN (e12_0 k b) k (((b, ()), ((), ()), ()), [], ()) := by kernel_rfl
def e14_0 (k : Nat) (b : List Int) (g : ((List Int × PUnit) × (PUnit × PUnit) × (Int × PUnit) × PUnit) × List Int × PUnit) (L : ((List Int × PUnit) × (PUnit × PUnit) × (Int × PUnit) × PUnit) × List Int × PUnit → Option (((List Int × PUnit) × PUnit) × PUnit)) : Option (((List Int × PUnit) × PUnit) × PUnit) := bif decide (g.1.2.2.1.1 < (↑g.1.1.1.length : Int)) then bif decide ((0 : Int) ≤ g.1.2.2.1.1 ∧ g.1.2.2.1.1 ≤ (↑g.1.1.1.length : Int) ∧ (↑g.1.1.1.length : Int) ≤ (↑g.1.1.1.length : Int) ∧ (↑g.1.1.1.length : Int) ≤ (↑g.1.1.1.length : Int)) then (f30 k (((List.drop g.1.2.2.1.1.toNat (List.take (↑g.1.1.1.length : Int).toNat g.1.1.1), ()), ()), ())).bind fun v => bif v.1.1.1 == (0 : Int) then bif ((g.2.1.length + [(65533 : Int)].length) * (4 : Nat)).ble (140737488355328 : Nat) then L (((g.1.1.1, ()), ((), ()), (IntKind.i64.wrap (g.1.2.2.1.1 + (1 : Int)), ()), ()), g.2.1 ++ [(65533 : Int)], ()) else none else bif ((g.2.1.length + [v.1.2.1.1].length) * (4 : Nat)).ble (140737488355328 : Nat) then L (((g.1.1.1, ()), ((), ()), (IntKind.i64.wrap (g.1.2.2.1.1 + v.1.1.1), ()), ()), g.2.1 ++ [v.1.2.1.1], ()) else none else none else some (((g.2.1, ()), ()), ())
theorem e14_eq (k : Nat) (b : List Int) : f14 k (((b, ()), ()), ()) = loopN (e14_0 k b) k (((b, ()), ((), ()), ((0 : Int), ()), ()), [], ()) := by kernel_rfl
def e3_0 (k : Nat) (b : List Int) (g : ((List Int × PUnit) × (PUnit × PUnit) × (Int × PUnit) × (Int × PUnit) × PUnit) × List Int × PUnit) (L : ((List Int × PUnit) × (PUnit × PUnit) × (Int × PUnit) × (Int × PUnit) × PUnit) × List Int × PUnit → Option (((Bool × PUnit) × PUnit) × PUnit)) : Option (((Bool × PUnit) × PUnit) × PUnit) := bif decide (g.1.2.2.2.1.1 < g.1.2.2.1.1) then bif decide ((0 : Int) ≤ g.1.2.2.2.1.1 ∧ g.1.2.2.2.1.1 < (↑g.2.1.length : Int)) then L (((g.1.1.1, ()), ((), ()), (g.1.2.2.1.1, ()), (IntKind.i64.wrap (g.1.2.2.2.1.1 + (1 : Int)), ()), ()), g.2.1.set g.1.2.2.2.1.1.toNat (7 : Int), ()) else none else (f12 k (((g.1.1.1, ()), ()), ())).bind fun v => (f14 k (((g.1.1.1, ()), ()), ())).bind fun v_1 => (f13 k (((v.2.1, ()), (v_1.1.1.1, ()), ()), ())).bind fun v => some (((v.1.1.1, ()), ()), ())
theorem e3_eq (k : Nat) (b : List Int) : f3 k (((b, ()), ()), ()) = (f11 k ((), ())).bind fun v => bif !v.1.1.1 then some (((false, ()), ()), ()) else (f12 k (((b, ()), ()), ())).bind fun v_1 => (f14 k (((b, ()), ()), ())).bind fun v_2 => (f13 k (((v_1.2.1, ()), (v_2.1.1.1, ()), ()), ())).bind fun v => bif !v.1.1.1 then some (((false, ()), ()), ()) else loopN (e3_0 k b) k (((b, ()), ((), ()), ((↑(List.length v_1.2.1) : Int), ()), ((0 : Int), ()), ()), v_1.2.1, ()) := by kernel_rfl

theorem whole_n (b : List Int) : 0 ≤ (whole b).1 ∧ (whole b).1 ≤ (b.length : Int) ∧ (whole b).1 ≤ 4 := by
  unfold whole
  repeat' split
  all_goals simp only []; omega
theorem dec_n {b : List Int} (h : b.length ≠ 0) : 1 ≤ (dec b).2 ∧ (dec b).2 ≤ (b.length : Int) ∧ (dec b).2 ≤ 4 := by
  have := whole_n b
  unfold dec
  rw [if_neg h]
  split
  · simp only []; omega
  · simp only []; omega
def runesF : Nat → List Int → List Int
  | 0, _ => []
  | n + 1, b => if b.length = 0 then [] else (dec b).1 :: runesF n (b.drop (dec b).2.toNat)
/-- the runes as which bytes are read -/
def runes (b : List Int) : List Int := runesF b.length b
theorem runesF_fuel : ∀ (n m : Nat) (b : List Int), b.length ≤ n → b.length ≤ m → runesF n b = runesF m b
  | 0, 0, _, _, _ => rfl
  | 0, m + 1, b, h, _ => by rw [runesF, runesF, if_pos (by omega)]
  | n + 1, 0, b, _, h => by rw [runesF, runesF, if_pos (by omega)]
  | n + 1, m + 1, b, h1, h2 => by
    rw [runesF, runesF]
    by_cases h0 : b.length = 0
    · rw [if_pos h0, if_pos h0]
    have := dec_n h0
    rw [if_neg h0, if_neg h0, runesF_fuel n m (b.drop (dec b).2.toNat) (by rw [List.length_drop]; omega) (by rw [List.length_drop]; omega)]
theorem runes_nil : runes [] = [] := rfl
theorem runes_step {b : List Int} (h : b.length ≠ 0) : runes b = (dec b).1 :: runes (b.drop (dec b).2.toNat) := by
  have := dec_n h
  obtain ⟨n, hn⟩ : ∃ n, b.length = n + 1 := ⟨b.length - 1, by omega⟩
  unfold runes
  conv => lhs; rw [hn]
  rw [runesF, if_neg h, runesF_fuel n (b.drop (dec b).2.toNat).length (b.drop (dec b).2.toNat) (by rw [List.length_drop]; omega) (Nat.le_refl _)]
theorem runes_len : ∀ (n : Nat) (b : List Int), b.length ≤ n → (runes b).length ≤ b.length
  | 0, b, h => by rw [List.length_eq_zero_iff.1 (by omega : b.length = 0), runes_nil]; exact Nat.le_refl _
  | n + 1, b, h => by
    by_cases h0 : b.length = 0
    · rw [List.length_eq_zero_iff.1 h0, runes_nil]; exact Nat.le_refl _
    · have := dec_n h0
      rw [runes_step h0, List.length_cons]
      have := runes_len n (b.drop (dec b).2.toNat) (by rw [List.length_drop]; omega)
      rw [List.length_drop] at this
      omega
theorem slice_in {n l : Int} (h0 : 0 ≤ n) (h1 : n ≤ l) : 0 ≤ n ∧ n ≤ l ∧ l ≤ l ∧ l ≤ l := ⟨h0, h1, Int.le_refl _, Int.le_refl _⟩
theorem u8_drop {b : List Int} (h : ∀ x ∈ b, U8 x) (n : Nat) : ∀ x ∈ b.drop n, U8 x := fun x hx => h x (List.mem_of_mem_drop hx)
theorem bl4 {α : Type} {n : Nat} {a b : α} (h : n * 4 ≤ 140737488355328) : cond ((n * 4).ble 140737488355328) a b = a := by rw [show Nat.ble _ _ = true from Nat.ble_eq ▸ h]; rfl
theorem bl1 {α : Type} {n : Nat} {a b : α} (h : n * 1 ≤ 140737488355328) : cond ((n * 1).ble 140737488355328) a b = a := by rw [show Nat.ble _ _ = true from Nat.ble_eq ▸ h]; rfl
theorem e12_loop (k0 : Nat) (b0 : List Int) (hk0 : 2 ≤ k0) : ∀ (n : Nat) (b out : List Int) (k : Nat), b.length ≤ n → b.length + 1 ≤ k → (∀ x ∈ b, U8 x) → out.length + b.length ≤ 35184372088832 →
    loopN (e12_0 k0 b0) k (((b, ()), ((), ()), ()), out, ()) = some ((((), ()), ()), out ++ runes b, ()) := by
  intro n
  induction n with
  | zero =>
    intro b out k hn hk hb ho
    obtain ⟨k, rfl⟩ : ∃ k2, k = k2 + 1 := ⟨k - 1, by omega⟩
    rw [loopN_succ, e12_0]
    simp only []
    rw [cneg (by omega), List.length_eq_zero_iff.1 (by omega : b.length = 0), runes_nil, List.append_nil]
  | succ n ih =>
    intro b out k hn hk hb ho
    obtain ⟨k, rfl⟩ : ∃ k2, k = k2 + 1 := ⟨k - 1, by omega⟩
    rw [loopN_succ, e12_0]
    simp only []
    by_cases h0 : b.length = 0
    · rw [cneg (by omega), List.length_eq_zero_iff.1 h0, runes_nil, List.append_nil]
    · have hd := dec_n h0
      rw [cpos (by omega), dec_ok k0 b hb hk0, Option.bind_some]
      simp only []
      rw [bl4 (n := out.length + [(dec b).1].length) (by rw [List.length_singleton]; omega), cpos (slice_in (by omega) (by omega)), show ((b.length : Int)).toNat = b.length from Int.toNat_natCast _, List.take_length]
      have hl : (b.drop (dec b).2.toNat).length = b.length - (dec b).2.toNat := List.length_drop
      rw [ih _ _ k (by omega) (by omega) (u8_drop hb _) (by rw [List.length_append, List.length_singleton]; omega), runes_step h0, List.append_assoc, List.singleton_append]
theorem runes_ok (k : Nat) (b : List Int) (hb : ∀ x ∈ b, U8 x) (hl : b.length ≤ 35184372088832) (hk : b.length + 2 ≤ k) : f12 k (((b, ()), ()), ()) = some ((((), ()), ()), runes b, ()) := by
  rw [e12_eq, e12_loop k b (by omega) b.length b [] k (Nat.le_refl _) (by omega) hb (by rw [List.length_nil]; omega), List.nil_append]
theorem e14_loop (k0 : Nat) (b b0 : List Int) (hl : b.length ≤ 35184372088832) (hb : ∀ x ∈ b, U8 x) : ∀ (n i : Nat) (out : List Int) (k : Nat), b.length - i ≤ n → i ≤ b.length → b.length - i + 1 ≤ k → out.length ≤ i →
    loopN (e14_0 k0 b0) k (((b, ()), ((), ()), ((i : Int), ()), ()), out, ()) = some (((out ++ runes (b.drop i), ()), ()), ()) := by
  intro n
  induction n with
  | zero =>
    intro i out k hn hi hk ho
    obtain ⟨k, rfl⟩ : ∃ k2, k = k2 + 1 := ⟨k - 1, by omega⟩
    rw [loopN_succ, e14_0]
    simp only []
    rw [cneg (by omega), List.drop_of_length_le (by omega), runes_nil, List.append_nil]
  | succ n ih =>
    intro i out k hn hi hk ho
    obtain ⟨k, rfl⟩ : ∃ k2, k = k2 + 1 := ⟨k - 1, by omega⟩
    rw [loopN_succ, e14_0]
    simp only []
    by_cases h0 : b.length ≤ i
    · rw [cneg (by omega), List.drop_of_length_le h0, runes_nil, List.append_nil]
    · have hdl : (b.drop i).length = b.length - i := List.length_drop
      have h1 : (b.drop i).length ≠ 0 := by omega
      have hd := dec_n h1
      have hw := whole_n (b.drop i)
      rw [cpos (by omega), cpos (by omega), show ((b.length : Int)).toNat = b.length from Int.toNat_natCast _, List.take_length, show ((i : Int)).toNat = i from Int.toNat_natCast _, whole_ok k0 _ (u8_drop hb i), Option.bind_some]
      simp only []
      rw [runes_step h1]
      rw [List.drop_drop]
      unfold dec at hd ⊢
      rw [if_neg h1] at hd ⊢
      by_cases hz : (whole (b.drop i)).1 = 0
      · rw [if_pos hz] at hd ⊢
        rw [bpos hz, cond_true, bl4 (n := out.length + [(65533 : Int)].length) (by rw [List.length_singleton]; omega), wrapId (by omega) (by omega), show ((i : Int) + 1) = ((i + 1 : Nat) : Int) by omega]
        rw [ih (i + 1) _ k (by omega) (by omega) (by omega) (by rw [List.length_append, List.length_singleton]; omega), List.append_assoc, List.singleton_append]; rfl
      · rw [if_neg hz] at hd ⊢
        rw [bneg hz, cond_false, bl4 (n := out.length + [(whole (b.drop i)).2].length) (by rw [List.length_singleton]; omega)]
        simp only [] at hd ⊢
        rw [wrapId (by omega) (by omega), show ((i : Int) + (whole (b.drop i)).1) = ((i + (whole (b.drop i)).1.toNat : Nat) : Int) by omega]
        rw [ih (i + (whole (b.drop i)).1.toNat) _ k (by omega) (by omega) (by omega) (by rw [List.length_append, List.length_singleton]; omega), List.append_assoc, List.singleton_append]
theorem rrunes_ok (k : Nat) (b : List Int) (hb : ∀ x ∈ b, U8 x) (hl : b.length ≤ 35184372088832) (hk : b.length + 1 ≤ k) : f14 k (((b, ()), ()), ()) = some (((runes b, ()), ()), ()) := by
  have h := e14_loop k b b hl hb b.length 0 [] k (by omega) (by omega) (by omega) (Nat.le_refl _)
  rw [List.drop_zero, List.nil_append] at h
  rw [e14_eq]; exact h
theorem e3_loop (k0 : Nat) (b b0 : List Int) (hl : b.length ≤ 35184372088832) (hb : ∀ x ∈ b, U8 x) (hk0 : b.length + 2 ≤ k0) (len : Nat) (hln : len ≤ 35184372088832) : ∀ (n i : Nat) (c : List Int) (k : Nat), len - i ≤ n → len - i + 1 ≤ k → c.length = len →
    loopN (e3_0 k0 b0) k (((b, ()), ((), ()), ((len : Int), ()), ((i : Int), ()), ()), c, ()) = some (((true, ()), ()), ()) := by
  intro n
  have fin : ∀ (i : Nat) (c : List Int) (k : Nat), len ≤ i → 1 ≤ k → loopN (e3_0 k0 b0) k (((b, ()), ((), ()), ((len : Int), ()), ((i : Int), ()), ()), c, ()) = some (((true, ()), ()), ()) := by
    intro i c k hi hk
    obtain ⟨k, rfl⟩ : ∃ k2, k = k2 + 1 := ⟨k - 1, by omega⟩
    have := runes_len _ b (Nat.le_refl _)
    rw [loopN_succ, e3_0]
    simp only []
    rw [cneg (by omega), runes_ok k0 b hb hl hk0, Option.bind_some, rrunes_ok k0 b hb hl (by omega), Option.bind_some]
    simp only []
    rw [same_ok k0 _ _ (by omega) (by omega), Option.bind_some]
    simp only [decide_true]
  induction n with
  | zero => intro i c k hn hk hc; exact fin i c k (by omega) (by omega)
  | succ n ih =>
    intro i c k hn hk hc
    by_cases h0 : len ≤ i
    · exact fin i c k h0 (by omega)
    obtain ⟨k, rfl⟩ : ∃ k2, k = k2 + 1 := ⟨k - 1, by omega⟩
    rw [loopN_succ, e3_0]
    simp only []
    rw [cpos (by omega), cpos (by omega), wrapId (by omega) (by omega), show ((i : Int) + 1) = ((i + 1 : Nat) : Int) by omega]
    exact ih (i + 1) _ k (by omega) (by omega) (by rw [List.length_set]; exact hc)
theorem u8_of {n : Int} (h : (Lit.int .u8 n).wf = true) : U8 n := by
  simp only [Lit.wf, Bool.and_eq_true, decide_eq_true_eq] at h
  have h1 : 0 ≤ n := h.1
  have h2 : n ≤ 255 := h.2
  exact ⟨h1, by omega⟩
theorem glyphReads (b : List Int) (hb0 : ∀ x ∈ b, (Lit.int .u8 x).wf = true) (hl : b.length ≤ 1048576) : f3 (b.length + 20 + 20) (((b, ()), ()), ()) = some (((true, ()), ()), ()) := by
  have hb : ∀ x ∈ b, U8 x := fun x hx => u8_of (hb0 x hx)
  have hr := runes_len _ b (Nat.le_refl _)
  rw [e3_eq, alive, Option.bind_some]
  generalize hK : b.length + 20 + 20 = K
  simp only [Bool.not_true, cond_false]
  rw [runes_ok K b hb (by omega) (by omega), Option.bind_some, rrunes_ok K b hb (by omega) (by omega), Option.bind_some]
  simp only []
  rw [same_ok K _ _ (by omega) (by omega), Option.bind_some]
  simp only [decide_true, Bool.not_true, cond_false]
  exact e3_loop K b b (by omega) hb (by omega) (runes b).length (by omega) (runes b).length 0 (runes b) K (by omega) (by omega) rfl
end
end Go.Proofs.YtjdbamenbgfcjaaDoor.Gl
