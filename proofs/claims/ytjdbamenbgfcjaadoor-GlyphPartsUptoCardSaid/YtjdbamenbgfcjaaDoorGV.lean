import Derived.Test.YtjdbamenbgfcjaaDoorGT
namespace Go.Proofs.YtjdbamenbgfcjaaDoor.Gl
open Go Go.RowKit Go.Proofs Go.Proofs.YtjdbamenbgfcjaaDoor.X
set_option linter.unusedVariables false
set_option linter.unusedSimpArgs false
noncomputable section
/-! However bytes are parted, they are read as at once -/
def and7 (n : Int) : Int := IntKind.i64.wrap (↑(BitVec.ofInt IntKind.i64.bits n &&& BitVec.ofInt IntKind.i64.bits (7 : Int)).toNat : Int)
def e5_0 (k : Nat) (b : List Int) (c : List Int) (g : ((List Int × Unit) × (Unit × Unit) × (Unit × Unit) × (Int × Unit) × (List Int × Unit) × (Int × Unit) × (Int × Unit) × Unit) × (List Int × Unit) × List Int × Unit) (L : ((List Int × Unit) × (Unit × Unit) × (Unit × Unit) × (Int × Unit) × (List Int × Unit) × (Int × Unit) × (Int × Unit) × Unit) × (List Int × Unit) × List Int × Unit → Option (((Bool × Unit) × Unit) × Unit)) : Option (((Bool × Unit) × Unit) × Unit) := bif decide (g.1.2.2.2.2.2.2.1.1 < g.1.2.2.2.2.2.1.1) then bif decide ((0 : Int) ≤ g.1.2.2.2.2.2.2.1.1 ∧ g.1.2.2.2.2.2.2.1.1 < (↑g.1.2.2.2.2.1.1.length : Int)) then bif decide (and7 (gt is g.1.2.2.2.2.1.1 g.1.2.2.2.2.2.2.1.1.toNat) > IntKind.i64.wrap ((↑g.1.1.1.length : Int) - g.1.2.2.2.1.1)) then bif decide ((0 : Int) ≤ g.1.2.2.2.1.1 ∧ g.1.2.2.2.1.1 ≤ IntKind.i64.wrap (g.1.2.2.2.1.1 + IntKind.i64.wrap ((↑g.1.1.1.length : Int) - g.1.2.2.2.1.1)) ∧ IntKind.i64.wrap (g.1.2.2.2.1.1 + IntKind.i64.wrap ((↑g.1.1.1.length : Int) - g.1.2.2.2.1.1)) ≤ IntKind.i64.wrap (g.1.2.2.2.1.1 + IntKind.i64.wrap ((↑g.1.1.1.length : Int) - g.1.2.2.2.1.1)) ∧ IntKind.i64.wrap (g.1.2.2.2.1.1 + IntKind.i64.wrap ((↑g.1.1.1.length : Int) - g.1.2.2.2.1.1)) ≤ (↑g.1.1.1.length : Int)) then (f16 k ((((), ()), (List.drop g.1.2.2.2.1.1.toNat (List.take (IntKind.i64.wrap (g.1.2.2.2.1.1 + IntKind.i64.wrap ((↑g.1.1.1.length : Int) - g.1.2.2.2.1.1))).toNat g.1.1.1), ()), ()), (g.2.1.1, ()), ())).bind fun v => bif ((g.2.2.1.length + List.length v.1.1.1) * (4 : Nat)).ble (140737488355328 : Nat) then L (((g.1.1.1, ()), ((), ()), ((), ()), (IntKind.i64.wrap (g.1.2.2.2.1.1 + IntKind.i64.wrap ((↑g.1.1.1.length : Int) - g.1.2.2.2.1.1)), ()), (g.1.2.2.2.2.1.1, ()), (g.1.2.2.2.2.2.1.1, ()), (IntKind.i64.wrap (g.1.2.2.2.2.2.2.1.1 + (1 : Int)), ()), ()), (v.2.1.1, ()), g.2.2.1 ++ v.1.1.1, ()) else none else none else bif decide ((0 : Int) ≤ g.1.2.2.2.1.1 ∧ g.1.2.2.2.1.1 ≤ IntKind.i64.wrap (g.1.2.2.2.1.1 + and7 (gt is g.1.2.2.2.2.1.1 g.1.2.2.2.2.2.2.1.1.toNat)) ∧ IntKind.i64.wrap (g.1.2.2.2.1.1 + and7 (gt is g.1.2.2.2.2.1.1 g.1.2.2.2.2.2.2.1.1.toNat)) ≤ IntKind.i64.wrap (g.1.2.2.2.1.1 + and7 (gt is g.1.2.2.2.2.1.1 g.1.2.2.2.2.2.2.1.1.toNat)) ∧ IntKind.i64.wrap (g.1.2.2.2.1.1 + and7 (gt is g.1.2.2.2.2.1.1 g.1.2.2.2.2.2.2.1.1.toNat)) ≤ (↑g.1.1.1.length : Int)) then (f16 k ((((), ()), (List.drop g.1.2.2.2.1.1.toNat (List.take (IntKind.i64.wrap (g.1.2.2.2.1.1 + and7 (gt is g.1.2.2.2.2.1.1 g.1.2.2.2.2.2.2.1.1.toNat))).toNat g.1.1.1), ()), ()), (g.2.1.1, ()), ())).bind fun v => bif ((g.2.2.1.length + List.length v.1.1.1) * (4 : Nat)).ble (140737488355328 : Nat) then L (((g.1.1.1, ()), ((), ()), ((), ()), (IntKind.i64.wrap (g.1.2.2.2.1.1 + and7 (gt is g.1.2.2.2.2.1.1 g.1.2.2.2.2.2.2.1.1.toNat)), ()), (g.1.2.2.2.2.1.1, ()), (g.1.2.2.2.2.2.1.1, ()), (IntKind.i64.wrap (g.1.2.2.2.2.2.2.1.1 + (1 : Int)), ()), ()), (v.2.1.1, ()), g.2.2.1 ++ v.1.1.1, ()) else none else none else none else bif decide ((0 : Int) ≤ g.1.2.2.2.1.1 ∧ g.1.2.2.2.1.1 ≤ (↑g.1.1.1.length : Int) ∧ (↑g.1.1.1.length : Int) ≤ (↑g.1.1.1.length : Int) ∧ (↑g.1.1.1.length : Int) ≤ (↑g.1.1.1.length : Int)) then (f16 k ((((), ()), (List.drop g.1.2.2.2.1.1.toNat (List.take (↑g.1.1.1.length : Int).toNat g.1.1.1), ()), ()), (g.2.1.1, ()), ())).bind fun v => bif ((g.2.2.1.length + List.length v.1.1.1) * (4 : Nat)).ble (140737488355328 : Nat) then (f17 k ((((), ()), ()), (v.2.1.1, ()), ())).bind fun v_1 => bif decide (v_1.1.1.1 > (3 : Int)) then some (((false, ()), ()), ()) else (f18 k ((((), ()), ()), (v.2.1.1, ()), ())).bind fun v_2 => bif (((g.2.2.1 ++ v.1.1.1).length + List.length v_2.1.1.1) * (4 : Nat)).ble (140737488355328 : Nat) then (f12 k (((g.1.1.1, ()), ()), ())).bind fun v_3 => (f13 k (((g.2.2.1 ++ v.1.1.1 ++ v_2.1.1.1, ()), (v_3.2.1, ()), ()), ())).bind fun v => some (((v.1.1.1, ()), ()), ()) else none else none else none
theorem e5_eq (k : Nat) (b : List Int) (c : List Int) : f5 k (((b, ()), (c, ()), ()), ()) = (f11 k ((), ())).bind fun v => bif !v.1.1.1 then some (((false, ()), ()), ()) else loopN (e5_0 k b c) k (((b, ()), ((), ()), ((), ()), ((0 : Int), ()), (c, ()), ((↑c.length : Int), ()), ((0 : Int), ()), ()), ([], ()), [], ()) := by kernel_rfl
theorem and7_is (n : Int) : 0 ≤ and7 n ∧ and7 n ≤ 7 := by
  have h : (BitVec.ofInt IntKind.i64.bits n &&& BitVec.ofInt IntKind.i64.bits (7 : Int)).toNat ≤ 7 := by
    rw [BitVec.toNat_and, show (BitVec.ofInt IntKind.i64.bits (7 : Int)).toNat = 7 by decide]
    exact Nat.and_le_right
  unfold and7
  rw [wrapId (by omega) (by omega)]
  omega
theorem gt3 {l : List Int} (h : l.length ≤ 3) : ¬ ((l.length : Int) > 3) := by omega
theorem slice_in3 {n h l : Int} (h0 : 0 ≤ n) (h1 : n ≤ h) (h2 : h ≤ l) : 0 ≤ n ∧ n ≤ h ∧ h ≤ h ∧ h ≤ l := ⟨h0, h1, Int.le_refl _, h2⟩
theorem feed_part (b : List Int) {a m : Nat} (h : a ≤ m) : (feed (b.take a)).1 ++ (feed ((feed (b.take a)).2 ++ (b.take m).drop a)).1 = (feed (b.take m)).1 ∧ (feed ((feed (b.take a)).2 ++ (b.take m).drop a)).2 = (feed (b.take m)).2 := by
  have e : b.take m = b.take a ++ (b.take m).drop a := by
    conv => lhs; rw [← List.take_append_drop a (b.take m)]
    rw [List.take_take, Nat.min_eq_left h]
  have := feed_app (b.take a) ((b.take m).drop a)
  rw [← e] at this
  rw [this]
  exact ⟨rfl, rfl⟩
theorem e5_loop (K : Nat) (b c b0 c0 : List Int) (hb : ∀ x ∈ b, U8 x) (hbl : b.length ≤ 1048576) (hcl : c.length ≤ 1048576) (hK : b.length + 200 ≤ K) : ∀ (n i a : Nat) (k : Nat), c.length - i ≤ n → c.length - i + 1 ≤ k → a ≤ b.length →
    loopN (e5_0 (K + 20) b0 c0) k (((b, ()), ((), ()), ((), ()), ((a : Int), ()), (c, ()), ((c.length : Int), ()), ((i : Int), ()), ()), ((feed (b.take a)).2, ()), (feed (b.take a)).1, ()) = some (((true, ()), ()), ()) := by
  intro n
  have lens : ∀ a, (feed (b.take a)).1.length ≤ 1048576 ∧ (feed (b.take a)).2.length ≤ 3 := fun a => by
    have h := feed_len (b.take a)
    have : (b.take a).length ≤ b.length := by rw [List.length_take]; omega
    omega
  have ups : ∀ a, ∀ x ∈ (feed (b.take a)).2, U8 x := fun a => feed_u8 (fun x hx => hb x (List.mem_of_mem_take hx))
  have fin : ∀ (i a k : Nat), c.length ≤ i → 1 ≤ k → a ≤ b.length → loopN (e5_0 (K + 20) b0 c0) k (((b, ()), ((), ()), ((), ()), ((a : Int), ()), (c, ()), ((c.length : Int), ()), ((i : Int), ()), ()), ((feed (b.take a)).2, ()), (feed (b.take a)).1, ()) = some (((true, ()), ()), ()) := by
    intro i a k hi hk ha
    obtain ⟨k, rfl⟩ : ∃ k2, k = k2 + 1 := ⟨k - 1, by omega⟩
    have l1 := lens a
    have l2 := feed_len b
    have hp := feed_part b (a := a) (m := b.length) ha
    rw [List.take_length] at hp
    have hdl : (b.drop a).length = b.length - a := List.length_drop
    rw [loopN_succ, e5_0]
    simp only []
    rw [cneg (by omega), cpos (slice_in (by omega) (by omega)), show ((a : Int)).toNat = a from Int.toNat_natCast _, show ((b.length : Int)).toNat = b.length from Int.toNat_natCast _, List.take_length]
    rw [feed_ok (K + 20) _ _ (ups a) (u8_drop hb a) (by omega) (by omega), Option.bind_some]
    simp only []
    have lq : (feed ((feed (b.take a)).2 ++ b.drop a)).1.length ≤ (feed b).1.length := by rw [← hp.1, List.length_append]; omega
    rw [bl4 (n := (feed (b.take a)).1.length + (feed ((feed (b.take a)).2 ++ b.drop a)).1.length) (by omega), e17_eq, Option.bind_some]
    simp only []
    rw [hp.1, hp.2, cneg (gt3 l2.2), rest_ok K _ l2.2, Option.bind_some]
    simp only []
    rw [bl4 (n := (feed b).1.length + (List.replicate (feed b).2.length (65533 : Int)).length) (by rw [List.length_replicate]; omega), ← runes_feed, runes_ok (K + 20) b hb (by omega) (by omega), Option.bind_some]
    simp only []
    have hr := runes_len _ b (Nat.le_refl _)
    rw [same_ok (K + 20) _ _ (by omega) (by omega), Option.bind_some]
    simp only [decide_true]
  induction n with
  | zero => intro i a k hn hk ha; exact fin i a k (by omega) (by omega) ha
  | succ n ih =>
    intro i a k hn hk ha
    by_cases h0 : c.length ≤ i
    · exact fin i a k h0 (by omega) ha
    obtain ⟨k, rfl⟩ : ∃ k2, k = k2 + 1 := ⟨k - 1, by omega⟩
    have l1 := lens a
    have h7 := and7_is (gt is c i)
    have step : ∀ m : Nat, a ≤ m → m ≤ b.length → ((f16 (K + 20) ((((), ()), (List.drop a (List.take m b), ()), ()), ((feed (b.take a)).2, ()), ())).bind fun v => bif (((feed (b.take a)).1.length + List.length v.1.1.1) * (4 : Nat)).ble (140737488355328 : Nat) then
        loopN (e5_0 (K + 20) b0 c0) k (((b, ()), ((), ()), ((), ()), ((m : Int), ()), (c, ()), ((c.length : Int), ()), (IntKind.i64.wrap ((i : Int) + (1 : Int)), ()), ()), (v.2.1.1, ()), (feed (b.take a)).1 ++ v.1.1.1, ()) else none) = some (((true, ()), ()), ()) := by
      intro m h1 h2
      have hp := feed_part b h1
      have l2 := lens m
      have hdl : (List.drop a (List.take m b)).length ≤ b.length := by rw [List.length_drop, List.length_take]; omega
      rw [feed_ok (K + 20) _ _ (ups a) (fun x hx => hb x (List.mem_of_mem_take (List.mem_of_mem_drop hx))) (by omega) (by omega), Option.bind_some]
      simp only []
      have lq : (feed ((feed (b.take a)).2 ++ (b.take m).drop a)).1.length ≤ (feed (b.take m)).1.length := by rw [← hp.1, List.length_append]; omega
      rw [bl4 (n := (feed (b.take a)).1.length + (feed ((feed (b.take a)).2 ++ (b.take m).drop a)).1.length) (by omega), hp.1, hp.2, wrapId (by omega) (by omega), show ((i : Int) + 1) = ((i + 1 : Nat) : Int) by omega]
      exact ih (i + 1) m k (by omega) (by omega) h2
    rw [loopN_succ, e5_0]
    simp only []
    have ti : ((i : Int)).toNat = i := Int.toNat_natCast i
    rw [cpos (by omega), cpos (by omega), ti]
    have hw : IntKind.i64.wrap ((b.length : Int) - (a : Int)) = (b.length : Int) - (a : Int) := wrapId (by omega) (by omega)
    rw [hw]
    by_cases hg : and7 (gt is c i) > (b.length : Int) - (a : Int)
    · have hw2 : IntKind.i64.wrap ((a : Int) + ((b.length : Int) - (a : Int))) = (b.length : Int) := by rw [wrapId (by omega) (by omega)]; omega
      rw [cpos hg, hw2, cpos (slice_in3 (by omega) (by omega) (by omega)), show ((a : Int)).toNat = a from Int.toNat_natCast _, show ((b.length : Int)).toNat = b.length from Int.toNat_natCast _]
      exact step b.length ha (Nat.le_refl _)
    · obtain ⟨q, hq⟩ := Int.eq_ofNat_of_zero_le h7.1
      rw [cneg hg]
      rw [hq] at hg h7 ⊢
      have hw2 : IntKind.i64.wrap ((a : Int) + (q : Int)) = ((a + q : Nat) : Int) := by rw [wrapId (by omega) (by omega)]; omega
      rw [hw2, cpos (slice_in3 (by omega) (by omega) (by omega)), show ((a : Int)).toNat = a from Int.toNat_natCast _, show (((a + q : Nat) : Int)).toNat = a + q from Int.toNat_natCast _]
      exact step (a + q) (by omega) (by omega)
theorem glyphParts (b c : List Int) (hb0 : ∀ x ∈ b, (Lit.int .u8 x).wf = true) (hbl : b.length ≤ 1048576) (_hc0 : ∀ x ∈ c, (Lit.int .i64 x).wf = true) (hcl : c.length ≤ 1048576) :
    f5 (b.length + c.length + 200 + 20) (((b, ()), (c, ()), ()), ()) = some (((true, ()), ()), ()) := by
  have hb : ∀ x ∈ b, U8 x := fun x hx => u8_of (hb0 x hx)
  rw [e5_eq, alive, Option.bind_some]
  simp only [Bool.not_true, cond_false]
  exact e5_loop (b.length + c.length + 200) b c b c hb hbl hcl (by omega) c.length 0 0 _ (by omega) (by omega) (by omega)
end
end Go.Proofs.YtjdbamenbgfcjaaDoor.Gl
