import Derived.Test.YtjdbamenbgfcjaaDoorGL
namespace Go.Proofs.YtjdbamenbgfcjaaDoor.Gl
open Go Go.RowKit Go.Proofs Go.Proofs.YtjdbamenbgfcjaaDoor.X
set_option linter.unusedVariables false
set_option linter.unusedSimpArgs false
noncomputable section
/-! What the document's reading of one rune is -/
def pick {α : Type} (x : Option (α ⊕ V2)) (K : α → Option V2) : Option V2 := Option.bind x fun v => Sum.elim K (fun q => some q) v
theorem pick_inl {α : Type} (a : α) (K : α → Option V2) : pick (some (Sum.inl a)) K = K a := rfl
abbrev S3 : Type := ((List Int × Unit) × (Int × Unit) × (Bool × Unit) × Unit) × Unit
abbrev S4 : Type := ((List Int × Unit) × (Int × Unit) × (Int × Unit) × (Int × Unit) × Unit) × Unit
abbrev s3 (b : List Int) (c : Int) (o : Bool) : S3 := (((b, ()), (c, ()), (o, ()), ()), ())
abbrev s4 (b : List Int) (c lo hi : Int) : S4 := (((b, ()), (c, ()), (lo, ()), (hi, ()), ()), ())
def st6 (k : Nat) (q : S4) : Option (S3 ⊕ V2) := bif decide (q.1.2.1.1 ≥ (240 : Int)) then bif decide (q.1.2.1.1 ≤ (244 : Int)) then (f40 k (((q.1.1.1, ()), ((1 : Int), ()), (q.1.2.2.1.1, ()), (q.1.2.2.2.1.1, ()), ()), ())).bind fun v => bif v.1.1.1 then (f40 k (((q.1.1.1, ()), ((2 : Int), ()), ((128 : Int), ()), ((191 : Int), ()), ()), ())).bind fun v_1 => bif v_1.1.1.1 then (f40 k (((q.1.1.1, ()), ((3 : Int), ()), ((128 : Int), ()), ((191 : Int), ()), ()), ())).bind fun v => some (Sum.inl (((q.1.1.1, ()), (q.1.2.1.1, ()), (v.1.1.1, ()), ()), ())) else some (Sum.inl (((q.1.1.1, ()), (q.1.2.1.1, ()), (false, ()), ()), ())) else some (Sum.inl (((q.1.1.1, ()), (q.1.2.1.1, ()), (false, ()), ()), ())) else some (Sum.inl (((q.1.1.1, ()), (q.1.2.1.1, ()), (false, ()), ()), ())) else some (Sum.inl (((q.1.1.1, ()), (q.1.2.1.1, ()), (false, ()), ()), ()))
def co6 (k : Nat) (q : S3) : Option V2 := bif q.1.2.2.1.1 then bif decide ((0 : Int) ≤ (1 : Int) ∧ (1 : Int) < (↑(List.length q.1.1.1) : Int)) then bif decide ((0 : Int) ≤ (2 : Int) ∧ (2 : Int) < (↑(List.length q.1.1.1) : Int)) then bif decide ((0 : Int) ≤ (3 : Int) ∧ (3 : Int) < (↑(List.length q.1.1.1) : Int)) then some ((((4 : Int), ()), (IntKind.i32.wrap (↑(BitVec.ofInt IntKind.i32.bits (IntKind.i32.wrap (↑(BitVec.ofInt IntKind.i32.bits (IntKind.i32.wrap (↑(BitVec.ofInt IntKind.i32.bits (IntKind.i32.wrap (IntKind.i32.wrap (IntKind.u8.wrap (↑(BitVec.ofInt IntKind.u8.bits q.1.2.1.1 &&& BitVec.ofInt IntKind.u8.bits (7 : Int)).toNat : Int)) * (2 : Int) ^ min (Int.toNat (18 : Int)) IntKind.i32.bits)) ||| BitVec.ofInt IntKind.i32.bits (IntKind.i32.wrap (IntKind.i32.wrap (IntKind.u8.wrap (↑(BitVec.ofInt IntKind.u8.bits (List.getD (q.1.1.1 : List Int) 1 (0 : Int)) &&& BitVec.ofInt IntKind.u8.bits (63 : Int)).toNat : Int)) * (2 : Int) ^ min (Int.toNat (12 : Int)) IntKind.i32.bits))).toNat : Int)) ||| BitVec.ofInt IntKind.i32.bits (IntKind.i32.wrap (IntKind.i32.wrap (IntKind.u8.wrap (↑(BitVec.ofInt IntKind.u8.bits (List.getD (q.1.1.1 : List Int) 2 (0 : Int)) &&& BitVec.ofInt IntKind.u8.bits (63 : Int)).toNat : Int)) * (2 : Int) ^ min (Int.toNat (6 : Int)) IntKind.i32.bits))).toNat : Int)) ||| BitVec.ofInt IntKind.i32.bits (IntKind.i32.wrap (IntKind.u8.wrap (↑(BitVec.ofInt IntKind.u8.bits (List.getD (q.1.1.1 : List Int) 3 (0 : Int)) &&& BitVec.ofInt IntKind.u8.bits (63 : Int)).toNat : Int)))).toNat : Int), ()), ()), ()) else none else none else none else some ((((0 : Int), ()), ((0 : Int), ()), ()), ())
def st5 (k : Nat) (q : S4) : Option (S4 ⊕ V2) := bif q.1.2.1.1 == (244 : Int) then some (Sum.inl (((q.1.1.1, ()), (q.1.2.1.1, ()), (q.1.2.2.1.1, ()), ((143 : Int), ()), ()), ())) else some (Sum.inl (((q.1.1.1, ()), (q.1.2.1.1, ()), (q.1.2.2.1.1, ()), (q.1.2.2.2.1.1, ()), ()), ()))
def co5 (k : Nat) (q : S4) : Option V2 := pick (st6 k q) (co6 k)
def st4 (k : Nat) (q : S3) : Option (S4 ⊕ V2) := bif q.1.2.1.1 == (240 : Int) then some (Sum.inl (((q.1.1.1, ()), (q.1.2.1.1, ()), ((144 : Int), ()), ((191 : Int), ()), ()), ())) else some (Sum.inl (((q.1.1.1, ()), (q.1.2.1.1, ()), ((128 : Int), ()), ((191 : Int), ()), ()), ()))
def co4 (k : Nat) (q : S4) : Option V2 := pick (st5 k q) (co5 k)
def st3 (k : Nat) (q : S4) : Option (S3 ⊕ V2) := bif decide (q.1.2.1.1 ≥ (224 : Int)) then bif decide (q.1.2.1.1 ≤ (239 : Int)) then (f40 k (((q.1.1.1, ()), ((1 : Int), ()), (q.1.2.2.1.1, ()), (q.1.2.2.2.1.1, ()), ()), ())).bind fun v => bif v.1.1.1 then (f40 k (((q.1.1.1, ()), ((2 : Int), ()), ((128 : Int), ()), ((191 : Int), ()), ()), ())).bind fun v => some (Sum.inl (((q.1.1.1, ()), (q.1.2.1.1, ()), (v.1.1.1, ()), ()), ())) else some (Sum.inl (((q.1.1.1, ()), (q.1.2.1.1, ()), (false, ()), ()), ())) else some (Sum.inl (((q.1.1.1, ()), (q.1.2.1.1, ()), (false, ()), ()), ())) else some (Sum.inl (((q.1.1.1, ()), (q.1.2.1.1, ()), (false, ()), ()), ()))
def co3 (k : Nat) (q : S3) : Option V2 := bif q.1.2.2.1.1 then bif decide ((0 : Int) ≤ (1 : Int) ∧ (1 : Int) < (↑(List.length q.1.1.1) : Int)) then bif decide ((0 : Int) ≤ (2 : Int) ∧ (2 : Int) < (↑(List.length q.1.1.1) : Int)) then some ((((3 : Int), ()), (IntKind.i32.wrap (↑(BitVec.ofInt IntKind.i32.bits (IntKind.i32.wrap (↑(BitVec.ofInt IntKind.i32.bits (IntKind.i32.wrap (IntKind.i32.wrap (IntKind.u8.wrap (↑(BitVec.ofInt IntKind.u8.bits q.1.2.1.1 &&& BitVec.ofInt IntKind.u8.bits (15 : Int)).toNat : Int)) * (2 : Int) ^ min (Int.toNat (12 : Int)) IntKind.i32.bits)) ||| BitVec.ofInt IntKind.i32.bits (IntKind.i32.wrap (IntKind.i32.wrap (IntKind.u8.wrap (↑(BitVec.ofInt IntKind.u8.bits (List.getD (q.1.1.1 : List Int) 1 (0 : Int)) &&& BitVec.ofInt IntKind.u8.bits (63 : Int)).toNat : Int)) * (2 : Int) ^ min (Int.toNat (6 : Int)) IntKind.i32.bits))).toNat : Int)) ||| BitVec.ofInt IntKind.i32.bits (IntKind.i32.wrap (IntKind.u8.wrap (↑(BitVec.ofInt IntKind.u8.bits (List.getD (q.1.1.1 : List Int) 2 (0 : Int)) &&& BitVec.ofInt IntKind.u8.bits (63 : Int)).toNat : Int)))).toNat : Int), ()), ()), ()) else none else none else pick (st4 k q) (co4 k)
def st2 (k : Nat) (q : S4) : Option (S4 ⊕ V2) := bif q.1.2.1.1 == (237 : Int) then some (Sum.inl (((q.1.1.1, ()), (q.1.2.1.1, ()), (q.1.2.2.1.1, ()), ((159 : Int), ()), ()), ())) else some (Sum.inl (((q.1.1.1, ()), (q.1.2.1.1, ()), (q.1.2.2.1.1, ()), (q.1.2.2.2.1.1, ()), ()), ()))
def co2 (k : Nat) (q : S4) : Option V2 := pick (st3 k q) (co3 k)
def st1 (k : Nat) (q : S3) : Option (S4 ⊕ V2) := bif q.1.2.1.1 == (224 : Int) then some (Sum.inl (((q.1.1.1, ()), (q.1.2.1.1, ()), ((160 : Int), ()), ((191 : Int), ()), ()), ())) else some (Sum.inl (((q.1.1.1, ()), (q.1.2.1.1, ()), ((128 : Int), ()), ((191 : Int), ()), ()), ()))
def co1 (k : Nat) (q : S4) : Option V2 := pick (st2 k q) (co2 k)
def st0 (k : Nat) (b : List Int) : Option (S3 ⊕ V2) := bif decide (List.getD (b : List Int) 0 (0 : Int) ≥ (194 : Int)) then bif decide (List.getD (b : List Int) 0 (0 : Int) ≤ (223 : Int)) then (f40 k (((b, ()), ((1 : Int), ()), ((128 : Int), ()), ((191 : Int), ()), ()), ())).bind fun v => some (Sum.inl (((b, ()), (List.getD (b : List Int) 0 (0 : Int), ()), (v.1.1.1, ()), ()), ())) else some (Sum.inl (((b, ()), (List.getD (b : List Int) 0 (0 : Int), ()), (false, ()), ()), ())) else some (Sum.inl (((b, ()), (List.getD (b : List Int) 0 (0 : Int), ()), (false, ()), ()), ()))
def co0 (k : Nat) (q : S3) : Option V2 := bif q.1.2.2.1.1 then bif decide ((0 : Int) ≤ (1 : Int) ∧ (1 : Int) < (↑(List.length q.1.1.1) : Int)) then some ((((2 : Int), ()), (IntKind.i32.wrap (↑(BitVec.ofInt IntKind.i32.bits (IntKind.i32.wrap (IntKind.i32.wrap (IntKind.u8.wrap (↑(BitVec.ofInt IntKind.u8.bits q.1.2.1.1 &&& BitVec.ofInt IntKind.u8.bits (31 : Int)).toNat : Int)) * (2 : Int) ^ min (Int.toNat (6 : Int)) IntKind.i32.bits)) ||| BitVec.ofInt IntKind.i32.bits (IntKind.i32.wrap (IntKind.u8.wrap (↑(BitVec.ofInt IntKind.u8.bits (List.getD (q.1.1.1 : List Int) 1 (0 : Int)) &&& BitVec.ofInt IntKind.u8.bits (63 : Int)).toNat : Int)))).toNat : Int), ()), ()), ()) else none else pick (st1 k q) (co1 k)
theorem e30_st (k : Nat) (b : List Int) : f30 k (((b, ()), ()), ()) = bif (↑b.length : Int) == (0 : Int) then some ((((0 : Int), ()), ((0 : Int), ()), ()), ()) else bif decide ((0 : Int) ≤ (0 : Int) ∧ (0 : Int) < (↑b.length : Int)) then bif decide (List.getD (b : List Int) 0 (0 : Int) < (128 : Int)) then some ((((1 : Int), ()), (IntKind.i32.wrap (List.getD (b : List Int) 0 (0 : Int)), ()), ()), ()) else pick (st0 k b) (co0 k) else none := by kernel_rfl
theorem bpos {a c : Int} (h : a = c) : (a == c) = true := by simp [h]
theorem bneg {a c : Int} (h : ¬ a = c) : (a == c) = false := by simp [h]
theorem st0_is (k : Nat) (b : List Int) : st0 k b = some (Sum.inl (s3 b (b.getD 0 0) (decide (194 ≤ b.getD 0 0 ∧ b.getD 0 0 ≤ 223) && tailP b 1 128 191))) := by
  unfold st0
  by_cases h : b.getD 0 0 ≥ 194
  · by_cases h2 : b.getD 0 0 ≤ 223
    · rw [cpos h, cpos h2, tail_ok k b _ _ _ (by omega), Option.bind_some, decide_eq_true (by omega), Bool.true_and]
    · rw [cpos h, cneg h2, decide_eq_false (by omega), Bool.false_and]
  · rw [cneg h, decide_eq_false (by omega), Bool.false_and]
theorem st1_is (k : Nat) (b : List Int) (c : Int) (o : Bool) : st1 k (s3 b c o) = some (Sum.inl (s4 b c (if c = 224 then 160 else 128) 191)) := by
  unfold st1
  by_cases h : c = 224
  · rw [bpos h, cond_true, if_pos h]
  · rw [bneg h, cond_false, if_neg h]
theorem st2_is (k : Nat) (b : List Int) (c lo hi : Int) : st2 k (s4 b c lo hi) = some (Sum.inl (s4 b c lo (if c = 237 then 159 else hi))) := by
  unfold st2
  by_cases h : c = 237
  · rw [bpos h, cond_true, if_pos h]
  · rw [bneg h, cond_false, if_neg h]
theorem st3_is (k : Nat) (b : List Int) (c lo hi : Int) : st3 k (s4 b c lo hi) = some (Sum.inl (s3 b c (decide (224 ≤ c ∧ c ≤ 239) && (tailP b 1 lo hi && tailP b 2 128 191)))) := by
  unfold st3
  by_cases h : c ≥ 224
  · by_cases h2 : c ≤ 239
    · rw [cpos h, cpos h2, tail_ok k b _ _ _ (by omega), Option.bind_some, decide_eq_true (by omega), Bool.true_and]
      cases hv : tailP b 1 lo hi
      · rfl
      · rw [cond_true, tail_ok k b _ _ _ (by omega), Option.bind_some, Bool.true_and]
    · rw [cpos h, cneg h2, decide_eq_false (by omega), Bool.false_and]
  · rw [cneg h, decide_eq_false (by omega), Bool.false_and]
theorem st4_is (k : Nat) (b : List Int) (c : Int) (o : Bool) : st4 k (s3 b c o) = some (Sum.inl (s4 b c (if c = 240 then 144 else 128) 191)) := by
  unfold st4
  by_cases h : c = 240
  · rw [bpos h, cond_true, if_pos h]
  · rw [bneg h, cond_false, if_neg h]
theorem st5_is (k : Nat) (b : List Int) (c lo hi : Int) : st5 k (s4 b c lo hi) = some (Sum.inl (s4 b c lo (if c = 244 then 143 else hi))) := by
  unfold st5
  by_cases h : c = 244
  · rw [bpos h, cond_true, if_pos h]
  · rw [bneg h, cond_false, if_neg h]
theorem st6_is (k : Nat) (b : List Int) (c lo hi : Int) : st6 k (s4 b c lo hi) = some (Sum.inl (s3 b c (decide (240 ≤ c ∧ c ≤ 244) && (tailP b 1 lo hi && (tailP b 2 128 191 && tailP b 3 128 191))))) := by
  unfold st6
  by_cases h : c ≥ 240
  · by_cases h2 : c ≤ 244
    · rw [cpos h, cpos h2, tail_ok k b _ _ _ (by omega), Option.bind_some, decide_eq_true (by omega), Bool.true_and]
      cases hv : tailP b 1 lo hi
      · rfl
      · rw [cond_true, tail_ok k b _ _ _ (by omega), Option.bind_some, Bool.true_and]
        cases hv : tailP b 2 128 191
        · rfl
        · rw [cond_true, tail_ok k b _ _ _ (by omega), Option.bind_some, Bool.true_and]
    · rw [cpos h, cneg h2, decide_eq_false (by omega), Bool.false_and]
  · rw [cneg h, decide_eq_false (by omega), Bool.false_and]
theorem tailP_len {b : List Int} {i lo hi : Int} (h : tailP b i lo hi = true) : i < (b.length : Int) := (of_decide_eq_true h).1
theorem co6_is (k : Nat) (b : List Int) (c : Int) (o : Bool) (h : o = true → 3 < b.length) : co6 k (s3 b c o) = if o then v2 4 (R4 c (b.getD 1 0) (b.getD 2 0) (b.getD 3 0)) else v2 0 0 := by
  unfold co6
  cases o
  · rfl
  · have := h rfl
    simp only [cond_true, if_true]
    rw [cpos (by omega), cpos (by omega), cpos (by omega)]; rfl
def lo1 (c : Int) : Int := if c = 224 then 160 else 128
def hi1 (c : Int) : Int := if c = 237 then 159 else 191
def lo2 (c : Int) : Int := if c = 240 then 144 else 128
def hi2 (c : Int) : Int := if c = 244 then 143 else 191
/-- what the document reads -/
def wholeT (b : List Int) (c : Int) : Option V2 :=
  if decide (194 ≤ c ∧ c ≤ 223) && tailP b 1 128 191 then v2 2 (R2 c (b.getD 1 0)) else
  if decide (224 ≤ c ∧ c ≤ 239) && (tailP b 1 (lo1 c) (hi1 c) && tailP b 2 128 191) then v2 3 (R3 c (b.getD 1 0) (b.getD 2 0)) else
  if decide (240 ≤ c ∧ c ≤ 244) && (tailP b 1 (lo2 c) (hi2 c) && (tailP b 2 128 191 && tailP b 3 128 191)) then v2 4 (R4 c (b.getD 1 0) (b.getD 2 0) (b.getD 3 0)) else v2 0 0
theorem st_is (k : Nat) (b : List Int) : pick (st0 k b) (co0 k) = wholeT b (b.getD 0 0) := by
  rw [st0_is, pick_inl]
  generalize b.getD 0 0 = c
  unfold co0 wholeT
  cases h0 : (decide (194 ≤ c ∧ c ≤ 223) && tailP b 1 128 191)
  · simp only [cond_false]
    rw [st1_is, pick_inl]
    unfold co1
    rw [st2_is, pick_inl]
    unfold co2
    rw [st3_is, pick_inl]
    unfold co3
    show (bif (decide (224 ≤ c ∧ c ≤ 239) && (tailP b 1 (lo1 c) (hi1 c) && tailP b 2 128 191)) then _ else _) = _
    cases h1 : (decide (224 ≤ c ∧ c ≤ 239) && (tailP b 1 (lo1 c) (hi1 c) && tailP b 2 128 191))
    · simp only [cond_false]
      rw [st4_is, pick_inl]
      unfold co4
      rw [st5_is, pick_inl]
      unfold co5
      rw [st6_is, pick_inl]
      rw [co6_is]
      · rfl
      · intro h; simp only [Bool.and_eq_true] at h; have := tailP_len h.2.2.2; omega
    · simp only [Bool.and_eq_true] at h1
      have := tailP_len h1.2.2
      simp only [cond_true, if_true]
      rw [cpos (by omega), cpos (by omega)]; rfl
  · simp only [Bool.and_eq_true] at h0
    have := tailP_len h0.2
    simp only [cond_true, if_true]
    rw [cpos (by omega)]; rfl
theorem lo1_is {c : Int} (h : c ≤ 239) : lo1 c = loOf c := by unfold lo1 loOf; repeat' split <;> omega
theorem hi1_is {c : Int} (h : c ≤ 239) : hi1 c = hiOf c := by unfold hi1 hiOf; repeat' split <;> omega
theorem lo2_is {c : Int} (h : 240 ≤ c) : lo2 c = loOf c := by unfold lo2 loOf; repeat' split <;> omega
theorem hi2_is {c : Int} (h : 240 ≤ c) : hi2 c = hiOf c := by unfold hi2 hiOf; repeat' split <;> omega
theorem ifBP {α : Type} {o : Bool} {p : Prop} {hd : Decidable p} {a b : α} (h : o = true ↔ p) : (if o = true then a else b) = @ite α p hd a b := by
  by_cases hp : p
  · rw [if_pos hp, if_pos (h.2 hp)]
  · rw [if_neg hp, if_neg (fun e => hp (h.1 e))]
theorem v2_ite {p : Prop} {hd : Decidable p} (a b : Int × Int) : @ite (Option V2) p hd (v2 a.1 a.2) (v2 b.1 b.2) = v2 (@ite (Int × Int) p hd a b).1 (@ite (Int × Int) p hd a b).2 := by
  by_cases h : p
  · rw [if_pos h, if_pos h]
  · rw [if_neg h, if_neg h]
theorem whole_ok (k : Nat) (b : List Int) (h : ∀ x ∈ b, U8 x) : f30 k (((b, ()), ()), ()) = v2 (whole b).1 (whole b).2 := by
  rw [e30_st]
  unfold whole
  by_cases h0 : b.length = 0
  · rw [bpos (by omega), cond_true, if_pos h0]
  rw [bneg (by omega), cond_false, cpos (by omega), if_neg h0]
  have hc := getU8 h (i := 0) (by omega)
  rw [st_is]
  generalize b.getD 0 0 = c at *
  by_cases h1 : c < 128
  · rw [cpos h1, wrap32 (by omega) (by omega), if_pos h1]
  rw [cneg h1, if_neg h1]
  unfold wholeT
  rw [ifBP (p := 194 ≤ c ∧ c ≤ 223 ∧ 1 < b.length ∧ 128 ≤ b.getD 1 0 ∧ b.getD 1 0 ≤ 191) (by
    simp only [tailP, Bool.and_eq_true, decide_eq_true_eq]
    have e : Int.toNat 1 = 1 := rfl
    rw [e]; omega)]
  rw [ifBP (p := 224 ≤ c ∧ c ≤ 239 ∧ 1 < b.length ∧ loOf c ≤ b.getD 1 0 ∧ b.getD 1 0 ≤ hiOf c ∧ 2 < b.length ∧ 128 ≤ b.getD 2 0 ∧ b.getD 2 0 ≤ 191) (by
    simp only [tailP, Bool.and_eq_true, decide_eq_true_eq]
    have e : Int.toNat 1 = 1 := rfl
    have e2 : Int.toNat 2 = 2 := rfl
    rw [e, e2]
    by_cases hx : c ≤ 239
    · rw [lo1_is hx, hi1_is hx]; omega
    · omega)]
  rw [ifBP (p := 240 ≤ c ∧ c ≤ 244 ∧ 1 < b.length ∧ loOf c ≤ b.getD 1 0 ∧ b.getD 1 0 ≤ hiOf c ∧ 2 < b.length ∧ 128 ≤ b.getD 2 0 ∧ b.getD 2 0 ≤ 191 ∧ 3 < b.length ∧ 128 ≤ b.getD 3 0 ∧ b.getD 3 0 ≤ 191) (by
    simp only [tailP, Bool.and_eq_true, decide_eq_true_eq]
    have e : Int.toNat 1 = 1 := rfl
    have e2 : Int.toNat 2 = 2 := rfl
    have e3 : Int.toNat 3 = 3 := rfl
    rw [e, e2, e3]
    by_cases hx : 240 ≤ c
    · rw [lo2_is hx, hi2_is hx]; omega
    · omega)]
  rw [v2_ite (4, _) (0, 0), v2_ite (3, _), v2_ite (2, _)]
end
end Go.Proofs.YtjdbamenbgfcjaaDoor.Gl
