import Derived.Test.YtjdbamenbgfcjaaDoorGK
import Derived.Test.YtjdbamenbgfcjaaDoorGF
namespace Go.Proofs.YtjdbamenbgfcjaaDoor.Gl
open Go Go.RowKit Go.Proofs Go.Proofs.YtjdbamenbgfcjaaDoor.X
set_option linter.unusedVariables false
set_option linter.unusedSimpArgs false
noncomputable section
/-! One rune's bytes, read by the library and by the document -/
def fst1 (n : Int) : Int := gt (Sh.int IntKind.u8) utf8F (0 + n.toNat)
def acc1 (n : Int) : Int × Int := gt ((Sh.int IntKind.u8).pair (Sh.int IntKind.u8)) utf8A (0 + n.toNat)
def msk (m c : Int) : Int := IntKind.i32.wrap (IntKind.u8.wrap ((BitVec.ofInt IntKind.u8.bits c &&& BitVec.ofInt IntKind.u8.bits m).toNat : Int))
def shl32 (s : Int) (x : Int) : Int := IntKind.i32.wrap (x * (2 : Int) ^ min (Int.toNat s) IntKind.i32.bits)
def or32 (a b : Int) : Int := IntKind.i32.wrap ((BitVec.ofInt IntKind.i32.bits a ||| BitVec.ofInt IntKind.i32.bits b).toNat : Int)
def hi4 (t : Int) : Int := Int.fdiv t ((2 : Int) ^ min (Int.toNat 4) IntKind.u8.bits)
def lo3 (t : Int) : Int := IntKind.i64.wrap (IntKind.u8.wrap ((BitVec.ofInt IntKind.u8.bits t &&& BitVec.ofInt IntKind.u8.bits 7).toNat : Int))
def sx (t : Int) : Int := (IntKind.i32.wrap (IntKind.i32.wrap t * (2 : Int) ^ min (Int.toNat 31) IntKind.i32.bits)).fdiv ((2 : Int) ^ min (Int.toNat 31) IntKind.i32.bits)
def asc (c t : Int) : Int := IntKind.i32.wrap ((BitVec.ofInt IntKind.i32.bits (IntKind.i32.wrap ((BitVec.ofInt IntKind.i32.bits (IntKind.i32.wrap c) &&& ~~~BitVec.ofInt IntKind.i32.bits (sx t)).toNat : Int)) ||| BitVec.ofInt IntKind.i32.bits (IntKind.i32.wrap ((BitVec.ofInt IntKind.i32.bits (65533 : Int) &&& BitVec.ofInt IntKind.i32.bits (sx t)).toNat : Int))).toNat : Int)
def R2 (c d : Int) : Int := or32 (shl32 6 (msk 31 c)) (msk 63 d)
def R3 (c d e : Int) : Int := or32 (or32 (shl32 12 (msk 15 c)) (shl32 6 (msk 63 d))) (msk 63 e)
def R4 (c d e f : Int) : Int := or32 (or32 (or32 (shl32 18 (msk 7 c)) (shl32 12 (msk 63 d))) (shl32 6 (msk 63 e))) (msk 63 f)
abbrev V2 : Type := ((Int × Unit) × (Int × Unit) × Unit) × Unit
abbrev v2 (r n : Int) : Option V2 := some (((r, ()), (n, ()), ()), ())
theorem e39_eq (k : Nat) (b : List Int) : f39 k (((b, ()), ()), ()) = bif decide ((b.length : Int) < (1 : Int)) then v2 65533 0 else
    bif decide ((0 : Int) ≤ (0 : Int) ∧ (0 : Int) < (b.length : Int)) then
      bif decide ((0 : Int) ≤ b.getD 0 0 ∧ b.getD 0 0 < ((256 : Nat) : Int)) then
        bif decide (fst1 (b.getD 0 0) ≥ (240 : Int)) then
          bif decide ((0 : Int) ≤ (0 : Int) ∧ (0 : Int) < (b.length : Int)) then v2 (asc (b.getD 0 0) (fst1 (b.getD 0 0))) 1 else none
        else
          bif decide ((0 : Int) ≤ hi4 (fst1 (b.getD 0 0)) ∧ hi4 (fst1 (b.getD 0 0)) < ((16 : Nat) : Int)) then
            bif decide ((b.length : Int) < lo3 (fst1 (b.getD 0 0))) then v2 65533 1 else
              bif decide ((0 : Int) ≤ (1 : Int) ∧ (1 : Int) < (b.length : Int)) then
                bif decide (b.getD 1 0 < (acc1 (hi4 (fst1 (b.getD 0 0)))).1) then v2 65533 1 else
                  bif decide ((acc1 (hi4 (fst1 (b.getD 0 0)))).2 < b.getD 1 0) then v2 65533 1 else
                    bif decide (lo3 (fst1 (b.getD 0 0)) ≤ (2 : Int)) then v2 (R2 (b.getD 0 0) (b.getD 1 0)) 2 else
                      bif decide ((0 : Int) ≤ (2 : Int) ∧ (2 : Int) < (b.length : Int)) then
                        bif decide (b.getD 2 0 < (128 : Int)) then v2 65533 1 else
                          bif decide ((191 : Int) < b.getD 2 0) then v2 65533 1 else
                            bif decide (lo3 (fst1 (b.getD 0 0)) ≤ (3 : Int)) then v2 (R3 (b.getD 0 0) (b.getD 1 0) (b.getD 2 0)) 3 else
                              bif decide ((0 : Int) ≤ (3 : Int) ∧ (3 : Int) < (b.length : Int)) then
                                bif decide (b.getD 3 0 < (128 : Int)) then v2 65533 1 else
                                  bif decide ((191 : Int) < b.getD 3 0) then v2 65533 1 else v2 (R4 (b.getD 0 0) (b.getD 1 0) (b.getD 2 0) (b.getD 3 0)) 4
                              else none
                      else none
              else none
          else none
      else none
    else none := by kernel_rfl
def e29_0 (k : Nat) (b : List Int) (g : ((List Int × PUnit) × (List Int × PUnit) × (Int × PUnit) × (Int × PUnit) × PUnit) × PUnit) (L : ((List Int × PUnit) × (List Int × PUnit) × (Int × PUnit) × (Int × PUnit) × PUnit) × PUnit → Option (((Int × PUnit) × (Int × PUnit) × PUnit) × PUnit)) : Option (((Int × PUnit) × (Int × PUnit) × PUnit) × PUnit) := bif decide (g.1.2.2.2.1.1 < g.1.2.2.1.1) then bif decide ((0 : Int) ≤ g.1.2.2.2.1.1 ∧ g.1.2.2.2.1.1 < (↑g.1.2.1.1.length : Int)) then bif decide (gt (Sh.int IntKind.u8) g.1.2.1.1 g.1.2.2.2.1.1.toNat < (128 : Int)) then some (((IntKind.i32.wrap (gt (Sh.int IntKind.u8) g.1.2.1.1 g.1.2.2.2.1.1.toNat), ()), ((1 : Int), ()), ()), ()) else (f39 k (((g.1.1.1, ()), ()), ())).bind fun v => some (((v.1.1.1, ()), (v.1.2.1.1, ()), ()), ()) else none else (f39 k (((g.1.1.1, ()), ()), ())).bind fun v => some (((v.1.1.1, ()), (v.1.2.1.1, ()), ()), ())
theorem e29_eq (k : Nat) (b : List Int) : f29 k (((b, ()), ()), ()) = loopN (e29_0 k b) k (((b, ()), (b, ()), ((↑b.length : Int), ()), ((0 : Int), ()), ()), ()) := by kernel_rfl
theorem e40_eq (k : Nat) (b : List Int) (i : Int) (lo : Int) (hi : Int) : f40 k (((b, ()), (i, ()), (lo, ()), (hi, ()), ()), ()) = bif decide (i < (↑b.length : Int)) then bif decide ((0 : Int) ≤ i ∧ i < (↑b.length : Int)) then bif decide (List.getD (b : List Int) i.toNat (0 : Int) ≥ lo) then bif decide ((0 : Int) ≤ i ∧ i < (↑b.length : Int)) then some (((decide (List.getD (b : List Int) i.toNat (0 : Int) ≤ hi), ()), ()), ()) else none else some (((false, ()), ()), ()) else none else some (((false, ()), ()), ()) := by kernel_rfl
theorem e30_eq (k : Nat) (b : List Int) : f30 k (((b, ()), ()), ()) = bif (↑b.length : Int) == (0 : Int) then some ((((0 : Int), ()), ((0 : Int), ()), ()), ()) else bif decide ((0 : Int) ≤ (0 : Int) ∧ (0 : Int) < (↑b.length : Int)) then bif decide (List.getD (b : List Int) 0 (0 : Int) < (128 : Int)) then some ((((1 : Int), ()), (IntKind.i32.wrap (List.getD (b : List Int) 0 (0 : Int)), ()), ()), ()) else Option.bind (bif decide (List.getD (b : List Int) 0 (0 : Int) ≥ (194 : Int)) then bif decide (List.getD (b : List Int) 0 (0 : Int) ≤ (223 : Int)) then (f40 k (((b, ()), ((1 : Int), ()), ((128 : Int), ()), ((191 : Int), ()), ()), ())).bind fun v => some (Sum.inl (((b, ()), (List.getD (b : List Int) 0 (0 : Int), ()), (v.1.1.1, ()), ()), ())) else some (Sum.inl (((b, ()), (List.getD (b : List Int) 0 (0 : Int), ()), (false, ()), ()), ())) else some (Sum.inl (((b, ()), (List.getD (b : List Int) 0 (0 : Int), ()), (false, ()), ()), ()))) fun v => Sum.elim (fun q => bif q.1.2.2.1.1 then bif decide ((0 : Int) ≤ (1 : Int) ∧ (1 : Int) < (↑(List.length q.1.1.1) : Int)) then some ((((2 : Int), ()), (IntKind.i32.wrap (↑(BitVec.ofInt IntKind.i32.bits (IntKind.i32.wrap (IntKind.i32.wrap (IntKind.u8.wrap (↑(BitVec.ofInt IntKind.u8.bits q.1.2.1.1 &&& BitVec.ofInt IntKind.u8.bits (31 : Int)).toNat : Int)) * (2 : Int) ^ min (Int.toNat (6 : Int)) IntKind.i32.bits)) ||| BitVec.ofInt IntKind.i32.bits (IntKind.i32.wrap (IntKind.u8.wrap (↑(BitVec.ofInt IntKind.u8.bits (List.getD (q.1.1.1 : List Int) 1 (0 : Int)) &&& BitVec.ofInt IntKind.u8.bits (63 : Int)).toNat : Int)))).toNat : Int), ()), ()), ()) else none else Option.bind (bif q.1.2.1.1 == (224 : Int) then some (Sum.inl (((q.1.1.1, ()), (q.1.2.1.1, ()), ((160 : Int), ()), ((191 : Int), ()), ()), ())) else some (Sum.inl (((q.1.1.1, ()), (q.1.2.1.1, ()), ((128 : Int), ()), ((191 : Int), ()), ()), ()))) fun v => Sum.elim (fun q => Option.bind (bif q.1.2.1.1 == (237 : Int) then some (Sum.inl (((q.1.1.1, ()), (q.1.2.1.1, ()), (q.1.2.2.1.1, ()), ((159 : Int), ()), ()), ())) else some (Sum.inl (((q.1.1.1, ()), (q.1.2.1.1, ()), (q.1.2.2.1.1, ()), (q.1.2.2.2.1.1, ()), ()), ()))) fun v => Sum.elim (fun q => Option.bind (bif decide (q.1.2.1.1 ≥ (224 : Int)) then bif decide (q.1.2.1.1 ≤ (239 : Int)) then (f40 k (((q.1.1.1, ()), ((1 : Int), ()), (q.1.2.2.1.1, ()), (q.1.2.2.2.1.1, ()), ()), ())).bind fun v => bif v.1.1.1 then (f40 k (((q.1.1.1, ()), ((2 : Int), ()), ((128 : Int), ()), ((191 : Int), ()), ()), ())).bind fun v => some (Sum.inl (((q.1.1.1, ()), (q.1.2.1.1, ()), (v.1.1.1, ()), ()), ())) else some (Sum.inl (((q.1.1.1, ()), (q.1.2.1.1, ()), (false, ()), ()), ())) else some (Sum.inl (((q.1.1.1, ()), (q.1.2.1.1, ()), (false, ()), ()), ())) else some (Sum.inl (((q.1.1.1, ()), (q.1.2.1.1, ()), (false, ()), ()), ()))) fun v => Sum.elim (fun q => bif q.1.2.2.1.1 then bif decide ((0 : Int) ≤ (1 : Int) ∧ (1 : Int) < (↑(List.length q.1.1.1) : Int)) then bif decide ((0 : Int) ≤ (2 : Int) ∧ (2 : Int) < (↑(List.length q.1.1.1) : Int)) then some ((((3 : Int), ()), (IntKind.i32.wrap (↑(BitVec.ofInt IntKind.i32.bits (IntKind.i32.wrap (↑(BitVec.ofInt IntKind.i32.bits (IntKind.i32.wrap (IntKind.i32.wrap (IntKind.u8.wrap (↑(BitVec.ofInt IntKind.u8.bits q.1.2.1.1 &&& BitVec.ofInt IntKind.u8.bits (15 : Int)).toNat : Int)) * (2 : Int) ^ min (Int.toNat (12 : Int)) IntKind.i32.bits)) ||| BitVec.ofInt IntKind.i32.bits (IntKind.i32.wrap (IntKind.i32.wrap (IntKind.u8.wrap (↑(BitVec.ofInt IntKind.u8.bits (List.getD (q.1.1.1 : List Int) 1 (0 : Int)) &&& BitVec.ofInt IntKind.u8.bits (63 : Int)).toNat : Int)) * (2 : Int) ^ min (Int.toNat (6 : Int)) IntKind.i32.bits))).toNat : Int)) ||| BitVec.ofInt IntKind.i32.bits (IntKind.i32.wrap (IntKind.u8.wrap (↑(BitVec.ofInt IntKind.u8.bits (List.getD (q.1.1.1 : List Int) 2 (0 : Int)) &&& BitVec.ofInt IntKind.u8.bits (63 : Int)).toNat : Int)))).toNat : Int), ()), ()), ()) else none else none else Option.bind (bif q.1.2.1.1 == (240 : Int) then some (Sum.inl (((q.1.1.1, ()), (q.1.2.1.1, ()), ((144 : Int), ()), ((191 : Int), ()), ()), ())) else some (Sum.inl (((q.1.1.1, ()), (q.1.2.1.1, ()), ((128 : Int), ()), ((191 : Int), ()), ()), ()))) fun v => Sum.elim (fun q => Option.bind (bif q.1.2.1.1 == (244 : Int) then some (Sum.inl (((q.1.1.1, ()), (q.1.2.1.1, ()), (q.1.2.2.1.1, ()), ((143 : Int), ()), ()), ())) else some (Sum.inl (((q.1.1.1, ()), (q.1.2.1.1, ()), (q.1.2.2.1.1, ()), (q.1.2.2.2.1.1, ()), ()), ()))) fun v => Sum.elim (fun q => Option.bind (bif decide (q.1.2.1.1 ≥ (240 : Int)) then bif decide (q.1.2.1.1 ≤ (244 : Int)) then (f40 k (((q.1.1.1, ()), ((1 : Int), ()), (q.1.2.2.1.1, ()), (q.1.2.2.2.1.1, ()), ()), ())).bind fun v => bif v.1.1.1 then (f40 k (((q.1.1.1, ()), ((2 : Int), ()), ((128 : Int), ()), ((191 : Int), ()), ()), ())).bind fun v_1 => bif v_1.1.1.1 then (f40 k (((q.1.1.1, ()), ((3 : Int), ()), ((128 : Int), ()), ((191 : Int), ()), ()), ())).bind fun v => some (Sum.inl (((q.1.1.1, ()), (q.1.2.1.1, ()), (v.1.1.1, ()), ()), ())) else some (Sum.inl (((q.1.1.1, ()), (q.1.2.1.1, ()), (false, ()), ()), ())) else some (Sum.inl (((q.1.1.1, ()), (q.1.2.1.1, ()), (false, ()), ()), ())) else some (Sum.inl (((q.1.1.1, ()), (q.1.2.1.1, ()), (false, ()), ()), ())) else some (Sum.inl (((q.1.1.1, ()), (q.1.2.1.1, ()), (false, ()), ()), ()))) fun v => Sum.elim (fun q => bif q.1.2.2.1.1 then bif decide ((0 : Int) ≤ (1 : Int) ∧ (1 : Int) < (↑(List.length q.1.1.1) : Int)) then bif decide ((0 : Int) ≤ (2 : Int) ∧ (2 : Int) < (↑(List.length q.1.1.1) : Int)) then bif decide ((0 : Int) ≤ (3 : Int) ∧ (3 : Int) < (↑(List.length q.1.1.1) : Int)) then some ((((4 : Int), ()), (IntKind.i32.wrap (↑(BitVec.ofInt IntKind.i32.bits (IntKind.i32.wrap (↑(BitVec.ofInt IntKind.i32.bits (IntKind.i32.wrap (↑(BitVec.ofInt IntKind.i32.bits (IntKind.i32.wrap (IntKind.i32.wrap (IntKind.u8.wrap (↑(BitVec.ofInt IntKind.u8.bits q.1.2.1.1 &&& BitVec.ofInt IntKind.u8.bits (7 : Int)).toNat : Int)) * (2 : Int) ^ min (Int.toNat (18 : Int)) IntKind.i32.bits)) ||| BitVec.ofInt IntKind.i32.bits (IntKind.i32.wrap (IntKind.i32.wrap (IntKind.u8.wrap (↑(BitVec.ofInt IntKind.u8.bits (List.getD (q.1.1.1 : List Int) 1 (0 : Int)) &&& BitVec.ofInt IntKind.u8.bits (63 : Int)).toNat : Int)) * (2 : Int) ^ min (Int.toNat (12 : Int)) IntKind.i32.bits))).toNat : Int)) ||| BitVec.ofInt IntKind.i32.bits (IntKind.i32.wrap (IntKind.i32.wrap (IntKind.u8.wrap (↑(BitVec.ofInt IntKind.u8.bits (List.getD (q.1.1.1 : List Int) 2 (0 : Int)) &&& BitVec.ofInt IntKind.u8.bits (63 : Int)).toNat : Int)) * (2 : Int) ^ min (Int.toNat (6 : Int)) IntKind.i32.bits))).toNat : Int)) ||| BitVec.ofInt IntKind.i32.bits (IntKind.i32.wrap (IntKind.u8.wrap (↑(BitVec.ofInt IntKind.u8.bits (List.getD (q.1.1.1 : List Int) 3 (0 : Int)) &&& BitVec.ofInt IntKind.u8.bits (63 : Int)).toNat : Int)))).toNat : Int), ()), ()), ()) else none else none else none else some ((((0 : Int), ()), ((0 : Int), ()), ()), ())) (fun q => some q) v) (fun q => some q) v) (fun q => some q) v) (fun q => some q) v) (fun q => some q) v) (fun q => some q) v) (fun q => some q) v else none := by kernel_rfl

def loOf (c : Int) : Int := if c = 224 then 160 else if c = 240 then 144 else 128
def hiOf (c : Int) : Int := if c = 237 then 159 else if c = 244 then 143 else 191
def szOf (c : Int) : Int := if c < 224 then 2 else if c < 240 then 3 else 4
/-- how many bytes the whole rune takes with which bytes begin, and the rune -/
def whole (b : List Int) : Int × Int :=
  if b.length = 0 then (0, 0) else
  if b.getD 0 0 < 128 then (1, b.getD 0 0) else
  if 194 ≤ b.getD 0 0 ∧ b.getD 0 0 ≤ 223 ∧ 1 < b.length ∧ 128 ≤ b.getD 1 0 ∧ b.getD 1 0 ≤ 191 then (2, R2 (b.getD 0 0) (b.getD 1 0)) else
  if 224 ≤ b.getD 0 0 ∧ b.getD 0 0 ≤ 239 ∧ 1 < b.length ∧ loOf (b.getD 0 0) ≤ b.getD 1 0 ∧ b.getD 1 0 ≤ hiOf (b.getD 0 0) ∧ 2 < b.length ∧ 128 ≤ b.getD 2 0 ∧ b.getD 2 0 ≤ 191 then (3, R3 (b.getD 0 0) (b.getD 1 0) (b.getD 2 0)) else
  if 240 ≤ b.getD 0 0 ∧ b.getD 0 0 ≤ 244 ∧ 1 < b.length ∧ loOf (b.getD 0 0) ≤ b.getD 1 0 ∧ b.getD 1 0 ≤ hiOf (b.getD 0 0) ∧ 2 < b.length ∧ 128 ≤ b.getD 2 0 ∧ b.getD 2 0 ≤ 191 ∧ 3 < b.length ∧ 128 ≤ b.getD 3 0 ∧ b.getD 3 0 ≤ 191 then (4, R4 (b.getD 0 0) (b.getD 1 0) (b.getD 2 0) (b.getD 3 0)) else
  (0, 0)
/-- the rune that is read first, and how many bytes it takes -/
def dec (b : List Int) : Int × Int := if b.length = 0 then (65533, 0) else if (whole b).1 = 0 then (65533, 1) else ((whole b).2, (whole b).1)
def chk (n : Nat) : Bool :=
  if n < 128 then decide (fst1 n ≥ 240) && asc n (fst1 n) == n
  else if n < 194 ∨ 244 < n then decide (fst1 n ≥ 240) && asc n (fst1 n) == 65533
  else decide (fst1 n < 240) && (decide (0 ≤ hi4 (fst1 n)) && (decide (hi4 (fst1 n) < 16) && (lo3 (fst1 n) == szOf n && ((acc1 (hi4 (fst1 n))).1 == loOf n && (acc1 (hi4 (fst1 n))).2 == hiOf n))))
theorem chks : (List.range 256).all chk = true := by kernel_rfl
theorem chk_at {n : Nat} (h : n < 256) : chk n = true := List.all_eq_true.1 chks n (List.mem_range.2 h)
theorem tabA {c : Int} (h : 0 ≤ c ∧ c < 128) : fst1 c ≥ 240 ∧ asc c (fst1 c) = c := by
  obtain ⟨n, rfl⟩ := Int.eq_ofNat_of_zero_le h.1
  have := chk_at (n := n) (by omega)
  unfold chk at this
  rw [if_pos (by omega)] at this
  simpa using this
theorem tabX {c : Int} (h : 128 ≤ c ∧ c < 194 ∨ 244 < c ∧ c < 256) : fst1 c ≥ 240 ∧ asc c (fst1 c) = 65533 := by
  obtain ⟨n, rfl⟩ := Int.eq_ofNat_of_zero_le (a := c) (by omega)
  have := chk_at (n := n) (by omega)
  unfold chk at this
  rw [if_neg (by omega), if_pos (by omega)] at this
  simpa using this
theorem tabM {c : Int} (h : 194 ≤ c ∧ c ≤ 244) : fst1 c < 240 ∧ 0 ≤ hi4 (fst1 c) ∧ hi4 (fst1 c) < 16 ∧ lo3 (fst1 c) = szOf c ∧ (acc1 (hi4 (fst1 c))).1 = loOf c ∧ (acc1 (hi4 (fst1 c))).2 = hiOf c := by
  obtain ⟨n, rfl⟩ := Int.eq_ofNat_of_zero_le (a := c) (by omega)
  have := chk_at (n := n) (by omega)
  unfold chk at this
  rw [if_neg (by omega), if_neg (by omega)] at this
  simpa using this
theorem dpos {p : Prop} {hd : Decidable p} (h : p) : @decide p hd = true := decide_eq_true h
theorem dneg {p : Prop} {hd : Decidable p} (h : ¬ p) : @decide p hd = false := decide_eq_false h
theorem ipos {α : Type} {p : Prop} {hd : Decidable p} {a b : α} (h : p) : @ite α p hd a b = a := if_pos h
theorem ineg {α : Type} {p : Prop} {hd : Decidable p} {a b : α} (h : ¬ p) : @ite α p hd a b = b := if_neg h
abbrev U8 (n : Int) : Prop := 0 ≤ n ∧ n < 256
theorem getU8 {b : List Int} (h : ∀ x ∈ b, U8 x) {i : Nat} (hi : i < b.length) : U8 (b.getD i 0) := by
  rw [List.getD_eq_getElem?_getD, List.getElem?_eq_getElem hi]; exact h _ (List.getElem_mem hi)
theorem slow_ok (k : Nat) (b : List Int) (h : ∀ x ∈ b, U8 x) : f39 k (((b, ()), ()), ()) = v2 (dec b).1 (dec b).2 := by
  rw [e39_eq]
  unfold dec
  by_cases h0 : b.length = 0
  · rw [cpos (by omega), if_pos h0]
  rw [cneg (by omega), cpos (by omega), if_neg h0]
  have hc := getU8 h (i := 0) (by omega)
  rw [cpos (by omega)]
  unfold whole
  rw [if_neg h0]
  generalize hC : b.getD 0 0 = c at *
  by_cases h1 : c < 128
  · obtain ⟨t1, t2⟩ := tabA ⟨hc.1, h1⟩
    rw [cpos t1, cpos (by omega), t2, if_pos h1, if_neg (by omega)]
  rw [if_neg h1]
  by_cases h2 : c < 194 ∨ 244 < c
  · obtain ⟨t1, t2⟩ := tabX (c := c) (by omega)
    rw [cpos t1, cpos (by omega), t2]
    simp (disch := omega) only [ipos, ineg, if_true]
  obtain ⟨t1, t2, t3, t4, t5, t6⟩ := tabM (c := c) (by omega)
  rw [cneg (by omega), cpos (by omega), t4, t5, t6]
  generalize b.getD 1 0 = d
  generalize b.getD 2 0 = e
  generalize b.getD 3 0 = f
  generalize b.length = n at *
  by_cases h3 : c < 224
  · have hs : szOf c = 2 := by unfold szOf; rw [if_pos h3]
    have hl : loOf c = 128 := by unfold loOf; rw [if_neg (by omega), if_neg (by omega)]
    have hh : hiOf c = 191 := by unfold hiOf; rw [if_neg (by omega), if_neg (by omega)]
    rw [hs, hl, hh]
    by_cases q1 : n < 2
    · simp (disch := omega) only [cpos, cneg, ipos, ineg, if_true, if_false]
    by_cases q2 : d < 128
    · simp (disch := omega) only [cpos, cneg, ipos, ineg, if_true, if_false]
    by_cases q3 : 191 < d
    · simp (disch := omega) only [cpos, cneg, ipos, ineg, if_true, if_false]
    · simp (disch := omega) only [cpos, cneg, ipos, ineg, if_true, if_false]
  by_cases h4 : c < 240
  · have hs : szOf c = 3 := by unfold szOf; rw [if_neg h3, if_pos h4]
    rw [hs]
    generalize loOf c = lo
    generalize hiOf c = hi
    by_cases q1 : n < 3
    · simp (disch := omega) only [cpos, cneg, ipos, ineg, if_true, if_false]
    by_cases q2 : d < lo
    · simp (disch := omega) only [cpos, cneg, ipos, ineg, if_true, if_false]
    by_cases q3 : hi < d
    · simp (disch := omega) only [cpos, cneg, ipos, ineg, if_true, if_false]
    by_cases q4 : e < 128
    · simp (disch := omega) only [cpos, cneg, ipos, ineg, if_true, if_false]
    by_cases q5 : 191 < e
    · simp (disch := omega) only [cpos, cneg, ipos, ineg, if_true, if_false]
    · simp (disch := omega) only [cpos, cneg, ipos, ineg, if_true, if_false]
  · have hs : szOf c = 4 := by unfold szOf; rw [if_neg h3, if_neg h4]
    rw [hs]
    generalize loOf c = lo
    generalize hiOf c = hi
    by_cases q1 : n < 4
    · simp (disch := omega) only [cpos, cneg, ipos, ineg, if_true, if_false]
    by_cases q2 : d < lo
    · simp (disch := omega) only [cpos, cneg, ipos, ineg, if_true, if_false]
    by_cases q3 : hi < d
    · simp (disch := omega) only [cpos, cneg, ipos, ineg, if_true, if_false]
    by_cases q4 : e < 128
    · simp (disch := omega) only [cpos, cneg, ipos, ineg, if_true, if_false]
    by_cases q5 : 191 < e
    · simp (disch := omega) only [cpos, cneg, ipos, ineg, if_true, if_false]
    by_cases q6 : f < 128
    · simp (disch := omega) only [cpos, cneg, ipos, ineg, if_true, if_false]
    by_cases q7 : 191 < f
    · simp (disch := omega) only [cpos, cneg, ipos, ineg, if_true, if_false]
    · simp (disch := omega) only [cpos, cneg, ipos, ineg, if_true, if_false]
theorem wrap32 {n : Int} (h0 : -2147483648 ≤ n) (h1 : n < 2147483648) : IntKind.i32.wrap n = n := by
  rw [IntKind.wrap_i32]; omega
theorem dec_ok (k : Nat) (b : List Int) (h : ∀ x ∈ b, U8 x) (hk : 2 ≤ k) : f29 k (((b, ()), ()), ()) = v2 (dec b).1 (dec b).2 := by
  obtain ⟨k, rfl⟩ : ∃ k2, k = k2 + 1 := ⟨k - 1, by omega⟩
  rw [e29_eq, loopN_succ]
  unfold e29_0
  simp only []
  by_cases h0 : b.length = 0
  · rw [cneg (by omega), slow_ok _ b h, Option.bind_some]
  have hc := getU8 h (i := 0) (by omega)
  have hg : gt (Sh.int IntKind.u8) b (Int.toNat 0) = b.getD 0 0 := rfl
  rw [cpos (by omega), cpos (by omega), hg]
  by_cases h1 : b.getD 0 0 < 128
  · rw [cpos h1, wrap32 (by omega) (by omega)]
    have hw : whole b = (1, b.getD 0 0) := by unfold whole; rw [if_neg h0, if_pos h1]
    unfold dec
    rw [if_neg h0, hw, if_neg (by simp)]
  · rw [cneg h1, slow_ok _ b h, Option.bind_some]
def tailP (b : List Int) (i lo hi : Int) : Bool := decide (i < (b.length : Int) ∧ lo ≤ b.getD i.toNat 0 ∧ b.getD i.toNat 0 ≤ hi)
theorem tail_ok (k : Nat) (b : List Int) (i lo hi : Int) (hi0 : 0 ≤ i) : f40 k (((b, ()), (i, ()), (lo, ()), (hi, ()), ()), ()) = some (((tailP b i lo hi, ()), ()), ()) := by
  rw [e40_eq]
  unfold tailP
  by_cases h1 : i < (b.length : Int)
  · by_cases h2 : lo ≤ b.getD i.toNat 0
    · by_cases h3 : b.getD i.toNat 0 ≤ hi
      · simp (disch := omega) only [cpos, dpos, cond_true]
      · simp (disch := omega) only [cpos, dneg, cond_true]
    · simp (disch := omega) only [cpos, cneg, dneg, cond_true, cond_false]
  · simp (disch := omega) only [cneg, dneg, cond_false]
end
end Go.Proofs.YtjdbamenbgfcjaaDoor.Gl
