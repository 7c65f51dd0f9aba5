import Derived.Test.YtaklapcbbdcdpaaDoorPB
namespace Go.Proofs.YtaklapcbbdcdpaaDoor.Pt
open Go Go.RowKit Go.Proofs Go.Proofs.YtaklapcbbdcdpaaDoor.X
set_option linter.unusedVariables false
set_option linter.unusedSimpArgs false
noncomputable section
/-! Equations of the painter's functions, as the evaluator runs them -/
abbrev Sty := Int × Int × Int
abbrev Cel := Int × Sty
abbrev R4 := Int × Int × Int × Int
abbrev Scr := Int × Int × List (List Cel) × Int × Int × Bool
abbrev Pan := R4 × Int × Bool × Bool × ByteArray × List (List Cel) × Int × Int × Bool
def imin (a b : Int) : Int := if b < a then b else a
def imax (a b : Int) : Int := if b > a then b else a
theorem e37_eq (k : Nat) (a : Int) (b : Int) (c : Int) : f37 k (((a, ()), (b, ()), (c, ()), ()), ()) = some (((imax b (imin a c), ()), ()), ()) := by kernel_rfl
theorem e39_eq (k : Nat) : f39 k ((), ()) = some (((((32 : Int), (0 : Int), (0 : Int), (0 : Int)), ()), ()), ()) := by kernel_rfl
def e38_0 (g : ((PUnit × PUnit) × (Int × PUnit) × PUnit) × List (Int × Int × Int × Int) × PUnit) (L : ((PUnit × PUnit) × (Int × PUnit) × PUnit) × List (Int × Int × Int × Int) × PUnit →
  Option (((PUnit × PUnit) × PUnit) × List (Int × Int × Int × Int) × PUnit)) : Option (((PUnit × PUnit) × PUnit) × List (Int × Int × Int × Int) × PUnit) := bif decide (g.1.2.1.1 < (↑g.2.1.length : Int)) then
  bif
      decide
        ((0 : Int) ≤ g.1.2.1.1 ∧
          g.1.2.1.1 ≤ (↑g.2.1.length : Int) ∧
            (↑g.2.1.length : Int) ≤ (↑g.2.1.length : Int) ∧ (↑g.2.1.length : Int) ≤ (↑g.2.1.length : Int)) then
    bif
        decide
          ((0 : Int) ≤ (0 : Int) ∧
            (0 : Int) ≤ g.1.2.1.1 ∧ g.1.2.1.1 ≤ g.1.2.1.1 ∧ g.1.2.1.1 ≤ (↑g.2.1.length : Int)) then
      L
        ((((), ()),
            (Go.IntKind.i64.wrap
                (g.1.2.1.1 +
                  (↑((List.take (g.1.2.1.1.toNat - Int.toNat (0 : Int))
                              (List.drop (Int.toNat (0 : Int)) g.2.1)).length.min
                        ((↑g.2.1.length : Int).toNat - g.1.2.1.1.toNat)) :
                    Int)),
              ()),
            ()),
          List.take g.1.2.1.1.toNat g.2.1 ++
              List.take
                ((List.take (g.1.2.1.1.toNat - Int.toNat (0 : Int)) (List.drop (Int.toNat (0 : Int)) g.2.1)).length.min
                  ((↑g.2.1.length : Int).toNat - g.1.2.1.1.toNat))
                (List.take (g.1.2.1.1.toNat - Int.toNat (0 : Int)) (List.drop (Int.toNat (0 : Int)) g.2.1)) ++
            List.drop
              (g.1.2.1.1.toNat +
                (List.take (g.1.2.1.1.toNat - Int.toNat (0 : Int)) (List.drop (Int.toNat (0 : Int)) g.2.1)).length.min
                  ((↑g.2.1.length : Int).toNat - g.1.2.1.1.toNat))
              g.2.1,
          ())
    else none
  else none
else some ((((), ()), ()), g.2.1, ())
theorem e38_eq (k : Nat) (a : List Cel) (b : Int) : f38 k (((a, ()), (b, ()), ()), ()) = bif decide (b < (0 : Int)) then none
else
  (f56 k (((Go.IntKind.u64.wrap (↑a.length : Int), ()), (Go.IntKind.u64.wrap b, ()), ()), ())).bind fun v =>
    bif decide (v.1.1.1 > (0 : Int)) then none
    else
      bif decide (v.1.2.1.1 > (9223372036854775807 : Int)) then none
      else
        bif
            decide
                ((0 : Int) ≤ Go.IntKind.i64.wrap v.1.2.1.1 ∧
                  Go.IntKind.i64.wrap v.1.2.1.1 ≤ Go.IntKind.i64.wrap v.1.2.1.1) &&
              (((Go.IntKind.i64.wrap v.1.2.1.1).toNat * (32 : Nat)).ble (140737488355328 : Nat) &&
                (Go.IntKind.i64.wrap v.1.2.1.1).toNat.ble (1152921504606846976 : Nat)) then
          loopN e38_0 k
            ((((), ()),
                ((↑(a.length.min
                        (List.replicate (Go.IntKind.i64.wrap v.1.2.1.1).toNat
                            ((0 : Int), (0 : Int), (0 : Int), (0 : Int))).length) :
                    Int),
                  ()),
                ()),
              List.take (0 : Nat)
                    (List.replicate (Go.IntKind.i64.wrap v.1.2.1.1).toNat
                      ((0 : Int), (0 : Int), (0 : Int), (0 : Int))) ++
                  List.take
                    (a.length.min
                      (List.replicate (Go.IntKind.i64.wrap v.1.2.1.1).toNat
                          ((0 : Int), (0 : Int), (0 : Int), (0 : Int))).length)
                    a ++
                List.drop
                  ((0 : Nat) +
                    a.length.min
                      (List.replicate (Go.IntKind.i64.wrap v.1.2.1.1).toNat
                          ((0 : Int), (0 : Int), (0 : Int), (0 : Int))).length)
                  (List.replicate (Go.IntKind.i64.wrap v.1.2.1.1).toNat ((0 : Int), (0 : Int), (0 : Int), (0 : Int))),
              ())
        else none := by kernel_rfl
def e114_0 (k : Nat) (a : Int) (b : Int) (g : ((PUnit × PUnit) × (PUnit × PUnit) × (Int × PUnit) × (Int × PUnit) × PUnit) ×
  ((Int × Int × List (List (Int × Int × Int × Int)) × Int × Int × Bool) × PUnit) ×
    (Int × Int × PUnit × (Int × Int × Bool) × PUnit) × List (List (Int × Int × Int × Int)) × PUnit) (L : ((PUnit × PUnit) × (PUnit × PUnit) × (Int × PUnit) × (Int × PUnit) × PUnit) ×
    ((Int × Int × List (List (Int × Int × Int × Int)) × Int × Int × Bool) × PUnit) ×
      (Int × Int × PUnit × (Int × Int × Bool) × PUnit) × List (List (Int × Int × Int × Int)) × PUnit →
  Option ((((Int × Int × List (List (Int × Int × Int × Int)) × Int × Int × Bool) × PUnit) × PUnit) × PUnit)) : Option ((((Int × Int × List (List (Int × Int × Int × Int)) × Int × Int × Bool) × PUnit) × PUnit) × PUnit) := bif decide (g.1.2.2.2.1.1 < g.1.2.2.1.1) then
  (f39 k ((), ())).bind fun v =>
    (f38 k ((([(v.1.1.1.1, v.1.1.1.2.1, v.1.1.1.2.2.1, v.1.1.1.2.2.2)], ()), (g.2.2.1.1, ()), ()), ())).bind fun v =>
      bif ((g.2.2.2.1.length + (1 : Nat)) * (24 : Nat)).ble (140737488355328 : Nat) then
        L
          ((((), ()), ((), ()), (g.1.2.2.1.1, ()), (Go.IntKind.i64.wrap (g.1.2.2.2.1.1 + (1 : Int)), ()), ()),
            ((g.2.1.1.1, g.2.1.1.2.1, g.2.1.1.2.2.1, g.2.1.1.2.2.2.1, g.2.1.1.2.2.2.2.1, g.2.1.1.2.2.2.2.2), ()),
            (g.2.2.1.1, g.2.2.1.2.1, (), (g.2.2.1.2.2.2.1.1, g.2.2.1.2.2.2.1.2.1, g.2.2.1.2.2.2.1.2.2), ()),
            (g.2.2.2.1 ++
                  [S43.sl.dflt]).set
              g.2.2.2.1.length v.2.1,
            ())
      else none
else
  some
    ((((g.2.2.1.1, g.2.2.1.2.1, g.2.2.2.1, g.2.2.1.2.2.2.1.1, g.2.2.1.2.2.2.1.2.1, g.2.2.1.2.2.2.1.2.2), ()), ()), ())
theorem e114_eq (k : Nat) (a : Int) (b : Int) : f114 k (((a, ()), (b, ()), ()), ()) = (f37 k (((a, ()), ((1 : Int), ()), ((200 : Int), ()), ()), ())).bind fun v =>
  (f37 k (((b, ()), ((1 : Int), ()), ((200 : Int), ()), ()), ())).bind fun v_1 =>
    loopN (e114_0 k a b) k
      ((((), ()), ((), ()), (v_1.1.1.1, ()), ((0 : Int), ()), ()),
        (((0 : Int), (0 : Int), [], (0 : Int), (0 : Int), false), ()),
        (v.1.1.1, v_1.1.1.1, (), ((0 : Int), (0 : Int), true), ()), [], ()) := by kernel_rfl
def e43_0 (g : ((List (Int × Int × Int × Int) × PUnit) ×
    (List (Int × Int × Int × Int) × PUnit) × (Int × PUnit) × (Int × PUnit) × PUnit) ×
  PUnit) (L : ((List (Int × Int × Int × Int) × PUnit) ×
      (List (Int × Int × Int × Int) × PUnit) × (Int × PUnit) × (Int × PUnit) × PUnit) ×
    PUnit →
  Option (((Bool × PUnit) × PUnit) × PUnit)) : Option (((Bool × PUnit) × PUnit) × PUnit) := bif decide (g.1.2.2.2.1.1 < g.1.2.2.1.1) then
  bif decide ((0 : Int) ≤ g.1.2.2.2.1.1 ∧ g.1.2.2.2.1.1 < (↑g.1.1.1.length : Int)) then
    bif decide ((0 : Int) ≤ g.1.2.2.2.1.1 ∧ g.1.2.2.2.1.1 < (↑g.1.2.1.1.length : Int)) then
      bif
          !((gt S43 g.1.1.1 g.1.2.2.2.1.1.toNat).1 == (gt S43 g.1.2.1.1 g.1.2.2.2.1.1.toNat).1 &&
              ((gt S43 g.1.1.1 g.1.2.2.2.1.1.toNat).2.1 == (gt S43 g.1.2.1.1 g.1.2.2.2.1.1.toNat).2.1 &&
                  ((gt S43 g.1.1.1 g.1.2.2.2.1.1.toNat).2.2.1 == (gt S43 g.1.2.1.1 g.1.2.2.2.1.1.toNat).2.2.1 &&
                    ((gt S43 g.1.1.1 g.1.2.2.2.1.1.toNat).2.2.2 == (gt S43 g.1.2.1.1 g.1.2.2.2.1.1.toNat).2.2.2 &&
                      true)) &&
                true)) then
        some (((false, ()), ()), ())
      else
        L
          (((g.1.1.1, ()), (g.1.2.1.1, ()), (g.1.2.2.1.1, ()), (Go.IntKind.i64.wrap (g.1.2.2.2.1.1 + (1 : Int)), ()),
              ()),
            ())
    else none
  else none
else some (((true, ()), ()), ())
theorem e43_eq (k : Nat) (a : List Cel) (b : List Cel) : f43 k (((a, ()), (b, ()), ()), ()) = bif (↑a.length : Int) != (↑b.length : Int) then some (((false, ()), ()), ())
else loopN e43_0 k (((a, ()), (b, ()), ((↑a.length : Int), ()), ((0 : Int), ()), ()), ()) := by kernel_rfl
def e42_0 (k : Nat) (a : List (List Cel)) (b : List (List Cel)) (g : ((List (List (Int × Int × Int × Int)) × PUnit) ×
    (PUnit × PUnit) × (List (List (Int × Int × Int × Int)) × PUnit) × (Int × PUnit) × (Int × PUnit) × PUnit) ×
  PUnit) (L : ((List (List (Int × Int × Int × Int)) × PUnit) ×
      (PUnit × PUnit) × (List (List (Int × Int × Int × Int)) × PUnit) × (Int × PUnit) × (Int × PUnit) × PUnit) ×
    PUnit →
  Option (((Bool × PUnit) × PUnit) × PUnit)) : Option (((Bool × PUnit) × PUnit) × PUnit) := bif decide (g.1.2.2.2.2.1.1 < g.1.2.2.2.1.1) then
  bif decide ((0 : Int) ≤ g.1.2.2.2.2.1.1 ∧ g.1.2.2.2.2.1.1 < (↑g.1.2.2.1.1.length : Int)) then
    bif decide ((0 : Int) ≤ g.1.2.2.2.2.1.1 ∧ g.1.2.2.2.2.1.1 < (↑g.1.1.1.length : Int)) then
      (f43 k
            (((gt S43.sl g.1.2.2.1.1 g.1.2.2.2.2.1.1.toNat, ()), (gt S43.sl g.1.1.1 g.1.2.2.2.2.1.1.toNat, ()), ()),
              ())).bind
        fun v =>
        bif !v.1.1.1 then some (((false, ()), ()), ())
        else
          L
            (((g.1.1.1, ()), ((), ()), (g.1.2.2.1.1, ()), (g.1.2.2.2.1.1, ()),
                (Go.IntKind.i64.wrap (g.1.2.2.2.2.1.1 + (1 : Int)), ()), ()),
              ())
    else none
  else none
else some (((true, ()), ()), ())
theorem e42_eq (k : Nat) (a : List (List Cel)) (b : List (List Cel)) : f42 k (((a, ()), (b, ()), ((), ()), ()), ()) = bif (↑a.length : Int) != (↑b.length : Int) then some (((false, ()), ()), ())
else loopN (e42_0 k a b) k (((b, ()), ((), ()), (a, ()), ((↑a.length : Int), ()), ((0 : Int), ()), ()), ()) := by kernel_rfl
theorem e16_eq (k : Nat) (a : Int) (b : Int) (c : List (List (Int × Int × Int × Int))) (d : Int) (e : Int) (g : Bool) (h : Int) (i : Int) (j : List (List (Int × Int × Int × Int))) (l : Int) (m : Int) (n : Bool) : f16 k ((((a, b, c, d, e, g), ()), ((h, i, j, l, m, n), ()), ()), ()) = bif a == h then
  bif b == i then
    bif d == l then
      bif e == m then
        bif g == n then (f42 k (((c, ()), (j, ()), ((), ()), ()), ())).bind fun v => some (((v.1.1.1, ()), ()), ())
        else some (((false, ()), ()), ())
      else some (((false, ()), ()), ())
    else some (((false, ()), ()), ())
  else some (((false, ()), ()), ())
else some (((false, ()), ()), ()) := by kernel_rfl
def e20_0 (g : ((List (Int × Int × Int × Int) × PUnit) × (List (Int × Int × Int × Int) × PUnit) × (Int × PUnit) × PUnit) × PUnit) (L : ((List (Int × Int × Int × Int) × PUnit) × (List (Int × Int × Int × Int) × PUnit) × (Int × PUnit) × PUnit) × PUnit →
  Option (((Bool × PUnit) × PUnit) × PUnit)) : Option (((Bool × PUnit) × PUnit) × PUnit) := bif decide (g.1.2.2.1.1 < (↑g.1.1.1.length : Int)) then
  bif decide ((0 : Int) ≤ g.1.2.2.1.1 ∧ g.1.2.2.1.1 < (↑g.1.1.1.length : Int)) then
    bif decide ((0 : Int) ≤ g.1.2.2.1.1 ∧ g.1.2.2.1.1 < (↑g.1.2.1.1.length : Int)) then
      bif
          !((gt S43 g.1.1.1 g.1.2.2.1.1.toNat).1 == (gt S43 g.1.2.1.1 g.1.2.2.1.1.toNat).1 &&
              ((gt S43 g.1.1.1 g.1.2.2.1.1.toNat).2.1 == (gt S43 g.1.2.1.1 g.1.2.2.1.1.toNat).2.1 &&
                  ((gt S43 g.1.1.1 g.1.2.2.1.1.toNat).2.2.1 == (gt S43 g.1.2.1.1 g.1.2.2.1.1.toNat).2.2.1 &&
                    ((gt S43 g.1.1.1 g.1.2.2.1.1.toNat).2.2.2 == (gt S43 g.1.2.1.1 g.1.2.2.1.1.toNat).2.2.2 && true)) &&
                true)) then
        some (((false, ()), ()), ())
      else L (((g.1.1.1, ()), (g.1.2.1.1, ()), (Go.IntKind.i64.wrap (g.1.2.2.1.1 + (1 : Int)), ()), ()), ())
    else none
  else none
else some (((true, ()), ()), ())
theorem e20_eq (k : Nat) (a : List Cel) (b : List Cel) : f20 k (((a, ()), (b, ()), ()), ()) = bif (↑a.length : Int) != (↑b.length : Int) then some (((false, ()), ()), ())
else loopN e20_0 k (((a, ()), (b, ()), ((0 : Int), ()), ()), ()) := by kernel_rfl
def e11_0 (k : Nat) (a : Int) (b : Int) (c : List (List (Int × Int × Int × Int))) (d : Int) (e : Int) (g0 : Bool) (h : Int) (i : Int) (j : List (List (Int × Int × Int × Int))) (l : Int) (m : Int) (n : Bool) (g : ((PUnit × PUnit) × (PUnit × PUnit) × (Int × PUnit) × (Int × PUnit) × PUnit) ×
  ((Int × Int × List (List (Int × Int × Int × Int)) × Int × Int × Bool) × PUnit) ×
    ((Int × Int × List (List (Int × Int × Int × Int)) × Int × Int × Bool) × PUnit) × PUnit) (L : ((PUnit × PUnit) × (PUnit × PUnit) × (Int × PUnit) × (Int × PUnit) × PUnit) ×
    ((Int × Int × List (List (Int × Int × Int × Int)) × Int × Int × Bool) × PUnit) ×
      ((Int × Int × List (List (Int × Int × Int × Int)) × Int × Int × Bool) × PUnit) × PUnit →
  Option (((Bool × PUnit) × PUnit) × PUnit)) : Option (((Bool × PUnit) × PUnit) × PUnit) := bif decide (g.1.2.2.2.1.1 < g.1.2.2.1.1) then
  bif decide ((0 : Int) ≤ g.1.2.2.2.1.1 ∧ g.1.2.2.2.1.1 < (↑g.2.1.1.2.2.1.length : Int)) then
    bif decide ((0 : Int) ≤ g.1.2.2.2.1.1 ∧ g.1.2.2.2.1.1 < (↑g.2.2.1.1.2.2.1.length : Int)) then
      (f20 k
            (((gt
                    S43.sl
                    g.2.1.1.2.2.1 g.1.2.2.2.1.1.toNat,
                  ()),
                (gt
                    S43.sl
                    g.2.2.1.1.2.2.1 g.1.2.2.2.1.1.toNat,
                  ()),
                ()),
              ())).bind
        fun v =>
        bif !v.1.1.1 then some (((false, ()), ()), ())
        else
          L
            ((((), ()), ((), ()), (g.1.2.2.1.1, ()), (Go.IntKind.i64.wrap (g.1.2.2.2.1.1 + (1 : Int)), ()), ()),
              ((g.2.1.1.1, g.2.1.1.2.1, g.2.1.1.2.2.1, g.2.1.1.2.2.2.1, g.2.1.1.2.2.2.2.1, g.2.1.1.2.2.2.2.2), ()),
              ((g.2.2.1.1.1, g.2.2.1.1.2.1, g.2.2.1.1.2.2.1, g.2.2.1.1.2.2.2.1, g.2.2.1.1.2.2.2.2.1,
                  g.2.2.1.1.2.2.2.2.2),
                ()),
              ())
    else none
  else none
else some (((true, ()), ()), ())
theorem e11_eq (k : Nat) (a : Int) (b : Int) (c : List (List (Int × Int × Int × Int))) (d : Int) (e : Int) (g : Bool) (h : Int) (i : Int) (j : List (List (Int × Int × Int × Int))) (l : Int) (m : Int) (n : Bool) : f11 k ((((a, b, c, d, e, g), ()), ((h, i, j, l, m, n), ()), ()), ()) = bif a != h then some (((false, ()), ()), ())
else
  bif b != i then some (((false, ()), ()), ())
  else
    bif d != l then some (((false, ()), ()), ())
    else
      bif e != m then some (((false, ()), ()), ())
      else
        bif !g == n then some (((false, ()), ()), ())
        else
          bif (↑c.length : Int) != (↑j.length : Int) then some (((false, ()), ()), ())
          else
            loopN (e11_0 k a b c d e g h i j l m n) k
              ((((), ()), ((), ()), ((↑c.length : Int), ()), ((0 : Int), ()), ()), ((a, b, c, d, e, g), ()),
                ((h, i, j, l, m, n), ()), ()) := by kernel_rfl
theorem e12_eq (k : Nat) (a : Int) (b : Int) (c : List (List (Int × Int × Int × Int))) (d : Int) (e : Int) (g : Bool) : f12 k ((((a, b, c, d, e, g), ()), ()), ()) = some ((((a, b, c, d, e, g), ()), ()), ()) := by kernel_rfl
theorem e67_eq (k : Nat) (a : Int) : f67 k (((a, ()), ()), ()) = bif decide (a ≥ (0 : Int)) then
  bif decide (a ≤ (256 : Int)) then some (((true, ()), ()), ())
  else
    bif decide (a ≥ (16777216 : Int)) then some (((decide (a < (33554432 : Int)), ()), ()), ())
    else some (((false, ()), ()), ())
else
  bif decide (a ≥ (16777216 : Int)) then some (((decide (a < (33554432 : Int)), ()), ()), ())
  else some (((false, ()), ()), ()) := by kernel_rfl
theorem e55_eq (k : Nat) (a : Int) (b : Int) (c : Int) : f55 k ((((a, b, c), ()), ()), ()) = (f67 k (((a, ()), ()), ())).bind fun v =>
  bif v.1.1.1 then
    (f67 k (((b, ()), ()), ())).bind fun v =>
      bif v.1.1.1 then
        some
          (((Go.IntKind.i64.wrap
                    (↑(BitVec.ofInt Go.IntKind.i64.bits c &&& ~~~BitVec.ofInt Go.IntKind.i64.bits (31 : Int)).toNat :
                      Int) ==
                  (0 : Int),
                ()),
              ()),
            ())
      else some (((false, ()), ()), ())
  else some (((false, ()), ()), ()) := by kernel_rfl
def e36_0 (k : Nat) (a : List Cel) (g : ((List (Int × Int × Int × Int) × PUnit) × (Int × PUnit) × PUnit) × PUnit) (L : ((List (Int × Int × Int × Int) × PUnit) × (Int × PUnit) × PUnit) × PUnit → Option (((Bool × PUnit) × PUnit) × PUnit)) : Option (((Bool × PUnit) × PUnit) × PUnit) := bif decide (g.1.2.1.1 < (↑g.1.1.1.length : Int)) then
  bif decide ((0 : Int) ≤ g.1.2.1.1 ∧ g.1.2.1.1 < (↑g.1.1.1.length : Int)) then
    (f50 k ((((gt S43 g.1.1.1 g.1.2.1.1.toNat).1, ()), ()), ())).bind fun v =>
      bif v.1.1.1 == (0 : Int) then some (((false, ()), ()), ())
      else
        bif decide ((0 : Int) ≤ g.1.2.1.1 ∧ g.1.2.1.1 < (↑g.1.1.1.length : Int)) then
          (f55 k
                (((((gt S43 g.1.1.1 g.1.2.1.1.toNat).2.1, (gt S43 g.1.1.1 g.1.2.1.1.toNat).2.2.1,
                        (gt S43 g.1.1.1 g.1.2.1.1.toNat).2.2.2),
                      ()),
                    ()),
                  ())).bind
            fun v_1 =>
            bif !v_1.1.1.1 then some (((false, ()), ()), ())
            else
              bif v.1.1.1 == (2 : Int) then
                bif Go.IntKind.i64.wrap (g.1.2.1.1 + (1 : Int)) == (↑g.1.1.1.length : Int) then
                  some (((false, ()), ()), ())
                else
                  bif
                      decide
                        ((0 : Int) ≤ Go.IntKind.i64.wrap (g.1.2.1.1 + (1 : Int)) ∧
                          Go.IntKind.i64.wrap (g.1.2.1.1 + (1 : Int)) < (↑g.1.1.1.length : Int)) then
                    bif
                        decide
                          ((0 : Int) ≤ Go.IntKind.i64.wrap (Go.IntKind.i64.wrap (g.1.2.1.1 + (1 : Int)) - (1 : Int)) ∧
                            Go.IntKind.i64.wrap (Go.IntKind.i64.wrap (g.1.2.1.1 + (1 : Int)) - (1 : Int)) <
                              (↑g.1.1.1.length : Int)) then
                      bif
                          !((gt S43 g.1.1.1 (Go.IntKind.i64.wrap (g.1.2.1.1 + (1 : Int))).toNat).1 == (0 : Int) &&
                              ((gt S43 g.1.1.1 (Go.IntKind.i64.wrap (g.1.2.1.1 + (1 : Int))).toNat).2.1 ==
                                    (gt S43 g.1.1.1
                                          (Go.IntKind.i64.wrap
                                              (Go.IntKind.i64.wrap (g.1.2.1.1 + (1 : Int)) - (1 : Int))).toNat).2.1 &&
                                  ((gt S43 g.1.1.1 (Go.IntKind.i64.wrap (g.1.2.1.1 + (1 : Int))).toNat).2.2.1 ==
                                      (gt S43 g.1.1.1
                                              (Go.IntKind.i64.wrap
                                                  (Go.IntKind.i64.wrap (g.1.2.1.1 + (1 : Int)) -
                                                    (1 : Int))).toNat).2.2.1 &&
                                    ((gt S43 g.1.1.1 (Go.IntKind.i64.wrap (g.1.2.1.1 + (1 : Int))).toNat).2.2.2 ==
                                        (gt S43 g.1.1.1
                                                (Go.IntKind.i64.wrap
                                                    (Go.IntKind.i64.wrap (g.1.2.1.1 + (1 : Int)) -
                                                      (1 : Int))).toNat).2.2.2 &&
                                      true)) &&
                                true)) then
                        some (((false, ()), ()), ())
                      else
                        L
                          (((g.1.1.1, ()),
                              (Go.IntKind.i64.wrap (Go.IntKind.i64.wrap (g.1.2.1.1 + (1 : Int)) + (1 : Int)), ()), ()),
                            ())
                    else none
                  else none
              else L (((g.1.1.1, ()), (Go.IntKind.i64.wrap (g.1.2.1.1 + (1 : Int)), ()), ()), ())
        else none
  else none
else some (((true, ()), ()), ())
theorem e36_eq (k : Nat) (a : List Cel) : f36 k (((a, ()), ()), ()) = loopN (e36_0 k a) k (((a, ()), ((0 : Int), ()), ()), ()) := by kernel_rfl
theorem e35_eq (k : Nat) (a : List Cel) (b : Int) (c : Int) (d : List (List (Int × Int × Int × Int))) (e : Int) (g : Int) (h : Bool) : f35 k (((a, ()), ((), ()), ()), ((b, c, d, e, g, h), ()), ()) = bif (↑a.length : Int) != b then some (((true, ()), ()), ())
else (f36 k (((a, ()), ()), ())).bind fun v => some (((!v.1.1.1, ()), ()), ()) := by kernel_rfl
def e54_0 (k : Nat) (a : List (List Cel)) (b : Int) (c : Int) (d : List (List (Int × Int × Int × Int))) (e : Int) (g0 : Int) (h : Bool) (g : ((List (List (Int × Int × Int × Int)) × PUnit) × (PUnit × PUnit) × (Int × PUnit) × (Int × PUnit) × PUnit) × PUnit) (L : ((List (List (Int × Int × Int × Int)) × PUnit) × (PUnit × PUnit) × (Int × PUnit) × (Int × PUnit) × PUnit) × PUnit →
  Option (((Int × PUnit) × PUnit) × PUnit)) : Option (((Int × PUnit) × PUnit) × PUnit) := bif decide (g.1.2.2.2.1.1 < g.1.2.2.1.1) then
  bif decide ((0 : Int) ≤ g.1.2.2.2.1.1 ∧ g.1.2.2.2.1.1 < (↑g.1.1.1.length : Int)) then
    (f35 k (((gt S43.sl g.1.1.1 g.1.2.2.2.1.1.toNat, ()), ((), ()), ()), ((b, c, d, e, g0, h), ()), ())).bind fun v =>
      bif v.1.1.1 then some (((g.1.2.2.2.1.1, ()), ()), ())
      else
        L (((g.1.1.1, ()), ((), ()), (g.1.2.2.1.1, ()), (Go.IntKind.i64.wrap (g.1.2.2.2.1.1 + (1 : Int)), ()), ()), ())
  else none
else some ((((-1 : Int), ()), ()), ())
theorem e54_eq (k : Nat) (a : List (List Cel)) (b : Int) (c : Int) (d : List (List (Int × Int × Int × Int))) (e : Int) (g : Int) (h : Bool) : f54 k (((a, ()), ((), ()), ()), ((b, c, d, e, g, h), ()), ()) = loopN (e54_0 k a b c d e g h) k (((a, ()), ((), ()), ((↑a.length : Int), ()), ((0 : Int), ()), ()), ()) := by kernel_rfl
theorem e34_eq (k : Nat) (a : List (List Cel)) (b : Int) (c : Int) (d : List (List (Int × Int × Int × Int))) (e : Int) (g : Int) (h : Bool) : f34 k (((a, ()), ((), ()), ()), ((b, c, d, e, g, h), ()), ()) = (f54 k (((a, ()), ((), ()), ()), ((b, c, d, e, g, h), ()), ())).bind fun v =>
  some (((decide (v.1.1.1 ≥ (0 : Int)), ()), ()), ()) := by kernel_rfl
theorem e13_eq (k : Nat) (a : Int) (b : Int) (c : List (List (Int × Int × Int × Int))) (d : Int) (e : Int) (g : Bool) : f13 k ((((a, b, c, d, e, g), ()), ()), ()) = bif decide (a < (1 : Int)) then some (((false, ()), ()), ())
else
  bif decide (a > (200 : Int)) then some (((false, ()), ()), ())
  else
    bif decide (b < (1 : Int)) then some (((false, ()), ()), ())
    else
      bif decide (b > (200 : Int)) then some (((false, ()), ()), ())
      else
        bif (↑c.length : Int) != b then some (((false, ()), ()), ())
        else
          bif decide (d < (0 : Int)) then some (((false, ()), ()), ())
          else
            bif decide (d ≥ a) then some (((false, ()), ()), ())
            else
              bif decide (e < (0 : Int)) then some (((false, ()), ()), ())
              else
                bif decide (e ≥ b) then some (((false, ()), ()), ())
                else
                  (f34 k (((c, ()), ((), ()), ()), ((a, b, c, d, e, g), ()), ())).bind fun v =>
                    some (((!v.1.1.1, ()), ()), ()) := by kernel_rfl
theorem e57_eq (k : Nat) (a : Int) : f57 k (((a, ()), ()), ()) = bif decide (a ≥ (0 : Int)) then
  bif decide (a ≤ (256 : Int)) then some (((true, ()), ()), ())
  else
    bif decide (a ≥ (16777216 : Int)) then some (((decide (a < (33554432 : Int)), ()), ()), ())
    else some (((false, ()), ()), ())
else
  bif decide (a ≥ (16777216 : Int)) then some (((decide (a < (33554432 : Int)), ()), ()), ())
  else some (((false, ()), ()), ()) := by kernel_rfl
theorem e40_eq (k : Nat) (a : Int) (b : Int) (c : Int) : f40 k ((((a, b, c), ()), ()), ()) = (f57 k (((a, ()), ()), ())).bind fun v =>
  bif v.1.1.1 then
    (f57 k (((b, ()), ()), ())).bind fun v =>
      bif v.1.1.1 then
        bif decide (c ≥ (0 : Int)) then some (((decide (c < (32 : Int)), ()), ()), ()) else some (((false, ()), ()), ())
      else some (((false, ()), ()), ())
  else some (((false, ()), ()), ()) := by kernel_rfl
theorem e53_eq (k : Nat) (a : Int) (b : Int) (c : Int) (d : Int) : f53 k ((((a, b, c, d), ()), ()), ()) = (f41 k (((a, ()), ()), ())).bind fun v => some (((v.1.1.1 == (2 : Int), ()), ()), ()) := by kernel_rfl
def e32_0 (k : Nat) (a : List Cel) (g : ((List (Int × Int × Int × Int) × PUnit) × (PUnit × PUnit) × (Int × PUnit) × PUnit) ×
  List (Int × Int × Int × Int) × PUnit) (L : ((List (Int × Int × Int × Int) × PUnit) × (PUnit × PUnit) × (Int × PUnit) × PUnit) ×
    List (Int × Int × Int × Int) × PUnit →
  Option (((List (Int × Int × Int × Int) × PUnit) × PUnit) × PUnit)) : Option (((List (Int × Int × Int × Int) × PUnit) × PUnit) × PUnit) := bif decide (g.1.2.2.1.1 < (↑g.1.1.1.length : Int)) then
  bif decide ((0 : Int) ≤ g.1.2.2.1.1 ∧ g.1.2.2.1.1 < (↑g.1.1.1.length : Int)) then
    (f53 k
          (((((gt S43 g.1.1.1 g.1.2.2.1.1.toNat).1, (gt S43 g.1.1.1 g.1.2.2.1.1.toNat).2.1,
                  (gt S43 g.1.1.1 g.1.2.2.1.1.toNat).2.2.1, (gt S43 g.1.1.1 g.1.2.2.1.1.toNat).2.2.2),
                ()),
              ()),
            ())).bind
      fun v =>
      bif v.1.1.1 then
        bif decide (Go.IntKind.i64.wrap (g.1.2.2.1.1 + (1 : Int)) < (↑g.1.1.1.length : Int)) then
          bif
              decide
                ((0 : Int) ≤ Go.IntKind.i64.wrap (g.1.2.2.1.1 + (1 : Int)) ∧
                  Go.IntKind.i64.wrap (g.1.2.2.1.1 + (1 : Int)) < (↑g.1.1.1.length : Int)) then
            bif (gt S43 g.1.1.1 (Go.IntKind.i64.wrap (g.1.2.2.1.1 + (1 : Int))).toNat).1 == (0 : Int) then
              bif decide ((0 : Int) ≤ g.1.2.2.1.1 ∧ g.1.2.2.1.1 < (↑g.1.1.1.length : Int)) then
                bif
                    decide
                      ((0 : Int) ≤ Go.IntKind.i64.wrap (g.1.2.2.1.1 + (1 : Int)) ∧
                        Go.IntKind.i64.wrap (g.1.2.2.1.1 + (1 : Int)) < (↑g.1.1.1.length : Int)) then
                  bif
                      ((g.2.1.length +
                              [((gt S43 g.1.1.1 g.1.2.2.1.1.toNat).1, (gt S43 g.1.1.1 g.1.2.2.1.1.toNat).2.1,
                                    (gt S43 g.1.1.1 g.1.2.2.1.1.toNat).2.2.1, (gt S43 g.1.1.1 g.1.2.2.1.1.toNat).2.2.2),
                                  ((gt S43 g.1.1.1 (Go.IntKind.i64.wrap (g.1.2.2.1.1 + (1 : Int))).toNat).1,
                                    (gt S43 g.1.1.1 (Go.IntKind.i64.wrap (g.1.2.2.1.1 + (1 : Int))).toNat).2.1,
                                    (gt S43 g.1.1.1 (Go.IntKind.i64.wrap (g.1.2.2.1.1 + (1 : Int))).toNat).2.2.1,
                                    (gt S43 g.1.1.1
                                            (Go.IntKind.i64.wrap (g.1.2.2.1.1 + (1 : Int))).toNat).2.2.2)].length) *
                            (32 : Nat)).ble
                        (140737488355328 : Nat) then
                    L
                      (((g.1.1.1, ()), ((), ()), (Go.IntKind.i64.wrap (g.1.2.2.1.1 + (2 : Int)), ()), ()),
                        g.2.1 ++
                          [((gt S43 g.1.1.1 g.1.2.2.1.1.toNat).1, (gt S43 g.1.1.1 g.1.2.2.1.1.toNat).2.1,
                              (gt S43 g.1.1.1 g.1.2.2.1.1.toNat).2.2.1, (gt S43 g.1.1.1 g.1.2.2.1.1.toNat).2.2.2),
                            ((gt S43 g.1.1.1 (Go.IntKind.i64.wrap (g.1.2.2.1.1 + (1 : Int))).toNat).1,
                              (gt S43 g.1.1.1 (Go.IntKind.i64.wrap (g.1.2.2.1.1 + (1 : Int))).toNat).2.1,
                              (gt S43 g.1.1.1 (Go.IntKind.i64.wrap (g.1.2.2.1.1 + (1 : Int))).toNat).2.2.1,
                              (gt S43 g.1.1.1 (Go.IntKind.i64.wrap (g.1.2.2.1.1 + (1 : Int))).toNat).2.2.2)],
                        ())
                  else none
                else none
              else none
            else
              bif decide ((0 : Int) ≤ g.1.2.2.1.1 ∧ g.1.2.2.1.1 < (↑g.1.1.1.length : Int)) then
                (f53 k
                      (((((gt S43 g.1.1.1 g.1.2.2.1.1.toNat).1, (gt S43 g.1.1.1 g.1.2.2.1.1.toNat).2.1,
                              (gt S43 g.1.1.1 g.1.2.2.1.1.toNat).2.2.1, (gt S43 g.1.1.1 g.1.2.2.1.1.toNat).2.2.2),
                            ()),
                          ()),
                        ())).bind
                  fun v =>
                  bif v.1.1.1 then
                    bif
                        ((g.2.1.length +
                                [((32 : Int), (gt S43 g.1.1.1 g.1.2.2.1.1.toNat).2.1,
                                      (gt S43 g.1.1.1 g.1.2.2.1.1.toNat).2.2.1,
                                      (gt S43 g.1.1.1 g.1.2.2.1.1.toNat).2.2.2)].length) *
                              (32 : Nat)).ble
                          (140737488355328 : Nat) then
                      L
                        (((g.1.1.1, ()), ((), ()), (Go.IntKind.i64.wrap (g.1.2.2.1.1 + (1 : Int)), ()), ()),
                          g.2.1 ++
                            [((32 : Int), (gt S43 g.1.1.1 g.1.2.2.1.1.toNat).2.1,
                                (gt S43 g.1.1.1 g.1.2.2.1.1.toNat).2.2.1, (gt S43 g.1.1.1 g.1.2.2.1.1.toNat).2.2.2)],
                          ())
                    else none
                  else
                    bif (gt S43 g.1.1.1 g.1.2.2.1.1.toNat).1 == (0 : Int) then
                      bif
                          ((g.2.1.length +
                                  [((32 : Int), (gt S43 g.1.1.1 g.1.2.2.1.1.toNat).2.1,
                                        (gt S43 g.1.1.1 g.1.2.2.1.1.toNat).2.2.1,
                                        (gt S43 g.1.1.1 g.1.2.2.1.1.toNat).2.2.2)].length) *
                                (32 : Nat)).ble
                            (140737488355328 : Nat) then
                        L
                          (((g.1.1.1, ()), ((), ()), (Go.IntKind.i64.wrap (g.1.2.2.1.1 + (1 : Int)), ()), ()),
                            g.2.1 ++
                              [((32 : Int), (gt S43 g.1.1.1 g.1.2.2.1.1.toNat).2.1,
                                  (gt S43 g.1.1.1 g.1.2.2.1.1.toNat).2.2.1, (gt S43 g.1.1.1 g.1.2.2.1.1.toNat).2.2.2)],
                            ())
                      else none
                    else
                      bif
                          ((g.2.1.length +
                                  [((gt S43 g.1.1.1 g.1.2.2.1.1.toNat).1, (gt S43 g.1.1.1 g.1.2.2.1.1.toNat).2.1,
                                        (gt S43 g.1.1.1 g.1.2.2.1.1.toNat).2.2.1,
                                        (gt S43 g.1.1.1 g.1.2.2.1.1.toNat).2.2.2)].length) *
                                (32 : Nat)).ble
                            (140737488355328 : Nat) then
                        L
                          (((g.1.1.1, ()), ((), ()), (Go.IntKind.i64.wrap (g.1.2.2.1.1 + (1 : Int)), ()), ()),
                            g.2.1 ++
                              [((gt S43 g.1.1.1 g.1.2.2.1.1.toNat).1, (gt S43 g.1.1.1 g.1.2.2.1.1.toNat).2.1,
                                  (gt S43 g.1.1.1 g.1.2.2.1.1.toNat).2.2.1, (gt S43 g.1.1.1 g.1.2.2.1.1.toNat).2.2.2)],
                            ())
                      else none
              else none
          else none
        else
          bif decide ((0 : Int) ≤ g.1.2.2.1.1 ∧ g.1.2.2.1.1 < (↑g.1.1.1.length : Int)) then
            (f53 k
                  (((((gt S43 g.1.1.1 g.1.2.2.1.1.toNat).1, (gt S43 g.1.1.1 g.1.2.2.1.1.toNat).2.1,
                          (gt S43 g.1.1.1 g.1.2.2.1.1.toNat).2.2.1, (gt S43 g.1.1.1 g.1.2.2.1.1.toNat).2.2.2),
                        ()),
                      ()),
                    ())).bind
              fun v =>
              bif v.1.1.1 then
                bif
                    ((g.2.1.length +
                            [((32 : Int), (gt S43 g.1.1.1 g.1.2.2.1.1.toNat).2.1,
                                  (gt S43 g.1.1.1 g.1.2.2.1.1.toNat).2.2.1,
                                  (gt S43 g.1.1.1 g.1.2.2.1.1.toNat).2.2.2)].length) *
                          (32 : Nat)).ble
                      (140737488355328 : Nat) then
                  L
                    (((g.1.1.1, ()), ((), ()), (Go.IntKind.i64.wrap (g.1.2.2.1.1 + (1 : Int)), ()), ()),
                      g.2.1 ++
                        [((32 : Int), (gt S43 g.1.1.1 g.1.2.2.1.1.toNat).2.1, (gt S43 g.1.1.1 g.1.2.2.1.1.toNat).2.2.1,
                            (gt S43 g.1.1.1 g.1.2.2.1.1.toNat).2.2.2)],
                      ())
                else none
              else
                bif (gt S43 g.1.1.1 g.1.2.2.1.1.toNat).1 == (0 : Int) then
                  bif
                      ((g.2.1.length +
                              [((32 : Int), (gt S43 g.1.1.1 g.1.2.2.1.1.toNat).2.1,
                                    (gt S43 g.1.1.1 g.1.2.2.1.1.toNat).2.2.1,
                                    (gt S43 g.1.1.1 g.1.2.2.1.1.toNat).2.2.2)].length) *
                            (32 : Nat)).ble
                        (140737488355328 : Nat) then
                    L
                      (((g.1.1.1, ()), ((), ()), (Go.IntKind.i64.wrap (g.1.2.2.1.1 + (1 : Int)), ()), ()),
                        g.2.1 ++
                          [((32 : Int), (gt S43 g.1.1.1 g.1.2.2.1.1.toNat).2.1,
                              (gt S43 g.1.1.1 g.1.2.2.1.1.toNat).2.2.1, (gt S43 g.1.1.1 g.1.2.2.1.1.toNat).2.2.2)],
                        ())
                  else none
                else
                  bif
                      ((g.2.1.length +
                              [((gt S43 g.1.1.1 g.1.2.2.1.1.toNat).1, (gt S43 g.1.1.1 g.1.2.2.1.1.toNat).2.1,
                                    (gt S43 g.1.1.1 g.1.2.2.1.1.toNat).2.2.1,
                                    (gt S43 g.1.1.1 g.1.2.2.1.1.toNat).2.2.2)].length) *
                            (32 : Nat)).ble
                        (140737488355328 : Nat) then
                    L
                      (((g.1.1.1, ()), ((), ()), (Go.IntKind.i64.wrap (g.1.2.2.1.1 + (1 : Int)), ()), ()),
                        g.2.1 ++
                          [((gt S43 g.1.1.1 g.1.2.2.1.1.toNat).1, (gt S43 g.1.1.1 g.1.2.2.1.1.toNat).2.1,
                              (gt S43 g.1.1.1 g.1.2.2.1.1.toNat).2.2.1, (gt S43 g.1.1.1 g.1.2.2.1.1.toNat).2.2.2)],
                        ())
                  else none
          else none
      else
        bif decide ((0 : Int) ≤ g.1.2.2.1.1 ∧ g.1.2.2.1.1 < (↑g.1.1.1.length : Int)) then
          (f53 k
                (((((gt S43 g.1.1.1 g.1.2.2.1.1.toNat).1, (gt S43 g.1.1.1 g.1.2.2.1.1.toNat).2.1,
                        (gt S43 g.1.1.1 g.1.2.2.1.1.toNat).2.2.1, (gt S43 g.1.1.1 g.1.2.2.1.1.toNat).2.2.2),
                      ()),
                    ()),
                  ())).bind
            fun v =>
            bif v.1.1.1 then
              bif
                  ((g.2.1.length +
                          [((32 : Int), (gt S43 g.1.1.1 g.1.2.2.1.1.toNat).2.1,
                                (gt S43 g.1.1.1 g.1.2.2.1.1.toNat).2.2.1,
                                (gt S43 g.1.1.1 g.1.2.2.1.1.toNat).2.2.2)].length) *
                        (32 : Nat)).ble
                    (140737488355328 : Nat) then
                L
                  (((g.1.1.1, ()), ((), ()), (Go.IntKind.i64.wrap (g.1.2.2.1.1 + (1 : Int)), ()), ()),
                    g.2.1 ++
                      [((32 : Int), (gt S43 g.1.1.1 g.1.2.2.1.1.toNat).2.1, (gt S43 g.1.1.1 g.1.2.2.1.1.toNat).2.2.1,
                          (gt S43 g.1.1.1 g.1.2.2.1.1.toNat).2.2.2)],
                    ())
              else none
            else
              bif (gt S43 g.1.1.1 g.1.2.2.1.1.toNat).1 == (0 : Int) then
                bif
                    ((g.2.1.length +
                            [((32 : Int), (gt S43 g.1.1.1 g.1.2.2.1.1.toNat).2.1,
                                  (gt S43 g.1.1.1 g.1.2.2.1.1.toNat).2.2.1,
                                  (gt S43 g.1.1.1 g.1.2.2.1.1.toNat).2.2.2)].length) *
                          (32 : Nat)).ble
                      (140737488355328 : Nat) then
                  L
                    (((g.1.1.1, ()), ((), ()), (Go.IntKind.i64.wrap (g.1.2.2.1.1 + (1 : Int)), ()), ()),
                      g.2.1 ++
                        [((32 : Int), (gt S43 g.1.1.1 g.1.2.2.1.1.toNat).2.1, (gt S43 g.1.1.1 g.1.2.2.1.1.toNat).2.2.1,
                            (gt S43 g.1.1.1 g.1.2.2.1.1.toNat).2.2.2)],
                      ())
                else none
              else
                bif
                    ((g.2.1.length +
                            [((gt S43 g.1.1.1 g.1.2.2.1.1.toNat).1, (gt S43 g.1.1.1 g.1.2.2.1.1.toNat).2.1,
                                  (gt S43 g.1.1.1 g.1.2.2.1.1.toNat).2.2.1,
                                  (gt S43 g.1.1.1 g.1.2.2.1.1.toNat).2.2.2)].length) *
                          (32 : Nat)).ble
                      (140737488355328 : Nat) then
                  L
                    (((g.1.1.1, ()), ((), ()), (Go.IntKind.i64.wrap (g.1.2.2.1.1 + (1 : Int)), ()), ()),
                      g.2.1 ++
                        [((gt S43 g.1.1.1 g.1.2.2.1.1.toNat).1, (gt S43 g.1.1.1 g.1.2.2.1.1.toNat).2.1,
                            (gt S43 g.1.1.1 g.1.2.2.1.1.toNat).2.2.1, (gt S43 g.1.1.1 g.1.2.2.1.1.toNat).2.2.2)],
                      ())
                else none
        else none
  else none
else some (((g.2.1, ()), ()), ())
theorem e32_eq (k : Nat) (a : List Cel) : f32 k (((a, ()), ()), ()) = loopN (e32_0 k a) k (((a, ()), ((), ()), ((0 : Int), ()), ()), [], ()) := by kernel_rfl
def e15_0 (k : Nat) (a : Int) (b : Int) (c : List (List (Int × Int × Int × Int))) (d : Int) (e : Int) (g0 : Bool) (L0 : ((PUnit × PUnit) × (Int × PUnit) × PUnit) ×
    ((Int × Int × List (List (Int × Int × Int × Int)) × Int × Int × Bool) × PUnit) × PUnit →
  Option (((Bool × PUnit) × PUnit) × PUnit)) (g : ((PUnit × PUnit) × (Int × PUnit) × (List (Int × Int × Int × Int) × PUnit) × (Int × PUnit) × PUnit) ×
  ((Int × Int × List (List (Int × Int × Int × Int)) × Int × Int × Bool) × PUnit) × PUnit) (L : ((PUnit × PUnit) × (Int × PUnit) × (List (Int × Int × Int × Int) × PUnit) × (Int × PUnit) × PUnit) ×
    ((Int × Int × List (List (Int × Int × Int × Int)) × Int × Int × Bool) × PUnit) × PUnit →
  Option (((Bool × PUnit) × PUnit) × PUnit)) : Option (((Bool × PUnit) × PUnit) × PUnit) := bif decide (g.1.2.2.2.1.1 < g.2.1.1.1) then
  bif decide ((0 : Int) ≤ g.1.2.2.2.1.1 ∧ g.1.2.2.2.1.1 < (↑g.1.2.2.1.1.length : Int)) then
    (f40 k
          (((((gt S43 g.1.2.2.1.1 g.1.2.2.2.1.1.toNat).2.1, (gt S43 g.1.2.2.1.1 g.1.2.2.2.1.1.toNat).2.2.1,
                  (gt S43 g.1.2.2.1.1 g.1.2.2.2.1.1.toNat).2.2.2),
                ()),
              ()),
            ())).bind
      fun v =>
      bif !v.1.1.1 then some (((false, ()), ()), ())
      else
        bif (gt S43 g.1.2.2.1.1 g.1.2.2.2.1.1.toNat).1 != (0 : Int) then
          (f41 k ((((gt S43 g.1.2.2.1.1 g.1.2.2.2.1.1.toNat).1, ()), ()), ())).bind fun v =>
            bif v.1.1.1 == (0 : Int) then some (((false, ()), ()), ())
            else
              bif (gt S43 g.1.2.2.1.1 g.1.2.2.2.1.1.toNat).1 == (0 : Int) then
                bif
                    decide
                      ((0 : Int) ≤ Go.IntKind.i64.wrap (g.1.2.2.2.1.1 - (1 : Int)) ∧
                        Go.IntKind.i64.wrap (g.1.2.2.2.1.1 - (1 : Int)) < (↑g.1.2.2.1.1.length : Int)) then
                  bif
                      !((gt S43 g.1.2.2.1.1 (Go.IntKind.i64.wrap (g.1.2.2.2.1.1 - (1 : Int))).toNat).2.1 ==
                            (gt S43 g.1.2.2.1.1 g.1.2.2.2.1.1.toNat).2.1 &&
                          ((gt S43 g.1.2.2.1.1 (Go.IntKind.i64.wrap (g.1.2.2.2.1.1 - (1 : Int))).toNat).2.2.1 ==
                              (gt S43 g.1.2.2.1.1 g.1.2.2.2.1.1.toNat).2.2.1 &&
                            ((gt S43 g.1.2.2.1.1 (Go.IntKind.i64.wrap (g.1.2.2.2.1.1 - (1 : Int))).toNat).2.2.2 ==
                                (gt S43 g.1.2.2.1.1 g.1.2.2.2.1.1.toNat).2.2.2 &&
                              true))) then
                    some (((false, ()), ()), ())
                  else
                    L
                      ((((), ()), (g.1.2.1.1, ()), (g.1.2.2.1.1, ()),
                          (Go.IntKind.i64.wrap (g.1.2.2.2.1.1 + (1 : Int)), ()), ()),
                        ((g.2.1.1.1, g.2.1.1.2.1, g.2.1.1.2.2.1, g.2.1.1.2.2.2.1, g.2.1.1.2.2.2.2.1, g.2.1.1.2.2.2.2.2),
                          ()),
                        ())
                else none
              else
                L
                  ((((), ()), (g.1.2.1.1, ()), (g.1.2.2.1.1, ()), (Go.IntKind.i64.wrap (g.1.2.2.2.1.1 + (1 : Int)), ()),
                      ()),
                    ((g.2.1.1.1, g.2.1.1.2.1, g.2.1.1.2.2.1, g.2.1.1.2.2.2.1, g.2.1.1.2.2.2.2.1, g.2.1.1.2.2.2.2.2),
                      ()),
                    ())
        else
          bif (gt S43 g.1.2.2.1.1 g.1.2.2.2.1.1.toNat).1 == (0 : Int) then
            bif
                decide
                  ((0 : Int) ≤ Go.IntKind.i64.wrap (g.1.2.2.2.1.1 - (1 : Int)) ∧
                    Go.IntKind.i64.wrap (g.1.2.2.2.1.1 - (1 : Int)) < (↑g.1.2.2.1.1.length : Int)) then
              bif
                  !((gt S43 g.1.2.2.1.1 (Go.IntKind.i64.wrap (g.1.2.2.2.1.1 - (1 : Int))).toNat).2.1 ==
                        (gt S43 g.1.2.2.1.1 g.1.2.2.2.1.1.toNat).2.1 &&
                      ((gt S43 g.1.2.2.1.1 (Go.IntKind.i64.wrap (g.1.2.2.2.1.1 - (1 : Int))).toNat).2.2.1 ==
                          (gt S43 g.1.2.2.1.1 g.1.2.2.2.1.1.toNat).2.2.1 &&
                        ((gt S43 g.1.2.2.1.1 (Go.IntKind.i64.wrap (g.1.2.2.2.1.1 - (1 : Int))).toNat).2.2.2 ==
                            (gt S43 g.1.2.2.1.1 g.1.2.2.2.1.1.toNat).2.2.2 &&
                          true))) then
                some (((false, ()), ()), ())
              else
                L
                  ((((), ()), (g.1.2.1.1, ()), (g.1.2.2.1.1, ()), (Go.IntKind.i64.wrap (g.1.2.2.2.1.1 + (1 : Int)), ()),
                      ()),
                    ((g.2.1.1.1, g.2.1.1.2.1, g.2.1.1.2.2.1, g.2.1.1.2.2.2.1, g.2.1.1.2.2.2.2.1, g.2.1.1.2.2.2.2.2),
                      ()),
                    ())
            else none
          else
            L
              ((((), ()), (g.1.2.1.1, ()), (g.1.2.2.1.1, ()), (Go.IntKind.i64.wrap (g.1.2.2.2.1.1 + (1 : Int)), ()),
                  ()),
                ((g.2.1.1.1, g.2.1.1.2.1, g.2.1.1.2.2.1, g.2.1.1.2.2.2.1, g.2.1.1.2.2.2.2.1, g.2.1.1.2.2.2.2.2), ()),
                ())
  else none
else
  L0
    ((((), ()), (Go.IntKind.i64.wrap (g.1.2.1.1 + (1 : Int)), ()), ()),
      ((g.2.1.1.1, g.2.1.1.2.1, g.2.1.1.2.2.1, g.2.1.1.2.2.2.1, g.2.1.1.2.2.2.2.1, g.2.1.1.2.2.2.2.2), ()), ())
def e15_1 (k : Nat) (a : Int) (b : Int) (c : List (List (Int × Int × Int × Int))) (d : Int) (e : Int) (g0 : Bool) (g : ((PUnit × PUnit) × (Int × PUnit) × PUnit) ×
  ((Int × Int × List (List (Int × Int × Int × Int)) × Int × Int × Bool) × PUnit) × PUnit) (L : ((PUnit × PUnit) × (Int × PUnit) × PUnit) ×
    ((Int × Int × List (List (Int × Int × Int × Int)) × Int × Int × Bool) × PUnit) × PUnit →
  Option (((Bool × PUnit) × PUnit) × PUnit)) : Option (((Bool × PUnit) × PUnit) × PUnit) := bif decide (g.1.2.1.1 < g.2.1.1.2.1) then
  bif decide ((0 : Int) ≤ g.1.2.1.1 ∧ g.1.2.1.1 < (↑g.2.1.1.2.2.1.length : Int)) then
    bif
        (↑(List.length
                (gt
                  S43.sl
                  g.2.1.1.2.2.1 g.1.2.1.1.toNat)) :
            Int) !=
          g.2.1.1.1 then
      some (((false, ()), ()), ())
    else
      (f32 k
            (((gt
                    S43.sl
                    g.2.1.1.2.2.1 g.1.2.1.1.toNat,
                  ()),
                ()),
              ())).bind
        fun v =>
        (f20 k
              (((v.1.1.1, ()),
                  (gt
                      S43.sl
                      g.2.1.1.2.2.1 g.1.2.1.1.toNat,
                    ()),
                  ()),
                ())).bind
          fun v =>
          bif !v.1.1.1 then some (((false, ()), ()), ())
          else
            loopN (e15_0 k a b c d e g0 L) k
              ((((), ()), (g.1.2.1.1, ()),
                  (gt
                      S43.sl
                      g.2.1.1.2.2.1 g.1.2.1.1.toNat,
                    ()),
                  ((0 : Int), ()), ()),
                ((g.2.1.1.1, g.2.1.1.2.1, g.2.1.1.2.2.1, g.2.1.1.2.2.2.1, g.2.1.1.2.2.2.2.1, g.2.1.1.2.2.2.2.2), ()),
                ())
  else none
else some (((true, ()), ()), ())
theorem e15_eq (k : Nat) (a : Int) (b : Int) (c : List (List (Int × Int × Int × Int))) (d : Int) (e : Int) (g : Bool) : f15 k ((((a, b, c, d, e, g), ()), ()), ()) = bif decide (a < (1 : Int)) then some (((false, ()), ()), ())
else
  bif decide (a > (200 : Int)) then some (((false, ()), ()), ())
  else
    bif decide (b < (1 : Int)) then some (((false, ()), ()), ())
    else
      bif decide (b > (200 : Int)) then some (((false, ()), ()), ())
      else
        bif (↑c.length : Int) != b then some (((false, ()), ()), ())
        else
          bif decide (d < (0 : Int)) then some (((false, ()), ()), ())
          else
            bif decide (d ≥ a) then some (((false, ()), ()), ())
            else
              bif decide (e < (0 : Int)) then some (((false, ()), ()), ())
              else
                bif decide (e ≥ b) then some (((false, ()), ()), ())
                else loopN (e15_1 k a b c d e g) k ((((), ()), ((0 : Int), ()), ()), ((a, b, c, d, e, g), ()), ()) := by kernel_rfl
def e4_0 (L0 : ((PUnit × PUnit) ×
      (PUnit × PUnit) × (List (List (Int × Int × Int × Int)) × PUnit) × (Int × PUnit) × (Int × PUnit) × PUnit) ×
    ((Int × Int × List (List (Int × Int × Int × Int)) × Int × Int × Bool) × PUnit) ×
      ((Int × Int × List (List (Int × Int × Int × Int)) × Int × Int × Bool) × PUnit) × PUnit →
  Option (((Bool × PUnit) × PUnit) × PUnit)) (g : ((PUnit × PUnit) ×
    (PUnit × PUnit) ×
      (List (List (Int × Int × Int × Int)) × PUnit) ×
        (Int × PUnit) ×
          (Int × PUnit) × (List (Int × Int × Int × Int) × PUnit) × (Int × PUnit) × (Int × PUnit) × PUnit) ×
  ((Int × Int × List (List (Int × Int × Int × Int)) × Int × Int × Bool) × PUnit) ×
    ((Int × Int × List (List (Int × Int × Int × Int)) × Int × Int × Bool) × PUnit) × PUnit) (L : ((PUnit × PUnit) ×
      (PUnit × PUnit) ×
        (List (List (Int × Int × Int × Int)) × PUnit) ×
          (Int × PUnit) ×
            (Int × PUnit) × (List (Int × Int × Int × Int) × PUnit) × (Int × PUnit) × (Int × PUnit) × PUnit) ×
    ((Int × Int × List (List (Int × Int × Int × Int)) × Int × Int × Bool) × PUnit) ×
      ((Int × Int × List (List (Int × Int × Int × Int)) × Int × Int × Bool) × PUnit) × PUnit →
  Option (((Bool × PUnit) × PUnit) × PUnit)) : Option (((Bool × PUnit) × PUnit) × PUnit) := bif decide (g.1.2.2.2.2.2.2.2.1.1 < g.1.2.2.2.2.2.2.1.1) then
  bif decide ((0 : Int) ≤ g.1.2.2.2.2.2.2.2.1.1 ∧ g.1.2.2.2.2.2.2.2.1.1 < (↑g.1.2.2.2.2.2.1.1.length : Int)) then
    bif
        !((gt S43 g.1.2.2.2.2.2.1.1 g.1.2.2.2.2.2.2.2.1.1.toNat).1 == (32 : Int) &&
            ((gt S43 g.1.2.2.2.2.2.1.1 g.1.2.2.2.2.2.2.2.1.1.toNat).2.1 == (0 : Int) &&
                ((gt S43 g.1.2.2.2.2.2.1.1 g.1.2.2.2.2.2.2.2.1.1.toNat).2.2.1 == (0 : Int) &&
                  ((gt S43 g.1.2.2.2.2.2.1.1 g.1.2.2.2.2.2.2.2.1.1.toNat).2.2.2 == (0 : Int) && true)) &&
              true)) then
      some (((false, ()), ()), ())
    else
      L
        ((((), ()), ((), ()), (g.1.2.2.1.1, ()), (g.1.2.2.2.1.1, ()), (g.1.2.2.2.2.1.1, ()), (g.1.2.2.2.2.2.1.1, ()),
            (g.1.2.2.2.2.2.2.1.1, ()), (Go.IntKind.i64.wrap (g.1.2.2.2.2.2.2.2.1.1 + (1 : Int)), ()), ()),
          ((g.2.1.1.1, g.2.1.1.2.1, g.2.1.1.2.2.1, g.2.1.1.2.2.2.1, g.2.1.1.2.2.2.2.1, g.2.1.1.2.2.2.2.2), ()),
          ((g.2.2.1.1.1, g.2.2.1.1.2.1, g.2.2.1.1.2.2.1, g.2.2.1.1.2.2.2.1, g.2.2.1.1.2.2.2.2.1, g.2.2.1.1.2.2.2.2.2),
            ()),
          ())
  else none
else
  L0
    ((((), ()), ((), ()), (g.1.2.2.1.1, ()), (g.1.2.2.2.1.1, ()),
        (Go.IntKind.i64.wrap (g.1.2.2.2.2.1.1 + (1 : Int)), ()), ()),
      ((g.2.1.1.1, g.2.1.1.2.1, g.2.1.1.2.2.1, g.2.1.1.2.2.2.1, g.2.1.1.2.2.2.2.1, g.2.1.1.2.2.2.2.2), ()),
      ((g.2.2.1.1.1, g.2.2.1.1.2.1, g.2.2.1.1.2.2.1, g.2.2.1.1.2.2.2.1, g.2.2.1.1.2.2.2.2.1, g.2.2.1.1.2.2.2.2.2), ()),
      ())
def e4_1 (k : Nat) (a : Int) (b : Int) (c : List (List (Int × Int × Int × Int))) (d : Int) (e : Int) (g0 : Bool) (h : Int) (i : Int) (j : List (List (Int × Int × Int × Int))) (l : Int) (m : Int) (n : Bool) (o : Int) (p : Int) (g : ((PUnit × PUnit) ×
    (PUnit × PUnit) × (List (List (Int × Int × Int × Int)) × PUnit) × (Int × PUnit) × (Int × PUnit) × PUnit) ×
  ((Int × Int × List (List (Int × Int × Int × Int)) × Int × Int × Bool) × PUnit) ×
    ((Int × Int × List (List (Int × Int × Int × Int)) × Int × Int × Bool) × PUnit) × PUnit) (L : ((PUnit × PUnit) ×
      (PUnit × PUnit) × (List (List (Int × Int × Int × Int)) × PUnit) × (Int × PUnit) × (Int × PUnit) × PUnit) ×
    ((Int × Int × List (List (Int × Int × Int × Int)) × Int × Int × Bool) × PUnit) ×
      ((Int × Int × List (List (Int × Int × Int × Int)) × Int × Int × Bool) × PUnit) × PUnit →
  Option (((Bool × PUnit) × PUnit) × PUnit)) : Option (((Bool × PUnit) × PUnit) × PUnit) := bif decide (g.1.2.2.2.2.1.1 < g.1.2.2.2.1.1) then
  bif decide ((0 : Int) ≤ g.1.2.2.2.2.1.1 ∧ g.1.2.2.2.2.1.1 < (↑g.1.2.2.1.1.length : Int)) then
    loopN (e4_0 L) k
      ((((), ()), ((), ()), (g.1.2.2.1.1, ()), (g.1.2.2.2.1.1, ()), (g.1.2.2.2.2.1.1, ()),
          (gt S43.sl g.1.2.2.1.1 g.1.2.2.2.2.1.1.toNat, ()),
          ((↑(List.length (gt S43.sl g.1.2.2.1.1 g.1.2.2.2.2.1.1.toNat)) : Int), ()), ((0 : Int), ()), ()),
        ((g.2.1.1.1, g.2.1.1.2.1, g.2.1.1.2.2.1, g.2.1.1.2.2.2.1, g.2.1.1.2.2.2.2.1, g.2.1.1.2.2.2.2.2), ()),
        ((g.2.2.1.1.1, g.2.2.1.1.2.1, g.2.2.1.1.2.2.1, g.2.2.1.1.2.2.2.1, g.2.2.1.1.2.2.2.2.1, g.2.2.1.1.2.2.2.2.2),
          ()),
        ())
  else none
else
  (f13 k
        ((((g.2.1.1.1, g.2.1.1.2.1, g.2.1.1.2.2.1, g.2.1.1.2.2.2.1, g.2.1.1.2.2.2.2.1, g.2.1.1.2.2.2.2.2), ()), ()),
          ())).bind
    fun v =>
    (f12 k
          ((((g.2.1.1.1, g.2.1.1.2.1, g.2.1.1.2.2.1, g.2.1.1.2.2.2.1, g.2.1.1.2.2.2.2.1, g.2.1.1.2.2.2.2.2), ()), ()),
            ())).bind
      fun v_1 =>
      (f15 k
            ((((v_1.1.1.1.1, v_1.1.1.1.2.1, v_1.1.1.1.2.2.1, v_1.1.1.1.2.2.2.1, v_1.1.1.1.2.2.2.2.1,
                    v_1.1.1.1.2.2.2.2.2),
                  ()),
                ()),
              ())).bind
        fun v_2 =>
        bif v.1.1.1 == v_2.1.1.1 then
          (f16 k
                ((((g.2.1.1.1, g.2.1.1.2.1, g.2.1.1.2.2.1, g.2.1.1.2.2.2.1, g.2.1.1.2.2.2.2.1, g.2.1.1.2.2.2.2.2), ()),
                    ((g.2.2.1.1.1, g.2.2.1.1.2.1, g.2.2.1.1.2.2.1, g.2.2.1.1.2.2.2.1, g.2.2.1.1.2.2.2.2.1,
                        g.2.2.1.1.2.2.2.2.2),
                      ()),
                    ()),
                  ())).bind
            fun v_3 =>
            (f12 k
                  ((((g.2.1.1.1, g.2.1.1.2.1, g.2.1.1.2.2.1, g.2.1.1.2.2.2.1, g.2.1.1.2.2.2.2.1, g.2.1.1.2.2.2.2.2),
                        ()),
                      ()),
                    ())).bind
              fun v_4 =>
              (f12 k
                    ((((g.2.2.1.1.1, g.2.2.1.1.2.1, g.2.2.1.1.2.2.1, g.2.2.1.1.2.2.2.1, g.2.2.1.1.2.2.2.2.1,
                            g.2.2.1.1.2.2.2.2.2),
                          ()),
                        ()),
                      ())).bind
                fun v_5 =>
                (f11 k
                      ((((v_4.1.1.1.1, v_4.1.1.1.2.1, v_4.1.1.1.2.2.1, v_4.1.1.1.2.2.2.1, v_4.1.1.1.2.2.2.2.1,
                              v_4.1.1.1.2.2.2.2.2),
                            ()),
                          ((v_5.1.1.1.1, v_5.1.1.1.2.1, v_5.1.1.1.2.2.1, v_5.1.1.1.2.2.2.1, v_5.1.1.1.2.2.2.2.1,
                              v_5.1.1.1.2.2.2.2.2),
                            ()),
                          ()),
                        ())).bind
                  fun v_6 =>
                  bif v_3.1.1.1 == v_6.1.1.1 then
                    (f16 k
                          ((((g.2.1.1.1, g.2.1.1.2.1, g.2.1.1.2.2.1, g.2.1.1.2.2.2.1, g.2.1.1.2.2.2.2.1,
                                  g.2.1.1.2.2.2.2.2),
                                ()),
                              ((g.2.1.1.1, g.2.1.1.2.1, g.2.1.1.2.2.1, g.2.1.1.2.2.2.1, g.2.1.1.2.2.2.2.1,
                                  g.2.1.1.2.2.2.2.2),
                                ()),
                              ()),
                            ())).bind
                      fun v => some (((v.1.1.1, ()), ()), ())
                  else some (((false, ()), ()), ())
        else some (((false, ()), ()), ())
theorem e4_eq (k : Nat) (a : Int) (b : Int) (c : List (List (Int × Int × Int × Int))) (d : Int) (e : Int) (g : Bool) (h : Int) (i : Int) (j : List (List (Int × Int × Int × Int))) (l : Int) (m : Int) (n : Bool) (o : Int) (p : Int) : f4 k ((((a, b, c, d, e, g), ()), ((h, i, j, l, m, n), ()), (o, ()), (p, ()), ()), ()) = (f7 (24 : Nat) ((), ())).bind fun v =>
  bif !v.1.1.1 then some (((false, ()), ()), ())
  else
    (f114 k (((o, ()), (p, ()), ()), ())).bind fun v_1 =>
      (f13 k
            ((((v_1.1.1.1.1, v_1.1.1.1.2.1, v_1.1.1.1.2.2.1, v_1.1.1.1.2.2.2.1, v_1.1.1.1.2.2.2.2.1,
                    v_1.1.1.1.2.2.2.2.2),
                  ()),
                ()),
              ())).bind
        fun v =>
        bif !v.1.1.1 then some (((false, ()), ()), ())
        else
          bif v_1.1.1.1.1 != imin (imax o (1 : Int)) (200 : Int) then some (((false, ()), ()), ())
          else
            bif v_1.1.1.1.2.1 != imin (imax p (1 : Int)) (200 : Int) then some (((false, ()), ()), ())
            else
              bif v_1.1.1.1.2.2.2.1 != (0 : Int) then some (((false, ()), ()), ())
              else
                bif v_1.1.1.1.2.2.2.2.1 != (0 : Int) then some (((false, ()), ()), ())
                else
                  bif !v_1.1.1.1.2.2.2.2.2 then some (((false, ()), ()), ())
                  else
                    loopN (e4_1 k a b c d e g h i j l m n o p) k
                      ((((), ()), ((), ()), (v_1.1.1.1.2.2.1, ()), ((↑(List.length v_1.1.1.1.2.2.1) : Int), ()),
                          ((0 : Int), ()), ()),
                        ((a, b, c, d, e, g), ()), ((h, i, j, l, m, n), ()), ()) := by kernel_rfl
end
end Go.Proofs.YtaklapcbbdcdpaaDoor.Pt
