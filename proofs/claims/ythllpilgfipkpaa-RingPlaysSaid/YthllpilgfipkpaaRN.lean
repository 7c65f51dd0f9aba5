import Derived.Test.YthllpilgfipkpaaRG6
import Derived.Test.YthllpilgfipkpaaRM
namespace Go.Proofs.Ythllpilgfipkpaa.Ring
open Go Go.RowKit Go.Proofs Go.Proofs.Ythllpilgfipkpaa.X
set_option linter.unusedVariables false
set_option linter.unusedSimpArgs false
noncomputable section
/-! Whatever is pushed, popped and shrunk -/
def e6_0 (k : Nat) (a : Int) (xs : List (Int × Int)) (g : ((PUnit × PUnit) × (PUnit × PUnit) × (PUnit × PUnit) × (Int × PUnit) × (Int × PUnit) × PUnit) ×
  (PUnit × Int × Int × Int × PUnit) × List Int × ((List Int × Int × Int) × PUnit) × List Int × PUnit) (L : ((PUnit × PUnit) × (PUnit × PUnit) × (PUnit × PUnit) × (Int × PUnit) × (Int × PUnit) × PUnit) ×
    (PUnit × Int × Int × Int × PUnit) × List Int × ((List Int × Int × Int) × PUnit) × List Int × PUnit →
  Option (((Bool × PUnit) × PUnit) × PUnit)) : Option (((Bool × PUnit) × PUnit) × PUnit) := bif decide (g.1.2.2.2.2.1.1 < g.1.2.2.2.1.1) then
  bif decide ((0 : Int) ≤ g.1.2.2.2.2.1.1 ∧ g.1.2.2.2.2.1.1 < (↑g.2.2.2.2.1.length : Int)) then
    L
      ((((), ()), ((), ()), ((), ()), (g.1.2.2.2.1.1, ()), (IntKind.i64.wrap (g.1.2.2.2.2.1.1 + (1 : Int)), ()), ()),
        ((), g.2.1.2.1, g.2.1.2.2.1, g.2.1.2.2.2.1, ()), g.2.2.1,
        ((g.2.2.2.1.1.1, g.2.2.2.1.1.2.1, g.2.2.2.1.1.2.2), ()), g.2.2.2.2.1.set g.1.2.2.2.2.1.1.toNat (-7 : Int), ())
  else none
else
  (f30 k ((((), ()), ()), ((), g.2.1.2.1, g.2.1.2.2.1, g.2.1.2.2.2.1, ()), g.2.2.1, ())).bind fun v =>
    (f37 k (((v.2.1, ()), (g.2.2.2.1.1.1, ()), ()), ())).bind fun v => some (((v.1.1.1, ()), ()), ())
def e6_1 (k : Nat) (a : Int) (xs : List (Int × Int)) (g : ((PUnit × PUnit) × (PUnit × PUnit) × (List (Int × Int) × PUnit) × (Int × PUnit) × (Int × PUnit) × PUnit) ×
  (PUnit × Int × Int × Int × PUnit) × List Int × ((List Int × Int × Int) × PUnit) × PUnit) (L : ((PUnit × PUnit) × (PUnit × PUnit) × (List (Int × Int) × PUnit) × (Int × PUnit) × (Int × PUnit) × PUnit) ×
    (PUnit × Int × Int × Int × PUnit) × List Int × ((List Int × Int × Int) × PUnit) × PUnit →
  Option (((Bool × PUnit) × PUnit) × PUnit)) : Option (((Bool × PUnit) × PUnit) × PUnit) := bif decide (g.1.2.2.2.2.1.1 < g.1.2.2.2.1.1) then
  bif decide ((0 : Int) ≤ g.1.2.2.2.2.1.1 ∧ g.1.2.2.2.2.1.1 < (↑g.1.2.2.1.1.length : Int)) then
    bif (gt (is.pair is) g.1.2.2.1.1 g.1.2.2.2.2.1.1.toNat).1 == (1 : Int) then
      (f26 k
            ((((), ()), ((gt (is.pair is) g.1.2.2.1.1 g.1.2.2.2.2.1.1.toNat).2, ()), ()),
              ((), g.2.1.2.1, g.2.1.2.2.1, g.2.1.2.2.2.1, ()), g.2.2.1, ())).bind
        fun v =>
        (f32 k
              ((((g.2.2.2.1.1.1, g.2.2.2.1.1.2.1, g.2.2.2.1.1.2.2), ()),
                  ((gt (is.pair is) g.1.2.2.1.1 g.1.2.2.2.2.1.1.toNat).2, ()), ()),
                ())).bind
          fun v_1 =>
          bif v.1.1.1 != v_1.1.2.1.1 then some (((false, ()), ()), ())
          else
            bif !v.1.2.1.1 == v_1.1.2.2.1.1 then some (((false, ()), ()), ())
            else
              (f28 k ((((), ()), ()), ((), v.2.1.2.1, v.2.1.2.2.1, v.2.1.2.2.2.1, ()), v.2.2.1, ())).bind fun v_2 =>
                bif v_2.1.1.1 != (↑(List.length v_1.1.1.1.1) : Int) then some (((false, ()), ()), ())
                else
                  (f29 k ((((), ()), ()), ((), v.2.1.2.1, v.2.1.2.2.1, v.2.1.2.2.2.1, ()), v.2.2.1, ())).bind fun v_3 =>
                    bif v_3.1.1.1 != v_1.1.1.1.2.2 then some (((false, ()), ()), ())
                    else
                      L
                        ((((), ()), ((), ()), (g.1.2.2.1.1, ()), (g.1.2.2.2.1.1, ()),
                            (IntKind.i64.wrap (g.1.2.2.2.2.1.1 + (1 : Int)), ()), ()),
                          ((), v.2.1.2.1, v.2.1.2.2.1, v.2.1.2.2.2.1, ()), v.2.2.1,
                          ((v_1.1.1.1.1, v_1.1.1.1.2.1, v_1.1.1.1.2.2), ()), ())
    else
      bif (gt (is.pair is) g.1.2.2.1.1 g.1.2.2.2.2.1.1.toNat).1 == (2 : Int) then
        (f33 k ((((), ()), ()), ((), g.2.1.2.1, g.2.1.2.2.1, g.2.1.2.2.2.1, ()), g.2.2.1, ())).bind fun v =>
          (f34 k ((((g.2.2.2.1.1.1, g.2.2.2.1.1.2.1, g.2.2.2.1.1.2.2), ()), ()), ())).bind fun v_1 =>
            bif v.1.1.1 != v_1.1.2.1.1 then some (((false, ()), ()), ())
            else
              bif !v.1.2.1.1 == v_1.1.2.2.1.1 then some (((false, ()), ()), ())
              else
                (f28 k ((((), ()), ()), ((), v.2.1.2.1, v.2.1.2.2.1, v.2.1.2.2.2.1, ()), v.2.2.1, ())).bind fun v_2 =>
                  bif v_2.1.1.1 != (↑(List.length v_1.1.1.1.1) : Int) then some (((false, ()), ()), ())
                  else
                    (f29 k ((((), ()), ()), ((), v.2.1.2.1, v.2.1.2.2.1, v.2.1.2.2.2.1, ()), v.2.2.1, ())).bind
                      fun v_3 =>
                      bif v_3.1.1.1 != v_1.1.1.1.2.2 then some (((false, ()), ()), ())
                      else
                        L
                          ((((), ()), ((), ()), (g.1.2.2.1.1, ()), (g.1.2.2.2.1.1, ()),
                              (IntKind.i64.wrap (g.1.2.2.2.2.1.1 + (1 : Int)), ()), ()),
                            ((), v.2.1.2.1, v.2.1.2.2.1, v.2.1.2.2.2.1, ()), v.2.2.1,
                            ((v_1.1.1.1.1, v_1.1.1.1.2.1, v_1.1.1.1.2.2), ()), ())
      else
        bif (gt (is.pair is) g.1.2.2.1.1 g.1.2.2.2.2.1.1.toNat).1 == (3 : Int) then
          (f35 k
                ((((), ()), ((gt (is.pair is) g.1.2.2.1.1 g.1.2.2.2.2.1.1.toNat).2, ()), ()),
                  ((), g.2.1.2.1, g.2.1.2.2.1, g.2.1.2.2.2.1, ()), g.2.2.1, ())).bind
            fun v =>
            (f36 k
                  ((((g.2.2.2.1.1.1, g.2.2.2.1.1.2.1, g.2.2.2.1.1.2.2), ()),
                      ((gt (is.pair is) g.1.2.2.1.1 g.1.2.2.2.2.1.1.toNat).2, ()), ()),
                    ())).bind
              fun v_1 =>
              (f28 k ((((), ()), ()), ((), v.2.1.2.1, v.2.1.2.2.1, v.2.1.2.2.2.1, ()), v.2.2.2.1, ())).bind fun v_2 =>
                bif v_2.1.1.1 != (↑(List.length v_1.1.1.1.1) : Int) then some (((false, ()), ()), ())
                else
                  (f29 k ((((), ()), ()), ((), v.2.1.2.1, v.2.1.2.2.1, v.2.1.2.2.2.1, ()), v.2.2.2.1, ())).bind
                    fun v_3 =>
                    bif v_3.1.1.1 != v_1.1.1.1.2.2 then some (((false, ()), ()), ())
                    else
                      L
                        ((((), ()), ((), ()), (g.1.2.2.1.1, ()), (g.1.2.2.2.1.1, ()),
                            (IntKind.i64.wrap (g.1.2.2.2.2.1.1 + (1 : Int)), ()), ()),
                          ((), v.2.1.2.1, v.2.1.2.2.1, v.2.1.2.2.2.1, ()), v.2.2.2.1,
                          ((v_1.1.1.1.1, v_1.1.1.1.2.1, v_1.1.1.1.2.2), ()), ())
        else
          bif (gt (is.pair is) g.1.2.2.1.1 g.1.2.2.2.2.1.1.toNat).1 == (4 : Int) then
            (f27 k
                  ((((), ()), ((gt (is.pair is) g.1.2.2.1.1 g.1.2.2.2.2.1.1.toNat).2, ()), ()),
                    ((), g.2.1.2.1, g.2.1.2.2.1, g.2.1.2.2.2.1, ()), g.2.2.1, ())).bind
              fun v =>
              bif decide ((gt (is.pair is) g.1.2.2.1.1 g.1.2.2.2.2.1.1.toNat).2 ≥ (0 : Int)) then
                bif
                    !v.1.2.1.1 ==
                        decide
                          ((gt (is.pair is) g.1.2.2.1.1 g.1.2.2.2.2.1.1.toNat).2 < (↑g.2.2.2.1.1.1.length : Int)) then
                  none
                else
                  bif
                      decide
                        ((gt (is.pair is) g.1.2.2.1.1 g.1.2.2.2.2.1.1.toNat).2 < (↑g.2.2.2.1.1.1.length : Int)) then
                    bif
                        decide
                          ((0 : Int) ≤ (gt (is.pair is) g.1.2.2.1.1 g.1.2.2.2.2.1.1.toNat).2 ∧
                            (gt (is.pair is) g.1.2.2.1.1 g.1.2.2.2.2.1.1.toNat).2 < (↑g.2.2.2.1.1.1.length : Int)) then
                      bif
                          v.1.1.1 !=
                            gt (Sh.int IntKind.i64) g.2.2.2.1.1.1
                              (Int.toNat (gt (is.pair is) g.1.2.2.1.1 g.1.2.2.2.2.1.1.toNat).2) then
                        none
                      else
                        bif
                            !decide
                                ((gt (is.pair is) g.1.2.2.1.1 g.1.2.2.2.2.1.1.toNat).2 <
                                  (↑g.2.2.2.1.1.1.length : Int)) then
                          bif v.1.1.1 != (0 : Int) then some (((false, ()), ()), ())
                          else
                            (f28 k ((((), ()), ()), ((), g.2.1.2.1, g.2.1.2.2.1, g.2.1.2.2.2.1, ()), g.2.2.1, ())).bind
                              fun v_1 =>
                              bif v_1.1.1.1 != (↑g.2.2.2.1.1.1.length : Int) then some (((false, ()), ()), ())
                              else
                                (f29 k
                                      ((((), ()), ()), ((), g.2.1.2.1, g.2.1.2.2.1, g.2.1.2.2.2.1, ()), g.2.2.1,
                                        ())).bind
                                  fun v =>
                                  bif v.1.1.1 != g.2.2.2.1.1.2.2 then some (((false, ()), ()), ())
                                  else
                                    L
                                      ((((), ()), ((), ()), (g.1.2.2.1.1, ()), (g.1.2.2.2.1.1, ()),
                                          (IntKind.i64.wrap (g.1.2.2.2.2.1.1 + (1 : Int)), ()), ()),
                                        ((), g.2.1.2.1, g.2.1.2.2.1, g.2.1.2.2.2.1, ()), g.2.2.1,
                                        ((g.2.2.2.1.1.1, g.2.2.2.1.1.2.1, g.2.2.2.1.1.2.2), ()), ())
                        else
                          (f28 k ((((), ()), ()), ((), g.2.1.2.1, g.2.1.2.2.1, g.2.1.2.2.2.1, ()), g.2.2.1, ())).bind
                            fun v_1 =>
                            bif v_1.1.1.1 != (↑g.2.2.2.1.1.1.length : Int) then some (((false, ()), ()), ())
                            else
                              (f29 k
                                    ((((), ()), ()), ((), g.2.1.2.1, g.2.1.2.2.1, g.2.1.2.2.2.1, ()), g.2.2.1, ())).bind
                                fun v =>
                                bif v.1.1.1 != g.2.2.2.1.1.2.2 then some (((false, ()), ()), ())
                                else
                                  L
                                    ((((), ()), ((), ()), (g.1.2.2.1.1, ()), (g.1.2.2.2.1.1, ()),
                                        (IntKind.i64.wrap (g.1.2.2.2.2.1.1 + (1 : Int)), ()), ()),
                                      ((), g.2.1.2.1, g.2.1.2.2.1, g.2.1.2.2.2.1, ()), g.2.2.1,
                                      ((g.2.2.2.1.1.1, g.2.2.2.1.1.2.1, g.2.2.2.1.1.2.2), ()), ())
                    else none
                  else
                    bif
                        !decide
                            ((gt (is.pair is) g.1.2.2.1.1 g.1.2.2.2.2.1.1.toNat).2 < (↑g.2.2.2.1.1.1.length : Int)) then
                      bif v.1.1.1 != (0 : Int) then some (((false, ()), ()), ())
                      else
                        (f28 k ((((), ()), ()), ((), g.2.1.2.1, g.2.1.2.2.1, g.2.1.2.2.2.1, ()), g.2.2.1, ())).bind
                          fun v_1 =>
                          bif v_1.1.1.1 != (↑g.2.2.2.1.1.1.length : Int) then some (((false, ()), ()), ())
                          else
                            (f29 k ((((), ()), ()), ((), g.2.1.2.1, g.2.1.2.2.1, g.2.1.2.2.2.1, ()), g.2.2.1, ())).bind
                              fun v =>
                              bif v.1.1.1 != g.2.2.2.1.1.2.2 then some (((false, ()), ()), ())
                              else
                                L
                                  ((((), ()), ((), ()), (g.1.2.2.1.1, ()), (g.1.2.2.2.1.1, ()),
                                      (IntKind.i64.wrap (g.1.2.2.2.2.1.1 + (1 : Int)), ()), ()),
                                    ((), g.2.1.2.1, g.2.1.2.2.1, g.2.1.2.2.2.1, ()), g.2.2.1,
                                    ((g.2.2.2.1.1.1, g.2.2.2.1.1.2.1, g.2.2.2.1.1.2.2), ()), ())
                    else
                      (f28 k ((((), ()), ()), ((), g.2.1.2.1, g.2.1.2.2.1, g.2.1.2.2.2.1, ()), g.2.2.1, ())).bind
                        fun v_1 =>
                        bif v_1.1.1.1 != (↑g.2.2.2.1.1.1.length : Int) then some (((false, ()), ()), ())
                        else
                          (f29 k ((((), ()), ()), ((), g.2.1.2.1, g.2.1.2.2.1, g.2.1.2.2.2.1, ()), g.2.2.1, ())).bind
                            fun v =>
                            bif v.1.1.1 != g.2.2.2.1.1.2.2 then some (((false, ()), ()), ())
                            else
                              L
                                ((((), ()), ((), ()), (g.1.2.2.1.1, ()), (g.1.2.2.2.1.1, ()),
                                    (IntKind.i64.wrap (g.1.2.2.2.2.1.1 + (1 : Int)), ()), ()),
                                  ((), g.2.1.2.1, g.2.1.2.2.1, g.2.1.2.2.2.1, ()), g.2.2.1,
                                  ((g.2.2.2.1.1.1, g.2.2.2.1.1.2.1, g.2.2.2.1.1.2.2), ()), ())
              else
                bif !v.1.2.1.1 == false then none
                else
                  bif v.1.1.1 != (0 : Int) then some (((false, ()), ()), ())
                  else
                    (f28 k ((((), ()), ()), ((), g.2.1.2.1, g.2.1.2.2.1, g.2.1.2.2.2.1, ()), g.2.2.1, ())).bind
                      fun v_1 =>
                      bif v_1.1.1.1 != (↑g.2.2.2.1.1.1.length : Int) then some (((false, ()), ()), ())
                      else
                        (f29 k ((((), ()), ()), ((), g.2.1.2.1, g.2.1.2.2.1, g.2.1.2.2.2.1, ()), g.2.2.1, ())).bind
                          fun v =>
                          bif v.1.1.1 != g.2.2.2.1.1.2.2 then some (((false, ()), ()), ())
                          else
                            L
                              ((((), ()), ((), ()), (g.1.2.2.1.1, ()), (g.1.2.2.2.1.1, ()),
                                  (IntKind.i64.wrap (g.1.2.2.2.2.1.1 + (1 : Int)), ()), ()),
                                ((), g.2.1.2.1, g.2.1.2.2.1, g.2.1.2.2.2.1, ()), g.2.2.1,
                                ((g.2.2.2.1.1.1, g.2.2.2.1.1.2.1, g.2.2.2.1.1.2.2), ()), ())
          else
            (f28 k ((((), ()), ()), ((), g.2.1.2.1, g.2.1.2.2.1, g.2.1.2.2.2.1, ()), g.2.2.1, ())).bind fun v =>
              bif v.1.1.1 != (↑g.2.2.2.1.1.1.length : Int) then some (((false, ()), ()), ())
              else
                (f29 k ((((), ()), ()), ((), g.2.1.2.1, g.2.1.2.2.1, g.2.1.2.2.2.1, ()), g.2.2.1, ())).bind fun v =>
                  bif v.1.1.1 != g.2.2.2.1.1.2.2 then some (((false, ()), ()), ())
                  else
                    L
                      ((((), ()), ((), ()), (g.1.2.2.1.1, ()), (g.1.2.2.2.1.1, ()),
                          (IntKind.i64.wrap (g.1.2.2.2.2.1.1 + (1 : Int)), ()), ()),
                        ((), g.2.1.2.1, g.2.1.2.2.1, g.2.1.2.2.2.1, ()), g.2.2.1,
                        ((g.2.2.2.1.1.1, g.2.2.2.1.1.2.1, g.2.2.2.1.1.2.2), ()), ())
  else none
else
  (f30 k ((((), ()), ()), ((), g.2.1.2.1, g.2.1.2.2.1, g.2.1.2.2.2.1, ()), g.2.2.1, ())).bind fun v =>
    (f37 k (((v.2.1, ()), (g.2.2.2.1.1.1, ()), ()), ())).bind fun v_1 =>
      bif !v_1.1.1.1 then some (((false, ()), ()), ())
      else
        loopN (e6_0 k a xs) k
          ((((), ()), ((), ()), ((), ()), ((↑(List.length v.2.1) : Int), ()), ((0 : Int), ()), ()),
            ((), g.2.1.2.1, g.2.1.2.2.1, g.2.1.2.2.2.1, ()), g.2.2.1,
            ((g.2.2.2.1.1.1, g.2.2.2.1.1.2.1, g.2.2.2.1.1.2.2), ()), v.2.1, ())
theorem e6_eq (k : Nat) (a : Int) (xs : List (Int × Int)) : f6 k (((a, ()), (xs, ()), ()), ()) = (f25 k (((a, ()), ()), ())).bind fun v =>
  (f13 k ((), ())).bind fun v_1 =>
    bif !v_1.1.1.1 then some (((false, ()), ()), ())
    else
      (f31 k (((a, ()), ()), ())).bind fun v_2 =>
        loopN (e6_1 k a xs) k
          ((((), ()), ((), ()), (xs, ()), ((↑xs.length : Int), ()), ((0 : Int), ()), ()),
            ((), v.2.1.2.1, v.2.1.2.2.1, v.2.1.2.2.2.1, ()), v.2.2.1, ((v_2.1.1.1.1, v_2.1.1.1.2.1, v_2.1.1.1.2.2), ()),
            ()) := by kernel_rfl
theorem plays_in {K n fr g : Nat} {a : Int} {xs : List (Int × Int)} {C rs : List Int} (hn : n ≤ 1000) (hK : 1002 ≤ K) (H : Has (s := .int .i64) n C fr rs) (m : Int) : ∀ (j i k : Nat) (all : List Int), all.length = C.length → i + j = C.length → j + 1 ≤ k →
    loopN (e6_0 K a xs) k ((((), ()), ((), ()), ((), ()), ((C.length : Int), ()), ((i : Int), ()), ()), ((), (fr : Int), (C.length : Int), (g : Int), ()), rs, ((C, m, (g : Int)), ()), all, ()) = some (((true, ()), ()), ()) := by
  have hfit := H.fit
  intro j
  induction j with
  | zero =>
    intro i k all ha hi hk
    obtain ⟨k, rfl⟩ : ∃ k', k = k' + 1 := ⟨k - 1, by omega⟩
    simp only [loopN_succ, e6_0]
    rw [cneg (by omega), all_c (e49 K) (e30 K) hn (by omega) H (by omega), Option.bind_some]
    simp only []
    rw [samei_ok C K (by omega) (by omega), Option.bind_some]
  | succ j ih =>
    intro i k all ha hi hk
    obtain ⟨k, rfl⟩ : ∃ k', k = k' + 1 := ⟨k - 1, by omega⟩
    simp only [loopN_succ, e6_0]
    rw [cpos (by omega), cpos (by omega), wrapId (n := (i : Int) + 1) (by omega) (by omega), show ((i : Int) + 1) = ((i + 1 : Nat) : Int) by omega]
    exact ih (i + 1) k _ (by simp [ha]) (by omega) (by omega)
theorem ringPlays (a : Int) (xs : List (Int × Int)) (hl : xs.length * 16 ≤ 140737488351232) : f6 (xs.length + 1002 + 5) (((a, ()), (xs, ()), ()), ()) = some (((true, ()), ()), ()) := by
  obtain ⟨hb1, hb2⟩ := bnd_ok a
  obtain ⟨rs0, hnew, H0⟩ := new_c (e25 (xs.length + 1002 + 5)) (by omega) a
  rw [e6_eq, hnew, Option.bind_some, alive, Option.bind_some]
  simp only [Bool.not_true, cond_false]
  rw [new_r, Option.bind_some]
  generalize hk : xs.length + 1002 + 5 = K
  have hK : xs.length + 1002 ≤ K := by omega
  clear hk hnew
  have loop : ∀ (j k i : Nat) (C : List Int) (n fr g : Nat) (rs : List Int), i + j = xs.length → j + 1 ≤ k → n ≤ 1000 → Has (s := .int .i64) n C fr rs → g + C.length ≤ i →
      loopN (e6_1 K a xs) k ((((), ()), ((), ()), (xs, ()), ((xs.length : Int), ()), ((i : Int), ()), ()), ((), (fr : Int), (C.length : Int), (g : Int), ()), rs, ((C, (n : Int), (g : Int)), ()), ()) = some (((true, ()), ()), ()) := by
    intro j
    induction j with
    | zero =>
      intro k i C n fr g rs hi hk hn H hg
      obtain ⟨k, rfl⟩ : ∃ k', k = k' + 1 := ⟨k - 1, by omega⟩
      have hfit := H.fit
      simp only [loopN_succ, e6_1]
      rw [cneg (by omega), all_c (e49 K) (e30 K) hn (by omega) H (by omega), Option.bind_some]
      simp only []
      rw [samei_ok C K (by omega) (by omega), Option.bind_some]
      simp only [Bool.not_true, cond_false]
      exact plays_in hn (by omega) H n C.length 0 K C rfl (by omega) (by omega)
    | succ j ih =>
      intro k i C n fr g rs hi hk hn H hg
      obtain ⟨k, rfl⟩ : ∃ k', k = k' + 1 := ⟨k - 1, by omega⟩
      have hfit := H.fit
      have hw : IntKind.i64.wrap ((i : Int) + 1) = ((i + 1 : Nat) : Int) := by rw [wrapId (by omega) (by omega)]; omega
      simp only [loopN_succ, e6_1, Int.toNat_natCast, hw]
      rw [cpos (by omega), cpos (by omega)]
      obtain ⟨⟨kd, v⟩, hpq⟩ : ∃ p : Int × Int, gt (is.pair is) xs i = p := ⟨_, rfl⟩
      simp only [hpq]
      by_cases h1 : kd = 1
      · subst h1
        obtain ⟨fr', rs', hp, H'⟩ := push_c (e49 K) (e26 K) (g := g) hn H (by omega) v
        have hr := push_r (K := K) (g := g) hn hfit (by omega) (by omega) v
        rw [show ((1 : Int) == 1) = true from rfl, cond_true, hp, Option.bind_some, hr, Option.bind_some]
        have hg' : (if C.length < n then g else g + 1) + ((C ++ [v]).drop (C.length + 1 - n)).length ≤ i + 1 := by
          simp only [List.length_drop, List.length_append, List.length_cons, List.length_nil]; split <;> omega
        have hih := ih k (i + 1) _ n fr' _ rs' (by omega) (by omega) hn H' hg'
        generalize (C ++ [v]).drop (C.length + 1 - n) = C' at *
        generalize (if C.length < n then g else g + 1) = g' at *
        simp only []
        rw [bne_self_eq_false, cond_false]
        rw [beq_self_eq_true, Bool.not_true, cond_false, e28, Option.bind_some]
        simp only [bne_self_eq_false, cond_false]
        rw [e29, Option.bind_some]
        simp only [bne_self_eq_false, cond_false]
        exact hih
      · rw [show (kd == 1) = false by simpa using h1, cond_false]
        by_cases h2 : kd = 2
        · subst h2
          obtain ⟨rs', hp, H'⟩ := pop_c (e49 K) (e27 K) (e33 K) (g := g) hn H
          have hr := pop_r (K := K) (C := C) (n := (n : Int)) (g := (g : Int)) (by omega)
          rw [show ((2 : Int) == 2) = true from rfl, cond_true, hp, Option.bind_some, hr, Option.bind_some]
          have hih := ih k (i + 1) _ n fr g rs' (by omega) (by omega) hn H' (by rw [List.length_dropLast]; omega)
          simp only []
          rw [bne_self_eq_false, cond_false]
          rw [beq_self_eq_true, Bool.not_true, cond_false]
          generalize C.dropLast = C' at *
          rw [e28, Option.bind_some]
          simp only [bne_self_eq_false, cond_false]
          rw [e29, Option.bind_some]
          simp only [bne_self_eq_false, cond_false]
          exact hih
        · rw [show (kd == 2) = false by simpa using h2, cond_false]
          by_cases h3 : kd = 3
          · subst h3
            obtain ⟨fr', rs', hp, H'⟩ := shrink_c (g := g) hn H (by omega) (by omega : 1002 ≤ K) v
            have hr := shrink_r (K := K) (C := C) (n := n) (g := g) (by omega) (by omega) (by omega) v
            obtain ⟨hv1, hv2⟩ := bnd_ok v
            rw [show ((3 : Int) == 3) = true from rfl, cond_true, hp, Option.bind_some, hr, Option.bind_some]
            have hih := ih k (i + 1) _ (bnd v).toNat fr' (g + (C.length - (bnd v).toNat)) rs' (by omega) (by omega) hv2 H' (by rw [List.length_drop]; omega)
            rw [← hv1] at hih
            generalize g + (C.length - (bnd v).toNat) = g' at *
            generalize C.drop (C.length - (bnd v).toNat) = C' at *
            simp only []
            rw [e28, Option.bind_some]
            simp only [bne_self_eq_false, cond_false]
            rw [e29, Option.bind_some]
            simp only [bne_self_eq_false, cond_false]
            exact hih
          · rw [show (kd == 3) = false by simpa using h3, cond_false]
            have hih := ih k (i + 1) C n fr g rs (by omega) (by omega) hn H (by omega)
            by_cases h4 : kd = 4
            · subst h4
              rw [show ((4 : Int) == 4) = true from rfl, cond_true, at_c (e49 K) (e27 K) hn H, Option.bind_some]
              simp only []
              by_cases g1 : 0 ≤ v
              · rw [cpos (show v ≥ 0 from g1)]
                by_cases g2 : v < (C.length : Int)
                · have d1 : decide (0 ≤ v ∧ v < (C.length : Int)) = true := decide_eq_true ⟨g1, g2⟩
                  have d2 : decide (v < (C.length : Int)) = true := decide_eq_true g2
                  rw [d1, d2, if_pos ⟨g1, g2⟩]
                  rw [show (!(true == true)) = false from rfl, cond_false, cond_true, cond_true, bne_self_eq_false, cond_false, Bool.not_true, cond_false, e28, Option.bind_some]
                  simp only [bne_self_eq_false, cond_false]
                  rw [e29, Option.bind_some]
                  simp only [bne_self_eq_false, cond_false]
                  exact hih
                · have d1 : decide (0 ≤ v ∧ v < (C.length : Int)) = false := decide_eq_false (fun h => g2 h.2)
                  have d2 : decide (v < (C.length : Int)) = false := decide_eq_false g2
                  rw [d1, d2, if_neg (fun h => g2 h.2)]
                  rw [show (!(false == false)) = false from rfl, cond_false, cond_false, Bool.not_false, cond_true, bne_self_eq_false, cond_false, e28, Option.bind_some]
                  simp only [bne_self_eq_false, cond_false]
                  rw [e29, Option.bind_some]
                  simp only [bne_self_eq_false, cond_false]
                  exact hih
              · rw [cneg (show ¬ v ≥ 0 from g1)]
                have d1 : decide (0 ≤ v ∧ v < (C.length : Int)) = false := decide_eq_false (fun h => g1 h.1)
                rw [d1, if_neg (fun h => g1 h.1)]
                rw [show (!(false == false)) = false from rfl, cond_false, bne_self_eq_false, cond_false, e28, Option.bind_some]
                simp only [bne_self_eq_false, cond_false]
                rw [e29, Option.bind_some]
                simp only [bne_self_eq_false, cond_false]
                exact hih
            · rw [show (kd == 4) = false by simpa using h4, cond_false, e28, Option.bind_some]
              simp only [bne_self_eq_false, cond_false]
              rw [e29, Option.bind_some]
              simp only [bne_self_eq_false, cond_false]
              exact hih
  have := loop xs.length K 0 [] (bnd a).toNat 0 0 rs0 (by omega) (by omega) hb2 H0 (by simp)
  rw [← hb1] at this
  exact this
end
end Go.Proofs.Ythllpilgfipkpaa.Ring
