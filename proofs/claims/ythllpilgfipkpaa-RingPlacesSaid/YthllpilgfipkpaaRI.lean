import Derived.Test.YthllpilgfipkpaaRG5
import Derived.Test.YthllpilgfipkpaaRH
namespace Go.Proofs.Ythllpilgfipkpaa.Ring
open Go Go.RowKit Go.Proofs Go.Proofs.Ythllpilgfipkpaa.X
set_option linter.unusedVariables false
set_option linter.unusedSimpArgs false
noncomputable section
/-! Every place of a ring -/
def e5_0 (k : Nat) (a : Int) (xs : List Int) (c : Int) (g : ((Int × PUnit) × (PUnit × PUnit) × (PUnit × PUnit) × (Int × PUnit) × (Int × PUnit) × PUnit) ×
  (PUnit × Int × Int × Int × PUnit) × List Int × List Int × PUnit) (L : ((Int × PUnit) × (PUnit × PUnit) × (PUnit × PUnit) × (Int × PUnit) × (Int × PUnit) × PUnit) ×
    (PUnit × Int × Int × Int × PUnit) × List Int × List Int × PUnit →
  Option (((Bool × PUnit) × PUnit) × PUnit)) : Option (((Bool × PUnit) × PUnit) × PUnit) := bif decide (g.1.2.2.2.2.1.1 < g.1.2.2.2.1.1) then
  (f27 k ((((), ()), (g.1.2.2.2.2.1.1, ()), ()), ((), g.2.1.2.1, g.2.1.2.2.1, g.2.1.2.2.2.1, ()), g.2.2.1, ())).bind
    fun v =>
    bif !v.1.2.1.1 then some (((false, ()), ()), ())
    else
      bif decide (0 ≤ g.1.2.2.2.2.1.1 ∧ g.1.2.2.2.2.1.1 < ↑g.2.2.2.1.length) then
        bif v.1.1.1 != gt is g.2.2.2.1 g.1.2.2.2.2.1.1.toNat then some (((false, ()), ()), ())
        else
          L
            (((g.1.1.1, ()), ((), ()), ((), ()), (g.1.2.2.2.1.1, ()), (IntKind.i64.wrap (g.1.2.2.2.2.1.1 + 1), ()), ()),
              ((), g.2.1.2.1, g.2.1.2.2.1, g.2.1.2.2.2.1, ()), g.2.2.1, g.2.2.2.1, ())
      else none
else
  (f27 k ((((), ()), (g.1.1.1, ()), ()), ((), g.2.1.2.1, g.2.1.2.2.1, g.2.1.2.2.2.1, ()), g.2.2.1, ())).bind fun v =>
    bif decide (g.1.1.1 ≥ 0) then
      bif v.1.2.1.1 == decide (g.1.1.1 < ↑g.2.2.2.1.length) then
        bif v.1.2.1.1 then
          (f28 k ((((), ()), ()), ((), g.2.1.2.1, g.2.1.2.2.1, g.2.1.2.2.2.1, ()), g.2.2.1, ())).bind fun v =>
            some (((↑g.2.2.2.1.length == v.1.1.1, ()), ()), ())
        else
          bif v.1.1.1 == 0 then
            (f28 k ((((), ()), ()), ((), g.2.1.2.1, g.2.1.2.2.1, g.2.1.2.2.2.1, ()), g.2.2.1, ())).bind fun v =>
              some (((↑g.2.2.2.1.length == v.1.1.1, ()), ()), ())
          else some (((false, ()), ()), ())
      else none
    else
      bif v.1.2.1.1 == false then
        bif v.1.2.1.1 then
          (f28 k ((((), ()), ()), ((), g.2.1.2.1, g.2.1.2.2.1, g.2.1.2.2.2.1, ()), g.2.2.1, ())).bind fun v =>
            some (((↑g.2.2.2.1.length == v.1.1.1, ()), ()), ())
        else
          bif v.1.1.1 == 0 then
            (f28 k ((((), ()), ()), ((), g.2.1.2.1, g.2.1.2.2.1, g.2.1.2.2.2.1, ()), g.2.2.1, ())).bind fun v =>
              some (((↑g.2.2.2.1.length == v.1.1.1, ()), ()), ())
          else some (((false, ()), ()), ())
      else none
def e5_1 (k : Nat) (a : Int) (xs : List Int) (c : Int) (g : ((Int × PUnit) × (PUnit × PUnit) × (List Int × PUnit) × (Int × PUnit) × (Int × PUnit) × PUnit) ×
  (PUnit × Int × Int × Int × PUnit) × List Int × PUnit) (L : ((Int × PUnit) × (PUnit × PUnit) × (List Int × PUnit) × (Int × PUnit) × (Int × PUnit) × PUnit) ×
    (PUnit × Int × Int × Int × PUnit) × List Int × PUnit →
  Option (((Bool × PUnit) × PUnit) × PUnit)) : Option (((Bool × PUnit) × PUnit) × PUnit) := bif decide (g.1.2.2.2.2.1.1 < g.1.2.2.2.1.1) then
  bif decide (0 ≤ g.1.2.2.2.2.1.1 ∧ g.1.2.2.2.2.1.1 < ↑g.1.2.2.1.1.length) then
    (f26 k
          ((((), ()), (gt (Sh.int IntKind.i64) g.1.2.2.1.1 g.1.2.2.2.2.1.1.toNat, ()), ()),
            ((), g.2.1.2.1, g.2.1.2.2.1, g.2.1.2.2.2.1, ()), g.2.2.1, ())).bind
      fun v =>
      (f28 k ((((), ()), ()), ((), v.2.1.2.1, v.2.1.2.2.1, v.2.1.2.2.2.1, ()), v.2.2.1, ())).bind fun v_1 =>
        (f27 k
              ((((), ()), (IntKind.i64.wrap (v_1.1.1.1 - 1), ()), ()), ((), v.2.1.2.1, v.2.1.2.2.1, v.2.1.2.2.2.1, ()),
                v.2.2.1, ())).bind
          fun v_2 =>
          (f28 k ((((), ()), ()), ((), v.2.1.2.1, v.2.1.2.2.1, v.2.1.2.2.2.1, ()), v.2.2.1, ())).bind fun v_3 =>
            bif !v_2.1.2.1.1 == decide (v_3.1.1.1 > 0) then none
            else
              bif v_2.1.2.1.1 then
                bif v_2.1.1.1 != gt (Sh.int IntKind.i64) g.1.2.2.1.1 g.1.2.2.2.2.1.1.toNat then
                  some (((false, ()), ()), ())
                else
                  (f28 k ((((), ()), ()), ((), v.2.1.2.1, v.2.1.2.2.1, v.2.1.2.2.2.1, ()), v.2.2.1, ())).bind fun v_4 =>
                    (f29 k ((((), ()), ()), ((), v.2.1.2.1, v.2.1.2.2.1, v.2.1.2.2.2.1, ()), v.2.2.1, ())).bind
                      fun v_5 =>
                      bif IntKind.i64.wrap (v_4.1.1.1 + v_5.1.1.1) != IntKind.i64.wrap (g.1.2.2.2.2.1.1 + 1) then
                        some (((false, ()), ()), ())
                      else
                        L
                          (((g.1.1.1, ()), ((), ()), (g.1.2.2.1.1, ()), (g.1.2.2.2.1.1, ()),
                              (IntKind.i64.wrap (g.1.2.2.2.2.1.1 + 1), ()), ()),
                            ((), v.2.1.2.1, v.2.1.2.2.1, v.2.1.2.2.2.1, ()), v.2.2.1, ())
              else
                (f28 k ((((), ()), ()), ((), v.2.1.2.1, v.2.1.2.2.1, v.2.1.2.2.2.1, ()), v.2.2.1, ())).bind fun v_4 =>
                  (f29 k ((((), ()), ()), ((), v.2.1.2.1, v.2.1.2.2.1, v.2.1.2.2.2.1, ()), v.2.2.1, ())).bind fun v_5 =>
                    bif IntKind.i64.wrap (v_4.1.1.1 + v_5.1.1.1) != IntKind.i64.wrap (g.1.2.2.2.2.1.1 + 1) then
                      some (((false, ()), ()), ())
                    else
                      L
                        (((g.1.1.1, ()), ((), ()), (g.1.2.2.1.1, ()), (g.1.2.2.2.1.1, ()),
                            (IntKind.i64.wrap (g.1.2.2.2.2.1.1 + 1), ()), ()),
                          ((), v.2.1.2.1, v.2.1.2.2.1, v.2.1.2.2.2.1, ()), v.2.2.1, ())
  else none
else
  (f30 k ((((), ()), ()), ((), g.2.1.2.1, g.2.1.2.2.1, g.2.1.2.2.2.1, ()), g.2.2.1, ())).bind fun v =>
    loopN (e5_0 k a xs c) k
      (((g.1.1.1, ()), ((), ()), ((), ()), (↑(List.length v.2.1), ()), (0, ()), ()),
        ((), g.2.1.2.1, g.2.1.2.2.1, g.2.1.2.2.2.1, ()), g.2.2.1, v.2.1, ())
theorem e5_eq (k : Nat) (a : Int) (xs : List Int) (c : Int) : f5 k (((a, ()), (xs, ()), (c, ()), ()), ()) = (f25 k (((a, ()), ()), ())).bind fun v =>
  (f13 k ((), ())).bind fun v_1 =>
    bif !v_1.1.1.1 then some (((false, ()), ()), ())
    else
      loopN (e5_1 k a xs c) k
        (((c, ()), ((), ()), (xs, ()), (↑xs.length, ()), (0, ()), ()), ((), v.2.1.2.1, v.2.1.2.2.1, v.2.1.2.2.2.1, ()),
          v.2.2.1, ()) := by kernel_rfl
theorem gtI (C : List Int) (i : Nat) (h : i < C.length) : gt (.int .i64) C i = C[i] := by simp [gt, h]
theorem places_in {a c : Int} {xs : List Int} {K n fr g : Nat} {C rs : List Int} (hn : n ≤ 1000) (H : Has (s := .int .i64) n C fr rs) : ∀ (j k i : Nat), i + j = C.length → j + 1 ≤ k →
    loopN (e5_0 K a xs c) k (((c, ()), ((), ()), ((), ()), ((C.length : Int), ()), ((i : Int), ()), ()), ((), (fr : Int), (C.length : Int), (g : Int), ()), rs, C, ()) = some (((true, ()), ()), ()) := by
  have hfit := H.fit
  intro j
  induction j with
  | zero =>
    intro k i hi hk
    obtain ⟨k, rfl⟩ : ∃ k', k = k' + 1 := ⟨k - 1, by omega⟩
    simp only [loopN_succ, e5_0]
    rw [cneg (by omega), at_c (e49 K) (e27 K) hn H, Option.bind_some, e28, Option.bind_some]
    by_cases h1 : 0 ≤ c
    · by_cases h2 : c < (C.length : Int)
      · rw [cpos (by omega)]; simp [h1, h2]
      · rw [cpos (by omega)]; simp [h1, h2]
    · rw [cneg (by omega)]; simp [h1]
  | succ j ih =>
    intro k i hi hk
    obtain ⟨k, rfl⟩ : ∃ k', k = k' + 1 := ⟨k - 1, by omega⟩
    simp only [loopN_succ, e5_0]
    rw [cpos (by omega), at_c (e49 K) (e27 K) hn H, Option.bind_some]
    simp only []
    rw [decide_eq_true (by omega), if_pos (by omega), wrapId (by omega) (by omega), show ((i : Int) + 1) = ((i + 1 : Nat) : Int) by omega]
    simp only [Bool.not_true, cond_false, cond_true, bne_self_eq_false]
    exact ih k (i + 1) (by omega) (by omega)
theorem ringPlaces (a : Int) (xs : List Int) (c : Int) (hl : xs.length * 8 ≤ 140737488351232) : f5 (xs.length + 1001 + 5) (((a, ()), (xs, ()), (c, ()), ()), ()) = some (((true, ()), ()), ()) := by
  obtain ⟨hb1, hb2⟩ := bnd_ok a
  obtain ⟨rs0, hnew, H0⟩ := new_c (e25 (xs.length + 1001 + 5)) (by omega) a
  rw [e5_eq, hnew, Option.bind_some, alive, Option.bind_some]
  simp only [Bool.not_true, cond_false]
  generalize hk : xs.length + 1001 + 5 = K
  have hK : xs.length + 1001 ≤ K := by omega
  clear hk hnew
  have loop : ∀ (j k i : Nat) (C : List Int) (fr g : Nat) (rs : List Int), i + j = xs.length → j + 1 ≤ k → Has (s := .int .i64) (bnd a).toNat C fr rs → C.length = min i (bnd a).toNat → g + C.length = i →
      loopN (e5_1 K a xs c) k (((c, ()), ((), ()), (xs, ()), ((xs.length : Int), ()), ((i : Int), ()), ()), ((), (fr : Int), (C.length : Int), (g : Int), ()), rs, ()) = some (((true, ()), ()), ()) := by
    intro j
    induction j with
    | zero =>
      intro k i C fr g rs hi hk H h1 h2
      obtain ⟨k, rfl⟩ : ∃ k', k = k' + 1 := ⟨k - 1, by omega⟩
      simp only [loopN_succ, e5_1]
      rw [cneg (by omega), all_c (e49 K) (e30 K) hb2 (by omega) H (by omega), Option.bind_some]
      exact places_in hb2 H C.length K 0 (by omega) (by omega)
    | succ j ih =>
      intro k i C fr g rs hi hk H h1 h2
      obtain ⟨k, rfl⟩ : ∃ k', k = k' + 1 := ⟨k - 1, by omega⟩
      have hlt : i < xs.length := by omega
      obtain ⟨fr', rs', hp, H'⟩ := push_c (e49 K) (e26 K) (g := g) hb2 H (by omega) (xs[i] : Int)
      have hlen : ((C ++ [xs[i]]).drop (C.length + 1 - (bnd a).toNat)).length = min (i + 1) (bnd a).toNat := by
        simp only [List.length_drop, List.length_append, List.length_cons, List.length_nil]; omega
      generalize hC' : (C ++ [xs[i]]).drop (C.length + 1 - (bnd a).toNat) = C' at *
      generalize hg' : (if C.length < (bnd a).toNat then g else g + 1) = g' at *
      have hgl : g' + C'.length = i + 1 := by rw [← hg']; split <;> omega
      simp only [loopN_succ, e5_1]
      rw [cpos (by omega), cpos (by omega), Int.toNat_natCast, gtI xs i hlt, hp, Option.bind_some]
      simp only []
      rw [e28, Option.bind_some]
      simp only []
      rw [at_c (e49 K) (e27 K) hb2 H', Option.bind_some]
      simp only [e28, Option.bind_some]
      rw [e29]
      simp only [Option.bind_some]
      rw [wrapId (n := (C'.length : Int) - 1) (by omega) (by omega), wrapId (n := (C'.length : Int) + (g' : Int)) (by omega) (by omega), wrapId (n := (i : Int) + 1) (by omega) (by omega), show ((i : Int) + 1) = ((i + 1 : Nat) : Int) by omega]
      have e1 : ((C'.length : Int) + (g' : Int) != ((i + 1 : Nat) : Int)) = false := by simp; omega
      rw [e1]
      simp only [cond_false]
      have hih := ih k (i + 1) C' fr' g' rs' (by omega) (by omega) H' hlen hgl
      rw [hih]
      by_cases h0 : 0 < C'.length
      · have hlast : gt (.int .i64) C' ((C'.length : Int) - 1).toNat = xs[i] := by
          rw [show ((C'.length : Int) - 1).toNat = C'.length - 1 by omega, gtI C' _ (by omega)]
          subst hC'
          simp only [List.getElem_drop]
          simp only [List.length_drop, List.length_append, List.length_cons, List.length_nil] at h0 ⊢
          rw [List.getElem_append_right (by omega)]
          simp
        have d1 : decide (0 ≤ (C'.length : Int) - 1 ∧ (C'.length : Int) - 1 < C'.length) = true := decide_eq_true (by omega)
        have d2 : decide ((C'.length : Int) > 0) = true := decide_eq_true (by omega)
        rw [d1, d2, if_pos (by omega), hlast]
        simp
      · have d1 : decide (0 ≤ (C'.length : Int) - 1 ∧ (C'.length : Int) - 1 < C'.length) = false := decide_eq_false (by omega)
        have d2 : decide ((C'.length : Int) > 0) = false := decide_eq_false (by omega)
        rw [d1, d2]
        simp
  exact loop xs.length K 0 [] 0 0 rs0 (by omega) (by omega) H0 (by simp) (by simp)
end
end Go.Proofs.Ythllpilgfipkpaa.Ring
