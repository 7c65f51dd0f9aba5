import Derived.Test.YthllpilgfipkpaaRF
namespace Go.Proofs.Ythllpilgfipkpaa.Ring
open Go Go.RowKit Go.Proofs Go.Proofs.Ythllpilgfipkpaa.X
set_option linter.unusedVariables false
set_option linter.unusedSimpArgs false
noncomputable section
/-! At, Pop and Shrink -/
def imin (a b : Int) : Int := if b < a then b else a
def imax (a b : Int) : Int := if b > a then b else a
theorem bnd_eq (a : Int) : imin (imax a 0) 1000 = bnd a := rfl
theorem cpos {α : Type} {p : Prop} {hd : Decidable p} {a b : α} (h : p) : cond (@decide p hd) a b = a := by rw [decide_eq_true h]; rfl
theorem cneg {α : Type} {p : Prop} {hd : Decidable p} {a b : α} (h : ¬ p) : cond (@decide p hd) a b = b := by rw [decide_eq_false h]; rfl
variable {s : Sh}
def AtEq (s : Sh) (z : s.T) (f : ((Unit × Unit) × (Int × Unit) × Unit) × RT s → Option (((Int × Unit) × Unit) × Unit)) (h : ((Unit × Unit) × (Int × Unit) × Unit) × RT s → Option (((s.T × Unit) × (Bool × Unit) × Unit) × Unit)) : Prop :=
  ∀ (xs : List s.T) (a b c i : Int), h ((((), ()), (i, ()), ()), mk xs a b c) =
    bif decide (i < 0) then some (((z, ()), (false, ()), ()), ()) else bif decide (i ≥ b) then some (((z, ()), (false, ()), ()), ())
    else (f ((((), ()), (i, ()), ()), mk xs a b c)).bind fun v => bif decide (0 ≤ v.1.1.1 ∧ v.1.1.1 < xs.length) then some (((gt s xs v.1.1.1.toNat, ()), (true, ()), ()), ()) else none
def PopEq (s : Sh) (z : s.T) (f : ((Unit × Unit) × (Int × Unit) × Unit) × RT s → Option (((Int × Unit) × Unit) × Unit)) (e : ((Unit × Unit) × (Int × Unit) × Unit) × RT s → Option (((s.T × Unit) × (Bool × Unit) × Unit) × Unit)) (h : ((Unit × Unit) × Unit) × RT s → Option (((s.T × Unit) × (Bool × Unit) × Unit) × RT s)) : Prop :=
  ∀ (xs : List s.T) (a b c : Int), h ((((), ()), ()), mk xs a b c) =
    (e ((((), ()), (IntKind.i64.wrap (b - 1), ()), ()), mk xs a b c)).bind fun v => bif v.1.2.1.1 then
      (f ((((), ()), (IntKind.i64.wrap (b - 1), ()), ()), mk xs a (IntKind.i64.wrap (b - 1)) c)).bind fun v1 =>
        bif decide (0 ≤ v1.1.1.1 ∧ v1.1.1.1 < xs.length) then some (((v.1.1.1, ()), (v.1.2.1.1, ()), ()), mk (xs.set v1.1.1.1.toNat z) a (IntKind.i64.wrap (b - 1)) c) else none
      else some (((v.1.1.1, ()), (v.1.2.1.1, ()), ()), mk xs a b c)
theorem e27 (k : Nat) : AtEq (.int .i64) (0 : Int) (f49 k) (f27 k) := fun xs a b c i => by kernel_rfl
theorem e33 (k : Nat) : PopEq (.int .i64) (0 : Int) (f49 k) (f27 k) (f33 k) := fun xs a b c => by kernel_rfl
theorem e28 (k : Nat) (xs : List Int) (a b c : Int) : f28 k ((((), ()), ()), mk (s := .int .i64) xs a b c) = some (((b, ()), ()), ()) := by kernel_rfl
theorem e29 (k : Nat) (xs : List Int) (a b c : Int) : f29 k ((((), ()), ()), mk (s := .int .i64) xs a b c) = some (((c, ()), ()), ()) := by kernel_rfl
theorem at_c {z : s.T} {f h} (hf : PlaceEq s f) (hh : AtEq s z f h) {n fr g : Nat} {C xs : List s.T} (hN : n ≤ 1000) (H : Has n C fr xs) (i : Int) :
    h ((((), ()), (i, ()), ()), st xs fr C g) = some (((if 0 ≤ i ∧ i < (C.length : Int) then gt s C i.toNat else z, ()), (decide (0 ≤ i ∧ i < (C.length : Int)), ()), ()), ()) := by
  obtain ⟨hlen, hfit, hfrm, hel⟩ := H
  rw [hh]
  by_cases h1 : i < 0
  · rw [cpos h1, if_neg (by omega), decide_eq_false (by omega)]
  by_cases h2 : i ≥ (C.length : Int)
  · rw [cneg h1, cpos h2, if_neg (by omega), decide_eq_false (by omega)]
  rw [cneg h1, cneg h2, if_pos (by omega), decide_eq_true (by omega)]
  obtain ⟨j, rfl⟩ := Int.eq_ofNat_of_zero_le (a := i) (by omega)
  have h0 : 0 < n := by omega
  have hp := place_c hf (C := C) (g := g) (b := (C.length : Int)) (c := (g : Int)) h0 hN hlen (hfrm h0) (i := j) (by omega)
  rw [hp, Option.bind_some]
  have hx : (fr + j) % n < n := Nat.mod_lt _ h0
  simp only []
  rw [cpos (by omega)]
  have := hel j (by omega)
  simp only [gt, Int.toNat_natCast, List.getD_eq_getElem?_getD, this]
theorem pop_c {z : s.T} {f e h} (hf : PlaceEq s f) (he : AtEq s z f e) (hh : PopEq s z f e h) {n fr g : Nat} {C xs : List s.T} (hN : n ≤ 1000) (H : Has n C fr xs) :
    ∃ xs', h ((((), ()), ()), st xs fr C g) = some (((if 0 < C.length then gt s C (C.length - 1) else z, ()), (decide (0 < C.length), ()), ()), st xs' fr C.dropLast g) ∧ Has n C.dropLast fr xs' := by
  rw [hh]
  have hw : IntKind.i64.wrap ((C.length : Int) - 1) = (C.length : Int) - 1 := by
    have := H.fit; rw [wrapId (by omega) (by omega)]
  rw [hw, at_c hf he hN H, Option.bind_some]
  simp only []
  by_cases h0 : 0 < C.length
  · obtain ⟨hlen, hfit, hfrm, hel⟩ := H
    have hn : 0 < n := by omega
    rw [cpos (by omega), if_pos (by omega), if_pos h0, show ((C.length : Int) - 1) = ((C.length - 1 : Nat) : Int) by omega]
    have hp := place_c hf (C := C) (g := g) (b := ((C.length - 1 : Nat) : Int)) (c := (g : Int)) hn hN hlen (hfrm hn) (i := C.length - 1) (by omega)
    rw [hp, Option.bind_some]
    have hx : (fr + (C.length - 1)) % n < n := Nat.mod_lt _ hn
    simp only []
    rw [cpos (by omega), decide_eq_true h0, decide_eq_true (by omega)]
    refine ⟨xs.set ((fr + (C.length - 1)) % n) z, by simp only [st, mk, Int.toNat_natCast, List.length_dropLast], by simp [hlen], by simp; omega, hfrm, fun t ht => ?_⟩
    simp only [List.length_dropLast] at ht
    rw [List.getElem?_dropLast, if_pos (by omega), ← hel t (by omega)]
    exact List.getElem?_set_ne (fun hq => mod_ne (n := n) (m := fr + t) (i := fr + (C.length - 1)) (by omega) (by omega) hq.symm)
  · rw [cneg (by omega), if_neg (by omega), if_neg h0, decide_eq_false (by omega), decide_eq_false h0]
    obtain rfl : C = [] := List.length_eq_zero_iff.mp (by omega)
    exact ⟨xs, rfl, H⟩
end
end Go.Proofs.Ythllpilgfipkpaa.Ring
