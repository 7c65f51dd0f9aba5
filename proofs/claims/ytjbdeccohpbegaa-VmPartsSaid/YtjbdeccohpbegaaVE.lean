import Derived.Test.YtjbdeccohpbegaaVD
namespace Go.Proofs.Ytjbdeccohpbegaa.Vm
open Go Go.RowKit Go.Proofs Go.Proofs.Ytjbdeccohpbegaa.X
set_option linter.unusedVariables false
set_option linter.unusedSimpArgs false
noncomputable section
/-! The check, the heights of all functions, and the law -/
def e20_0 (k : Nat) (m : Int) (d : List Int) (l : Fs) (g : ((Unit × Unit) × (Unit × Unit) × (Int × Unit) × (Int × Unit) × Unit) × ((Int × List Int × Fs) × Unit) × ((Int × Int × Int) × Unit) × Unit) (L : ((Unit × Unit) × (Unit × Unit) × (Int × Unit) × (Int × Unit) × Unit) × ((Int × List Int × Fs) × Unit) × ((Int × Int × Int) × Unit) × Unit → Option ((((Int × Int × Int) × Unit) × Unit) × Unit)) : Option ((((Int × Int × Int) × Unit) × Unit) × Unit) := bif decide (g.1.2.2.2.1.1 < g.1.2.2.1.1) then (f29 k ((((g.2.1.1.1, g.2.1.1.2.1, g.2.1.1.2.2), ()), (g.1.2.2.2.1.1, ()), ()), ())).bind fun v => bif decide (v.1.1.1 ≥ (0 : Int)) then some ((((g.1.2.2.2.1.1, v.1.1.1, (130 : Int)), ()), ()), ()) else (f30 k ((((g.2.1.1.1, g.2.1.1.2.1, g.2.1.1.2.2), ()), (g.1.2.2.2.1.1, ()), ()), ())).bind fun v => bif !v.1.2.1.1 then some ((((g.1.2.2.2.1.1, (-1 : Int), (130 : Int)), ()), ()), ()) else L ((((), ()), ((), ()), (g.1.2.2.1.1, ()), (IntKind.i64.wrap (g.1.2.2.2.1.1 + (1 : Int)), ()), ()), ((g.2.1.1.1, g.2.1.1.2.1, g.2.1.1.2.2), ()), ((g.2.2.1.1.1, g.2.2.1.1.2.1, g.2.2.1.1.2.2), ()), ()) else some (((((0 : Int), (0 : Int), (0 : Int)), ()), ()), ())
theorem e20_eq (k : Nat) (m : Int) (d : List Int) (l : Fs) : f20 k ((((m, d, l), ()), ()), ()) = (f28 k ((((m, d, l), ()), ()), ())).bind fun v => bif v.1.2.1.1 != (0 : Int) then some (((((-1 : Int), (-1 : Int), (1 : Int)), ()), ()), ()) else bif decide ((0 : Int) ≤ (0 : Int) ∧ (0 : Int) < (↑l.length : Int)) then bif (fa l (Int.toNat (0 : Int))).1 != (3 : Int) then some (((((0 : Int), (-1 : Int), (1 : Int)), ()), ()), ()) else bif decide ((0 : Int) ≤ (0 : Int) ∧ (0 : Int) < (↑l.length : Int)) then bif (fa l (Int.toNat (0 : Int))).2.1 != (0 : Int) then some (((((0 : Int), (-1 : Int), (1 : Int)), ()), ()), ()) else loopN (e20_0 k m d l) k ((((), ()), ((), ()), ((↑l.length : Int), ()), ((0 : Int), ()), ()), ((m, d, l), ()), (((0 : Int), (0 : Int), (0 : Int)), ()), ()) else none else none := by kernel_rfl
abbrev T9 : Type := ((Unit × Unit) × (Unit × Unit) × (Int × Unit) × (Int × Unit) × Unit) × ((Int × List Int × Fs) × Unit) × ((Int × Int × Int) × Unit) × Unit
abbrev V9 : Type := Option ((((Int × Int × Int) × Unit) × Unit) × Unit)
abbrev S9 (m : Int) (d : List Int) (l : Fs) (i : Int) : T9 := ((((), ()), ((), ()), ((l.length : Int), ()), (i, ()), ()), ((m, d, l), ()), (((0 : Int), (0 : Int), (0 : Int)), ()), ())
abbrev r20 (a b c : Int) : V9 := some ((((a, b, c), ()), ()), ())
/-- a function without a flaw -/
def FOk (k : Nat) (m : Int) (d : List Int) (l : Fs) (f : Int) : Prop :=
  (∀ p, p < (fa l f.toNat).2.2.2.length → OkI k m d l f (fa l f.toNat).1 (fa l f.toNat).2.2.1 ((fa l f.toNat).2.2.2.length : Int) (ca (fa l f.toNat).2.2.2 p)) ∧ ∃ r, f30 k ((((m, d, l), ()), (f, ()), ()), ()) = R21 true r
theorem like_refl (l : Fs) : Like l l := ⟨rfl, fun _ => rfl, fun _ => rfl, fun _ => rfl⟩
theorem pre_of {k : Nat} {m m' : Int} {d d' : List Int} {l l' : Fs} (hL : Like l l') (hf : ∀ i, i < l.length → FnOk (fa l i)) {f : Int} (h0 : 0 ≤ f) (h1 : f < (l.length : Int)) {c' : List (Int × Int)} {e : Nat}
    (hc' : c'.length = (fa l f.toNat).2.2.2.length + e) (hs : ∀ i, i < (fa l f.toNat).2.2.2.length → ca c' i = ca (fa l f.toNat).2.2.2 i)
    (hok : ∀ p, p < (fa l f.toNat).2.2.2.length → OkI k m d l f (fa l f.toNat).1 (fa l f.toNat).2.2.1 ((fa l f.toNat).2.2.2.length : Int) (ca (fa l f.toNat).2.2.2 p)) :
    Pre k m m' d d' l l' f (fa l f.toNat).2.2.2 c' (fa l f.toNat).2.2.2.length e := by
  refine ⟨(hf f.toNat (by omega)).n, rfl, hc', hs, fun i hi => ?_, fun i hi => (hok i hi).j⟩
  obtain ⟨T, P, b, g1, g2, g3⟩ := eff_tot k m d l hf f h0 h1 (ca (fa l f.toNat).2.2.2 i)
  exact ⟨T, P, b, g1, (eff_like hL k m m' d d' f _).trans g1, g2, g3⟩
theorem heights_tot {k : Nat} (hk : 2000 ≤ k) {m : Int} {d : List Int} {l : Fs} (hf : ∀ i, i < l.length → FnOk (fa l i)) {f : Int} (h0 : 0 ≤ f) (h1 : f < (l.length : Int))
    (hok : ∀ p, p < (fa l f.toNat).2.2.2.length → OkI k m d l f (fa l f.toNat).1 (fa l f.toNat).2.2.1 ((fa l f.toNat).2.2.2.length : Int) (ca (fa l f.toNat).2.2.2 p)) :
    ∃ b r, f30 k ((((m, d, l), ()), (f, ()), ()), ()) = R21 b r ∧ (b = true → r.length = (fa l f.toNat).2.2.2.length) := by
  obtain ⟨b, r, g1, g2⟩ := heights_two hk h0 h1 h1 (m' := m) (d' := d) (l' := l) (e := 0) (by omega) rfl rfl (pre_of (like_refl l) hf h0 h1 rfl (fun _ _ => rfl) hok)
  exact ⟨b, r, g1, fun h => (g2 h).1⟩
theorem check_loop (k0 : Nat) (hk0 : 2000 ≤ k0) (m m0 : Int) (d d0 : List Int) (l l0 : Fs) (hl : l.length ≤ 16) (hf : ∀ i, i < l.length → FnOk (fa l i)) : ∀ (e i k : Nat), l.length - i ≤ e → e + 1 ≤ k →
    ∃ a b c, loopN (e20_0 k0 m0 d0 l0) k (S9 m d l i) = r20 a b c ∧ (c = 0 → a = 0 ∧ b = 0 ∧ ∀ g : Nat, i ≤ g → g < l.length → FOk k0 m d l g) ∧ ((∀ g : Nat, i ≤ g → g < l.length → FOk k0 m d l g) → c = 0) := by
  intro e
  induction e with
  | zero =>
    intro i k he hk
    obtain ⟨k, rfl⟩ : ∃ k2, k = k2 + 1 := ⟨k - 1, by omega⟩
    rw [loopN_succ, e20_0]
    simp only []
    rw [cneg (by omega)]
    exact ⟨0, 0, 0, rfl, fun _ => ⟨rfl, rfl, fun g h1 h2 => by omega⟩, fun _ => rfl⟩
  | succ e ih =>
    intro i k he hk
    obtain ⟨k, rfl⟩ : ∃ k2, k = k2 + 1 := ⟨k - 1, by omega⟩
    rw [loopN_succ, e20_0]
    simp only []
    by_cases h : (i : Int) < (l.length : Int)
    · rw [cpos h]
      obtain ⟨r, s1, s2⟩ := static_tot k0 (by omega) m d l hf i (by omega) h
      rw [s1, Option.bind_some]
      simp only []
      rcases s2 with ⟨rfl, ok⟩ | ⟨hr, p, p1, p2⟩
      · rw [cneg (by decide)]
        obtain ⟨b, hs, t1, t2⟩ := heights_tot hk0 hf (by omega) h ok
        rw [t1, Option.bind_some]
        simp only []
        cases b with
        | false =>
          refine ⟨i, -1, 130, rfl, fun h => by omega, fun hall => ?_⟩
          obtain ⟨_, r, hr⟩ := hall i (Nat.le_refl _) (by omega)
          rw [t1] at hr
          simp [R21] at hr
        | true =>
          simp only [Bool.not_true, cond_false]
          rw [wrapId (n := (i : Int) + 1) (by omega) (by omega)]
          obtain ⟨a, b, c, g1, g2, g3⟩ := ih (i + 1) k (by omega) (by omega)
          rw [show ((i + 1 : Nat) : Int) = (i : Int) + 1 by omega] at g1
          refine ⟨a, b, c, g1, fun h0 => ?_, fun hall => g3 fun g h1 h2 => hall g (by omega) h2⟩
          obtain ⟨u1, u2, u3⟩ := g2 h0
          refine ⟨u1, u2, fun g h1 h2 => ?_⟩
          by_cases hg : g = i
          · subst hg; exact ⟨ok, hs, t1⟩
          · exact u3 g (by omega) h2
      · rw [cpos hr]
        refine ⟨i, r, 130, rfl, fun h => by omega, fun hall => absurd ((hall i (Nat.le_refl _) (by omega)).1 p p1) p2⟩
    · rw [cneg h]
      exact ⟨0, 0, 0, rfl, fun _ => ⟨rfl, rfl, fun g h1 h2 => by omega⟩, fun _ => rfl⟩
structure Good (k : Nat) (m : Int) (d : List Int) (l : Fs) : Prop where
  ok : MOk m d l
  p : (fa l 0).1 = 3
  r : (fa l 0).2.1 = 0
  f : ∀ g : Nat, g < l.length → FOk k m d l g
theorem check_tot (k : Nat) (hk : 2000 ≤ k) (m : Int) (d : List Int) (l : Fs) :
    ∃ a b c, f20 k ((((m, d, l), ()), ()), ()) = r20 a b c ∧ (c = 0 → a = 0 ∧ b = 0 ∧ Good k m d l) := by
  rw [e20_eq]
  obtain ⟨by_, x, g1, g2⟩ := enc_tot k (by omega) m d l
  rw [g1, Option.bind_some]
  simp only []
  by_cases hx : x = 0
  · rw [nneg hx, cond_false]
    have hM := g2 hx
    have hn := hM.n
    rw [cpos (by omega), cpos (by omega), Int.toNat_zero]
    by_cases h1 : (fa l 0).1 = 3
    · rw [nneg h1, cond_false]
      by_cases h2 : (fa l 0).2.1 = 0
      · rw [nneg h2, cond_false]
        obtain ⟨a, b, c, u1, u2, u3⟩ := check_loop k hk m m d d l l hn.2 hM.f 16 0 k (by omega) (by omega)
        refine ⟨a, b, c, u1, fun h0 => ?_⟩
        obtain ⟨v1, v2, v3⟩ := u2 h0
        exact ⟨v1, v2, hM, h1, h2, fun g hg => v3 g (Nat.zero_le _) hg⟩
      · rw [npos h2]; exact ⟨0, -1, 1, rfl, fun h => by omega⟩
    · rw [npos h1]; exact ⟨0, -1, 1, rfl, fun h => by omega⟩
  · rw [npos hx]; exact ⟨-1, -1, 1, rfl, fun h => by omega⟩
theorem check_good (k : Nat) (hk : 2000 ≤ k) (m : Int) (d : List Int) (l : Fs) (hG : Good k m d l) {by_ : List Int} (he : f28 k ((((m, d, l), ()), ()), ()) = some ((((), ()), ((0 : Int), ()), ()), by_, ())) : f20 k ((((m, d, l), ()), ()), ()) = r20 0 0 0 := by
  rw [e20_eq, he, Option.bind_some]
  simp only []
  have hn := hG.ok.n
  rw [nneg rfl, cond_false, cpos (by omega), cpos (by omega), Int.toNat_zero, nneg hG.p, cond_false, nneg hG.r, cond_false]
  obtain ⟨a, b, c, u1, u2, u3⟩ := check_loop k hk m m d d l l hn.2 hG.ok.f 16 0 k (by omega) (by omega)
  have hc := u3 fun g _ hg => hG.f g hg
  obtain ⟨v1, v2, _⟩ := u2 hc
  subst v1 v2 hc
  exact u1
end
end Go.Proofs.Ytjbdeccohpbegaa.Vm
