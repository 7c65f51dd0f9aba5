/- The document's heights, by sweeps, are right too. Condition: the function's instructions may be. -/
import Derived.Test.YtgngbbkaghmnpaaCG
import Derived.Test.YtgngbbkaghmnpaaCA
import Derived.Test.YtgngbbkaghmnpaaQx23
import Derived.Test.YtgngbbkaghmnpaaQx22
import Derived.Test.YtgngbbkaghmnpaaQx31
namespace Go.Proofs.Ytgngbbkaghmnpaa.Chk
open Go.RowKit Go.Proofs.Ytgngbbkaghmnpaa.Q Go.Proofs.YtgngbbkaghmnpaaW.PrintWords Go.Proofs.YtgngbbkaghmnpaaW.PrintLast Go.Proofs.YtgngbbkaghmnpaaW.PrintMore

theorem eff_ref {m : Int} {d : List Int} {l : List S42} {f op n : Int} (f0 : 0 ≤ f) (f1 : f < (l.length : Int)) {k : Nat} (hk : 6 ≤ k) : casementref13_Effect.f k m d l f op n = some (eT l f op n) := by
  obtain ⟨v, h1, h2⟩ := eff_eq m d l f op n (k := 6) (by omega)
  rw [eff_tab f0 f1 (by omega)] at h1
  rw [at_rounds (casementref13_Effect.mono m d l f op n) hk h2, ← h1]
theorem rd_nat {xs : List Int} {i : Nat} (h : i < xs.length) : rd xs (i : Int) = xs[i] := by
  unfold rd
  simp [List.getD, h]
theorem put_l0 {xs : List Int} {a v : Int} (ha : 0 ≤ a) (hn : xs.length ≤ 1000000) : ∀ (e i k : Nat) (o : List Int), xs.length - i = e → i ≤ xs.length → e + 1 ≤ k → o.length + e ≤ 2000000 →
    casementref13_put.l0 k xs a v o (i : Int) = some (o ++ (xs.set a.toNat v).drop i) := by
  intro e
  induction e with
  | zero =>
    intro i k o he hi hk ho
    obtain ⟨k, rfl⟩ : ∃ q, k = q + 1 := ⟨k - 1, by omega⟩
    rw [casementref13_put.l0, if_neg (by omega), List.drop_of_length_le (by rw [List.length_set]; omega), List.append_nil]
  | succ e ih =>
    intro i k o he hi hk ho
    obtain ⟨k, rfl⟩ : ∃ q, k = q + 1 := ⟨k - 1, by omega⟩
    have h1 : i < xs.length := by omega
    have h2 : i < (xs.set a.toNat v).length := by rw [List.length_set]; exact h1
    have hw : wrap64 ((i : Int) + 1) = ((i + 1 : Nat) : Int) := by
      rw [wrap_id (by unfold I64; omega)]
      omega
    rw [casementref13_put.l0, if_pos (by omega), hw]
    clear hw
    rw [List.drop_eq_getElem_cons h2]
    by_cases c : (i : Int) = a
    · rw [if_pos c, if_pos (by omega), ih (i + 1) k _ (by omega) (by omega) (by omega) (by simp only [List.length_append, List.length_singleton]; omega), List.append_assoc]
      rw [show (xs.set a.toNat v)[i] = v by simp [show a.toNat = i by omega]]
      rfl
    · rw [if_neg c, if_pos (by omega), if_pos (by omega), ih (i + 1) k _ (by omega) (by omega) (by omega) (by simp only [List.length_append, List.length_singleton]; omega), List.append_assoc, rd_nat h1]
      rw [show (xs.set a.toNat v)[i] = xs[i] by rw [List.getElem_set_ne (by omega)]]
      rfl
theorem put_is {xs : List Int} {a v : Int} (ha : 0 ≤ a) (hn : xs.length ≤ 1000000) {k : Nat} (hk : xs.length + 1 ≤ k) : casementref13_put.f k xs a v = some (xs.set a.toNat v) := by
  have := put_l0 (v := v) ha hn xs.length 0 k [] (by omega) (by omega) hk (by simp; omega)
  rw [List.drop_zero, List.nil_append] at this
  exact this
theorem behind_is {m : Int} {d : List Int} {l : List S42} {f : Int} {c : List S46} {hs : List Int} {ch : Bool} {i p h : Int} {x : S46} (k : Nat) (hi : I64 (i + 1)) :
    casementref13_Heights.j3 (k + 5) f c hs ch i p h false m d l x.f0 x.f1 = casementref13_Heights.l3 k f c hs ch i p h (nxl i x) 0 m d l := by
  rw [casementref13_Heights.j3, if_neg (by decide)]
  simp only [Option.bind_some]
  have j4t : ∀ xs : List Int, xs.length ≤ 1000 → casementref13_Heights.j4 (k + 4) f c hs ch i p h xs true m d l x.f0 x.f1 = casementref13_Heights.j5 (k + 3) f c hs ch i p h (xs ++ [x.f1]) m d l x.f0 x.f1 := fun xs hx => by rw [casementref13_Heights.j4, if_pos rfl, if_pos (by omega)]
  have j4f : ∀ xs : List Int, casementref13_Heights.j4 (k + 4) f c hs ch i p h xs false m d l x.f0 x.f1 = casementref13_Heights.j5 (k + 3) f c hs ch i p h xs m d l x.f0 x.f1 := fun xs => by rw [casementref13_Heights.j4, if_neg (by decide)]
  have j6t : ∀ xs : List Int, xs.length ≤ 1000 → casementref13_Heights.j6 (k + 2) f c hs ch i p h xs true m d l = casementref13_Heights.l3 k f c hs ch i p h (xs ++ [i + 1]) 0 m d l := fun xs hx => by rw [casementref13_Heights.j6, if_pos rfl, if_pos (by omega), wrap_id hi, casementref13_Heights.j7]
  have j6f : ∀ xs : List Int, casementref13_Heights.j6 (k + 2) f c hs ch i p h xs false m d l = casementref13_Heights.l3 k f c hs ch i p h xs 0 m d l := fun xs => by rw [casementref13_Heights.j6, if_neg (by decide), casementref13_Heights.j7]
  unfold nxl
  by_cases c24 : x.f0 = 24
  · rw [if_pos c24, j4t _ (by simp), casementref13_Heights.j5, if_pos c24, j6f, if_neg (by omega), if_pos c24]
    rfl
  · rw [if_neg c24]
    by_cases c25 : x.f0 = 25
    · rw [show (x.f0 == 25) = true by simpa using c25, j4t _ (by simp), casementref13_Heights.j5, if_neg c24, if_neg (by omega), show (x.f0 != 29) = true by simp; omega, j6t _ (by simp), if_neg (by omega), if_neg c24, if_pos c25]
      rfl
    · rw [show (x.f0 == 25) = false by simpa using c25, j4f, casementref13_Heights.j5, if_neg c24]
      by_cases c27 : x.f0 = 27
      · rw [if_pos c27, j6f, if_pos (Or.inl c27)]
      · rw [if_neg c27]
        by_cases c29 : x.f0 = 29
        · rw [show (x.f0 != 29) = false by simpa using c29, j6f, if_pos (Or.inr c29)]
        · rw [show (x.f0 != 29) = true by simpa using c29, j6t _ (by simp), if_neg (by omega), if_neg c24, if_neg c25]
          rfl
section
variable {m : Int} {d : List Int} {l : List S42} {f : Int} {c : List S46} {T P : Int → Int} {ret : Int → Prop} {nx : Int → List Int}
/-- What is right of the places below one, as long as nothing has changed. -/
def Till (c : List S46) (T P : Int → Int) (ret : Int → Prop) (nx : Int → List Int) (hs : List Int) (ch : Bool) (a : Int) : Prop :=
  ch = false → ∀ i, 0 ≤ i → i < a → 0 ≤ rd hs i → Done (c.length : Int) T P ret nx hs i
theorem r3_ok (hO : Fits m d l f c T P ret nx) {at_ : Nat} (a1 : (at_ : Int) < (c.length : Int)) {hh : Int} (hb : ¬ Bad T P ret at_ hh) (hh1 : hh ≤ 64) (hh0 : 0 ≤ hh) : ∀ (e : Nat) (k j : Nat) (hs : List Int) (ch : Bool), (nx at_).length - j = e → j ≤ (nx at_).length → 2 * e + 1 + 1000 ≤ k →
    Inv (c.length : Int) T P nx hs → rd hs at_ = hh → Till c T P ret nx hs ch at_ → (∀ q : Int, 0 ≤ q → q < (j : Int) → rd (nx at_) q < (c.length : Int) ∧ rd hs (rd (nx at_) q) = hh - T at_ + P at_) →
    (casementref13_Heights.l3 k f c hs ch (at_ : Int) (P at_) (hh - T at_) (nx at_) (j : Int) m d l = some ([], false) ∧ ∀ S, ¬ Sol (c.length : Int) T P ret nx S) ∨
    ∃ k' hs' ch', casementref13_Heights.l3 k f c hs ch (at_ : Int) (P at_) (hh - T at_) (nx at_) (j : Int) m d l = casementref13_Heights.l2 k' f c hs' ch' ((at_ + 1 : Nat) : Int) m d l ∧ k = k' + 2 * e + 1 ∧
      Inv (c.length : Int) T P nx hs' ∧ Till c T P ret nx hs' ch' ((at_ + 1 : Nat) : Int) ∧ holes hs' ≤ holes hs ∧ (ch' = true → ch = true ∨ holes hs' < holes hs) := by
  have a0 : 0 ≤ (at_ : Int) := by omega
  have hn1 := hO.n1
  intro e
  induction e with
  | zero =>
    intro k j hs ch he hj hk hI hat hT hq
    obtain ⟨k, rfl⟩ : ∃ q, k = q + 1 := ⟨k - 1, by omega⟩
    right
    have hw : PLift (wrap64 ((at_ : Int) + 1) = ((at_ + 1 : Nat) : Int)) := ⟨by
      rw [wrap_id (by unfold I64; omega)]
      omega⟩
    refine ⟨k, hs, ch, ?_, by omega, hI, ?_, Nat.le_refl _, fun h => Or.inl h⟩
    · rw [casementref13_Heights.l3, if_neg (by omega), hw.down]
    · intro hc i i0 i1 hi
      by_cases q : i = (at_ : Int)
      · subst q
        refine ⟨by rw [hat]; exact hb, ?_⟩
        intro t ht2
        obtain ⟨p, hp, rfl⟩ := List.getElem_of_mem ht2
        have := hq (p : Int) (by omega) (by omega)
        rw [hat]
        simpa [rd, List.getD, hp] using this
      · exact hT hc i i0 (by omega) hi
  | succ e ih =>
    intro k j hs ch he hj hk hI hat hT hq
    obtain ⟨k, rfl⟩ : ∃ q, k = q + 2 := ⟨k - 2, by omega⟩
    have hlen := hI.len
    have htk := hO.tk at_ a0 a1
    have hpt := hO.pt at_ a0 a1
    have h2 := hO.two at_ a0 a1
    have hm : rd (nx at_) (j : Int) ∈ nx at_ := rd_mem (by omega) (by omega)
    have hr := hO.nr at_ a0 a1 _ hm
    have hb1 : 0 ≤ hh - T at_ := by
      rcases Int.lt_or_le (hh - T at_) 0 with q | q
      · exact absurd (Or.inl q) hb
      · exact q
    have hb2 : hh - T at_ + P at_ ≤ 64 := by
      rcases Int.lt_or_le 64 (hh - T at_ + P at_) with q | q
      · exact absurd (Or.inr (Or.inl q)) hb
      · exact q
    have hw : PLift (wrap64 (hh - T at_ + P at_) = hh - T at_ + P at_) := ⟨wrap_id (by unfold I64; omega)⟩
    have hj1 : PLift (wrap64 ((j : Int) + 1) = ((j + 1 : Nat) : Int)) := ⟨by
      rw [wrap_id (by unfold I64; omega)]
      omega⟩
    have hrc : Rch (c.length : Int) T P nx at_ hh := by
      have := hI.rch at_ a0 a1 (by omega)
      rwa [hat] at this
    rw [casementref13_Heights.l3, if_pos (by omega), if_pos (by omega)]
    by_cases c1 : rd (nx at_) (j : Int) ≥ (c.length : Int)
    · left
      rw [if_pos c1, casementref13_Heights.j9, if_pos rfl]
      exact ⟨rfl, no_sol hO.n0 hO.hP hO.hx hrc (Or.inr ⟨_, hm, Or.inl c1⟩)⟩
    · rw [if_neg c1, if_pos hr.1, if_pos (by omega)]
      by_cases c2 : rd hs (rd (nx at_) (j : Int)) ≥ 0
      · rw [if_pos c2, hw.down]
        by_cases c3 : rd hs (rd (nx at_) (j : Int)) = hh - T at_ + P at_
        · rw [casementref13_Heights.j9, if_neg (by simp [c3]), if_pos hr.1, if_pos (by omega), if_neg (by omega), hj1.down]
          have := ih k (j + 1) hs ch (by omega) (by omega) (by omega) hI hat hT (by
            intro q q0 q1
            by_cases z : q = (j : Int)
            · subst z
              exact ⟨by omega, c3⟩
            · exact hq q q0 (by omega))
          rcases this with h | ⟨k', hs', ch', h1, h3, h4, h5, h6, h7⟩
          · exact Or.inl h
          · exact Or.inr ⟨k', hs', ch', h1, by omega, h4, h5, h6, h7⟩
        · left
          rw [casementref13_Heights.j9, if_pos (by simpa using c3)]
          exact ⟨rfl, no_sol hO.n0 hO.hP hO.hx hrc (Or.inr ⟨_, hm, Or.inr ⟨_, hI.rch _ hr.1 (by omega) c2, c3⟩⟩)⟩
      · have hne : rd hs (rd (nx at_) (j : Int)) < 0 := by omega
        rw [if_neg c2, casementref13_Heights.j9, if_neg (by simp), if_pos hr.1, if_pos (by omega), if_pos hne, hw.down, hj1.down, put_is hr.1 (by omega) (by omega)]
        simp only [Option.bind_some]
        have hold : ∀ i, 0 ≤ i → 0 ≤ rd hs i → rd (hs.set (rd (nx at_) (j : Int)).toNat (hh - T at_ + P at_)) i = rd hs i := by
          intro i i0 hi
          rw [rd_set hr.1 (by omega) i0, if_neg (by intro q; rw [q] at hi; omega)]
        have hsame : rd (hs.set (rd (nx at_) (j : Int)).toNat (hh - T at_ + P at_)) (rd (nx at_) (j : Int)) = hh - T at_ + P at_ := by
          rw [rd_set hr.1 (by omega) hr.1, if_pos rfl]
        have hhol := holes_set (xs := hs) hr.1 (by omega) hne (v := hh - T at_ + P at_) (by omega)
        have := ih k (j + 1) _ true (by omega) (by omega) (by omega) (hI.put hr.1 (by omega) hne (by omega) hb2 (Rch.step hrc hm)) (by rw [hold at_ a0 (by omega)]; exact hat) (fun h => by cases h) (by
            intro q q0 q1
            by_cases z : q = (j : Int)
            · subst z
              exact ⟨by omega, hsame⟩
            · have := hq q q0 (by omega)
              have hq1 : rd (nx at_) q ∈ nx at_ := rd_mem q0 (by omega)
              have hq2 := hO.nr at_ a0 a1 _ hq1
              exact ⟨this.1, by rw [hold _ hq2.1 (by omega)]; exact this.2⟩)
        rcases this with h | ⟨k', hs', ch', h1, h3, h4, h5, h6, h7⟩
        · exact Or.inl h
        · exact Or.inr ⟨k', hs', ch', h1, by omega, h4, h5, by omega, fun _ => Or.inr (by omega)⟩
/-- One sweep. -/
theorem r2_ok (hO : Fits m d l f c T P ret nx) (hE : ∀ i : Nat, (i : Int) < (c.length : Int) → ∃ b, ∀ k, 6 ≤ k → casementref13_Effect.f k m d l f (rd_T46 c (i : Int)).f0 (rd_T46 c (i : Int)).f1 = some (T (i : Int), P (i : Int), b)) (hX : ∀ i : Nat, (i : Int) < (c.length : Int) → nx (i : Int) = nxl (i : Int) (rd_T46 c (i : Int))) : ∀ (e : Nat) (k a : Nat) (hs : List Int) (ch : Bool), c.length - a = e → a ≤ c.length → 12 * e + 2000 ≤ k →
    Inv (c.length : Int) T P nx hs → Till c T P ret nx hs ch a →
    (casementref13_Heights.l2 k f c hs ch (a : Int) m d l = some ([], false) ∧ ∀ S, ¬ Sol (c.length : Int) T P ret nx S) ∨
    ∃ k' hs' ch', casementref13_Heights.l2 k f c hs ch (a : Int) m d l = casementref13_Heights.l1 k' f c hs' ch' m d l ∧ k ≤ k' + 12 * e + 1 ∧
      Inv (c.length : Int) T P nx hs' ∧ Till c T P ret nx hs' ch' (c.length : Int) ∧ holes hs' ≤ holes hs ∧ (ch' = true → ch = true ∨ holes hs' < holes hs) := by
  have hn1 := hO.n1
  intro e
  induction e with
  | zero =>
    intro k a hs ch he ha hk hI hT
    obtain ⟨k, rfl⟩ : ∃ q, k = q + 1 := ⟨k - 1, by omega⟩
    right
    refine ⟨k, hs, ch, ?_, by omega, hI, ?_, Nat.le_refl _, fun h => Or.inl h⟩
    · rw [casementref13_Heights.l2, if_neg (by omega)]
    · rw [show ((c.length : Nat) : Int) = (a : Int) by omega]
      exact hT
  | succ e ih =>
    intro k a hs ch he ha hk hI hT
    obtain ⟨k, rfl⟩ : ∃ q, k = q + 6 := ⟨k - 6, by omega⟩
    have hlen := hI.len
    have a1 : (a : Int) < (c.length : Int) := by omega
    have a0 : 0 ≤ (a : Int) := by omega
    rw [casementref13_Heights.l2, if_pos a1, if_pos a0, if_pos (by omega)]
    by_cases cn : rd hs (a : Int) < 0
    · have hw : PLift (wrap64 ((a : Int) + 1) = ((a + 1 : Nat) : Int)) := ⟨by
        rw [wrap_id (by unfold I64; omega)]
        omega⟩
      rw [if_pos cn, hw.down]
      have := ih (k + 5) (a + 1) hs ch (by omega) (by omega) (by omega) hI (fun hc i i0 i1 hi => by
        by_cases q : i = (a : Int)
        · rw [q] at hi; omega
        · exact hT hc i i0 (by omega) hi)
      rcases this with h | ⟨k', hs', ch', h1, h3, h4, h5, h6, h7⟩
      · exact Or.inl h
      · exact Or.inr ⟨k', hs', ch', h1, by omega, h4, h5, h6, h7⟩
    · rw [if_neg cn]
      obtain ⟨bb, hE'⟩ := hE a a1
      rw [hE' (k + 5) (by omega)]
      simp only [Option.bind_some]
      have hlow := hI.low a a0 a1
      have htk := hO.tk a a0 a1
      have hpt := hO.pt a a0 a1
      have hrc := hI.rch a a0 a1 (by omega)
      have hw1 : PLift (wrap64 (rd hs a - T a) = rd hs a - T a) := ⟨wrap_id (by unfold I64; omega)⟩
      have hw2 : PLift (wrap64 (rd hs a - T a + P a) = rd hs a - T a + P a) := ⟨wrap_id (by unfold I64; omega)⟩
      rw [hw1.down, hw2.down]
      by_cases hb : Bad T P ret a (rd hs a)
      · left
        refine ⟨?_, no_sol hO.n0 hO.hP hO.hx hrc (Or.inl hb)⟩
        by_cases b1 : rd hs a - T a < 0
        · rw [if_pos b1, casementref13_Heights.j3, if_pos rfl]
        · rw [if_neg b1]
          by_cases b2 : rd hs a - T a + P a > 64
          · rw [if_pos b2, casementref13_Heights.j3, if_pos rfl]
          · rw [if_neg b2]
            rcases hb with hb | hb | ⟨hb, hc⟩
            · exact absurd hb b1
            · exact absurd hb b2
            · rw [if_pos ((hO.rt a a0 a1).1 hb), casementref13_Heights.j3, if_pos (by simpa using hc)]
      · have b1 : ¬ rd hs a - T a < 0 := fun q => hb (Or.inl q)
        have b2 : ¬ rd hs a - T a + P a > 64 := fun q => hb (Or.inr (Or.inl q))
        rw [if_neg b1, if_neg b2]
        have hj : ∀ g : Bool, g = false → casementref13_Heights.j3 (k + 5) f c hs ch (a : Int) (P a) (rd hs a - T a) g m d l (rd_T46 c a).f0 (rd_T46 c a).f1 = casementref13_Heights.l3 k f c hs ch (a : Int) (P a) (rd hs a - T a) (nx a) ((0 : Nat) : Int) m d l := by
          intro g hg
          subst hg
          rw [behind_is k (by unfold I64; omega), ← hX a a1]
          rfl
        have hgo : (if (rd_T46 c a).f0 = 27 then casementref13_Heights.j3 (k + 5) f c hs ch (a : Int) (P a) (rd hs a - T a) ((rd hs a - T a) != 0) m d l (rd_T46 c a).f0 (rd_T46 c a).f1 else casementref13_Heights.j3 (k + 5) f c hs ch (a : Int) (P a) (rd hs a - T a) false m d l (rd_T46 c a).f0 (rd_T46 c a).f1) = casementref13_Heights.l3 k f c hs ch (a : Int) (P a) (rd hs a - T a) (nx a) ((0 : Nat) : Int) m d l := by
          split
          · rename_i q
            apply hj
            have : ¬ (rd hs a - T a ≠ 0) := fun z => hb (Or.inr (Or.inr ⟨(hO.rt a a0 a1).2 q, z⟩))
            simp only [bne_eq_false_iff_eq]
            omega
          · exact hj _ rfl
        rw [hgo]
        have h2 := hO.two a a0 a1
        have := r3_ok hO a1 hb hlow.2 (by omega) ((nx a).length) k 0 hs ch (by omega) (by omega) (by omega) hI rfl hT (by intro q q0 q1; omega)
        rcases this with h | ⟨k', hs', ch', h1, h3, h4, h5, h6, h7⟩
        · exact Or.inl h
        · rw [h1]
          have := ih k' (a + 1) hs' ch' (by omega) (by omega) (by omega) h4 h5
          rcases this with h | ⟨k2, hs2, ch2, g1, g3, g4, g5, g6, g7⟩
          · exact Or.inl h
          · refine Or.inr ⟨k2, hs2, ch2, g1, by omega, g4, g5, by omega, fun h => ?_⟩
            rcases g7 h with g | g
            · rcases h7 g with q | q
              · exact Or.inl q
              · exact Or.inr (by omega)
            · exact Or.inr (by omega)
/-- All sweeps. -/
theorem r1_ok (hO : Fits m d l f c T P ret nx) (hE : ∀ i : Nat, (i : Int) < (c.length : Int) → ∃ b, ∀ k, 6 ≤ k → casementref13_Effect.f k m d l f (rd_T46 c (i : Int)).f0 (rd_T46 c (i : Int)).f1 = some (T (i : Int), P (i : Int), b)) (hX : ∀ i : Nat, (i : Int) < (c.length : Int) → nx (i : Int) = nxl (i : Int) (rd_T46 c (i : Int))) : ∀ (e k : Nat) (hs : List Int), holes hs ≤ e → 5000 * e + 10000 ≤ k → Inv (c.length : Int) T P nx hs →
    ∃ r, casementref13_Heights.l1 k f c hs true m d l = some r ∧ Spec (c.length : Int) T P ret nx r := by
  have hn1 := hO.n1
  intro e
  induction e with
  | zero =>
    intro k hs he hk hI
    obtain ⟨k, rfl⟩ : ∃ q, k = q + 1 := ⟨k - 1, by omega⟩
    rw [casementref13_Heights.l1, if_pos rfl]
    have := r2_ok hO hE hX c.length k 0 hs false (by omega) (by omega) (by omega) hI (fun _ i i0 i1 => by omega)
    rcases this with ⟨h, hs'⟩ | ⟨k', hs', ch', h1, h3, h4, h5, h6, h7⟩
    · exact ⟨_, h, Or.inr ⟨rfl, hs'⟩⟩
    · obtain ⟨k', rfl⟩ : ∃ q, k' = q + 1 := ⟨k' - 1, by omega⟩
      cases ch' with
      | true =>
        rcases h7 rfl with h | h
        · cases h
        · omega
      | false =>
        rw [show ((0 : Nat) : Int) = 0 from rfl] at h1
        rw [h1, casementref13_Heights.l1, if_neg (by decide)]
        exact ⟨_, rfl, Or.inl ⟨rfl, ⟨h4.len, h4.zero, fun i a b c => h5 rfl i a b c⟩, h4⟩⟩
  | succ e ih =>
    intro k hs he hk hI
    obtain ⟨k, rfl⟩ : ∃ q, k = q + 1 := ⟨k - 1, by omega⟩
    rw [casementref13_Heights.l1, if_pos rfl]
    have := r2_ok hO hE hX c.length k 0 hs false (by omega) (by omega) (by omega) hI (fun _ i i0 i1 => by omega)
    rcases this with ⟨h, hs'⟩ | ⟨k', hs', ch', h1, h3, h4, h5, h6, h7⟩
    · exact ⟨_, h, Or.inr ⟨rfl, hs'⟩⟩
    · rw [show ((0 : Nat) : Int) = 0 from rfl] at h1
      rw [h1]
      cases ch' with
      | true =>
        rcases h7 rfl with h | h
        · cases h
        · exact ih k' hs' (by omega) (by omega) h4
      | false =>
        obtain ⟨k', rfl⟩ : ∃ q, k' = q + 1 := ⟨k' - 1, by omega⟩
        rw [casementref13_Heights.l1, if_neg (by decide)]
        exact ⟨_, rfl, Or.inl ⟨rfl, ⟨h4.len, h4.zero, fun i a b c => h5 rfl i a b c⟩, h4⟩⟩
theorem r0_ok (hn : c.length ≤ 400) : ∀ (e k : Nat) (hs : List Int), c.length - hs.length = e → hs.length ≤ c.length → 1 ≤ hs.length → e + 1 ≤ k → (∀ j : Int, 0 ≤ j → j < (hs.length : Int) → rd hs j = if j = 0 then 0 else -1) →
    ∃ k' ys, casementref13_Heights.l0 k f c hs (hs.length : Int) m d l = casementref13_Heights.l1 k' f c ys true m d l ∧ k = k' + e + 1 ∧ ys.length = c.length ∧ ∀ j : Int, 0 ≤ j → j < (c.length : Int) → rd ys j = if j = 0 then 0 else -1 := by
  intro e
  induction e with
  | zero =>
    intro k hs he hl h1 hk hx
    obtain ⟨k, rfl⟩ : ∃ q, k = q + 1 := ⟨k - 1, by omega⟩
    refine ⟨k, hs, ?_, rfl, by omega, fun j a b => hx j a (by omega)⟩
    rw [casementref13_Heights.l0, if_neg (by omega)]
  | succ e ih =>
    intro k hs he hl h1 hk hx
    obtain ⟨k, rfl⟩ : ∃ q, k = q + 1 := ⟨k - 1, by omega⟩
    have hw : PLift (wrap64 ((hs.length : Int) + 1) = (((hs ++ [(-1 : Int)]).length : Nat) : Int)) := ⟨by
      rw [wrap_id (by unfold I64; omega), List.length_append, List.length_singleton]
      omega⟩
    rw [casementref13_Heights.l0, if_pos (by omega), if_pos (by omega), hw.down]
    have hl2 : (hs ++ [(-1 : Int)]).length = hs.length + 1 := by simp
    have := ih k (hs ++ [-1]) (by omega) (by omega) (by omega) (by omega) (by
      intro j j0 j1
      by_cases q : j = (hs.length : Int)
      · rw [q, if_neg (by omega)]
        simp [rd, List.getD]
      · have e1 : rd (hs ++ [-1]) j = rd hs j := by
          unfold rd
          simp [List.getD, List.getElem?_append_left (show j.toNat < hs.length by omega)]
        rw [e1]
        exact hx j j0 (by omega))
    obtain ⟨k', ys, g1, g2, g3, g4⟩ := this
    exact ⟨k', ys, g1, by omega, g3, g4⟩
/-- What the document finds of heights is right. -/
theorem rheights_ok (hO : Fits m d l f c T P ret nx) (hE : ∀ i : Nat, (i : Int) < (c.length : Int) → ∃ b, ∀ k, 6 ≤ k → casementref13_Effect.f k m d l f (rd_T46 c (i : Int)).f0 (rd_T46 c (i : Int)).f1 = some (T (i : Int), P (i : Int), b)) (hX : ∀ i : Nat, (i : Int) < (c.length : Int) → nx (i : Int) = nxl (i : Int) (rd_T46 c (i : Int))) {k : Nat} (hk : 3000000 ≤ k) : ∃ r, casementref13_Heights.f k m d l f = some r ∧ Spec (c.length : Int) T P ret nx r := by
  have n0 := hO.n0
  have n1 := hO.n1
  unfold casementref13_Heights.f
  rw [if_pos hO.f0, if_pos hO.f1, hO.code]
  obtain ⟨k', ys, h1, h2, h3, h4⟩ := r0_ok (m := m) (d := d) (l := l) (f := f) (c := c) (by omega) (c.length - 1) k [0] (by simp) (by simp; omega) (by simp) (by omega) (by
    intro j j0 j1
    simp only [List.length_singleton] at j1
    rw [if_pos (by omega), show j = 0 by omega]
    rfl)
  have h1' : casementref13_Heights.l0 k f c [0] 1 m d l = casementref13_Heights.l1 k' f c ys true m d l := h1
  rw [h1']
  have hc : holes ys ≤ ys.length := List.countP_le_length
  refine r1_ok hO hE hX c.length k' ys (by omega) (by omega) ⟨by omega, ?_, ?_, ?_⟩
  · rw [h4 0 (by omega) (by omega)]
    rfl
  · intro i i0 i1
    rw [h4 i i0 i1]
    split <;> omega
  · intro i i0 i1
    rw [h4 i i0 i1]
    split
    · rename_i q; intro _; rw [q]; exact Rch.zero
    · intro q; omega
end
end Go.Proofs.Ytgngbbkaghmnpaa.Chk
