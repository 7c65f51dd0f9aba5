/- Heights by definition: what must stand behind a place, and that no two answers are right. No condition. -/
import Derived.Test.YtgngbbkaghmnpaaCF
namespace Go.Proofs.Ytgngbbkaghmnpaa.Chk
open Go.RowKit Go.Proofs.Ytgngbbkaghmnpaa.Q Go.Proofs.YtgngbbkaghmnpaaW.PrintWords Go.Proofs.YtgngbbkaghmnpaaW.PrintLast Go.Proofs.YtgngbbkaghmnpaaW.PrintMore

theorem rd_set {xs : List Int} {i j v : Int} (h0 : 0 ≤ i) (h1 : i < (xs.length : Int)) (hj : 0 ≤ j) : rd (xs.set i.toNat v) j = if j = i then v else rd xs j := by
  unfold rd
  by_cases h : j = i
  · subst h
    rw [if_pos rfl]
    simp [List.getD, show j.toNat < xs.length by omega]
  · rw [if_neg h]
    simp [List.getD, List.getElem?_set_ne (show i.toNat ≠ j.toNat by omega)]
/-- How many places have no height yet. -/
def holes (xs : List Int) : Nat := xs.countP (fun x => decide (x < 0))
theorem holes_set {xs : List Int} {i v : Int} (h0 : 0 ≤ i) (h1 : i < (xs.length : Int)) (hn : rd xs i < 0) (hv : 0 ≤ v) : holes (xs.set i.toNat v) + 1 = holes xs := by
  unfold holes
  have hi : i.toNat < xs.length := by omega
  have hx : xs[i.toNat] < 0 := by simpa [rd, List.getD, hi] using hn
  have hp : 0 < xs.countP (fun x => decide (x < 0)) := List.countP_pos_iff.2 ⟨_, List.getElem_mem hi, by simpa using hx⟩
  rw [List.countP_set hi]
  simp only [hx, decide_true, if_true, show ¬ v < 0 by omega, decide_false, Bool.false_eq_true, if_false]
  omega
/-- A place's instruction can't be at its height. -/
def Bad (T P : Int → Int) (ret : Int → Prop) (i h : Int) : Prop := h - T i < 0 ∨ h - T i + P i > 64 ∨ (ret i ∧ h - T i ≠ 0)
/-- What comes behind a place has the height that it must have. -/
def Done (n : Int) (T P : Int → Int) (ret : Int → Prop) (nx : Int → List Int) (S : List Int) (i : Int) : Prop :=
  ¬ Bad T P ret i (rd S i) ∧ ∀ t ∈ nx i, t < n ∧ rd S t = rd S i - T i + P i
inductive Rch (n : Int) (T P : Int → Int) (nx : Int → List Int) : Int → Int → Prop
  | zero : Rch n T P nx 0 0
  | step {i h t : Int} : Rch n T P nx i h → t ∈ nx i → Rch n T P nx t (h - T i + P i)
structure Sol (n : Int) (T P : Int → Int) (ret : Int → Prop) (nx : Int → List Int) (S : List Int) : Prop where
  len : (S.length : Int) = n
  zero : rd S 0 = 0
  done : ∀ i, 0 ≤ i → i < n → 0 ≤ rd S i → Done n T P ret nx S i
structure Inv (n : Int) (T P : Int → Int) (nx : Int → List Int) (S : List Int) : Prop where
  len : (S.length : Int) = n
  zero : rd S 0 = 0
  low : ∀ i, 0 ≤ i → i < n → -1 ≤ rd S i ∧ rd S i ≤ 64
  rch : ∀ i, 0 ≤ i → i < n → 0 ≤ rd S i → Rch n T P nx i (rd S i)
/-- What is right of an answer. -/
def Spec (n : Int) (T P : Int → Int) (ret : Int → Prop) (nx : Int → List Int) (r : List Int × Bool) : Prop :=
  (r.2 = true ∧ Sol n T P ret nx r.1 ∧ Inv n T P nx r.1) ∨ (r = ([], false) ∧ ∀ S, ¬ Sol n T P ret nx S)
section
variable {n : Int} {T P : Int → Int} {ret : Int → Prop} {nx : Int → List Int}
theorem Rch.sol (hn : 0 < n) (hP : ∀ i, 0 ≤ i → i < n → 0 ≤ P i) (hx : ∀ i, 0 ≤ i → i < n → ∀ t ∈ nx i, 0 ≤ t) {S : List Int} (hS : Sol n T P ret nx S) : ∀ {i h : Int}, Rch n T P nx i h → 0 ≤ i ∧ i < n ∧ rd S i = h ∧ 0 ≤ h := by
  intro i h r
  induction r with
  | zero => exact ⟨by omega, hn, hS.zero, by omega⟩
  | step r ht ih =>
    obtain ⟨a, b, c, d⟩ := ih
    have hd := hS.done _ a b (by omega)
    have h2 := hd.2 _ ht
    have h1 := hd.1
    rw [c] at h2
    refine ⟨hx _ a b _ ht, h2.1, h2.2, ?_⟩
    unfold Bad at h1
    rw [c] at h1
    rename_i i' h' t'
    have hp := hP i' a b
    rcases Int.lt_or_le (h' - T i') 0 with q | q
    · exact absurd (Or.inl q) h1
    · omega
theorem rd_ext {a b : List Int} (hl : a.length = b.length) (h : ∀ i : Int, 0 ≤ i → i < (a.length : Int) → rd a i = rd b i) : a = b := by
  apply List.ext_getElem hl
  intro i h1 h2
  have := h i (by omega) (by omega)
  simpa [rd, List.getD, h1, h2] using this
theorem Spec.one (hn : 0 < n) (hP : ∀ i, 0 ≤ i → i < n → 0 ≤ P i) (hx : ∀ i, 0 ≤ i → i < n → ∀ t ∈ nx i, 0 ≤ t) {r s : List Int × Bool} (hr : Spec n T P ret nx r) (hs : Spec n T P ret nx s) : r = s := by
  obtain ⟨a, ab⟩ := r
  obtain ⟨b, bb⟩ := s
  rcases hr with ⟨h1, h2, h3⟩ | ⟨h1, h2⟩
  · rcases hs with ⟨g1, g2, g3⟩ | ⟨g1, g2⟩
    · simp only at h1 h2 h3 g1 g2 g3
      subst h1
      subst g1
      have : a = b := by
        apply rd_ext (by have := h2.len; have := g2.len; omega)
        intro i i0 i1
        rw [h2.len] at i1
        have p := h3.low i i0 i1
        have q := g3.low i i0 i1
        rcases Int.lt_or_le (rd a i) 0 with u | u
        · rcases Int.lt_or_le (rd b i) 0 with v | v
          · omega
          · have := (Rch.sol hn hP hx h2 (g3.rch i i0 i1 v)).2.2.1
            omega
        · have := (Rch.sol hn hP hx g2 (h3.rch i i0 i1 u)).2.2.1
          omega
      rw [this]
    · exact absurd h2 (g2 _)
  · rcases hs with ⟨g1, g2, g3⟩ | ⟨g1, g2⟩
    · exact absurd g2 (h2 _)
    · rw [h1, g1]
/-- A place that is reached can't be as it is: there is no answer. -/
theorem no_sol (hn : 0 < n) (hP : ∀ i, 0 ≤ i → i < n → 0 ≤ P i) (hx : ∀ i, 0 ≤ i → i < n → ∀ t ∈ nx i, 0 ≤ t) {i h : Int} (r : Rch n T P nx i h)
    (hb : Bad T P ret i h ∨ ∃ t ∈ nx i, n ≤ t ∨ ∃ u, Rch n T P nx t u ∧ u ≠ h - T i + P i) : ∀ S, ¬ Sol n T P ret nx S := by
  intro S hS
  obtain ⟨a, b, c, d⟩ := Rch.sol hn hP hx hS r
  have hd := hS.done i a b (by omega)
  rcases hb with hb | ⟨t, ht, hb⟩
  · exact hd.1 (by rw [c]; exact hb)
  · have := hd.2 t ht
    rcases hb with hb | ⟨u, hu, hne⟩
    · omega
    · have := (Rch.sol hn hP hx hS hu).2.2.1
      rw [c] at *
      omega
theorem Inv.put {S : List Int} (h : Inv n T P nx S) {t v : Int} (ht0 : 0 ≤ t) (ht1 : t < n) (hneg : rd S t < 0) (hv : 0 ≤ v) (hv2 : v ≤ 64) (hr : Rch n T P nx t v) : Inv n T P nx (S.set t.toNat v) := by
  have hl := h.len
  have hne : t ≠ 0 := by intro q; have := h.zero; rw [q] at hneg; omega
  refine ⟨by simpa using hl, ?_, ?_, ?_⟩
  · rw [rd_set ht0 (by omega) (by omega), if_neg (by omega)]
    exact h.zero
  · intro j j0 j1
    rw [rd_set ht0 (by omega) j0]
    split
    · omega
    · exact h.low j j0 j1
  · intro j j0 j1
    rw [rd_set ht0 (by omega) j0]
    split
    · rename_i q; intro _; rw [q]; exact hr
    · exact h.rch j j0 j1
theorem Done.put {S : List Int} (hl : (S.length : Int) = n) (hP : ∀ i, 0 ≤ i → i < n → 0 ≤ P i) (hx : ∀ i, 0 ≤ i → i < n → ∀ t ∈ nx i, 0 ≤ t) {t v i : Int} (ht0 : 0 ≤ t) (ht1 : t < n) (hneg : rd S t < 0) (i0 : 0 ≤ i) (i1 : i < n) (hi : 0 ≤ rd S i)
    (h : Done n T P ret nx S i) : Done n T P ret nx (S.set t.toNat v) i := by
  have e : rd (S.set t.toNat v) i = rd S i := by
    rw [rd_set ht0 (by omega) i0, if_neg (by intro q; rw [q] at hi; omega)]
  refine ⟨by rw [e]; exact h.1, ?_⟩
  intro u hu
  have hu2 := h.2 u hu
  have hu0 := hx i i0 i1 u hu
  have hb : ¬ rd S i - T i < 0 := fun q => h.1 (Or.inl q)
  have := hP i i0 i1
  rw [e, rd_set ht0 (by omega) hu0, if_neg (by intro q; rw [q] at hu2; omega)]
  exact hu2
end
end Go.Proofs.Ytgngbbkaghmnpaa.Chk
