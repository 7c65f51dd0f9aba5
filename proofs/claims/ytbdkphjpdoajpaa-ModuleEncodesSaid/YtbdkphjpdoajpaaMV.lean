/- Two modules are compared whole. Condition: rows that may be. -/
import Derived.Test.YtbdkphjpdoajpaaMU
import Derived.Test.YtbdkphjpdoajpaaQx21
namespace Go.Proofs.Ytbdkphjpdoajpaa.Mdl
open Go.RowKit Go.Proofs.Ytbdkphjpdoajpaa.Q Go.Proofs.YtbdkphjpdoajpaaW.PrintWords Go.Proofs.YtbdkphjpdoajpaaW.PrintLast

/-- The same function, or not. -/
def feq (x y : S44) : Prop := x.f0 = y.f0 ∧ x.f1 = y.f1 ∧ x.f2 = y.f2 ∧ x.f3 = y.f3
theorem feq_iff (x y : S44) : feq x y ↔ x = y := by
  obtain ⟨a, b, c, d⟩ := x
  obtain ⟨a', b', c', d'⟩ := y
  unfold feq
  simp only [S44.mk.injEq]
section
variable {m m' : Int} {d d' : List Int} {l l' : List S44}
theorem smod_l1 {i : Int} {R : Bool} {x y : S44} (hl : x.f3.length = y.f3.length) (hn : x.f3.length ≤ 1000000000000) {K : Nat} (hR : ∀ k, K ≤ k → casementref12_Same.l0 k (wrap64 (i + 1)) m d l m' d' l' = some R) : ∀ (e j k : Nat), x.f3.length - j = e → j ≤ x.f3.length → K + e + 1 ≤ k →
    ∃ r, casementref12_Same.l1 k i (j : Int) m d l m' d' l' x.f0 x.f1 x.f2 x.f3 y.f0 y.f1 y.f2 y.f3 = some r ∧ (r = true ↔ x.f3.drop j = y.f3.drop j ∧ R = true) := by
  intro e
  induction e with
  | zero =>
    intro j k he hj hk
    obtain ⟨k, rfl⟩ : ∃ q, k = q + 1 := ⟨k - 1, by omega⟩
    rw [casementref12_Same.l1, if_neg (by omega), hR k (by omega)]
    refine ⟨R, rfl, ?_⟩
    rw [List.drop_of_length_le (by omega), List.drop_of_length_le (by omega)]
    simp
  | succ e ih =>
    intro j k he hj hk
    obtain ⟨k, rfl⟩ : ∃ q, k = q + 1 := ⟨k - 1, by omega⟩
    have h1 : j < x.f3.length := by omega
    have h2 : j < y.f3.length := by omega
    have hw : wrap64 ((j : Int) + 1) = ((j + 1 : Nat) : Int) := by
      rw [wrap_id (by unfold I64; omega)]
      omega
    rw [casementref12_Same.l1, if_pos (by omega), if_pos (by omega), if_pos (by omega), rdI_at _ j h1, rdI_at _ j h2, hw]
    clear hw
    rw [List.drop_eq_getElem_cons h1, List.drop_eq_getElem_cons h2]
    by_cases c : x.f3[j] = y.f3[j]
    · rw [c]
      simp only [beq_self_eq_true, Bool.not_true, Bool.or_self, Bool.false_eq_true, if_false]
      obtain ⟨r, hr, hi⟩ := ih (j + 1) k (by omega) (by omega) (by omega)
      refine ⟨r, hr, hi.trans ?_⟩
      constructor
      · rintro ⟨p, q⟩; exact ⟨by rw [p], q⟩
      · rintro ⟨p, q⟩; exact ⟨(List.cons.inj p).2, q⟩
    · refine ⟨false, ?_, ?_⟩
      · rw [if_pos]
        by_cases c0 : x.f3[j].f0 = y.f3[j].f0
        · by_cases c1 : x.f3[j].f1 = y.f3[j].f1
          · exfalso
            apply c
            revert c0 c1
            cases x.f3[j]
            cases y.f3[j]
            simp only
            rintro rfl rfl
            rfl
          · simp [c1]
        · simp [c0]
      · constructor
        · intro h; cases h
        · rintro ⟨h, _⟩; exact absurd (List.cons.inj h).1 c
theorem smod_l0 (hl : l.length = l'.length) (hn : l.length ≤ 1000000000000) (hx : ∀ x ∈ l, x.f3.length ≤ 1000000000000) : ∀ (e i : Nat), l.length - i = e → i ≤ l.length →
    ∃ r, (∃ K, ∀ k, K ≤ k → casementref12_Same.l0 k (i : Int) m d l m' d' l' = some r) ∧ (r = true ↔ l.drop i = l'.drop i) := by
  intro e
  induction e with
  | zero =>
    intro i he hi
    refine ⟨true, ⟨1, fun k hk => ?_⟩, ?_⟩
    · obtain ⟨k, rfl⟩ : ∃ q, k = q + 1 := ⟨k - 1, by omega⟩
      rw [casementref12_Same.l0, if_neg (by omega)]
    · rw [List.drop_of_length_le (by omega), List.drop_of_length_le (by omega)]
      simp
  | succ e ih =>
    intro i he hi
    have h1 : i < l.length := by omega
    have h2 : i < l'.length := by omega
    obtain ⟨R, ⟨K, hK⟩, hR⟩ := ih (i + 1) (by omega) (by omega)
    have hw : wrap64 ((i : Int) + 1) = ((i + 1 : Nat) : Int) := by
      rw [wrap_id (by unfold I64; omega)]
      omega
    have hK' : ∀ k, K ≤ k → casementref12_Same.l0 k (wrap64 ((i : Int) + 1)) m d l m' d' l' = some R := by
      rw [hw]
      exact hK
    have hno : l[i] ≠ l'[i] → ∀ (g : Bool), g = true → ∃ r, (∃ K, ∀ k, K ≤ k → casementref12_Same.j2 k (i : Int) g m d l m' d' l' l[i].f0 l[i].f1 l[i].f2 l[i].f3 l'[i].f0 l'[i].f1 l'[i].f2 l'[i].f3 = some r) ∧ (r = true ↔ l.drop i = l'.drop i) := by
      intro hne g hg
      subst hg
      refine ⟨false, ⟨1, fun k hk => ?_⟩, ?_⟩
      · obtain ⟨k, rfl⟩ : ∃ q, k = q + 1 := ⟨k - 1, by omega⟩
        rw [casementref12_Same.j2, if_pos rfl]
      · rw [List.drop_eq_getElem_cons h1, List.drop_eq_getElem_cons h2]
        constructor
        · intro h; cases h
        · intro h; exact absurd (List.cons.inj h).1 hne
    have hstep : ∀ g : Bool, (∃ r, (∃ K, ∀ k, K ≤ k → casementref12_Same.j2 k (i : Int) g m d l m' d' l' l[i].f0 l[i].f1 l[i].f2 l[i].f3 l'[i].f0 l'[i].f1 l'[i].f2 l'[i].f3 = some r) ∧ (r = true ↔ l.drop i = l'.drop i)) → (∀ k, casementref12_Same.l0 (k + 1) (i : Int) m d l m' d' l' = casementref12_Same.j2 k (i : Int) g m d l m' d' l' l[i].f0 l[i].f1 l[i].f2 l[i].f3 l'[i].f0 l'[i].f1 l'[i].f2 l'[i].f3) → ∃ r, (∃ K, ∀ k, K ≤ k → casementref12_Same.l0 k (i : Int) m d l m' d' l' = some r) ∧ (r = true ↔ l.drop i = l'.drop i) := by
      rintro g ⟨r, ⟨K, hK⟩, hr⟩ h
      refine ⟨r, ⟨K + 1, fun k hk => ?_⟩, hr⟩
      obtain ⟨k, rfl⟩ : ∃ q, k = q + 1 := ⟨k - 1, by omega⟩
      rw [h]
      exact hK k (by omega)
    have hopen : ∀ k, casementref12_Same.l0 (k + 1) (i : Int) m d l m' d' l' = if l[i].f0 = l'[i].f0 then (if l[i].f1 = l'[i].f1 then (if l[i].f2 = l'[i].f2 then casementref12_Same.j2 k (i : Int) ((l[i].f3.length : Int) != (l'[i].f3.length : Int)) m d l m' d' l' l[i].f0 l[i].f1 l[i].f2 l[i].f3 l'[i].f0 l'[i].f1 l'[i].f2 l'[i].f3 else casementref12_Same.j2 k (i : Int) true m d l m' d' l' l[i].f0 l[i].f1 l[i].f2 l[i].f3 l'[i].f0 l'[i].f1 l'[i].f2 l'[i].f3) else casementref12_Same.j2 k (i : Int) true m d l m' d' l' l[i].f0 l[i].f1 l[i].f2 l[i].f3 l'[i].f0 l'[i].f1 l'[i].f2 l'[i].f3) else casementref12_Same.j2 k (i : Int) true m d l m' d' l' l[i].f0 l[i].f1 l[i].f2 l[i].f3 l'[i].f0 l'[i].f1 l'[i].f2 l'[i].f3 := by
      intro k
      rw [casementref12_Same.l0, if_pos (by clear hw; omega), if_pos (by clear hw; omega), if_pos (by clear hw; omega), rdT_at l i h1, rdT_at l' i h2]
    by_cases c0 : l[i].f0 = l'[i].f0
    · by_cases c1 : l[i].f1 = l'[i].f1
      · by_cases c2 : l[i].f2 = l'[i].f2
        · by_cases c3 : l[i].f3.length = l'[i].f3.length
          · refine hstep false ?_ (fun k => by rw [hopen k, if_pos c0, if_pos c1, if_pos c2, c3]; simp)
            have hxx := hx _ (List.getElem_mem h1)
            obtain ⟨r, hr, hi2⟩ := smod_l1 (m := m) (m' := m') (d := d) (d' := d') (l := l) (l' := l') (i := (i : Int)) (x := l[i]) (y := l'[i]) c3 hxx hK' l[i].f3.length 0 (K + l[i].f3.length + 1) (by omega) (by omega) (by omega)
            refine ⟨r, ⟨K + l[i].f3.length + 3, fun k hk => ?_⟩, ?_⟩
            · obtain ⟨k, rfl⟩ : ∃ q, k = q + 1 := ⟨k - 1, by omega⟩
              rw [casementref12_Same.j2, if_neg (by decide)]
              obtain ⟨r2, hr2, hi3⟩ := smod_l1 (m := m) (m' := m') (d := d) (d' := d') (l := l) (l' := l') (i := (i : Int)) (x := l[i]) (y := l'[i]) c3 hxx hK' l[i].f3.length 0 k (by omega) (by omega) (by omega)
              have e : r2 = r := by
                have := hi3.trans hi2.symm
                cases r2 <;> cases r <;> simp_all
              rw [← e]
              exact hr2
            · rw [List.drop_eq_getElem_cons h1, List.drop_eq_getElem_cons h2]
              refine hi2.trans ?_
              rw [List.drop_zero, List.drop_zero, hR]
              constructor
              · rintro ⟨p, q⟩
                rw [q, (feq_iff l[i] l'[i]).1 ⟨c0, c1, c2, p⟩]
              · intro h
                have h3 := List.cons.inj h
                exact ⟨by rw [h3.1], h3.2⟩
          · refine hstep true (hno ?_ true rfl) (fun k => by rw [hopen k, if_pos c0, if_pos c1, if_pos c2, show (((l[i].f3.length : Int)) != ((l'[i].f3.length : Int))) = true from by simp; omega])
            intro h; apply c3; rw [h]
        · refine hstep true (hno ?_ true rfl) (fun k => by rw [hopen k, if_pos c0, if_pos c1, if_neg c2])
          intro h; apply c2; rw [h]
      · refine hstep true (hno ?_ true rfl) (fun k => by rw [hopen k, if_pos c0, if_neg c1])
        intro h; apply c1; rw [h]
    · refine hstep true (hno ?_ true rfl) (fun k => by rw [hopen k, if_neg c0])
      intro h; apply c0; rw [h]
/-- Two modules are the same, or not. -/
theorem same_is (hd : d.length ≤ 1000000000000) (hn : l.length ≤ 1000000000000) (hx : ∀ x ∈ l, x.f3.length ≤ 1000000000000) :
    ∃ r, (∃ K, ∀ k, K ≤ k → casementref12_Same.f k m d l m' d' l' = some r) ∧ (r = true ↔ m = m' ∧ d = d' ∧ l = l') := by
  have hno : ¬ (m = m' ∧ d = d' ∧ l.length = l'.length) → (∃ K, ∀ k, K ≤ k → casementref12_Same.f k m d l m' d' l' = some false) → ∃ r, (∃ K, ∀ k, K ≤ k → casementref12_Same.f k m d l m' d' l' = some r) ∧ (r = true ↔ m = m' ∧ d = d' ∧ l = l') := by
    intro hne h
    refine ⟨false, h, ?_⟩
    constructor
    · intro h; cases h
    · rintro ⟨rfl, rfl, rfl⟩; exact absurd ⟨rfl, rfl, rfl⟩ hne
  have hj : ∀ k, casementref12_Same.j0 (k + 1) true m d l m' d' l' = some false := fun k => by rw [casementref12_Same.j0, if_pos rfl]
  by_cases c0 : m = m'
  · by_cases c1 : d = d'
    · by_cases c2 : l.length = l'.length
      · obtain ⟨r, ⟨K, hK⟩, hr⟩ := smod_l0 (m := m) (m' := m') (d := d) (d' := d') c2 hn hx l.length 0 (by omega) (by omega)
        refine ⟨r, ⟨K + d.length + 2, fun k hk => ?_⟩, ?_⟩
        · obtain ⟨k, rfl⟩ : ∃ q, k = q + 1 := ⟨k - 1, by omega⟩
          unfold casementref12_Same.f
          rw [if_pos c0, same_bytes hd (by omega)]
          simp only [Option.bind_some]
          rw [decide_eq_true c1, if_pos rfl, casementref12_Same.j0, c2, if_neg (by simp)]
          exact hK k (by omega)
        · rw [hr, List.drop_zero, List.drop_zero]
          exact ⟨fun h => ⟨c0, c1, h⟩, fun h => h.2.2⟩
      · refine hno (fun h => c2 h.2.2) ⟨d.length + 2, fun k hk => ?_⟩
        obtain ⟨k, rfl⟩ : ∃ q, k = q + 1 := ⟨k - 1, by omega⟩
        unfold casementref12_Same.f
        rw [if_pos c0, same_bytes hd (by omega)]
        simp only [Option.bind_some]
        rw [decide_eq_true c1, if_pos rfl, show (((l.length : Int)) != ((l'.length : Int))) = true from by simp; omega]
        exact hj k
    · refine hno (fun h => c1 h.2.1) ⟨d.length + 2, fun k hk => ?_⟩
      obtain ⟨k, rfl⟩ : ∃ q, k = q + 1 := ⟨k - 1, by omega⟩
      unfold casementref12_Same.f
      rw [if_pos c0, same_bytes hd (by omega)]
      simp only [Option.bind_some]
      rw [decide_eq_false c1, if_neg (by decide)]
      exact hj k
  · refine hno (fun h => c0 h.1) ⟨1, fun k hk => ?_⟩
    obtain ⟨k, rfl⟩ : ∃ q, k = q + 1 := ⟨k - 1, by omega⟩
    unfold casementref12_Same.f
    rw [if_neg c0]
    exact hj k
end
end Go.Proofs.Ytbdkphjpdoajpaa.Mdl
