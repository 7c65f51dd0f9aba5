/- Every module has the flaw, or none, and the heights, that are said: CheckPlays answers true for every module. No condition. -/
import Derived.Test.YtgngbbkaghmnpaaCP
import Derived.Test.YtgngbbkaghmnpaaQx33
import Derived.Test.YtgngbbkaghmnpaaQx16
namespace Go.Proofs.Ytgngbbkaghmnpaa.Pure
open Go.RowKit Go.Proofs.Ytgngbbkaghmnpaa.Q Go.Proofs.YtgngbbkaghmnpaaW.PrintWords Go.Proofs.YtgngbbkaghmnpaaW.PrintLast Go.Proofs.Ytgngbbkaghmnpaa.Chk

theorem alive_ok : casementlaw13_alive.f 100 = some true := by kernel_rfl
theorem alive_k {k : Nat} (hk : 100 ≤ k) : casementlaw13_alive.f k = some true := at_rounds casementlaw13_alive.mono hk alive_ok
theorem same_self {a : List Int} (hn : a.length ≤ 1000000) : ∀ (e k i : Nat), a.length - i = e → i ≤ a.length → e + 1 ≤ k → casementref01_SameInts.l0 k a a (i : Int) = some true := by
  intro e
  induction e with
  | zero =>
    intro k i he hi hk
    obtain ⟨k, rfl⟩ : ∃ q, k = q + 1 := ⟨k - 1, by omega⟩
    rw [casementref01_SameInts.l0, if_neg (by omega)]
  | succ e ih =>
    intro k i he hi hk
    obtain ⟨k, rfl⟩ : ∃ q, k = q + 1 := ⟨k - 1, by omega⟩
    have hw : wrap64 ((i : Int) + 1) = ((i + 1 : Nat) : Int) := by
      rw [wrap_id (by unfold I64; omega)]
      omega
    rw [casementref01_SameInts.l0, if_pos (by omega), if_pos (by omega), if_pos (by omega), if_pos rfl, hw]
    clear hw
    exact ih k (i + 1) (by omega) (by omega) (by omega)
theorem same_ints {a : List Int} (hn : a.length ≤ 1000000) {k : Nat} (hk : a.length + 1 ≤ k) : casementref01_SameInts.f k a a = some true := by
  unfold casementref01_SameInts.f
  rw [if_pos rfl]
  exact same_self hn a.length k 0 (by omega) (by omega) hk
section
variable {m : Int} {d : List Int} {l : List S42}
theorem zero_test (v : Int × Int × Int) : ((!(v.1 == 0) || (!(v.2.1 == 0) || (!(v.2.2 == 0)))) = true) ↔ v ≠ (0, 0, 0) := by
  obtain ⟨a, b, c⟩ := v
  simp only [ne_eq, Prod.mk.injEq, not_and]
  by_cases ha : a = 0
  · by_cases hb : b = 0
    · by_cases hc : c = 0
      · simp [ha, hb, hc]
      · simp [ha, hb, hc]
    · simp [ha, hb]
  · simp [ha]
/-- The heights that are told of a module with a flaw, or of no function: none. -/
theorem heights_none {v : Int × Int × Int} {f : Int} (hc : Ev (fun k => check_Check.f k m d l) v) (h : v ≠ (0, 0, 0) ∨ f < 0 ∨ (l.length : Int) ≤ f) : Ev (fun k => check_Heights.f k m d l f) [] := by
  obtain ⟨K, hK⟩ := hc
  refine ⟨K, fun k hk => ?_⟩
  have q := hK k hk
  simp only at q
  show check_Heights.f k m d l f = _
  unfold check_Heights.f check_function.f
  rw [q]
  simp only [Option.bind_some]
  by_cases c : v = (0, 0, 0)
  · rw [if_neg (by rw [zero_test]; simpa using c)]
    have h' : f < 0 ∨ (l.length : Int) ≤ f := by
      rcases h with h | h
      · exact absurd c h
      · exact h
    by_cases c0 : f ≥ 0
    · rw [if_pos c0, decide_eq_false (by omega)]
      rfl
    · rw [if_neg c0]
      rfl
  · rw [if_pos ((zero_test v).2 c)]
theorem heights_is {f : Int} {r : List Int × Bool} (h0 : 0 ≤ f) (h1 : f < (l.length : Int)) (hc : Ev (fun k => check_Check.f k m d l) (0, 0, 0)) (hr : Ev (fun k => check_heights.f k m d l f) r) : Ev (fun k => check_Heights.f k m d l f) r.1 := by
  obtain ⟨K, hK⟩ := hc
  obtain ⟨K2, hK2⟩ := hr
  refine ⟨K + K2, fun k hk => ?_⟩
  have q := hK k (by omega)
  have q2 := hK2 k (by omega)
  simp only at q q2
  show check_Heights.f k m d l f = _
  unfold check_Heights.f check_function.f
  rw [q]
  simp only [Option.bind_some]
  rw [if_neg (by decide), if_pos h0, q2]
  simp [h1]
theorem rest_code {l : List S42} : ∀ (e : Nat) (f : Int) (v : Int × Int × Int), Chk.Rest l e f v → v.2.2 = 0 → v = (0, 0, 0) := by
  intro e
  induction e with
  | zero => intro f v h _; exact h
  | succ e ih =>
    intro f v h h0
    rcases h with ⟨_, h⟩ | ⟨_, r, _, ⟨_, h⟩ | ⟨_, h⟩⟩
    · rw [h] at h0; simp at h0
    · rw [h] at h0; simp at h0
    · exact ih _ v h h0
theorem plays_l0 {v : Int × Int × Int} (hM : Mok m d l) (hv : Chk.Found m d l v) (hc : Ev (fun k => check_Check.f k m d l) v) (hl : l.length ≤ 140737488351232) : ∀ (e i : Nat), l.length - i = e → i ≤ l.length →
    Ev (fun k => casementlaw13_CheckPlays.l0 k (l.length : Int) (i : Int) m d l v.1 v.2.1 v.2.2) true := by
  intro e
  induction e with
  | zero =>
    intro i he hi
    refine Ev.step (f := fun _ => some true) (fun k => ?_) (Ev.now _)
    show casementlaw13_CheckPlays.l0 (k + 1) (l.length : Int) (i : Int) m d l v.1 v.2.1 v.2.2 = _
    rw [casementlaw13_CheckPlays.l0, if_neg (by omega)]
  | succ e ih =>
    intro i he hi
    obtain ⟨K, hK⟩ := ih (i + 1) (by omega) (by omega)
    have hw : PLift (wrap64 ((i : Int) + 1) = ((i + 1 : Nat) : Int)) := ⟨by
      rw [wrap_id (by unfold I64; omega)]
      omega⟩
    by_cases c : v = (0, 0, 0)
    · subst c
      obtain ⟨hr, hall⟩ := found_zero hv
      have hF : Chk.Fn l (i : Int) := ⟨by omega, by omega, (mod_bnd hr).2, hM.hx⟩
      obtain ⟨hb, S, hS⟩ := hall (i : Int) (by omega) (by omega)
      have hfit := (hF.fine hb).fits (m := m) (d := d)
      obtain ⟨r1, hr1, hs1⟩ := heights_ev (m := m) (d := d) hF hb
      obtain ⟨r2, ⟨K2, hK2⟩, hs2⟩ := rheights_ev (m := m) (d := d) hF hb
      have e1 : r1 = (S, true) := Spec.one hfit.n0 hfit.hP hfit.hx hs1 hS
      have e2 : r2 = (S, true) := Spec.one hfit.n0 hfit.hP hfit.hx hs2 hS
      subst e1
      subst e2
      obtain ⟨K3, hK3⟩ := heights_is (m := m) (d := d) (by omega) (by omega) hc hr1
      have hlen : (S.length : Int) = ((code l (i : Int)).length : Int) := by
        rcases hS with h | h
        · exact h.2.1.len
        · simp at h
      have hbnd := hF.bnd.1
      refine ⟨K + K2 + K3 + 500, fun k hk => ?_⟩
      obtain ⟨k, rfl⟩ : ∃ q, k = q + 1 := ⟨k - 1, by omega⟩
      have q1 := hK k (by omega)
      have q2 := hK2 k (by omega)
      have q3 := hK3 k (by omega)
      simp only at q1 q2 q3
      show casementlaw13_CheckPlays.l0 (k + 1) (l.length : Int) (i : Int) m d l 0 0 0 = _
      rw [casementlaw13_CheckPlays.l0, if_pos (by omega), q3]
      simp only [Option.bind_some, if_true]
      rw [q2]
      simp only [Option.bind_some]
      rw [same_ints (by omega) (by omega)]
      simp only [Option.bind_some, if_true]
      rw [hw.down]
      exact q1
    · obtain ⟨K3, hK3⟩ := heights_none (m := m) (d := d) (l := l) (f := (i : Int)) hc (Or.inl c)
      have hcode : v.2.2 ≠ 0 := by
        intro h0
        apply c
        rcases hv with ⟨_, h⟩ | ⟨_, _, h⟩ | ⟨_, _, _, h⟩
        · rw [h] at h0; simp at h0
        · rw [h] at h0; simp at h0
        · exact rest_code _ _ _ h h0
      refine ⟨K + K3 + 5, fun k hk => ?_⟩
      obtain ⟨k, rfl⟩ : ∃ q, k = q + 1 := ⟨k - 1, by omega⟩
      have q1 := hK k (by omega)
      have q3 := hK3 k (by omega)
      simp only at q1 q3
      show casementlaw13_CheckPlays.l0 (k + 1) (l.length : Int) (i : Int) m d l v.1 v.2.1 v.2.2 = _
      rw [casementlaw13_CheckPlays.l0, if_pos (by omega), q3]
      simp only [Option.bind_some]
      rw [if_neg hcode, if_pos (show ((([] : List Int).length : Nat) : Int) = 0 from rfl), hw.down]
      exact q1
end
theorem CheckPlays : casementlaw13_CheckPlays.Pure := by
  intro m d l hm _ hd _ _ hl hx
  have hM : Mok m d l := ⟨i64_of hm, by omega, by omega, hx⟩
  obtain ⟨v, hcv, hv⟩ := check_ok hM
  obtain ⟨v', ⟨K', hK'⟩, hv'⟩ := rcheck_ok hM
  have e : v' = v := found_one hx hv' hv
  subst e
  obtain ⟨K1, hK1⟩ := heights_none (m := m) (d := d) (l := l) (f := -1) hcv (Or.inr (Or.inl (by omega)))
  obtain ⟨K2, hK2⟩ := heights_none (m := m) (d := d) (l := l) (f := (l.length : Int)) hcv (Or.inr (Or.inr (by omega)))
  obtain ⟨K3, hK3⟩ := plays_l0 hM hv hcv (by omega) l.length 0 (by omega) (by omega)
  obtain ⟨K, hK⟩ := hcv
  refine ⟨K + K' + K1 + K2 + K3 + 102, ?_⟩
  have q := hK (K + K' + K1 + K2 + K3 + 102) (by omega)
  have q' := hK' (K + K' + K1 + K2 + K3 + 102) (by omega)
  have q1 := hK1 (K + K' + K1 + K2 + K3 + 101) (by omega)
  have q2 := hK2 (K + K' + K1 + K2 + K3 + 101) (by omega)
  have q3 := hK3 (K + K' + K1 + K2 + K3 + 100) (by omega)
  simp only at q q' q1 q2 q3
  unfold casementlaw13_CheckPlays.f
  rw [alive_k (by omega)]
  simp only [Option.bind_some, if_true]
  rw [q, q']
  simp only [Option.bind_some, if_true]
  rw [show (v'.2.2 != v'.2.2) = false by simp, casementlaw13_CheckPlays.j0, if_neg (by decide), q1]
  simp only [Option.bind_some]
  rw [if_pos (show ((([] : List Int).length : Nat) : Int) = 0 from rfl), q2]
  simp only [Option.bind_some]
  rw [show ((([] : List Int).length : Int) != 0) = false from rfl, casementlaw13_CheckPlays.j1, if_neg (by decide)]
  exact q3
end Go.Proofs.Ytgngbbkaghmnpaa.Pure
