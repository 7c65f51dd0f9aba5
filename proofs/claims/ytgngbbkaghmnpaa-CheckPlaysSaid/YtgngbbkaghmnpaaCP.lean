/- What the document finds of a module is what the program finds. Condition: numbers of 64 bits, rows that may be. -/
import Derived.Test.YtgngbbkaghmnpaaCR
import Derived.Test.YtgngbbkaghmnpaaCX
import Derived.Test.YtgngbbkaghmnpaaQx32
namespace Go.Proofs.Ytgngbbkaghmnpaa.Chk
open Go.RowKit Go.Proofs.Ytgngbbkaghmnpaa.Q Go.Proofs.YtgngbbkaghmnpaaW.PrintWords Go.Proofs.YtgngbbkaghmnpaaW.PrintLast Go.Proofs.YtgngbbkaghmnpaaW.PrintMore

theorem rheights_ev {m : Int} {d : List Int} {l : List S42} {f : Int} (h : Chk.Fn l f) (hb : fb l f (code l f) 0 = -1) : ∃ r, Ev (fun k => casementref13_Heights.f k m d l f) r ∧ Hts l f r := by
  have hf := h.fine hb
  obtain ⟨r, h1, h2⟩ := rheights_ok (hf.fits (m := m) (d := d)) (fun i hi => ⟨_, fun k hk => eff_ref h.f0 h.f1 hk⟩) (fun i hi => rfl) (Nat.le_refl _)
  exact ⟨r, Ev.of (casementref13_Heights.mono m d l f) h1, h2⟩
theorem bad_is {m : Int} {d : List Int} {l : List S42} {f : Int} (h : Chk.Fn l f) {c : S46} (hc : insOk c = true) {k : Nat} (hk : 7 ≤ k) : casementref13_bad.f k m d l f c.f0 c.f1 = some (sb l f c) := by
  obtain ⟨k, rfl⟩ : ∃ q, k = q + 1 := ⟨k - 1, by omega⟩
  obtain ⟨b, _⟩ := h.bnd
  have hw : wrap64 ((rd_T42 l f).f0 + (rd_T42 l f).f2) = (rd_T42 l f).f0 + (rd_T42 l f).f2 := wrap_id (by unfold I64; omega)
  unfold casementref13_bad.f sb
  rw [if_pos h.f0, if_pos h.f1]
  by_cases c5 : c.f0 = 5
  · rw [if_pos c5, if_pos (Or.inl c5), casementref13_bad.j0, if_pos rfl, hw]
    clear hw
    by_cases a : c.f1 < 0
    · rw [if_pos a, decide_eq_false (by omega)]
      rfl
    · rw [if_neg a]
      by_cases e : c.f1 < (rd_T42 l f).f0 + (rd_T42 l f).f2
      · rw [decide_eq_false (by omega), decide_eq_true (show 0 ≤ c.f1 ∧ c.f1 < (rd_T42 l f).f0 + (rd_T42 l f).f2 by omega)]
        rfl
      · rw [decide_eq_true (by omega), decide_eq_false (show ¬ (0 ≤ c.f1 ∧ c.f1 < (rd_T42 l f).f0 + (rd_T42 l f).f2) by omega)]
        rfl
  · rw [if_neg c5]
    by_cases c6 : c.f0 = 6
    · rw [if_pos (Or.inr c6), show (c.f0 == 6) = true by simpa using c6, casementref13_bad.j0, if_pos rfl, hw]
      clear hw
      by_cases a : c.f1 < 0
      · rw [if_pos a, decide_eq_false (by omega)]
        rfl
      · rw [if_neg a]
        by_cases e : c.f1 < (rd_T42 l f).f0 + (rd_T42 l f).f2
        · rw [decide_eq_false (by omega), decide_eq_true (show 0 ≤ c.f1 ∧ c.f1 < (rd_T42 l f).f0 + (rd_T42 l f).f2 by omega)]
          rfl
        · rw [decide_eq_true (by omega), decide_eq_false (show ¬ (0 ≤ c.f1 ∧ c.f1 < (rd_T42 l f).f0 + (rd_T42 l f).f2) by omega)]
          rfl
    · clear hw
      rw [if_neg (show ¬ (c.f0 = 5 ∨ c.f0 = 6) by omega), show (c.f0 == 6) = false by simpa using c6, casementref13_bad.j0, if_neg (by decide)]
      have hj : (if c.f1 < 0 then some true else some (decide (c.f1 ≥ (((rd_T42 l f).f3).length : Int)))) = some (!decide (0 ≤ c.f1 ∧ c.f1 < ((code l f).length : Int))) := by
        have e : (((rd_T42 l f).f3).length : Int) = ((code l f).length : Int) := rfl
        rw [e]
        by_cases a : c.f1 < 0
        · rw [if_pos a, decide_eq_false (by omega)]
          rfl
        · rw [if_neg a]
          by_cases e2 : c.f1 < ((code l f).length : Int)
          · rw [decide_eq_false (by omega), decide_eq_true (show 0 ≤ c.f1 ∧ c.f1 < ((code l f).length : Int) by omega)]
            rfl
          · rw [decide_eq_true (by omega), decide_eq_false (show ¬ (0 ≤ c.f1 ∧ c.f1 < ((code l f).length : Int)) by omega)]
            rfl
      by_cases c24 : c.f0 = 24
      · rw [if_pos c24, if_pos (Or.inl c24)]
        exact hj
      · rw [if_neg c24]
        by_cases c25 : c.f0 = 25
        · rw [if_pos c25, if_pos (Or.inr c25)]
          exact hj
        · rw [if_neg c25, if_neg (show ¬ (c.f0 = 24 ∨ c.f0 = 25) by omega), eff_ref h.f0 h.f1 (by omega)]
          rfl
theorem rchk_l1 {m : Int} {d : List Int} {l : List S42} {f : Int} (h : Chk.Fn l f) {R : Option (Int × Int × Int)} {K : Nat} : ∀ (e i k : Nat), (code l f).length - i = e → i ≤ (code l f).length → K + e + 10 ≤ k →
    (fb l f ((code l f).drop i) (i : Int) = -1 → ∀ k, K ≤ k → ((casementref13_Heights.f k m d l f).bind fun bt525 => (if bt525.2 = true then (casementref13_Check.l0 k (wrap64 (f + 1)) m d l) else (some (f, (-1), 130)))) = R) →
    casementref13_Check.l1 k f (code l f) (i : Int) m d l = if fb l f ((code l f).drop i) (i : Int) = -1 then R else some (f, fb l f ((code l f).drop i) (i : Int), 130) := by
  obtain ⟨b, ho⟩ := h.bnd
  intro e
  induction e with
  | zero =>
    intro i k he hi hk hR
    obtain ⟨k, rfl⟩ : ∃ q, k = q + 1 := ⟨k - 1, by omega⟩
    rw [List.drop_of_length_le (by omega)] at hR
    rw [casementref13_Check.l1, if_neg (by omega), List.drop_of_length_le (by omega)]
    exact hR rfl k (by omega)
  | succ e ih =>
    intro i k he hi hk hR
    obtain ⟨k, rfl⟩ : ∃ q, k = q + 1 := ⟨k - 1, by omega⟩
    have hi' : i < (code l f).length := by omega
    rw [List.drop_eq_getElem_cons hi'] at hR
    have hw : wrap64 ((i : Int) + 1) = ((i + 1 : Nat) : Int) := by
      rw [wrap_id (by unfold I64; omega)]
      omega
    rw [casementref13_Check.l1, if_pos (by omega), if_pos (by omega), rdI_at _ i hi', bad_is h (List.all_eq_true.1 ho _ (List.getElem_mem hi')) (by omega), hw]
    clear hw
    simp only [Option.bind_some]
    rw [List.drop_eq_getElem_cons hi']
    have e1 : ((i : Int) + 1) = ((i + 1 : Nat) : Int) := by omega
    unfold fb at hR ⊢
    rw [e1] at hR ⊢
    by_cases c : sb l f (code l f)[i] = true
    · rw [if_pos c, if_pos c, if_neg (by omega)]
    · rw [if_neg c] at hR ⊢
      rw [if_neg c]
      exact ih (i + 1) k (by omega) (by omega) (by omega) hR
theorem rchk_l0 {m : Int} {d : List Int} {l : List S42} (ho : l.all fnOk = true) (hx : ∀ x ∈ l, okS42 x) (hl : l.length ≤ 16) : ∀ (e i : Nat), l.length - i = e → i ≤ l.length →
    ∃ v, Ev (fun k => casementref13_Check.l0 k (i : Int) m d l) v ∧ Rest l e (i : Int) v := by
  intro e
  induction e with
  | zero =>
    intro i he hi
    refine ⟨(0, 0, 0), Ev.step (f := fun _ => some (0, 0, 0)) (fun k => ?_) (Ev.now _), rfl⟩
    show casementref13_Check.l0 (k + 1) (i : Int) m d l = _
    rw [casementref13_Check.l0, if_neg (by omega)]
  | succ e ih =>
    intro i he hi
    have hF : Chk.Fn l (i : Int) := ⟨by omega, by omega, ho, hx⟩
    obtain ⟨v, ⟨Kv, hv⟩, hR⟩ := ih (i + 1) (by omega) (by omega)
    have hbnd := hF.bnd.1
    have hw : PLift (wrap64 ((i : Int) + 1) = ((i + 1 : Nat) : Int)) := ⟨by
      rw [wrap_id (by unfold I64; omega)]
      omega⟩
    have e1 : ((i : Int) + 1) = ((i + 1 : Nat) : Int) := by omega
    have hopen : ∀ k, casementref13_Check.l0 (k + 1) (i : Int) m d l = casementref13_Check.l1 k (i : Int) (code l (i : Int)) ((0 : Nat) : Int) m d l := by
      intro k
      rw [casementref13_Check.l0, if_pos (by omega), if_pos (by omega)]
      rfl
    rcases fb_ge l (i : Int) (code l (i : Int)) 0 (by omega) with hb | hb
    · obtain ⟨r, ⟨Kh, hh⟩, hsp⟩ := rheights_ev (m := m) (d := d) hF hb
      cases hr : r.2 with
      | false =>
        refine ⟨((i : Int), -1, 130), ⟨Kh + 500, fun k hk => ?_⟩, Or.inr ⟨hb, r, hsp, Or.inl ⟨hr, rfl⟩⟩⟩
        obtain ⟨k, rfl⟩ : ∃ q, k = q + 1 := ⟨k - 1, by omega⟩
        show casementref13_Check.l0 (k + 1) (i : Int) m d l = _
        rw [hopen, rchk_l1 hF (K := Kh) (R := some ((i : Int), -1, 130)) (code l (i : Int)).length 0 k (by omega) (by omega) (by omega) (fun _ k hk => by
          have q := hh k (by omega)
          simp only at q
          rw [q]
          simp [hr]), List.drop_zero]
        rw [show ((0 : Nat) : Int) = 0 from rfl, hb, if_pos rfl]
      | true =>
        refine ⟨v, ⟨Kh + Kv + 500, fun k hk => ?_⟩, Or.inr ⟨hb, r, hsp, Or.inr ⟨hr, by rw [e1]; exact hR⟩⟩⟩
        obtain ⟨k, rfl⟩ : ∃ q, k = q + 1 := ⟨k - 1, by omega⟩
        show casementref13_Check.l0 (k + 1) (i : Int) m d l = _
        rw [hopen, rchk_l1 hF (K := Kh + Kv) (R := some v) (code l (i : Int)).length 0 k (by omega) (by omega) (by omega) (fun _ k hk => by
          have q := hh k (by omega)
          have q2 := hv k (by omega)
          simp only at q q2
          rw [q]
          simp only [Option.bind_some]
          rw [hr, if_pos rfl, hw.down]
          exact q2), List.drop_zero]
        rw [show ((0 : Nat) : Int) = 0 from rfl, hb, if_pos rfl]
    · refine ⟨((i : Int), fb l (i : Int) (code l (i : Int)) 0, 130), ⟨500, fun k hk => ?_⟩, Or.inl ⟨hb, rfl⟩⟩
      obtain ⟨k, rfl⟩ : ∃ q, k = q + 1 := ⟨k - 1, by omega⟩
      show casementref13_Check.l0 (k + 1) (i : Int) m d l = _
      rw [hopen, rchk_l1 hF (K := 0) (R := none) (code l (i : Int)).length 0 k (by omega) (by omega) (by omega) (fun h => by
        rw [List.drop_zero] at h
        have h' : fb l (i : Int) (code l (i : Int)) 0 = -1 := h
        omega), List.drop_zero]
      rw [show ((0 : Nat) : Int) = 0 from rfl, if_neg (by omega)]
theorem rcheck_ok {m : Int} {d : List Int} {l : List S42} (h : Mok m d l) : ∃ v, Ev (fun k => casementref13_Check.f k m d l) v ∧ Found m d l v := by
  obtain ⟨Ke, he⟩ := renc_ok h
  by_cases c : (encR m d l).2 = 0
  · obtain ⟨hb, ho⟩ := mod_bnd (enc_right c)
    by_cases c3 : (rd_T42 l 0).f0 = 3
    · by_cases c0 : (rd_T42 l 0).f1 = 0
      · obtain ⟨v, ⟨Kv, hv⟩, hR⟩ := rchk_l0 (m := m) (d := d) ho h.hx hb.2.2.2.2 l.length 0 (by omega) (by omega)
        refine ⟨v, ⟨Ke + Kv + 1, fun k hk => ?_⟩, Or.inr (Or.inr ⟨c, c3, c0, hR⟩)⟩
        obtain ⟨k, rfl⟩ : ∃ q, k = q + 1 := ⟨k - 1, by omega⟩
        have q1 := he (k + 1) (by omega)
        have q2 := hv k (by omega)
        simp only at q1 q2
        show casementref13_Check.f (k + 1) m d l = _
        unfold casementref13_Check.f
        rw [q1]
        simp only [Option.bind_some]
        rw [if_pos c, if_pos (by omega), if_pos c3, c0, casementref13_Check.j0, if_neg (by decide)]
        exact q2
      · refine ⟨(0, -1, 1), ⟨Ke + 1, fun k hk => ?_⟩, Or.inr (Or.inl ⟨c, Or.inr c0, rfl⟩)⟩
        obtain ⟨k, rfl⟩ : ∃ q, k = q + 1 := ⟨k - 1, by omega⟩
        have q1 := he (k + 1) (by omega)
        simp only at q1
        show casementref13_Check.f (k + 1) m d l = _
        unfold casementref13_Check.f
        rw [q1]
        simp only [Option.bind_some]
        rw [if_pos c, if_pos (by omega), if_pos c3, casementref13_Check.j0, if_pos (by simpa using c0)]
    · refine ⟨(0, -1, 1), ⟨Ke + 1, fun k hk => ?_⟩, Or.inr (Or.inl ⟨c, Or.inl c3, rfl⟩)⟩
      obtain ⟨k, rfl⟩ : ∃ q, k = q + 1 := ⟨k - 1, by omega⟩
      have q1 := he (k + 1) (by omega)
      simp only at q1
      show casementref13_Check.f (k + 1) m d l = _
      unfold casementref13_Check.f
      rw [q1]
      simp only [Option.bind_some]
      rw [if_pos c, if_pos (by omega), if_neg c3, casementref13_Check.j0, if_pos rfl]
  · refine ⟨(-1, -1, 1), ⟨Ke + 1, fun k hk => ?_⟩, Or.inl ⟨c, rfl⟩⟩
    have q1 := he k (by omega)
    simp only at q1
    show casementref13_Check.f k m d l = _
    unfold casementref13_Check.f
    rw [q1]
    simp only [Option.bind_some]
    rw [if_neg c]
/-- There is but one finding. -/
theorem rest_one {l : List S42} (ho : l.all fnOk = true) (hx : ∀ x ∈ l, okS42 x) : ∀ (e : Nat) (f : Int) (v v' : Int × Int × Int), 0 ≤ f → f + e ≤ (l.length : Int) → Rest l e f v → Rest l e f v' → v = v' := by
  intro e
  induction e with
  | zero => intro f v v' _ _ h h'; rw [h, h']
  | succ e ih =>
    intro f v v' f0 f1 h h'
    have hF : Chk.Fn l f := ⟨f0, by omega, ho, hx⟩
    rcases h with ⟨h1, h⟩ | ⟨h1, r, hr, h⟩
    · rcases h' with ⟨g1, g⟩ | ⟨g1, _⟩
      · rw [h, g]
      · omega
    · rcases h' with ⟨g1, g⟩ | ⟨g1, r', hr', g⟩
      · omega
      · have hfit := (hF.fine h1).fits (m := 0) (d := [])
        have e1 : r = r' := Spec.one hfit.n0 hfit.hP hfit.hx hr hr'
        subst e1
        rcases h with ⟨a, b⟩ | ⟨a, b⟩
        · rcases g with ⟨a', b'⟩ | ⟨a', b'⟩
          · rw [b, b']
          · rw [a] at a'; cases a'
        · rcases g with ⟨a', b'⟩ | ⟨a', b'⟩
          · rw [a] at a'; cases a'
          · exact ih (f + 1) v v' (by omega) (by omega) b b'
theorem found_one {m : Int} {d : List Int} {l : List S42} (hx : ∀ x ∈ l, okS42 x) {v v' : Int × Int × Int} (h : Found m d l v) (h' : Found m d l v') : v = v' := by
  rcases h with ⟨a, b⟩ | ⟨a, b, c⟩ | ⟨a, b, c, e⟩
  · rcases h' with ⟨a', b'⟩ | ⟨a', _⟩ | ⟨a', _⟩
    · rw [b, b']
    · exact absurd a' a
    · exact absurd a' a
  · rcases h' with ⟨a', b'⟩ | ⟨a', b', c'⟩ | ⟨a', b', c', _⟩
    · exact absurd a a'
    · rw [c, c']
    · rcases b with b | b
      · exact absurd b' b
      · exact absurd c' b
  · rcases h' with ⟨a', b'⟩ | ⟨a', b', c'⟩ | ⟨a', b', c', e'⟩
    · exact absurd a a'
    · rcases b' with b' | b'
      · exact absurd b b'
      · exact absurd c b'
    · exact rest_one (mod_bnd (enc_right a)).2 hx l.length 0 v v' (by omega) (by omega) e e'
end Go.Proofs.Ytgngbbkaghmnpaa.Chk
