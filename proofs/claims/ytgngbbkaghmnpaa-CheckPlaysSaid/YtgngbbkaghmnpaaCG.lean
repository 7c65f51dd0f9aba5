/- What is wrong with a module, as the program finds it: bytes, the first function, then function by function the first instruction that can't be, and the heights. Condition: numbers of 64 bits, rows that may be. -/
import Derived.Test.YtgngbbkaghmnpaaCC
import Derived.Test.YtgngbbkaghmnpaaCE
import Derived.Test.YtgngbbkaghmnpaaQx14
import Derived.Test.YtgngbbkaghmnpaaQx11
import Derived.Test.YtgngbbkaghmnpaaQx15
namespace Go.Proofs.Ytgngbbkaghmnpaa.Chk
open Go.RowKit Go.Proofs.Ytgngbbkaghmnpaa.Q Go.Proofs.YtgngbbkaghmnpaaW.PrintWords Go.Proofs.YtgngbbkaghmnpaaW.PrintLast Go.Proofs.YtgngbbkaghmnpaaW.PrintMore

/-- An instruction that can't be, whatever the heights. -/
def sb (l : List S42) (f : Int) (c : S46) : Bool :=
  if c.f0 = 5 ∨ c.f0 = 6 then !decide (0 ≤ c.f1 ∧ c.f1 < (rd_T42 l f).f0 + (rd_T42 l f).f2)
  else if c.f0 = 24 ∨ c.f0 = 25 then !decide (0 ≤ c.f1 ∧ c.f1 < ((code l f).length : Int))
  else !(eT l f c.f0 c.f1).2.2
/-- The first one's place, or -1. -/
def fb (l : List S42) (f : Int) : List S46 → Int → Int
  | [], _ => -1
  | c :: cs, i => if sb l f c then i else fb l f cs (i + 1)
theorem fb_ge (l : List S42) (f : Int) : ∀ (cs : List S46) (i : Int), 0 ≤ i → fb l f cs i = -1 ∨ 0 ≤ fb l f cs i := by
  intro cs
  induction cs with
  | nil => intro i _; exact Or.inl rfl
  | cons c cs ih =>
    intro i hi
    unfold fb
    split
    · exact Or.inr hi
    · exact ih (i + 1) (by omega)
theorem fb_none {l : List S42} {f : Int} : ∀ (cs : List S46) (i : Int), 0 ≤ i → fb l f cs i = -1 → ∀ c ∈ cs, sb l f c = false := by
  intro cs
  induction cs with
  | nil => intro i _ _ c hc; simp at hc
  | cons c cs ih =>
    intro i hi h x hx
    unfold fb at h
    split at h
    · omega
    · rename_i q
      rcases List.mem_cons.1 hx with rfl | hx
      · simpa using q
      · exact ih (i + 1) (by omega) h x hx
/-- A right module's function. -/
structure Fn (l : List S42) (f : Int) : Prop where
  f0 : 0 ≤ f
  f1 : f < (l.length : Int)
  ok : l.all fnOk = true
  x : ∀ x ∈ l, okS42 x
theorem Fn.mem {l : List S42} {f : Int} (h : Fn l f) : rd_T42 l f ∈ l := by
  have f0 := h.f0
  have f1 := h.f1
  have e : f = ((f.toNat : Nat) : Int) := by omega
  rw [e, rdT_at l f.toNat (by omega)]
  exact List.getElem_mem _
theorem Fn.bnd {l : List S42} {f : Int} (h : Fn l f) : (0 ≤ (rd_T42 l f).f0 ∧ (rd_T42 l f).f0 ≤ 8 ∧ 0 ≤ (rd_T42 l f).f1 ∧ (rd_T42 l f).f1 ≤ 1 ∧ 0 ≤ (rd_T42 l f).f2 ∧ (rd_T42 l f).f2 ≤ 16 - (rd_T42 l f).f0 ∧ 1 ≤ (code l f).length ∧ (code l f).length ≤ 400) ∧ (code l f).all insOk = true := fn_bnd (List.all_eq_true.1 h.ok _ h.mem)
theorem Fn.tab {l : List S42} {f : Int} (h : Fn l f) (op n : Int) : (0 ≤ (eT l f op n).1 ∧ (eT l f op n).1 ≤ 8) ∧ (0 ≤ (eT l f op n).2.1 ∧ (eT l f op n).2.1 ≤ 8) := by
  refine eT_bnd (fun g g0 g1 => ?_) h.f0 h.f1
  obtain ⟨b, _⟩ := Fn.bnd ⟨g0, g1, h.ok, h.x⟩
  exact ⟨by omega, by omega⟩
theorem code_mem {l : List S42} {f i : Int} (i0 : 0 ≤ i) (i1 : i < ((code l f).length : Int)) : rd_T46 (code l f) i ∈ code l f := by
  have e : i = ((i.toNat : Nat) : Int) := by omega
  rw [e, rdI_at (code l f) i.toNat (by omega)]
  exact List.getElem_mem _
theorem Fn.fine {l : List S42} {f : Int} (h : Fn l f) (hb : fb l f (code l f) 0 = -1) : Fine l f := by
  obtain ⟨b, ho⟩ := h.bnd
  refine ⟨h.f0, h.f1, by omega, by omega, fun i _ _ => (h.tab _ _).1, fun i _ _ => (h.tab _ _).2, ?_⟩
  intro i i0 i1 hj
  have := fb_none _ 0 (by omega) hb _ (code_mem i0 i1)
  unfold sb at this
  rw [if_neg (by omega), if_pos hj] at this
  simpa using this
theorem static_l0 {m : Int} {d : List Int} {l : List S42} {f : Int} (h : Fn l f) : ∀ (e i : Nat), (code l f).length - i = e → i ≤ (code l f).length →
    Ev (fun k => check_static.l0 k f (code l f) ((code l f).length : Int) (i : Int) m d l (rd_T42 l f).f0 (rd_T42 l f).f1 (rd_T42 l f).f2 (code l f)) (fb l f ((code l f).drop i) (i : Int)) := by
  obtain ⟨b, ho⟩ := h.bnd
  intro e
  induction e with
  | zero =>
    intro i he hi
    rw [List.drop_of_length_le (by omega)]
    refine Ev.step (f := fun _ => some (-1)) (fun k => ?_) (Ev.now _)
    show check_static.l0 (k + 1) f (code l f) ((code l f).length : Int) (i : Int) m d l (rd_T42 l f).f0 (rd_T42 l f).f1 (rd_T42 l f).f2 (code l f) = _
    rw [check_static.l0, if_neg (by omega)]
  | succ e ih =>
    intro i he hi
    have hi' : i < (code l f).length := by omega
    have hin := List.all_eq_true.1 ho _ (List.getElem_mem hi')
    have hop : 0 ≤ (code l f)[i].f0 ∧ (code l f)[i].f0 ≤ 29 := by
      unfold insOk at hin
      simp only [Bool.and_eq_true, decide_eq_true_eq] at hin
      exact hin.1
    have hw : wrap64 ((i : Int) + 1) = ((i + 1 : Nat) : Int) := by rw [wrap_id (by unfold I64; omega)]; omega
    have hw2 : wrap64 ((rd_T42 l f).f0 + (rd_T42 l f).f2) = (rd_T42 l f).f0 + (rd_T42 l f).f2 := wrap_id (by unfold I64; omega)
    obtain ⟨K, hK⟩ := ih (i + 1) (by omega) (by omega)
    rw [List.drop_eq_getElem_cons hi']
    unfold fb
    have e1 : ((i : Int) + 1) = ((i + 1 : Nat) : Int) := by omega
    rw [e1]
    refine ⟨K + 20, fun k hk => ?_⟩
    obtain ⟨k, rfl⟩ : ∃ q, k = q + 4 := ⟨k - 4, by omega⟩
    have q1 := hK (k + 2) (by clear hw hw2; omega)
    have q2 := hK (k + 1) (by clear hw hw2; omega)
    have q3 := hK k (by clear hw hw2; omega)
    simp only at q1 q2 q3
    show check_static.l0 (k + 4) f (code l f) ((code l f).length : Int) (i : Int) m d l (rd_T42 l f).f0 (rd_T42 l f).f1 (rd_T42 l f).f2 (code l f) = _
    have g1 : (i : Int) < ((code l f).length : Int) := by clear hw hw2; omega
    have g2 : 0 ≤ (i : Int) := by clear hw hw2; omega
    have g3 : 6 ≤ k := by clear hw hw2; omega
    rw [check_static.l0, if_pos g1, if_pos g2, if_pos g1, rdI_at _ i hi']
    simp only [check_static.j1, check_static.j2, check_static.j3, hw, hw2, q1, q2, q3, eff_tab h.f0 h.f1 g3, Option.bind_some]
    clear hw hw2 q1 q2 q3 hK ih
    unfold sb
    by_cases c5 : (code l f)[i].f0 = 5
    · simp only [c5, true_or, if_true, beq_self_eq_true]
      by_cases a : (code l f)[i].f1 ≥ 0
      · by_cases b' : (code l f)[i].f1 < (rd_T42 l f).f0 + (rd_T42 l f).f2
        · simp [a, b', show 0 ≤ (code l f)[i].f1 from a]
        · simp [a, b']
      · simp [a, show ¬ 0 ≤ (code l f)[i].f1 from a]
    · by_cases c6 : (code l f)[i].f0 = 6
      · simp only [c6, or_true, if_true, beq_self_eq_true, show ¬ ((6 : Int) = 5) by omega, if_false]
        by_cases a : (code l f)[i].f1 ≥ 0
        · by_cases b' : (code l f)[i].f1 < (rd_T42 l f).f0 + (rd_T42 l f).f2
          · simp [a, b', show 0 ≤ (code l f)[i].f1 from a]
          · simp [a, b']
        · simp [a, show ¬ 0 ≤ (code l f)[i].f1 from a]
      · have n6 : ((code l f)[i].f0 == 6) = false := by simpa using c6
        simp only [c5, c6, if_false, n6, Bool.false_eq_true, or_self]
        by_cases c24 : (code l f)[i].f0 = 24
        · simp only [c24, true_or, if_true, beq_self_eq_true]
          by_cases a : (code l f)[i].f1 ≥ 0
          · by_cases b' : (code l f)[i].f1 < ((code l f).length : Int)
            · simp [a, b', show 0 ≤ (code l f)[i].f1 from a]
            · simp [a, b']
          · simp [a, show ¬ 0 ≤ (code l f)[i].f1 from a]
        · by_cases c25 : (code l f)[i].f0 = 25
          · simp only [c25, or_true, if_true, beq_self_eq_true, show ¬ ((25 : Int) = 24) by omega, if_false]
            by_cases a : (code l f)[i].f1 ≥ 0
            · by_cases b' : (code l f)[i].f1 < ((code l f).length : Int)
              · simp [a, b', show 0 ≤ (code l f)[i].f1 from a]
              · simp [a, b']
            · simp [a, show ¬ 0 ≤ (code l f)[i].f1 from a]
          · have n25 : ((code l f)[i].f0 == 25) = false := by simpa using c25
            simp only [c24, c25, if_false, n25, Bool.false_eq_true, or_self]
            by_cases c26 : (code l f)[i].f0 = 26
            · simp only [c26, if_true, beq_self_eq_true]
              cases (eT l f 26 (code l f)[i].f1).2.2 <;> simp
            · by_cases c28 : (code l f)[i].f0 = 28
              · simp only [c28, if_true, beq_self_eq_true, show ¬ ((28 : Int) = 26) by omega, if_false]
                cases (eT l f 28 (code l f)[i].f1).2.2 <;> simp
              · have n28 : ((code l f)[i].f0 == 28) = false := by simpa using c28
                rw [eT_ok hop.1 hop.2 c26 c28]
                simp [c26, n28]
theorem static_ok {m : Int} {d : List Int} {l : List S42} {f : Int} (h : Fn l f) : Ev (fun k => check_static.f k m d l f) (fb l f (code l f) 0) := by
  have := static_l0 (m := m) (d := d) h (code l f).length 0 (by omega) (by omega)
  rw [List.drop_zero] at this
  refine Ev.congr (fun k => ?_) this
  unfold check_static.f
  rw [if_pos h.f0, if_pos h.f1]
  rfl
/-- The functions from one on: what is found. -/
abbrev Hts (l : List S42) (f : Int) (r : List Int × Bool) : Prop := Spec ((code l f).length : Int) (Tk l f) (Pt l f) (isRet l f) (Chk.nx l f) r
def Rest (l : List S42) : Nat → Int → Int × Int × Int → Prop
  | 0, _, v => v = (0, 0, 0)
  | e + 1, f, v => (0 ≤ fb l f (code l f) 0 ∧ v = (f, fb l f (code l f) 0, 130)) ∨ (fb l f (code l f) 0 = -1 ∧ ∃ r, Hts l f r ∧ ((r.2 = false ∧ v = (f, -1, 130)) ∨ (r.2 = true ∧ Rest l e (f + 1) v)))
theorem heights_ev {m : Int} {d : List Int} {l : List S42} {f : Int} (h : Fn l f) (hb : fb l f (code l f) 0 = -1) : ∃ r, Ev (fun k => check_heights.f k m d l f) r ∧ Hts l f r := by
  obtain ⟨r, h1, h2⟩ := heights_ok ((h.fine hb).fits (m := m) (d := d)) (Nat.le_refl _)
  exact ⟨r, Ev.of (check_heights.mono m d l f) h1, h2⟩
theorem chk_l0 {m : Int} {d : List Int} {l : List S42} (ho : l.all fnOk = true) (hx : ∀ x ∈ l, okS42 x) (hl : l.length ≤ 16) : ∀ (e i : Nat), l.length - i = e → i ≤ l.length →
    ∃ v, Ev (fun k => check_Check.l0 k (l.length : Int) (i : Int) m d l) v ∧ Rest l e (i : Int) v := by
  intro e
  induction e with
  | zero =>
    intro i he hi
    refine ⟨(0, 0, 0), Ev.step (f := fun _ => some (0, 0, 0)) (fun k => ?_) (Ev.now _), rfl⟩
    show check_Check.l0 (k + 1) (l.length : Int) (i : Int) m d l = _
    rw [check_Check.l0, if_neg (by omega)]
  | succ e ih =>
    intro i he hi
    have hF : Fn l (i : Int) := ⟨by omega, by omega, ho, hx⟩
    obtain ⟨v, hv, hR⟩ := ih (i + 1) (by omega) (by omega)
    obtain ⟨Ks, hs⟩ := static_ok (m := m) (d := d) hF
    have hw : wrap64 ((i : Int) + 1) = ((i + 1 : Nat) : Int) := by rw [wrap_id (by unfold I64; omega)]; omega
    have e1 : ((i : Int) + 1) = ((i + 1 : Nat) : Int) := by clear hw; omega
    rcases fb_ge l (i : Int) (code l (i : Int)) 0 (by clear hw; omega) with hb | hb
    · obtain ⟨r, ⟨Kh, hh⟩, hsp⟩ := heights_ev (m := m) (d := d) hF hb
      obtain ⟨Kv, hv⟩ := hv
      cases hr : r.2 with
      | false =>
        refine ⟨((i : Int), -1, 130), ⟨Ks + Kh + 1, fun k hk => ?_⟩, Or.inr ⟨hb, r, hsp, Or.inl ⟨hr, rfl⟩⟩⟩
        obtain ⟨k, rfl⟩ : ∃ q, k = q + 1 := ⟨k - 1, by clear hw; omega⟩
        have q1 := hs k (by clear hw; omega)
        have q2 := hh k (by clear hw; omega)
        simp only at q1 q2
        show check_Check.l0 (k + 1) (l.length : Int) (i : Int) m d l = _
        rw [check_Check.l0, if_pos (by clear hw; omega), q1]
        simp only [Option.bind_some]
        rw [hb, if_neg (by decide), q2]
        simp [hr]
      | true =>
        refine ⟨v, ⟨Ks + Kh + Kv + 1, fun k hk => ?_⟩, Or.inr ⟨hb, r, hsp, Or.inr ⟨hr, by rw [e1]; exact hR⟩⟩⟩
        obtain ⟨k, rfl⟩ : ∃ q, k = q + 1 := ⟨k - 1, by clear hw; omega⟩
        have q1 := hs k (by clear hw; omega)
        have q2 := hh k (by clear hw; omega)
        have q3 := hv k (by clear hw; omega)
        simp only at q1 q2 q3
        show check_Check.l0 (k + 1) (l.length : Int) (i : Int) m d l = _
        rw [check_Check.l0, if_pos (by clear hw; omega), q1]
        simp only [Option.bind_some]
        rw [hb, if_neg (by decide), q2]
        simp only [Option.bind_some]
        rw [hr, if_pos rfl, hw]
        exact q3
    · refine ⟨((i : Int), fb l (i : Int) (code l (i : Int)) 0, 130), ⟨Ks + 1, fun k hk => ?_⟩, Or.inl ⟨hb, rfl⟩⟩
      obtain ⟨k, rfl⟩ : ∃ q, k = q + 1 := ⟨k - 1, by clear hw; omega⟩
      have q1 := hs k (by clear hw; omega)
      simp only at q1
      show check_Check.l0 (k + 1) (l.length : Int) (i : Int) m d l = _
      rw [check_Check.l0, if_pos (by clear hw; omega), q1]
      simp only [Option.bind_some]
      rw [if_pos hb]
/-- What is found of a module. -/
def Found (m : Int) (d : List Int) (l : List S42) (v : Int × Int × Int) : Prop :=
  ((encR m d l).2 ≠ 0 ∧ v = (-1, -1, 1)) ∨ ((encR m d l).2 = 0 ∧ ((rd_T42 l 0).f0 ≠ 3 ∨ (rd_T42 l 0).f1 ≠ 0) ∧ v = (0, -1, 1)) ∨ ((encR m d l).2 = 0 ∧ (rd_T42 l 0).f0 = 3 ∧ (rd_T42 l 0).f1 = 0 ∧ Rest l l.length 0 v)
theorem enc_right {m : Int} {d : List Int} {l : List S42} (h : (encR m d l).2 = 0) : modOk m d l = true := by
  unfold encR at h
  split at h
  · assumption
  · simp at h
theorem check_ok {m : Int} {d : List Int} {l : List S42} (h : Mok m d l) : ∃ v, Ev (fun k => check_Check.f k m d l) v ∧ Found m d l v := by
  obtain ⟨Ke, he⟩ := enc_ok h
  by_cases c : (encR m d l).2 = 0
  · obtain ⟨hb, ho⟩ := mod_bnd (enc_right c)
    by_cases c3 : (rd_T42 l 0).f0 = 3
    · by_cases c0 : (rd_T42 l 0).f1 = 0
      · obtain ⟨v, ⟨Kv, hv⟩, hR⟩ := chk_l0 (m := m) (d := d) ho h.hx hb.2.2.2.2 l.length 0 (by omega) (by omega)
        refine ⟨v, ⟨Ke + Kv + 1, fun k hk => ?_⟩, Or.inr (Or.inr ⟨c, c3, c0, hR⟩)⟩
        obtain ⟨k, rfl⟩ : ∃ q, k = q + 1 := ⟨k - 1, by omega⟩
        have q1 := he (k + 1) (by omega)
        have q2 := hv k (by omega)
        simp only at q1 q2
        show check_Check.f (k + 1) m d l = _
        unfold check_Check.f
        rw [q1]
        simp only [Option.bind_some]
        rw [if_pos c, if_pos (by omega), if_pos c3, c0, check_Check.j0, if_neg (by decide)]
        exact q2
      · refine ⟨(0, -1, 1), ⟨Ke + 1, fun k hk => ?_⟩, Or.inr (Or.inl ⟨c, Or.inr c0, rfl⟩)⟩
        obtain ⟨k, rfl⟩ : ∃ q, k = q + 1 := ⟨k - 1, by omega⟩
        have q1 := he (k + 1) (by omega)
        simp only at q1
        show check_Check.f (k + 1) m d l = _
        unfold check_Check.f
        rw [q1]
        simp only [Option.bind_some]
        rw [if_pos c, if_pos (by omega), if_pos c3, check_Check.j0, if_pos (by simpa using c0)]
    · refine ⟨(0, -1, 1), ⟨Ke + 1, fun k hk => ?_⟩, Or.inr (Or.inl ⟨c, Or.inl c3, rfl⟩)⟩
      obtain ⟨k, rfl⟩ : ∃ q, k = q + 1 := ⟨k - 1, by omega⟩
      have q1 := he (k + 1) (by omega)
      simp only at q1
      show check_Check.f (k + 1) m d l = _
      unfold check_Check.f
      rw [q1]
      simp only [Option.bind_some]
      rw [if_pos c, if_pos (by omega), if_neg c3, check_Check.j0, if_pos rfl]
  · refine ⟨(-1, -1, 1), ⟨Ke + 1, fun k hk => ?_⟩, Or.inl ⟨c, rfl⟩⟩
    have q1 := he k (by omega)
    simp only at q1
    show check_Check.f k m d l = _
    unfold check_Check.f
    rw [q1]
    simp only [Option.bind_some]
    rw [if_neg c]
/-- Nothing is wrong: all functions are fine. -/
theorem rest_zero {l : List S42} : ∀ (e : Nat) (f : Int), Rest l e f (0, 0, 0) → ∀ g, f ≤ g → g < f + e → fb l g (code l g) 0 = -1 ∧ ∃ S, Hts l g (S, true) := by
  intro e
  induction e with
  | zero => intro f _ g h1 h2; omega
  | succ e ih =>
    intro f h g h1 h2
    rcases h with ⟨_, h⟩ | ⟨hb, r, hr, h | h⟩
    · simp at h
    · have := h.2
      simp at this
    · by_cases c : g = f
      · subst c
        refine ⟨hb, r.1, ?_⟩
        have : r = (r.1, true) := by rw [← h.1]
        rw [← this]
        exact hr
      · exact ih (f + 1) h.2 g (by omega) (by omega)
theorem found_zero {m : Int} {d : List Int} {l : List S42} (h : Found m d l (0, 0, 0)) : modOk m d l = true ∧ ∀ g : Int, 0 ≤ g → g < (l.length : Int) → fb l g (code l g) 0 = -1 ∧ ∃ S, Hts l g (S, true) := by
  rcases h with ⟨_, h⟩ | ⟨_, _, h⟩ | ⟨h1, _, _, h⟩
  · simp at h
  · simp at h
  · exact ⟨enc_right h1, fun g g0 g1 => rest_zero l.length 0 h g g0 (by omega)⟩
end Go.Proofs.Ytgngbbkaghmnpaa.Chk
