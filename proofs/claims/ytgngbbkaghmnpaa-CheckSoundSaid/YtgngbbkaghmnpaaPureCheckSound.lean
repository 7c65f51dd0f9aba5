/- Without a flaw each instruction finds what it takes: CheckSound answers true for every module. No condition. -/
import Derived.Test.YtgngbbkaghmnpaaQx35
import Derived.Test.YtgngbbkaghmnpaaCG
namespace Go.Proofs.Ytgngbbkaghmnpaa.Pure
open Go.RowKit Go.Proofs.Ytgngbbkaghmnpaa.Q Go.Proofs.YtgngbbkaghmnpaaW.PrintWords Go.Proofs.YtgngbbkaghmnpaaW.PrintLast Go.Proofs.Ytgngbbkaghmnpaa.Chk

theorem alive_ok : casementlaw13_alive.f 100 = some true := by kernel_rfl
theorem alive_k {k : Nat} (hk : 100 ≤ k) : casementlaw13_alive.f k = some true := at_rounds casementlaw13_alive.mono hk alive_ok
section
variable {m : Int} {d : List Int} {l : List S42} {f : Int} {S : List Int}
theorem l1_fine (hF : Chk.Fn l f) (hb : fb l f (code l f) 0 = -1) (hS : Hts l f (S, true)) {n j : Int} {b : Bool} (hn : Ev (fun k => casementlaw13_CheckSound.l0 k l n (wrap64 (j + 1)) m d l) b) : ∀ (e i : Nat), (code l f).length - i = e → i ≤ (code l f).length →
    Ev (fun k => casementlaw13_CheckSound.l1 k f S l n j (code l f) ((code l f).length : Int) (i : Int) m d l (rd_T42 l f).f0 (rd_T42 l f).f1 (rd_T42 l f).f2 (code l f)) b := by
  obtain ⟨hbd, hall⟩ := hF.bnd
  have hfine := hF.fine hb
  obtain ⟨hsol, hinv⟩ : Sol ((code l f).length : Int) (Tk l f) (Pt l f) (isRet l f) (nx l f) S ∧ Inv ((code l f).length : Int) (Tk l f) (Pt l f) (nx l f) S := by
    rcases hS with h | h
    · exact h.2
    · simp at h
  have hlen := hsol.len
  intro e
  induction e with
  | zero =>
    intro i he hi
    refine Ev.step (f := fun k => casementlaw13_CheckSound.l0 k l n (wrap64 (j + 1)) m d l) (fun k => ?_) hn
    show casementlaw13_CheckSound.l1 (k + 1) f S l n j (code l f) ((code l f).length : Int) (i : Int) m d l (rd_T42 l f).f0 (rd_T42 l f).f1 (rd_T42 l f).f2 (code l f) = _
    rw [casementlaw13_CheckSound.l1, if_neg (by omega)]
  | succ e ih =>
    intro i he hi
    have hi' : i < (code l f).length := by omega
    have g1 : (i : Int) < ((code l f).length : Int) := by omega
    have g2 : 0 ≤ (i : Int) := by omega
    have g3 : (i : Int) < (S.length : Int) := by omega
    have hin := List.all_eq_true.1 hall _ (List.getElem_mem hi')
    have hop : 0 ≤ (code l f)[i].f0 ∧ (code l f)[i].f0 ≤ 29 := by
      unfold insOk at hin
      simp only [Bool.and_eq_true, decide_eq_true_eq] at hin
      exact hin.1
    have hat := rdI_at (code l f) i hi'
    have hlow := hinv.low (i : Int) g2 g1
    have htk := hfine.tk (i : Int) g2 g1
    have hpt := hfine.pt (i : Int) g2 g1
    have hT : (eT l f (code l f)[i].f0 (code l f)[i].f1).1 = Tk l f (i : Int) := by unfold Tk; rw [hat]
    have hP : (eT l f (code l f)[i].f0 (code l f)[i].f1).2.1 = Pt l f (i : Int) := by unfold Pt; rw [hat]
    have hsb := fb_none _ 0 (by omega) hb _ (List.getElem_mem hi')
    have hok : (eT l f (code l f)[i].f0 (code l f)[i].f1).2.2 = true := by
      by_cases c26 : (code l f)[i].f0 = 26
      · unfold sb at hsb
        rw [if_neg (by omega), if_neg (by omega)] at hsb
        simpa using hsb
      · by_cases c28 : (code l f)[i].f0 = 28
        · unfold sb at hsb
          rw [if_neg (by omega), if_neg (by omega)] at hsb
          simpa using hsb
        · exact eT_ok hop.1 hop.2 c26 c28
    obtain ⟨K, hK⟩ := ih (i + 1) (by omega) (by omega)
    have hw : PLift (wrap64 ((i : Int) + 1) = ((i + 1 : Nat) : Int)) := ⟨by rw [wrap_id (by unfold I64; omega)]; omega⟩
    generalize hTt : Tk l f (i : Int) = T at *
    generalize hPp : Pt l f (i : Int) = P at *
    refine ⟨K + 20, fun k hk => ?_⟩
    obtain ⟨k, rfl⟩ : ∃ q, k = q + 4 := ⟨k - 4, by omega⟩
    have q0 := hK (k + 3) (by omega)
    have q1 := hK (k + 2) (by omega)
    have q2 := hK (k + 1) (by omega)
    have q3 := hK k (by omega)
    have h6 : 6 ≤ k + 3 := by omega
    simp only at q0 q1 q2 q3
    show casementlaw13_CheckSound.l1 (k + 4) f S l n j (code l f) ((code l f).length : Int) (i : Int) m d l (rd_T42 l f).f0 (rd_T42 l f).f1 (rd_T42 l f).f2 (code l f) = _
    rw [casementlaw13_CheckSound.l1, if_pos g1, if_pos g2, if_pos g1, if_pos g3, hw.down]
    by_cases c : rd S (i : Int) < 0
    · rw [if_pos c]
      exact q0
    · rw [if_neg c, hat, eff_tab hF.f0 hF.f1 h6]
      simp only [Option.bind_some, hok, if_true, hT, hP]
      have hd := hsol.done (i : Int) g2 g1 (by omega)
      have hnb := hd.1
      have hsucc := hd.2
      unfold Bad at hnb
      rw [hTt, hPp] at hnb
      have b1 : ¬ rd S (i : Int) - T < 0 := fun q => hnb (Or.inl q)
      have b2 : ¬ rd S (i : Int) - T + P > 64 := fun q => hnb (Or.inr (Or.inl q))
      have hww : PLift (wrap64 (rd S (i : Int) - T) = rd S (i : Int) - T) := ⟨wrap_id (by unfold I64; omega)⟩
      have hww2 : PLift (wrap64 (rd S (i : Int) - T + P) = rd S (i : Int) - T + P) := ⟨wrap_id (by unfold I64; omega)⟩
      rw [hww.down, hww2.down, if_neg (show ¬ rd S (i : Int) < T by omega), if_neg b2, decide_eq_false (show ¬ rd S (i : Int) > 64 by omega), casementlaw13_CheckSound.j3, if_neg (by decide), hw.down]
      by_cases c27 : (code l f)[i].f0 = 27
      · rw [if_pos c27, if_pos g2, if_pos g3]
        have e1 : T = (rd_T42 l f).f1 := by rw [← hT, c27, eT_ret]
        have e2 : rd S (i : Int) - T = 0 := by
          rcases Decidable.em (rd S (i : Int) - T = 0) with q | q
          · exact q
          · exact absurd (Or.inr (Or.inr ⟨by unfold isRet; rw [hat]; exact c27, q⟩)) hnb
        rw [if_pos (by omega)]
        exact q1
      · rw [if_neg c27]
        have hnx : nx l f (i : Int) = nxl (i : Int) (code l f)[i] := by unfold nx; rw [hat]
        rw [hnx] at hsucc
        rw [hTt, hPp] at hsucc
        have hj4 : casementlaw13_CheckSound.j4 (k + 2) f S (i : Int) (rd S (i : Int) - T + P) l n j (code l f) ((code l f).length : Int) (i : Int) false m d l (rd_T42 l f).f0 (rd_T42 l f).f1 (rd_T42 l f).f2 (code l f) (code l f)[i].f0 (code l f)[i].f1 = some b := by
          rw [casementlaw13_CheckSound.j4, if_neg (by decide), hw.down]
          by_cases c24 : (code l f)[i].f0 = 24
          · rw [if_pos c24]
            exact q2
          · rw [if_neg c24]
            by_cases c29 : (code l f)[i].f0 = 29
            · rw [if_pos c29]
              exact q2
            · rw [if_neg c29]
              have hm : (i : Int) + 1 ∈ nxl (i : Int) (code l f)[i] := by
                unfold nxl
                rw [if_neg (by omega), if_neg c24]
                split <;> simp
              have hs := hsucc _ hm
              have ec : ((i + 1 : Nat) : Int) = (i : Int) + 1 := by omega
              rw [ec, if_neg (by omega), if_pos (by omega), if_pos (by omega), if_pos hs.2, ← ec]
              exact q2
        by_cases c24 : (code l f)[i].f0 = 24
        · have hjm := hfine.jm (i : Int) g2 g1 (by rw [hat]; exact Or.inl c24)
          rw [hat] at hjm
          have hs := hsucc (code l f)[i].f1 (by unfold nxl; rw [if_neg (by omega), if_pos c24]; simp)
          rw [if_pos c24, if_pos hjm.1, if_pos (by omega), show (rd S (code l f)[i].f1 != rd S (i : Int) - T + P) = false by simpa using hs.2]
          exact hj4
        · rw [if_neg c24]
          by_cases c25 : (code l f)[i].f0 = 25
          · have hjm := hfine.jm (i : Int) g2 g1 (by rw [hat]; exact Or.inr c25)
            rw [hat] at hjm
            have hs := hsucc (code l f)[i].f1 (by unfold nxl; rw [if_neg (by omega), if_neg c24, if_pos c25]; simp)
            rw [if_pos c25, if_pos hjm.1, if_pos (by omega), show (rd S (code l f)[i].f1 != rd S (i : Int) - T + P) = false by simpa using hs.2]
            exact hj4
          · rw [if_neg c25]
            exact hj4
end
theorem hts_len {l : List S42} {f : Int} {S : List Int} (hS : Hts l f (S, true)) : (S.length : Int) = ((code l f).length : Int) ∧ rd S 0 = 0 := by
  rcases hS with h | h
  · exact ⟨h.2.1.len, h.2.1.zero⟩
  · simp at h
theorem heights_fine {m : Int} {d : List Int} {l : List S42} {f : Int} {S : List Int} (hF : Chk.Fn l f) (hb : fb l f (code l f) 0 = -1) (hS : Hts l f (S, true)) (hc : Ev (fun k => check_Check.f k m d l) (0, 0, 0)) : Ev (fun k => check_Heights.f k m d l f) S := by
  obtain ⟨K, hK⟩ := hc
  obtain ⟨r, ⟨K2, hK2⟩, hr⟩ := heights_ev (m := m) (d := d) hF hb
  have hfine := hF.fine hb
  have hfit := hfine.fits (m := m) (d := d)
  have e : r = (S, true) := Spec.one hfit.n0 hfit.hP hfit.hx hr hS
  subst e
  refine ⟨K + K2, fun k hk => ?_⟩
  have q1 := hK k (by omega)
  have q2 := hK2 k (by omega)
  simp only at q1 q2
  show check_Heights.f k m d l f = _
  unfold check_Heights.f check_function.f
  rw [q1]
  simp only [Option.bind_some]
  rw [if_neg (by decide), if_pos (by have := hF.f0; omega), q2]
  have := hF.f1
  simp [this]
theorem l0_fine {m : Int} {d : List Int} {l : List S42} (h : Mok m d l) (hr : modOk m d l = true) (hc : Ev (fun k => check_Check.f k m d l) (0, 0, 0)) (hall : ∀ g : Int, 0 ≤ g → g < (l.length : Int) → fb l g (code l g) 0 = -1 ∧ ∃ S, Hts l g (S, true)) : ∀ (e i : Nat), l.length - i = e → i ≤ l.length →
    Ev (fun k => casementlaw13_CheckSound.l0 k l (l.length : Int) (i : Int) m d l) true := by
  obtain ⟨hbd, ho⟩ := mod_bnd hr
  intro e
  induction e with
  | zero =>
    intro i he hi
    refine Ev.step (f := fun _ => some true) (fun k => ?_) (Ev.now _)
    show casementlaw13_CheckSound.l0 (k + 1) l (l.length : Int) (i : Int) m d l = _
    rw [casementlaw13_CheckSound.l0, if_neg (by omega)]
  | succ e ih =>
    intro i he hi
    have hF : Chk.Fn l (i : Int) := ⟨by omega, by omega, ho, h.hx⟩
    obtain ⟨hb, S, hS⟩ := hall (i : Int) (by omega) (by omega)
    obtain ⟨hl, hz⟩ := hts_len hS
    obtain ⟨K, hK⟩ := heights_fine (m := m) (d := d) hF hb hS hc
    have hbnd := hF.bnd.1
    have hnext := ih (i + 1) (by omega) (by omega)
    have hw : PLift (wrap64 ((i : Int) + 1) = ((i + 1 : Nat) : Int)) := ⟨by rw [wrap_id (by unfold I64; omega)]; omega⟩
    obtain ⟨K2, hK2⟩ := l1_fine (m := m) (d := d) hF hb hS (n := (l.length : Int)) (j := (i : Int)) (b := true) (by rw [hw.down]; exact hnext) (code l (i : Int)).length 0 (by omega) (by omega)
    refine ⟨K + K2 + 2, fun k hk => ?_⟩
    obtain ⟨k, rfl⟩ : ∃ q, k = q + 2 := ⟨k - 2, by omega⟩
    have q1 := hK (k + 1) (by omega)
    have q2 := hK2 k (by omega)
    simp only at q1 q2
    show casementlaw13_CheckSound.l0 (k + 2) l (l.length : Int) (i : Int) m d l = _
    rw [casementlaw13_CheckSound.l0, if_pos (by omega), if_pos (by omega), if_pos (by omega), q1]
    simp only [Option.bind_some]
    have hl' : (S.length : Int) = (((rd_T42 l (i : Int)).f3).length : Int) := hl
    rw [if_pos hl', if_pos (by omega), hz, casementlaw13_CheckSound.j1, if_neg (by decide)]
    exact q2
theorem CheckSound : casementlaw13_CheckSound.Pure := by
  intro m d l hm _ hd _ _ hl hx
  have hM : Mok m d l := ⟨i64_of hm, by omega, by omega, hx⟩
  obtain ⟨v, ⟨K, hK⟩, hv⟩ := check_ok hM
  by_cases c : v = (0, 0, 0)
  · subst c
    obtain ⟨hr, hall⟩ := found_zero hv
    obtain ⟨K2, hK2⟩ := l0_fine hM hr ⟨K, hK⟩ hall l.length 0 (by omega) (by omega)
    refine ⟨K + K2 + 100, ?_⟩
    have q1 := hK (K + K2 + 100) (by omega)
    have q2 := hK2 (K + K2 + 100) (by omega)
    simp only at q1 q2
    unfold casementlaw13_CheckSound.f
    rw [alive_k (by omega)]
    simp only [Option.bind_some, if_true]
    rw [q1]
    simp only [Option.bind_some]
    rw [if_neg (by decide)]
    exact q2
  · refine ⟨K + 100, ?_⟩
    have q1 := hK (K + 100) (by omega)
    simp only at q1
    unfold casementlaw13_CheckSound.f
    rw [alive_k (by omega)]
    simp only [Option.bind_some, if_true]
    rw [q1]
    simp only [Option.bind_some]
    rw [if_pos]
    obtain ⟨a, b, e⟩ := v
    simp only [Prod.mk.injEq, not_and] at c
    by_cases ha : a = 0
    · by_cases hb : b = 0
      · have := c ha hb
        simp [ha, hb, this]
      · simp [hb]
    · simp [ha]
end Go.Proofs.Ytgngbbkaghmnpaa.Pure
