import Derived.Test.YtaklapcbbdcdpaaDoorXG
import Derived.Great.FillDense
namespace Go.Proofs.YtaklapcbbdcdpaaDoor.X
open Go Go.RowKit
set_option linter.unusedVariables false
set_option linter.unusedSimpArgs false
section
variable {P : Program} {X : Ctx P} {β : Type} {Z : Nat → Prop} {H : Heap} {ρ : Rho} {w w' : World} {o : Oper} {a : Act} {K : KO β} {r : β} {ts : TS}
/-- what a slice holds, in memory -/
theorem elemsOf_ok (hR : Rel Z H ρ w) {c : C1} {v : Value} {s : Sh} {ys : List s.T} (h : elemsOf H c = some ⟨s, ys⟩) (hv : V1 Z H ρ w c v) :
    ∃ ad cap us, v = .slice ad ys.length cap ∧ ys.length ≤ cap ∧ LR (R1 w (A Z H ρ w)) (ys.flatMap s.dv) us ∧ (us = [] ∨ ∃ b, ad = some b ∧ Lies w b us) := by
  have row : ∀ {l : Nat} {e : TypeId} {s : Sh} {xs : List s.T} {sz off len : Nat} {v : Value}, H.at l = .row e s xs → sz = s.sz → off + len ≤ xs.length → SlAt ρ l sz off len v →
      ∃ ad cap us, v = .slice ad ((xs.drop off).take len).length cap ∧ ((xs.drop off).take len).length ≤ cap ∧ LR (R1 w (A Z H ρ w)) (((xs.drop off).take len).flatMap s.dv) us ∧ (us = [] ∨ ∃ b, ad = some b ∧ Lies w b us) := by
    intro l e s xs sz off len v hat hsz hle hs
    have hlen : ((xs.drop off).take len).length = len := by simp; omega
    rw [hlen]
    rcases hs with ⟨p, cap, hp, rfl, h1, h2⟩ | ⟨rfl, ad, rfl⟩
    · have ho := hR.obj l
      rw [hat] at ho
      rcases ho with ⟨hn, hn2⟩ | ⟨q, cur, us, hq, hw, _, _, _, hc, hL⟩
      · rw [hp] at hn2; cases hn2
      · rw [hp] at hq; cases hq
        refine ⟨_, cap, (us.drop (off * s.sz)).take (len * s.sz), rfl, h1, ?_, .inr ⟨_, rfl, ⟨fun j u hj => ?_⟩⟩⟩
        · rw [← flat_take (dv_len s), ← flat_drop (dv_len s)]
          exact (hL.drop _).take _
        · obtain ⟨hj1, _⟩ := cut_get _ _ _ _ _ hj
          rw [add_off, cell_at w p.b _ cur e (0, 0) hw, ← hc _ _ hj1, hsz]
          congr 1; omega
    · exact ⟨ad, 0, [], rfl, by omega, by simp [LR], .inl rfl⟩
  cases c with
  | own l sz =>
    simp only [elemsOf] at h
    split at h
    · rename_i e s' xs hat
      simp only [Option.some.injEq, Sigma.mk.injEq] at h
      obtain ⟨rfl, h⟩ := h
      cases h
      obtain ⟨g1, g2, g3⟩ := hv
      obtain ⟨hsz, hs⟩ := g3 _ _ (dim_row hat)
      have := row hat hsz (by omega) hs
      simpa using this
    · cases h
  | sl l sz off len =>
    simp only [elemsOf] at h
    split at h
    · rename_i e s' xs hat
      simp only [Option.some.injEq, Sigma.mk.injEq] at h
      obtain ⟨rfl, h⟩ := h
      cases h
      obtain ⟨g1, g2, g3⟩ := hv
      obtain ⟨hsz, hle, hs⟩ := g3 _ _ (dim_row hat)
      exact row hat hsz hle hs
    · cases h
  | vsl s' xs =>
    simp only [elemsOf, Option.some.injEq, Sigma.mk.injEq] at h
    obtain ⟨rfl, h⟩ := h
    cases h
    obtain ⟨a', cap, us, hv', hn, hL, hA⟩ := R1.sl_inv (hv : R1 w (A Z H ρ w) _ _)
    exact ⟨a', cap, us, hv', hn, hL, hA.imp id fun ⟨b, h1, _, h2⟩ => ⟨b, h1, h2⟩⟩
  | any => simp [elemsOf] at h
  | lit u => simp [elemsOf] at h
  | ptr l z => simp [elemsOf] at h
  | ep l z i m => simp [elemsOf] at h
  | vp l z i m => simp [elemsOf] at h
  | fn f as => simp [elemsOf] at h
theorem lenOf_ok (hR : Rel Z H ρ w) {c : C1} {v : Value} {n : Int} (h : lenOf H c = some n) (hv : V1 Z H ρ w c v) :
    (∃ ad m cap, v = .slice ad m cap ∧ n = (m : Int) ∧ m ≤ cap ∧ ∀ s, c ≠ .lit (.string s)) ∨ (∃ s, c = .lit (.string s) ∧ v = .string s ∧ n = (s.size : Int)) ∨ (∃ ad m cap, c = .lit (.slice ad m cap) ∧ v = .slice ad m cap ∧ n = (m : Int)) := by
  cases c with
  | own l sz =>
    simp only [lenOf] at h
    split at h
    · rename_i z1 n1 hdm
      simp only [Option.some.injEq] at h
      obtain ⟨g1, g2, g3⟩ := hv
      obtain ⟨_, hs⟩ := g3 _ _ hdm
      rcases hs with ⟨p, cap, _, rfl, h1, _⟩ | ⟨h0, ad, rfl⟩
      · exact .inl ⟨_, _, cap, rfl, h.symm, h1, fun _ h => by cases h⟩
      · exact .inl ⟨ad, 0, 0, rfl, by omega, Nat.le_refl _, fun _ h => by cases h⟩
    · cases h
  | sl l sz off len =>
    simp only [lenOf] at h
    split at h
    · rename_i d1 hdm
      obtain ⟨z1, n1⟩ := d1
      simp only [Option.some.injEq] at h
      obtain ⟨g1, g2, g3⟩ := hv
      obtain ⟨_, _, hs⟩ := g3 _ _ hdm
      rcases hs with ⟨p, cap, _, rfl, h1, _⟩ | ⟨h0, ad, rfl⟩
      · exact .inl ⟨_, _, cap, rfl, h.symm, h1, fun _ h => by cases h⟩
      · exact .inl ⟨ad, 0, 0, rfl, by omega, Nat.le_refl _, fun _ h => by cases h⟩
    · cases h
  | vsl s xs =>
    simp only [lenOf, Option.some.injEq] at h
    obtain ⟨ad, cap, us, hv', hn, _⟩ := elemsOf_ok hR (c := .vsl s xs) (s := s) (ys := xs) rfl hv
    exact .inl ⟨ad, _, cap, hv', h.symm, hn, fun _ h => by cases h⟩
  | lit u =>
    simp only [lenOf] at h
    split at h <;> first | (rename_i hh; cases hh; done) | skip
    · rename_i hh; cases hh
      simp only [Option.some.injEq] at h
      exact .inr (.inr ⟨_, _, _, rfl, (hv : v = _ ∧ _).1, h.symm⟩)
    · rename_i hh; cases hh
      simp only [Option.some.injEq] at h
      exact .inr (.inl ⟨_, rfl, (hv : v = _ ∧ _).1, h.symm⟩)
    · cases h
  | any => simp [lenOf] at h
  | ptr l z => simp [lenOf] at h
  | ep l z i m => simp [lenOf] at h
  | vp l z i m => simp [lenOf] at h
  | fn f as => simp [lenOf] at h
variable (hT : TIok P X.ti)
include hT
theorem opIndex_ok (hR : Rel Z H ρ w) (ht : TRel Z H ρ w ts a) {t : TypeId} {x ix : Operand} (ho : o.op = .index t x ix) (h : opIndex X ts H t x ix K = some r) : SndQ (P := P) Z H ρ w o a K r := by
  unfold opIndex at h
  have hx := ev_ok hR ht x
  have hi := ev_ok hR ht ix
  split at h
  · rename_i tr s i h1 h2 h3
    obtain ⟨k, hk⟩ := asI_ok h3 hi
    rw [h2] at hx
    have hv := (hx : a.eval x = _ ∧ _).1
    split at h
    · rename_i hd
      obtain ⟨hb, hK⟩ := iff'_ok h
      simp only [decide_eq_true_eq] at hb
      have hu := hT.und t tr h1
      rw [hd] at hu
      have hlt : i.toNat < s.size := by omega
      refine SndQ.of hR hK (cv := .int .u8 (bt s i)) ?_ ⟨rfl, rfl⟩
      have e : s[i.toNat]? = some s[i.toNat] := by simp [hlt]
      have e2 : (s[i.toNat].toNat : Int) = bt s i := by
        unfold bt
        have h3 : i.toNat < s.data.size := hlt
        rw [Array.getD_eq_getD_getElem?, Array.getElem?_eq_getElem h3]; rfl
      simp [execOp, ho, Instr.index, hk, asIntOf, run_underlying hu, hv, hb.1, e, e2]
    · cases h
  · cases h
end
end Go.Proofs.YtaklapcbbdcdpaaDoor.X
