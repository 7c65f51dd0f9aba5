import Derived.Test.YtaklapcbbdcdpaaDoorXH
namespace Go.Proofs.YtaklapcbbdcdpaaDoor.X
open Go Go.RowKit
set_option linter.unusedVariables false
set_option linter.unusedSimpArgs false
section
variable {P : Program} {X : Ctx P} {β : Type} {Z : Nat → Prop} {H : Heap} {ρ : Rho} {w w' : World} {o : Oper} {a : Act} {K : KO β} {r : β} {ts : TS}
theorem opt_ok (hR : Rel Z H ρ w) (ht : TRel Z H ρ w ts a) {x : Option Operand} {d n : Int} (h : opt ts x d = some n) : (x.map a.eval = none ∧ n = d) ∨ ∃ k, x.map a.eval = some (.int k n) := by
  cases x with
  | none => simp only [opt, Option.some.injEq] at h; exact .inl ⟨rfl, h.symm⟩
  | some y =>
    obtain ⟨k, hk⟩ := asI_ok h (ev_ok hR ht y)
    exact .inr ⟨k, by simp [hk]⟩
theorem bound_run {v : Value} {k : IntKind} {n : Int} {y : Nat} {c : BoundsCode} (hv : v = .int k n) (h0 : 0 ≤ n) (h1 : n ≤ (y : Int)) : (Instr.sliceBound v y c).run P w = .ok n.toNat w := by
  subst hv
  simp [Instr.sliceBound, asIntOf, h0, h1]
theorem bounds_run (b : Bool) {len cap : Nat} {l h m : Int} {lo hi mx : Option Value} (hcap : len ≤ cap)
    (hlo : (lo = none ∧ l = 0) ∨ ∃ k, lo = some (.int k l)) (hhi : (hi = none ∧ h = (len : Int)) ∨ ∃ k, hi = some (.int k h)) (hmx : (mx = none ∧ m = h) ∨ ∃ k, mx = some (.int k m))
    (hno : mx.isSome = true → hi.isSome = true) (h0 : 0 ≤ l) (h1 : l ≤ h) (h2 : h ≤ m) (h3 : m ≤ (len : Int)) :
    (Instr.sliceBounds b len cap lo hi mx).run P w = .ok (l.toNat, h.toNat, if mx.isSome then m.toNat else cap) w := by
  rcases hmx with ⟨rfl, rfl⟩ | ⟨km, rfl⟩
  · rcases hhi with ⟨rfl, rfl⟩ | ⟨kh, rfl⟩
    · rcases hlo with ⟨rfl, rfl⟩ | ⟨kl, rfl⟩
      · simp [Instr.sliceBounds]
      · simp [Instr.sliceBounds, bound_run rfl h0 (show l ≤ ((len : Nat) : Int) by omega)]
    · have e1 := fun c => bound_run (P := P) (w := w) (c := c) (v := .int kh m) (y := cap) rfl (show 0 ≤ m by omega) (by omega)
      rcases hlo with ⟨rfl, rfl⟩ | ⟨kl, rfl⟩
      · cases b <;> simp [Instr.sliceBounds, e1]
      · have e2 := fun c => bound_run (P := P) (w := w) (c := c) (v := .int kl l) (y := m.toNat) rfl h0 (by omega)
        cases b <;> simp [Instr.sliceBounds, e1, e2]
  · rcases hhi with ⟨rfl, rfl⟩ | ⟨kh, rfl⟩
    · simp at hno
    · have e0 := fun c => bound_run (P := P) (w := w) (c := c) (v := .int km m) (y := cap) rfl (show 0 ≤ m by omega) (by omega)
      have e1 := fun c => bound_run (P := P) (w := w) (c := c) (v := .int kh h) (y := m.toNat) rfl (show 0 ≤ h by omega) (by omega)
      rcases hlo with ⟨rfl, rfl⟩ | ⟨kl, rfl⟩
      · cases b <;> simp [Instr.sliceBounds, e0, e1]
      · have e2 := fun c => bound_run (P := P) (w := w) (c := c) (v := .int kl l) (y := h.toNat) rfl h0 (by omega)
        cases b <;> simp [Instr.sliceBounds, e0, e1, e2]
variable (hT : TIok P X.ti)
include hT
theorem sliceAt_run {t e : TypeId} {tr te : TR} (h1 : X.ti t = some tr) (hd : tr.d = .slice e) (h2 : X.ti e = some te) {ad : Option Addr} {len cap : Nat} {l h m : Int} {lo hi mx : Option Value} (hcap : len ≤ cap)
    (hlo : (lo = none ∧ l = 0) ∨ ∃ k, lo = some (.int k l)) (hhi : (hi = none ∧ h = (len : Int)) ∨ ∃ k, hi = some (.int k h)) (hmx : (mx = none ∧ m = h) ∨ ∃ k, mx = some (.int k m))
    (hno : mx.isSome = true → hi.isSome = true) (g0 : 0 ≤ l) (g1 : l ≤ h) (g2 : h ≤ m) (g3 : m ≤ (len : Int)) :
    ∃ M : Nat, M ≤ cap ∧ h.toNat ≤ M ∧ (Instr.sliceAt t (.slice ad len cap) lo hi mx).run P w = .ok (.slice (if M = l.toNat then ad else ad.map (·.add (l.toNat * te.size))) (h.toNat - l.toNat) (M - l.toNat)) w := by
  have hu := hT.und t tr h1
  rw [hd] at hu
  refine ⟨if mx.isSome then m.toNat else cap, by split <;> omega, by split <;> omega, ?_⟩
  simp only [Instr.sliceAt, Sem.run_bind, run_underlying hu, Result.andThen_ok, Instr.slice, bounds_run true hcap hlo hhi hmx hno g0 g1 g2 g3, size_run hT h2, Sem.run_pure]
theorem opSlice_ok (hR : Rel Z H ρ w) (ht : TRel Z H ρ w ts a) {t : TypeId} {x : Operand} {lo hi mx : Option Operand} (ho : o.op = .slice t x lo hi mx) (h : opSlice X ts H t x lo hi mx K = some r) : SndQ (P := P) Z H ρ w o a K r := by
  unfold opSlice at h
  have hx := ev_ok hR ht x
  split at h
  case h_2 => cases h
  rename_i tr c h1 h2
  rw [h2] at hx
  split at h
  case h_2 => cases h
  rename_i n hn
  split at h
  case h_2 => cases h
  rename_i l hh hl hhi
  split at h
  case h_2 => cases h
  rename_i m hm hno
  have hlo := opt_ok hR ht hl
  have hhi := opt_ok hR ht hhi
  have hmx := opt_ok hR ht hm
  have hno' : (mx.map a.eval).isSome = true → (hi.map a.eval).isSome = true := by
    cases mx <;> cases hi <;> simp_all
  split at h
  · rename_i hd
    split at h
    · rename_i s
      split at h
      · cases h
      · rename_i hmn
        obtain ⟨hb, hK⟩ := iff'_ok h
        simp only [decide_eq_true_eq] at hb
        simp only [lenOf, Option.some.injEq] at hn
        subst hn
        have hv := (hx : a.eval x = _ ∧ _).1
        have hu := hT.und t tr h1
        rw [hd] at hu
        have hmn' : mx = none := by cases mx <;> simp_all
        subst hmn'
        have hb2 := bounds_run (P := P) (w := w) false (Nat.le_refl _) hlo hhi (.inl ⟨rfl, rfl⟩ : ((none : Option Value) = none ∧ hh = hh) ∨ _) (by simp) hb.1 hb.2.1 (Int.le_refl _) hb.2.2
        refine SndQ.of hR hK (cv := .string (s.extract l.toNat hh.toNat)) ?_ ⟨rfl, rfl⟩
        simp only [Option.isSome_none, Bool.false_eq_true, if_false] at hb2
        simp only [execOp, ho, Instr.sliceAt, Sem.run_bind, run_underlying hu, hv, Result.andThen_ok, Instr.slice, Option.map_none, Option.isSome_none, Bool.false_eq_true, if_false, Sem.run_pure, hb2]
    · cases h
  · rename_i e hd
    split at h
    case h_2 => cases h
    rename_i te he
    obtain ⟨hb, hK⟩ := iff'_ok h
    simp only [decide_eq_true_eq] at hb
    have run : ∀ {ad : Option Addr} {len cap : Nat} {c' : C1}, a.eval x = .slice ad len cap → n = (len : Int) → len ≤ cap → K (.one c') [] [] = some r →
        (∀ M : Nat, M ≤ cap → hh.toNat ≤ M → V1 Z H ρ w c' (.slice (if M = l.toNat then ad else ad.map (·.add (l.toNat * te.size))) (hh.toNat - l.toNat) (M - l.toNat))) → SndQ (P := P) Z H ρ w o a K r := by
      intro ad len cap c' hv hlen hcap hK hV
      rw [hlen] at hhi hb
      obtain ⟨M, hM1, hM2, hrun⟩ := sliceAt_run (w := w) hT h1 hd he (ad := ad) hcap hlo hhi hmx hno' hb.1 hb.2.1 hb.2.2.1 hb.2.2.2
      refine SndQ.of hR hK ?_ (hV M hM1 hM2)
      simp only [execOp, ho, hv, Sem.run_bind, hrun, Result.andThen_ok, Sem.run_pure]
    split at hK
    · rename_i k sz
      split at hK
      case isFalse => cases hK
      rename_i hsz
      simp only [beq_iff_eq] at hsz
      simp only [lenOf] at hn
      split at hn
      case h_2 => cases hn
      rename_i z1 n1 hdm
      simp only [Option.some.injEq] at hn
      obtain ⟨g1, g2, g3⟩ := hx
      obtain ⟨hs1, hs⟩ := g3 _ _ hdm
      rcases hs with ⟨p, cap, hp, hv, hc1, hc2⟩ | ⟨h0, ad, hv⟩
      · refine run hv hn.symm hc1 hK fun M hM1 hM2 => ⟨g1, rfl, fun z2 n2 hd2 => ?_⟩
        rw [hdm] at hd2; cases hd2
        refine ⟨hs1, by omega, ?_⟩
        by_cases hM : M = l.toNat
        · right; rw [if_pos hM]; exact ⟨by omega, _, by congr 1 <;> omega⟩
        · left; rw [if_neg hM]
          exact ⟨p, M - l.toNat, hp, by rw [Option.map_some, add_off, hsz]; simp, by omega, by omega⟩
      · refine run hv (by omega) (by omega) hK fun M hM1 hM2 => ⟨g1, rfl, fun z2 n2 hd2 => ?_⟩
        rw [hdm] at hd2; cases hd2
        refine ⟨hs1, by omega, .inr ⟨by omega, _, by rw [if_pos (by omega)]; congr 1 <;> omega⟩⟩
    · rename_i k sz off len
      split at hK
      case isFalse => cases hK
      rename_i hsz
      simp only [beq_iff_eq] at hsz
      simp only [lenOf] at hn
      split at hn
      case h_2 => cases hn
      rename_i d1 hdm
      obtain ⟨z1, n1⟩ := d1
      simp only [Option.some.injEq] at hn
      obtain ⟨g1, g2, g3⟩ := hx
      obtain ⟨hs1, hle, hs⟩ := g3 _ _ hdm
      rcases hs with ⟨p, cap, hp, hv, hc1, hc2⟩ | ⟨h0, ad, hv⟩
      · refine run hv hn.symm hc1 hK fun M hM1 hM2 => ⟨g1, rfl, fun z2 n2 hd2 => ?_⟩
        rw [hdm] at hd2; cases hd2
        refine ⟨hs1, by omega, ?_⟩
        by_cases hM : M = l.toNat
        · right; rw [if_pos hM]; exact ⟨by omega, _, by congr 1 <;> omega⟩
        · left; rw [if_neg hM]
          exact ⟨p, M - l.toNat, hp, by rw [Option.map_some, add_off, hsz, Nat.add_mul]; simp [Nat.add_assoc], by omega, by omega⟩
      · refine run hv (by omega) (by omega) hK fun M hM1 hM2 => ⟨g1, rfl, fun z2 n2 hd2 => ?_⟩
        rw [hdm] at hd2; cases hd2
        refine ⟨hs1, by omega, .inr ⟨by omega, _, by rw [if_pos (by omega)]; congr 1 <;> omega⟩⟩
    · rename_i s xs
      split at hK
      case isFalse => cases hK
      rename_i hsz
      simp only [beq_iff_eq] at hsz
      simp only [lenOf, Option.some.injEq] at hn
      obtain ⟨ad, cap, us, hv, hc, hL, hA⟩ := R1.sl_inv (hx : R1 w (A Z H ρ w) _ _)
      refine run hv hn.symm hc hK fun M hM1 hM2 => ?_
      have hlen : ((xs.take hh.toNat).drop l.toNat).length = hh.toNat - l.toNat := by simp; omega
      show R1 w (A Z H ρ w) (.sl ((xs.take hh.toNat).drop l.toNat).length (((xs.take hh.toNat).drop l.toNat).flatMap s.dv)) _
      have hL2 := (hL.take (hh.toNat * s.sz)).drop (l.toNat * s.sz)
      rw [flat_take (dv_len s), flat_drop (dv_len s)] at hL2
      rw [hlen]
      refine R1.mk (by omega) hL2 ?_
      by_cases hM : M = l.toNat
      · left
        have := hL2.length
        rw [flat_len (dv_len s), hlen] at this
        apply List.eq_nil_of_length_eq_zero
        rw [← this]
        have : hh.toNat - l.toNat = 0 := by omega
        rw [this]; simp
      · rw [if_neg hM]
        rcases hA with rfl | ⟨b, rfl, hA, hu⟩
        · left; simp
        · right
          refine ⟨_, rfl, by rw [add_block]; exact hA, ⟨fun j u hj => ?_⟩⟩
          rw [List.getElem?_drop, List.getElem?_take] at hj
          split at hj
          · rw [add_add, ← hsz]; exact hu.cell _ _ hj
          · cases hj
    · cases hK
  · cases h
end
end Go.Proofs.YtaklapcbbdcdpaaDoor.X
