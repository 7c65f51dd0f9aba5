import Derived.Test.YtaklapcbbdcdpaaDoorYA
namespace Go.Proofs.YtaklapcbbdcdpaaDoor.X
open Go Go.RowKit
set_option linter.unusedVariables false
set_option linter.unusedSimpArgs false
/-! A function's code -/
def exOf (Q : Exit → Act → World → Prop) : Ex → Act → World → Prop
  | .normal => Q .normal
  | .exit i => Q (.exit i)
  | .ret => Q .ret
theorem Inv.drew {P : Program} {X : Ctx P} {B : Base} {ts : TS} {H : Heap} {a : Act} {w : World} (h : Inv X B ts H a w) : Inv X B ts H a { w with drawn := w.drawn + 1 } := by
  obtain ⟨ρ, h⟩ := h
  have e : Ext H ρ w H ρ { w with drawn := w.drawn + 1 } := ⟨rfl, rfl, rfl, Nat.le_refl _, fun _ _ _ => rfl, fun _ h => .inl h, Nat.le_refl _, fun _ _ => rfl, fun _ _ h => h, fun _ _ _ h => h⟩
  exact ⟨ρ, h.rel.step e (fun l hl => .inl ⟨at_lt hl, rfl, rfl, fun _ _ _ _ => rfl⟩) (fun l l' p p' k h1 hl => absurd ⟨at_lt hl, rfl⟩ h1), e.TRel h.ts, h.size, h.defers, h.ro, h.rolen, h.since.step e, h.rok⟩
section
variable {P : Program} {X : Ctx P} {B : Base} (hT : TIok P X.ti) (hE : ∀ e ∈ X.tb, EOk P e) (hN : ∀ e ∈ X.tb, ENat e) (hM : P.follows .mixedOrders = true) (hkp : X.ro ≤ X.kp) (hRo : RoOk X.ro B.R)
include hT hE hN hM hkp hRo
theorem exec_ok (k : Nat) : ∀ (c : Code) (an : An) (β : Type) (ts : TS) (H : Heap) (K : KE β) (r : β) (a : Act) (w : World) (Q : Exit → Act → World → Prop), exec X B.R B.N k c an β ts H K = some r → Inv X B ts H a w →
    (∀ e ts' H' a' w', K e ts' H' = some r → Inv X B ts' H' a' w' → exOf Q e a' w') → c.wp P Q a w := by
  intro c
  induction c with
  | skip => intro an β ts H K r a w Q h hI hQ; simp only [exec] at h; exact wp_skip (hQ _ _ _ _ _ h hI)
  | region id ops dr =>
    intro an β ts H K r a w Q h hI hQ
    simp only [exec] at h
    cases dr with
    | true =>
      simp only [cond_true] at h
      obtain ⟨H1, hI1, h1⟩ := (hI.prepR_ _).prepG_ _ h
      exact wp_region_any hM (drawSym_ok hT hE hN (fun ts' H' a' w' h' hI' => hQ .normal ts' H' a' w' h' hI') h1 hI1.drew)
    | false =>
      simp only [cond_false] at h
      refine wp_region ?_
      have := opsRun_ok (Q := Q) hT hE (fun ts' H' a' w' h' hI' => hQ .normal ts' H' a' w' h' hI') ops.toList 0 ts H a w rfl h hI
      rw [Array.length_toList] at this
      rwa [List.range_eq_range']
  | seq x y ihx ihy =>
    intro an β ts H K r a w Q h hI hQ
    simp only [exec] at h
    refine wp_seq ?_
    split at h
    · rename_i g ax ay
      obtain ⟨s, h1, h2⟩ := Option.bind_eq_some_iff.1 h
      refine ihx ax _ ts H _ s a w _ h1 hI fun e ts' H' a' w' he hI' => ?_
      have other : ∀ e : Ex, (K e ts' H').map Sum.inr = some s → K e ts' H' = some r := fun e he => by
        obtain ⟨z, hz, rfl⟩ := Option.map_eq_some_iff.1 he
        simp only [Option.some.injEq] at h2
        rw [hz, h2]
      cases e with
      | normal =>
        simp only at he
        split at he
        case h_2 => cases he
        rename_i q Hf Bf hd
        simp only [Option.some.injEq] at he
        subst he
        simp only at h2
        exact ihy ay β _ _ K r a' w' Q h2 (hI'.formh hkp hRo hd) hQ
      | exit i => exact hQ (.exit i) ts' H' a' w' (other (.exit i) he) hI'
      | ret => exact hQ .ret ts' H' a' w' (other .ret he) hI'
    · rename_i an' _
      refine ihx _ _ ts H _ r a w _ h hI fun e ts' H' a' w' he hI' => ?_
      cases e with
      | normal => exact ihy _ β _ _ K r a' w' Q he hI' hQ
      | exit i => exact hQ (.exit i) ts' H' a' w' he hI'
      | ret => exact hQ .ret ts' H' a' w' he hI'
  | cond c x y ihx ihy =>
    intro an β ts H K r a w Q h hI hQ
    simp only [exec] at h
    split at h
    case h_2 => cases h
    rename_i t hc
    have hcv : a.eval c = .bool t := by
      obtain ⟨ρ, hI⟩ := hI
      have := ev_ok hI.rel hI.ts c
      rw [hc] at this
      exact (this : a.eval c = _ ∧ _).1
    have hl : Inv X B (learn ts c t) H a w := by
      obtain ⟨ρ, hI⟩ := hI
      refine ⟨ρ, hI.rel, fun u => ?_, hI.size, hI.defers, hI.ro, hI.rolen, hI.since, hI.rok⟩
      unfold learn
      split
      · rename_i x'
        rw [get_put]
        split
        · rename_i e; subst e; exact ⟨hcv, rfl⟩
        · exact hI.ts u
      · exact hI.ts u
    cases t with
    | true => exact wp_cond_true hcv (ihx _ β _ H K r a w Q h hl hQ)
    | false => exact wp_cond_false hcv (ihy _ β _ H K r a w Q h hl hQ)
  | block id x ih =>
    intro an β ts H K r a w Q h hI hQ
    simp only [exec] at h
    refine wp_block (ih an β ts H _ r a w _ h hI fun e ts' H' a' w' he hI' => ?_)
    cases e with
    | normal => exact hQ .normal ts' H' a' w' he hI'
    | exit i =>
      simp only [exOf, Exit.inBlock]
      simp only at he
      by_cases hi : i = id
      · rw [if_pos hi]
        rw [hi] at he
        simp only [beq_self_eq_true, if_true] at he
        exact hQ .normal ts' H' a' w' he hI'
      · rw [if_neg hi]
        have : (i == id) = false := by simpa using hi
        rw [this] at he
        simp only [Bool.false_eq_true, if_false] at he
        exact hQ (.exit i) ts' H' a' w' he hI'
    | ret => exact hQ .ret ts' H' a' w' he hI'
  | loop x ih =>
    intro an β ts H K r a w Q h hI hQ
    simp only [exec] at h
    split at h
    case h_3 => cases h
    case h_2 =>
      rename_i mm ax
      generalize hb : (fun (ih' : TS → Heap → Option β) (ts : TS) (H : Heap) => exec X B.R B.N k x ax β ts H fun e ts' H' => match e with
          | .normal => ih' ts' H'
          | e => K e ts' H') = body at h
      let S : Nat → Act → World → Prop := fun n a w => ∃ ts H, unrN body n ts H = some r ∧ Inv X B ts H a w
      have hS0 : ∃ n, S n a w := ⟨mm, ts, H, h, hI⟩
      have least : ∀ {a : Act} {w : World}, (∃ n, S n a w) → ∃ n, S n a w ∧ ∀ m, S m a w → n ≤ m := by
        intro a w ⟨n, hn⟩
        induction n using Nat.strongRecOn with
        | _ n ihn =>
          by_cases hm : ∃ m, m < n ∧ S m a w
          · obtain ⟨m, hm, hSm⟩ := hm; exact ihn m hm hSm
          · exact ⟨n, hn, fun m hSm => Nat.le_of_not_lt fun hlt => hm ⟨m, hlt, hSm⟩⟩
      let μ : Act → World → Nat := fun a w => open Classical in if hs : ∃ n, S n a w then (least hs).choose else 0
      have hμ : ∀ {a : Act} {w : World} (hs : ∃ n, S n a w), S (μ a w) a w ∧ ∀ m, S m a w → μ a w ≤ m := by
        intro a w hs
        have : μ a w = (least hs).choose := by simp only [μ]; rw [dif_pos hs]
        rw [this]; exact (least hs).choose_spec
      refine wp_loop (fun a w => ∃ n, S n a w) μ hS0 fun a w hs => ?_
      obtain ⟨⟨ts1, H1, hq, hIq⟩, hmin⟩ := hμ hs
      obtain ⟨m, hm⟩ : ∃ m, μ a w = m + 1 := by
        cases hz : μ a w with
        | zero => rw [hz] at hq; simp [unrN] at hq
        | succ m => exact ⟨m, rfl⟩
      rw [hm] at hq
      have hq' : body (unrN body m) ts1 H1 = some r := hq
      rw [← hb] at hq'
      refine ih ax β _ _ _ r a w _ hq' hIq fun e ts' H' a' w' he hI' => ?_
      cases e with
      | normal =>
        simp only at he
        have hS' : S m a' w' := ⟨ts', H', by rw [← hb]; exact he, hI'⟩
        exact ⟨⟨m, hS'⟩, by have := (hμ ⟨m, hS'⟩).2 m hS'; omega⟩
      | exit i => exact hQ (.exit i) ts' H' a' w' he hI'
      | ret => exact hQ .ret ts' H' a' w' he hI'
    rename_i g ax
    split at h
    case h_2 => cases h
    rename_i q Hf Bf hd
    generalize hb : (fun (q : g.T) (ih' : g.T → Option β) => exec X B.R B.N k x ax β (RL.enc g.roots q.1) (B.R ++ OL.enc g.objs q.2) fun e ts' H' => match e with
          | .normal => (match g.deh X.ro X.kp ts' H' with
            | some (q', _, _) => ih' q'
            | none => none)
          | e => K e ts' H') = body at h
    let S : Nat → Act → World → Prop := fun n a w => ∃ q, loopN body n q = some r ∧ Inv X B (RL.enc g.roots q.1) (B.R ++ OL.enc g.objs q.2) a w
    have hS0 : ∃ n, S n a w := ⟨k, q, h, hI.formh hkp hRo hd⟩
    have least : ∀ {a : Act} {w : World}, (∃ n, S n a w) → ∃ n, S n a w ∧ ∀ m, S m a w → n ≤ m := by
      intro a w ⟨n, hn⟩
      induction n using Nat.strongRecOn with
      | _ n ihn =>
        by_cases hm : ∃ m, m < n ∧ S m a w
        · obtain ⟨m, hm, hSm⟩ := hm; exact ihn m hm hSm
        · exact ⟨n, hn, fun m hSm => Nat.le_of_not_lt fun hlt => hm ⟨m, hlt, hSm⟩⟩
    let μ : Act → World → Nat := fun a w => open Classical in if hs : ∃ n, S n a w then (least hs).choose else 0
    have hμ : ∀ {a : Act} {w : World} (hs : ∃ n, S n a w), S (μ a w) a w ∧ ∀ m, S m a w → μ a w ≤ m := by
      intro a w hs
      have : μ a w = (least hs).choose := by simp only [μ]; rw [dif_pos hs]
      rw [this]; exact (least hs).choose_spec
    refine wp_loop (fun a w => ∃ n, S n a w) μ hS0 fun a w hs => ?_
    obtain ⟨⟨q, hq, hIq⟩, hmin⟩ := hμ hs
    obtain ⟨m, hm⟩ : ∃ m, μ a w = m + 1 := by
      cases hz : μ a w with
      | zero => rw [hz] at hq; simp [loopN] at hq
      | succ m => exact ⟨m, rfl⟩
    rw [hm] at hq
    have hq' : body q (loopN body m) = some r := hq
    rw [← hb] at hq'
    refine ih ax β _ _ _ r a w _ hq' hIq fun e ts' H' a' w' he hI' => ?_
    cases e with
    | normal =>
      simp only at he
      split at he
      case h_2 => cases he
      rename_i q' Hf' Bf' hd'
      have hS' : S m a' w' := ⟨q', by rw [← hb]; exact he, hI'.formh hkp hRo hd'⟩
      exact ⟨⟨m, hS'⟩, by have := (hμ ⟨m, hS'⟩).2 m hS'; omega⟩
    | exit i => exact hQ (.exit i) ts' H' a' w' he hI'
    | ret => exact hQ .ret ts' H' a' w' he hI'
  | exit id => intro an β ts H K r a w Q h hI hQ; simp only [exec] at h; exact wp_exit (hQ (.exit id) _ _ _ _ h hI)
  | ret => intro an β ts H K r a w Q h hI hQ; simp only [exec] at h; exact wp_ret (hQ .ret _ _ _ _ h hI)
  | _ => intro an β ts H K r a w Q h hI hQ; simp [exec] at h
end
end Go.Proofs.YtaklapcbbdcdpaaDoor.X
