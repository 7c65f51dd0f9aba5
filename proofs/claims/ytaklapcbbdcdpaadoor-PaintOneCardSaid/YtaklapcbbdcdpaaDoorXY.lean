import Derived.Test.YtaklapcbbdcdpaaDoorXX
namespace Go.Proofs.YtaklapcbbdcdpaaDoor.X
open Go Go.RowKit
set_option linter.unusedVariables false
set_option linter.unusedSimpArgs false
structure Bok (ro kp : Nat) (B : Bnd) : Prop where
  key : ∀ j l, B.get j = some l → ro ≤ j ∧ ro ≤ l
  inj : ∀ j j' l, B.get j = some l → B.get j' = some l → j = j'
  kp : ∀ j l, B.get j = some l → j < kp → l = j
def Sub (B B' : Bnd) : Prop := ∀ j l, B.get j = some l → B'.get j = some l
theorem has_false : ∀ {B : Bnd} {l : Nat}, B.has l = false → ∀ j, B.get j ≠ some l
  | [], l, _, j => by simp [Bnd.get]
  | (i, m) :: r, l, h, j => by
    simp only [Bnd.has, Bool.or_eq_false_iff, beq_eq_false_iff_ne] at h
    simp only [Bnd.get]
    split
    · intro e; cases e; exact h.1 rfl
    · exact has_false h.2 j
theorem bnd_ok {ro kp : Nat} {B B' : Bnd} {j l : Nat} (h : bnd ro kp B j l = some B') (hB : Bok ro kp B) : Bok ro kp B' ∧ Sub B B' ∧ ((j < ro ∧ l = j) ∨ B'.get j = some l) := by
  unfold bnd at h
  split at h
  · rename_i h1
    simp only [decide_eq_true_eq] at h1
    split at h
    · rename_i h2
      simp only [beq_iff_eq] at h2
      simp only [Option.some.injEq] at h; subst h
      exact ⟨hB, fun _ _ h => h, .inl ⟨h1, h2.symm⟩⟩
    · cases h
  · rename_i h1
    simp only [decide_eq_true_eq] at h1
    split at h
    · cases h
    · rename_i h2
      simp only [decide_eq_true_eq] at h2
      split at h
      · cases h
      · rename_i h3
        simp only [Bool.and_eq_true, decide_eq_true_eq, bne_iff_ne, ne_eq, not_and, Classical.not_not] at h3
        split at h
        · rename_i l' h4
          split at h
          · rename_i h5
            simp only [beq_iff_eq] at h5
            simp only [Option.some.injEq] at h; subst h h5
            exact ⟨hB, fun _ _ h => h, .inr h4⟩
          · cases h
        · rename_i h4
          split at h
          · cases h
          · rename_i h5
            simp only [Bool.not_eq_true] at h5
            simp only [Option.some.injEq] at h; subst h
            have hf := has_false h5
            have gt : ∀ i m, Bnd.get ((j, l) :: B) i = some m → (i = j ∧ m = l) ∨ (B.get i = some m) := fun i m hm => by
              simp only [Bnd.get] at hm
              split at hm
              · rename_i e; simp only [beq_iff_eq] at e; simp only [Option.some.injEq] at hm; exact .inl ⟨e.symm, hm.symm⟩
              · exact .inr hm
            refine ⟨⟨fun i m hm => ?_, fun i i' m hm hm' => ?_, fun i m hm hi => ?_⟩, fun i m hm => ?_, .inr (by simp [Bnd.get])⟩
            · rcases gt i m hm with ⟨rfl, rfl⟩ | hm
              · exact ⟨by omega, by omega⟩
              · exact hB.key i m hm
            · rcases gt i m hm with ⟨e1, e2⟩ | hm1
              · rcases gt i' m hm' with ⟨e3, _⟩ | hm1'
                · rw [e1, e3]
                · subst e2; exact absurd hm1' (hf _)
              · rcases gt i' m hm' with ⟨e3, e4⟩ | hm1'
                · subst e4; exact absurd hm1 (hf _)
                · exact hB.inj i i' m hm1 hm1'
            · rcases gt i m hm with ⟨rfl, rfl⟩ | hm
              · exact (h3 hi).symm
              · exact hB.kp i m hm hi
            · simp only [Bnd.get]
              split
              · rename_i e; simp only [beq_iff_eq] at e; subst e; rw [h4] at hm; cases hm
              · exact hm
/-- where the form's places lie -/
structure Agr (ro : Nat) (B : Bnd) (σ : Nat → Nat) (n : Nat) : Prop where
  lo : ∀ j, j < ro → σ j = j
  hi : ∀ j l, B.get j = some l → σ j = l
  lo' : ro ≤ n
  hi' : ∀ j l, B.get j = some l → j < n
theorem Agr.sub {ro : Nat} {B B' : Bnd} {σ : Nat → Nat} {n : Nat} (h : Agr ro B' σ n) (hs : Sub B B') : Agr ro B σ n := ⟨h.lo, fun j l hj => h.hi j l (hs j l hj), h.lo', fun j l hj => h.hi' j l (hs j l hj)⟩
structure Mt (Z Z' : Nat → Prop) (w : World) (H : Heap) (ρ : Rho) (H' : Heap) (ρ' : Rho) (σ : Nat → Nat) : Prop where
  A : ∀ k, A Z H ρ w k → A Z' H' ρ' w k
  loc : ∀ j, (H'.at j).isLive = true → (H.at (σ j)).isLive = true ∧ ρ' j = ρ (σ j)
  dim : ∀ j d, (H'.at j).dim = some d → (H.at (σ j)).dim = some d
section
variable {Z Z' : Nat → Prop} {w : World} {H H' : Heap} {ρ ρ' : Rho} {σ : Nat → Nat} {ro kp : Nat}
theorem Mt.R1 (m : Mt Z Z' w H ρ H' ρ' σ) {d : DV} {v : Value} (h : R1 w (X.A Z H ρ w) d v) : R1 w (X.A Z' H' ρ' w) d v := h.mono (fun _ _ => rfl) m.A
theorem Mt.ptr (m : Mt Z Z' w H ρ H' ρ' σ) {j l off : Nat} {v : Value} (hσ : σ j = l) (hj : j < H'.length) (h : V0 Z H ρ w (.ptr l off) v) : V0 Z' H' ρ' w (.ptr j off) v := by
  obtain ⟨h1, h2, h3⟩ := h
  refine ⟨hj, h2, fun hl => ?_⟩
  obtain ⟨k1, k2⟩ := m.loc j hl
  rw [hσ] at k1 k2
  rw [k2]; exact h3 k1
theorem Mt.own (m : Mt Z Z' w H ρ H' ρ' σ) {j l z : Nat} {v : Value} (hσ : σ j = l) (hj : j < H'.length) (h : V0 Z H ρ w (.own l z) v) : V0 Z' H' ρ' w (.own j z) v := by
  obtain ⟨h1, h2, h3⟩ := h
  refine ⟨hj, h2, fun z2 n2 hr => ?_⟩
  obtain ⟨k1, k2⟩ := m.loc j (dim_live hr)
  have k3 := m.dim j _ hr
  rw [hσ] at k2 k3
  obtain ⟨g1, g2⟩ := h3 _ _ k3
  exact ⟨g1, g2.cor (cor_of k2)⟩
theorem Mt.ep (m : Mt Z Z' w H ρ H' ρ' σ) {j l z i o : Nat} {v : Value} (hσ : σ j = l) (hj : j < H'.length) (h : V0 Z H ρ w (.ep l z i o) v) : V0 Z' H' ρ' w (.ep j z i o) v := by
  obtain ⟨h1, h2, h3⟩ := h
  refine ⟨hj, h2, fun z2 n2 hr => ?_⟩
  obtain ⟨k1, k2⟩ := m.loc j (dim_live hr)
  have k3 := m.dim j _ hr
  rw [hσ] at k2 k3
  rw [k2]; exact h3 _ _ k3
theorem Mt.part (m : Mt Z Z' w H ρ H' ρ' σ) {j l z o n : Nat} {v : Value} (hσ : σ j = l) (hj : j < H'.length) (h : V0 Z H ρ w (.sl l z o n) v) : V0 Z' H' ρ' w (.sl j z o n) v := by
  obtain ⟨h1, h2, h3⟩ := h
  refine ⟨hj, h2, fun z2 n2 hr => ?_⟩
  obtain ⟨k1, k2⟩ := m.loc j (dim_live hr)
  have k3 := m.dim j _ hr
  rw [hσ] at k2 k3
  obtain ⟨g1, g2, g3⟩ := h3 _ _ k3
  exact ⟨g1, g2, g3.cor (cor_of k2)⟩
theorem Agr.at {B : Bnd} {n j l : Nat} (a : Agr ro B σ n) (h : (j < ro ∧ l = j) ∨ B.get j = some l) : σ j = l ∧ j < n := by
  rcases h with ⟨h1, rfl⟩ | h
  · exact ⟨a.lo _ h1, Nat.lt_of_lt_of_le h1 a.lo'⟩
  · exact ⟨a.hi _ _ h, a.hi' _ _ h⟩
theorem bnds_ok : ∀ {js : List Nat} {cs : List C1} {B B' : Bnd} {us : List Value}, bnds ro kp B js cs = some B' → Bok ro kp B → Bok ro kp B' ∧ Sub B B' ∧
    (∀ (Z' : Nat → Prop) (H' : Heap) (ρ' : Rho) (σ : Nat → Nat), Agr ro B' σ H'.length → Mt Z Z' w H ρ H' ρ' σ → LR (V0 Z H ρ w) cs us → LR (V0 Z' H' ρ' w) (js.map fun j => .ptr j 0) us)
  | [], [], B, B', us, h, hB => by
    simp only [bnds, Option.some.injEq] at h; subst h
    exact ⟨hB, fun _ _ h => h, fun _ _ _ _ _ _ h => by obtain rfl := LR.nil_inv h; trivial⟩
  | j :: js, .ptr l 0 :: cs, B, B', us, h, hB => by
    simp only [bnds] at h
    split at h
    case h_2 => cases h
    rename_i B1 h1
    obtain ⟨k1, k2, k3⟩ := bnd_ok h1 hB
    cases us with
    | nil =>
      obtain ⟨m1, m2, _⟩ := bnds_ok (us := []) h k1
      exact ⟨m1, fun i m hm => m2 i m (k2 i m hm), fun _ _ _ _ _ _ h => h.elim⟩
    | cons u us =>
      obtain ⟨m1, m2, m3⟩ := bnds_ok (us := us) h k1
      refine ⟨m1, fun i m hm => m2 i m (k2 i m hm), fun Z' H' ρ' σ a m hl => ?_⟩
      obtain ⟨a1, a2⟩ := (a.sub m2).at k3
      exact ⟨m.ptr a1 a2 hl.1, m3 Z' H' ρ' σ a m hl.2⟩
  | [], c :: cs, B, B', us, h, hB => by simp [bnds] at h
  | j :: js, [], B, B', us, h, hB => by simp [bnds] at h
  | j :: js, .any :: cs, B, B', us, h, hB => by simp [bnds] at h
  | j :: js, .lit u :: cs, B, B', us, h, hB => by simp [bnds] at h
  | j :: js, .ptr l (o + 1) :: cs, B, B', us, h, hB => by simp [bnds] at h
  | j :: js, .ep l z i o :: cs, B, B', us, h, hB => by simp [bnds] at h
  | j :: js, .vp s xs i o :: cs, B, B', us, h, hB => by simp [bnds] at h
  | j :: js, .own l z :: cs, B, B', us, h, hB => by simp [bnds] at h
  | j :: js, .sl l z i o :: cs, B, B', us, h, hB => by simp [bnds] at h
  | j :: js, .vsl s xs :: cs, B, B', us, h, hB => by simp [bnds] at h
  | j :: js, .fn f as :: cs, B, B', us, h, hB => by simp [bnds] at h
theorem VS_dec_ok {v : VS} {cs : List C1} {B B' : Bnd} {x : v.T} {r : List C1} {us : List Value} (h : v.dec ro kp cs B = some (x, r, B')) (hB : Bok ro kp B) : Bok ro kp B' ∧ Sub B B' ∧
    (∀ (Z' : Nat → Prop) (H' : Heap) (ρ' : Rho) (σ : Nat → Nat), Agr ro B' σ H'.length → Mt Z Z' w H ρ H' ρ' σ → LR (V1 Z H ρ w) cs us → ∃ u1 u2, us = u1 ++ u2 ∧ LR (V1 Z' H' ρ' w) (v.enc x) u1 ∧ LR (V1 Z H ρ w) r u2) := by
  unfold VS.dec at h
  split at h
  · rename_i s
    split at h
    case h_2 => cases h
    rename_i y r' hd
    simp only [Option.some.injEq, Prod.mk.injEq] at h
    obtain ⟨rfl, rfl, rfl⟩ := h
    refine ⟨hB, fun _ _ h => h, fun Z' H' ρ' σ a m hl => ?_⟩
    obtain ⟨u1, u2, rfl, h1, h2⟩ := R1_of_V1 s _ _ _ us hd hl
    exact ⟨u1, u2, rfl, V1_of_R1 s _ _ (h1.imp fun _ _ => m.R1), h2⟩
  · rename_i j l cs'
    split at h
    case h_2 => cases h
    rename_i B1 h1
    simp only [Option.some.injEq, Prod.mk.injEq] at h
    obtain ⟨_, rfl, rfl⟩ := h
    obtain ⟨k1, k2, k3⟩ := bnd_ok h1 hB
    refine ⟨k1, k2, fun Z' H' ρ' σ a m hl => ?_⟩
    obtain ⟨u, us', rfl, g1, g2⟩ := LR.cons_inv hl
    obtain ⟨a1, a2⟩ := a.at k3
    exact ⟨[u], us', rfl, ⟨m.ptr a1 a2 g1, trivial⟩, g2⟩
  · rename_i j s l z cs'
    split at h
    case isFalse => cases h
    rename_i hz
    simp only [beq_iff_eq] at hz
    subst hz
    split at h
    case h_2 => cases h
    rename_i B1 h1
    simp only [Option.some.injEq, Prod.mk.injEq] at h
    obtain ⟨_, rfl, rfl⟩ := h
    obtain ⟨k1, k2, k3⟩ := bnd_ok h1 hB
    refine ⟨k1, k2, fun Z' H' ρ' σ a m hl => ?_⟩
    obtain ⟨u, us', rfl, g1, g2⟩ := LR.cons_inv hl
    obtain ⟨a1, a2⟩ := a.at k3
    exact ⟨[u], us', rfl, ⟨m.own a1 a2 g1, trivial⟩, g2⟩
  · rename_i j s l z o n cs'
    split at h
    case isFalse => cases h
    rename_i hz
    simp only [beq_iff_eq] at hz
    subst hz
    split at h
    case h_2 => cases h
    rename_i B1 h1
    simp only [Option.some.injEq, Prod.mk.injEq] at h
    obtain ⟨rfl, rfl, rfl⟩ := h
    obtain ⟨k1, k2, k3⟩ := bnd_ok h1 hB
    refine ⟨k1, k2, fun Z' H' ρ' σ a m hl => ?_⟩
    obtain ⟨u, us', rfl, g1, g2⟩ := LR.cons_inv hl
    obtain ⟨a1, a2⟩ := a.at k3
    exact ⟨[u], us', rfl, ⟨m.part a1 a2 g1, trivial⟩, g2⟩
  · rename_i f js f' as cs'
    split at h
    case isFalse => cases h
    rename_i hz
    simp only [beq_iff_eq] at hz
    subst hz
    split at h
    case h_2 => cases h
    rename_i B1 h1
    simp only [Option.some.injEq, Prod.mk.injEq] at h
    obtain ⟨_, rfl, rfl⟩ := h
    obtain ⟨k1, k2, _⟩ := bnds_ok (Z := Z) (w := w) (H := H) (ρ := ρ) (us := []) h1 hB
    refine ⟨k1, k2, fun Z' H' ρ' σ a m hl => ?_⟩
    obtain ⟨u, us', rfl, g1, g2⟩ := LR.cons_inv hl
    obtain ⟨vs, hv, g3⟩ := g1
    obtain ⟨_, _, k3⟩ := bnds_ok (Z := Z) (w := w) (H := H) (ρ := ρ) (us := vs.toList) h1 hB
    exact ⟨[u], us', rfl, ⟨⟨vs, hv, k3 Z' H' ρ' σ a m g3⟩, trivial⟩, g2⟩
  · rename_i j z l z' i cs'
    split at h
    case isFalse => cases h
    rename_i hz
    simp only [beq_iff_eq] at hz
    subst hz
    split at h
    case h_2 => cases h
    rename_i B1 h1
    simp only [Option.some.injEq, Prod.mk.injEq] at h
    obtain ⟨rfl, rfl, rfl⟩ := h
    obtain ⟨k1, k2, k3⟩ := bnd_ok h1 hB
    refine ⟨k1, k2, fun Z' H' ρ' σ a m hl => ?_⟩
    obtain ⟨u, us', rfl, g1, g2⟩ := LR.cons_inv hl
    obtain ⟨a1, a2⟩ := a.at k3
    exact ⟨[u], us', rfl, ⟨m.ep a1 a2 g1, trivial⟩, g2⟩
  · rename_i cs'
    simp only [Option.some.injEq, Prod.mk.injEq] at h
    obtain ⟨_, rfl, rfl⟩ := h
    refine ⟨hB, fun _ _ h => h, fun Z' H' ρ' σ a m hl => ?_⟩
    obtain ⟨u, us', rfl, g1, g2⟩ := LR.cons_inv hl
    exact ⟨[u], us', rfl, ⟨g1, trivial⟩, g2⟩
  · rename_i f k f' k' n cs'
    split at h
    case isFalse => cases h
    rename_i hf
    simp only [Bool.and_eq_true, beq_iff_eq, decide_eq_true_eq] at hf
    obtain ⟨rfl, rfl⟩ := hf
    simp only [Option.some.injEq, Prod.mk.injEq] at h
    obtain ⟨rfl, rfl, rfl⟩ := h
    refine ⟨hB, fun _ _ h => h, fun Z' H' ρ' σ a m hl => ?_⟩
    obtain ⟨u, us', rfl, g1, g2⟩ := LR.cons_inv hl
    obtain ⟨vs, hv, g3⟩ := g1
    obtain ⟨y, hy, g4⟩ := LR.one_inv g3
    exact ⟨[u], us', rfl, ⟨⟨vs, hv, by rw [hy]; exact ⟨g4, trivial⟩⟩, trivial⟩, g2⟩
  · rename_i k n k' n' cs'
    split at h
    case isFalse => cases h
    rename_i hf
    simp only [Bool.and_eq_true, decide_eq_true_eq] at hf
    obtain ⟨rfl, rfl⟩ := hf
    simp only [Option.some.injEq, Prod.mk.injEq] at h
    obtain ⟨_, rfl, rfl⟩ := h
    refine ⟨hB, fun _ _ h => h, fun Z' H' ρ' σ a m hl => ?_⟩
    obtain ⟨u, us', rfl, g1, g2⟩ := LR.cons_inv hl
    exact ⟨[u], us', rfl, ⟨g1, trivial⟩, g2⟩
  · cases h
theorem VL_dec_ok : ∀ {vs : List VS} {cs : List C1} {B B' : Bnd} {x : VL.T vs} {us : List Value}, VL.dec ro kp vs cs B = some (x, B') → Bok ro kp B → Bok ro kp B' ∧ Sub B B' ∧
    (∀ (Z' : Nat → Prop) (H' : Heap) (ρ' : Rho) (σ : Nat → Nat), Agr ro B' σ H'.length → Mt Z Z' w H ρ H' ρ' σ → LR (V1 Z H ρ w) cs us → LR (V1 Z' H' ρ' w) (VL.enc vs x) us)
  | [], [], B, B', x, us, h, hB => by
    simp only [VL.dec, Option.some.injEq, Prod.mk.injEq] at h
    obtain ⟨_, rfl⟩ := h
    exact ⟨hB, fun _ _ h => h, fun _ _ _ _ _ _ h => by obtain rfl := LR.nil_inv h; trivial⟩
  | [], _ :: _, B, B', x, us, h, hB => by simp [VL.dec] at h
  | v :: vs, cs, B, B', x, us, h, hB => by
    simp only [VL.dec] at h
    split at h
    case h_2 => cases h
    rename_i y cs1 B1 h1
    split at h
    case h_2 => cases h
    rename_i z B2 h2
    simp only [Option.some.injEq, Prod.mk.injEq] at h
    obtain ⟨rfl, rfl⟩ := h
    obtain ⟨k1, k2, _⟩ := VS_dec_ok (Z := Z) (w := w) (H := H) (ρ := ρ) (us := us) h1 hB
    obtain ⟨m1, m2, _⟩ := VL_dec_ok (us := us) h2 k1
    refine ⟨m1, fun i m hm => m2 i m (k2 i m hm), fun Z' H' ρ' σ a m hl => ?_⟩
    obtain ⟨_, _, k3⟩ := VS_dec_ok (Z := Z) (w := w) (H := H) (ρ := ρ) (us := us) h1 hB
    obtain ⟨u1, u2, rfl, g1, g2⟩ := k3 Z' H' ρ' σ (a.sub m2) m hl
    obtain ⟨_, _, m3⟩ := VL_dec_ok (us := u2) h2 k1
    exact g1.append (m3 Z' H' ρ' σ a m g2)
end
end Go.Proofs.YtaklapcbbdcdpaaDoor.X
