import Derived.Test.YtaklapcbbdcdpaaDoorXWb
namespace Go.Proofs.YtaklapcbbdcdpaaDoor.X
open Go Go.RowKit
set_option linter.unusedVariables false
set_option linter.unusedSimpArgs false
/-! A state taken into a form -/
/-- slices let go, rows without elements laid: nothing else -/
structure Frz (H : Heap) (ρ : Rho) (H' : Heap) (ρ' : Rho) : Prop where
  len : H.length ≤ H'.length
  old : ∀ l, l < H.length → ρ' l = ρ l ∧ (H'.at l = H.at l ∨ H'.at l = .dead)
  new : ∀ l, H.length ≤ l → (H'.at l).isLive = true → ρ' l = none
theorem Frz.refl (H : Heap) (ρ : Rho) : Frz H ρ H ρ := ⟨Nat.le_refl _, fun _ _ => ⟨rfl, .inl rfl⟩, fun l h hl => by rw [at_ge h] at hl; cases hl⟩
theorem Frz.trans {H H' H'' : Heap} {ρ ρ' ρ'' : Rho} (a : Frz H ρ H' ρ') (b : Frz H' ρ' H'' ρ'') : Frz H ρ H'' ρ'' := by
  refine ⟨Nat.le_trans a.len b.len, fun l hl => ?_, fun l hl hv => ?_⟩
  · obtain ⟨a1, a2⟩ := a.old l hl
    obtain ⟨b1, b2⟩ := b.old l (Nat.lt_of_lt_of_le hl a.len)
    refine ⟨b1.trans a1, ?_⟩
    rcases b2 with b2 | b2
    · rw [b2]; exact a2
    · exact .inr b2
  · rcases Nat.lt_or_ge l H'.length with h | h
    · obtain ⟨b1, b2⟩ := b.old l h
      rcases b2 with b2 | b2
      · rw [b2] at hv; rw [b1]; exact a.new l hl hv
      · rw [b2] at hv; cases hv
    · exact b.new l h hv
theorem Frz.ext {H H' : Heap} {ρ ρ' : Rho} {w : World} (f : Frz H ρ H' ρ') : Ext H ρ w H' ρ' w := by
  refine ⟨rfl, rfl, rfl, Nat.le_refl _, fun _ _ _ => rfl, ?_, f.len, fun l hl => cor_of (f.old l hl).1, fun l hl hv => ?_, fun l hl d hr => ?_⟩
  · rintro k ⟨l, p, hl, hp, hf⟩
    rcases Nat.lt_or_ge l H.length with h | h
    · obtain ⟨a1, a2⟩ := f.old l h
      rcases a2 with a2 | a2
      · rw [a2] at hl; rw [a1] at hp; exact .inl ⟨l, p, hl, hp, hf⟩
      · rw [a2] at hl; cases hl
    · rw [f.new l h hl] at hp; cases hp
  · rcases (f.old l hl).2 with a2 | a2
    · rwa [a2] at hv
    · rw [a2] at hv; cases hv
  · rcases (f.old l hl).2 with a2 | a2
    · rw [a2] at hr; exact hr
    · rw [a2] at hr; cases hr
theorem Frz.live {H H' : Heap} {ρ ρ' : Rho} (f : Frz H ρ H' ρ') {l : Nat} (hl : l < H.length) (hv : (H'.at l).isLive = true) : H'.at l = H.at l := by
  rcases (f.old l hl).2 with a2 | a2
  · exact a2
  · rw [a2] at hv; cases hv
theorem upd_dead : ∀ (U : Upd) (H : Heap), (∀ u ∈ U, u.2 = .dead) → ∀ l, (H.upd U).at l = H.at l ∨ (H.upd U).at l = .dead
  | [], H, _, l => .inl rfl
  | (k, o) :: U, H, h, l => by
    have ho : o = .dead := h (k, o) (by simp)
    subst ho
    simp only [Heap.upd]
    rcases upd_dead U (H.set k .dead) (fun u hu => h u (by simp [hu])) l with h1 | h1
    · rw [h1]
      by_cases e : k = l
      · subst e
        rcases Nat.lt_or_ge k H.length with h2 | h2
        · right; exact at_set_same h2
        · right; exact at_ge (by simpa using h2)
      · left; exact at_set_ne e
    · exact .inr h1
theorem freeze_dead : ∀ (cs : List C1) (H : Heap), ∀ u ∈ (freeze H cs).2, u.2 = .dead
  | [], H, u, hu => by simp [freeze] at hu
  | c :: cs, H, u, hu => by
    simp only [freeze, List.mem_append] at hu
    rcases hu with hu | hu
    · cases c <;> simp only [freeze1] at hu <;> try (simp at hu; done)
      all_goals (split at hu <;> first | (simp at hu; done) | (simp at hu; subst hu; rfl))
    · exact freeze_dead cs _ u hu
theorem frz_upd (H : Heap) (ρ : Rho) (cs : List C1) : Frz H ρ (H.upd (freeze H cs).2) ρ := by
  refine ⟨by rw [upd_len]; exact Nat.le_refl _, fun l _ => ⟨rfl, upd_dead _ _ (freeze_dead cs H) l⟩, fun l hl hv => ?_⟩
  rw [at_ge (by rw [upd_len]; exact hl)] at hv; cases hv
theorem frz_nil (H : Heap) (ρ : Rho) (o : AO) : Frz H ρ (H ++ [o]) (put ρ H.length none) := by
  refine ⟨by simp, fun l hl => ⟨put_lt ρ _ _ hl, .inl (at_append_lt hl)⟩, fun l hl hv => ?_⟩
  rcases live_app hv with h | rfl
  · omega
  · exact put_same _ _ _
section
variable {Z : Nat → Prop} {ρ : Rho} {w : World}
theorem frz_ok {objs : List OS} {ro : Nat} : ∀ (vs : List VS) (cs : List C1) {H : Heap} {ρ : Rho} (us : List Value), Rel Z H ρ w → LR (V1 Z H ρ w) cs us →
    ∃ ρ', Rel Z (frz H objs ro vs cs).2 ρ' w ∧ Frz H ρ (frz H objs ro vs cs).2 ρ' ∧ (∀ l, l < ro → (frz H objs ro vs cs).2.at l = H.at l ∨ H.length ≤ l) ∧ ∃ us', LR (V1 Z (frz H objs ro vs cs).2 ρ' w) (frz H objs ro vs cs).1 us' ∧ ((frz H objs ro vs cs).1.length = us.length → us' = us) ∧ us' <+: us
  | [], cs, H, ρ, us, hR, hl => ⟨ρ, hR, Frz.refl _ _, fun _ _ => .inl rfl, us, hl, fun _ => rfl, List.prefix_refl _⟩
  | v :: r, [], H, ρ, us, hR, hl => by
    obtain rfl := LR.nil_inv hl
    cases v with
    | deep s =>
      simp only [frz, List.take_nil, freeze, List.all_nil, if_true, Heap.upd, List.drop_nil, List.nil_append]
      exact frz_ok r [] [] hR trivial
    | ptr j => exact ⟨ρ, hR, Frz.refl _ _, fun _ _ => .inl rfl, [], trivial, fun _ => rfl, List.prefix_refl _⟩
    | own j s => exact ⟨ρ, hR, Frz.refl _ _, fun _ _ => .inl rfl, [], trivial, fun _ => rfl, List.prefix_refl _⟩
    | part j s => exact ⟨ρ, hR, Frz.refl _ _, fun _ _ => .inl rfl, [], trivial, fun _ => rfl, List.prefix_refl _⟩
    | fn f js => exact ⟨ρ, hR, Frz.refl _ _, fun _ _ => .inl rfl, [], trivial, fun _ => rfl, List.prefix_refl _⟩
    | ep j z => exact ⟨ρ, hR, Frz.refl _ _, fun _ _ => .inl rfl, [], trivial, fun _ => rfl, List.prefix_refl _⟩
    | nil => exact ⟨ρ, hR, Frz.refl _ _, fun _ _ => .inl rfl, [], trivial, fun _ => rfl, List.prefix_refl _⟩
    | fni f k => exact ⟨ρ, hR, Frz.refl _ _, fun _ _ => .inl rfl, [], trivial, fun _ => rfl, List.prefix_refl _⟩
    | num k n => exact ⟨ρ, hR, Frz.refl _ _, fun _ _ => .inl rfl, [], trivial, fun _ => rfl, List.prefix_refl _⟩
  | v :: r, c :: cs, H, ρ, us, hR, hl => by
    have hl0 := hl
    obtain ⟨u, us', rfl, h1, h2⟩ := LR.cons_inv hl
    have skip : ∃ ρ', Rel Z (frz H objs ro r cs).2 ρ' w ∧ Frz H ρ (frz H objs ro r cs).2 ρ' ∧ (∀ l, l < ro → (frz H objs ro r cs).2.at l = H.at l ∨ H.length ≤ l) ∧ ∃ us'', LR (V1 Z (frz H objs ro r cs).2 ρ' w) (c :: (frz H objs ro r cs).1) us'' ∧ ((c :: (frz H objs ro r cs).1).length = (u :: us').length → us'' = u :: us') ∧ us'' <+: u :: us' := by
      obtain ⟨ρ', k1, k2, k3, us2, k4, k5, k6⟩ := frz_ok (objs := objs) (ro := ro) r cs us' hR h2
      refine ⟨ρ', k1, k2, k3, u :: us2, ⟨k2.ext.V1 h1, k4⟩, fun h => by rw [k5 (by simpa using h)], ?_⟩
      exact List.cons_prefix_cons.2 ⟨rfl, k6⟩
    have bad : ∃ ρ', Rel Z H ρ' w ∧ Frz H ρ H ρ' ∧ (∀ l, l < ro → H.at l = H.at l ∨ H.length ≤ l) ∧ ∃ us'', LR (V1 Z H ρ' w) [] us'' ∧ (([] : List C1).length = (u :: us').length → us'' = u :: us') ∧ us'' <+: u :: us' :=
      ⟨ρ, hR, Frz.refl _ _, fun _ _ => .inl rfl, [], trivial, fun h => by simp at h, List.nil_prefix⟩
    have nil : ∀ {s : Sh} (o : AO), Holds Z (H ++ [o]) (put ρ H.length none) w H.length o → o.dim = some (s.sz, 0) → isNilSl c = true →
        ∃ ρ', Rel Z (frz (H ++ [o]) objs ro r cs).2 ρ' w ∧ Frz H ρ (frz (H ++ [o]) objs ro r cs).2 ρ' ∧ (∀ l, l < ro → (frz (H ++ [o]) objs ro r cs).2.at l = H.at l ∨ H.length ≤ l) ∧ ∃ us'', LR (V1 Z (frz (H ++ [o]) objs ro r cs).2 ρ' w) (.own H.length s.sz :: (frz (H ++ [o]) objs ro r cs).1) us'' ∧ ((C1.own H.length s.sz :: (frz (H ++ [o]) objs ro r cs).1).length = (u :: us').length → us'' = u :: us') ∧ us'' <+: u :: us' := by
      intro s o hho hdim hn
      have hs' := Rel.new (w' := w) hR o none (grown_refl w) (by simp) hho
      have fz := frz_nil H ρ o
      obtain ⟨ρ', k1, k2, k3, us2, k4, k5, k6⟩ := frz_ok (objs := objs) (ro := ro) r cs us' hs' (h2.imp fun _ _ => fz.ext.V1)
      refine ⟨ρ', k1, fz.trans k2, fun l hlo => ?_, u :: us2, ⟨?_, k4⟩, fun h => by rw [k5 (by simpa using h)], List.cons_prefix_cons.2 ⟨rfl, k6⟩⟩
      · rcases Nat.lt_or_ge l H.length with h | h
        · rcases k3 l hlo with h3 | h3
          · left; rw [h3, at_append_lt h]
          · simp at h3; omega
        · exact .inr h
      · refine k2.ext.V1 (c := .own H.length s.sz) ?_
        unfold isNilSl at hn
        split at hn
        case h_2 => cases hn
        obtain ⟨rfl, _⟩ := (h1 : u = _ ∧ _)
        refine ⟨by simp, rfl, fun z2 n2 hat => ?_⟩
        rw [at_new, hdim] at hat
        cases hat
        exact ⟨rfl, .inr ⟨rfl, none, rfl⟩⟩
    cases v with
    | deep s =>
      simp only [frz]
      split
      · rename_i hall
        obtain ⟨f1, f2, f3⟩ := freeze_ok ((c :: cs).take s.sz) ((u :: us').take s.sz) hR (hl0.take _)
        have fz := frz_upd H ρ ((c :: cs).take s.sz)
        obtain ⟨ρ', k1, k2, k3, us2, k4, k5, k6⟩ := frz_ok (objs := objs) (ro := ro) r ((c :: cs).drop s.sz) ((u :: us').drop s.sz) f1 ((hl0.drop s.sz).imp fun _ _ => f2.V1)
        have hlen3 := f3.length
        refine ⟨ρ', k1, fz.trans k2, fun l hlo => ?_, (u :: us').take s.sz ++ us2, (f3.imp fun _ _ => k2.ext.V1).append k4, fun h => ?_, ?_⟩
        · rcases k3 l hlo with h | h
          · left
            rw [h]
            exact upd_other _ _ _ (fun x hx => by
              have := List.all_eq_true.1 hall x hx
              simp only [decide_eq_true_eq] at this
              omega)
          · right; rwa [upd_len] at h
        · have : (frz (H.upd (freeze H ((c :: cs).take s.sz)).2) objs ro r ((c :: cs).drop s.sz)).1.length = ((u :: us').drop s.sz).length := by
            rw [List.length_append, hlen3] at h
            have h5 := congrArg List.length (List.take_append_drop s.sz (u :: us'))
            rw [List.length_append] at h5
            omega
          rw [k5 this, List.take_append_drop]
        · obtain ⟨z, hz⟩ := k6
          refine ⟨z, ?_⟩
          rw [List.append_assoc, hz, List.take_append_drop]
      · exact bad
    | own j s =>
      simp only [frz]
      split
      · rename_i hn
        split
        · rename_i e s' ho
          exact nil _ (.inl ⟨rfl, put_same _ _ _⟩) rfl hn
        · rename_i e es s' ho
          exact nil _ (.inl ⟨rfl, rfl, put_same _ _ _⟩) rfl hn
        · exact bad
      · exact skip
    | ptr j => simp only [frz]; exact skip
    | part j s => simp only [frz]; exact skip
    | fn f js => simp only [frz]; exact skip
    | ep j z => simp only [frz]; exact skip
    | nil => simp only [frz]; exact skip
    | fni f k => simp only [frz]; exact skip
    | num k n => simp only [frz]; exact skip
end
end Go.Proofs.YtaklapcbbdcdpaaDoor.X
