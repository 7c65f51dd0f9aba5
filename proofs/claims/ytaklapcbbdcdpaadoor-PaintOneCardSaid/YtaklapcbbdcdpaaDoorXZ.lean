import Derived.Test.YtaklapcbbdcdpaaDoorXY
namespace Go.Proofs.YtaklapcbbdcdpaaDoor.X
open Go Go.RowKit
set_option linter.unusedVariables false
set_option linter.unusedSimpArgs false
theorem ifsome {α : Type} {c : Bool} {x : Option α} {y : α} (h : (if c = true then x else none) = some y) : c = true ∧ x = some y := by
  cases c with
  | true => exact ⟨rfl, by simpa using h⟩
  | false => simp at h
section
variable {Z : Nat → Prop} {w : World} {ro kp : Nat} {objs : List OS}
theorem stays_trans {H H' H'' : Heap} {ρ ρ' : Rho} (f : Frz H ρ H' ρ') (a : ∀ l, l < ro → H'.at l = H.at l ∨ H.length ≤ l) (b : ∀ l, l < ro → H''.at l = H'.at l ∨ H'.length ≤ l) : ∀ l, l < ro → H''.at l = H.at l ∨ H.length ≤ l := fun l hl => by
  rcases b l hl with b | b
  · rw [b]; exact a l hl
  · right; have := f.len; omega
theorem RL_dec_ok {ts : TS} {val : Nat → Value} : ∀ {rs : List Root} {H : Heap} {ρ : Rho} {B : Bnd} {x : RL.T rs} {H' : Heap} {B' : Bnd}, RL.dec objs ro kp rs ts H B = some (x, H', B') → Rel Z H ρ w → (∀ t, VA Z H ρ w (ts.get t) (val t)) → Bok ro kp B →
    ∃ ρ', Rel Z H' ρ' w ∧ Frz H ρ H' ρ' ∧ (∀ l, l < ro → H'.at l = H.at l ∨ H.length ≤ l) ∧ Bok ro kp B' ∧ Sub B B' ∧
      ∀ (Z' : Nat → Prop) (Hf : Heap) (ρf : Rho) (Hs : Heap) (ρs : Rho) (σ : Nat → Nat) (Bf : Bnd), Frz H' ρ' Hf ρf → Sub B' Bf → Agr ro Bf σ Hs.length → Mt Z Z' w Hf ρf Hs ρs σ → ∀ t, VA Z' Hs ρs w ((RL.enc rs x).get t) (val t)
  | [], H, ρ, B, x, H', B', h, hR, hv, hB => by
    simp only [RL.dec, Option.some.injEq, Prod.mk.injEq] at h
    obtain ⟨_, rfl, rfl⟩ := h
    exact ⟨ρ, hR, Frz.refl _ _, fun _ _ => .inl rfl, hB, fun _ _ h => h, fun _ _ _ _ _ _ _ _ _ _ _ t => trivial⟩
  | r :: rs, H, ρ, B, x, H', B', h, hR, hv, hB => by
    simp only [RL.dec] at h
    split at h
    case h_2 => cases h
    rename_i a ha
    split at h
    case h_2 => cases h
    rename_i cs hcs
    split at h
    case h_2 => cases h
    rename_i y B1 hd
    obtain ⟨hlen, hd⟩ := ifsome hd
    simp only [beq_iff_eq] at hlen
    split at h
    case h_2 => cases h
    rename_i z H2 B2 hrest
    simp only [Option.some.injEq, Prod.mk.injEq] at h
    obtain ⟨rfl, rfl, rfl⟩ := h
    have hva := hv r.t
    rw [ha] at hva
    -- the value's cells
    have hcl : ∃ us, LR (V1 Z H ρ w) cs us ∧ ∀ (Z' : Nat → Prop) (Hs : Heap) (ρs : Rho) (cs' : List C1), LR (V1 Z' Hs ρs w) cs' us → VA Z' Hs ρs w (.v (mkA r.agg cs')) (val r.t) := by
      cases a with
      | one c =>
        simp only [A2.of] at hcs
        split at hcs
        · cases hcs
        · rename_i hag
          simp only [Option.some.injEq] at hcs; subst hcs
          refine ⟨[val r.t], ⟨hva, trivial⟩, fun Z' Hs ρs cs' hl => ?_⟩
          have hl1 := hl.length
          match cs', hl1, hl with
          | [c'], _, hl =>
            simp only [Bool.not_eq_true] at hag
            rw [hag]; exact hl.1
      | agg ds =>
        simp only [A2.of] at hcs
        split at hcs
        · rename_i hag
          simp only [Option.some.injEq] at hcs; subst hcs
          obtain ⟨us, hu, hl⟩ := hva
          refine ⟨us.toList, hl, fun Z' Hs ρs cs' hl' => ?_⟩
          rw [hag]
          have : mkA true cs' = .agg cs' := rfl
          rw [this]
          exact ⟨us, hu, hl'⟩
        · cases hcs
    obtain ⟨us, hl, hback⟩ := hcl
    obtain ⟨ρ1, f1, f2, f3, us', f4, f5, _⟩ := frz_ok (objs := objs) (ro := ro) r.vs cs us hR hl
    have := f5 (by rw [hlen, hl.length])
    subst this
    obtain ⟨k1, k2, _⟩ := VL_dec_ok (Z := Z) (w := w) (H := H) (ρ := ρ) (us := []) hd hB
    obtain ⟨ρ2, m1, m2, m3, m4, m5, m6⟩ := RL_dec_ok (val := val) hrest f1 (fun t => f2.ext.VA (hv t)) k1
    refine ⟨ρ2, m1, f2.trans m2, stays_trans f2 f3 m3, m4, fun j l hj => m5 j l (k2 j l hj), fun Z' Hf ρf Hs ρs σ Bf fz hs ag mt t => ?_⟩
    simp only [RL.enc, get_put]
    split
    · rename_i e
      subst e
      obtain ⟨_, _, k3⟩ := VL_dec_ok (Z := Z) (w := w) (H := Hf) (ρ := ρf) (us := us') hd hB
      refine hback Z' Hs ρs _ (k3 Z' Hs ρs σ ((ag.sub hs).sub m5) mt (f4.imp fun _ _ h => fz.ext.V1 (m2.ext.V1 h)))
    · exact m6 Z' Hf ρf Hs ρs σ Bf fz hs ag mt t
theorem OL_len : ∀ (os : List OS) (y : OL.T os), (OL.enc os y).length = os.length
  | [], _ => rfl
  | o :: os, y => by simp [OL.enc, OL_len os]
theorem VL_storable : ∀ (vs : List VS) (x : VL.T vs), (VL.enc vs x).all storable = true
  | [], _ => rfl
  | v :: vs, x => by
    simp only [VL.enc, List.all_append, Bool.and_eq_true]
    refine ⟨?_, VL_storable vs x.2⟩
    cases v with
    | deep s =>
      simp only [VS.enc]
      generalize x.1 = y
      have : ∀ (s : Sh) (y : s.T), (s.avs y).all storable = true := by
        intro s
        induction s with
        | pair a b iha ihb => intro y; simp only [Sh.avs, List.all_append, Bool.and_eq_true]; exact ⟨iha _, ihb _⟩
        | _ => intro y; simp [Sh.avs, storable]
      exact this s y
    | ptr j => rfl
    | own j s => rfl
    | part j s => rfl
    | fn f js => rfl
    | ep j z => rfl
    | nil => rfl
    | fni f k => rfl
    | num k n => rfl
theorem OL_dec_ok : ∀ {os : List OS} {j : Nat} {H : Heap} {ρ : Rho} {B : Bnd} {y : OL.T os} {H' : Heap} {B' : Bnd}, OL.dec objs ro kp os j H B = some (y, H', B') → Rel Z H ρ w → Bok ro kp B →
    ∃ ρ', Rel Z H' ρ' w ∧ Frz H ρ H' ρ' ∧ (∀ l, l < ro → H'.at l = H.at l ∨ H.length ≤ l) ∧ Bok ro kp B' ∧ Sub B B' ∧
      ∀ (Hf : Heap) (ρf : Rho) (Bf : Bnd), Frz H' ρ' Hf ρf → Sub B' Bf → stillOk Hf Bf os j = true → Rel Z Hf ρf w → ∀ i o, (OL.enc os y)[i]? = some o → o.isLive = true →
        ∃ l, Bf.get (j + i) = some l ∧ (Hf.at l).isLive = true ∧ ((o.dim.isSome = true → Hf.at l = o) ∧ ∀ e cs, o = .cells e cs → ∃ cs', Hf.at l = .cells e cs') ∧
          ∀ (Z' : Nat → Prop) (Hs : Heap) (ρs : Rho) (σ : Nat → Nat), Agr ro Bf σ Hs.length → Mt Z Z' w Hf ρf Hs ρs σ → Hs.at (j + i) = o → Holds Z' Hs ρs w (j + i) o
  | [], j, H, ρ, B, y, H', B', h, hR, hB => by
    simp only [OL.dec, Option.some.injEq, Prod.mk.injEq] at h
    obtain ⟨_, rfl, rfl⟩ := h
    exact ⟨ρ, hR, Frz.refl _ _, fun _ _ => .inl rfl, hB, fun _ _ h => h, fun _ _ _ _ _ _ _ i o ho => by simp [OL.enc] at ho⟩
  | .gone :: os, j, H, ρ, B, y, H', B', h, hR, hB => by
    simp only [OL.dec] at h
    split at h
    case h_2 => cases h
    rename_i z H2 B2 hrest
    simp only [Option.some.injEq, Prod.mk.injEq] at h
    obtain ⟨rfl, rfl, rfl⟩ := h
    obtain ⟨ρ2, m1, m2, m3, m4, m5, m6⟩ := OL_dec_ok hrest hR hB
    refine ⟨ρ2, m1, m2, m3, m4, m5, fun Hf ρf Bf fz hs st hRf i o ho hv => ?_⟩
    cases i with
    | zero => simp [OL.enc, OS.enc] at ho; subst ho; cases hv
    | succ i =>
      have := m6 Hf ρf Bf fz hs (by simpa [stillOk] using st) hRf i o (by simpa [OL.enc] using ho) hv
      rw [show j + (i + 1) = j + 1 + i by omega]; exact this
  | .cells e vs :: os, j, H, ρ, B, y, H', B', h, hR, hB => by
    simp only [OL.dec] at h
    split at h
    case h_2 => cases h
    rename_i l hl
    split at h
    case h_2 => cases h
    rename_i e' cs hat
    split at h
    case isFalse => cases h
    rename_i he
    simp only [beq_iff_eq] at he
    subst he
    split at h
    case h_2 => cases h
    rename_i x B1 hd
    obtain ⟨hlen, hd⟩ := ifsome hd
    simp only [beq_iff_eq] at hlen
    split at h
    case h_2 => cases h
    rename_i z H2 B2 hrest
    simp only [Option.some.injEq, Prod.mk.injEq] at h
    obtain ⟨rfl, rfl, rfl⟩ := h
    have hho := hR.obj l
    rw [hat] at hho
    obtain ⟨p, vals, hp, hw, hL, hst⟩ := hho
    have hlt : l < H.length := at_lt (by rw [hat]; rfl)
    obtain ⟨ρ1, f1, f2, f3, us', f4, f5, _⟩ := frz_ok (objs := objs) (ro := ro) vs cs vals.toList hR hL
    have := f5 (by rw [hlen, hL.length])
    subst this
    obtain ⟨k1, k2, _⟩ := VL_dec_ok (Z := Z) (w := w) (H := H) (ρ := ρ) (us := []) hd hB
    obtain ⟨ρ2, m1, m2, m3, m4, m5, m6⟩ := OL_dec_ok hrest f1 k1
    refine ⟨ρ2, m1, f2.trans m2, stays_trans f2 f3 m3, m4, fun i m hm => m5 i m (k2 i m hm), fun Hf ρf Bf fz hs st hRf i o ho hv => ?_⟩
    have hget : Bf.get j = some l := hs j l (m5 j l (k2 j l hl))
    simp only [stillOk, hget, Bool.and_eq_true] at st
    cases i with
    | zero =>
      simp only [OL.enc, List.getElem?_cons_zero, Option.some.injEq, OS.enc] at ho
      subst ho
      refine ⟨l, hget, st.1, ⟨(fun h => by cases h), fun e2 cs2 h => by cases h; exact ⟨cs, by rw [((f2.trans m2).trans fz).live hlt st.1]; exact hat⟩⟩, fun Z' Hs ρs σ ag mt hHs => ?_⟩
      have hloc := mt.loc j (by rw [Nat.add_zero] at hHs; rw [hHs]; rfl)
      have hσ := ag.hi j l hget
      have hold := ((f2.trans m2).trans fz).old l hlt
      obtain ⟨_, _, k3⟩ := VL_dec_ok (Z := Z) (w := w) (H := Hf) (ρ := ρf) (us := vals.toList) hd hB
      refine ⟨p, vals, ?_, hw, k3 Z' Hs ρs σ ((ag.sub hs).sub m5) mt (f4.imp fun _ _ h => fz.ext.V1 (m2.ext.V1 h)), VL_storable _ _⟩
      rw [Nat.add_zero, hloc.2, hσ, hold.1]; exact hp
    | succ i =>
      have := m6 Hf ρf Bf fz hs st.2 hRf i o (by simpa [OL.enc] using ho) hv
      rw [show j + (i + 1) = j + 1 + i by omega]; exact this
  | .row e s :: os, j, H, ρ, B, y, H', B', h, hR, hB => by
    simp only [OL.dec] at h
    split at h
    case h_2 => cases h
    rename_i l hl
    split at h
    case h_2 => cases h
    rename_i e' s' xs hat
    split at h
    case isFalse => cases h
    rename_i hss
    subst hss
    split at h
    case isFalse => cases h
    rename_i he
    simp only [beq_iff_eq] at he
    subst he
    split at h
    case h_2 => cases h
    rename_i z H2 B2 hrest
    simp only [Option.some.injEq, Prod.mk.injEq] at h
    obtain ⟨rfl, rfl, rfl⟩ := h
    have hlt : l < H.length := at_lt (by rw [hat]; rfl)
    obtain ⟨ρ2, m1, m2, m3, m4, m5, m6⟩ := OL_dec_ok hrest hR hB
    refine ⟨ρ2, m1, m2, m3, m4, m5, fun Hf ρf Bf fz hs st hRf i o ho hv => ?_⟩
    have hget : Bf.get j = some l := hs j l (m5 j l hl)
    simp only [stillOk, hget, Bool.and_eq_true] at st
    cases i with
    | zero =>
      simp only [OL.enc, List.getElem?_cons_zero, Option.some.injEq, OS.enc] at ho
      subst ho
      have hHf : Hf.at l = .row e' s' xs := by rw [(m2.trans fz).live hlt st.1]; exact hat
      refine ⟨l, hget, st.1, ⟨(fun _ => hHf), fun e2 cs2 h => by cases h⟩, fun Z' Hs ρs σ ag mt hHs => ?_⟩
      have hloc := mt.loc j (by rw [Nat.add_zero] at hHs; rw [hHs]; rfl)
      have hσ := ag.hi j l hget
      have hho := hRf.obj l
      rw [hHf] at hho
      rw [Nat.add_zero]
      rcases hho with ⟨h1, h2⟩ | ⟨p, cur, us, h1, h2, h3, h4, h5, h6, h7⟩
      · exact .inl ⟨h1, by rw [hloc.2, hσ]; exact h2⟩
      · exact .inr ⟨p, cur, us, by rw [hloc.2, hσ]; exact h1, h2, h3, h4, h5, h6, h7.imp fun _ _ => mt.R1⟩
    | succ i =>
      have := m6 Hf ρf Bf fz hs st.2 hRf i o (by simpa [OL.enc] using ho) hv
      rw [show j + (i + 1) = j + 1 + i by omega]; exact this
  | .nest e es s :: os, j, H, ρ, B, y, H', B', h, hR, hB => by
    simp only [OL.dec] at h
    split at h
    case h_2 => cases h
    rename_i l hl
    split at h
    case h_2 => cases h
    rename_i e' es' s' xs hat
    split at h
    case isFalse => cases h
    rename_i hss
    subst hss
    split at h
    case isFalse => cases h
    rename_i he
    simp only [Bool.and_eq_true, beq_iff_eq] at he
    obtain ⟨rfl, rfl⟩ := he
    split at h
    case h_2 => cases h
    rename_i z H2 B2 hrest
    simp only [Option.some.injEq, Prod.mk.injEq] at h
    obtain ⟨rfl, rfl, rfl⟩ := h
    have hlt : l < H.length := at_lt (by rw [hat]; rfl)
    obtain ⟨ρ2, m1, m2, m3, m4, m5, m6⟩ := OL_dec_ok hrest hR hB
    refine ⟨ρ2, m1, m2, m3, m4, m5, fun Hf ρf Bf fz hs st hRf i o ho hv => ?_⟩
    have hget : Bf.get j = some l := hs j l (m5 j l hl)
    simp only [stillOk, hget, Bool.and_eq_true] at st
    cases i with
    | zero =>
      simp only [OL.enc, List.getElem?_cons_zero, Option.some.injEq, OS.enc] at ho
      subst ho
      have hHf : Hf.at l = .nest e' es' s' xs none := by rw [(m2.trans fz).live hlt st.1]; exact hat
      refine ⟨l, hget, st.1, ⟨(fun _ => hHf), fun e2 cs2 h => by cases h⟩, fun Z' Hs ρs σ ag mt hHs => ?_⟩
      have hloc := mt.loc j (by rw [Nat.add_zero] at hHs; rw [hHs]; rfl)
      have hσ := ag.hi j l hget
      have hho := hRf.obj l
      rw [hHf] at hho
      rw [Nat.add_zero]
      rcases hho with ⟨h1, h2, h3⟩ | ⟨p, cur, uss, pss, h1, h2⟩
      · exact .inl ⟨h1, h2, by rw [hloc.2, hσ]; exact h3⟩
      · exact .inr ⟨p, cur, uss, pss, by rw [hloc.2, hσ]; exact h1, h2.mono (fun _ _ => mt.R1) (fun i cs h => by cases h) fun _ _ => rfl⟩
    | succ i =>
      have := m6 Hf ρf Bf fz hs st.2 hRf i o (by simpa [OL.enc] using ho) hv
      rw [show j + (i + 1) = j + 1 + i by omega]; exact this
end
end Go.Proofs.YtaklapcbbdcdpaaDoor.X
