import Derived.Test.YtaklapcbbdcdpaaDoorYC
namespace Go.Proofs.YtaklapcbbdcdpaaDoor.X
open Go Go.RowKit
set_option linter.unusedVariables false
set_option linter.unusedSimpArgs false
/-! A call, for those who know what it answers -/
theorem upd_keys : ∀ (U : Upd) (H : Heap) (l : Nat), (∃ u ∈ U, u.1 = l) → (∀ u ∈ U, ∀ v ∈ U, u.1 = l → v.1 = l → u = v) → l < H.length → ∀ u ∈ U, u.1 = l → (H.upd U).at l = u.2
  | [], H, l, h, _, _, u, hu, _ => by simp at hu
  | (k, o) :: U, H, l, h, huq, hl, u, hu, hul => by
    simp only [Heap.upd]
    by_cases hx : ∃ v ∈ U, v.1 = l
    · obtain ⟨v, hv, hvl⟩ := hx
      have : u = v := huq u hu v (by simp [hv]) hul hvl
      subst this
      exact upd_keys U _ l ⟨u, hv, hvl⟩ (fun a ha b hb => huq a (by simp [ha]) b (by simp [hb])) (by simpa using hl) u hv hul
    · rw [upd_other U _ l fun v hv e => hx ⟨v, hv, e⟩]
      rcases List.mem_cons.1 hu with rfl | hu
      · simp only at hul; subst hul; exact at_set_same hl
      · exact absurd ⟨u, hu, hul⟩ hx
theorem mem_writes {B : Bnd} {σ : Nat → Nat} : ∀ {os : Heap} {j : Nat} {u : Nat × AO}, u ∈ writes B σ j os ↔ ∃ i o, os[i]? = some o ∧ B.get (j + i) = some u.1 ∧ u.2 = o.ren σ
  | [], j, u => by simp [writes]
  | o :: os, j, u => by
    have ih := mem_writes (B := B) (σ := σ) (os := os) (j := j + 1) (u := u)
    have cons : (∃ i o', (o :: os)[i]? = some o' ∧ B.get (j + i) = some u.1 ∧ u.2 = o'.ren σ) ↔ (B.get j = some u.1 ∧ u.2 = o.ren σ) ∨ ∃ i o', os[i]? = some o' ∧ B.get (j + 1 + i) = some u.1 ∧ u.2 = o'.ren σ := by
      constructor
      · rintro ⟨i, o', h1, h2, h3⟩
        cases i with
        | zero => simp at h1; subst h1; exact .inl ⟨h2, h3⟩
        | succ i => exact .inr ⟨i, o', by simpa using h1, by rw [show j + 1 + i = j + (i + 1) by omega]; exact h2, h3⟩
      · rintro (⟨h2, h3⟩ | ⟨i, o', h1, h2, h3⟩)
        · exact ⟨0, o, rfl, h2, h3⟩
        · exact ⟨i + 1, o', by simpa using h1, by rw [show j + (i + 1) = j + 1 + i by omega]; exact h2, h3⟩
    rw [cons]
    simp only [writes]
    split
    · rename_i l hl
      rw [List.mem_cons, ih]
      constructor
      · rintro (rfl | h)
        · exact .inl ⟨hl, rfl⟩
        · exact .inr h
      · rintro (⟨h1, h2⟩ | h)
        · left; rw [hl] at h1; simp only [Option.some.injEq] at h1; obtain ⟨a, b⟩ := u; simp only at h1 h2; rw [h1, h2]
        · exact .inr h
    · rename_i hl
      rw [ih]
      constructor
      · exact .inr
      · rintro (⟨h1, _⟩ | h)
        · rw [hl] at h1; cases h1
        · exact h
theorem mem_ended {H1 : Heap} : ∀ {H : Heap} {i : Nat} {u : Nat × AO}, u ∈ ended H1 i H ↔ u.2 = .dead ∧ ∃ k o, H[k]? = some o ∧ o.isLive = true ∧ H1.at (i + k) = .dead ∧ u.1 = i + k
  | [], i, u => by simp [ended]
  | o :: H, i, u => by
    have ih := mem_ended (H1 := H1) (H := H) (i := i + 1) (u := u)
    have cons : (u.2 = .dead ∧ ∃ k o', (o :: H)[k]? = some o' ∧ o'.isLive = true ∧ H1.at (i + k) = .dead ∧ u.1 = i + k) ↔ (u.2 = .dead ∧ o.isLive = true ∧ H1.at i = .dead ∧ u.1 = i) ∨ (u.2 = .dead ∧ ∃ k o', H[k]? = some o' ∧ o'.isLive = true ∧ H1.at (i + 1 + k) = .dead ∧ u.1 = i + 1 + k) := by
      constructor
      · rintro ⟨h0, k, o', h1, h2, h3, h4⟩
        cases k with
        | zero => simp at h1; subst h1; exact .inl ⟨h0, h2, h3, h4⟩
        | succ k => exact .inr ⟨h0, k, o', by simpa using h1, h2, by rw [show i + 1 + k = i + (k + 1) by omega]; exact h3, by omega⟩
      · rintro (⟨h0, h2, h3, h4⟩ | ⟨h0, k, o', h1, h2, h3, h4⟩)
        · exact ⟨h0, 0, o, rfl, h2, h3, h4⟩
        · exact ⟨h0, k + 1, o', by simpa using h1, h2, by rw [show i + (k + 1) = i + 1 + k by omega]; exact h3, by omega⟩
    rw [cons, ← ih]
    simp only [ended]
    cases o with
    | dead => simp [AO.isLive]
    | cells e cs =>
      cases hH : H1.at i <;> simp [AO.isLive, Prod.ext_iff, and_comm]
    | row e s xs =>
      cases hH : H1.at i <;> simp [AO.isLive, Prod.ext_iff, and_comm]
    | nest e es s xs op =>
      cases hH : H1.at i <;> simp [AO.isLive, Prod.ext_iff, and_comm]
theorem ren_live (σ : Nat → Nat) (o : AO) : (o.ren σ).isLive = o.isLive := by cases o <;> rfl
/-- the places that a form's cells name -/
def C1.locs : C1 → List Nat
  | .ptr l _ => [l]
  | .own l _ => [l]
  | .sl l _ _ _ => [l]
  | .ep l _ _ _ => [l]
  | .fn _ cs => cs.flatMap fun c => match c with
    | .ptr l _ => [l]
    | _ => []
  | _ => []
theorem VL_locs {p : Nat → Prop} : ∀ (vs : List VS) (x : VL.T vs), (∀ j ∈ vs.flatMap VS.refs, p j) → ∀ c ∈ VL.enc vs x, ∀ l ∈ c.locs, p l
  | [], x, _, c, hc => by simp [VL.enc] at hc
  | v :: vs, x, h, c, hc => by
    simp only [VL.enc, List.mem_append] at hc
    rcases hc with hc | hc
    · have hv : ∀ j ∈ v.refs, p j := fun j hj => h j (by simp [hj])
      intro l hl
      cases v with
      | deep s =>
        exfalso
        have : ∀ (s : Sh) (x : s.T), ∀ c ∈ s.avs x, c.locs = [] := by
          intro s
          induction s with
          | pair a b iha ihb =>
            intro x c hc
            simp only [Sh.avs, List.mem_append] at hc
            rcases hc with hc | hc
            · exact iha _ c hc
            · exact ihb _ c hc
          | unit => intro x c hc; simp [Sh.avs] at hc
          | _ => intro x c hc; simp [Sh.avs] at hc; subst hc; rfl
        rw [this s _ c hc] at hl; simp at hl
      | ptr j => simp [VS.enc] at hc; subst hc; simp [C1.locs] at hl; subst hl; exact hv _ (by simp [VS.refs])
      | own j s => simp [VS.enc] at hc; subst hc; simp [C1.locs] at hl; subst hl; exact hv _ (by simp [VS.refs])
      | part j s => simp [VS.enc] at hc; subst hc; simp [C1.locs] at hl; subst hl; exact hv _ (by simp [VS.refs])
      | ep j z => simp [VS.enc] at hc; subst hc; simp [C1.locs] at hl; subst hl; exact hv _ (by simp [VS.refs])
      | nil => simp [VS.enc] at hc; subst hc; simp [C1.locs] at hl
      | fni f k => simp [VS.enc] at hc; subst hc; simp [C1.locs] at hl
      | num k n => simp [VS.enc] at hc; subst hc; simp [C1.locs] at hl
      | fn f js =>
        simp [VS.enc] at hc; subst hc
        simp only [C1.locs, List.mem_flatMap, List.mem_map] at hl
        obtain ⟨c', ⟨j, hj, rfl⟩, hl⟩ := hl
        simp at hl; subst hl
        exact hv _ (by simpa [VS.refs] using hj)
    · exact VL_locs vs x.2 (fun j hj => h j (by simp [hj])) c hc
/-- cells that hold nothing that is read elsewhere, or a reading that serves there as well -/
def C1.plain : C1 → Bool
  | .vsl _ _ => false
  | .vp _ _ _ _ => false
  | .fn _ cs => cs.all fun c => match c with
    | .ptr _ 0 => true
    | .lit _ => true
    | _ => false
  | _ => true
def C1.formed : C1 → Bool
  | .vp _ _ _ _ => false
  | .fn _ cs => cs.all fun c => match c with
    | .ptr _ 0 => true
    | .lit _ => true
    | _ => false
  | _ => true
structure Back (Z Z' : Nat → Prop) (w : World) (H : Heap) (ρ : Rho) (H' : Heap) (ρ' : Rho) (σ : Nat → Nat) (flat : Bool) : Prop where
  A : flat = true ∨ ∀ k, A Z H ρ w k → A Z' H' ρ' w k
  lt : ∀ j, (H.at j).isLive = true → σ j < H'.length
  rho : ∀ j, (H.at j).isLive = true → ρ' (σ j) = ρ j
  dim : ∀ j, (H.at j).isLive = true → ∀ d, (H'.at (σ j)).dim = some d → (H.at j).dim = some d
section
variable {Z Z' : Nat → Prop} {w : World} {H H' : Heap} {ρ ρ' : Rho} {σ : Nat → Nat} {flat : Bool}
theorem Back.V0 (b : Back Z Z' w H ρ H' ρ' σ flat) {c : C1} {v : Value} (hf : c.formed = true) (hp : flat = true → c.plain = true) (hl : ∀ l ∈ c.locs, (H.at l).isLive = true) (h : V0 Z H ρ w c v) : V0 Z' H' ρ' w (c.ren σ) v := by
  cases c with
  | any => trivial
  | lit u => exact h
  | ptr l o =>
    have hv := hl l (by simp [C1.locs])
    obtain ⟨h1, h2, h3⟩ := h
    exact ⟨b.lt l hv, h2, fun _ => by rw [b.rho l hv]; exact h3 hv⟩
  | own l z =>
    have hv := hl l (by simp [C1.locs])
    obtain ⟨h1, h2, h3⟩ := h
    refine ⟨b.lt l hv, h2, fun z2 n2 hr => ?_⟩
    obtain ⟨g1, g2⟩ := h3 _ _ (b.dim l hv _ hr)
    exact ⟨g1, g2.cor (cor_of (b.rho l hv))⟩
  | sl l z o n =>
    have hv := hl l (by simp [C1.locs])
    obtain ⟨h1, h2, h3⟩ := h
    refine ⟨b.lt l hv, h2, fun z2 n2 hr => ?_⟩
    obtain ⟨g1, g2, g3⟩ := h3 _ _ (b.dim l hv _ hr)
    exact ⟨g1, g2, g3.cor (cor_of (b.rho l hv))⟩
  | vsl s xs =>
    rcases b.A with hA | hA
    · have := hp hA; cases this
    · exact R1.mono (fun _ _ => rfl) hA h
  | ep l z i o =>
    have hv := hl l (by simp [C1.locs])
    obtain ⟨h1, h2, h3⟩ := h
    refine ⟨b.lt l hv, h2, fun z2 n2 hr => ?_⟩
    rw [b.rho l hv]; exact h3 _ _ (b.dim l hv _ hr)
  | vp s xs i o => cases hf
  | fn f cs => exact h.elim
theorem Back.V1 (b : Back Z Z' w H ρ H' ρ' σ flat) {c : C1} {v : Value} (hf : c.formed = true) (hp : flat = true → c.plain = true) (hl : ∀ l ∈ c.locs, (H.at l).isLive = true) (h : V1 Z H ρ w c v) : V1 Z' H' ρ' w (c.ren σ) v := by
  cases c with
  | fn f cs =>
    obtain ⟨us, h1, h2⟩ := h
    refine ⟨us, h1, LR.of_map_left (LR.imp_mem (fun c hc u hu => ?_) h2)⟩
    have h3 := List.all_eq_true.1 (show cs.all _ = true from hf) c hc
    cases c with
    | ptr l o => exact b.V0 (c := .ptr l o) rfl (fun _ => rfl) (fun l' hl' => hl l' (by simp only [C1.locs, List.mem_flatMap]; exact ⟨_, hc, hl'⟩)) hu
    | any => simp at h3
    | lit u => exact hu
    | own l z => simp at h3
    | sl l z o n => simp at h3
    | ep l z i o => simp at h3
    | vp s xs i o => simp at h3
    | vsl s xs => simp at h3
    | fn f cs => simp at h3
  | any => trivial
  | lit u => exact h
  | ptr l o => exact b.V0 (c := .ptr l o) hf hp hl h
  | own l z => exact b.V0 (c := .own l z) hf hp hl h
  | sl l z o n => exact b.V0 (c := .sl l z o n) hf hp hl h
  | ep l z i o => exact b.V0 (c := .ep l z i o) hf hp hl h
  | vp s xs i o => exact b.V0 (c := .vp s xs i o) hf hp hl h
  | vsl s xs => exact b.V0 (c := .vsl s xs) hf hp hl h
theorem VL_formed : ∀ (vs : List VS) (x : VL.T vs), ∀ c ∈ VL.enc vs x, c.formed = true ∧ (vs.all VS.flat = true → c.plain = true)
  | [], x, c, hc => by simp [VL.enc] at hc
  | v :: vs, x, c, hc => by
    simp only [VL.enc, List.mem_append] at hc
    rcases hc with hc | hc
    · cases v with
      | deep s =>
        have : ∀ (s : Sh) (x : s.T), ∀ c ∈ s.avs x, c.formed = true ∧ (s.flat = true → c.plain = true) := by
          intro s
          induction s with
          | pair a b iha ihb =>
            intro x c hc
            simp only [Sh.avs, List.mem_append] at hc
            simp only [Sh.flat, Bool.and_eq_true]
            rcases hc with hc | hc
            · exact ⟨(iha _ c hc).1, fun h => (iha _ c hc).2 h.1⟩
            · exact ⟨(ihb _ c hc).1, fun h => (ihb _ c hc).2 h.2⟩
          | unit => intro x c hc; simp [Sh.avs] at hc
          | sl s ih => intro x c hc; simp [Sh.avs] at hc; subst hc; exact ⟨rfl, fun h => by cases h⟩
          | rs r => intro x c hc; simp [Sh.avs] at hc; subst hc; exact ⟨rfl, fun h => by cases h⟩
          | _ => intro x c hc; simp [Sh.avs] at hc; subst hc; exact ⟨rfl, fun _ => rfl⟩
        have h := this s _ c hc
        exact ⟨h.1, fun hh => h.2 (by simp only [List.all_cons, Bool.and_eq_true] at hh; exact hh.1)⟩
      | ptr j => simp [VS.enc] at hc; subst hc; exact ⟨rfl, fun _ => rfl⟩
      | own j s => simp [VS.enc] at hc; subst hc; exact ⟨rfl, fun _ => rfl⟩
      | part j s => simp [VS.enc] at hc; subst hc; exact ⟨rfl, fun _ => rfl⟩
      | ep j z => simp [VS.enc] at hc; subst hc; exact ⟨rfl, fun _ => rfl⟩
      | nil => simp [VS.enc] at hc; subst hc; exact ⟨rfl, fun _ => rfl⟩
      | fni f k => simp [VS.enc] at hc; subst hc; exact ⟨rfl, fun _ => rfl⟩
      | num k n => simp [VS.enc] at hc; subst hc; exact ⟨rfl, fun _ => rfl⟩
      | fn f js => simp [VS.enc] at hc; subst hc; exact ⟨by simp [C1.formed], fun _ => by simp [C1.plain]⟩
    · have h := VL_formed vs x.2 c hc
      exact ⟨h.1, fun hh => h.2 (by simp only [List.all_cons, Bool.and_eq_true] at hh; exact hh.2)⟩
theorem R1_flat {A A' : Nat → Prop} : ∀ (s : Sh), s.flat = true → ∀ (x : s.T) (us : List Value), LR (R1 w A) (s.dv x) us → LR (R1 w A') (s.dv x) us
  | .unit, _, x, us, h => by obtain rfl := LR.nil_inv h; trivial
  | .int k, _, x, us, h => by obtain ⟨u, rfl, h1⟩ := LR.one_inv h; obtain ⟨rfl, h2⟩ := R1.lit_inv h1; exact ⟨.lit h2, trivial⟩
  | .bool, _, x, us, h => by obtain ⟨u, rfl, h1⟩ := LR.one_inv h; obtain ⟨rfl, h2⟩ := R1.lit_inv h1; exact ⟨.lit h2, trivial⟩
  | .str, _, x, us, h => by obtain ⟨u, rfl, h1⟩ := LR.one_inv h; obtain ⟨rfl, h2⟩ := R1.lit_inv h1; exact ⟨.lit h2, trivial⟩
  | .sl s, hf, x, us, h => by cases hf
  | .rs r, hf, x, us, h => by cases hf
  | .pair a b, hf, x, us, h => by
    simp only [Sh.flat, Bool.and_eq_true] at hf
    obtain ⟨u1, u2, rfl, h1, h2⟩ := LR.split (as := a.dv x.1) h
    exact (R1_flat a hf.1 _ _ h1).append (R1_flat b hf.2 _ _ h2)
theorem R1_flats {A A' : Nat → Prop} {s : Sh} (hf : s.flat = true) : ∀ (xs : List s.T) (us : List Value), LR (R1 w A) (xs.flatMap s.dv) us → LR (R1 w A') (xs.flatMap s.dv) us
  | [], us, h => by obtain rfl := LR.nil_inv h; trivial
  | x :: xs, us, h => by
    rw [List.flatMap_cons] at h ⊢
    obtain ⟨u1, u2, rfl, h1, h2⟩ := LR.split (as := s.dv x) h
    exact (R1_flat s hf _ _ h1).append (R1_flats hf _ _ h2)
/-- an object that comes back -/
theorem Back.holds (b : Back Z Z' w H ρ H' ρ' σ flat) {o : OS} {x : o.T} {j : Nat} (hat : H.at j = o.enc x) (hr : ∀ i ∈ o.refs, (H.at i).isLive = true) (hfl : flat = true → o.flat = true) (h : Holds Z H ρ w j (o.enc x)) : Holds Z' H' ρ' w (σ j) ((o.enc x).ren σ) := by
  cases o with
  | gone => trivial
  | cells e vs =>
    have hv : (H.at j).isLive = true := by rw [hat]; rfl
    obtain ⟨p, vals, h1, h2, h3, h4⟩ := h
    refine ⟨p, vals, by rw [b.rho j hv]; exact h1, h2, LR.of_map_left (LR.imp_mem (fun c hc u hu => ?_) h3), ?_⟩
    · have hf := VL_formed vs x c hc
      exact b.V1 hf.1 (fun h => hf.2 (hfl h)) (VL_locs (p := fun l => (H.at l).isLive = true) vs x hr c hc) hu
    · rw [List.all_map, List.all_eq_true]
      intro c hc
      have := List.all_eq_true.1 h4 c hc
      cases c <;> first | rfl | cases this
  | row e s =>
    have hv : (H.at j).isLive = true := by rw [hat]; rfl
    rcases h with ⟨h1, h2⟩ | ⟨p, cur, us, h1, h2, h3, h4, h5, h6, h7⟩
    · exact .inl ⟨h1, by rw [b.rho j hv]; exact h2⟩
    · refine .inr ⟨p, cur, us, by rw [b.rho j hv]; exact h1, h2, h3, h4, h5, h6, ?_⟩
      rcases b.A with hA | hA
      · exact R1_flats (hfl hA) _ _ h7
      · exact h7.imp fun _ _ => R1.mono (fun _ _ => rfl) hA
  | nest e es s =>
    have hv : (H.at j).isLive = true := by rw [hat]; rfl
    rcases h with ⟨h1, h2, h3⟩ | ⟨p, cur, uss, pss, h1, h2⟩
    · exact .inl ⟨h1, h2, by rw [b.rho j hv]; exact h3⟩
    · refine .inr ⟨p, cur, uss, pss, by rw [b.rho j hv]; exact h1, ?_⟩
      rcases b.A with hA | hA
      · have := hfl hA; cases this
      · exact h2.mono (fun _ _ => R1.mono (fun _ _ => rfl) hA) (fun i cs h => by cases h) fun _ _ => rfl
end
end Go.Proofs.YtaklapcbbdcdpaaDoor.X
