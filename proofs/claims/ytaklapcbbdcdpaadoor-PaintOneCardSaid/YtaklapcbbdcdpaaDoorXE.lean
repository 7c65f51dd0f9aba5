import Derived.Test.YtaklapcbbdcdpaaDoorXD
namespace Go.Proofs.YtaklapcbbdcdpaaDoor.X
open Go Go.RowKit
set_option linter.unusedVariables false
set_option linter.unusedSimpArgs false

theorem at_append_lt {H : Heap} {o : Heap} {l : Nat} (h : l < H.length) : Heap.at (H ++ o) l = H.at l := by
  simp [Heap.at, List.getD_eq_getElem?_getD, List.getElem?_append_left h]
theorem at_new {H : Heap} {o : AO} : Heap.at (H ++ [o]) H.length = o := by
  simp [Heap.at, List.getD_eq_getElem?_getD]
theorem at_ge {H : Heap} {l : Nat} (h : H.length ≤ l) : H.at l = .dead := by
  simp [Heap.at, List.getD_eq_getElem?_getD, List.getElem?_eq_none h]
theorem at_set_same {H : Heap} {o : AO} {l : Nat} (h : l < H.length) : Heap.at (H.set l o) l = o := by
  simp [Heap.at, List.getD_eq_getElem?_getD, h]
theorem at_set_ne {H : Heap} {o : AO} {l k : Nat} (h : l ≠ k) : Heap.at (H.set l o) k = H.at k := by
  simp [Heap.at, List.getD_eq_getElem?_getD, List.getElem?_set_ne h]
def put (ρ : Rho) (n : Nat) (q : Option Pl) : Rho := fun l => if l = n then q else ρ l
theorem put_same (ρ : Rho) (n : Nat) (q : Option Pl) : put ρ n q n = q := by simp [put]
theorem put_lt (ρ : Rho) (n : Nat) (q : Option Pl) {l : Nat} (h : l < n) : put ρ n q l = ρ l := by simp [put]; omega
theorem live_app {H : Heap} {o : AO} {l : Nat} (h : (Heap.at (H ++ [o]) l).isLive = true) : l < H.length ∨ l = H.length := by
  have := at_lt h; simp at this; omega
theorem dead_of {H : Heap} {l : Nat} (h : ¬ (H.at l).isLive = true) : H.at l = .dead := by
  cases hc : H.at l <;> simp [hc, AO.isLive] at h ⊢

section
variable {Z : Nat → Prop} {H : Heap} {ρ : Rho} {w w' : World}
/-- a place without slices of its own behind it -/
abbrev Pl.new (b base cap : Nat) : Pl := ⟨b, base, cap, fun _ => False⟩
theorem new_foot {b base cap k : Nat} (h : (Pl.new b base cap).foot k) : b = k := h.elim id fun h => h.elim
/-- a new object in a new block (or in none) -/
theorem Ext.new (o : AO) (q : Option Pl) (g : w.grownBy w' none) (hq0 : ∀ p, q = some p → w.heap.size ≤ p.b ∧ ∀ k, ¬ p.inn k) : Ext H ρ w (H ++ [o]) (put ρ H.length q) w' := by
  have hq : ∀ p k, q = some p → p.foot k → w.heap.size ≤ k := fun p k hp hk => hk.elim (fun e => e ▸ (hq0 p hp).1) fun h => absurd h ((hq0 p hp).2 k)
  refine ⟨g.os, g.tape, g.output, g.size, fun k hk _ => g.block k hk (by simp), ?_, by simp, fun l hl => cor_of (put_lt ρ _ q hl), fun l hl hv => by rwa [at_append_lt hl] at hv, fun l hl d hr => ?_⟩
  · rintro k ⟨l, p, hl, hp, hk⟩
    rcases live_app hl with h | rfl
    · rw [at_append_lt h] at hl; rw [put_lt ρ _ q h] at hp
      exact .inl ⟨l, p, hl, hp, hk⟩
    · rw [put_same] at hp; exact .inr (hq p k hp hk)
  · rw [at_append_lt hl] at hr; exact hr
theorem Rel.new (h : Rel Z H ρ w) (o : AO) (q : Option Pl) (g : w.grownBy w' none) (hq : ∀ p, q = some p → w.heap.size ≤ p.b ∧ ∀ k, ¬ p.inn k) (ho : Holds Z (H ++ [o]) (put ρ H.length q) w' H.length o) : Rel Z (H ++ [o]) (put ρ H.length q) w' := by
  have hq' : ∀ p k, q = some p → p.foot k → w.heap.size ≤ k := fun p k hp hk => hk.elim (fun e => e ▸ (hq p hp).1) fun h => absurd h ((hq p hp).2 k)
  refine h.step (Ext.new o q g hq) (fun l hl => ?_) (fun l l' p p' k h1 hl hl' hp hp' hb hb' => ?_)
  · rcases live_app hl with h1 | rfl
    · rw [at_append_lt h1] at hl ⊢
      exact .inl ⟨h1, rfl, put_lt ρ _ q h1, fun p k hp hk => g.block _ (h.foot_lt hl hp hk) (by simp)⟩
    · rw [at_new]; exact .inr ⟨ho, fun p k hp hk => by rw [put_same] at hp; exact absurd hk ((hq p hp).2 k)⟩
  · have e : l = H.length := by rcases live_app hl with h2 | h2
                                · exact absurd ⟨h2, put_lt ρ _ q h2⟩ h1
                                · exact h2
    subst e
    rcases live_app hl' with h2 | h2
    · rw [at_append_lt h2] at hl'; rw [put_lt ρ _ q h2] at hp'; rw [put_same] at hp
      have := h.foot_lt hl' hp' hb'; have := hq' p k hp hb; omega
    · exact h2.symm
theorem ext_kill (l : Nat) : Ext H ρ w (H.set l .dead) ρ w := by
  refine ⟨rfl, rfl, rfl, Nat.le_refl _, fun _ _ _ => rfl, ?_, by simp, fun _ _ => rfl, fun k hk hv => ?_, fun k hk d hr => ?_⟩
  · rintro k ⟨j, p, hj, hp, hf⟩
    by_cases e : l = j
    · subst e
      have := at_lt hj
      rw [at_set_same (by simpa using this)] at hj; simp [AO.isLive] at hj
    · rw [at_set_ne e] at hj; exact .inl ⟨j, p, hj, hp, hf⟩
  · by_cases e : l = k
    · subst e; rw [at_set_same hk] at hv; simp [AO.isLive] at hv
    · rwa [at_set_ne e] at hv
  · by_cases e' : l = k
    · subst e'; rw [at_set_same hk] at hr; cases hr
    · rw [at_set_ne e'] at hr; exact hr
theorem Rel.kill (h : Rel Z H ρ w) (l : Nat) : Rel Z (H.set l .dead) ρ w := by
  refine h.step (ext_kill l) (fun k hk => ?_) (fun k k' p p' _ h1 hk => absurd ⟨by have := at_lt hk; simpa using this, rfl⟩ h1)
  by_cases e : l = k
  · subst e; have := at_lt hk; rw [at_set_same (by simpa using this)] at hk; simp [AO.isLive] at hk
  · have := at_lt hk
    rw [at_set_ne e]; exact .inl ⟨by simpa using this, rfl, rfl, fun _ _ _ _ => rfl⟩
/-- after a kill the row's blocks are free to be read -/
theorem A_kill' (h : Rel Z H ρ w) {l : Nat} {p : Pl} {k : Nat} (hl : (H.at l).isLive = true) (hp : ρ l = some p) (hk : p.foot k) : A Z (H.set l .dead) ρ w k := by
  refine ⟨h.foot_lt hl hp hk, ?_, fun hz => h.dis _ hz ⟨l, p, hl, hp, hk⟩⟩
  rintro ⟨j, q, hj, hq, hb⟩
  by_cases e : l = j
  · subst e; have := at_lt hj; rw [at_set_same (by simpa using this)] at hj; simp [AO.isLive] at hj
  · rw [at_set_ne e] at hj
    exact e (h.inj l j p q k hl hj hp hq hk hb)
theorem A_kill (h : Rel Z H ρ w) {l : Nat} {p : Pl} (hl : (H.at l).isLive = true) (hp : ρ l = some p) : A Z (H.set l .dead) ρ w p.b := A_kill' h hl hp (.inl rfl)
/-- an object of the same form in the place of another -/
theorem ext_set {l : Nat} {p : Pl} (o' : AO) (hl : (H.at l).isLive = true) (hp : ρ l = some p) (hw : ∀ k, k ≠ p.b → w'.heap[k]? = w.heap[k]?)
    (hos : w'.os = w.os) (htp : w'.tape = w.tape) (hou : w'.output = w.output) (hsz : w'.heap.size = w.heap.size)
    (hk : ∀ d, o'.dim = some d → (H.at l).dim = some d) : Ext H ρ w (H.set l o') ρ w' := by
  refine ⟨hos, htp, hou, by omega, fun k _ hn => hw k (fun e => hn ⟨l, p, hl, hp, .inl e.symm⟩), ?_, by simp, fun _ _ => rfl, fun k hk' hv => ?_, fun k hk' d hr => ?_⟩
  · rintro k ⟨j, q, hj, hq, hf⟩
    by_cases e : l = j
    · subst e; exact .inl ⟨l, q, hl, hq, hf⟩
    · rw [at_set_ne e] at hj; exact .inl ⟨j, q, hj, hq, hf⟩
  · by_cases e : l = k
    · subst e; exact hl
    · rwa [at_set_ne e] at hv
  · by_cases e' : l = k
    · subst e'; rw [at_set_same hk'] at hr; exact hk d hr
    · rw [at_set_ne e'] at hr; exact hr
theorem Rel.set (h : Rel Z H ρ w) {l : Nat} {p : Pl} (o' : AO) (hl : (H.at l).isLive = true) (hp : ρ l = some p) (hw : ∀ k, k ≠ p.b → w'.heap[k]? = w.heap[k]?)
    (hos : w'.os = w.os) (htp : w'.tape = w.tape) (hou : w'.output = w.output) (hsz : w'.heap.size = w.heap.size)
    (hk : ∀ d, o'.dim = some d → (H.at l).dim = some d) (ho : Holds Z (H.set l o') ρ w' l o') : Rel Z (H.set l o') ρ w' := by
  refine h.step (ext_set o' hl hp hw hos htp hou hsz hk) (fun k hk' => ?_) (fun k k' q q' _ h1 hk' => absurd ⟨by have := at_lt hk'; simpa using this, rfl⟩ h1)
  by_cases e : l = k
  · subst e; rw [at_set_same (at_lt hl)]; exact .inr ⟨ho, fun p k hp hk => by rw [hsz]; exact h.inn l p k hl hp hk⟩
  · have := at_lt hk'
    rw [at_set_ne e] at hk' ⊢
    exact .inl ⟨by simpa using this, rfl, rfl, fun q k2 hq hf => hw _ (fun e' => e (h.inj l k p q p.b hl hk' hp hq (.inl rfl) (e' ▸ hf)))⟩
end

/-- what stands at a place -/
structure Lies (w : World) (ad : Addr) (us : List Value) : Prop where
  cell : ∀ j v, us[j]? = some v → w.cell? (ad.add j) = some v
theorem R1.sl_inv {w : World} {A : Nat → Prop} {n : Nat} {cs : List DV} {v : Value} (h : R1 w A (.sl n cs) v) :
    ∃ a cap us, v = .slice a n cap ∧ n ≤ cap ∧ LR (R1 w A) cs us ∧ (us = [] ∨ ∃ ad, a = some ad ∧ A ad.block ∧ Lies w ad us) := by
  cases h with
  | nil h => exact ⟨_, _, [], rfl, h, trivial, .inl rfl⟩
  | sl us h hl hA hu hr => exact ⟨_, _, us, rfl, h, LR.of_get hl.symm hr, .inr ⟨_, rfl, hA, ⟨hu⟩⟩⟩
theorem R1.mk {w : World} {A : Nat → Prop} {n cap : Nat} {cs : List DV} {us : List Value} {a : Option Addr} (h : n ≤ cap) (hL : LR (R1 w A) cs us) (hA : us = [] ∨ ∃ ad, a = some ad ∧ A ad.block ∧ Lies w ad us) : R1 w A (.sl n cs) (.slice a n cap) := by
  rcases hA with rfl | ⟨ad, rfl, hA, hl⟩
  · have := hL.length
    obtain rfl : cs = [] := List.eq_nil_of_length_eq_zero (by simpa using this)
    exact .nil h
  · exact .sl us h hL.length.symm hA hl.cell fun j d v hd hv => hL.get hd hv
theorem add_add (a : Addr) (m n : Nat) : (a.add m).add n = a.add (m + n) := by
  unfold Addr.add; by_cases h1 : m = 0 <;> by_cases h2 : n = 0 <;> simp [h1, h2, Nat.add_assoc]
theorem add_off (b o n : Nat) : (⟨b, o, none⟩ : Addr).add n = ⟨b, o + n, none⟩ := by unfold Addr.add; split <;> simp_all
theorem cell_spot {w : World} {a : Addr} {v : Value} (h : w.cell? a = some v) : a.spot = none := by
  unfold World.cell? at h
  split at h
  · cases hs : a.spot <;> simp [hs] at h ⊢
  · cases h
theorem cut_get {α : Type} (l : List α) (o n j : Nat) (v : α) (h : ((l.drop o).take n)[j]? = some v) : l[o + j]? = some v ∧ j < n := by
  rw [List.getElem?_take] at h
  split at h
  · rename_i hj; rw [List.getElem?_drop] at h; exact ⟨h, hj⟩
  · cases h
theorem cell_at (w : World) (b j : Nat) (cs : Array Value) (t : TypeId) (fr : Nat × Nat) (hg : w.heap[b]? = some (.cells cs t fr)) : w.cell? ⟨b, j, none⟩ = cs[j]? := by
  simp [World.cell?, hg]
section
variable {Z : Nat → Prop} {H : Heap} {ρ : Rho} {w : World}
theorem V1_iff0 {c : C1} {v : Value} (h : V1 Z H ρ w c v) (hc : ∀ f cs, c ≠ .fn f cs) : V0 Z H ρ w c v := by
  cases c with
  | fn f cs => exact absurd rfl (hc f cs)
  | any => exact h
  | lit u => exact h
  | ptr l off => exact h
  | ep l sz i o => exact h
  | vp s xs i o => exact h
  | own l sz => exact h
  | sl l sz off len => exact h
  | vsl s xs => exact h
theorem elem_cells (s : Sh) (xs : List s.T) (i : Nat) (us : List Value) (hi : i < xs.length) (h : LR (R1 w (A Z H ρ w)) (xs.flatMap s.dv) us) :
    LR (V1 Z H ρ w) (s.avs (gt s xs i)) ((us.drop (i * s.sz)).take s.sz) := by
  have h1 := (h.drop (i * s.sz)).take s.sz
  rw [flat_get (dv_len s) xs i s.dflt hi] at h1
  exact V1_of_R1 s _ _ h1
theorem cellsAt_ok (hR : Rel Z H ρ w) {c : C1} {n : Nat} {cs : List C1} {v : Value} (h : cellsAt H c n = some cs) (hv : V1 Z H ρ w c v) :
    ∃ ad us, v = .pointer (some ad) ∧ Lies w ad us ∧ us.length = n ∧ cs.length = n ∧ LR (V1 Z H ρ w) cs us := by
  cases c with
  | ptr l off =>
    simp only [cellsAt] at h
    split at h
    · rename_i e ds hat
      split at h
      · rename_i hlen
        simp only [Option.some.injEq] at h; subst h
        obtain ⟨h1, h2, h3⟩ := hv
        obtain ⟨p, hp, rfl⟩ := h3 (by simp [hat, AO.isLive])
        have ho := hR.obj l
        rw [hat] at ho
        obtain ⟨q, vs, hq, hw, hL, _⟩ := ho
        rw [hp] at hq; cases hq
        have hl2 := (hL.drop off).take n
        simp only [beq_iff_eq] at hlen
        refine ⟨_, _, rfl, ⟨fun j u hj => ?_⟩, ?_, hlen, hl2⟩
        · obtain ⟨hj1, _⟩ := cut_get _ _ _ _ _ hj
          rw [add_off, cell_at w p.b (off + j) vs e (0, 0) hw]
          simpa using hj1
        · rw [← hl2.length]; exact hlen
      · cases h
    · cases h
  | ep l sz i o =>
    simp only [cellsAt] at h
    split at h
    · rename_i e s xs hat
      split at h
      · rename_i hlen
        simp only [Option.some.injEq] at h; subst h
        obtain ⟨h1, h2, h3⟩ := hv
        obtain ⟨hi, rfl, p, hp, rfl⟩ := h3 _ _ (dim_row hat)
        have ho := hR.obj l
        rw [hat] at ho
        rcases ho with ⟨hn, _⟩ | ⟨q, cur, us, hq, hw, _, _, _, hc, hL⟩
        · subst hn; simp at hi
        · rw [hp] at hq; cases hq
          have hl2 := ((elem_cells s xs i us hi hL).drop o).take n
          simp only [beq_iff_eq] at hlen
          refine ⟨_, _, rfl, ⟨fun j u hj => ?_⟩, ?_, hlen, hl2⟩
          · obtain ⟨hj1, _⟩ := cut_get _ _ _ _ _ hj
            obtain ⟨hj2, _⟩ := cut_get _ _ _ _ _ hj1
            rw [add_off, cell_at w p.b _ cur e (0, 0) hw]
            have := hc _ _ hj2
            rw [← this]; congr 1; omega
          · rw [← hl2.length]; exact hlen
      · cases h
    · cases h
  | vp s xs i o =>
    simp only [cellsAt] at h
    split at h
    · rename_i hlen
      simp only [Option.some.injEq] at h; subst h
      obtain ⟨hi, ad, m, cap, hr, rfl⟩ := hv
      simp only [beq_iff_eq] at hlen
      obtain ⟨a', cap', us, ha, hn, hL, hA⟩ := hr.sl_inv
      simp only [Value.slice.injEq] at ha
      obtain ⟨rfl, rfl, rfl⟩ := ha
      have hl2 := ((elem_cells s xs i us hi hL).drop o).take n
      rcases hA with rfl | ⟨ad', hq, hA, hu⟩
      · have h0 : cut (s.avs (gt s xs i)) o n = [] := by
          have := hl2.length
          simp at this
          unfold cut
          rcases this with h | h
          · subst h; simp
          · exact List.eq_nil_of_length_eq_zero (by simp; omega)
        rw [h0] at hlen ⊢
        exact ⟨_, [], rfl, ⟨fun j u hj => by simp at hj⟩, hlen, hlen, trivial⟩
      · simp only [Option.some.injEq] at hq
        subst hq
        refine ⟨_, _, rfl, ⟨fun j u hj => ?_⟩, ?_, hlen, hl2⟩
        · obtain ⟨hj1, _⟩ := cut_get _ _ _ _ _ hj
          obtain ⟨hj2, _⟩ := cut_get _ _ _ _ _ hj1
          have h5 := hu.cell _ _ hj2
          rw [add_add]
          rw [← h5]; congr 2; omega
        · rw [← hl2.length]; exact hlen
    · cases h
  | any => simp [cellsAt] at h
  | lit u => simp [cellsAt] at h
  | own l z => simp [cellsAt] at h
  | sl l z o m => simp [cellsAt] at h
  | vsl s xs => simp [cellsAt] at h
  | fn f as => simp [cellsAt] at h
end
end Go.Proofs.YtaklapcbbdcdpaaDoor.X
