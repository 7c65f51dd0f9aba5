import Derived.Test.YtaklapcbbdcdpaaDoorXEn
namespace Go.Proofs.YtaklapcbbdcdpaaDoor.X
open Go Go.RowKit
set_option linter.unusedVariables false
set_option linter.unusedSimpArgs false

structure TIok (P : Program) (ti : TI) : Prop where
  und : ∀ t r, ti t = some r → P.underlying t = some r.d
  info : ∀ t r, ti t = some r → ∃ i z, P.info? t = some i ∧ i.size = r.size ∧ i.bytes = r.bytes ∧ i.zero = some z ∧ z.cells.toList = r.zero ∧ r.zero.length = r.size ∧ (∀ u ∈ r.zero, u.oneCell' = true)

theorem upd_append (H : Heap) (U V : Upd) : H.upd (U ++ V) = (H.upd U).upd V := by
  induction U generalizing H with
  | nil => rfl
  | cons u U ih => obtain ⟨l, o⟩ := u; exact ih _

section
variable {P : Program}
def StepTo (P : Program) (o : Oper) (a : Act) (w : World) (G : Value → World → Prop) : Prop :=
  ∀ (next : Act → World → Prop) (Q : Exit → Act → World → Prop), (∀ cv w', G cv w' → next (a.put o.dst cv) w') → o.wp P a w next Q
theorem StepTo.value {o : Oper} {a : Act} {w w' : World} {cv : Value} {G : Value → World → Prop} (h : (execOp a.eval o).run P w = .ok (.value cv) w') (g : G cv w') : StepTo P o a w G := by
  intro next Q hn
  unfold Oper.wp
  rw [h]
  exact hn cv w' g
theorem StepTo.skip {o : Oper} {a : Act} {w w' : World} {G : Value → World → Prop} (h : (execOp a.eval o).run P w = .ok .skip w') (g : G undef w') : StepTo P o a w G := by
  intro next Q hn
  unfold Oper.wp
  rw [h]
  exact hn undef w' g
/-- what is not told as written keeps its block -/
def KeepO (H : Heap) (ρ : Rho) (w : World) (U : Upd) (w' : World) (ρ' : Rho) : Prop := ∀ l, (∀ u ∈ U, u.1 ≠ l) → (H.at l).isLive = true → ρ' l = ρ l ∧ ∀ p k, ρ l = some p → p.foot k → w'.heap[k]? = w.heap[k]?
structure OKx (Z : Nat → Prop) (H : Heap) (ρ : Rho) (w : World) (v : AV) (U : Upd) (N : List AO) (cv : Value) (w' : World) (ρ' : Rho) : Prop where
  va : VA Z (H.upd U ++ N) ρ' w' v cv
  rel : Rel Z (H.upd U ++ N) ρ' w'
  ext : Ext H ρ w (H.upd U ++ N) ρ' w'
  kept : KeepO H ρ w U w' ρ'
def OK (Z : Nat → Prop) (H : Heap) (ρ : Rho) (w : World) (v : AV) (U : Upd) (N : List AO) (cv : Value) (w' : World) : Prop := ∃ ρ', OKx Z H ρ w v U N cv w' ρ'
def Snd (ro : Nat) (Z : Nat → Prop) {β : Type} (H : Heap) (ρ : Rho) (w : World) (o : Oper) (a : Act) (K : KO β) (r : β) : Prop :=
  ∃ v U N, K v U N = some r ∧ (∀ u ∈ U, ro ≤ u.1) ∧ StepTo P o a w (OK Z H ρ w v U N)
variable {ro : Nat} {β : Type} {Z : Nat → Prop} {H : Heap} {ρ : Rho} {w w' : World} {o : Oper} {a : Act} {K : KO β} {r : β}
theorem OK.quiet {v : AV} {cv : Value} (hR : Rel Z H ρ w) (hv : VA Z H ρ w v cv) : OK Z H ρ w v [] [] cv w := by
  have e : H.upd [] ++ [] = H := by simp [Heap.upd]
  exact ⟨ρ, by rw [e]; exact hv, by rw [e]; exact hR, by rw [e]; exact Ext.refl _ _ _, fun _ _ _ => ⟨rfl, fun _ _ _ _ => rfl⟩⟩
def SndQ (Z : Nat → Prop) {β : Type} (H : Heap) (ρ : Rho) (w : World) (o : Oper) (a : Act) (K : KO β) (r : β) : Prop :=
  ∃ v cv, K v [] [] = some r ∧ (execOp a.eval o).run P w = .ok (.value cv) w ∧ VA Z H ρ w v cv
theorem SndQ.of {v : AV} {cv : Value} (hR : Rel Z H ρ w) (hk : K v [] [] = some r) (h : (execOp a.eval o).run P w = .ok (.value cv) w) (hv : VA Z H ρ w v cv) : SndQ (P := P) Z H ρ w o a K r := ⟨v, cv, hk, h, hv⟩
theorem Snd.quiet {v : AV} {cv : Value} (hR : Rel Z H ρ w) (hk : K v [] [] = some r) (h : (execOp a.eval o).run P w = .ok (.value cv) w) (hv : VA Z H ρ w v cv) : Snd (P := P) ro Z H ρ w o a K r :=
  ⟨v, [], [], hk, by simp, StepTo.value h (OK.quiet hR hv)⟩
theorem SndQ.snd (hR : Rel Z H ρ w) (h : SndQ (P := P) Z H ρ w o a K r) : Snd (P := P) ro Z H ρ w o a K r := by
  obtain ⟨v, cv, h1, h2, h3⟩ := h
  exact Snd.quiet hR h1 h2 h3
theorem OK.new {n : AO} {q : Option Pl} {v : AV} {cv : Value} (hR : Rel Z H ρ w) (g : w.grownBy w' none) (hq : ∀ p, q = some p → w.heap.size ≤ p.b ∧ ∀ k, ¬ p.inn k) (ho : Holds Z (H ++ [n]) (put ρ H.length q) w' H.length n)
    (hv : VA Z (H ++ [n]) (put ρ H.length q) w' v cv) : OK Z H ρ w v [] [n] cv w' :=
  ⟨_, hv, hR.new n q g hq ho, Ext.new n q g hq, fun l _ hl => ⟨put_lt ρ _ q (at_lt hl), fun p k hp hk => g.block _ (hR.foot_lt hl hp hk) (by simp)⟩⟩
theorem upd_other (U : Upd) : ∀ (H : Heap) (l : Nat), (∀ u ∈ U, u.1 ≠ l) → (H.upd U).at l = H.at l := by
  induction U with
  | nil => intro H l _; rfl
  | cons u U ih =>
    intro H l h
    obtain ⟨k, o⟩ := u
    simp only [Heap.upd]
    rw [ih _ _ (fun u hu => h u (by simp [hu])), at_set_ne (h (k, o) (by simp))]
theorem OK.before {U V : Upd} {N : List AO} {v : AV} {cv : Value} (e : Ext H ρ w (H.upd U) ρ w) (h : OK Z (H.upd U) ρ w v V N cv w') : OK Z H ρ w v (U ++ V) N cv w' := by
  obtain ⟨ρ', h1, h2, h3, h4⟩ := h
  refine ⟨ρ', by rw [upd_append]; exact h1, by rw [upd_append]; exact h2, by rw [upd_append]; exact e.trans h3, fun l hl hv => h4 l (fun u hu => hl u (by simp [hu])) ?_⟩
  rw [upd_other U H l fun u hu => hl u (by simp [hu])]; exact hv

/-! what is only computed -/
theorem pureRun_ok {α : Type} : ∀ (s : Sem α) (v : α), pureRun P s = some v → ∀ w, s.run P w = .ok v w
  | .pure a, v, h, w => by simp only [pureRun, Option.some.injEq] at h; subst h; rfl
  | .program k, v, h, w => by
    simp only [pureRun] at h
    exact pureRun_ok (k P) v h w
  | .load .., _, h, _ | .store .., _, h, _ | .new .., _, h, _ | .shape .., _, h, _ | .freeze .., _, h, _ | .frozen .., _, h, _ | .getObj .., _, h, _ | .setObj .., _, h, _ | .choose .., _, h, _ | .sys .., _, h, _ | .mark .., _, h, _ | .halt .., _, h, _ => by simp [pureRun] at h
theorem litsOf_ok : ∀ (cs : List C1) (vs us : List Value), litsOf cs = some vs → LR (V1 Z H ρ w) cs us → us = vs
  | [], vs, us, h, hl => by
    simp only [litsOf, Option.some.injEq] at h; subst h; exact LR.nil_inv hl
  | c :: cs, vs, us, h, hl => by
    obtain ⟨u, us', rfl, h1, h2⟩ := LR.cons_inv hl
    cases c <;> simp only [litsOf] at h <;> try (cases h; done)
    split at h
    · rename_i v ws hw
      simp only [Option.some.injEq] at h; subst h
      obtain ⟨rfl, _⟩ := (h1 : u = _ ∧ _)
      rw [litsOf_ok cs ws us' hw h2]
    · cases h
theorem asVal_ok {x : AV} {u v : Value} (h : asVal x = some u) (hv : VA Z H ρ w x v) : v = u := by
  unfold asVal at h
  split at h
  · simp only [Option.some.injEq] at h; subst h; exact (hv : v = _ ∧ _).1
  · simp only [Option.some.injEq] at h; subst h
    obtain ⟨us, rfl, hl⟩ := hv
    obtain hn := LR.nil_inv hl
    have : us = #[] := by apply Array.ext'; simpa using hn
    rw [this]
  · rename_i cs
    split at h
    · rename_i vs hvs
      simp only [Option.some.injEq] at h; subst h
      obtain ⟨us, rfl, hl⟩ := hv
      congr 1
      apply Array.ext'
      simpa using litsOf_ok _ _ _ hvs hl
    · cases h
  · cases h
def okVal : Value → Bool
  | .agg cs => cs.all (·.oneCell')
  | .tuple _ => false
  | _ => true
theorem LR_lits : ∀ (us : List Value), (∀ u ∈ us, u.oneCell' = true) → LR (V1 Z H ρ w) (us.map .lit) us
  | [], _ => trivial
  | u :: us, h => ⟨⟨rfl, h u (by simp)⟩, LR_lits us fun x hx => h x (by simp [hx])⟩
end
end Go.Proofs.YtaklapcbbdcdpaaDoor.X
