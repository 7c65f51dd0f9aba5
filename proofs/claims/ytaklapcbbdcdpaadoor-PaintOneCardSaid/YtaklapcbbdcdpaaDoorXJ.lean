import Derived.Test.YtaklapcbbdcdpaaDoorXI
namespace Go.Proofs.YtaklapcbbdcdpaaDoor.X
open Go Go.RowKit
set_option linter.unusedVariables false
set_option linter.unusedSimpArgs false
section
variable {P : Program} {X : Ctx P} {β : Type} {Z : Nat → Prop} {H : Heap} {ρ : Rho} {w w' : World} {o : Oper} {a : Act} {K : KO β} {r : β} {ts : TS}
theorem at_append_dead {H : Heap} {n : AO} {l : Nat} (h1 : ¬ l < H.length) (h2 : l ≠ H.length) : Heap.at (H ++ [n]) l = .dead := at_ge (by simp; omega)
/-- a new row over the block of a row that ends -/
theorem Rel.move (h : Rel Z H ρ w) {l : Nat} {p q : Pl} {n : AO} (hl : (H.at l).isLive = true) (hp : ρ l = some p) (hq : q.b = p.b) (hqi : ∀ k, q.inn k → p.inn k) (hw : ∀ k, k ≠ p.b → w'.heap[k]? = w.heap[k]?)
    (hos : w'.os = w.os) (htp : w'.tape = w.tape) (hou : w'.output = w.output) (hsz : w'.heap.size = w.heap.size)
    (ho : Ext H ρ w (H.set l .dead ++ [n]) (put ρ H.length (some q)) w' → Holds Z (H.set l .dead ++ [n]) (put ρ H.length (some q)) w' H.length n) :
    Rel Z (H.set l .dead ++ [n]) (put ρ H.length (some q)) w' ∧ Ext H ρ w (H.set l .dead ++ [n]) (put ρ H.length (some q)) w' := by
  have hlt := at_lt hl
  have hlen : (H.set l .dead).length = H.length := by simp
  have atL : ∀ k, k < H.length → Heap.at (H.set l .dead ++ [n]) k = Heap.at (H.set l .dead) k := fun k hk => at_append_lt (by simpa using hk)
  have atN : Heap.at (H.set l .dead ++ [n]) H.length = n := by have := at_new (H := H.set l .dead) (o := n); rwa [hlen] at this
  have lv : ∀ k, (Heap.at (H.set l .dead ++ [n]) k).isLive = true → (k < H.length ∧ k ≠ l ∧ Heap.at (H.set l .dead ++ [n]) k = H.at k) ∨ k = H.length := by
    intro k hk
    rcases Nat.lt_or_ge k H.length with h1 | h1
    · left
      by_cases e : l = k
      · subst e; rw [atL _ h1, at_set_same h1] at hk; simp [AO.isLive] at hk
      · exact ⟨h1, fun e' => e e'.symm, by rw [atL _ h1, at_set_ne e]⟩
    · right
      have := at_lt hk; simp at this; omega
  have e : Ext H ρ w (H.set l .dead ++ [n]) (put ρ H.length (some q)) w' := by
    refine ⟨hos, htp, hou, by omega, fun k _ hn => hw k (fun e => hn ⟨l, p, hl, hp, .inl e.symm⟩), ?_, by simp, fun k hk => cor_of (put_lt ρ _ _ hk), fun k hk hv => ?_, fun k hk d hr => ?_⟩
    · rintro k ⟨j, p', hj, hp', hf⟩
      rcases lv j hj with ⟨h1, h2, h3⟩ | rfl
      · rw [h3] at hj; rw [put_lt ρ _ _ h1] at hp'
        exact .inl ⟨j, p', hj, hp', hf⟩
      · rw [put_same] at hp'; cases hp'
        exact .inl ⟨l, p, hl, hp, hf.imp (fun h => hq.symm.trans h) (hqi k)⟩
    · rcases lv k hv with ⟨h1, h2, h3⟩ | h3
      · rwa [h3] at hv
      · omega
    · rcases lv k (dim_live hr) with ⟨h1, h2, h3⟩ | h3
      · rw [h3] at hr; exact hr
      · omega
  refine ⟨h.step e (fun k hk => ?_) (fun k k' p1 p2 kk h1 hk hk' hp1 hp2 hb hb' => ?_), e⟩
  · rcases lv k hk with ⟨h1, h2, h3⟩ | rfl
    · refine .inl ⟨h1, h3, put_lt ρ _ _ h1, fun p' kk hp' hf => hw _ (fun e => h2 ?_)⟩
      rw [h3] at hk
      exact h.inj k l p' p p.b hk hl hp' hp (e ▸ hf) (.inl rfl)
    · rw [atN]
      refine .inr ⟨ho e, fun p1 kk hp1 hk1 => ?_⟩
      rw [put_same] at hp1; cases hp1
      have := h.inn l p kk hl hp (hqi kk hk1)
      exact ⟨by rw [hq]; exact this.1, by rw [hsz]; exact this.2⟩
  · have e1 : k = H.length := by rcases lv k hk with ⟨h2, _⟩ | h2
                                 · exact absurd ⟨h2, put_lt ρ _ _ h2⟩ h1
                                 · exact h2
    subst e1
    rcases lv k' hk' with ⟨h2, h3, h4⟩ | h2
    · rw [put_same] at hp1; cases hp1
      rw [put_lt ρ _ _ h2] at hp2; rw [h4] at hk'
      exact absurd (h.inj k' l p2 p kk hk' hl hp2 hp hb' (hb.imp (fun h => hq.symm.trans h) (hqi kk))) h3
    · exact h2.symm
theorem R1_all_one {A : Nat → Prop} {cs : List DV} {us : List Value} (h : LR (R1 w A) cs us) : ∀ u ∈ us, u.oneCell' = true := by
  intro u hu
  obtain ⟨i, hi⟩ := List.getElem?_of_mem hu
  have : i < cs.length := by rw [h.length]; exact (List.getElem?_eq_some_iff.1 hi).1
  exact (h.get (List.getElem?_eq_getElem this) hi).one
theorem range_mul (z : Array Value) (k : Nat) (hk : z.size = k) : ∀ n, (madeCells z (n * k)).toList = (List.replicate n z.toList).flatten
  | 0 => by simp [madeCells]
  | n + 1 => by
    have ih := range_mul z k hk n
    simp only [madeCells, Array.toList_map, Array.toList_range] at ih ⊢
    rw [Nat.succ_mul, Nat.add_comm, List.range_add, List.map_append, List.replicate_succ, List.flatten_cons, ← ih, List.map_map]
    congr 1
    · apply List.ext_getElem
      · simp [hk]
      · intro i h1 h2
        simp only [List.length_map, List.length_range] at h1
        simp [hk, Nat.mod_eq_of_lt h1, h1]
    · apply List.map_congr_left
      intro i _
      simp [hk]
theorem LR_flatten {α : Type} {R : DV → Value → Prop} {f : α → List DV} {x : α} {us : List Value} (h : LR R (f x) us) : ∀ n, LR R ((List.replicate n x).flatMap f) (List.replicate n us).flatten
  | 0 => by simp [LR]
  | n + 1 => by
    rw [List.replicate_succ, List.replicate_succ, List.flatMap_cons, List.flatten_cons]
    exact h.append (LR_flatten h n)
variable (hT : TIok P X.ti)
include hT
theorem opMake_ok (hR : Rel Z H ρ w) (ht : TRel Z H ρ w ts a) {t : TypeId} {x y : Operand} (ho : o.op = .makeSlice t x y) (h : opMake X ts H t x y K = some r) : Snd (P := P) X.ro Z H ρ w o a K r := by
  unfold opMake at h
  have hx := ev_ok hR ht x
  have hy := ev_ok hR ht y
  split at h
  case h_2 => cases h
  rename_i tr n c h1 h2 h3
  obtain ⟨k1, hk1⟩ := asI_ok h2 hx
  obtain ⟨k2, hk2⟩ := asI_ok h3 hy
  split at h
  case h_2 => cases h
  rename_i e hd
  split at h
  case h_2 => cases h
  rename_i te he
  split at h
  case h_2 => cases h
  rename_i z hz
  split at h
  case isFalse => cases h
  rename_i hsz
  simp only [beq_iff_eq] at hsz
  obtain ⟨hb, hK⟩ := iff'_ok h
  simp only [Bool.and_eq_true, decide_eq_true_eq] at hb
  obtain ⟨⟨b0, b1⟩, b2n, b3n⟩ := hb
  have hcn : ((c.toNat : Nat) : Int) = c := Int.toNat_of_nonneg (by omega)
  have b2 : c * te.bytes ≤ 140737488355328 := by
    have := Int.ofNat_le.2 (Nat.le_of_ble_eq_true b2n)
    rw [Int.natCast_mul, hcn] at this; exact this
  have b3 : c ≤ 1152921504606846976 := by
    have := Nat.le_of_ble_eq_true b3n; omega
  have hu := hT.und t tr h1
  rw [hd] at hu
  obtain ⟨i, zv, g1, g2, g3, g4, g5, g6, g7⟩ := hT.info e te he
  have hrun := run_make (P := P) w t e i zv hu g1 g4 k1 k2 n c b0 b1 (by rw [g3, Int.mul_comm]; omega) (by omega)
  refine ⟨_, _, _, hK, by simp, StepTo.value (cv := .slice (some ⟨w.heap.size, 0, none⟩) n.toNat c.toNat) (w' := w.alloc (.cells (madeCells zv.cells (c.toNat * i.size)) e)) ?_ ?_⟩
  · simp only [execOp, ho, Sem.run_bind, hk1, hk2, hrun, Result.andThen_ok, Sem.run_pure]
  · refine OK.new (q := some (Pl.new w.heap.size 0 c.toNat)) hR (World.grownBy_alloc w _ none) (fun p hp => by cases hp; exact ⟨Nat.le_refl _, fun _ h => h⟩) ?_ ?_
    · obtain ⟨u1, u2, hu12, hL, hL2⟩ := R1_of_V1 (Z := Z) (H := H) (ρ := ρ) (w := w) te.sh _ z [] te.zero hz (LR_lits _ g7)
      obtain rfl := LR.nil_inv hL2
      simp only [List.append_nil] at hu12
      subst hu12
      have hzs : zv.cells.size = i.size := by rw [← Array.length_toList, g5, g6, g2]
      have hm := range_mul zv.cells i.size hzs c.toNat
      refine .inr ⟨_, _, (List.replicate n.toNat te.zero).flatten, put_same _ _ _, heap_alloc_new w _, ?_, by simp; omega, by simp only [maxLen]; omega, fun j v hj => ?_, ?_⟩
      · simp [madeCells, hsz, g2]
      · simp only [Nat.zero_add]
        rw [← Array.getElem?_toList, hm, g5]
        have : c.toNat = n.toNat + (c.toNat - n.toNat) := by omega
        rw [this, ← List.replicate_append_replicate, List.flatten_append, List.getElem?_append_left (List.getElem?_eq_some_iff.1 hj).1]
        exact hj
      · have e := Ext.new (H := H) (ρ := ρ) (.row e te.sh (List.replicate n.toNat z)) (some (Pl.new w.heap.size 0 c.toNat)) (World.grownBy_alloc w (.cells (madeCells zv.cells (c.toNat * i.size)) e) none) (fun p hp => by cases hp; exact ⟨Nat.le_refl _, fun _ h => h⟩)
        exact (LR_flatten hL n.toNat).imp fun _ _ => e.R1
    · refine ⟨by simp, rfl, fun z2 n2 hat => ?_⟩
      rw [at_new] at hat
      cases hat
      refine ⟨rfl, .inl ⟨_, c.toNat, put_same _ _ _, ?_, by simp; omega, by simp⟩⟩
      simp
end
end Go.Proofs.YtaklapcbbdcdpaaDoor.X
