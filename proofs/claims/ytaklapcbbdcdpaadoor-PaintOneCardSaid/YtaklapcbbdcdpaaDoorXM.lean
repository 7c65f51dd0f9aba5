import Derived.Test.YtaklapcbbdcdpaaDoorXL
namespace Go.Proofs.YtaklapcbbdcdpaaDoor.X
open Go Go.RowKit
set_option linter.unusedVariables false
set_option linter.unusedSimpArgs false
section
variable {P : Program} {X : Ctx P} {β : Type} {Z : Nat → Prop} {H : Heap} {ρ : Rho} {w w' : World} {o : Oper} {a : Act} {K : KO β} {r : β} {ts : TS}
variable (hT : TIok P X.ti)
theorem places_ok {ti : TI} (hT : TIok P ti) : ∀ (fs : List Field), (fs.all fun f => (ti f.type).isSome) = true → ∃ places : List (Nat × Nat), fs.mapM (fun (f : Field) => (P.info? f.type).map fun i => (f.offset, i.size)) = some places ∧ places.length = fs.length ∧ ∀ (i : Nat) (f : Field) (tr : TR), fs[i]? = some f → ti f.type = some tr → places[i]? = some (f.offset, tr.size)
  | [], _ => ⟨[], rfl, rfl, fun i f tr h => by simp at h⟩
  | f :: fs, h => by
    simp only [List.all_cons, Bool.and_eq_true] at h
    obtain ⟨places, h1, h2, h3⟩ := places_ok hT fs h.2
    obtain ⟨tr, htr⟩ := Option.isSome_iff_exists.1 h.1
    obtain ⟨i, z, g1, g2, _⟩ := hT.info f.type tr htr
    refine ⟨(f.offset, tr.size) :: places, by simp [List.mapM_cons, g1, g2, h1], by simp [h2], fun j f' tr' hj htr' => ?_⟩
    cases j with
    | zero => simp at hj; subst hj; rw [htr] at htr'; cases htr'; rfl
    | succ j => simpa using h3 j f' tr' (by simpa using hj) htr'
include hT
theorem fill_mono {pl pl' : Nat → Option (Nat × Nat)} (h : ∀ i x, pl i = some x → pl' i = some x) : ∀ (parts : List (Nat × AV)) (cs cs' : List C1), fillCells pl cs parts = some cs' → fillCells pl' cs parts = some cs'
  | [], _, _, hf => by
    have _ := hT
    exact hf
  | (i, .v x) :: rest, cs, cs', hf => by
    simp only [fillCells] at hf ⊢
    split at hf
    case h_2 => cases hf
    rename_i off size hp
    rw [h _ _ hp]
    split at hf
    case isFalse => cases hf
    rename_i hc
    dsimp only
    rw [if_pos hc]
    exact fill_mono h rest _ _ hf
  | (i, .tup x) :: rest, cs, cs', hf => by simp [fillCells] at hf
theorem opBuild_ok (hR : Rel Z H ρ w) (ht : TRel Z H ρ w ts a) {t : TypeId} {ps : Array (Nat × Operand)} (ho : o.op = .build t ps) (h : opBuild X ts H t ps K = some r) : SndQ (P := P) Z H ρ w o a K r := by
  unfold opBuild at h
  split at h
  case h_2 => cases h
  rename_i tr h1
  obtain ⟨i, z, g1, g2, g3, g4, g5, g6, g7⟩ := hT.info t tr h1
  have hu := hT.und t tr h1
  have hz0 := LR_lits (Z := Z) (H := H) (ρ := ρ) (w := w) tr.zero g7
  rw [← g5] at hz0
  split at h
  · rename_i fs hd
    split at h
    case isFalse => cases h
    rename_i hall
    split at h
    case h_2 => cases h
    rename_i cs hf
    obtain ⟨places, k1, k2, k3⟩ := places_ok hT fs.toList hall
    have hf2 := fill_mono (pl' := (places.toArray[·]?)) hT (fun i x hx => by
      unfold placeS at hx
      split at hx
      · rename_i o' n' ag hfo
        obtain ⟨fl, tf, m1, m2, m3, m4, _⟩ := fieldOff_ok hfo
        simp only [Option.some.injEq] at hx
        subst hx m3 m4
        have := k3 i fl tf (by simpa using m1) m2
        simpa using this
      · cases hx) _ _ _ hf
    rw [← g5] at hf2
    obtain ⟨cv', n1, n2⟩ := fill_ok _ _ _ _ z.cells hf2 (parts_rel hR ht ps) hz0
    rw [hd] at hu
    refine SndQ.of hR h (cv := .agg cv') ?_ ⟨cv', rfl, n2⟩
    have hb : P.built t (ps.map fun (i, x) => (i, a.eval x)).toList = some cv' := by
      unfold Program.built
      simp only [g1, hu, g4, k1]
      exact n1
    simp only [execOp, ho, Sem.run_bind, run_build w t _ cv' hb, Result.andThen_ok, Sem.run_pure]
  · rename_i n e hd
    split at h
    case h_2 => cases h
    rename_i te he
    split at h
    case h_2 => cases h
    rename_i cs hf
    rw [← g5] at hf
    obtain ⟨cv', n1, n2⟩ := fill_ok _ _ _ _ z.cells hf (parts_rel hR ht ps) hz0
    obtain ⟨ie, ze, q1, q2, q3, q4, _⟩ := hT.info e te he
    rw [hd] at hu
    refine SndQ.of hR h (cv := .agg cv') ?_ ⟨cv', rfl, n2⟩
    have hb : P.built t (ps.map fun (i, x) => (i, a.eval x)).toList = some cv' := by
      unfold Program.built
      simp only [g1, hu, g4, q1]
      rw [q2]; exact n1
    simp only [execOp, ho, Sem.run_bind, run_build w t _ cv' hb, Result.andThen_ok, Sem.run_pure]
  · cases h
theorem opBuildSlice_ok (hR : Rel Z H ρ w) (ht : TRel Z H ρ w ts a) {t : TypeId} {n : Nat} {ps : Array (Nat × Operand)} (ho : o.op = .buildSlice t n ps) (h : opBuildSlice X ts H t n ps K = some r) : Snd (P := P) X.ro Z H ρ w o a K r := by
  unfold opBuildSlice at h
  split at h
  case h_2 => cases h
  rename_i tr h1
  have hu := hT.und t tr h1
  split at h
  case h_2 => cases h
  rename_i e hd
  rw [hd] at hu
  split at h
  case h_2 => cases h
  rename_i te he
  obtain ⟨i, z, g1, g2, g3, g4, g5, g6, g7⟩ := hT.info e te he
  split at h
  case h_2 => cases h
  rename_i cs hf
  split at h
  case isFalse => cases h
  rename_i hc
  simp only [Bool.and_eq_true, decide_eq_true_eq, beq_iff_eq] at hc
  obtain ⟨⟨⟨hU, hsm⟩, hsz⟩, hpos⟩ := hc
  split at h
  case h_2 => cases h
  rename_i xs hdec
  have hzs : z.cells.size = i.size := by rw [← Array.length_toList, g5, g6, g2]
  have hm := range_mul z.cells i.size hzs n
  have hz0 := reps_LR (Z := Z) (H := H) (ρ := ρ) (w := w) g7 n
  have hmc : (madeCells z.cells (n * i.size)).toList = (List.replicate n te.zero).flatten := by rw [hm, g5]
  rw [← hmc] at hz0
  obtain ⟨cv', n1, n2⟩ := fill_ok _ _ _ _ _ hf (parts_rel hR ht ps) hz0
  obtain ⟨f1, f2, f3⟩ := freeze_ok cs cv'.toList hR n2
  obtain ⟨d1, d2⟩ := decRow_ok te.sh n _ xs _ hdec f3
  refine ⟨_, _, _, h, fun u hu => by simpa using List.all_eq_true.1 hU u hu, StepTo.value (cv := .slice (some ⟨w.heap.size, 0, none⟩) n n) (w' := w.alloc (.cells cv' e)) ?_ ?_⟩
  · by_cases hn : n = 0
    · subst hn
      have hcv : cv' = #[] := by
        have : (Array.range (0 * i.size)).map (z.cells[· % z.cells.size]!) = #[] := by simp
        have e1 := n2.length
        have e2 := d2.length
        rw [flat_len (dv_len te.sh), d1] at e2
        apply Array.ext'
        exact List.eq_nil_of_length_eq_zero (by omega)
      subst hcv
      have hn1 : Instr.fill (fun i_1 => some (i_1 * te.size, te.size)) #[] (ps.map fun (i, x) => (i, a.eval x)).toList = some #[] := by
        have : madeCells z.cells (0 * i.size) = #[] := by simp [madeCells]
        rw [this] at n1; exact n1
      have hn1' : Instr.fill (fun i_1 => some (i_1 * te.size, te.size)) #[] (ps.toList.map fun x => (x.1, a.eval x.2)) = some #[] := by
        rw [Array.toList_map] at hn1; exact hn1
      simp only [execOp, ho, Sem.run_bind, Instr.buildSlice, run_underlying hu, size_run hT he, Result.andThen_ok, Sem.run_pure]
      have hr0 : Array.range 0 = #[] := rfl
      simp [hr0, hn1', newRow]
    · have hr := run_buildSlice (P := P) w t e n (ps.map fun (i, x) => (i, a.eval x)) cv' i z hu g1 g4 (by rw [g2]; omega) (by rw [g2]; exact Nat.ne_of_gt (Nat.mul_pos (Nat.pos_of_ne_zero hn) hpos)) (by rw [g2]; rw [g2] at n1; exact n1)
      simp only [execOp, ho, Sem.run_bind, hr, Result.andThen_ok, Sem.run_pure]
  · have hlen : (H.upd (freeze H cs).2).length = H.length := upd_len _ _
    have g := World.grownBy_alloc w (.cells cv' e) none
    have hq : ∀ p, (some ((Pl.new w.heap.size 0 (n)) : Pl)) = some p → w.heap.size ≤ p.b ∧ ∀ k, ¬ p.inn k := fun p hp => by cases hp; exact ⟨Nat.le_refl _, fun _ h => h⟩
    have e2 := Ext.new (H := H.upd (freeze H cs).2) (ρ := ρ) (.row e te.sh xs) (some (Pl.new w.heap.size 0 n)) g hq
    have hok := OK.new (v := .one (.own H.length te.sh.sz)) (cv := .slice (some ⟨w.heap.size, 0, none⟩) n n) (n := .row e te.sh xs) f1 g hq ?_ ?_
    · have := OK.before (V := []) f2 hok
      simpa using this
    · have hl2 := d2.length
      rw [flat_len (dv_len te.sh), d1] at hl2
      simp only [Array.length_toList] at hl2
      have hnm : n ≤ n * te.size := Nat.le_mul_of_pos_right _ hpos
      refine .inr ⟨_, _, cv'.toList, put_same _ _ _, heap_alloc_new w _, by simp; omega, by simp [d1], by simp only [maxLen]; omega, fun j v hj => by simpa using hj, d2.imp fun _ _ => e2.R1⟩
    · refine ⟨by simp [hlen], rfl, fun z3 n3 hat => ?_⟩
      rw [← hlen, at_new] at hat
      cases hat
      exact ⟨rfl, .inl ⟨_, n, by rw [← hlen]; exact put_same _ _ _, by simp [d1], by omega, by simp⟩⟩
end
end Go.Proofs.YtaklapcbbdcdpaaDoor.X
