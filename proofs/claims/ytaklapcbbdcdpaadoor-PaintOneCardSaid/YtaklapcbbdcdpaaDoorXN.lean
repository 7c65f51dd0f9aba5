import Derived.Test.YtaklapcbbdcdpaaDoorXM
namespace Go.Proofs.YtaklapcbbdcdpaaDoor.X
open Go Go.RowKit
set_option linter.unusedVariables false
set_option linter.unusedSimpArgs false
/-- what is known of an entry -/
structure EOk (P : Program) (E : Entry P) : Prop where
  enter : ∀ args w, (callFunc E.f args).run P w = .ok (.enter E.f args) w
  ok : ∀ {β : Type} (args : List AV) (H : Heap) (K : KO β) (r : β) (Z : Nat → Prop) (ρ : Rho) (w : World) (cargs : Array Value), E.run args H K = some r → Rel Z H ρ w → LR (VA Z H ρ w) args cargs.toList →
    ∃ v U N, K v U N = some r ∧ Calls P E.f cargs w (fun e w' => ∃ cv, e = .returned cv ∧ OK Z H ρ w v U N cv w')
section
variable {P : Program} {X : Ctx P} {β : Type} {Z : Nat → Prop} {H : Heap} {ρ : Rho} {w w' : World} {o : Oper} {a : Act} {K : KO β} {r : β} {ts : TS}
theorem mid_list {α : Type} (us ws : List α) (k z o : Nat) (h1 : o + ws.length ≤ z) (h2 : k + z ≤ us.length) :
    us.take k ++ (((us.drop k).take z).take o ++ ws ++ ((us.drop k).take z).drop (o + ws.length)) ++ us.drop (k + z) = us.take (k + o) ++ ws ++ us.drop (k + o + ws.length) := by
  have e1 : ((us.drop k).take z).take o = (us.drop k).take o := by rw [List.take_take]; congr 1; omega
  have e2 : us.take (k + o) = us.take k ++ (us.drop k).take o := List.take_add
  have e3 : us.drop (k + o + ws.length) = ((us.drop k).take z).drop (o + ws.length) ++ us.drop (k + z) := by
    have : us.drop (k + o + ws.length) = (us.drop k).drop (o + ws.length) := by rw [List.drop_drop]; congr 1; omega
    rw [this]
    have h3 : us.drop k = (us.drop k).take z ++ us.drop (k + z) := by
      have := (List.take_append_drop z (us.drop k)).symm
      rwa [List.drop_drop] at this
    conv => lhs; rw [h3]
    rw [List.drop_append_of_le_length (by simp; omega)]
  rw [e1, e2, e3]
  simp
variable (hT : TIok P X.ti)
include hT
theorem storeVar_run {t : TypeId} {tr : TR} (h : X.ti t = some tr) {b off : Nat} {v : Value} {cur : Array Value} {e : TypeId} (hn : v.cells.size = tr.size) (hg : w.heap[b]? = some (.cells cur e (0, 0))) (hf : off + v.cells.size ≤ cur.size) (h1 : ∀ u ∈ v.cells.toList, u.oneCell' = true) :
    (storeVar t ⟨b, off, none⟩ v).run P w = .ok () (w.setRow b (cur.toList.take off ++ v.cells.toList ++ cur.toList.drop (off + v.cells.toList.length)).toArray) := by
  have hs := run_storeCells_at P b off e v.cells.toList 0 cur w hg (by simpa using hf) h1
  simp only [Nat.add_zero] at hs
  simp [storeVar, size_run hT h, hn, hs]
theorem opStore_ok (hR : Rel Z H ρ w) (ht : TRel Z H ρ w ts a) {t : TypeId} {x y : Operand} (ho : o.op = .store t x y) (h : opStore X ts H t x y K = some r) : Snd (P := P) X.ro Z H ρ w o a K r := by
  unfold opStore at h
  have hx := ev_ok hR ht x
  have hy := ev_ok hR ht y
  split at h
  case h_2 => cases h
  rename_i tr c v h1 h2 h3
  rw [h2] at hx
  rw [h3] at hy
  dsimp only at h
  split at h
  case isFalse => cases h
  rename_i hc
  simp only [Bool.and_eq_true, beq_iff_eq, decide_eq_true_eq] at hc
  obtain ⟨⟨hn, hst⟩, hpos⟩ := hc
  have hvl := cells_ok hst (hy : V2 Z H ρ w v _)
  have hvn := hvl.length
  have hone := all_one hst hvl
  simp only [Array.length_toList] at hvn
  split at h
  · rename_i l off
    split at h
    case isFalse => cases h
    rename_i hro
    simp only [decide_eq_true_eq] at hro
    split at h
    case h_2 => cases h
    rename_i e cs hat
    split at h
    case isFalse => cases h
    rename_i hfit
    simp only [decide_eq_true_eq] at hfit
    have hlive : (H.at l).isLive = true := by rw [hat]; rfl
    obtain ⟨g1, g2, g3⟩ := hx
    obtain ⟨p, hp, hv⟩ := g3 hlive
    have hho := hR.obj l
    rw [hat] at hho
    obtain ⟨q, vs, hq, hw, hL, hcs⟩ := hho
    rw [hp] at hq; cases hq
    have hLn := hL.length
    simp only [Array.length_toList] at hLn
    have hrun := storeVar_run (w := w) hT h1 (b := p.b) (off := off) (v := a.eval y) (cur := vs) (e := e) (by omega) hw (by omega) hone
    refine ⟨_, _, _, h, by simpa using hro, StepTo.skip (w' := w.setRow p.b (vs.toList.take off ++ (a.eval y).cells.toList ++ vs.toList.drop (off + (a.eval y).cells.toList.length)).toArray) ?_ ?_⟩
    · simp only [execOp, ho, hv, Instr.storeAt, Instr.sureAddr, Sem.run_bind, Sem.run_pure, Result.andThen_ok, hrun]
    · have ex := ext_set (H := H) (ρ := ρ) (w := w) (w' := w.setRow p.b (vs.toList.take off ++ (a.eval y).cells.toList ++ vs.toList.drop (off + (a.eval y).cells.toList.length)).toArray) (.cells e (putCells cs off v.cells)) hlive hp (fun k hk => setRow_other w _ _ _ hk) rfl rfl rfl (by simp) (fun _ h => by cases h)
      have hrel := Rel.set hR (.cells e (putCells cs off v.cells)) hlive hp (fun k hk => setRow_other w _ _ _ hk) rfl rfl rfl (by simp) (fun _ h => by cases h) (w' := w.setRow p.b (vs.toList.take off ++ (a.eval y).cells.toList ++ vs.toList.drop (off + (a.eval y).cells.toList.length)).toArray)
        ⟨p, _, hp, setRow_heap w _ _ _ _ _ hw, (putCells_LR hL hvl).imp fun _ _ => ex.V1, putCells_st hcs hst⟩
      have e0 : H.upd [(l, .cells e (putCells cs off v.cells))] ++ [] = H.set l (.cells e (putCells cs off v.cells)) := by simp [Heap.upd]
      exact ⟨ρ, trivial, by rw [e0]; exact hrel, by rw [e0]; exact ex, fun l2 hl2 hv2 => ⟨rfl, fun p2 k hp2 hf => setRow_other w _ _ _ fun e => hl2 (l, _) (List.mem_singleton.2 rfl) (hR.inj l l2 p p2 p.b hlive hv2 hp hp2 (.inl rfl) (by subst e; exact hf))⟩⟩
  · rename_i l sz i off
    split at h
    case isFalse => cases h
    rename_i hro
    simp only [decide_eq_true_eq] at hro
    split at h
    case h_2 => cases h
    rename_i e s xs hat
    split at h
    case h_2 => cases h
    rename_i x' hdec
    split at h
    case isFalse => cases h
    rename_i hU
    have hU1 : ∀ u ∈ (freeze H v.cells).2, X.ro ≤ u.1 := fun u hu => by
      have := List.all_eq_true.1 hU u hu
      simp only [Bool.and_eq_true, decide_eq_true_eq] at this
      exact this.1
    have hU2 : ∀ u ∈ (freeze H v.cells).2, u.1 ≠ l := fun u hu => by
      have := List.all_eq_true.1 hU u hu
      simp only [Bool.and_eq_true, bne_iff_ne] at this
      exact this.2
    obtain ⟨f1, f2, f3⟩ := freeze_ok v.cells _ hR hvl
    have hat1 : (H.upd (freeze H v.cells).2).at l = .row e s xs := by rw [upd_other _ _ _ hU2, hat]
    obtain ⟨g1, _, g3⟩ := f2.V1 (Z := Z) (c := .ep l sz i off) hx
    obtain ⟨hi, rfl, p, hp, hv⟩ := g3 _ _ (dim_row hat1)
    have hlive : ((H.upd (freeze H v.cells).2).at l).isLive = true := by rw [hat1]; rfl
    have hho := f1.obj l
    rw [hat1] at hho
    rcases hho with ⟨hnil, _⟩ | ⟨q, cur, us, hq, hw, hfit, hxc, hcm, hcells, hL⟩
    · subst hnil; simp at hi
    rw [hp] at hq; cases hq
    generalize hws : (a.eval y).cells.toList = ws at *
    have hwn : ws.length = v.cells.length := by rw [← hws]; simp; omega
    have hel := elem_cells s xs i us hi hL
    obtain ⟨u1, u2, hu12, hd1, hd2⟩ := R1_of_V1 s _ x' [] _ hdec (putCells_LR (o := off) hel f3)
    obtain rfl := LR.nil_inv hd2
    rw [List.append_nil] at hu12
    have hun : us.length = xs.length * s.sz := by rw [← hL.length, flat_len (dv_len s)]
    have hiz : i * s.sz + s.sz ≤ xs.length * s.sz := by rw [← Nat.succ_mul]; exact Nat.mul_le_mul_right _ hi
    have hu1n : u1.length = s.sz := by rw [← hd1.length, dv_len]
    have heln : ((us.drop (i * s.sz)).take s.sz).length = s.sz := by simp; omega
    have hoff : off + ws.length ≤ s.sz := by
      have := congrArg List.length hu12
      rw [List.length_append, List.length_append, List.length_take, List.length_drop, heln, hu1n] at this
      omega
    have hxp : xs.length * s.sz ≤ p.cap * s.sz := Nat.mul_le_mul_right _ hxc
    have hcsz : (a.eval y).cells.size = ws.length := by rw [← hws]; simp
    have hrun := storeVar_run (w := w) hT h1 (b := p.b) (off := p.base + i * s.sz + off) (v := a.eval y) (cur := cur) (e := e) (by omega) hw (by omega) (by rw [hws]; exact hone)
    rw [hws] at hrun
    refine ⟨_, _, _, h, fun u hu => ?_, StepTo.skip (w' := w.setRow p.b (cur.toList.take (p.base + i * s.sz + off) ++ ws ++ cur.toList.drop (p.base + i * s.sz + off + ws.length)).toArray) ?_ ?_⟩
    · simp only [List.mem_append, List.mem_singleton] at hu
      rcases hu with hu | rfl
      · exact hU1 u hu
      · exact hro
    · simp only [execOp, ho, hv, Instr.storeAt, Instr.sureAddr, Sem.run_bind, Sem.run_pure, Result.andThen_ok, hrun]
    · have hk : ∀ d, (AO.row e s (xs.set i x')).dim = some d → ((H.upd (freeze H v.cells).2).at l).dim = some d := fun d h => by
        rw [hat1]; simpa [AO.dim] using h
      have ex := ext_set (H := H.upd (freeze H v.cells).2) (ρ := ρ) (w := w) (w' := w.setRow p.b (cur.toList.take (p.base + i * s.sz + off) ++ ws ++ cur.toList.drop (p.base + i * s.sz + off + ws.length)).toArray) (.row e s (xs.set i x')) hlive hp (fun k hk => setRow_other w _ _ _ hk) rfl rfl rfl (by simp) hk
      have hcl : (cur.toList.take (p.base + i * s.sz + off) ++ ws ++ cur.toList.drop (p.base + i * s.sz + off + ws.length)).length = cur.size := by simp; omega
      have hrel := Rel.set f1 (.row e s (xs.set i x')) hlive hp (fun k hk => setRow_other w _ _ _ hk) rfl rfl rfl (by simp) hk (w' := w.setRow p.b (cur.toList.take (p.base + i * s.sz + off) ++ ws ++ cur.toList.drop (p.base + i * s.sz + off + ws.length)).toArray)
        (.inr ⟨p, _, us.take (i * s.sz + off) ++ ws ++ us.drop (i * s.sz + off + ws.length), hp, setRow_heap w _ _ _ _ _ hw, by simp only [List.size_toArray, hcl]; exact hfit, by simpa using hxc, hcm, ?_, ?_⟩)
      · have := OK.before (Z := Z) (V := [(l, .row e s (xs.set i x'))]) (N := []) (v := .one .any) (cv := undef) f2 ⟨ρ, trivial, by
          simp only [Heap.upd, List.append_nil]
          exact hrel, by
          simp only [Heap.upd, List.append_nil]
          exact ex, fun l2 hl2 hv2 => ⟨rfl, fun p2 k hp2 hf => setRow_other w _ _ _ fun e => hl2 (l, _) (List.mem_singleton.2 rfl) (f1.inj l l2 p p2 p.b hlive hv2 hp hp2 (.inl rfl) (by subst e; exact hf))⟩⟩
        exact this
      · intro j u hj
        simp only [List.getElem?_toArray]
        have hb1 : (us.take (i * s.sz + off)).length = i * s.sz + off := by simp; omega
        have hb2 : (cur.toList.take (p.base + i * s.sz + off)).length = p.base + i * s.sz + off := by simp; omega
        rw [List.append_assoc] at hj ⊢
        rcases Nat.lt_or_ge j (i * s.sz + off) with c1 | c1
        · rw [List.getElem?_append_left (by omega), List.getElem?_take, if_pos c1] at hj
          rw [List.getElem?_append_left (by omega), List.getElem?_take, if_pos (by omega), Array.getElem?_toList]
          exact hcells j u hj
        · rw [List.getElem?_append_right (by omega), hb1] at hj
          rw [List.getElem?_append_right (by omega), hb2]
          have e0 : p.base + j - (p.base + i * s.sz + off) = j - (i * s.sz + off) := by omega
          rw [e0]
          rcases Nat.lt_or_ge (j - (i * s.sz + off)) ws.length with c2 | c2
          · rw [List.getElem?_append_left c2] at hj ⊢
            exact hj
          · rw [List.getElem?_append_right c2, List.getElem?_drop] at hj
            rw [List.getElem?_append_right c2, List.getElem?_drop, Array.getElem?_toList]
            have := hcells _ u hj
            rw [← this]; congr 1; omega
      · have hm := mid_list us ws (i * s.sz) s.sz off hoff (by omega)
        rw [hu12] at hm
        rw [flat_set (dv_len s) xs i x' hi, ← hm]
        exact ((((hL.take _).append hd1).append (hL.drop _)).imp fun _ _ => ex.R1)
  · cases h
end
end Go.Proofs.YtaklapcbbdcdpaaDoor.X
