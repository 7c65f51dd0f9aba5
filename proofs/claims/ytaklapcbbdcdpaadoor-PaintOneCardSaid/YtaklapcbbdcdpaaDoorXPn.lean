import Derived.Test.YtaklapcbbdcdpaaDoorXP
import Derived.Laws.IdiomStrings
namespace Go.Proofs.YtaklapcbbdcdpaaDoor.X
open Go Go.RowKit
set_option linter.unusedVariables false
set_option linter.unusedSimpArgs false
/-! Operations on rows whose elements have slices of their own -/
theorem opN1_some {P : Program} {X : Ctx P} {ts : TS} {H : Heap} {o : Oper} {q : Bool × AV × Upd × List AO} (h : opN1 X ts H o = some q) : opN X ts H o = some q := by
  unfold opN1 at h
  split at h
  · cases h
  · exact h
section
variable {Z : Nat → Prop} {H : Heap} {ρ : Rho} {w w' : World}
theorem avsN_ok {A : Nat → Prop} {es : List TypeId} {s : Sh} {x : s.T} {us : List Value} {ps : List (Option Pl)} (h : NE w A es s x us ps) : LR (V1 Z H ρ w) (s.avsN x) us ∧ us.length = s.sz := by
  induction h with
  | unit => exact ⟨trivial, rfl⟩
  | int => exact ⟨⟨⟨rfl, rfl⟩, trivial⟩, rfl⟩
  | bool => exact ⟨⟨⟨rfl, rfl⟩, trivial⟩, rfl⟩
  | str => exact ⟨⟨⟨rfl, rfl⟩, trivial⟩, rfl⟩
  | inn h1 h2 h3 => exact ⟨⟨trivial, trivial⟩, rfl⟩
  | pair h1 h2 ih1 ih2 => exact ⟨ih1.1.append ih2.1, by simp [ih1.2, ih2.2, Sh.sz]⟩
theorem cutN_ok' {cs ds : List C1} {o n : Nat} (h : cutN ds o n = some cs) : cs = (ds.drop o).take n ∧ cs.length = n := by
  unfold cutN at h
  split at h
  · rename_i hl
    simp only [beq_iff_eq] at hl
    simp only [Option.some.injEq] at h; subst h
    exact ⟨rfl, hl⟩
  · cases h
/-- what lies at a part of an element -/
theorem nest_lies {e : TypeId} {es : List TypeId} {s : Sh} {xs : List s.T} {op : Option (Nat × List C1)} {p : Pl} {cur : Array Value} {uss : List (List Value)} {pss : List (List (Option Pl))} {A : Nat → Prop} {V : C1 → Value → Prop}
    (hn : Nest w A V e es s xs op p cur uss pss) {i : Nat} {us : List Value} (hu : uss[i]? = some us) (o n : Nat) : Lies w ⟨p.b, p.base + i * s.sz + o, none⟩ ((us.drop o).take n) := by
  refine ⟨fun j v hj => ?_⟩
  obtain ⟨h1, _⟩ := cut_get _ _ _ _ _ hj
  have := (hn.us i us hu).2 _ v h1
  rw [add_off, cell_at w p.b _ cur e (0, 0) hn.at_, ← this]
  congr 1; omega
/-- a new row over the blocks of a row that ends, or over a new block -/
theorem Rel.over (h : Rel Z H ρ w) {l : Nat} {p q : Pl} {n : AO} (hl : (H.at l).isLive = true) (hp : ρ l = some p) (hq : ∀ k, q.foot k → p.foot k ∨ w.heap.size ≤ k) (hqi : ∀ k, q.inn k → k ≠ q.b ∧ k < w'.heap.size) (hw : ∀ k, k < w.heap.size → k ≠ p.b → w'.heap[k]? = w.heap[k]?)
    (hos : w'.os = w.os) (htp : w'.tape = w.tape) (hou : w'.output = w.output) (hsz : w.heap.size ≤ w'.heap.size)
    (ho : Ext H ρ w (H.set l .dead ++ [n]) (put ρ H.length (some q)) w' → Holds Z (H.set l .dead ++ [n]) (put ρ H.length (some q)) w' H.length n) :
    Rel Z (H.set l .dead ++ [n]) (put ρ H.length (some q)) w' ∧ Ext H ρ w (H.set l .dead ++ [n]) (put ρ H.length (some q)) w' := by
  have hlt := at_lt hl
  have hlen : (H.set l .dead).length = H.length := by simp
  have atL : ∀ k, k < H.length → Heap.at (H.set l .dead ++ [n]) k = Heap.at (H.set l .dead) k := fun k hk => at_append_lt (by simpa using hk)
  have atN : Heap.at (H.set l .dead ++ [n]) H.length = n := by have := at_new (H := H.set l .dead) (o := n); rwa [hlen] at this
  have lv : ∀ k, (Heap.at (H.set l .dead ++ [n]) k).isLive = true → (k < H.length ∧ k ≠ l ∧ Heap.at (H.set l .dead ++ [n]) k = H.at k) ∨ k = H.length := by
    intro k hk
    rcases Nat.lt_or_ge k H.length with h1 | h1
    · left
      by_cases e : l = k
      · subst e; rw [atL _ h1, at_set_same h1] at hk; simp [AO.isLive] at hk
      · exact ⟨h1, fun e' => e e'.symm, by rw [atL _ h1, at_set_ne e]⟩
    · right
      have := at_lt hk; simp at this; omega
  have e : Ext H ρ w (H.set l .dead ++ [n]) (put ρ H.length (some q)) w' := by
    refine ⟨hos, htp, hou, hsz, fun k hk hn => hw k hk (fun e => hn ⟨l, p, hl, hp, .inl e.symm⟩), ?_, by simp, fun k hk => cor_of (put_lt ρ _ _ hk), fun k hk hv => ?_, fun k hk d hr => ?_⟩
    · rintro k ⟨j, p', hj, hp', hf⟩
      rcases lv j hj with ⟨h1, h2, h3⟩ | rfl
      · rw [h3] at hj; rw [put_lt ρ _ _ h1] at hp'
        exact .inl ⟨j, p', hj, hp', hf⟩
      · rw [put_same] at hp'; cases hp'
        exact (hq k hf).imp (fun hf => ⟨l, p, hl, hp, hf⟩) id
    · rcases lv k hv with ⟨h1, h2, h3⟩ | h3
      · rwa [h3] at hv
      · omega
    · rcases lv k (dim_live hr) with ⟨h1, h2, h3⟩ | h3
      · rw [h3] at hr; exact hr
      · omega
  refine ⟨h.step e (fun k hk => ?_) (fun k k' p1 p2 kk h1 hk hk' hp1 hp2 hb hb' => ?_), e⟩
  · rcases lv k hk with ⟨h1, h2, h3⟩ | rfl
    · rw [h3] at hk
      refine .inl ⟨h1, h3, put_lt ρ _ _ h1, fun p' kk hp' hf => hw _ (h.foot_lt hk hp' hf) (fun e => h2 ?_)⟩
      exact h.inj k l p' p p.b hk hl hp' hp (by subst e; exact hf) (.inl rfl)
    · rw [atN]
      refine .inr ⟨ho e, fun p1 kk hp1 hk1 => ?_⟩
      rw [put_same] at hp1; cases hp1
      exact hqi kk hk1
  · have e1 : k = H.length := by rcases lv k hk with ⟨h2, _⟩ | h2
                                 · exact absurd ⟨h2, put_lt ρ _ _ h2⟩ h1
                                 · exact h2
    subst e1
    rcases lv k' hk' with ⟨h2, h3, h4⟩ | h2
    · rw [put_same] at hp1; cases hp1
      rw [put_lt ρ _ _ h2] at hp2; rw [h4] at hk'
      rcases hq kk hb with hf | hf
      · exact absurd (h.inj k' l p2 p kk hk' hl hp2 hp hb' hf) h3
      · have := h.foot_lt hk' hp2 hb'; omega
    · exact h2.symm
theorem flat_idx {z : Nat} : ∀ {uss : List (List Value)} (h : ∀ us ∈ uss, us.length = z) {i j : Nat} {us : List Value} {v : Value}, uss[i]? = some us → us[j]? = some v → uss.flatten[i * z + j]? = some v
  | [], _, i, j, us, v, h, _ => by simp at h
  | u :: uss, hz, 0, j, us, v, h, hj => by
    simp only [List.getElem?_cons_zero, Option.some.injEq] at h; subst h
    rw [List.flatten_cons, Nat.zero_mul, Nat.zero_add, List.getElem?_append_left (List.getElem?_eq_some_iff.1 hj).1]
    exact hj
  | u :: uss, hz, i + 1, j, us, v, h, hj => by
    have := flat_idx (z := z) (uss := uss) (fun us hu => hz us (List.mem_cons_of_mem _ hu)) (i := i) (j := j) (by simpa using h) hj
    have hu := hz u (by simp)
    have hm : (i + 1) * z = i * z + z := Nat.succ_mul i z
    rw [List.flatten_cons, List.getElem?_append_right (by rw [hu]; omega), hu, ← this]
    congr 1; omega
theorem flat_len' {z : Nat} : ∀ {uss : List (List Value)} (h : ∀ us ∈ uss, us.length = z), uss.flatten.length = uss.length * z
  | [], _ => by simp
  | u :: uss, hz => by
    rw [List.flatten_cons, List.length_append, flat_len' (uss := uss) (fun us hu => hz us (List.mem_cons_of_mem _ hu)), hz u (by simp), List.length_cons, Nat.succ_mul]; omega
theorem flat_inv {z : Nat} : ∀ {uss : List (List Value)} (h : ∀ us ∈ uss, us.length = z) {k : Nat} {v : Value}, uss.flatten[k]? = some v → ∃ i j us, uss[i]? = some us ∧ us[j]? = some v ∧ k = i * z + j
  | [], _, k, v, h => by simp at h
  | u :: uss, hz, k, v, h => by
    rw [List.flatten_cons] at h
    rcases Nat.lt_or_ge k u.length with hk | hk
    · rw [List.getElem?_append_left hk] at h
      exact ⟨0, k, u, rfl, h, by omega⟩
    · rw [List.getElem?_append_right hk] at h
      obtain ⟨i, j, us, h1, h2, h3⟩ := flat_inv (uss := uss) (fun us hu => hz us (List.mem_cons_of_mem _ hu)) h
      have hu := hz u (by simp)
      exact ⟨i + 1, j, us, by simpa using h1, h2, by rw [Nat.succ_mul]; omega⟩
end
section
variable {P : Program} {X : Ctx P} {β : Type} {Z : Nat → Prop} {H : Heap} {ρ : Rho} {w w' : World} {o : Oper} {a : Act} {ts : TS}
variable (hR : Rel Z H ρ w) (ht : TRel Z H ρ w ts a) (hT : TIok P X.ti)
include hR ht hT
/-- a load -/
theorem loadN_ok {t : TypeId} {x : Operand} {r : TR} {l z i off : Nat} {e : TypeId} {es : List TypeId} {s : Sh} {xs : List s.T} {op : Option (Nat × List C1)} {ds cs : List C1} {v : AV} (ho : o.op = .load t x) (h1 : X.ti t = some r) (h2 : ev ts x = .v (.one (.ep l z i off))) (hat : H.at l = .nest e es s xs op)
    (hds : (op = none ∧ ds = s.avsN (gt s xs i)) ∨ op = some (i, ds)) (hc : cutN ds off (if isAggD r.d then r.size else 1) = some cs) (hm : mk2 (isAggD r.d) cs = some v) : ∃ cv, (execOp a.eval o).run P w = .ok (.value cv) w ∧ VA Z H ρ w v cv := by
  have hx := ev_ok hR ht x
  rw [h2] at hx
  obtain ⟨g1, _, g3⟩ := (hx : V0 Z H ρ w (.ep l z i off) (a.eval x))
  obtain ⟨hi, rfl, p, hp, hv⟩ := g3 _ _ (dim_nest hat)
  have hh := hR.obj l
  rw [hat] at hh
  rcases hh with ⟨hnil, _⟩ | ⟨q, cur, uss, pss, hq, hn⟩
  · rw [hnil] at hi; simp at hi
  rw [hp] at hq; cases hq
  have hiu : i < uss.length := by rw [hn.ul]; exact hi
  have hip : i < pss.length := by rw [hn.pl]; exact hi
  have hL : LR (V1 Z H ρ w) ds uss[i] := by
    rcases hds with ⟨rfl, rfl⟩ | rfl
    · have := hn.el i xs[i] uss[i] pss[i] (List.getElem?_eq_getElem hi) (List.getElem?_eq_getElem hiu) (List.getElem?_eq_getElem hip) (fun cs h => by cases h)
      rw [gt_at hi]
      exact (avsN_ok this).1
    · exact ((hn.op i ds rfl).2.2 _ _ (List.getElem?_eq_getElem hiu) (List.getElem?_eq_getElem hip)).2
  obtain ⟨rfl, hlen⟩ := cutN_ok' hc
  have hL2 := (hL.drop off).take (if isAggD r.d then r.size else 1)
  refine ⟨_, ?_, V2_mk2 hm hL2⟩
  have hl := nest_lies hn (List.getElem?_eq_getElem hiu) off (if isAggD r.d then r.size else 1)
  simp only [execOp, ho, Instr.loadAt, Sem.run_bind, Sem.run_pure, hv, Instr.sureAddr, Result.andThen_ok, loadVar_run hT h1 hl (by rw [← hL2.length]; exact hlen)]
/-- a store -/
theorem storeN_ok {t : TypeId} {x y : Operand} {r : TR} {l z i off : Nat} {e : TypeId} {es : List TypeId} {s : Sh} {xs : List s.T} {ds : List C1} {v : A2} (ho : o.op = .store t x y) (h1 : X.ti t = some r) (h2 : ev ts x = .v (.one (.ep l z i off))) (h3 : ev ts y = .v v) (hat : H.at l = .nest e es s xs (some (i, ds)))
    (hn0 : v.cells.length = r.size) (hst : v.cells.all storable = true) (hpos : 0 < r.size) (hoff : off + v.cells.length ≤ s.sz) : StepTo P o a w (OK Z H ρ w (.one .any) [(l, .nest e es s xs (some (i, putCells ds off v.cells)))] []) := by
  have hx := ev_ok hR ht x
  have hy := ev_ok hR ht y
  rw [h2] at hx
  rw [h3] at hy
  have hvl := cells_ok hst (hy : V2 Z H ρ w v _)
  have hone := all_one hst hvl
  obtain ⟨g1, _, g3⟩ := (hx : V0 Z H ρ w (.ep l z i off) (a.eval x))
  obtain ⟨hi, rfl, p, hp, hv⟩ := g3 _ _ (dim_nest hat)
  have hh := hR.obj l
  rw [hat] at hh
  have hlive : (H.at l).isLive = true := by rw [hat]; rfl
  rcases hh with ⟨_, hnil, _⟩ | ⟨q, cur, uss, pss, hq, hn⟩
  · cases hnil
  rw [hp] at hq; cases hq
  have hiu : i < uss.length := by rw [hn.ul]; exact hi
  have hip : i < pss.length := by rw [hn.pl]; exact hi
  obtain ⟨_, hdst, hop⟩ := hn.op i ds rfl
  obtain ⟨hps, hL⟩ := hop _ _ (List.getElem?_eq_getElem hiu) (List.getElem?_eq_getElem hip)
  obtain ⟨hul, hcu⟩ := hn.us i uss[i] (List.getElem?_eq_getElem hiu)
  generalize hus : uss[i] = us at hL hul hcu
  generalize hws : (a.eval y).cells.toList = ws at hvl hone
  have hwl : ws.length = v.cells.length := hvl.length.symm
  have hwsz : (a.eval y).cells.size = ws.length := by rw [← hws]; simp
  have hiz : i * s.sz + s.sz ≤ xs.length * s.sz := by rw [← Nat.succ_mul]; exact Nat.mul_le_mul_right _ hi
  have hxp : xs.length * s.sz ≤ p.cap * s.sz := Nat.mul_le_mul_right _ hn.len
  have hsz := hn.size
  have hrun := storeVar_run (w := w) hT h1 (b := p.b) (off := p.base + i * s.sz + off) (v := a.eval y) (cur := cur) (e := e) (by omega) hn.at_ (by omega) (by rw [hws]; exact hone)
  rw [hws] at hrun
  have hcl : (cur.toList.take (p.base + i * s.sz + off) ++ ws ++ cur.toList.drop (p.base + i * s.sz + off + ws.length)).length = cur.size := by simp; omega
  have ex := ext_set (H := H) (ρ := ρ) (w := w) (w' := w.setRow p.b (cur.toList.take (p.base + i * s.sz + off) ++ ws ++ cur.toList.drop (p.base + i * s.sz + off + ws.length)).toArray) (.nest e es s xs (some (i, putCells ds off v.cells))) hlive hp (fun k hk => setRow_other w _ _ _ hk) rfl rfl rfl (by simp) (fun d hd => by rw [hat]; exact hd)
  have hget : ∀ k, (k < p.base + i * s.sz + off ∨ p.base + i * s.sz + off + ws.length ≤ k) → (cur.toList.take (p.base + i * s.sz + off) ++ ws ++ cur.toList.drop (p.base + i * s.sz + off + ws.length)).toArray[k]? = cur[k]? := fun k hk => by
    simp only [List.getElem?_toArray]
    have hb2 : (cur.toList.take (p.base + i * s.sz + off)).length = p.base + i * s.sz + off := by simp; omega
    rw [List.append_assoc]
    rcases Nat.lt_or_ge k (p.base + i * s.sz + off) with c1 | c1
    · rw [List.getElem?_append_left (by omega), List.getElem?_take, if_pos c1, Array.getElem?_toList]
    · rw [List.getElem?_append_right (by omega), hb2, List.getElem?_append_right (by omega), List.getElem?_drop, Array.getElem?_toList]
      congr 1; omega
  have hgetw : ∀ k, k < ws.length → (cur.toList.take (p.base + i * s.sz + off) ++ ws ++ cur.toList.drop (p.base + i * s.sz + off + ws.length)).toArray[p.base + i * s.sz + off + k]? = ws[k]? := fun k hk => by
    simp only [List.getElem?_toArray]
    have hb2 : (cur.toList.take (p.base + i * s.sz + off)).length = p.base + i * s.sz + off := by simp; omega
    rw [List.append_assoc, List.getElem?_append_right (by omega), hb2, List.getElem?_append_left (by omega)]
    congr 1; omega
  have hrel := Rel.set hR (.nest e es s xs (some (i, putCells ds off v.cells))) hlive hp (fun k hk => setRow_other w _ _ _ hk) rfl rfl rfl (by simp) (fun d hd => by rw [hat]; exact hd) (w' := w.setRow p.b (cur.toList.take (p.base + i * s.sz + off) ++ ws ++ cur.toList.drop (p.base + i * s.sz + off + ws.length)).toArray)
    (.inr ⟨p, _, uss.set i (us.take off ++ ws ++ us.drop (off + ws.length)), pss, hp, ⟨setRow_heap w _ _ _ _ _ hn.at_, by simp only [List.size_toArray, hcl]; exact hn.size, hn.len, hn.cap, by simpa using hn.ul, hn.pl, fun i' us' hu' => ?_, fun i' x' us' ps' k1 k2 k3 k4 => ?_, fun i' cs' hop' => ?_, hn.pd⟩⟩)
  · refine StepTo.skip (w' := w.setRow p.b (cur.toList.take (p.base + i * s.sz + off) ++ ws ++ cur.toList.drop (p.base + i * s.sz + off + ws.length)).toArray) ?_ ?_
    · simp only [execOp, ho, hv, Instr.storeAt, Instr.sureAddr, Sem.run_bind, Sem.run_pure, Result.andThen_ok, hrun]
    · have e0 : H.upd [(l, .nest e es s xs (some (i, putCells ds off v.cells)))] ++ [] = H.set l (.nest e es s xs (some (i, putCells ds off v.cells))) := by simp [Heap.upd]
      exact ⟨ρ, trivial, by rw [e0]; exact hrel, by rw [e0]; exact ex, fun l2 hl2 hv2 => ⟨rfl, fun p2 k hp2 hf => setRow_other w _ _ _ fun e => hl2 (l, _) (List.mem_singleton.2 rfl) (hR.inj l l2 p p2 p.b hlive hv2 hp hp2 (.inl rfl) (by subst e; exact hf))⟩⟩
  · by_cases hii : i = i'
    · subst hii
      rw [List.getElem?_set_self hiu] at hu'
      simp only [Option.some.injEq] at hu'
      subst hu'
      refine ⟨by simp; omega, fun j u hj => ?_⟩
      have hb1 : (us.take off).length = off := by simp; omega
      rw [List.append_assoc] at hj
      rcases Nat.lt_or_ge j off with c1 | c1
      · rw [List.getElem?_append_left (by omega), List.getElem?_take, if_pos c1] at hj
        rw [hget _ (.inl (by omega))]
        exact hcu j u hj
      · rw [List.getElem?_append_right (by omega), hb1] at hj
        rcases Nat.lt_or_ge (j - off) ws.length with c2 | c2
        · rw [List.getElem?_append_left c2] at hj
          have := hgetw (j - off) c2
          rw [show p.base + i * s.sz + off + (j - off) = p.base + i * s.sz + j by omega] at this
          rw [this]; exact hj
        · rw [List.getElem?_append_right c2, List.getElem?_drop] at hj
          rw [hget _ (.inr (by omega))]
          have := hcu _ u hj
          rw [← this]; congr 1; omega
    · rw [List.getElem?_set_ne hii] at hu'
      obtain ⟨a1, a2⟩ := hn.us i' us' hu'
      refine ⟨a1, fun j u hj => ?_⟩
      have hj2 : j < s.sz := by rw [← a1]; exact (List.getElem?_eq_some_iff.1 hj).1
      rw [hget _ ?_]
      · exact a2 j u hj
      · rcases Nat.lt_or_gt_of_ne hii with h | h
        · right
          have : (i + 1) * s.sz ≤ i' * s.sz := Nat.mul_le_mul_right _ h
          rw [Nat.succ_mul] at this; omega
        · left
          have : (i' + 1) * s.sz ≤ i * s.sz := Nat.mul_le_mul_right _ h
          rw [Nat.succ_mul] at this; omega
  · have hii : i ≠ i' := fun e => k4 _ (by rw [e])
    rw [List.getElem?_set_ne hii] at k2
    refine (hn.el i' x' us' ps' k1 k2 k3 (fun cs h => by cases h; exact hii rfl)).mono (fun _ _ => ex.R1) fun q hq => setRow_other w _ _ _ ?_
    exact (hR.inn l p _ hlive hp (hn.pd.foot i' ps' q k3 hq)).1
  · simp only [Option.some.injEq, Prod.mk.injEq] at hop'
    obtain ⟨rfl, rfl⟩ := hop'
    refine ⟨hi, putCells_st hdst hst, fun us' ps' k1 k2 => ?_⟩
    rw [List.getElem?_set_self hiu] at k1
    rw [List.getElem?_eq_getElem hip] at k2
    simp only [Option.some.injEq] at k1 k2
    subst k1 k2
    exact ⟨hps, (putCells_LR hL hvl).imp fun _ _ => ex.V1⟩
/-- a row of one element, laid open -/
theorem buildN_ok {t : TypeId} {ps : Array (Nat × Operand)} {tr te : TR} {e : TypeId} {es : List TypeId} {cs : List C1} (ho : o.op = .buildSlice t 1 ps) (h1 : X.ti t = some tr) (hd : tr.d = .slice e) (he : X.ti e = some te)
    (hf : fillCells (fun i => some (i * te.size, te.size)) (reps te.zero 1) (partsOf ts ps) = some cs) (hst : cs.all storable = true) (hsm : 1 * te.size ≤ 4096) (hsz : te.sh.sz = te.size) (hpos : 0 < te.size) (hcs : cs.length = te.size) :
    StepTo P o a w (OK Z H ρ w (.one (.own H.length te.sh.sz)) [] [.nest e es te.sh [te.sh.dflt] (some (0, cs))]) := by
  have hu := hT.und t tr h1
  rw [hd] at hu
  obtain ⟨i, z, g1, g2, g3, g4, g5, g6, g7⟩ := hT.info e te he
  have hzs : z.cells.size = i.size := by rw [← Array.length_toList, g5, g6, g2]
  have hm := range_mul z.cells i.size hzs 1
  have hz0 := reps_LR (Z := Z) (H := H) (ρ := ρ) (w := w) g7 1
  have hmc : (madeCells z.cells (1 * i.size)).toList = (List.replicate 1 te.zero).flatten := by rw [hm, g5]
  rw [← hmc] at hz0
  obtain ⟨cv', n1, n2⟩ := fill_ok _ _ _ _ _ hf (parts_rel hR ht ps) hz0
  have hcl : cv'.size = te.size := by
    rw [← Array.length_toList, ← n2.length, hcs]
  have g := World.grownBy_alloc w (.cells cv' e) none
  have hq : ∀ p, (some (Pl.new w.heap.size 0 1)) = some p → w.heap.size ≤ p.b ∧ ∀ k, ¬ p.inn k := fun p hp => by cases hp; exact ⟨Nat.le_refl _, fun _ h => h⟩
  have e2 := Ext.new (H := H) (ρ := ρ) (.nest e es te.sh [te.sh.dflt] (some (0, cs))) (some (Pl.new w.heap.size 0 1)) g hq
  refine StepTo.value (cv := .slice (some ⟨w.heap.size, 0, none⟩) 1 1) (w' := w.alloc (.cells cv' e)) ?_ ?_
  · have hr := run_buildSlice (P := P) w t e 1 (ps.map fun (i, x) => (i, a.eval x)) cv' i z hu g1 g4 (by rw [g2]; omega) (by rw [g2]; exact Nat.ne_of_gt (Nat.mul_pos (by omega) hpos)) (by rw [g2]; rw [g2] at n1; exact n1)
    simp only [execOp, ho, Sem.run_bind, hr, Result.andThen_ok, Sem.run_pure]
  · refine OK.new hR g hq (.inr ⟨_, cv', [cv'.toList], [[]], put_same _ _ _, ⟨heap_alloc_new w _, by simp [hcl, hsz], by simp, by simp [maxLen], rfl, rfl, fun i us hu => ?_, fun i x us ps k1 k2 k3 k4 => ?_, fun i ds hop => ?_, ⟨fun i ps q k1 k2 => ?_, fun i1 i2 ps1 ps2 m1 m2 q1 q2 k1 k2 k3 k4 k5 => ?_⟩⟩⟩) ⟨by simp, rfl, fun z2 n2 hd => ?_⟩
    · cases i with
      | succ i => simp at hu
      | zero =>
        simp only [List.getElem?_cons_zero, Option.some.injEq] at hu; subst hu
        exact ⟨by simp [hcl, hsz], fun j v hj => by simpa using hj⟩
    · cases i with
      | succ i => simp at k1
      | zero => exact absurd rfl (k4 cs)
    · simp only [Option.some.injEq, Prod.mk.injEq] at hop
      obtain ⟨rfl, rfl⟩ := hop
      refine ⟨by simp, hst, fun us ps k1 k2 => ?_⟩
      simp only [List.getElem?_cons_zero, Option.some.injEq] at k1 k2
      subst k1 k2
      exact ⟨rfl, n2.imp fun _ _ => e2.V1⟩
    · cases i with
      | succ i => simp at k1
      | zero => simp only [List.getElem?_cons_zero, Option.some.injEq] at k1; subst k1; cases k2
    · cases i1 with
      | succ i => simp at k1
      | zero => simp only [List.getElem?_cons_zero, Option.some.injEq] at k1; subst k1; simp at k3
    · rw [at_new] at hd
      cases hd
      exact ⟨rfl, .inl ⟨_, 1, put_same _ _ _, by simp, by simp, by simp⟩⟩
/-- one element more, that lies open -/
theorem appendN_ok {t e : TypeId} {s x : Operand} {args : Array Operand} {tys : Array TypeId} {tr te : TR} {c : C1} {l2 z2 : Nat} {es : List TypeId} {sh : Sh} {y : sh.T} {cs : List C1} (ho : o.op = .call { callee := .builtin .append, args := args, argTypes := tys }) (ha : args.toList = [s, x]) (hty : tys.toList = [t, t])
    (h1 : X.ti t = some tr) (h2 : ev ts s = .v (.one c)) (h3 : ev ts x = .v (.one (.own l2 z2))) (hd : tr.d = .slice e) (he : X.ti e = some te) (hat2 : H.at l2 = .nest e es sh [y] (some (0, cs))) (hsz : sh.sz = te.size) (hpos : 0 < te.size) (hbpos : 0 < te.bytes) {l : Nat} {xs : List sh.T}
    (hc : (c = .lit (.slice none 0 0) ∧ xs = [] ∧ l = l2) ∨ (∃ z, c = .own l z ∧ z = sh.sz ∧ H.at l = .nest e es sh xs none ∧ l ≠ l2)) (hb : (xs.length + 1) * te.bytes ≤ 140737488355328) :
    StepTo P o a w (OK Z H ρ w (.one (.own H.length sh.sz)) [(l, .dead), (l2, .dead)] [.nest e es sh (xs ++ [sh.dflt]) (some (xs.length, cs))]) := by
  have hs := ev_ok hR ht s
  have hx := ev_ok hR ht x
  have hargs : args = #[s, x] := by apply Array.ext'; simpa using ha
  have htys : tys = #[t, t] := by apply Array.ext'; simpa using hty
  subst hargs htys
  rw [h2] at hs
  rw [h3] at hx
  -- the new element
  have hlive2 : (H.at l2).isLive = true := by rw [hat2]; rfl
  obtain ⟨_, _, hx3⟩ := (hx : V0 Z H ρ w (.own l2 z2) (a.eval x))
  obtain ⟨hz2, hxs⟩ := hx3 _ _ (dim_nest hat2)
  have ho2 := hR.obj l2
  rw [hat2] at ho2
  rcases ho2 with ⟨hn0, _⟩ | ⟨p2, cur2, uss2, pss2, hp2, hn2⟩
  · cases hn0
  have hu0 : 0 < uss2.length := by rw [hn2.ul]; simp
  have hp0 : 0 < pss2.length := by rw [hn2.pl]; simp
  obtain ⟨_, hcst, hop2⟩ := hn2.op 0 cs rfl
  obtain ⟨_, hcL⟩ := hop2 _ _ (List.getElem?_eq_getElem hu0) (List.getElem?_eq_getElem hp0)
  have hul := (hn2.us 0 _ (List.getElem?_eq_getElem hu0)).1
  have hlies0 := nest_lies hn2 (List.getElem?_eq_getElem hu0) 0 sh.sz
  rw [List.drop_zero, List.take_of_length_le (by omega)] at hlies0
  generalize hnus : uss2[0] = nus at hcL hul hlies0
  have hnone := all_one hcst hcL
  obtain ⟨mc, hxv⟩ : ∃ mc, a.eval x = .slice (some ⟨p2.b, p2.base + 0 * sh.sz + 0, none⟩) 1 mc := by
    rcases hxs with ⟨p', cap, hp', hv, _⟩ | ⟨h0, _⟩
    · rw [hp2] at hp'; cases hp'
      exact ⟨cap, by rw [hv, hz2]; rfl⟩
    · simp at h0
  have hnl : nus.length = 1 * te.size := by omega
  have hnA : nus = [] ∨ ∃ b, some (⟨p2.b, p2.base + 0 * sh.sz + 0, none⟩ : Addr) = some b ∧ Lies w b nus := .inr ⟨_, rfl, hlies0⟩
  have run : ∀ {sv cv : Value} {w' : World}, a.eval s = sv → (Builtin.append_ #[t, t] o.type #[sv, .slice (some ⟨p2.b, p2.base + 0 * sh.sz + 0, none⟩) 1 mc]).run P w = .ok cv w' → (execOp a.eval o).run P w = .ok (.value cv) w' := by
    intro sv cv w' hsv hr
    simp only [execOp, ho, resolve, invoke, builtin, Sem.run_bind, Sem.run_pure, Result.andThen_ok, List.map_toArray, List.map_cons, List.map_nil, hsv, hxv, hr]
  have hb' : (xs.length + 1) * te.bytes ≤ 140737488355328 := hb
  -- what dies
  let H1 := (H.set l .dead).set l2 .dead
  have hH1 : H1.length = H.length := by simp [H1]
  have hR1 : Rel Z H1 ρ w := (hR.kill l).kill l2
  have e1 : Ext H ρ w H1 ρ w := (ext_kill l).trans (ext_kill l2)
  have hup : H.upd [(l, .dead), (l2, .dead)] = H1 := rfl
  -- an element's cells behind those that are there
  have tailV : ∀ {H' : Heap} {ρ' : Rho} {w' : World}, Ext H ρ w H' ρ' w' → LR (V1 Z H' ρ' w') cs nus := fun ex => hcL.imp fun _ _ => ex.V1
  -- from nothing
  have fresh : ∀ {sa : Option Addr}, a.eval s = .slice sa 0 0 → xs = [] → StepTo P o a w (OK Z H ρ w (.one (.own H.length sh.sz)) [(l, .dead), (l2, .dead)] [.nest e es sh (xs ++ [sh.dflt]) (some (xs.length, cs))]) := by
    intro sa hsv hxs0
    subst hxs0
    obtain ⟨C, z, hC1, hC2, hz, hrun⟩ := append_grows (w := w) (ty := o.type) (mc := mc) (sa := sa) (n := 0) (cap := 0) (olds := []) hT h1 hd he (by simp) (.inl rfl) hnl hnA (by simpa using hb') hbpos (by omega)
    refine StepTo.value (run hsv hrun) ?_
    have g := grown_drew_alloc w (.cells (([] : List Value).toArray ++ nus.toArray ++ z) e)
    have hq : ∀ p, (some (Pl.new w.heap.size 0 C)) = some p → w.heap.size ≤ p.b ∧ ∀ k, ¬ p.inn k := fun p hp => by cases hp; exact ⟨Nat.le_refl _, fun _ h => h⟩
    have e2 := Ext.new (H := H1) (ρ := ρ) (.nest e es sh ([] ++ [sh.dflt]) (some (0, cs))) (some (Pl.new w.heap.size 0 C)) g hq
    have hm : C * te.size = 1 * te.size + (C - 1) * te.size := by rw [← Nat.add_mul]; congr 1; omega
    rw [Nat.zero_add] at hz
    have := OK.new (v := .one (.own H.length sh.sz)) (cv := .slice (some ⟨w.heap.size, 0, none⟩) (0 + 1) C) (n := .nest e es sh ([] ++ [sh.dflt]) (some (0, cs))) hR1 g hq (.inr ⟨_, _, [nus], [[]], put_same _ _ _, ⟨heap_alloc_new w.drew _, by simp [hz, hnl, hsz]; omega, by simp; omega, hC2, rfl, rfl, fun i us hu => ?_, fun i x us ps k1 k2 k3 k4 => ?_, fun i ds hop => ?_, ⟨fun i ps q k1 k2 => ?_, fun i1 i2 ps1 ps2 m1 m2 q1 q2 k1 k2 k3 k4 k5 => ?_⟩⟩⟩) ⟨by simp [hH1], rfl, fun z3 n3 hd3 => ?_⟩
    · have := OK.before (V := []) (U := [(l, .dead), (l2, .dead)]) e1 this
      simpa using this
    · cases i with
      | succ i => simp at hu
      | zero =>
        simp only [List.getElem?_cons_zero, Option.some.injEq] at hu; subst hu
        refine ⟨hul, fun j v hj => ?_⟩
        rw [← Array.getElem?_toList]
        simp only [Array.toList_append, List.nil_append]
        rw [List.getElem?_append_left (by simpa using (List.getElem?_eq_some_iff.1 hj).1)]
        simpa using hj
    · cases i with
      | succ i => simp at k1
      | zero => exact absurd rfl (k4 cs)
    · simp only [List.length_nil, Option.some.injEq, Prod.mk.injEq] at hop
      obtain ⟨rfl, rfl⟩ := hop
      refine ⟨by simp, hcst, fun us ps k1 k2 => ?_⟩
      simp only [List.getElem?_cons_zero, Option.some.injEq] at k1 k2
      subst k1 k2
      exact ⟨rfl, tailV (e1.trans e2)⟩
    · cases i with
      | succ i => simp at k1
      | zero => simp only [List.getElem?_cons_zero, Option.some.injEq] at k1; subst k1; cases k2
    · cases i1 with
      | succ i => simp at k1
      | zero => simp only [List.getElem?_cons_zero, Option.some.injEq] at k1; subst k1; simp at k3
    · rw [← hH1, at_new] at hd3
      cases hd3
      exact ⟨rfl, .inl ⟨_, C, by rw [← hH1]; exact put_same _ _ _, by simp, by simpa using hC1, by simp⟩⟩
  rcases hc with ⟨rfl, hx0, _⟩ | ⟨z, rfl, rfl, hat, hll2⟩
  · exact fresh (sa := none) (hs : a.eval s = _ ∧ _).1 hx0
  have hlive : (H.at l).isLive = true := by rw [hat]; rfl
  obtain ⟨_, _, hs3⟩ := (hs : V0 Z H ρ w (.own l sh.sz) (a.eval s))
  obtain ⟨_, hsl⟩ := hs3 _ _ (dim_nest hat)
  rcases hsl with ⟨p, cap, hp, hsv, hc1, hc2⟩ | ⟨h0, sa, hsv⟩
  case inr => exact fresh (by rw [hsv]) (List.eq_nil_of_length_eq_zero h0)
  have hob := hR.obj l
  rw [hat] at hob
  rcases hob with ⟨_, _, hn0⟩ | ⟨q, cur, uss, pss, hq, hn⟩
  · rw [hp] at hn0; cases hn0
  rw [hp] at hq; cases hq
  have hzs : ∀ us ∈ uss, us.length = te.size := fun us hu => by
    obtain ⟨i, hi⟩ := List.getElem?_of_mem hu
    rw [← hsz]; exact (hn.us i us hi).1
  have hol : uss.flatten.length = xs.length * te.size := by rw [flat_len' hzs, hn.ul]
  have hoA : uss.flatten = [] ∨ ∃ b, some (⟨p.b, p.base + 0 * sh.sz, none⟩ : Addr) = some b ∧ Lies w b uss.flatten := by
    refine .inr ⟨_, rfl, ⟨fun k v hk => ?_⟩⟩
    obtain ⟨i, j, us, k1, k2, rfl⟩ := flat_inv hzs hk
    have := (hn.us i us k1).2 j v k2
    rw [add_off, cell_at w p.b _ cur e (0, 0) hn.at_, ← this, hsz]
    congr 1; omega
  have hlive1 : (Heap.at (H.set l2 .dead) l).isLive = true := by rw [at_set_ne (fun e => hll2 e.symm)]; exact hlive
  have hcomm : H1 = (H.set l2 .dead).set l .dead := by simp only [H1]; exact List.set_comm _ _ hll2
  -- the new row's parts
  have nest' : ∀ {q : Pl} {cur' : Array Value} {w' : World} {H' : Heap} {ρ' : Rho}, Ext H ρ w H' ρ' w' → w'.heap[q.b]? = some (.cells cur' e (0, 0)) → q.base + q.cap * sh.sz ≤ cur'.size → xs.length + 1 ≤ q.cap → q.cap ≤ maxLen → q.inn = p.inn →
      (∀ b, b ≠ p.b → b < w.heap.size → w'.heap[b]? = w.heap[b]?) → (∀ i us, uss[i]? = some us → ∀ (j : Nat) v, us[j]? = some v → cur'[q.base + i * sh.sz + j]? = some v) → (∀ (j : Nat) v, nus[j]? = some v → cur'[q.base + xs.length * sh.sz + j]? = some v) →
      Nest w' (A Z H' ρ' w') (V1 Z H' ρ' w') e es sh (xs ++ [sh.dflt]) (some (xs.length, cs)) q cur' (uss ++ [nus]) (pss ++ [[]]) := by
    intro q cur' w' H' ρ' ex a1 a2 a3 a4 a5 a6 a7 a8
    refine ⟨a1, a2, by simpa using a3, a4, by simp [hn.ul], by simp [hn.pl], fun i us hu => ?_, fun i x us ps k1 k2 k3 k4 => ?_, fun i ds hop => ?_, ⟨fun i ps r k1 k2 => ?_, fun i1 i2 ps1 ps2 m1 m2 q1 q2 k1 k2 k3 k4 k5 => ?_⟩⟩
    · rcases Nat.lt_or_ge i uss.length with hi | hi
      · rw [List.getElem?_append_left hi] at hu
        exact ⟨(hn.us i us hu).1, a7 i us hu⟩
      · rw [List.getElem?_append_right hi] at hu
        have hi2 : i = uss.length := by
          have := (List.getElem?_eq_some_iff.1 hu).1; simp at this; omega
        subst hi2
        simp only [Nat.sub_self, List.getElem?_cons_zero, Option.some.injEq] at hu; subst hu
        rw [hn.ul]; exact ⟨hul, a8⟩
    · have hi : i < xs.length := by
        rcases Nat.lt_or_ge i xs.length with h | h
        · exact h
        · rw [List.getElem?_append_right h] at k1
          have := (List.getElem?_eq_some_iff.1 k1).1
          simp at this
          exact absurd (by rw [show i = xs.length by omega]) (k4 cs)
      rw [List.getElem?_append_left hi] at k1
      rw [List.getElem?_append_left (by rw [hn.ul]; exact hi)] at k2
      rw [List.getElem?_append_left (by rw [hn.pl]; exact hi)] at k3
      refine (hn.el i x us ps k1 k2 k3 (fun cs h => by cases h)).mono (fun _ _ => ex.R1) fun r hr => ?_
      obtain ⟨b1, b2⟩ := hR.inn l p _ hlive hp (hn.pd.foot i ps r k3 hr)
      exact a6 _ b1 b2
    · simp only [Option.some.injEq, Prod.mk.injEq] at hop
      obtain ⟨rfl, rfl⟩ := hop
      refine ⟨by simp, hcst, fun us ps k1 k2 => ?_⟩
      rw [List.getElem?_append_right (by rw [hn.ul]; exact Nat.le_refl _), hn.ul] at k1
      rw [List.getElem?_append_right (by rw [hn.pl]; exact Nat.le_refl _), hn.pl] at k2
      simp only [Nat.sub_self, List.getElem?_cons_zero, Option.some.injEq] at k1 k2
      subst k1 k2
      exact ⟨rfl, tailV ex⟩
    · rw [a5]
      rcases Nat.lt_or_ge i pss.length with hi | hi
      · rw [List.getElem?_append_left hi] at k1
        exact hn.pd.foot i ps r k1 k2
      · rw [List.getElem?_append_right hi] at k1
        have hi2 : i - pss.length = 0 := by have := (List.getElem?_eq_some_iff.1 k1).1; simp at this; omega
        rw [hi2] at k1
        simp only [List.getElem?_cons_zero, Option.some.injEq] at k1; subst k1; cases k2
    · have key : ∀ (i : Nat) (ps : List (Option Pl)) (m : Nat) (r : Pl), (pss ++ [[]])[i]? = some ps → ps[m]? = some (some r) → pss[i]? = some ps := fun i ps m r h1 h2 => by
        rcases Nat.lt_or_ge i pss.length with hi | hi
        · rwa [List.getElem?_append_left hi] at h1
        · rw [List.getElem?_append_right hi] at h1
          have hi2 : i - pss.length = 0 := by have := (List.getElem?_eq_some_iff.1 h1).1; simp at this; omega
          rw [hi2] at h1
          simp only [List.getElem?_cons_zero, Option.some.injEq] at h1; subst h1; rw [List.getElem?_nil] at h2; cases h2
      exact hn.pd.apart i1 i2 ps1 ps2 m1 m2 q1 q2 (key _ _ _ _ k1 k3) (key _ _ _ _ k2 k4) k3 k4 k5
  rcases Nat.lt_or_ge cap (xs.length + 1) with hgr | hroom
  · obtain ⟨C, z, hC1, hC2, hz, hrun⟩ := append_grows (w := w) (ty := o.type) (mc := mc) (n := xs.length) (m := 1) hT h1 hd he hol hoA hnl hnA hb' hbpos hgr
    refine StepTo.value (run hsv hrun) ?_
    have g := grown_drew_alloc w (.cells (uss.flatten.toArray ++ nus.toArray ++ z) e)
    have hhs : w.heap.size < (w.drew.alloc (.cells (uss.flatten.toArray ++ nus.toArray ++ z) e)).heap.size := (Array.getElem?_eq_some_iff.1 (heap_alloc_new w.drew (.cells (uss.flatten.toArray ++ nus.toArray ++ z) e))).1
    have mv := Rel.over (w' := w.drew.alloc (.cells (uss.flatten.toArray ++ nus.toArray ++ z) e)) (hR.kill l2) (q := ⟨w.heap.size, 0, C, p.inn⟩) (n := .nest e es sh (xs ++ [sh.dflt]) (some (xs.length, cs))) hlive1 hp (fun k hk => hk.elim (fun h => .inr (Nat.le_of_eq h)) (fun h => .inl (.inr h))) (fun k hk => by
      have := (hR.inn l p k hlive hp hk).2
      exact ⟨by simp only; omega, by omega⟩) (fun k hk _ => g.block k hk (by simp)) g.os g.tape g.output g.size
    have hm : C * te.size = (xs.length * te.size + 1 * te.size) + (C - (xs.length + 1)) * te.size := by rw [← Nat.add_mul, ← Nat.add_mul]; congr 1; omega
    obtain ⟨f1, f2⟩ := mv (fun ex => .inr ⟨_, _, _, _, by rw [List.length_set]; exact put_same _ _ _, nest' (q := ⟨w.heap.size, 0, C, p.inn⟩) ((ext_kill l2).trans ex) (heap_alloc_new w.drew _) (by simp only [Array.size_append, List.size_toArray, hol, hnl, hz, hsz]; omega) hC1 hC2 rfl (fun b _ hb => g.block b hb (by simp)) (fun i us hu j v hj => by
        simp only [Nat.zero_add]
        have h5 := flat_idx hzs hu hj
        rw [← Array.getElem?_toList, hsz]
        simp only [Array.toList_append]
        rw [List.append_assoc, List.getElem?_append_left (by simpa using (List.getElem?_eq_some_iff.1 h5).1)]
        simpa using h5) (fun j v hj => by
        simp only [Nat.zero_add]
        rw [← Array.getElem?_toList, hsz]
        simp only [Array.toList_append]
        rw [List.append_assoc, List.getElem?_append_right (by simp [hol]), hol, Nat.add_sub_cancel_left, List.getElem?_append_left (by simpa using (List.getElem?_eq_some_iff.1 hj).1)]
        simpa using hj)⟩)
    rw [List.length_set] at f1 f2
    have eU : H.upd [(l, .dead), (l2, .dead)] ++ [AO.nest e es sh (xs ++ [sh.dflt]) (some (xs.length, cs))] = (H.set l2 .dead).set l .dead ++ [AO.nest e es sh (xs ++ [sh.dflt]) (some (xs.length, cs))] := by rw [hup, hcomm]
    refine ⟨put ρ H.length (some ⟨w.heap.size, 0, C, p.inn⟩), ?_, by rw [eU]; exact f1, by rw [eU]; exact (ext_kill l2).trans f2, fun k hk hv => ?_⟩
    · rw [eU]
      refine ⟨by simp, rfl, fun z3 n3 hd3 => ?_⟩
      have hat3 := at_new (H := (H.set l2 .dead).set l .dead) (o := AO.nest e es sh (xs ++ [sh.dflt]) (some (xs.length, cs)))
      rw [List.length_set, List.length_set] at hat3
      rw [hat3] at hd3
      cases hd3
      exact ⟨rfl, .inl ⟨_, C, put_same _ _ _, by simp, by simpa using hC1, by simp⟩⟩
    · exact ⟨put_lt ρ _ _ (at_lt hv), fun q2 b hq2 hf => g.block _ (hR.foot_lt hv hq2 hf) (by simp)⟩
  · have hxcap : xs.length * sh.sz + sh.sz ≤ p.cap * sh.sz := by rw [← Nat.succ_mul]; exact Nat.mul_le_mul_right _ (by omega)
    have hsize := hn.size
    have e5 : xs.length * te.size = xs.length * sh.sz := by rw [hsz]
    have hst := run_storeCells_at P p.b (p.base + 0 * sh.sz + xs.length * te.size) e nus 0 cur w hn.at_ (by rw [hnl, ← hsz]; omega) hnone
    simp only [Nat.add_zero] at hst
    have hrun := append_stays (w := w) (ty := o.type) (mc := mc) (n := xs.length) (cap := cap) (m := 1) (sa := some ⟨p.b, p.base + 0 * sh.sz, none⟩) hT h1 hd he hnl hnA hroom (fun b hb => by cases hb; rw [add_off]; exact hst) (by simp)
    refine StepTo.value (run hsv hrun) ?_
    have hcl : (cur.toList.take (p.base + 0 * sh.sz + xs.length * te.size) ++ nus ++ cur.toList.drop (p.base + 0 * sh.sz + xs.length * te.size + nus.length)).length = cur.size := by simp; omega
    have hpb : p.b < w.heap.size := hR.lt hlive hp
    have mv := Rel.over (w' := w.setRow p.b (cur.toList.take (p.base + 0 * sh.sz + xs.length * te.size) ++ nus ++ cur.toList.drop (p.base + 0 * sh.sz + xs.length * te.size + nus.length)).toArray) (hR.kill l2) (q := p) (n := .nest e es sh (xs ++ [sh.dflt]) (some (xs.length, cs))) hlive1 hp (fun k hk => .inl hk) (fun k hk => by
      have := hR.inn l p k hlive hp hk
      exact ⟨this.1, by simpa using this.2⟩) (fun k hk hne => setRow_other w _ _ _ hne) rfl rfl rfl (by simp)
    obtain ⟨f1, f2⟩ := mv (fun ex => .inr ⟨_, _, _, _, by rw [List.length_set]; exact put_same _ _ _, nest' (q := p) ((ext_kill l2).trans ex) (setRow_heap w _ _ _ _ _ hn.at_) (by simp only [List.size_toArray, hcl]; exact hsize) (by omega) hn.cap rfl (fun b hb _ => setRow_other w _ _ _ hb) (fun i us hu j v hj => by
        have hi : i < xs.length := by rw [← hn.ul]; exact (List.getElem?_eq_some_iff.1 hu).1
        have hj2 : j < sh.sz := by rw [← (hn.us i us hu).1]; exact (List.getElem?_eq_some_iff.1 hj).1
        have hm : (i + 1) * sh.sz ≤ xs.length * sh.sz := Nat.mul_le_mul_right _ hi
        rw [Nat.succ_mul] at hm
        simp only [List.getElem?_toArray]
        rw [List.append_assoc, List.getElem?_append_left (by simp; omega), List.getElem?_take, if_pos (by omega), Array.getElem?_toList]
        exact (hn.us i us hu).2 j v hj) (fun j v hj => by
        have hjl := (List.getElem?_eq_some_iff.1 hj).1
        have hlt : (cur.toList.take (p.base + 0 * sh.sz + xs.length * te.size)).length = p.base + xs.length * sh.sz := by rw [← hsz]; simp; omega
        simp only [List.getElem?_toArray]
        rw [List.append_assoc, List.getElem?_append_right (by rw [hlt]; omega), hlt, Nat.add_sub_cancel_left, List.getElem?_append_left hjl]
        exact hj)⟩)
    rw [List.length_set] at f1 f2
    have eU : H.upd [(l, .dead), (l2, .dead)] ++ [AO.nest e es sh (xs ++ [sh.dflt]) (some (xs.length, cs))] = (H.set l2 .dead).set l .dead ++ [AO.nest e es sh (xs ++ [sh.dflt]) (some (xs.length, cs))] := by rw [hup, hcomm]
    refine ⟨put ρ H.length (some p), ?_, by rw [eU]; exact f1, by rw [eU]; exact (ext_kill l2).trans f2, fun k hk hv => ?_⟩
    · rw [eU]
      refine ⟨by simp, rfl, fun z3 n3 hd3 => ?_⟩
      have hat3 := at_new (H := (H.set l2 .dead).set l .dead) (o := AO.nest e es sh (xs ++ [sh.dflt]) (some (xs.length, cs)))
      rw [List.length_set, List.length_set] at hat3
      rw [hat3] at hd3
      cases hd3
      exact ⟨rfl, .inl ⟨_, cap, put_same _ _ _, by simp, by simpa using hroom, by omega⟩⟩
    · refine ⟨put_lt ρ _ _ (at_lt hv), fun q2 b hq2 hf => setRow_other w _ _ _ fun e => ?_⟩
      exact hk (l, .dead) (by simp) (hR.inj l k p q2 p.b hlive hv hp hq2 (.inl rfl) (by subst e; exact hf))
omit hR ht hT in
theorem isLitNil_ok {c : C1} (h : isLitNil c = true) : c = .lit (.slice none 0 0) := by
  unfold isLitNil at h
  split at h
  · rfl
  · cases h
/-- bytes of a string: a new block that nobody owns -/
theorem s2b_ok {s d : TypeId} {x : Operand} {b : ByteArray} (ho : o.op = .convert s d x) (h : s2b X ts s d x = some b) : StepTo P o a w (OK Z H ρ w (.one (.vsl (.int .u8) (bytesL b))) [] []) := by
  unfold s2b at h
  split at h
  case h_2 => cases h
  rename_i r r' b' h1 h2 h3
  split at h
  case h_2 => cases h
  rename_i e hd hd'
  split at h
  case h_2 => cases h
  rename_i re he
  split at h
  case h_2 => cases h
  rename_i hde
  simp only [Option.some.injEq] at h
  subst h
  have hu := hT.und s r h1
  rw [hd] at hu
  have hu' := hT.und d r' h2
  rw [hd'] at hu'
  have hue := hT.und e re he
  rw [hde] at hue
  have hx := asVal_ok h3 (ev_ok hR ht x)
  have hlen : (bytesL b').length = b'.size := by simp [bytesL]
  generalize hW : Obj.cells (bytesRow b' (grownCap w b'.size 0 e)) e ((bytesRow b' (grownCap w b'.size 0 e)).size, (bytesRow b' (grownCap w b'.size 0 e)).size + 1) = ob
  have hrun := run_bytes_of_string (P := P) w s d e b' hu hu' hue
  rw [hW] at hrun
  have g := grown_drew_alloc w ob
  have ex : Ext H ρ w H ρ (w.drew.alloc ob) := ⟨g.os, g.tape, g.output, g.size, fun k hk _ => g.block k hk (by simp), fun k hk => .inl hk, Nat.le_refl _, fun _ _ => rfl, fun _ _ h => h, fun _ _ _ h => h⟩
  have keep : ∀ l p k, (H.at l).isLive = true → ρ l = some p → p.foot k → (w.drew.alloc ob).heap[k]? = w.heap[k]? := fun l p k hl hp hk => g.block k (hR.foot_lt hl hp hk) (by simp)
  refine StepTo.value (w' := w.drew.alloc ob) (cv := .slice (some ⟨w.heap.size, 0, none⟩) b'.size (grownCap w b'.size 0 e)) ?_ ⟨ρ, ?_, ?_, ?_, fun l _ hl => ⟨rfl, fun p k hp hk => keep l p k hl hp hk⟩⟩
  · simp only [execOp, ho, hx, hrun, Sem.run_bind, Result.andThen_ok, Sem.run_pure]
  · show R1 _ _ (.sl (bytesL b').length (List.flatMap (Sh.int .u8).dv (bytesL b'))) _
    rw [hlen]
    refine R1.mk (grownCap_ge w _ _ _) (us := (bytesL b').map (Value.int .u8)) ?_ (.inr ⟨_, rfl, ⟨?_, ?_, ?_⟩, ⟨fun j v hj => ?_⟩⟩)
    · generalize bytesL b' = l
      induction l with
      | nil => trivial
      | cons n l ih => exact ⟨.lit rfl, ih⟩
    · show w.heap.size < (w.drew.alloc ob).heap.size
      show w.heap.size < (w.heap.push ob).size
      simp
    · intro hk
      exact absurd (hR.own_lt (k := w.heap.size) (by simpa [Heap.upd] using hk)) (Nat.lt_irrefl _)
    · intro hk
      exact absurd (hR.zlt _ hk) (Nat.lt_irrefl _)
    · have hlt : j < b'.data.size := by
        have := (List.getElem?_eq_some_iff.1 hj).1
        simp [bytesL] at this; exact this
      have hv : v = .int .u8 (b'.data[j].toNat : Int) := by
        rw [List.getElem?_map, bytesL, List.getElem?_map, List.getElem?_eq_getElem (by simpa using hlt)] at hj
        simpa using hj.symm
      rw [add_off, ← hW, cell_at _ w.heap.size _ _ e _ (heap_alloc_new w.drew _), hv]
      rw [Nat.zero_add]
      exact bytesRow_at b' _ j hlt
  · simp only [Heap.upd, List.append_nil]
    exact hR.step ex (fun l hl => .inl ⟨at_lt hl, rfl, rfl, fun p k hp hk => keep l p k hl hp hk⟩) (fun l l' p p' k h1 hl => absurd ⟨at_lt hl, rfl⟩ h1)
  · simp only [Heap.upd, List.append_nil]; exact ex
/-- what is done with rows whose elements have slices of their own -/
theorem opN_ok {c : Bool} {v : AV} {U : Upd} {N : List AO} (h : opN X ts H o = some (c, v, U, N)) (hc : c = true) : (∀ u ∈ U, X.ro ≤ u.1) ∧ StepTo P o a w (OK Z H ρ w v U N) := by
  unfold opN at h
  split at h
  · rename_i t x ho
    split at h
    case h_2 => cases h
    rename_i r l z i off h1 h2
    split at h
    · rename_i e es s xs hat
      split at h
      case h_2 => cases h
      rename_i cs hcs
      split at h
      case h_2 => cases h
      rename_i v' hm
      simp only [Option.some.injEq, Prod.mk.injEq] at h
      obtain ⟨_, rfl, rfl, rfl⟩ := h
      obtain ⟨cv, k1, k2⟩ := loadN_ok hR ht hT ho h1 h2 hat (.inl ⟨rfl, rfl⟩) hcs hm
      exact ⟨by simp, StepTo.value k1 (OK.quiet hR k2)⟩
    · rename_i e es s xs i' ds hat
      split at h
      case h_2 => cases h
      rename_i cs hcs
      split at h
      case h_2 => cases h
      rename_i v' hm
      simp only [Option.some.injEq, Prod.mk.injEq] at h
      obtain ⟨h0, rfl, rfl, rfl⟩ := h
      rw [hc] at h0
      have h0 := of_decide_eq_true h0
      subst h0
      obtain ⟨cv, k1, k2⟩ := loadN_ok hR ht hT ho h1 h2 hat (.inr rfl) hcs hm
      exact ⟨by simp, StepTo.value k1 (OK.quiet hR k2)⟩
    · cases h
  · rename_i t x y ho
    split at h
    case h_2 => cases h
    rename_i r l z i off v' h1 h2 h3
    split at h
    case h_2 => cases h
    rename_i e es s xs i' ds hat
    split at h
    case isFalse => cases h
    rename_i hh
    simp only [Bool.and_eq_true, beq_iff_eq, decide_eq_true_eq] at hh
    obtain ⟨⟨⟨⟨k1, k2⟩, k3⟩, k4⟩, k5⟩ := hh
    simp only [Option.some.injEq, Prod.mk.injEq] at h
    obtain ⟨h0, rfl, rfl, rfl⟩ := h
    rw [hc] at h0
    have h0 := of_decide_eq_true h0
    subst h0
    exact ⟨by simpa using k4, storeN_ok hR ht hT ho h1 h2 h3 hat k1 k2 k3 k5⟩
  · rename_i t n ps ho
    split at h
    case h_2 => cases h
    rename_i r h1
    split at h
    case h_2 => cases h
    rename_i e hd
    split at h
    case h_2 => cases h
    rename_i re es he hes
    split at h
    case h_2 => cases h
    rename_i cs hf
    split at h
    case isFalse => cases h
    rename_i hh
    simp only [Bool.and_eq_true, beq_iff_eq, decide_eq_true_eq] at hh
    obtain ⟨⟨⟨⟨k1, k2⟩, k3⟩, k4⟩, k5⟩ := hh
    simp only [Option.some.injEq, Prod.mk.injEq] at h
    obtain ⟨_, rfl, rfl, rfl⟩ := h
    exact ⟨by simp, buildN_ok hR ht hT ho h1 hd he hf k1 k2 k3 k4 k5⟩
  · rename_i args tys ho
    split at h
    case h_2 => cases h
    rename_i s x t t' ha hty
    split at h
    case h_2 => cases h
    rename_i r cc l2 z2 h1 h2 h3
    split at h
    case h_2 => cases h
    rename_i e e2 es sh y cs hd hat2
    split at h
    case h_2 => cases h
    rename_i re he
    split at h
    case isFalse => cases h
    rename_i hh
    simp only [Bool.and_eq_true, beq_iff_eq, decide_eq_true_eq] at hh
    obtain ⟨⟨⟨⟨⟨rfl, rfl⟩, k3⟩, k4⟩, k5⟩, k6⟩ := hh
    split at h
    · rename_i hnil
      have := isLitNil_ok hnil
      subst this
      simp only [Option.some.injEq, Prod.mk.injEq] at h
      obtain ⟨h0, rfl, rfl, rfl⟩ := h
      rw [hc] at h0
      have hb := Nat.le_of_ble_eq_true h0
      refine ⟨by simpa using k3, ?_⟩
      have := appendN_ok hR ht hT ho ha hty h1 h2 h3 hd he hat2 k4 k5 k6 (l := l2) (xs := []) (.inl ⟨rfl, rfl, rfl⟩) (by simpa using hb)
      intro next Q hn
      refine this next Q fun cv w' hok => hn cv w' ?_
      obtain ⟨ρ', q1, q2, q3, q4⟩ := hok
      have e0 : H.upd [(l2, .dead), (l2, .dead)] = H.upd [(l2, .dead)] := by simp [Heap.upd]
      rw [e0] at q1 q2 q3
      exact ⟨ρ', q1, q2, q3, fun l hl hv => q4 l (fun u hu => by simp at hu; subst hu; exact hl (l2, .dead) (by simp)) hv⟩
    · split at h
      case h_2 => cases h
      rename_i l z
      split at h
      case h_2 => cases h
      rename_i e1 es1 sh1 xs hat
      split at h
      case isFalse => cases h
      rename_i hs
      subst hs
      split at h
      case isFalse => cases h
      rename_i hq
      simp only [Bool.and_eq_true, beq_iff_eq, bne_iff_ne, decide_eq_true_eq] at hq
      obtain ⟨⟨⟨⟨rfl, rfl⟩, q3⟩, q4⟩, rfl⟩ := hq
      simp only [Option.some.injEq, Prod.mk.injEq] at h
      obtain ⟨h0, rfl, rfl, rfl⟩ := h
      rw [hc] at h0
      have hb := Nat.le_of_ble_eq_true h0
      refine ⟨fun u hu => ?_, appendN_ok hR ht hT ho ha hty h1 h2 h3 hd he hat2 k4 k5 k6 (.inr ⟨_, rfl, rfl, hat, q3⟩) hb⟩
      simp only [List.mem_cons, List.not_mem_nil, or_false] at hu
      rcases hu with rfl | rfl
      · exact q4
      · exact k3
  · rename_i s d x ho
    split at h
    case h_2 => cases h
    rename_i b hb
    simp only [Option.some.injEq, Prod.mk.injEq] at h
    obtain ⟨_, rfl, rfl, rfl⟩ := h
    exact ⟨by simp, s2b_ok hR ht hT ho hb⟩
  · cases h
theorem opN_still {c : Bool} {v : AV} {U : Upd} {N : List AO} (he : isEvent o.op = false) (h : opN X ts H o = some (c, v, U, N)) (hc : c = true) : U = [] ∧ N = [] ∧ ∃ cv, (execOp a.eval o).run P w = .ok (.value cv) w ∧ VA Z H ρ w v cv := by
  unfold opN at h
  split at h
  · rename_i t x ho
    split at h
    case h_2 => cases h
    rename_i r l z i off h1 h2
    split at h
    · rename_i e es s xs hat
      split at h
      case h_2 => cases h
      rename_i cs hcs
      split at h
      case h_2 => cases h
      rename_i v' hm
      simp only [Option.some.injEq, Prod.mk.injEq] at h
      obtain ⟨_, rfl, rfl, rfl⟩ := h
      exact ⟨rfl, rfl, loadN_ok hR ht hT ho h1 h2 hat (.inl ⟨rfl, rfl⟩) hcs hm⟩
    · rename_i e es s xs i' ds hat
      split at h
      case h_2 => cases h
      rename_i cs hcs
      split at h
      case h_2 => cases h
      rename_i v' hm
      simp only [Option.some.injEq, Prod.mk.injEq] at h
      obtain ⟨h0, rfl, rfl, rfl⟩ := h
      rw [hc] at h0
      have h0 := of_decide_eq_true h0
      subst h0
      exact ⟨rfl, rfl, loadN_ok hR ht hT ho h1 h2 hat (.inr rfl) hcs hm⟩
    · cases h
  · rename_i ho; rw [ho] at he; cases he
  · rename_i ho; rw [ho] at he; cases he
  · rename_i ho; rw [ho] at he; cases he
  · rename_i ho; rw [ho] at he; cases he
  · cases h
theorem opAll_ok {K : KO β} {r : β} (hE : ∀ e ∈ X.tb, EOk P e) (h : opAll X ts H o K = some r) : Snd (P := P) X.ro Z H ρ w o a K r := by
  unfold opAll at h
  split at h
  · rename_i c v U N hn
    obtain ⟨hc, hK⟩ := iff'_ok h
    obtain ⟨k1, k2⟩ := opN_ok hR ht hT (opN1_some hn) hc
    exact ⟨v, U, N, hK, k1, k2⟩
  · exact opEval_ok hR ht hT hE h
theorem still_all {K : KO β} {r : β} (he : isEvent o.op = false) (h : opAll X ts H o K = some r) : SndQ (P := P) Z H ρ w o a K r := by
  unfold opAll at h
  split at h
  · rename_i c v U N hn
    obtain ⟨hc, hK⟩ := iff'_ok h
    obtain ⟨rfl, rfl, cv, k1, k2⟩ := opN_still hR ht hT he (opN1_some hn) hc
    exact ⟨v, cv, hK, k1, k2⟩
  · exact still_ok hR ht hT he h
end
theorem opAll_nat {P : Program} {X : Ctx P} {β : Type} {ts : TS} {H : Heap} {o : Oper} (hN : ∀ e ∈ X.tb, ENat e) (K : KO β) : opAll X ts H o K = (opAll X ts H o K0).bind (go K) := by
  unfold opAll
  split
  · exact iff'_nat rfl
  · exact opEval_nat K hN
end Go.Proofs.YtaklapcbbdcdpaaDoor.X
