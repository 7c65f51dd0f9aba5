import Derived.Test.YtaklapcbbdcdpaaDoorXW
namespace Go.Proofs.YtaklapcbbdcdpaaDoor.X
open Go Go.RowKit
set_option linter.unusedVariables false
set_option linter.unusedSimpArgs false
/-! Two allocs, neither ahead of the other -/
section names
variable {Z : Nat → Prop} {Hp S1 S2 : Heap} {ρ ρ2 : Rho} {w : World}
theorem own_head (hρ : ∀ l, l < Hp.length → ρ2 l = ρ l) (k : Nat) : own Hp ρ2 k ↔ own Hp ρ k := by
  constructor
  · rintro ⟨l, p, hl, hp, he⟩; exact ⟨l, p, hl, by rw [← hρ l (at_lt hl)]; exact hp, he⟩
  · rintro ⟨l, p, hl, hp, he⟩; exact ⟨l, p, hl, by rw [hρ l (at_lt hl)]; exact hp, he⟩
theorem hid_same (hρ : ∀ l, l < Hp.length → ρ2 l = ρ l) (hown : ∀ k, own (Hp ++ S2) ρ2 k ↔ own (Hp ++ S1) ρ k) : hid Z Hp S2 ρ2 = hid Z Hp S1 ρ := by
  funext k
  unfold hid
  rw [hown k, own_head hρ k]
/-- what lies behind a heap under other names -/
theorem Rel.rename (h : Rel Z (Hp ++ S1) ρ w) (hb : Bd Hp) (hρ : ∀ l, l < Hp.length → ρ2 l = ρ l) (hown : ∀ k, own (Hp ++ S2) ρ2 k ↔ own (Hp ++ S1) ρ k)
    (hobj : ∀ l, Hp.length ≤ l → Holds Z (Hp ++ S2) ρ2 w l ((Hp ++ S2).at l))
    (hinj : ∀ l l' p p' k, ((Hp ++ S2).at l).isLive = true → ((Hp ++ S2).at l').isLive = true → ρ2 l = some p → ρ2 l' = some p' → p.foot k → p'.foot k → l = l')
    (hinn : ∀ l p k, ((Hp ++ S2).at l).isLive = true → ρ2 l = some p → p.inn k → k ≠ p.b ∧ k < w.heap.size) :
    Rel Z (Hp ++ S2) ρ2 w ∧ ∀ (x : AV) (v : Value), x.lt Hp.length → VA Z (Hp ++ S1) ρ w x v → VA Z (Hp ++ S2) ρ2 w x v := by
  have e0 : Ext Hp ρ w Hp ρ2 w := ⟨rfl, rfl, rfl, Nat.le_refl _, fun _ _ _ => rfl, fun k hk => .inl ((own_head hρ k).1 hk), Nat.le_refl _, fun l hl => cor_of (hρ l hl), fun _ _ h => h, fun l hl d h => h⟩
  have hp2 : Rel (hid Z Hp S1 ρ) Hp ρ2 w := (h.part hb).step e0 (fun l hl => .inl ⟨at_lt hl, rfl, hρ l (at_lt hl), fun _ _ _ _ => rfl⟩) (fun l l' p p' k h1 hl => absurd ⟨at_lt hl, hρ l (at_lt hl)⟩ h1)
  have hs := hid_same (Z := Z) hρ hown
  rw [← hs] at hp2
  refine ⟨⟨fun l => ?_, hinj, hinn, h.zlt, fun k hk ho => h.dis k hk ((hown k).1 ho), fun g x hg => (V0_part (c := .vp x.1 x.2 0 0) trivial).1 (hp2.gl g x hg)⟩, fun x v hx hv => ?_⟩
  · rcases Nat.lt_or_ge l Hp.length with h1 | h1
    · have ho := hp2.obj l
      rw [at_append_lt h1]
      exact (Holds.part (hb l)).1 ho
    · exact hobj l h1
  · have := e0.VA ((VA_part hx).2 hv)
    rw [← hs] at this
    exact (VA_part hx).1 this
theorem lits_V1 {Z' : Nat → Prop} {H H' : Heap} {ρ' : Rho} {w' : World} : ∀ {zs vs : List Value}, LR (V1 Z H ρ w) (zs.map .lit) vs → LR (V1 Z' H' ρ' w') (zs.map .lit) vs
  | [], [], _ => trivial
  | z :: zs, v :: vs, h => ⟨h.1, lits_V1 h.2⟩
  | [], _ :: _, h => h.elim
  | _ :: _, [], h => h.elim
end names
/-! an alloc, as it is evaluated -/
theorem alloc_ev {P : Program} {X : Ctx P} {all : Array Oper} {ts : TS} {H : Heap} {o : Oper} {e : TypeId} (ho : o.op = .alloc e) (hg : o.guard = none) {v : AV} {U : Upd} {Ns : List AO} (h : gEval X all ts H o K0 = some (v, U, Ns)) :
    ∃ re, X.ti e = some re ∧ v = .one (.ptr H.length 0) ∧ U = [] ∧ Ns = [.cells e (re.zero.map .lit)] := by
  unfold gEval at h
  rw [hg] at h
  simp only [opAll, opN1, asRead, opN, opEval, ho] at h
  cases hre : X.ti e with
  | none => rw [hre] at h; cases h
  | some re =>
    rw [hre] at h
    simp only [K0, Option.some.injEq, Prod.mk.injEq] at h
    obtain ⟨rfl, rfl, rfl⟩ := h
    exact ⟨re, rfl, rfl, rfl, rfl⟩
theorem ev_alloc {P : Program} {X : Ctx P} {all : Array Oper} {ts : TS} {H : Heap} {o : Oper} {e : TypeId} {re : TR} (ho : o.op = .alloc e) (hg : o.guard = none) (hre : X.ti e = some re) :
    gEval X all ts H o K0 = some (.one (.ptr H.length 0), [], [.cells e (re.zero.map .lit)]) := by
  unfold gEval
  rw [hg]
  simp only [opAll, opN1, asRead, opN, opEval, ho, hre]
  rfl
/-! the region with one edge more -/
section edge
variable {P : Program} {ops : Array Oper} {i j : Nat}
theorem edged_get (hj : ∃ o, ops.toList[j]? = some o) (k : Nat) : (edged ops i j).toList[k]? = if k = j then (ops.toList[j]?).map (edgeTo i) else ops.toList[k]? := by
  obtain ⟨o, ho⟩ := hj
  have hlt := (List.getElem?_eq_some_iff.1 ho).1
  unfold edged
  rw [ho]
  simp only [List.getElem?_set]
  by_cases h : k = j
  · subst h; simp; simpa using hlt
  · rw [if_neg h, if_neg (fun e => h e.symm)]
theorem edged_size : (edged ops i j).size = ops.size := by
  unfold edged
  split
  · simp
  · rfl
theorem preds_edge (o : Oper) : ∀ p, p ∈ preds (edgeTo i o) ↔ p = i ∨ p ∈ preds o := by
  intro p
  have hb : Region.binds .any ⟨i, .data⟩ = true := rfl
  simp only [preds, edgeTo, Array.toList_push, List.filterMap_append, List.mem_append, List.filterMap_cons, hb, if_true, List.filterMap_nil, List.mem_singleton]
  exact Or.comm
theorem yielded_edge (hj : ∃ o, ops.toList[j]? = some o) (tmps : Array Value) : yielded (edged ops i j) tmps = yielded ops tmps := by
  funext k
  have h : ((edged ops i j)[k]?).bind (·.dst) = (ops[k]?).bind (·.dst) := by
    rw [← Array.getElem?_toList, ← Array.getElem?_toList, edged_get hj]
    by_cases h : k = j
    · subst h
      rw [if_pos rfl]
      cases ops.toList[k]? <;> rfl
    · rw [if_neg h]
  unfold yielded
  rw [h]
theorem wpOp_edge (hj : ∃ o, ops.toList[j]? = some o) {Q : Exit → Act → World → Prop} {k : Nat} {Kx : Act → World → Prop} {a : Act} {w : World} (h : wpOp P (edged ops i j) Q k Kx a w) : wpOp P ops Q k Kx a w := by
  unfold wpOp at h ⊢
  rw [yielded_edge hj] at h
  rw [← Array.getElem?_toList, edged_get hj] at h
  rw [← Array.getElem?_toList]
  by_cases hk : k = j
  · subst hk
    rw [if_pos rfl] at h
    cases ho : ops.toList[k]? with
    | none => rw [ho] at h; exact h
    | some o => rw [ho] at h; exact h
  · rw [if_neg hk] at h
    exact h
end edge
/-! runs of such a region -/
section
variable {P : Program} {X : Ctx P} {ops : Array Oper} {ev : BV} {tab : List BV} {B : Base} {ts : TS} {recsF : List Rec} {FH : List Heap} {n0 : Nat} {Q : Exit → Act → World → Prop} {i j : Nat}
theorem ready_some' {L : Array Bool} (hlt : ∀ (i : Nat) (o : Oper), ops.toList[i]? = some o → ∀ p ∈ preds o, p < i) (hs : L.size = ops.size) (h : Region.ready .any ops L = []) : ∀ i, i < ops.size → L.getD i false = true := by
  intro i
  induction i using Nat.strongRecOn with
  | _ i ih =>
    intro hi
    have ho : ops.toList[i]? = some ops.toList[i] := List.getElem?_eq_getElem (by simpa using hi)
    cases hL : L.getD i false with
    | true => rfl
    | false =>
      have : i ∈ Region.ready .any ops L := mem_ready.2 ⟨_, ho, by
        simp only [Array.getD_eq_getD_getElem?] at hL ⊢
        rw [Array.getElem?_eq_getElem (by omega)] at hL ⊢
        exact hL, fun p hp => by
          have := hlt i _ ho p hp
          rw [has_toList]; exact ih p this (by omega)⟩
      rw [h] at this; cases this
/-- the second alloc has run, the first one has not -/
structure BInv (X : Ctx P) (j : Nat) (B : Base) (ts : TS) (recsF : List Rec) (H0 : Heap) (oj : AO) (L : Array Bool) (ρ : Rho) (a : Act) (w : World) : Prop where
  inv : InvR X B (recTS L.toList recsF ++ ts) (H0 ++ [.dead, oj]) ρ a w
  vlt : ∀ q ∈ recsF, BV.has L.toList q.i = true → q.i ≠ j → q.v.lt H0.length
  bd : Bd H0
  kpl : X.kp ≤ H0.length
  rol : X.ro ≤ H0.length
structure BSet (ops : Array Oper) (tab : List BV) (i j : Nat) (L : Array Bool) : Prop where
  hj : BV.has L.toList j = true
  hi : BV.has L.toList i = false
  cl : ∀ (k : Nat) (o : Oper), ops.toList[k]? = some o → BV.has L.toList k = true → k ≠ j → (∀ p ∈ preds o, BV.has L.toList p = true) ∧ ∀ m, BV.has (tab.getD k []) m = true → BV.has L.toList m = true ∧ m ≠ j
theorem allocAt_ok {ops : Array Oper} {i : Nat} (h : allocAt ops i = true) : ∃ o e, ops.toList[i]? = some o ∧ o.op = .alloc e ∧ o.guard = none := by
  unfold allocAt at h
  split at h
  · rename_i o ho
    split at h
    · rename_i e h1 h2; exact ⟨o, e, ho, h1, h2⟩
    · cases h
  · cases h
/-- what the check says -/
structure PairG (ops : Array Oper) (ev : BV) (tab : List BV) (i j : Nat) : Prop where
  lt : i < j
  ai : ∃ o e, ops.toList[i]? = some o ∧ o.op = .alloc e ∧ o.guard = none
  aj : ∃ o e, ops.toList[j]? = some o ∧ o.op = .alloc e ∧ o.guard = none
  ei : ev.has i = true
  ej : ev.has j = true
  pi : ∀ o, ops.toList[i]? = some o → preds o = []
  pj : ∀ o, ops.toList[j]? = some o → preds o = [i]
  pr : ∀ (k : Nat) (o : Oper), ops.toList[k]? = some o → j ∈ preds o → i ∈ preds o
  evt : ∀ (k : Nat) (o : Oper), ops.toList[k]? = some o → ev.has k = true → k = i ∨ k = j ∨ (BV.has (tab.getD k []) i = true ∧ BV.has (tab.getD j []) k = false)
theorem pairG_of {ops : Array Oper} (h : pairOk ops ev tab i j = true) : PairG ops ev tab i j := by
  unfold pairOk at h
  simp only [Bool.and_eq_true, decide_eq_true_eq] at h
  obtain ⟨⟨⟨⟨⟨⟨⟨⟨h1, h2⟩, h3⟩, h4⟩, h5⟩, h8⟩, h9⟩, h6⟩, h7⟩ := h
  have hpa : ∀ {k : Nat} {l : List Nat}, predsAt ops k l = true → ∀ o, ops.toList[k]? = some o → preds o = l := fun {k l} h o ho => by
    unfold predsAt at h
    rw [ho] at h
    exact beq_iff_eq.1 h
  refine ⟨h1, allocAt_ok h2, allocAt_ok h3, h4, h5, hpa h8, hpa h9, fun k o hk hp => ?_, fun k o hk he => ?_⟩
  · have := List.all_eq_true.1 h6 (k, o) (mem_num0.2 hk)
    simp only [Bool.or_eq_true, Bool.not_eq_true', List.contains_eq_mem, decide_eq_true_eq, decide_eq_false_iff_not] at this
    rcases this with h | h
    · exact absurd hp h
    · exact h
  · have := List.all_eq_true.1 h7 (k, o) (mem_num0.2 hk)
    simp only [Bool.or_eq_true, Bool.not_eq_true', Bool.and_eq_true, beq_iff_eq] at this
    rcases this with ((h | h) | h) | h
    · rw [he] at h; cases h
    · exact .inl h
    · exact .inr (.inl h)
    · exact .inr (.inr h)
/-- nothing that has no event ahead counts one -/
theorem cn_zero {ops : Array Oper} {ev : BV} (v : BV) (h : ∀ (k : Nat) (o : Oper), ops.toList[k]? = some o → ev.has k = true → v.has k = false) : cn ops ev v = 0 := by
  rw [cn, cntE_eq, List.countP_eq_zero]
  intro e he
  obtain ⟨o, h1, h2⟩ := mem_evL.1 he
  rw [h e o (mem_num0.1 h1) h2]; exact Bool.false_ne_true
variable (hT : TIok P X.ti) (hE : ∀ e ∈ X.tb, EOk P e) (hsrc : ∃ o, ops.toList[j]? = some o) (g : TabG (edged ops i j) ev tab) (hnd : nodup (dstsOf (edged ops i j).toList) = true)
  (hF : ∀ (k : Nat) (o : Oper), (edged ops i j).toList[k]? = some o → Fact X (edged ops i j) ev tab B.N (dstsOf (edged ops i j).toList) ts n0 recsF FH k o) (hn0 : n0 = (FH.getD 0 []).length)
  (hri : recsF.map (·.i) = (numbered 0 (edged ops i j).toList).map (·.1)) (hrd : recsF.map (·.d) = (numbered 0 (edged ops i j).toList).map (·.2.dst)) (hFl : FH.length = (evs (edged ops i j) ev).length + 1) (hts : ∀ t, (ts.get t).lt (FH.getD 0 []).length)
  (hQ : ∀ a w, Inv X B (allTS recsF ++ ts) (FH.getD (evs (edged ops i j) ev).length []) a w → Q .normal a w)
  (pg : PairG (edged ops i j) ev tab i j)
theorem at_app (H S : Heap) (m : Nat) : Heap.at (H ++ S) (H.length + m) = Heap.at S m := by
  simp [Heap.at, List.getD_eq_getElem?_getD, List.getElem?_append_right (Nat.le_add_right _ _)]
/-- what the analysis has of the two -/
structure AInfo (X : Ctx P) (ops : Array Oper) (ev : BV) (tab : List BV) (N : Nat) (recsF : List Rec) (FH : List Heap) (i j : Nat) (oi oj : Oper) (ei ej : TypeId) (ri rj : TR) : Prop where
  hoi : ops.toList[i]? = some oi
  hoj : ops.toList[j]? = some oj
  opi : oi.op = .alloc ei
  opj : oj.op = .alloc ej
  gi : oi.guard = none
  gj : oj.guard = none
  ti : X.ti ei = some ri
  tj : X.ti ej = some rj
  mi : (⟨i, oi.dst, .one (.ptr (FH.getD 0 []).length 0)⟩ : Rec) ∈ recsF
  mj : (⟨j, oj.dst, .one (.ptr ((FH.getD 0 []).length + 1) 0)⟩ : Rec) ∈ recsF
  di : dstOk oi N = true
  dj : dstOk oj N = true
  f1 : FH.getD 1 [] = FH.getD 0 [] ++ [.cells ei (ri.zero.map .lit)]
  f2 : FH.getD 2 [] = FH.getD 0 [] ++ [.cells ei (ri.zero.map .lit), .cells ej (rj.zero.map .lit)]
  ci : cn ops ev (tab.getD i []) = 0
  cj : cn ops ev (tab.getD j []) = 1
  e0 : (evs ops ev)[0]? = some i
  e1 : (evs ops ev)[1]? = some j
include g hF pg in
theorem ainfo : ∃ oi oj ei ej ri rj, AInfo X (edged ops i j) ev tab B.N recsF FH i j oi oj ei ej ri rj := by
  obtain ⟨oi, ei, hoi, opi, gi⟩ := pg.ai
  obtain ⟨oj, ej, hoj, opj, gj⟩ := pg.aj
  have c0 : cn (edged ops i j) ev (tab.getD i []) = 0 := cn_zero _ fun k o hk he => by
    cases hh : BV.has (tab.getD i []) k with
    | false => rfl
    | true =>
      have h1 := g.anc_lt i oi hoi k hh
      rcases pg.evt k o hk he with h | h | ⟨h, _⟩
      · omega
      · have := pg.lt; omega
      · have := g.anc_lt k o hk i h; omega
  obtain ⟨r, hr⟩ : ∃ r, (evs (edged ops i j) ev)[r]? = some i := List.getElem?_of_mem (mem_evL.2 ⟨oi, mem_num0.2 hoi, pg.ei⟩)
  have hr0 : cn (edged ops i j) ev (tab.getD i []) = r := g.rank hr
  have e0 : (evs (edged ops i j) ev)[0]? = some i := by rw [← hr]; congr 1; omega
  obtain ⟨r', hr'⟩ : ∃ r, (evs (edged ops i j) ev)[r]? = some j := List.getElem?_of_mem (mem_evL.2 ⟨oj, mem_num0.2 hoj, pg.ej⟩)
  have hrj : cn (edged ops i j) ev (tab.getD j []) = r' := g.rank hr'
  have h1' : r' = 1 := by
    rcases Nat.lt_trichotomy r' 1 with h | h | h
    · have : r' = 0 := by omega
      subst this
      rw [e0] at hr'
      simp only [Option.some.injEq] at hr'
      have := pg.lt; omega
    · exact h
    · have hl := (List.getElem?_eq_some_iff.1 hr').1
      have hx : (evs (edged ops i j) ev)[1]? = some (evs (edged ops i j) ev)[1] := List.getElem?_eq_getElem (by omega)
      obtain ⟨oe, hoe, hee⟩ := evs_get hx
      have s1 := evs_sorted (Nat.lt_succ_self 0) e0 hx
      have s2 := evs_sorted h hx hr'
      rcases pg.evt _ oe hoe hee with h2 | h2 | ⟨_, h2⟩
      · omega
      · omega
      · have := (anc_first g hoj _ _ hx).2 (by rw [hrj]; exact h)
        rw [h2] at this; cases this
  subst h1'
  obtain ⟨vi, v0, Ui, Ni, mi, di, hevi, hevti, _⟩ := hF i oi hoi
  obtain ⟨vj, w0, Uj, Nj, mj, dj, hevj, hevtj, _⟩ := hF j oj hoj
  obtain ⟨rfl, f1, _⟩ := hevti pg.ei
  obtain ⟨rfl, f2, _⟩ := hevtj pg.ej
  have c0' : cntE ev (tab.getD i []) (numbered 0 (edged ops i j).toList) = 0 := c0
  have c1' : cntE ev (tab.getD j []) (numbered 0 (edged ops i j).toList) = 1 := hrj
  rw [c0'] at hevi f1
  rw [c1'] at hevj f2
  obtain ⟨ri, ti, rfl, rfl, rfl⟩ := alloc_ev opi gi hevi
  obtain ⟨rj, tj, rfl, rfl, rfl⟩ := alloc_ev opj gj hevj
  simp only [Heap.upd, Nat.zero_add] at f1 f2
  refine ⟨oi, oj, ei, ej, ri, rj, hoi, hoj, opi, opj, gi, gj, ti, tj, mi, ?_, di, dj, f1, ?_, c0, hrj, e0, hr'⟩
  · rw [f1, List.length_append, List.length_singleton] at mj; exact mj
  · rw [f2, f1, List.append_assoc]; rfl
section steps
variable {oi oj : Oper} {ei ej : TypeId} {ri rj : TR} (ai : AInfo X (edged ops i j) ev tab B.N recsF FH i j oi oj ei ej ri rj)
theorem ext_dead {Z : Nat → Prop} {H : Heap} {ρ : Rho} {w : World} (h : Rel Z H ρ w) : Ext H ρ w (H ++ [.dead]) ρ w ∧ Rel Z (H ++ [.dead]) ρ w := by
  have hd : ∀ l, (Heap.at (H ++ [.dead]) l).isLive = true → l < H.length := fun l hl => by
    rcases live_app hl with h | h
    · exact h
    · subst h; rw [at_new] at hl; cases hl
  have e : Ext H ρ w (H ++ [.dead]) ρ w := ⟨rfl, rfl, rfl, Nat.le_refl _, fun _ _ _ => rfl, fun k ⟨l, p, hl, hp, he⟩ => .inl ⟨l, p, by rw [at_append_lt (hd l hl)] at hl; exact hl, hp, he⟩, by simp, fun _ _ => rfl,
    fun l hl hv => by rw [at_append_lt hl] at hv; exact hv, fun l hl d h => by rw [at_append_lt hl] at h; exact h⟩
  exact ⟨e, h.step e (fun l hl => .inl ⟨hd l hl, at_append_lt (hd l hl), rfl, fun _ _ _ _ => rfl⟩) (fun l l' p p' k h1 hl => absurd ⟨hd l hl, rfl⟩ h1)⟩
include g pg in
/-- where neither has run, no event has -/
theorem none_run {L : Array Bool} (hC : Closed (edged ops i j) L) (hiL : BV.has L.toList i = false) (hjL : BV.has L.toList j = false) : ∀ (k : Nat) (o : Oper), (edged ops i j).toList[k]? = some o → ev.has k = true → BV.has L.toList k = false := fun k o hk he => by
  cases hh : BV.has L.toList k with
  | false => rfl
  | true =>
    rcases pg.evt k o hk he with h | h | ⟨h, _⟩
    · subst h; rw [hiL] at hh; cases hh
    · subst h; rw [hjL] at hh; cases hh
    · have := closed_anc g hC hk (fun p hp => hC k o hk hh p hp) i h
      rw [hiL] at this; cases this
include hT hE g hnd hri hrd pg ai in
theorem pair_b1 {L : Array Bool} {a : Act} {w : World} (hs : L.size = (edged ops i j).size) (hC : Closed (edged ops i j) L) (hI : ∃ ρ, DInv X (edged ops i j) ev tab B ts recsF FH L ρ a w) (hiL : BV.has L.toList i = false) (hjL : BV.has L.toList j = false)
    {Kx : Act → World → Prop} (hK : ∀ a' w', (∃ ρ, BInv X j B ts recsF (FH.getD 0 []) (.cells ej (rj.zero.map .lit)) (L.setIfInBounds j true) ρ a' w') → Kx a' w') : wpOp P (edged ops i j) Q j Kx a w := by
  obtain ⟨ρ, hI⟩ := hI
  have hne := none_run g pg hC hiL hjL
  have hc0 : cn (edged ops i j) ev L.toList = 0 := cn_zero _ hne
  have hr := hI.inv
  rw [hc0] at hr
  have hjs : j < L.size := by rw [hs]; simpa using (List.getElem?_eq_some_iff.1 ai.hoj).1
  obtain ⟨eD, hD⟩ := ext_dead hr.rel
  have hev := ev_alloc (X := X) (all := edged ops i j) (ts := []) (H := FH.getD 0 [] ++ [.dead]) ai.opj ai.gj ai.tj
  obtain ⟨v', U', N', hKK, hro, hstep⟩ := gEval_ok (Q := Q) hT hE hD (a := a) (ts := []) (fun t => trivial) (i := j) (by rw [← Array.getElem?_toList]; exact ai.hoj) hev
  simp only [K0, Option.some.injEq, Prod.mk.injEq] at hKK
  obtain ⟨rfl, rfl, rfl⟩ := hKK
  refine hstep _ fun cv w' hok => hK _ _ ?_
  obtain ⟨ρ', hva, hrel, hext, hkept⟩ := hok
  simp only [Heap.upd, List.append_assoc, List.singleton_append, List.length_append, List.length_singleton] at hva hrel hext
  have eT := eD.trans hext
  have hbd0 := hI.bd 0 (Nat.zero_le _)
  refine ⟨ρ', ⟨hrel, fun t => ?_, tmps_put.1.trans hr.size, tmps_put.2.trans hr.defers, ?_, ?_, hr.since.step eT, ?_⟩, fun q hq hh hne' => ?_, hbd0, hr.since.len, hr.rolen⟩
  · rw [ts_next hnd hri hrd hjs ai.hoj ai.mj, put_get hr.size (dstOk_ok ai.dj)]
    split
    · exact hva
    · exact eT.TRel hr.ts t
  · rw [List.take_append_of_le_length hr.rolen]; exact hr.ro
  · rw [List.length_append]; have := hr.rolen; omega
  · intro l hl hv
    have hln := Nat.lt_of_lt_of_le hl hr.rolen
    rw [at_append_lt hln] at hv
    obtain ⟨q1, q2⟩ := hkept l (fun u hu => by cases hu) (by rw [at_append_lt hln]; exact hv)
    obtain ⟨q3, q4⟩ := hr.rok l hl hv
    exact ⟨q1.trans q3, fun p k hp hf => by rw [q1] at hp; rw [q2 p k hp hf]; exact q4 p k hp hf⟩
  · rw [has_set hjs] at hh
    simp only [Bool.or_eq_true, decide_eq_true_eq] at hh
    have hh : BV.has L.toList q.i = true := hh.resolve_left hne'
    obtain ⟨oq, hoq, _⟩ := rec_at hri hrd hq
    have h1 := hI.vlt q hq hh
    have h2 : ev.has q.i = false := by
      cases he : ev.has q.i with
      | false => rfl
      | true => rw [hne q.i oq hoq he] at hh; cases hh
    have h3 : cn (edged ops i j) ev (tab.getD q.i []) = 0 := by
      have := cn_mono (ops := edged ops i j) (ev := ev) (closed_anc g hC hoq (fun p hp => hC q.i oq hoq hh p hp))
      omega
    rw [h2, h3] at h1
    exact h1
include g pg in
/-- whoever runs between the two has none of them ahead -/
theorem between {L : Array Bool} (hb : BSet (edged ops i j) tab i j L) {k : Nat} {o : Oper} (ho : (edged ops i j).toList[k]? = some o) (hp : ∀ p ∈ preds o, BV.has L.toList p = true) : ∀ m, BV.has (tab.getD k []) m = true → BV.has L.toList m = true ∧ m ≠ j := by
  intro m hm
  obtain ⟨p, hpm, h⟩ := (g.tb.spec k o ho m).1 hm
  have hpj : p ≠ j := fun e => by
    subst e
    have := hp i (pg.pr k o ho hpm)
    rw [hb.hi] at this; cases this
  rcases h with rfl | ⟨_, h⟩
  · exact ⟨hp _ hpm, hpj⟩
  · have hlt := g.lt k o ho p hpm
    have hlen := (List.getElem?_eq_some_iff.1 ho).1
    exact (hb.cl p _ (List.getElem?_eq_getElem (by omega)) (hp p hpm) hpj).2 m h
include hT hE g hnd hF hri hrd hts pg ai in
theorem pair_b3 {L : Array Bool} {a : Act} {w : World} (hs : L.size = (edged ops i j).size) (hb : BSet (edged ops i j) tab i j L) (hI : ∃ ρ, BInv X j B ts recsF (FH.getD 0 []) (.cells ej (rj.zero.map .lit)) L ρ a w)
    {k : Nat} {o : Oper} (ho : (edged ops i j).toList[k]? = some o) (hnl : BV.has L.toList k = false) (hki : k ≠ i) (hp : ∀ p ∈ preds o, BV.has L.toList p = true)
    {Kx : Act → World → Prop} (hK : ∀ a' w', (∃ ρ, BInv X j B ts recsF (FH.getD 0 []) (.cells ej (rj.zero.map .lit)) (L.setIfInBounds k true) ρ a' w') → Kx a' w') : wpOp P (edged ops i j) Q k Kx a w := by
  obtain ⟨ρ, hI⟩ := hI
  have hu := fun t => rec_uniq (t := t) hnd hri hrd
  have hks : k < L.size := by rw [hs]; simpa using (List.getElem?_eq_some_iff.1 ho).1
  have hkj : k ≠ j := fun e => by subst e; rw [hb.hj] at hnl; cases hnl
  have hbt := between g pg hb ho hp
  have hevk : ev.has k = false := by
    cases he : ev.has k with
    | false => rfl
    | true =>
      rcases pg.evt k o ho he with h | h | ⟨h, _⟩
      · exact absurd h hki
      · exact absurd h hkj
      · have := (hbt i h).1; rw [hb.hi] at this; cases this
  have hc0 : cntE ev (tab.getD k []) (numbered 0 (edged ops i j).toList) = 0 := cn_zero (ops := edged ops i j) _ fun e oe hoe he => by
    cases hh : BV.has (tab.getD k []) e with
    | false => rfl
    | true =>
      obtain ⟨h1, h2⟩ := hbt e hh
      rcases pg.evt e oe hoe he with h | h | ⟨h, _⟩
      · subst h; rw [hb.hi] at h1; cases h1
      · exact absurd h h2
      · have := ((hb.cl e oe hoe h1 h2).2 i h).1; rw [hb.hi] at this; cases this
  obtain ⟨v, v0, U, Ns, hmem, hdo, hev, _, hqt⟩ := hF k o ho
  rw [hc0] at hev hqt
  have hoi : (edged ops i j)[k]? = some o := by rw [← Array.getElem?_toList]; exact ho
  have hlate : ∀ q ∈ recsF, ∀ t, q.d = some t → t ∈ maskB tab k (numbered 0 (edged ops i j).toList) ∨ BV.has L.toList q.i = false := fun q hq t ht => by
    obtain ⟨oq, hoq, hdq⟩ := rec_at hri hrd hq
    rcases mem_mask (tab := tab) (i := k) (mem_num0.2 hoq) (hdq ▸ ht) with h | h
    · exact .inl h
    · right
      cases hh : BV.has L.toList q.i with
      | false => rfl
      | true =>
        by_cases hqj : q.i = j
        · rw [hqj] at h hoq
          obtain ⟨p, hpm, h'⟩ := (g.tb.spec j oq hoq k).1 h
          rw [pg.pj oq hoq] at hpm
          have hpi := List.mem_singleton.1 hpm
          rcases h' with h' | ⟨_, h'⟩
          · exact absurd (h'.trans hpi) hki
          · rw [hpi] at h'
            obtain ⟨p2, hp2, _⟩ := (g.tb.spec i oi ai.hoi k).1 h'
            rw [pg.pi oi ai.hoi] at hp2; cases hp2
        · have := ((hb.cl q.i oq hoq hh hqj).2 k h).1
          rw [hnl] at this; cases this
  have hrel := hI.inv.rel
  have hbdp := hI.bd
  have htr : TRel (hid B.Z (FH.getD 0 []) [.dead, .cells ej (rj.zero.map .lit)] ρ) (FH.getD 0 []) ρ w (recTS (tab.getD k []) recsF ++ (anyTS (maskB tab k (numbered 0 (edged ops i j).toList)) ++ ts)) a :=
    rel_tsi (fun m hm => (hbt m hm).1) hu hlate hI.inv.ts (fun q hq hh u h => (VA_part (hI.vlt q hq (hbt _ hh).1 (hbt _ hh).2)).2 h) (fun t u h => (VA_part (hts t)).2 h)
  have close : ∀ {cv : Value} {w' : World}, InvR X B (recTS L.toList recsF ++ ts) (FH.getD 0 [] ++ [.dead, .cells ej (rj.zero.map .lit)]) ρ a w' → VA B.Z (FH.getD 0 [] ++ [.dead, .cells ej (rj.zero.map .lit)]) ρ w' v cv → v.lt (FH.getD 0 []).length → Kx (a.put o.dst cv) w' := by
    intro cv w' hI' hv hvl
    refine hK _ _ ⟨ρ, ⟨hI'.rel, fun t => ?_, tmps_put.1.trans hI'.size, tmps_put.2.trans hI'.defers, hI'.ro, hI'.rolen, hI'.since, hI'.rok⟩, fun q hq hh hqj => ?_, hI.bd, hI.kpl, hI.rol⟩
    · rw [ts_next hnd hri hrd hks ho hmem, put_get hI'.size (dstOk_ok hdo)]
      split
      · exact hv
      · exact hI'.ts t
    · rw [has_set hks] at hh
      simp only [Bool.or_eq_true, decide_eq_true_eq] at hh
      rcases hh with hh | hh
      · have := rec_same hri hq hmem hh
        subst this
        exact hvl
      · exact hI.vlt q hq hh hqj
  cases hse : isEvent o.op with
  | false =>
    rw [hse] at hqt
    have hq2 := hqt hevk
    simp only [quieten, Option.some.injEq] at hq2
    subst hq2
    obtain ⟨v', cv, hKK, hva, hstep⟩ := gStill_ok (Q := Q) hT (hrel.part hbdp) htr hoi hse hev
    simp only [K0, Option.some.injEq, Prod.mk.injEq] at hKK
    obtain ⟨rfl, rfl, rfl⟩ := hKK
    exact hstep _ (close hI.inv ((VA_part (VA.lt hva)).1 hva) (VA.lt hva))
  | true =>
    rw [hse] at hqt
    have hq2 := hqt hevk
    obtain ⟨v', U', N', hKK, hro, hstep⟩ := gEval_ok (Q := Q) hT hE (hrel.part hbdp) htr hoi hev
    simp only [K0, Option.some.injEq, Prod.mk.injEq] at hKK
    obtain ⟨rfl, rfl, rfl⟩ := hKK
    refine hstep _ fun cv w' hok => ?_
    have hok2 := quieten_ok hbdp hq2 hok
    obtain ⟨r1, r2, r3, r4, r5⟩ := frame_ok hrel hbdp hok2
    have k5 := rok_next (U := []) (N := []) hI.inv.rolen hI.inv.rok (by simp) (show Ext _ ρ w (Heap.upd _ [] ++ []) ρ w' by simpa [Heap.upd] using r2) (by simpa using r4)
    simp only [Heap.upd, List.append_nil] at k5
    exact close ⟨r1, r2.TRel hI.inv.ts, hI.inv.size, hI.inv.defers, hI.inv.ro, hI.inv.rolen, hI.inv.since.step r2, k5⟩ r3 r5
theorem at_app0 (H : Heap) (x : AO) (S : Heap) : Heap.at (H ++ x :: S) H.length = x := at_app H (x :: S) 0
theorem at_app1 (H : Heap) (x y : AO) (S : Heap) : Heap.at (H ++ x :: y :: S) (H.length + 1) = y := at_app H (x :: y :: S) 1
theorem at_app2 (H : Heap) (x y z : AO) (S : Heap) : Heap.at (H ++ x :: y :: z :: S) (H.length + 2) = z := at_app H (x :: y :: z :: S) 2
theorem live_two {H : Heap} {x y : AO} {l : Nat} (h : (Heap.at (H ++ [x, y]) l).isLive = true) : l < H.length ∨ l = H.length ∨ l = H.length + 1 := by
  have := at_lt h; simp at this; omega
theorem live_three {H : Heap} {x y : AO} {l : Nat} (h : (Heap.at (H ++ [.dead, x, y]) l).isLive = true) : l < H.length ∨ l = H.length + 1 ∨ l = H.length + 2 := by
  have h1 := at_lt h
  simp at h1
  have h2 : l ≠ H.length := fun e => by subst e; rw [at_app0] at h; cases h
  omega
/-- the last of three under the first one's name -/
def back (n : Nat) (ρ : Rho) : Rho := fun l => if l = n then ρ (n + 2) else ρ l
theorem back_lt {n : Nat} {ρ : Rho} {l : Nat} (h : l ≠ n) : back n ρ l = ρ l := if_neg h
theorem back_at {n : Nat} {ρ : Rho} : back n ρ n = ρ (n + 2) := if_pos rfl
theorem rename_three {Z : Nat → Prop} {H : Heap} {ρ : Rho} {w : World} {e1 e2 : TypeId} {z1 z2 : List Value} (h : Rel Z (H ++ [.dead, .cells e2 (z2.map .lit), .cells e1 (z1.map .lit)]) ρ w) (hb : Bd H) :
    (∀ k, own (H ++ [.cells e1 (z1.map .lit), .cells e2 (z2.map .lit)]) (back H.length ρ) k ↔ own (H ++ [.dead, .cells e2 (z2.map .lit), .cells e1 (z1.map .lit)]) ρ k) ∧
    Rel Z (H ++ [.cells e1 (z1.map .lit), .cells e2 (z2.map .lit)]) (back H.length ρ) w ∧
    ∀ (x : AV) (v : Value), x.lt H.length → VA Z (H ++ [.dead, .cells e2 (z2.map .lit), .cells e1 (z1.map .lit)]) ρ w x v → VA Z (H ++ [.cells e1 (z1.map .lit), .cells e2 (z2.map .lit)]) (back H.length ρ) w x v := by
  have hown : ∀ k, own (H ++ [.cells e1 (z1.map .lit), .cells e2 (z2.map .lit)]) (back H.length ρ) k ↔ own (H ++ [.dead, .cells e2 (z2.map .lit), .cells e1 (z1.map .lit)]) ρ k := by
    intro k
    constructor
    · rintro ⟨l, p, hl, hp, he⟩
      rcases live_two hl with h1 | h1 | h1
      · exact ⟨l, p, by rw [at_append_lt h1] at hl ⊢; exact hl, by rw [back_lt (by omega)] at hp; exact hp, he⟩
      · subst h1; exact ⟨H.length + 2, p, by rw [at_app2]; rfl, by rw [back_at] at hp; exact hp, he⟩
      · subst h1; exact ⟨H.length + 1, p, by rw [at_app1]; rfl, by rw [back_lt (by omega)] at hp; exact hp, he⟩
    · rintro ⟨l, p, hl, hp, he⟩
      rcases live_three hl with h1 | h1 | h1
      · exact ⟨l, p, by rw [at_append_lt h1] at hl ⊢; exact hl, by rw [back_lt (by omega)]; exact hp, he⟩
      · subst h1; exact ⟨H.length + 1, p, by rw [at_app1]; rfl, by rw [back_lt (by omega)]; exact hp, he⟩
      · subst h1; exact ⟨H.length, p, by rw [at_app0]; rfl, by rw [back_at]; exact hp, he⟩
  have key : ∀ {l : Nat} {p : Pl}, (Heap.at (H ++ [.cells e1 (z1.map .lit), .cells e2 (z2.map .lit)]) l).isLive = true → back H.length ρ l = some p → ∃ m, (Heap.at (H ++ [.dead, .cells e2 (z2.map .lit), .cells e1 (z1.map .lit)]) m).isLive = true ∧ ρ m = some p ∧ (l = m ∧ l ≠ H.length ∧ m ≠ H.length + 2 ∨ l = H.length ∧ m = H.length + 2) := by
    intro l p hl hp
    rcases live_two hl with h1 | h1 | h1
    · exact ⟨l, by rw [at_append_lt h1] at hl ⊢; exact hl, by rw [back_lt (by omega)] at hp; exact hp, .inl ⟨rfl, by omega, by omega⟩⟩
    · subst h1; exact ⟨H.length + 2, by rw [at_app2]; rfl, by rw [back_at] at hp; exact hp, .inr ⟨rfl, rfl⟩⟩
    · subst h1; exact ⟨H.length + 1, by rw [at_app1]; rfl, by rw [back_lt (by omega)] at hp; exact hp, .inl ⟨rfl, by omega, by omega⟩⟩
  refine ⟨hown, Rel.rename h hb (fun l hl => back_lt (by omega)) hown (fun l hl => ?_) (fun l l' p p' k hl hl' hp hp' he he' => ?_) (fun l p k hl hp hk => ?_)⟩
  · rcases Nat.lt_or_ge l (H ++ [AO.cells e1 (z1.map .lit), .cells e2 (z2.map .lit)]).length with h1 | h1
    · simp at h1
      have h2 : l = H.length ∨ l = H.length + 1 := by omega
      rcases h2 with rfl | rfl
      · rw [at_app0]
        have := h.obj (H.length + 2)
        rw [at_app2] at this
        obtain ⟨p, vs, g1, g2, g3, g4⟩ := this
        exact ⟨p, vs, by rw [back_at]; exact g1, g2, lits_V1 g3, g4⟩
      · rw [at_app1]
        have := h.obj (H.length + 1)
        rw [at_app1] at this
        obtain ⟨p, vs, g1, g2, g3, g4⟩ := this
        exact ⟨p, vs, by rw [back_lt (by omega)]; exact g1, g2, lits_V1 g3, g4⟩
    · rw [at_ge h1]; trivial
  · obtain ⟨m, m1, m2, m3⟩ := key hl hp
    obtain ⟨m', m1', m2', m3'⟩ := key hl' hp'
    have := h.inj m m' p p' k m1 m1' m2 m2' he he'
    omega
  · obtain ⟨m, m1, m2, m3⟩ := key hl hp
    exact h.inn m p k m1 m2 hk
include g pg ai in
/-- behind the two -/
theorem after_both {L : Array Bool} (hC : Closed (edged ops i j) L) (hb : ∀ (k : Nat) (o : Oper), (edged ops i j).toList[k]? = some o → ev.has k = true → (BV.has L.toList k = true ↔ k = i ∨ k = j)) : cn (edged ops i j) ev L.toList = 2 := by
  have h1 := (closed_first g hC 1 j ai.e1).1 ((hb j oj ai.hoj pg.ej).2 (.inr rfl))
  have hle := cn_le (ops := edged ops i j) (ev := ev) L.toList
  rcases Nat.lt_or_ge 2 (evs (edged ops i j) ev).length with h | h
  · have hx : (evs (edged ops i j) ev)[2]? = some (evs (edged ops i j) ev)[2] := List.getElem?_eq_getElem h
    obtain ⟨oe, hoe, hee⟩ := evs_get hx
    have s1 := evs_sorted (Nat.lt_succ_self 1) ai.e1 hx
    have hlt := pg.lt
    have h2 : ¬ 2 < cn (edged ops i j) ev L.toList := fun hh => by
      have := (hb _ oe hoe hee).1 ((closed_first g hC 2 _ hx).2 hh)
      omega
    omega
  · omega
include hT hE g hnd hF hri hrd hts pg ai in
theorem pair_b2 {L : Array Bool} {a : Act} {w : World} (hs : L.size = (edged ops i j).size) (hb : BSet (edged ops i j) tab i j L) (hI : ∃ ρ, BInv X j B ts recsF (FH.getD 0 []) (.cells ej (rj.zero.map .lit)) L ρ a w)
    {Kx : Act → World → Prop} (hK : ∀ a' w', Closed (edged ops i j) (L.setIfInBounds i true) → (∃ ρ, DInv X (edged ops i j) ev tab B ts recsF FH (L.setIfInBounds i true) ρ a' w') → Kx a' w') : wpOp P (edged ops i j) Q i Kx a w := by
  obtain ⟨ρ, hI⟩ := hI
  have hu := fun t => rec_uniq (t := t) hnd hri hrd
  have his : i < L.size := by rw [hs]; simpa using (List.getElem?_eq_some_iff.1 ai.hoi).1
  have hev := ev_alloc (X := X) (all := edged ops i j) (ts := []) (H := FH.getD 0 [] ++ [.dead, .cells ej (rj.zero.map .lit)]) ai.opi ai.gi ai.ti
  obtain ⟨v', U', N', hKK, hro, hstep⟩ := gEval_ok (Q := Q) hT hE hI.inv.rel (a := a) (ts := []) (fun t => trivial) (i := i) (by rw [← Array.getElem?_toList]; exact ai.hoi) hev
  simp only [K0, Option.some.injEq, Prod.mk.injEq] at hKK
  obtain ⟨rfl, rfl, rfl⟩ := hKK
  have hC : Closed (edged ops i j) (L.setIfInBounds i true) := fun k o hk hh p hp => by
    rw [has_set his] at hh ⊢
    simp only [Bool.or_eq_true, decide_eq_true_eq] at hh ⊢
    by_cases hki : k = i
    · subst hki; rw [pg.pi o hk] at hp; cases hp
    · by_cases hkj : k = j
      · subst hkj; rw [pg.pj o hk] at hp; exact .inl (List.mem_singleton.1 hp)
      · exact .inr ((hb.cl k o hk (hh.resolve_left hki) hkj).1 p hp)
  have hev2 : ∀ (k : Nat) (o : Oper), (edged ops i j).toList[k]? = some o → ev.has k = true → (BV.has (L.setIfInBounds i true).toList k = true ↔ k = i ∨ k = j) := fun k o hk he => by
    rw [has_set his]
    simp only [Bool.or_eq_true, decide_eq_true_eq]
    constructor
    · rintro (h | h)
      · exact .inl h
      · by_cases hkj : k = j
        · exact .inr hkj
        · rcases pg.evt k o hk he with h1 | h1 | ⟨h1, _⟩
          · exact .inl h1
          · exact .inr h1
          · have := ((hb.cl k o hk h hkj).2 i h1).1
            rw [hb.hi] at this; cases this
    · rintro (h | h)
      · exact .inl h
      · subst h; exact .inr hb.hj
  have hcn := after_both g pg ai hC hev2
  refine hstep _ fun cv w' hok => hK _ _ hC ?_
  obtain ⟨ρ', hva, hrel, hext, hkept⟩ := hok
  simp only [Heap.upd, List.append_assoc, List.cons_append, List.nil_append] at hva hrel hext
  obtain ⟨hown, hrel2, hvals⟩ := rename_three hrel hI.bd
  have hsS := hI.inv.since.step hext
  have hlen0 := hI.rol
  refine ⟨back (FH.getD 0 []).length ρ', ⟨by rw [hcn, ai.f2]; exact hrel2, fun t => ?_, tmps_put.1.trans hI.inv.size, tmps_put.2.trans hI.inv.defers, ?_, ?_, ?_, ?_⟩, fun k hk => ?_, fun q hq hh => ?_⟩
  · rw [hcn, ai.f2, ts_next hnd hri hrd his ai.hoi ai.mi, put_get hI.inv.size (dstOk_ok ai.di)]
    split
    · obtain ⟨h1, h2, h3⟩ := hva
      refine ⟨by simp, h2, fun _ => ?_⟩
      have h4 : (FH.getD 0 [] ++ [AO.dead, .cells ej (rj.zero.map .lit)]).length = (FH.getD 0 []).length + 2 := by simp
      rw [h4] at h3
      rw [back_at]
      exact h3 (by rw [at_app2]; rfl)
    · have h0 := hext.TRel hI.inv.ts t
      rw [get_app] at h0 ⊢
      cases hl : look (recTS L.toList recsF) t with
      | none => rw [hl] at h0; exact hvals _ _ (hts t) h0
      | some x =>
        rw [hl] at h0
        obtain ⟨q, h1, h2, h3, h4⟩ := look_rec hl
        by_cases hqj : q.i = j
        · have := rec_same hri h1 ai.mj hqj
          subst this
          subst h4
          obtain ⟨k1, k2, k3⟩ := h0
          refine ⟨by simp, k2, fun _ => ?_⟩
          rw [back_lt (by omega)]
          exact k3 (by rw [at_app1]; rfl)
        · subst h4
          exact hvals _ _ (hI.vlt q h1 h2 hqj) h0
  · rw [hcn, ai.f2, List.take_append_of_le_length hlen0, ← hI.inv.ro, List.take_append_of_le_length hlen0]
  · rw [hcn, ai.f2, List.length_append]; omega
  · rw [hcn, ai.f2]
    refine ⟨hsS.os, hsS.tape, hsS.output, hsS.size, hsS.keep, fun k hk => hsS.own k ((hown k).1 hk), fun l hl => ?_, ?_, fun l hl d hx => ?_⟩
    · have := hI.kpl
      rw [cor_of (back_lt (by omega))]; exact hsS.rho l hl
    · have := hI.kpl; rw [List.length_append]; omega
    · have := hI.kpl
      refine hsS.row l hl d ?_
      rw [at_append_lt (by omega)] at hx ⊢; exact hx
  · intro l hl hv
    have hln : l < (FH.getD 0 []).length := Nat.lt_of_lt_of_le hl hlen0
    rw [hcn, ai.f2, at_append_lt hln] at hv
    have hv2 : (Heap.at (FH.getD 0 [] ++ [.dead, .cells ej (rj.zero.map .lit)]) l).isLive = true := by rw [at_append_lt hln]; exact hv
    obtain ⟨q1, q2⟩ := hkept l (fun u hu => by cases hu) hv2
    obtain ⟨q3, q4⟩ := hI.inv.rok l hl hv2
    have q5 : back (FH.getD 0 []).length ρ' l = ρ' l := back_lt (by omega)
    exact ⟨(q5.trans q1).trans q3, fun p k hp hf => by rw [q5, q1] at hp; rw [q2 p k hp hf]; exact q4 p k hp hf⟩
  · rw [hcn] at hk
    have h3 : k = 0 ∨ k = 1 ∨ k = 2 := by omega
    rcases h3 with rfl | rfl | rfl
    · exact hI.bd
    · rw [ai.f1]
      intro l c hc
      rcases Nat.lt_or_ge l (FH.getD 0 []).length with h4 | h4
      · rw [at_append_lt h4] at hc
        exact C1.lt_mono (by simp) (hI.bd l c hc)
      · by_cases h6 : l = (FH.getD 0 []).length
        · subst h6
          rw [at_new] at hc
          obtain ⟨z, _, rfl⟩ := List.mem_map.1 hc
          trivial
        · rw [at_append_dead (by omega) h6] at hc
          simp [AO.cs] at hc
    · rw [ai.f2]; exact hrel2.bd
  · rw [has_set his] at hh
    simp only [Bool.or_eq_true, decide_eq_true_eq] at hh
    by_cases hqi : q.i = i
    · have := rec_same hri hq ai.mi hqi
      subst this
      simp only [ai.ci, pg.ei, if_true, Nat.zero_add, ai.f1]
      show _ < _
      simp
    · by_cases hqj : q.i = j
      · have := rec_same hri hq ai.mj hqj
        subst this
        simp only [ai.cj, pg.ej, if_true, ai.f2]
        show _ < _
        simp
      · have h1 := hh.resolve_left hqi
        obtain ⟨oq, hoq, _⟩ := rec_at hri hrd hq
        have h2 : ev.has q.i = false := by
          cases he : ev.has q.i with
          | false => rfl
          | true =>
            have := (hev2 q.i oq hoq he).1 (by rw [has_set his]; simp [h1])
            omega
        rw [h2]
        exact AV.lt_mono (FH_mono g hF (Nat.zero_le _) (by simp only [Bool.false_eq_true, if_false, Nat.add_zero]; exact cn_le _)) (hI.vlt q hq h1 hqj)
include hT hE hsrc g hnd hF hn0 hri hrd hFl hts hQ pg ai in
theorem pair_any : ∀ (fuel : Nat) (L : Array Bool) (a : Act) (w : World), L.size = ops.size → L.toList.count false = fuel →
    ((Closed (edged ops i j) L ∧ ∃ ρ, DInv X (edged ops i j) ev tab B ts recsF FH L ρ a w) ∨ (BSet (edged ops i j) tab i j L ∧ ∃ ρ, BInv X j B ts recsF (FH.getD 0 []) (.cells ej (rj.zero.map .lit)) L ρ a w)) → wpAny P .any ops Q fuel L a w := by
  have hsz : (edged ops i j).size = ops.size := edged_size
  have his : i < ops.size := by rw [← hsz]; simpa using (List.getElem?_eq_some_iff.1 ai.hoi).1
  -- an operation of the region, as the other one has it
  have op1 : ∀ {k : Nat} {o : Oper}, ops.toList[k]? = some o → ∃ o1, (edged ops i j).toList[k]? = some o1 ∧ ∀ p, p ∈ preds o1 ↔ (k = j ∧ p = i ∨ p ∈ preds o) := by
    intro k o ho
    rw [edged_get hsrc]
    by_cases hk : k = j
    · subst hk
      rw [if_pos rfl, ho]
      exact ⟨_, rfl, fun p => by rw [preds_edge]; constructor <;> rintro (h | h) <;> simp_all⟩
    · rw [if_neg hk]
      exact ⟨o, ho, fun p => ⟨.inr, fun h => h.resolve_left fun h => hk h.1⟩⟩
  have hltp : ∀ (k : Nat) (o : Oper), ops.toList[k]? = some o → ∀ p ∈ preds o, p < k := fun k o ho p hp => by
    obtain ⟨o1, h1, h2⟩ := op1 ho
    exact g.lt k o1 h1 p ((h2 p).2 (.inr hp))
  have cnt : ∀ {L : Array Bool} {k : Nat}, k < L.size → L.getD k true = false → ∀ {fuel : Nat}, L.toList.count false = fuel + 1 → (L.setIfInBounds k true).toList.count false = fuel := by
    intro L k hk hnot fuel hc
    have h0 : L.toList[k]? = some false := by
      rw [Array.getElem?_toList, Array.getElem?_eq_getElem hk]
      rw [Array.getD_eq_getD_getElem?, Array.getElem?_eq_getElem hk] at hnot
      exact congrArg some hnot
    have := count_set L.toList k h0
    rw [Array.toList_setIfInBounds]; omega
  have allT : ∀ {L : Array Bool}, L.size = ops.size → L.toList.count false = 0 → ∀ k, k < ops.size → L.getD k false = true := by
    intro L hs hc k hk
    have hlL : k < L.toList.length := by simp; omega
    have : L.toList[k]? = some L.toList[k] := List.getElem?_eq_getElem hlL
    cases hb : L.toList[k] with
    | true => rw [hb] at this; rw [Array.getD_eq_getD_getElem?, ← Array.getElem?_toList, this]; rfl
    | false =>
      rw [hb] at this
      have := List.count_pos_iff.2 (List.mem_of_getElem? this)
      omega
  have noB : ∀ {L : Array Bool}, BSet (edged ops i j) tab i j L → (∀ k, k < ops.size → L.getD k false = true) → False := by
    intro L hb h
    have := h i his
    rw [← has_toList, hb.hi] at this; cases this
  have noReady : ∀ {L : Array Bool}, (∀ k, k < ops.size → L.getD k false = true) → L.size = ops.size → Region.ready .any ops L = [] := by
    intro L hall hs
    apply List.eq_nil_iff_forall_not_mem.2
    intro k hk
    obtain ⟨o, ho, h1, _⟩ := mem_ready.1 hk
    have hlt : k < ops.size := by simpa using (List.getElem?_eq_some_iff.1 ho).1
    have := hall k hlt
    rw [Array.getD_eq_getD_getElem?, Array.getElem?_eq_getElem (by omega)] at this h1
    simp only [Option.getD_some] at this h1
    rw [this] at h1; cases h1
  -- where no more is ready
  have fin : ∀ {L : Array Bool} {a : Act} {w : World}, L.size = ops.size → ((Closed (edged ops i j) L ∧ ∃ ρ, DInv X (edged ops i j) ev tab B ts recsF FH L ρ a w) ∨ (BSet (edged ops i j) tab i j L ∧ ∃ ρ, BInv X j B ts recsF (FH.getD 0 []) (.cells ej (rj.zero.map .lit)) L ρ a w)) → (∀ k, k < ops.size → L.getD k false = true) → Q .normal a w := by
    intro L a w hs hI hall
    rcases hI with ⟨hC, hI⟩ | ⟨hb, _⟩
    · have hc0 : L.toList.count false = 0 := List.count_eq_zero.2 fun hm => by
        obtain ⟨k, hk⟩ := List.getElem?_of_mem hm
        have hkl := (List.getElem?_eq_some_iff.1 hk).1
        have := hall k (by simp at hkl; omega)
        rw [Array.getD_eq_getD_getElem?, ← Array.getElem?_toList, hk] at this; cases this
      exact (draw_any hT hE g hnd hF hn0 hri hrd hFl hts hQ 0 L a w (by rw [hsz]; exact hs) hc0 hC hI).2
    · exact (noB hb hall).elim
  intro fuel
  induction fuel with
  | zero =>
    intro L a w hs hc hI
    exact ⟨noReady (allT hs hc) hs, fin hs hI (allT hs hc)⟩
  | succ fuel ih =>
    intro L a w hs hc hI
    refine ⟨fun hr => fin hs hI (ready_some' hltp hs hr), fun k hk => ?_⟩
    obtain ⟨o, ho, hnot, hp⟩ := mem_ready.1 hk
    have hks : k < ops.size := by simpa using (List.getElem?_eq_some_iff.1 ho).1
    have hkL : k < L.size := by omega
    have hnl : BV.has L.toList k = false := by
      rw [has_toList]
      rw [Array.getD_eq_getD_getElem?, Array.getElem?_eq_getElem hkL] at hnot ⊢
      exact hnot
    obtain ⟨o1, ho1, hpr⟩ := op1 ho
    have hs1 : L.size = (edged ops i j).size := by rw [hsz]; exact hs
    have hsS : (L.setIfInBounds k true).size = ops.size := by simpa using hs
    have hcS := cnt hkL hnot hc
    refine wpOp_edge (i := i) hsrc ?_
    rcases hI with ⟨hC, hI⟩ | ⟨hb, hI⟩
    · by_cases hcase : k = j ∧ BV.has L.toList i = false
      · obtain ⟨rfl, hiL⟩ := hcase
        refine pair_b1 hT hE g hnd hri hrd pg ai hs1 hC hI hiL hnl fun a' w' h => ih _ _ _ hsS hcS (.inr ⟨⟨?_, ?_, fun m om hm hh hmj => ?_⟩, h⟩)
        · rw [has_set hkL]; simp
        · rw [has_set hkL]
          have : i ≠ k := by have := pg.lt; omega
          simp [this, hiL]
        · rw [has_set hkL] at hh
          simp only [Bool.or_eq_true, decide_eq_true_eq] at hh
          have hh := hh.resolve_left hmj
          refine ⟨fun p hpm => by rw [has_set hkL]; simp [hC m om hm hh p hpm], fun q hq => ?_⟩
          have hq2 := closed_anc g hC hm (fun p hpm => hC m om hm hh p hpm) q hq
          exact ⟨by rw [has_set hkL]; simp [hq2], fun e => by subst e; rw [hnl] at hq2; cases hq2⟩
      · have hp1 : ∀ p ∈ preds o1, BV.has L.toList p = true := fun p hp' => by
          rcases (hpr p).1 hp' with ⟨h1, h2⟩ | h
          · subst h2
            cases hx : BV.has L.toList p with
            | true => rfl
            | false => exact absurd ⟨h1, hx⟩ hcase
          · exact hp p h
        exact draw_step hT hE g hnd hF hri hrd hFl hts hn0 hs1 hC hI ho1 hnot hp1 (fun a' w' h => ih _ _ _ hsS hcS (.inl ⟨closed_set hkL ho1 hp1 hC, h⟩))
    · by_cases hki : k = i
      · subst hki
        exact pair_b2 hT hE g hnd hF hri hrd hts pg ai hs1 hb hI fun a' w' hC' h => ih _ _ _ hsS hcS (.inl ⟨hC', h⟩)
      · have hkj : k ≠ j := fun e => by subst e; rw [hb.hj] at hnl; cases hnl
        have hp1 : ∀ p ∈ preds o1, BV.has L.toList p = true := fun p hp' => by
          rcases (hpr p).1 hp' with ⟨h1, _⟩ | h
          · exact absurd h1 hkj
          · exact hp p h
        have hbt := between g pg hb ho1 hp1
        refine pair_b3 hT hE g hnd hF hri hrd hts pg ai hs1 hb hI ho1 hnl hki hp1 fun a' w' h => ih _ _ _ hsS hcS (.inr ⟨⟨?_, ?_, fun m om hm hh hmj => ?_⟩, h⟩)
        · rw [has_set hkL]; simp [hb.hj]
        · rw [has_set hkL]
          have : i ≠ k := fun e => hki e.symm
          simp [this, hb.hi]
        · rw [has_set hkL] at hh
          simp only [Bool.or_eq_true, decide_eq_true_eq] at hh
          rcases hh with rfl | hh
          · rw [ho1] at hm; cases hm
            exact ⟨fun p hpm => by rw [has_set hkL]; simp [hp1 p hpm], fun q hq => ⟨by rw [has_set hkL]; simp [(hbt q hq).1], (hbt q hq).2⟩⟩
          · obtain ⟨h1, h2⟩ := hb.cl m om hm hh hmj
            exact ⟨fun p hpm => by rw [has_set hkL]; simp [h1 p hpm], fun q hq => ⟨by rw [has_set hkL]; simp [(h2 q hq).1], (h2 q hq).2⟩⟩
end steps
end
/-- a region whose order Go leaves open, two allocs of it too -/
theorem drawSym_ok {P : Program} {X : Ctx P} {ops : Array Oper} {B : Base} {β : Type} {Q : Exit → Act → World → Prop} (hT : TIok P X.ti) (hE : ∀ e ∈ X.tb, EOk P e) (hN : ∀ e ∈ X.tb, ENat e) {K : TS → Heap → Option β} {r : β} (hQ : ∀ ts H a w, K ts H = some r → Inv X B ts H a w → Q .normal a w)
    {ts : TS} {H : Heap} {a : Act} {w : World} (h : drawSym X ops B.N ts H K = some r) (hI : Inv X B ts H a w) : wpAny P .any ops Q ops.size (Array.replicate ops.size false) a w := by
  unfold drawSym at h
  split at h
  · exact drawAll_ok hT hE hN hQ h hI
  split at h
  case h_2 => cases h
  rename_i p q rest hfil
  split at h
  case isFalse => cases h
  rename_i hpair
  have hmem : q ∈ numbered 0 ops.toList := by
    have : q ∈ (numbered 0 ops.toList).filter (fun p => (evOf X (numbered 0 ops.toList) (ancTab ops.toList [])).has p.1) := by rw [hfil]; simp
    exact (List.mem_filter.1 this).1
  have hsrc : ∃ o, ops.toList[q.1]? = some o := ⟨q.2, mem_num0.1 hmem⟩
  generalize p.1 = i at *
  generalize q.1 = j at *
  unfold drawAll at h
  dsimp only at h
  split at h
  case isFalse => cases h
  rename_i hc
  simp only [Bool.and_eq_true] at hc
  obtain ⟨hnd, hrow⟩ := hc
  have g := tabG_of hrow
  obtain ⟨more, FM, HF, k1, k2, k3, k4, k5, k6⟩ := drawRun_facts g hN _ [] [] [] H rfl rfl h
  simp only [List.nil_append] at k1 k2 k5 k6
  obtain ⟨ρ, hI⟩ := hI
  have hF : ∀ (k : Nat) (o : Oper), (edged ops i j).toList[k]? = some o → Fact X (edged ops i j) _ _ B.N (dstsOf (edged ops i j).toList) ts H.length more (H :: FM) k o := fun k o ho => k2 (k, o) (mem_num0.2 ho)
  have pg := pairG_of hpair
  obtain ⟨oi, oj, ei, ej, ri, rj, ai⟩ := ainfo g hF pg
  have has0 : ∀ k, BV.has (Array.replicate ops.size false).toList k = false := fun k => by
    rw [has_toList, Array.getD_eq_getD_getElem?, Array.getElem?_replicate]; split <;> rfl
  have hc0 : ∀ ev, cn (edged ops i j) ev (Array.replicate ops.size false).toList = 0 := fun ev => by
    rw [cn, cntE_eq, List.countP_eq_zero]; intro e _; rw [has0]; exact Bool.false_ne_true
  have hr0 : recTS (Array.replicate ops.size false).toList more = [] := recTS_none _ _ fun q _ => has0 _
  refine pair_any (recsF := more) (FH := H :: FM) (ts := ts) hT hE hsrc g hnd hF rfl k3 k4 k5 (fun t => ?_) (fun a w hI => hQ _ _ a w k1 (k6 ▸ hI)) pg ai ops.size _ a w (by simp) (by simp) (.inl ⟨(fun i o _ hi => by rw [has0] at hi; cases hi), ρ, ?_, ?_, ?_⟩)
  · exact VA.lt (hI.ts t)
  · rw [hc0, hr0]; exact hI
  · intro k hk
    rw [hc0] at hk
    have : k = 0 := by omega
    subst this; exact hI.rel.bd
  · intro q _ hh; rw [has0] at hh; cases hh
end Go.Proofs.YtaklapcbbdcdpaaDoor.X
