import Derived.Test.YtaklapcbbdcdpaaDoorXV
namespace Go.Proofs.YtaklapcbbdcdpaaDoor.X
open Go Go.RowKit
set_option linter.unusedVariables false
set_option linter.unusedSimpArgs false
/-- what leaves the objects as they are, leaves those that it doesn't see -/
theorem frame_ok {Z : Nat → Prop} {Hp S : Heap} {ρ : Rho} {w w' : World} {v : AV} {cv : Value} (hR : Rel Z (Hp ++ S) ρ w) (hb : Bd Hp) (ok : OK (hid Z Hp S ρ) Hp ρ w v [] [] cv w') :
    Rel Z (Hp ++ S) ρ w' ∧ Ext (Hp ++ S) ρ w (Hp ++ S) ρ w' ∧ VA Z (Hp ++ S) ρ w' v cv ∧ KeepO (Hp ++ S) ρ w [] w' ρ ∧ v.lt Hp.length := by
  obtain ⟨ρ', hva, hrel, hext, hkept⟩ := ok
  simp only [Heap.upd, List.append_nil] at hva hrel hext
  have hρ : ∀ l, (Hp.at l).isLive = true → ρ' l = ρ l := fun l hl => (hkept l (fun u hu => by cases hu) hl).1
  have e0 : Ext Hp ρ' w' Hp ρ w' := ⟨rfl, rfl, rfl, Nat.le_refl _, fun _ _ _ => rfl, fun k ⟨l, p, hl, hp, he⟩ => .inl ⟨l, p, hl, by rw [hρ l hl]; exact hp, he⟩, Nat.le_refl _, fun l hl => (hext.rho l hl).symm, fun _ _ h => h, fun l hl d h => h⟩
  have hrel2 : Rel (hid Z Hp S ρ) Hp ρ w' := hrel.step e0 (fun l hl => .inl ⟨at_lt hl, rfl, (hρ l hl).symm, fun _ _ _ _ => rfl⟩) (fun l l' p p' k h1 hl => absurd ⟨at_lt hl, (hρ l hl).symm⟩ h1)
  have hva2 := e0.VA hva
  have eF : Ext (Hp ++ S) ρ w (Hp ++ S) ρ w' := ⟨hext.os, hext.tape, hext.output, hext.size, fun k hk ho => hext.keep k hk (fun h => ho (own_part h)), fun _ h => .inl h, Nat.le_refl _, fun _ _ => rfl, fun _ _ h => h, fun l hl d h => h⟩
  have far : ∀ l p k, Hp.length ≤ l → ((Hp ++ S).at l).isLive = true → ρ l = some p → p.foot k → w'.heap[k]? = w.heap[k]? := fun l p k h1 hl hp hf => by
    refine hext.keep k (hR.foot_lt hl hp hf) ?_
    rintro ⟨l', p', hl', hp', hf'⟩
    have h2 := at_lt hl'
    have := hR.inj l l' p p' k hl (by rw [at_append_lt h2]; exact hl') hp hp' hf hf'
    omega
  refine ⟨hR.step eF (fun l hl => ?_) (fun l l' p p' k h1 hl => absurd ⟨at_lt hl, rfl⟩ h1), eF, (VA_part (VA.lt hva2)).1 hva2, fun l hu hl => ?_, VA.lt hva2⟩
  · rcases Nat.lt_or_ge l Hp.length with h1 | h1
    · right
      have ho := hrel2.obj l
      rw [at_append_lt h1] at hl ⊢
      exact ⟨(Holds.part (hb l)).1 ho, fun p k hp hk => hrel2.inn l p k hl hp hk⟩
    · exact .inl ⟨at_lt hl, rfl, rfl, fun p k hp hf => far l p k h1 hl hp hf⟩
  · rcases Nat.lt_or_ge l Hp.length with h1 | h1
    · rw [at_append_lt h1] at hl
      exact ⟨rfl, (hkept l hu hl).2⟩
    · exact ⟨rfl, fun p k hp hf => far l p k h1 hl hp hf⟩
/-- a slice that was made, and is read alone from there on -/
theorem quieten_ok {Z : Nat → Prop} {H : Heap} {ρ : Rho} {w w' : World} {v0 v : AV} {U : Upd} {Ns : List AO} {cv : Value} (hb : Bd H) (hq : quieten true H.length v0 U Ns = some v) (ok : OK Z H ρ w v0 U Ns cv w') : OK Z H ρ w v [] [] cv w' := by
  unfold quieten at hq
  split at hq
  · rename_i h; cases h
  · simp only [Option.some.injEq] at hq; subst hq; exact ok
  · rename_i e s xs _
    split at hq
    case h_2 => cases hq
    rename_i l z
    split at hq
    case isFalse => cases hq
    rename_i hc
    simp only [Bool.and_eq_true, beq_iff_eq] at hc
    obtain ⟨rfl, rfl⟩ := hc
    simp only [Option.some.injEq] at hq
    subst hq
    obtain ⟨ρ1, hva, hrel, hext, hkept⟩ := ok
    simp only [Heap.upd] at hva hrel hext
    obtain ⟨f1, f2, f3⟩ := freeze1_ok hrel (c := .own H.length s.sz) (v := cv) hva
    have hat : Heap.at (H ++ [AO.row e s xs]) H.length = .row e s xs := at_new
    have hfz : freeze1 (H ++ [AO.row e s xs]) (.own H.length s.sz) = (.vsl s xs, [(H.length, .dead)]) := by
      simp only [freeze1, hat]
    rw [hfz] at f1 f2 f3
    have hset : Heap.upd (H ++ [AO.row e s xs]) [(H.length, .dead)] = H ++ [.dead] := by
      simp only [Heap.upd]
      rw [List.set_append_right _ _ (Nat.le_refl _)]
      simp
    rw [hset] at f1 f2 f3
    have hown : ∀ k, own (H ++ [AO.dead]) ρ1 k → own H ρ1 k := by
      rintro k ⟨l, p, hl, hp, he⟩
      rcases live_app hl with h | h
      · rw [at_append_lt h] at hl; exact ⟨l, p, hl, hp, he⟩
      · subst h; rw [at_new] at hl; cases hl
    have hhid : hid Z H [.dead] ρ1 = Z := funext fun k => propext ⟨fun h => h.elim id fun h => absurd (hown k h.1) h.2, .inl⟩
    have hp := f1.part hb
    rw [hhid] at hp
    have hv2 : VA (hid Z H [.dead] ρ1) H ρ1 w' (.v (.one (.vsl s xs))) cv := (VA_part (x := .v (.one (.vsl s xs))) trivial).2 f3
    rw [hhid] at hv2
    refine ⟨ρ1, by simpa [Heap.upd] using hv2, by simpa [Heap.upd] using hp, ?_, hkept⟩
    have : Heap.upd H [] ++ [] = H := by simp [Heap.upd]
    rw [this]
    exact ⟨hext.os, hext.tape, hext.output, hext.size, hext.keep, fun k hk => hext.own k (own_part hk), Nat.le_refl _, hext.rho, fun _ _ h => h, fun l hl d h => h⟩
  · cases hq
section
variable {P : Program} {X : Ctx P} {ops : Array Oper} {ev : BV} {tab : List BV} {B : Base} {ts : TS} {recsF : List Rec} {FH : List Heap} {n0 : Nat} {Q : Exit → Act → World → Prop}
variable (hT : TIok P X.ti) (hE : ∀ e ∈ X.tb, EOk P e) (g : TabG ops ev tab) (hnd : nodup (dstsOf ops.toList) = true)
  (hF : ∀ i o, ops.toList[i]? = some o → Fact X ops ev tab B.N (dstsOf ops.toList) ts n0 recsF FH i o) (hn0 : n0 = (FH.getD 0 []).length)
  (hri : recsF.map (·.i) = (numbered 0 ops.toList).map (·.1)) (hrd : recsF.map (·.d) = (numbered 0 ops.toList).map (·.2.dst)) (hFl : FH.length = (evs ops ev).length + 1) (hts : ∀ t, (ts.get t).lt (FH.getD 0 []).length)
  (hQ : ∀ a w, Inv X B (allTS recsF ++ ts) (FH.getD (evs ops ev).length []) a w → Q .normal a w)
theorem mem_ready {L : Array Bool} {i : Nat} : i ∈ Region.ready .any ops L ↔ ∃ o, ops.toList[i]? = some o ∧ L.getD i true = false ∧ ∀ p ∈ preds o, BV.has L.toList p = true := by
  simp only [Region.ready, List.mem_filter, List.mem_range, Bool.and_eq_true, Bool.not_eq_true']
  constructor
  · rintro ⟨h1, h2, h3⟩
    have ho : ops[i]? = some ops[i] := Array.getElem?_eq_getElem h1
    rw [ho] at h3
    refine ⟨ops[i], by rw [Array.getElem?_toList]; exact ho, h2, fun p hp => ?_⟩
    simp only [Option.map_some, Option.getD_some, Array.all_eq_true'] at h3
    simp only [preds, List.mem_filterMap, Array.mem_toList_iff] at hp
    obtain ⟨e, he, hpe⟩ := hp
    split at hpe
    · rename_i hb
      simp only [Option.some.injEq] at hpe
      have := h3 e he
      rw [has_toList, ← hpe]
      simpa [hb] using this
    · cases hpe
  · rintro ⟨o, ho, h2, h3⟩
    have h1 := (List.getElem?_eq_some_iff.1 ho).1
    rw [Array.getElem?_toList] at ho
    refine ⟨by simpa using h1, h2, ?_⟩
    rw [ho]
    simp only [Option.map_some, Option.getD_some, Array.all_eq_true']
    intro e he
    cases hb : Region.binds .any e with
    | false => simp
    | true =>
      have := h3 e.on (by simp only [preds, List.mem_filterMap, Array.mem_toList_iff]; exact ⟨e, he, by rw [if_pos hb]⟩)
      rw [has_toList] at this
      simpa using this
include g in
theorem ready_some {L : Array Bool} (hs : L.size = ops.size) (h : Region.ready .any ops L = []) : ∀ i, i < ops.size → L.getD i false = true := by
  intro i
  induction i using Nat.strongRecOn with
  | _ i ih =>
    intro hi
    have ho : ops.toList[i]? = some ops.toList[i] := List.getElem?_eq_getElem (by simpa using hi)
    cases hL : L.getD i false with
    | true => rfl
    | false =>
      have : i ∈ Region.ready .any ops L := mem_ready.2 ⟨_, ho, by
        simp only [Array.getD_eq_getD_getElem?] at hL ⊢
        rw [Array.getElem?_eq_getElem (by omega)] at hL ⊢
        exact hL, fun p hp => by
          have := g.lt i _ ho p hp
          rw [has_toList]; exact ih p this (by omega)⟩
      rw [h] at this; cases this
theorem allTS_eq {v : BV} : ∀ {l : List Rec}, (∀ q ∈ l, v.has q.i = true) → recTS v l = allTS l
  | [], _ => rfl
  | q :: l, h => by
    have ih := allTS_eq (v := v) (l := l) (fun q' hq => h q' (List.mem_cons_of_mem _ hq))
    simp only [recTS, allTS, h q (by simp), ih, if_true]
theorem rel_tsi {Z : Nat → Prop} {H : Heap} {ρ : Rho} {w : World} {a : Act} {v : BV} {L : Array Bool} (hv : ∀ j, v.has j = true → BV.has L.toList j = true) (hu : ∀ t, ∀ a ∈ recsF, ∀ b ∈ recsF, a.d = some t → b.d = some t → a = b) {ms : List Tmp} (hd : ∀ q ∈ recsF, ∀ t, q.d = some t → t ∈ ms ∨ BV.has L.toList q.i = false)
    {Z' : Nat → Prop} {H' : Heap} (hR : TRel Z H ρ w (recTS L.toList recsF ++ ts) a) (hq : ∀ q ∈ recsF, v.has q.i = true → ∀ u, VA Z H ρ w q.v u → VA Z' H' ρ w q.v u) (ht : ∀ t u, VA Z H ρ w (ts.get t) u → VA Z' H' ρ w (ts.get t) u) :
    TRel Z' H' ρ w (recTS v recsF ++ (anyTS ms ++ ts)) a := by
  intro t
  have h0 := hR t
  rcases tsi_cases (ts := ts) hv hu hd t with ⟨q, h1, h2, h3, h4⟩ | h3 | ⟨h3, h4⟩
  · rw [h3]; rw [h4] at h0; exact hq q h1 h2 _ h0
  · rw [h3]; trivial
  · rw [h3]; rw [h4] at h0; exact ht t _ h0
theorem closed_set {L : Array Bool} {i : Nat} {o : Oper} (hiL : i < L.size) (ho : ops.toList[i]? = some o) (hp : ∀ p ∈ preds o, BV.has L.toList p = true) (hC : Closed ops L) : Closed ops (L.setIfInBounds i true) := fun j oj hj hh p hpj => by
  rw [has_set hiL] at hh ⊢
  simp only [Bool.or_eq_true, decide_eq_true_eq] at hh ⊢
  rcases hh with rfl | hh
  · rw [ho] at hj; cases hj; exact .inr (hp p hpj)
  · exact .inr (hC j oj hj hh p hpj)
include hT hE g hnd hF hri hrd hFl hts in
theorem draw_step (hn0 : n0 = (FH.getD 0 []).length) {L : Array Bool} {a : Act} {w : World} (hs : L.size = ops.size) (hC : Closed ops L) (hI : ∃ ρ, DInv X ops ev tab B ts recsF FH L ρ a w) {i : Nat} {o : Oper} (ho : ops.toList[i]? = some o) (hnot : L.getD i true = false) (hp : ∀ p ∈ preds o, BV.has L.toList p = true)
    {Kx : Act → World → Prop} (hK : ∀ a' w', (∃ ρ, DInv X ops ev tab B ts recsF FH (L.setIfInBounds i true) ρ a' w') → Kx a' w') : wpOp P ops Q i Kx a w := by
    have _ := hFl
    have hu := fun t => rec_uniq (t := t) hnd hri hrd
    have hlt : i < ops.size := by simpa using (List.getElem?_eq_some_iff.1 ho).1
    have hiL : i < L.size := by omega
    have hoi : ops[i]? = some o := by rw [← Array.getElem?_toList]; exact ho
    have hnl : BV.has L.toList i = false := by
      rw [has_toList]
      rw [Array.getD_eq_getD_getElem?, Array.getElem?_eq_getElem hiL] at hnot ⊢
      exact hnot
    have hCs : Closed ops (L.setIfInBounds i true) := fun j oj hj hh p hpj => by
      rw [has_set hiL] at hh ⊢
      simp only [Bool.or_eq_true, decide_eq_true_eq] at hh ⊢
      rcases hh with rfl | hh
      · rw [ho] at hj; cases hj; exact .inr (hp p hpj)
      · exact .inr (hC j oj hj hh p hpj)
    obtain ⟨ρ, hI⟩ := hI
    have hanc := closed_anc g hC ho hp
    have hlate : ∀ q ∈ recsF, ∀ t, q.d = some t → t ∈ maskB tab i (numbered 0 ops.toList) ∨ BV.has L.toList q.i = false := fun q hq t ht => by
      obtain ⟨oq, hoq, hdq⟩ := rec_at hri hrd hq
      rcases mem_mask (tab := tab) (i := i) (mem_num0.2 hoq) (hdq ▸ ht) with h | h
      · exact .inl h
      · right
        cases hh : BV.has L.toList q.i with
        | false => rfl
        | true =>
          have := closed_anc g hC hoq (fun p hp => hC q.i oq hoq hh p hp) i h
          rw [hnl] at this; cases this
    have hfirst := closed_first g hC
    have hfirstS := closed_first g hCs
    obtain ⟨v, v0, U, Ns, hmem, hdo, hev, hevt, hqt⟩ := hF i o ho
    have hcnle := cn_le (ops := ops) (ev := ev) L.toList
    -- the step's end, for whatever it left
    have close : ∀ {ρ' : Rho} {cv : Value} {w' : World}, InvR X B (recTS L.toList recsF ++ ts) (FH.getD (cn ops ev (L.setIfInBounds i true).toList) []) ρ' a w' → VA B.Z (FH.getD (cn ops ev (L.setIfInBounds i true).toList) []) ρ' w' v cv →
        (∀ k, k ≤ cn ops ev (L.setIfInBounds i true).toList → Bd (FH.getD k [])) → v.lt (FH.getD (cn ops ev (tab.getD i []) + if ev.has i then 1 else 0) []).length →
        Kx (a.put o.dst cv) w' := by
      intro ρ' cv w' hI' hv hbd hvl
      refine hK _ _ ⟨ρ', ⟨hI'.rel, fun t => ?_, tmps_put.1.trans hI'.size, tmps_put.2.trans hI'.defers, hI'.ro, hI'.rolen, hI'.since, hI'.rok⟩, hbd, fun q hq hh => ?_⟩
      · rw [ts_next hnd hri hrd hiL ho hmem, put_get hI'.size (dstOk_ok hdo)]
        split
        · exact hv
        · exact hI'.ts t
      · rw [has_set hiL] at hh
        simp only [Bool.or_eq_true, decide_eq_true_eq] at hh
        rcases hh with hh | hh
        · have := rec_same hri hq hmem hh
          subst this
          exact hvl
        · exact hI.vlt q hq hh
    cases hie : ev.has i with
    | true =>
      obtain ⟨hv0, hevt1⟩ := hevt hie
      subst hv0
      obtain ⟨r, hr⟩ : ∃ r, (evs ops ev)[r]? = some i := List.getElem?_of_mem (mem_evL.2 ⟨o, mem_num0.2 ho, hie⟩)
      have hrank := g.rank hr
      have hrk : r = cn ops ev L.toList := by
        have h1 : ¬ r < cn ops ev L.toList := fun h => by rw [(hfirst r i hr).2 h] at hnl; cases hnl
        rcases Nat.lt_trichotomy r (cn ops ev L.toList) with h | h | h
        · exact absurd h h1
        · exact h
        · have hk := (List.getElem?_eq_some_iff.1 hr).1
          have hx : (evs ops ev)[cn ops ev L.toList]? = some (evs ops ev)[cn ops ev L.toList] := List.getElem?_eq_getElem (by omega)
          have h2 := (anc_first g ho _ _ hx).2 (by show _ < cntE _ _ _; rw [hrank]; exact h)
          have := (hfirst _ _ hx).1 (hanc _ h2)
          omega
      have hcS : cn ops ev (L.setIfInBounds i true).toList = cn ops ev L.toList + 1 := by
        have h1 := (hfirstS r i hr).1 (by rw [has_set hiL]; simp)
        have h2 := cn_le (ops := ops) (ev := ev) (L.setIfInBounds i true).toList
        rcases Nat.lt_or_ge (r + 1) (evs ops ev).length with h3 | h3
        · have hx : (evs ops ev)[r + 1]? = some (evs ops ev)[r + 1] := List.getElem?_eq_getElem h3
          have h4 : ¬ r + 1 < cn ops ev (L.setIfInBounds i true).toList := fun h => by
            have h5 := (hfirstS _ _ hx).2 h
            rw [has_set hiL] at h5
            simp only [Bool.or_eq_true, decide_eq_true_eq] at h5
            rcases h5 with h5 | h5
            · have := evs_sorted (Nat.lt_succ_self r) hr hx; omega
            · have := (hfirst _ _ hx).1 h5; omega
          omega
        · omega
      have hce : cntE ev (tab.getD i []) (numbered 0 ops.toList) = cn ops ev L.toList := by rw [hrank, hrk]
      rw [hce] at hev hevt1
      have htr : TRel B.Z (FH.getD (cn ops ev L.toList) []) ρ w (recTS (tab.getD i []) recsF ++ (anyTS (maskB tab i (numbered 0 ops.toList)) ++ ts)) a :=
        rel_tsi hanc hu hlate hI.inv.ts (fun _ _ _ _ h => h) (fun _ _ h => h)
      obtain ⟨v', U', N', hK, hro, hstep⟩ := gEval_ok (Q := Q) hT hE hI.inv.rel htr hoi hev
      simp only [K0, Option.some.injEq, Prod.mk.injEq] at hK
      obtain ⟨rfl, rfl, rfl⟩ := hK
      refine hstep _ fun cv w' hok => ?_
      obtain ⟨ρ', k1, k2, k3, k4⟩ := hok
      have hH := hevt1.1
      have k5 := rok_next hI.inv.rolen hI.inv.rok hro k3 k4
      rw [← hH] at k1 k2 k3 k5
      have hro2 : (FH.getD (cn ops ev L.toList + 1) []).take X.ro = B.R ∧ X.ro ≤ (FH.getD (cn ops ev L.toList + 1) []).length := by
        rw [hH]
        have := hI.inv.rolen
        exact ⟨by rw [List.take_append_of_le_length (by rw [upd_len]; exact this), take_upd _ _ _ hro]; exact hI.inv.ro, by rw [List.length_append, upd_len]; omega⟩
      refine close (ρ' := ρ') ?_ ?_ ?_ ?_
      · rw [hcS]
        exact ⟨k2, k3.TRel hI.inv.ts, hI.inv.size, hI.inv.defers, hro2.1, hro2.2, hI.inv.since.step k3, k5⟩
      · rw [hcS]; exact k1
      · intro k hk
        rw [hcS] at hk
        rcases Nat.lt_or_ge k (cn ops ev L.toList + 1) with h | h
        · exact hI.bd k (by omega)
        · have : k = cn ops ev L.toList + 1 := by omega
          subst this; exact k2.bd
      · have : cn ops ev (tab.getD i []) = cn ops ev L.toList := hce
        rw [this, hie]; exact VA.lt k1
    | false =>
      have hcS : cn ops ev (L.setIfInBounds i true).toList = cn ops ev L.toList := by
        rw [cn, cn, cntE_eq, cntE_eq]
        refine List.countP_congr fun e he => ?_
        obtain ⟨oe, h1, h2⟩ := mem_evL.1 he
        have hne : e ≠ i := fun e' => by
          subst e'
          have := mem_num0.1 h1
          rw [hie] at h2; cases h2
        rw [has_set hiL]; simp [hne]
      have hpk : cn ops ev (tab.getD i []) ≤ cn ops ev L.toList := cn_mono hanc
      -- the heaps from there on
      have hlen0 : ∀ m, m ≤ (evs ops ev).length → (FH.getD 0 []).length ≤ (FH.getD m []).length := fun m hm => FH_mono g hF (Nat.zero_le _) hm
      have chain : ∀ m, cn ops ev (tab.getD i []) + m ≤ cn ops ev L.toList → ∃ Hs S, FH.getD (cn ops ev (tab.getD i []) + m) [] = Hs ++ S ∧ Hs.length = (FH.getD (cn ops ev (tab.getD i [])) []).length ∧ Bd Hs ∧
          gEval X ops (recTS (tab.getD i []) recsF ++ (anyTS (maskB tab i (numbered 0 ops.toList)) ++ ts)) Hs o K0 = some (v0, U, Ns) := by
        intro m
        induction m with
        | zero => intro _; exact ⟨_, [], by simp, rfl, hI.bd _ hpk, hev⟩
        | succ m ihm =>
          intro hm
          obtain ⟨Hs, S, hS, hSl, hSb, hSe⟩ := ihm (by omega)
          have hx : (evs ops ev)[cn ops ev (tab.getD i []) + m]? = some (evs ops ev)[cn ops ev (tab.getD i []) + m] := List.getElem?_eq_getElem (by omega)
          obtain ⟨oe, hoe, heve⟩ := evs_get hx
          generalize (evs ops ev)[cn ops ev (tab.getD i []) + m] = e at hx hoe heve
          have hrk := g.rank hx
          have heL := (hfirst _ _ hx).2 (by omega)
          have hnanc : BV.has (tab.getD i []) e = false := by
            cases hh : BV.has (tab.getD i []) e with
            | false => rfl
            | true => have := (anc_first g ho _ _ hx).1 hh; omega
          obtain ⟨v2, _, U2, N2, _, _, _, h2, _⟩ := hF e oe hoe
          obtain ⟨_, h3, h4⟩ := h2 heve
          rw [hrk] at h3 h4
          have hie' : e ≠ i := fun hq => by subst hq; rw [hie] at heve; cases heve
          have hanc' : BV.has (tab.getD e []) i = false := by
            cases hh : BV.has (tab.getD e []) i with
            | false => rfl
            | true =>
              have := closed_anc g hC hoe (fun p hp => hC e oe hoe heL p hp) i hh
              rw [hnl] at this; cases this
          rcases h4 with h4 | h4 | ⟨h4, h5⟩ | ⟨h4, h5⟩ | ⟨⟨h4, h4'⟩, h5⟩
          · subst h4
            refine ⟨Hs, S ++ N2, ?_, hSl, hSb, hSe⟩
            rw [← Nat.add_assoc, h3, Heap.upd, hS, List.append_assoc]
          · exfalso
            have := List.all_eq_true.1 h4 i (by simpa using hlt)
            simp only [Bool.or_eq_true, beq_iff_eq] at this
            rcases this with (this | this) | this
            · exact hie' this.symm
            · rw [hanc'] at this; cases this
            · rw [hnanc] at this; cases this
          · have hsoft : softOp (recTS (tab.getD i []) recsF ++ (anyTS (maskB tab i (numbered 0 ops.toList)) ++ ts)) (U2.map (·.1)) o = true := by
              rcases h5 i o ho with h6 | h6 | h6 | h6
              · exact absurd h6.symm hie'
              · rw [hanc'] at h6; cases h6
              · rw [hnanc] at h6; cases h6
              · exact h6
            have hcu : ∀ u ∈ U2, (∃ e cs, (FH.getD (cn ops ev (tab.getD i []) + m) []).at u.1 = .cells e cs) ∧ ∃ e cs, u.2 = .cells e cs ∧ ∀ c ∈ cs, C1.lt n0 c := fun u hu => by
              have := List.all_eq_true.1 h4 u hu
              split at this
              · rename_i e1 c1 e2 c2 g1 g2
                exact ⟨⟨_, _, g1⟩, _, _, g2, fun c hc => ltB0_ok (List.all_eq_true.1 this c hc)⟩
              · cases this
            obtain ⟨S', hS', _⟩ := upd_front U2 Hs S
            have hUf : ∀ u ∈ U2.filter (fun u => decide (u.1 < Hs.length)), (∃ e cs, Hs.at u.1 = .cells e cs) ∧ ∃ e cs, u.2 = .cells e cs := fun u hu => by
              obtain ⟨hu1, hu2⟩ := List.mem_filter.1 hu
              have hu3 : u.1 < Hs.length := of_decide_eq_true hu2
              obtain ⟨⟨e1, c1, g1⟩, e2, c2, g2, _⟩ := hcu u hu1
              rw [hS, at_append_lt hu3] at g1
              exact ⟨⟨_, _, g1⟩, _, _, g2⟩
            have hlike := like_upd (n0 := n0) (U2.filter (fun u => decide (u.1 < Hs.length))) hUf
            refine ⟨Hs.upd U2, S' ++ N2, ?_, by rw [upd_len]; exact hSl, ?_, ?_⟩
            · rw [← Nat.add_assoc, h3, hS, hS', List.append_assoc]
            · intro l c hc
              rw [upd_len]
              rcases upd_at_or U2 Hs l with h7 | ⟨u, hu, h7, h8⟩
              · rw [h7] at hc; exact hSb l c hc
              · rw [h8] at hc
                obtain ⟨_, e2, c2, g2, g3⟩ := hcu u hu
                rw [g2] at hc
                refine C1.lt_mono ?_ (g3 c hc)
                rw [hSl, hn0]; exact hlen0 _ (cn_le _)
            · rw [← upd_filter U2 Hs, like_g hlike (softOp_sub (fun k hk => ?_) hsoft)]
              · exact hSe
              · simp only [List.mem_map, List.mem_filter] at hk ⊢
                obtain ⟨u, ⟨hu, _⟩, rfl⟩ := hk
                exact ⟨u, hu, rfl⟩
          · have hpure : pureOp o = true := by
              rcases h5 i o ho with h6 | h6 | h6 | h6
              · exact absurd h6.symm hie'
              · rw [hanc'] at h6; cases h6
              · rw [hnanc] at h6; cases h6
              · exact h6
            obtain ⟨S', hS', _⟩ := upd_front U2 Hs S
            refine ⟨Hs.upd U2, S' ++ N2, ?_, by rw [upd_len]; exact hSl, ?_, ?_⟩
            · rw [← Nat.add_assoc, h3, hS, hS', List.append_assoc]
            · intro l c hc
              rw [upd_len]
              rcases upd_at_or U2 Hs l with h7 | ⟨u, hu, h7, h8⟩
              · rw [h7] at hc; exact hSb l c hc
              · rw [h8] at hc
                have := List.all_eq_true.1 h4 u hu
                cases hx : u.2 with
                | row e s xs => rw [hx] at hc; simp [AO.cs] at hc
                | dead => rw [hx] at hc; simp [AO.cs] at hc
                | cells e cs => rw [hx] at this; cases this
                | nest e es s xs op => rw [hx] at this; cases this
            · rw [pure_g hpure Hs]; exact hSe
          · have hpure : lenOp o = true := by
              rcases h5 i o ho with h6 | h6 | h6 | h6
              · exact absurd h6.symm hie'
              · rw [hanc'] at h6; cases h6
              · rw [hnanc] at h6; cases h6
              · exact h6
            have hdim := rows_dim hS h4 h4'
            obtain ⟨S', hS', _⟩ := upd_front U2 Hs S
            refine ⟨Hs.upd U2, S' ++ N2, ?_, by rw [upd_len]; exact hSl, ?_, ?_⟩
            · rw [← Nat.add_assoc, h3, hS, hS', List.append_assoc]
            · intro l c hc
              rw [upd_len]
              rcases upd_at_or U2 Hs l with h7 | ⟨u, hu, h7, h8⟩
              · rw [h7] at hc; exact hSb l c hc
              · rw [h8] at hc
                have := List.all_eq_true.1 h4 u hu
                split at this
                · rename_i e1 e2; rw [e2] at hc; simp [AO.cs] at hc
                · cases this
            · rw [dim_g hdim hpure]; exact hSe
      obtain ⟨Hp, S, hS, hSl, hbdp, hevp⟩ := chain (cn ops ev L.toList - cn ops ev (tab.getD i [])) (by omega)
      rw [show cn ops ev (tab.getD i []) + (cn ops ev L.toList - cn ops ev (tab.getD i [])) = cn ops ev L.toList by omega] at hS
      have hrel := hI.inv.rel
      have hts0 := hI.inv.ts
      rw [hS] at hrel hts0
      have hpm : cn ops ev (tab.getD i []) ≤ (evs ops ev).length := cn_le _
      have htr : TRel (hid B.Z Hp S ρ) Hp ρ w (recTS (tab.getD i []) recsF ++ (anyTS (maskB tab i (numbered 0 ops.toList)) ++ ts)) a := by
        refine rel_tsi hanc hu hlate hts0 (fun q hq hh u h => (VA_part ?_).2 h) (fun t u h => (VA_part ?_).2 h)
        · obtain ⟨oq, hoq, _⟩ := rec_at hri hrd hq
          have hl := hI.vlt q hq (hanc _ hh)
          rw [hSl]
          refine AV.lt_mono (FH_mono g hF ?_ hpm) hl
          cases heq : ev.has q.i with
          | true =>
            obtain ⟨rq, hrq⟩ : ∃ r, (evs ops ev)[r]? = some q.i := List.getElem?_of_mem (mem_evL.2 ⟨oq, mem_num0.2 hoq, heq⟩)
            have h1 : cn ops ev (tab.getD q.i []) = rq := g.rank hrq
            have h2 := (anc_first g ho _ _ hrq).1 hh
            simp only [if_true]; omega
          | false =>
            simp only [Bool.false_eq_true, if_false, Nat.add_zero]
            exact cn_mono fun j hj => g.trans i o ho q.i j hh hj
        · rw [hSl]; exact AV.lt_mono (FH_mono g hF (Nat.zero_le _) hpm) (hts t)
      cases hse : isEvent o.op with
      | false =>
        rw [hse] at hqt
        have hq2 := hqt hie
        simp only [quieten, Option.some.injEq] at hq2
        subst hq2
        obtain ⟨v', cv, hK, hva, hstep⟩ := gStill_ok (Q := Q) hT (hrel.part hbdp) htr hoi hse hevp
        simp only [K0, Option.some.injEq, Prod.mk.injEq] at hK
        obtain ⟨rfl, rfl, rfl⟩ := hK
        refine hstep _ ?_
        refine close (ρ' := ρ) ?_ ?_ ?_ ?_
        · rw [hcS]; exact hI.inv
        · rw [hcS, hS]; exact (VA_part (VA.lt hva)).1 hva
        · rw [hcS]; exact hI.bd
        · rw [hie]; have := VA.lt hva; rw [hSl] at this; exact this
      | true =>
        rw [hse] at hqt
        have hq2 := hqt hie
        obtain ⟨v', U', N', hK, hro, hstep⟩ := gEval_ok (Q := Q) hT hE (hrel.part hbdp) htr hoi hevp
        simp only [K0, Option.some.injEq, Prod.mk.injEq] at hK
        obtain ⟨rfl, rfl, rfl⟩ := hK
        refine hstep _ fun cv w' hok => ?_
        rw [← hSl] at hq2
        have hok2 := quieten_ok hbdp hq2 hok
        obtain ⟨r1, r2, r3, r4, r5⟩ := frame_ok hrel hbdp hok2
        have k5 := rok_next (U := []) (N := []) hI.inv.rolen hI.inv.rok (by simp) (show Ext _ ρ w (Heap.upd _ [] ++ []) ρ w' by rw [show Heap.upd (FH.getD (cn ops ev L.toList) []) [] ++ [] = FH.getD (cn ops ev L.toList) [] by simp [Heap.upd], hS]; exact r2) (by rw [hS]; exact r4)
        simp only [Heap.upd, List.append_nil] at k5
        refine close (ρ' := ρ) ?_ ?_ ?_ ?_
        · rw [hcS]
          have r2' := r2
          rw [← hS] at r1 r2
          exact ⟨r1, r2.TRel hI.inv.ts, hI.inv.size, hI.inv.defers, hI.inv.ro, hI.inv.rolen, hI.inv.since.step r2, k5⟩
        · rw [hcS, hS]; exact r3
        · rw [hcS]; exact hI.bd
        · rw [hie]; rw [hSl] at r5; exact r5
include hT hE g hnd hF hn0 hri hrd hFl hts hQ in
theorem draw_any : ∀ (fuel : Nat) (L : Array Bool) (a : Act) (w : World), L.size = ops.size → L.toList.count false = fuel → Closed ops L → (∃ ρ, DInv X ops ev tab B ts recsF FH L ρ a w) → wpAny P .any ops Q fuel L a w := by
  have _ := hFl
  have hu := fun t => rec_uniq (t := t) hnd hri hrd
  have fin : ∀ (L : Array Bool) (a : Act) (w : World), L.size = ops.size → Closed ops L → (∃ ρ, DInv X ops ev tab B ts recsF FH L ρ a w) → (∀ i, i < ops.size → L.getD i false = true) → Q .normal a w := by
    intro L a w hs hC ⟨ρ, hI⟩ hall
    refine hQ a w ⟨ρ, ?_⟩
    have e1 : recTS L.toList recsF = allTS recsF := allTS_eq fun q hq => by
      obtain ⟨o, h1, _⟩ := rec_at hri hrd hq
      rw [has_toList]; exact hall _ (by simpa using (List.getElem?_eq_some_iff.1 h1).1)
    have e2 : cn ops ev L.toList = (evs ops ev).length := by
      rw [cn, cntE_eq]
      refine List.countP_eq_length.2 fun e he => ?_
      obtain ⟨o, h1, _⟩ := mem_evL.1 he
      have := mem_num0.1 h1
      rw [has_toList]; exact hall _ (by simpa using (List.getElem?_eq_some_iff.1 this).1)
    have := hI.inv
    rw [e1, e2] at this
    exact this
  intro fuel
  induction fuel with
  | zero =>
    intro L a w hs hc hC hI
    have hall : ∀ i, i < ops.size → L.getD i false = true := fun i hi => by
      have hlL : i < L.toList.length := by simp; omega
      have : L.toList[i]? = some L.toList[i] := List.getElem?_eq_getElem hlL
      cases hb : L.toList[i] with
      | true => rw [hb] at this; rw [Array.getD_eq_getD_getElem?, ← Array.getElem?_toList, this]; rfl
      | false =>
        rw [hb] at this
        have := List.count_pos_iff.2 (List.mem_of_getElem? this)
        omega
    refine ⟨?_, fin L a w hs hC hI hall⟩
    apply List.eq_nil_iff_forall_not_mem.2
    intro i hi
    obtain ⟨o, ho, h1, _⟩ := mem_ready.1 hi
    have hlt : i < ops.size := by simpa using (List.getElem?_eq_some_iff.1 ho).1
    have := hall i hlt
    rw [Array.getD_eq_getD_getElem?, Array.getElem?_eq_getElem (by omega)] at this h1
    simp only [Option.getD_some] at this h1
    rw [this] at h1; cases h1
  | succ fuel ih =>
    intro L a w hs hc hC hI
    refine ⟨fun hr => fin L a w hs hC hI (ready_some g hs hr), fun i hi => ?_⟩
    obtain ⟨o, ho, hnot, hp⟩ := mem_ready.1 hi
    have hlt : i < ops.size := by simpa using (List.getElem?_eq_some_iff.1 ho).1
    have hiL : i < L.size := by omega
    have hCs : Closed ops (L.setIfInBounds i true) := closed_set hiL ho hp hC
    have hcs : (L.setIfInBounds i true).toList.count false = fuel := by
      have h0 : L.toList[i]? = some false := by
        rw [Array.getElem?_toList, Array.getElem?_eq_getElem hiL]
        rw [Array.getD_eq_getD_getElem?, Array.getElem?_eq_getElem hiL] at hnot
        exact congrArg some hnot
      have := count_set L.toList i h0
      rw [Array.toList_setIfInBounds]; omega
    exact draw_step hT hE g hnd hF hri hrd hFl hts hn0 hs hC hI ho hnot hp (fun a' w' h => ih _ _ _ (by simpa using hs) hcs hCs h)
end
/-- a region whose order Go leaves open -/
theorem drawAll_ok {P : Program} {X : Ctx P} {ops : Array Oper} {B : Base} {β : Type} {Q : Exit → Act → World → Prop} (hT : TIok P X.ti) (hE : ∀ e ∈ X.tb, EOk P e) (hN : ∀ e ∈ X.tb, ENat e) {K : TS → Heap → Option β} {r : β} (hQ : ∀ ts H a w, K ts H = some r → Inv X B ts H a w → Q .normal a w)
    {ts : TS} {H : Heap} {a : Act} {w : World} (h : drawAll X ops B.N ts H K = some r) (hI : Inv X B ts H a w) : wpAny P .any ops Q ops.size (Array.replicate ops.size false) a w := by
  unfold drawAll at h
  dsimp only at h
  split at h
  case isFalse => cases h
  rename_i hc
  simp only [Bool.and_eq_true] at hc
  obtain ⟨hnd, hrow⟩ := hc
  have g := tabG_of hrow
  obtain ⟨more, FM, HF, k1, k2, k3, k4, k5, k6⟩ := drawRun_facts g hN _ [] [] [] H rfl rfl h
  simp only [List.nil_append] at k1 k2 k5 k6
  obtain ⟨ρ, hI⟩ := hI
  have has0 : ∀ j, BV.has (Array.replicate ops.size false).toList j = false := fun j => by
    rw [has_toList, Array.getD_eq_getD_getElem?, Array.getElem?_replicate]; split <;> rfl
  have hc0 : ∀ ev, cn ops ev (Array.replicate ops.size false).toList = 0 := fun ev => by
    rw [cn, cntE_eq, List.countP_eq_zero]; intro e _; rw [has0]; exact Bool.false_ne_true
  have hr0 : recTS (Array.replicate ops.size false).toList more = [] := recTS_none _ _ fun q _ => has0 _
  refine draw_any (recsF := more) (FH := H :: FM) (ts := ts) hT hE g hnd (fun i o ho => k2 (i, o) (mem_num0.2 ho)) rfl k3 k4 k5 (fun t => ?_) (fun a w hI => hQ _ _ a w k1 (k6 ▸ hI)) ops.size _ a w (by simp) (by simp) (fun i o _ hi => by rw [has0] at hi; cases hi) ⟨ρ, ?_, ?_, ?_⟩
  · exact VA.lt (hI.ts t)
  · rw [hc0, hr0]; exact hI
  · intro k hk
    rw [hc0] at hk
    have : k = 0 := by omega
    subst this; exact hI.rel.bd
  · intro q _ hh; rw [has0] at hh; cases hh
end Go.Proofs.YtaklapcbbdcdpaaDoor.X
