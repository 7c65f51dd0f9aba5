import Derived.Test.YthllpilgfipkpaaXU
namespace Go.Proofs.Ythllpilgfipkpaa.X
open Go Go.RowKit
set_option linter.unusedVariables false
set_option linter.unusedSimpArgs false
theorem C1.lt0_mono {n m : Nat} (h : n ≤ m) {c : C1} (hc : c.lt0 n) : c.lt0 m := by
  cases c <;> first | trivial | (simp only [C1.lt0] at hc ⊢; omega)
theorem C1.lt_mono {n m : Nat} (h : n ≤ m) {c : C1} (hc : c.lt n) : c.lt m := by
  cases c with
  | fn f cs => exact fun c hc' => C1.lt0_mono h (hc c hc')
  | any => trivial
  | lit u => trivial
  | ptr l o => exact Nat.lt_of_lt_of_le hc h
  | ep l z i o => exact Nat.lt_of_lt_of_le hc h
  | vp s xs i o => trivial
  | own l z => exact Nat.lt_of_lt_of_le hc h
  | sl l z i o => exact Nat.lt_of_lt_of_le hc h
  | vsl s xs => trivial
theorem A2.lt_mono {n m : Nat} (h : n ≤ m) {c : A2} (hc : c.lt n) : c.lt m := by
  cases c with
  | one c => exact C1.lt_mono h hc
  | agg cs => exact fun c hc' => C1.lt_mono h (hc c hc')
theorem AV.lt_mono {n m : Nat} (h : n ≤ m) {c : AV} (hc : c.lt n) : c.lt m := by
  cases c with
  | v c => exact A2.lt_mono h hc
  | tup cs => exact fun c hc' => A2.lt_mono h (hc c hc')
theorem gStill_ok {P : Program} {X : Ctx P} {β : Type} {ops : Array Oper} {Q : Exit → Act → World → Prop} (hT : TIok P X.ti) {Z : Nat → Prop} {H : Heap} {ρ : Rho} {w : World} {ts : TS} {a : Act} {o : Oper} {i : Nat} {K : KO β} {r : β} (hR : Rel Z H ρ w) (ht : TRel Z H ρ w ts a) (hi : ops[i]? = some o) (hs : isEvent o.op = false) (h : gEval X ops ts H o K = some r) :
    ∃ v cv, K v [] [] = some r ∧ VA Z H ρ w v cv ∧ ∀ next : Act → World → Prop, next (a.put o.dst cv) w → wpOp P ops Q i next a w := by
  have run : ∀ {cv : Value} {next : Act → World → Prop}, (execOp a.eval o).run P w = .ok (.value cv) w → next (a.put o.dst cv) w → o.wp P a w next Q := fun h1 h2 => by
    unfold Oper.wp; rw [h1]; exact h2
  unfold gEval at h
  split at h
  · rename_i hg
    obtain ⟨v, cv, h1, h2, h3⟩ := still_ok hR ht hT hs h
    refine ⟨v, cv, h1, h3, fun next hn => ?_⟩
    have : Region.wanted o (yielded ops a.tmps) = true := by simp [Region.wanted, hg]
    simp only [wpOp, hi, this, if_true]
    exact .inl (run h2 hn)
  · rename_i j want hg
    split at h
    case h_2 => cases h
    rename_i b hb
    have hy := guard_ok ht hb
    have hw : Region.wanted o (yielded ops a.tmps) = (b == want) := by simp [Region.wanted, hg, hy]
    cases hbw : (b == want) with
    | true =>
      rw [hbw] at h hw
      simp only [cond_true] at h
      obtain ⟨v, cv, h1, h2, h3⟩ := still_ok hR ht hT hs h
      refine ⟨v, cv, h1, h3, fun next hn => ?_⟩
      simp only [wpOp, hi, hw, if_true]
      exact .inl (run h2 hn)
    | false =>
      rw [hbw] at h hw
      simp only [cond_false] at h
      refine ⟨_, undef, h, trivial, fun next hn => ?_⟩
      simp only [wpOp, hi, hw, Bool.false_eq_true, if_false]
      exact hn
theorem has_toList (L : Array Bool) (i : Nat) : BV.has L.toList i = L.getD i false := by
  simp [BV.has, List.getD_eq_getElem?_getD, Array.getD_eq_getD_getElem?]
theorem count_set : ∀ (l : List Bool) (i : Nat), l[i]? = some false → (l.set i true).count false + 1 = l.count false
  | [], i, h => by simp at h
  | b :: l, 0, h => by simp at h; subst h; simp
  | b :: l, i + 1, h => by
    have := count_set l i (by simpa using h)
    cases b <;> simp [List.count_cons] <;> omega
section
variable {P : Program} {X : Ctx P} {ops : Array Oper} {tab : List BV} {B : Base} {ts : TS} {recsF : List Rec} {FH : List Heap} {Q : Exit → Act → World → Prop}
abbrev cn (ops : Array Oper) (v : BV) : Nat := cntE v (numbered 0 ops.toList)
structure DInv (X : Ctx P) (ops : Array Oper) (tab : List BV) (B : Base) (ts : TS) (recsF : List Rec) (FH : List Heap) (L : Array Bool) (ρ : Rho) (a : Act) (w : World) : Prop where
  inv : InvR X B (recTS L.toList recsF ++ ts) (FH.getD (cn ops L.toList) []) ρ a w
  bd : ∀ k, k ≤ cn ops L.toList → Bd (FH.getD k [])
  vlt : ∀ q ∈ recsF, BV.has L.toList q.i = true → ∀ oq, ops.toList[q.i]? = some oq → q.v.lt (FH.getD (cn ops (tab.getD q.i []) + if isEvent oq.op then 1 else 0) []).length
def Closed (ops : Array Oper) (L : Array Bool) : Prop := ∀ i o, ops.toList[i]? = some o → BV.has L.toList i = true → ∀ p ∈ preds o, BV.has L.toList p = true
variable (hT : TIok P X.ti) (hE : ∀ e ∈ X.tb, EOk P e) (g : TabG ops tab) (hnd : nodup (dstsOf ops.toList) = true)
  (hF : ∀ i o, ops.toList[i]? = some o → Fact X ops tab B.N (dstsOf ops.toList) ts recsF FH i o)
  (hri : recsF.map (·.i) = (numbered 0 ops.toList).map (·.1)) (hrd : recsF.map (·.d) = (numbered 0 ops.toList).map (·.2.dst)) (hFl : FH.length = (evs ops).length + 1) (hts : ∀ t, (ts.get t).lt (FH.getD 0 []).length)
include hri hrd in
theorem rec_at {q : Rec} (hq : q ∈ recsF) : ∃ o, ops.toList[q.i]? = some o ∧ q.d = o.dst := by
  obtain ⟨k, hk⟩ := List.getElem?_of_mem hq
  have h1 : (recsF.map (·.i))[k]? = some q.i := by simp [hk]
  have h2 : (recsF.map (·.d))[k]? = some q.d := by simp [hk]
  rw [hri] at h1
  rw [hrd] at h2
  simp only [List.getElem?_map, Option.map_eq_some_iff] at h1 h2
  obtain ⟨p, hp, hp1⟩ := h1
  obtain ⟨p', hp', hp2⟩ := h2
  rw [hp] at hp'; cases hp'
  obtain ⟨i, o⟩ := p
  have := mem_num0.1 (List.mem_of_getElem? hp)
  exact ⟨o, by simp only at hp1; rw [← hp1]; exact this, hp2.symm⟩
theorem numbered_get : ∀ (l : List Oper) (k j : Nat) (p : Nat × Oper), (numbered k l)[j]? = some p → p.1 = k + j
  | [], k, j, p, h => by simp [numbered] at h
  | o :: l, k, 0, p, h => by simp [numbered] at h; rw [← h]; rfl
  | o :: l, k, j + 1, p, h => by
    have := numbered_get l (k + 1) j p (by simpa [numbered] using h)
    omega
include hri in
theorem rec_same {q q' : Rec} (hq : q ∈ recsF) (hq' : q' ∈ recsF) (h : q.i = q'.i) : q = q' := by
  obtain ⟨k, hk⟩ := List.getElem?_of_mem hq
  obtain ⟨k', hk'⟩ := List.getElem?_of_mem hq'
  have pos : ∀ {k : Nat} {q : Rec}, recsF[k]? = some q → q.i = k := fun {k q} hk => by
    have h1 : (recsF.map (·.i))[k]? = some q.i := by simp [hk]
    rw [hri] at h1
    simp only [List.getElem?_map, Option.map_eq_some_iff] at h1
    obtain ⟨p, hp, hp1⟩ := h1
    have := numbered_get _ _ _ _ hp
    omega
  have : k = k' := by rw [← pos hk, ← pos hk', h]
  subst this
  rw [hk] at hk'; exact Option.some.inj hk'
include hri hrd hnd in
theorem rec_uniq {t : Tmp} : ∀ a ∈ recsF, ∀ b ∈ recsF, a.d = some t → b.d = some t → a = b := by
  intro a ha b hb h1 h2
  obtain ⟨oa, k1, k2⟩ := rec_at hri hrd ha
  obtain ⟨ob, k3, k4⟩ := rec_at hri hrd hb
  exact rec_same hri ha hb (nodup_uniq hnd k1 k3 (k2 ▸ h1) (k4 ▸ h2))
include g in
theorem closed_anc {L : Array Bool} (hC : Closed ops L) {i : Nat} {o : Oper} (ho : ops.toList[i]? = some o) (hp : ∀ p ∈ preds o, BV.has L.toList p = true) : ∀ j, BV.has (tab.getD i []) j = true → BV.has L.toList j = true :=
  g.closed (D := fun j => BV.has L.toList j = true) (fun i o ho hi => hC i o ho hi) i o ho hp
include g in
theorem closed_first {L : Array Bool} (hC : Closed ops L) : ∀ (r e : Nat), (evs ops)[r]? = some e → (BV.has L.toList e = true ↔ r < cn ops L.toList) := by
  intro r e hr
  have := count_first (l := evs ops) (p := (BV.has L.toList ·)) (fun a b x y hab hx hy hp => by
    obtain ⟨ox, h1, h2⟩ := evs_get hx
    obtain ⟨oy, h3, h4⟩ := evs_get hy
    exact closed_anc g hC h3 (hC y oy h3 hp) x (g.ev x y ox oy h1 h3 h2 h4 (evs_sorted hab hx hy))) r e hr
  rw [this, cn, cntE_eq]; rfl
include g in
theorem anc_first {i : Nat} {o : Oper} (ho : ops.toList[i]? = some o) : ∀ (r e : Nat), (evs ops)[r]? = some e → (BV.has (tab.getD i []) e = true ↔ r < cn ops (tab.getD i [])) := by
  intro r e hr
  have := count_first (l := evs ops) (p := (BV.has (tab.getD i []) ·)) (fun a b x y hab hx hy hp => by
    obtain ⟨ox, h1, h2⟩ := evs_get hx
    obtain ⟨oy, h3, h4⟩ := evs_get hy
    exact g.trans i o ho y x hp (g.ev x y ox oy h1 h3 h2 h4 (evs_sorted hab hx hy))) r e hr
  rw [this, cn, cntE_eq]; rfl
theorem cn_le (v : BV) : cn ops v ≤ (evs ops).length := by rw [cn, cntE_eq]; exact List.countP_le_length
theorem cn_mono {v u : BV} (h : ∀ j, v.has j = true → u.has j = true) : cn ops v ≤ cn ops u := by
  rw [cn, cn, cntE_eq, cntE_eq]; exact List.countP_mono_left fun x _ => h x
include g hF in
/-- the heaps grow -/
theorem FH_len {k : Nat} (hk : k < (evs ops).length) : (FH.getD k []).length ≤ (FH.getD (k + 1) []).length := by
  have he : (evs ops)[k]? = some (evs ops)[k] := List.getElem?_eq_getElem hk
  obtain ⟨o, ho, hev⟩ := evs_get he
  obtain ⟨v, U, Ns, _, _, _, h⟩ := hF _ o ho
  have hr := g.rank he
  rw [hr] at h
  rw [(h hev).1, List.length_append, upd_len]; omega
include g hF in
theorem FH_mono {k m : Nat} (h : k ≤ m) (hm : m ≤ (evs ops).length) : (FH.getD k []).length ≤ (FH.getD m []).length := by
  induction m with
  | zero => have : k = 0 := by omega
            subst this; exact Nat.le_refl _
  | succ m ih =>
    rcases Nat.lt_or_ge m k with h1 | h1
    · have : k = m + 1 := by omega
      subst this; exact Nat.le_refl _
    · exact Nat.le_trans (ih h1 (by omega)) (FH_len g hF (by omega))
/-- what the operation's own operands are -/
theorem tsi_cases {L : Array Bool} {v : BV} {ms : List Tmp} (hv : ∀ j, v.has j = true → BV.has L.toList j = true) (hu : ∀ t, ∀ a ∈ recsF, ∀ b ∈ recsF, a.d = some t → b.d = some t → a = b) (hd : ∀ q ∈ recsF, ∀ t, q.d = some t → t ∈ ms ∨ BV.has L.toList q.i = false) (t : Tmp) :
    (∃ q ∈ recsF, v.has q.i = true ∧ TS.get (recTS v recsF ++ (anyTS ms ++ ts)) t = q.v ∧ TS.get (recTS L.toList recsF ++ ts) t = q.v) ∨
    TS.get (recTS v recsF ++ (anyTS ms ++ ts)) t = .one .any ∨
    (TS.get (recTS v recsF ++ (anyTS ms ++ ts)) t = ts.get t ∧ TS.get (recTS L.toList recsF ++ ts) t = ts.get t) := by
  simp only [get_app]
  cases hl : look (recTS v recsF) t with
  | some x =>
    obtain ⟨q, h1, h2, h3, h4⟩ := look_rec hl
    refine .inl ⟨q, h1, h2, by simp [h4], ?_⟩
    rw [look_of (hu t) h1 (hv _ h2) h3]; rfl
  | none =>
    rw [look_any]
    by_cases ht : t ∈ ms
    · right; left; simp [ht]
    · right; right
      refine ⟨by simp [ht], ?_⟩
      rw [look_none fun q hq hL h => (hd q hq t h).elim ht fun h' => by rw [hL] at h'; cases h']; rfl
theorem has_set {L : Array Bool} {i j : Nat} (hi : i < L.size) : BV.has (L.setIfInBounds i true).toList j = (decide (j = i) || BV.has L.toList j) := by
  simp only [BV.has, Array.toList_setIfInBounds, List.getD_eq_getElem?_getD, List.getElem?_set]
  by_cases h : i = j
  · subst h; simp [hi]
  · have : ¬ j = i := fun e => h e.symm
    simp [h, this]
include hri hrd hnd in
/-- the temporaries behind one operation more -/
theorem ts_next {L : Array Bool} {i : Nat} {o : Oper} {v : AV} (hi : i < L.size) (ho : ops.toList[i]? = some o) (hm : (⟨i, o.dst, v⟩ : Rec) ∈ recsF) (t : Tmp) :
    TS.get (recTS (L.setIfInBounds i true).toList recsF ++ ts) t = if o.dst = some t then v else TS.get (recTS L.toList recsF ++ ts) t := by
  simp only [get_app]
  split
  · rename_i hd
    rw [look_of (q := ⟨i, o.dst, v⟩) (rec_uniq hnd hri hrd) hm (by rw [has_set hi]; simp) hd]; rfl
  · rename_i hd
    have : look (recTS (L.setIfInBounds i true).toList recsF) t = look (recTS L.toList recsF) t := by
      cases hl : look (recTS (L.setIfInBounds i true).toList recsF) t with
      | some x =>
        obtain ⟨q, h1, h2, h3, h4⟩ := look_rec hl
        have hqi : q.i ≠ i := fun e => by
          have := rec_same hri h1 hm e
          subst this; exact hd h3
        rw [has_set hi] at h2
        simp only [hqi, decide_false, Bool.false_or] at h2
        rw [look_of (rec_uniq hnd hri hrd) h1 h2 h3, h4]
      | none =>
        symm
        refine look_none fun q hq h2 h3 => ?_
        have := look_of (v := (L.setIfInBounds i true).toList) (rec_uniq hnd hri hrd) hq (by rw [has_set hi, h2]; simp) h3
        rw [hl] at this; cases this
    rw [this]
theorem put_get {a : Act} {d : Option Tmp} {cv : Value} {t : Tmp} {N : Nat} (hs : a.tmps.size = N) (hd : ∀ t, d = some t → t < N) : (a.put d cv).tmps.getD t undef = if d = some t then cv else a.tmps.getD t undef := by
  cases d with
  | none => simp [Act.put]
  | some d =>
    have := hd d rfl
    simp only [Act.put, Option.some.injEq]
    by_cases e : d = t
    · subst e; simp [Array.getD_eq_getD_getElem?, Array.getElem?_setIfInBounds, hs, this]
    · simp [Array.getD_eq_getD_getElem?, Array.getElem?_setIfInBounds_ne e, e]
end
end Go.Proofs.Ythllpilgfipkpaa.X
