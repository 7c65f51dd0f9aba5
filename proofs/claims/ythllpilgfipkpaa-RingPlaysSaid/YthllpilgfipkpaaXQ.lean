import Derived.Test.YthllpilgfipkpaaXP
namespace Go.Proofs.Ythllpilgfipkpaa.X
open Go Go.RowKit
set_option linter.unusedVariables false
set_option linter.unusedSimpArgs false
/-! Regions -/
/-- what has come of the world since the call began -/
structure Since (H0 : Heap) (ρ0 : Rho) (w0 : World) (kp : Nat) (H : Heap) (ρ : Rho) (w : World) : Prop where
  os : w.os = w0.os
  tape : w.tape = w0.tape
  output : w.output = w0.output
  size : w0.heap.size ≤ w.heap.size
  keep : ∀ k, k < w0.heap.size → ¬ own H0 ρ0 k → w.heap[k]? = w0.heap[k]?
  own : ∀ k, own H ρ k → own H0 ρ0 k ∨ w0.heap.size ≤ k
  rho : ∀ l, l < kp → ρ l = ρ0 l
  len : kp ≤ H.length
  row : ∀ l, l < kp → ∀ e s xs, H.at l = .row e s xs → ∃ ys : List s.T, H0.at l = .row e s ys ∧ ys.length = xs.length
theorem Since.step {H0 : Heap} {ρ0 : Rho} {w0 : World} {kp : Nat} {H H' : Heap} {ρ ρ' : Rho} {w w' : World} (s : Since H0 ρ0 w0 kp H ρ w) (e : Ext H ρ w H' ρ' w') : Since H0 ρ0 w0 kp H' ρ' w' :=
  ⟨e.os.trans s.os, e.tape.trans s.tape, e.output.trans s.output, Nat.le_trans s.size e.size,
    fun k hk hn => (e.keep k (Nat.lt_of_lt_of_le hk s.size) (fun ho => (s.own k ho).elim hn (by omega))).trans (s.keep k hk hn),
    fun k hk => (e.own k hk).elim (s.own k) (fun h => .inr (Nat.le_trans s.size h)),
    fun l hl => (e.rho l (Nat.lt_of_lt_of_le hl s.len)).trans (s.rho l hl), Nat.le_trans s.len e.len, fun l hl E sh xs hr => by
      obtain ⟨ys, h1, h2⟩ := e.row l (Nat.lt_of_lt_of_le hl s.len) E sh xs hr
      obtain ⟨zs, h3, h4⟩ := s.row l hl E sh ys h1
      exact ⟨zs, h3, h4.trans h2⟩⟩
structure Base where
  Z : Nat → Prop
  N : Nat
  R : Heap
  H0 : Heap
  ρ0 : Rho
  w0 : World
section
variable {P : Program} (X : Ctx P) (B : Base)
structure InvR (ts : TS) (H : Heap) (ρ : Rho) (a : Act) (w : World) : Prop where
  rel : Rel B.Z H ρ w
  ts : TRel B.Z H ρ w ts a
  size : a.tmps.size = B.N
  defers : a.defers = []
  ro : H.take X.ro = B.R
  rolen : X.ro ≤ H.length
  since : Since B.H0 B.ρ0 B.w0 X.kp H ρ w
  rok : ∀ l p, l < X.ro → (H.at l).isLive = true → ρ l = some p → w.heap[p.b]? = B.w0.heap[p.b]?
def Inv (ts : TS) (H : Heap) (a : Act) (w : World) : Prop := ∃ ρ, InvR X B ts H ρ a w
end
theorem get_put (ts : TS) (d t : Tmp) (v : AV) : TS.get ((d, v) :: ts) t = if d = t then v else ts.get t := by
  simp only [TS.get]
  by_cases h : d = t <;> simp [h]
theorem take_upd (ro : Nat) : ∀ (U : Upd) (H : Heap), (∀ u ∈ U, ro ≤ u.1) → (H.upd U).take ro = H.take ro
  | [], H, _ => rfl
  | (l, o) :: U, H, h => by
    simp only [Heap.upd]
    rw [take_upd ro U _ (fun u hu => h u (by simp [hu]))]
    have := h (l, o) (by simp)
    apply List.ext_getElem?
    intro i
    simp only [List.getElem?_take]
    split
    · rw [List.getElem?_set_ne (by simp only at this; omega)]
    · rfl
theorem tmps_put {a : Act} {d : Option Tmp} {cv : Value} : (a.put d cv).tmps.size = a.tmps.size ∧ (a.put d cv).defers = a.defers := by
  cases d <;> simp [Act.put]
theorem TRel.put {Z : Nat → Prop} {H : Heap} {ρ : Rho} {w : World} {ts : TS} {a : Act} {d : Option Tmp} {v : AV} {cv : Value} {N : Nat} (h : TRel Z H ρ w ts a) (hv : VA Z H ρ w v cv) (hs : a.tmps.size = N) (hd : ∀ t, d = some t → t < N) : TRel Z H ρ w (putT ts d v) (a.put d cv) := by
  intro t
  cases d with
  | none => exact h t
  | some d =>
    simp only [putT, get_put, Act.put]
    have hlt := hd d rfl
    by_cases e : d = t
    · subst e
      rw [if_pos rfl, Array.getD_eq_getD_getElem?, Array.getElem?_setIfInBounds]
      simp [hs, hlt, hv]
    · rw [if_neg e, Array.getD_eq_getD_getElem?, Array.getElem?_setIfInBounds_ne e, ← Array.getD_eq_getD_getElem?]
      exact h t
theorem dstOk_ok {o : Oper} {N : Nat} (h : dstOk o N = true) : ∀ t, o.dst = some t → t < N := by
  intro t ht
  simp only [dstOk, ht, decide_eq_true_eq] at h
  exact h
section
variable {P : Program} {X : Ctx P} {B : Base} {β : Type} {ops : Array Oper} {Q : Exit → Act → World → Prop}
theorem rok_next {ro : Nat} {H : Heap} {ρ ρ' : Rho} {w w' w0 : World} {U : Upd} {N : List AO} (hl : ro ≤ H.length) (h : ∀ l p, l < ro → (H.at l).isLive = true → ρ l = some p → w.heap[p.b]? = w0.heap[p.b]?) (hU : ∀ u ∈ U, ro ≤ u.1) (e : Ext H ρ w (H.upd U ++ N) ρ' w') (k : KeepO H ρ w U w') :
    ∀ l p, l < ro → (Heap.at (H.upd U ++ N) l).isLive = true → ρ' l = some p → w'.heap[p.b]? = w0.heap[p.b]? := by
  intro l p hlt hv hp
  have hne : ∀ u ∈ U, u.1 ≠ l := fun u hu => by have := hU u hu; omega
  rw [at_append_lt (by rw [upd_len]; omega), upd_other U H l hne] at hv
  rw [e.rho l (by omega)] at hp
  exact (k l p hne hv hp).trans (h l p hlt hv hp)
theorem InvR.next {ts : TS} {H : Heap} {ρ : Rho} {a : Act} {w : World} {o : Oper} {v : AV} {U : Upd} {N : List AO} {cv : Value} {w' : World} (h : InvR X B ts H ρ a w) (hd : dstOk o B.N = true) (hU : ∀ u ∈ U, X.ro ≤ u.1) (hok : OK B.Z H ρ w v U N cv w') :
    Inv X B (putT ts o.dst v) (H.upd U ++ N) (a.put o.dst cv) w' := by
  obtain ⟨ρ', h1, h2, h3, h4⟩ := hok
  refine ⟨ρ', h2, (h3.TRel h.ts).put h1 h.size (dstOk_ok hd), tmps_put.1.trans h.size, tmps_put.2.trans h.defers, ?_, ?_, h.since.step h3, rok_next h.rolen h.rok hU h3 h4⟩
  · rw [List.take_append_of_le_length (by rw [upd_len]; exact h.rolen), take_upd _ _ _ hU]; exact h.ro
  · simp [upd_len]; have := h.rolen; omega
theorem bool_of_VA {Z : Nat → Prop} {H : Heap} {ρ : Rho} {w : World} {b : Bool} {tmps : Array Value} {d : Nat} (h : VA Z H ρ w (.v (.one (.lit (.bool b)))) (tmps.getD d undef)) : tmps[d]? = some (.bool b) := by
  have h1 := (h : tmps.getD d undef = _ ∧ _).1
  rw [Array.getD_eq_getD_getElem?] at h1
  cases hc : tmps[d]? with
  | some v => rw [hc] at h1; simpa using h1
  | none => rw [hc] at h1; simp [undef] at h1
theorem guard_ok {Z : Nat → Prop} {H : Heap} {ρ : Rho} {w : World} {ts : TS} {a : Act} {j : Nat} {b : Bool} (ht : TRel Z H ρ w ts a) (h : guardVal ops ts j = some b) : yielded ops a.tmps j = some b := by
  unfold guardVal at h
  split at h
  case h_2 => cases h
  rename_i oj hj
  split at h
  case h_2 => cases h
  rename_i d hd
  split at h
  case h_2 => cases h
  rename_i b' hb
  simp only [Option.some.injEq] at h; subst h
  have := ht d
  rw [hb] at this
  have := bool_of_VA this
  simp [yielded, hj, hd, this]
/-- an operation under its guard -/
theorem gEval_ok (hT : TIok P X.ti) (hE : ∀ e ∈ X.tb, EOk P e) {Z : Nat → Prop} {H : Heap} {ρ : Rho} {w : World} {ts : TS} {a : Act} {o : Oper} {i : Nat} {K : KO β} {r : β} (hR : Rel Z H ρ w) (ht : TRel Z H ρ w ts a) (hi : ops[i]? = some o) (h : gEval X ops ts H o K = some r) :
    ∃ v U N, K v U N = some r ∧ (∀ u ∈ U, X.ro ≤ u.1) ∧ ∀ next : Act → World → Prop, (∀ cv w', OK Z H ρ w v U N cv w' → next (a.put o.dst cv) w') → wpOp P ops Q i next a w := by
  unfold gEval at h
  split at h
  · rename_i hg
    obtain ⟨v, U, N, h1, h2, h3⟩ := opEval_ok hR ht hT hE h
    refine ⟨v, U, N, h1, h2, fun next hn => ?_⟩
    have : Region.wanted o (yielded ops a.tmps) = true := by simp [Region.wanted, hg]
    simp only [wpOp, hi, this, if_true]
    exact .inl (h3 next Q hn)
  · rename_i j want hg
    split at h
    case h_2 => cases h
    rename_i b hb
    have hy := guard_ok ht hb
    have hw : Region.wanted o (yielded ops a.tmps) = (b == want) := by simp [Region.wanted, hg, hy]
    cases hbw : (b == want) with
    | true =>
      rw [hbw] at h hw
      simp only [cond_true] at h
      obtain ⟨v, U, N, h1, h2, h3⟩ := opEval_ok hR ht hT hE h
      refine ⟨v, U, N, h1, h2, fun next hn => ?_⟩
      simp only [wpOp, hi, hw, if_true]
      exact .inl (h3 next Q hn)
    | false =>
      rw [hbw] at h hw
      simp only [cond_false] at h
      refine ⟨_, _, _, h, by simp, fun next hn => ?_⟩
      simp only [wpOp, hi, hw, Bool.false_eq_true, if_false]
      exact hn undef w (OK.quiet hR trivial)
theorem opsRun_ok (hT : TIok P X.ti) (hE : ∀ e ∈ X.tb, EOk P e) {K : TS → Heap → Option β} {r : β} (hQ : ∀ ts H a w, K ts H = some r → Inv X B ts H a w → Q .normal a w) :
    ∀ (l : List Oper) (i : Nat) (ts : TS) (H : Heap) (a : Act) (w : World), ops.toList.drop i = l → opsRun X ops B.N l ts H K = some r → Inv X B ts H a w → wpOps P ops Q (List.range' i l.length) a w
  | [], i, ts, H, a, w, hl, h, hI => by
    simp only [List.length_nil, List.range'_zero, wpOps]
    exact hQ _ _ _ _ h hI
  | o :: l, i, ts, H, a, w, hl, h, hI => by
    have hlen : i < ops.toList.length := by
      rcases Nat.lt_or_ge i ops.toList.length with h' | h'
      · exact h'
      · rw [List.drop_eq_nil_of_le h'] at hl; cases hl
    rw [List.drop_eq_getElem_cons hlen] at hl
    simp only [List.cons.injEq] at hl
    have hi : ops[i]? = some o := by
      rw [← Array.getElem?_toList, List.getElem?_eq_getElem hlen, hl.1]
    rw [List.length_cons, List.range'_succ, wpOps_cons]
    simp only [opsRun, splitB_eq] at h
    split at h
    case isFalse => cases h
    rename_i hd
    obtain ⟨ρ, hI⟩ := hI
    obtain ⟨v, U, N, h1, h2, h3⟩ := gEval_ok (Q := Q) hT hE hI.rel hI.ts hi h
    exact h3 _ fun cv w' hok => opsRun_ok hT hE hQ l (i + 1) _ _ _ _ hl.2 h1 (hI.next hd h2 hok)
end
end Go.Proofs.Ythllpilgfipkpaa.X
