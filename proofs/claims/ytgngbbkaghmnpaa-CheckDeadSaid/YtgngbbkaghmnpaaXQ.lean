import Derived.Test.YtgngbbkaghmnpaaXP
namespace Go.Proofs.Ytgngbbkaghmnpaa.X
open Go Go.RowKit
set_option linter.unusedVariables false
set_option linter.unusedSimpArgs false
/-! Regions -/
/-- what has come of the world since the call began -/
structure Since (H0 : Heap) (ρ0 : Rho) (w0 : World) (kp : Nat) (H : Heap) (ρ : Rho) (w : World) : Prop where
  os : w.os = w0.os
  tape : w.tape = w0.tape
  output : w.output = w0.output
  size : w0.heap.size ≤ w.heap.size
  keep : ∀ k, k < w0.heap.size → ¬ own H0 ρ0 k → w.heap[k]? = w0.heap[k]?
  own : ∀ k, own H ρ k → own H0 ρ0 k ∨ w0.heap.size ≤ k
  rho : ∀ l, l < kp → ρ l = ρ0 l
  len : kp ≤ H.length
  row : ∀ l, l < kp → ∀ e s xs, H.at l = .row e s xs → ∃ ys : List s.T, H0.at l = .row e s ys ∧ ys.length = xs.length
theorem Since.step {H0 : Heap} {ρ0 : Rho} {w0 : World} {kp : Nat} {H H' : Heap} {ρ ρ' : Rho} {w w' : World} (s : Since H0 ρ0 w0 kp H ρ w) (e : Ext H ρ w H' ρ' w') : Since H0 ρ0 w0 kp H' ρ' w' :=
  ⟨e.os.trans s.os, e.tape.trans s.tape, e.output.trans s.output, Nat.le_trans s.size e.size,
    fun k hk hn => (e.keep k (Nat.lt_of_lt_of_le hk s.size) (fun ho => (s.own k ho).elim hn (by omega))).trans (s.keep k hk hn),
    fun k hk => (e.own k hk).elim (s.own k) (fun h => .inr (Nat.le_trans s.size h)),
    fun l hl => (e.rho l (Nat.lt_of_lt_of_le hl s.len)).trans (s.rho l hl), Nat.le_trans s.len e.len, fun l hl E sh xs hr => by
      obtain ⟨ys, h1, h2⟩ := e.row l (Nat.lt_of_lt_of_le hl s.len) E sh xs hr
      obtain ⟨zs, h3, h4⟩ := s.row l hl E sh ys h1
      exact ⟨zs, h3, h4.trans h2⟩⟩
structure Base where
  Z : Nat → Prop
  N : Nat
  R : Heap
  H0 : Heap
  ρ0 : Rho
  w0 : World
section
variable {P : Program} (X : Ctx P) (B : Base)
structure InvR (ts : TS) (H : Heap) (ρ : Rho) (a : Act) (w : World) : Prop where
  rel : Rel B.Z H ρ w
  ts : TRel B.Z H ρ w ts a
  size : a.tmps.size = B.N
  defers : a.defers = []
  ro : H.take X.ro = B.R
  rolen : X.ro ≤ H.length
  since : Since B.H0 B.ρ0 B.w0 X.kp H ρ w
  rok : ∀ l p, l < X.ro → (H.at l).isLive = true → ρ l = some p → w.heap[p.b]? = B.w0.heap[p.b]?
def Inv (ts : TS) (H : Heap) (a : Act) (w : World) : Prop := ∃ ρ, InvR X B ts H ρ a w
end
theorem get_put (ts : TS) (d t : Tmp) (v : AV) : TS.get ((d, v) :: ts) t = if d = t then v else ts.get t := by
  simp only [TS.get]
  by_cases h : d = t <;> simp [h]
theorem take_upd (ro : Nat) : ∀ (U : Upd) (H : Heap), (∀ u ∈ U, ro ≤ u.1) → (H.upd U).take ro = H.take ro
  | [], H, _ => rfl
  | (l, o) :: U, H, h => by
    simp only [Heap.upd]
    rw [take_upd ro U _ (fun u hu => h u (by simp [hu]))]
    have := h (l, o) (by simp)
    apply List.ext_getElem?
    intro i
    simp only [List.getElem?_take]
    split
    · rw [List.getElem?_set_ne (by simp only at this; omega)]
    · rfl
theorem tmps_put {a : Act} {d : Option Tmp} {cv : Value} : (a.put d cv).tmps.size = a.tmps.size ∧ (a.put d cv).defers = a.defers := by
  cases d <;> simp [Act.put]
theorem TRel.put {Z : Nat → Prop} {H : Heap} {ρ : Rho} {w : World} {ts : TS} {a : Act} {d : Option Tmp} {v : AV} {cv : Value} {N : Nat} (h : TRel Z H ρ w ts a) (hv : VA Z H ρ w v cv) (hs : a.tmps.size = N) (hd : ∀ t, d = some t → t < N) : TRel Z H ρ w (putT ts d v) (a.put d cv) := by
  intro t
  cases d with
  | none => exact h t
  | some d =>
    simp only [putT, get_put, Act.put]
    have hlt := hd d rfl
    by_cases e : d = t
    · subst e
      rw [if_pos rfl, Array.getD_eq_getD_getElem?, Array.getElem?_setIfInBounds]
      simp [hs, hlt, hv]
    · rw [if_neg e, Array.getD_eq_getD_getElem?, Array.getElem?_setIfInBounds_ne e, ← Array.getD_eq_getD_getElem?]
      exact h t
theorem dstOk_ok {o : Oper} {N : Nat} (h : dstOk o N = true) : ∀ t, o.dst = some t → t < N := by
  intro t ht
  simp only [dstOk, ht, decide_eq_true_eq] at h
  exact h
section
variable {P : Program} {X : Ctx P} {B : Base} {β : Type} {ops : Array Oper} {Q : Exit → Act → World → Prop}
theorem rok_next {ro : Nat} {H : Heap} {ρ ρ' : Rho} {w w' w0 : World} {U : Upd} {N : List AO} (hl : ro ≤ H.length) (h : ∀ l p, l < ro → (H.at l).isLive = true → ρ l = some p → w.heap[p.b]? = w0.heap[p.b]?) (hU : ∀ u ∈ U, ro ≤ u.1) (e : Ext H ρ w (H.upd U ++ N) ρ' w') (k : KeepO H ρ w U w') :
    ∀ l p, l < ro → (Heap.at (H.upd U ++ N) l).isLive = true → ρ' l = some p → w'.heap[p.b]? = w0.heap[p.b]? := by
  intro l p hlt hv hp
  have hne : ∀ u ∈ U, u.1 ≠ l := fun u hu => by have := hU u hu; omega
  rw [at_append_lt (by rw [upd_len]; omega), upd_other U H l hne] at hv
  rw [e.rho l (by omega)] at hp
  exact (k l p hne hv hp).trans (h l p hlt hv hp)
theorem InvR.next {ts : TS} {H : Heap} {ρ : Rho} {a : Act} {w : World} {o : Oper} {v : AV} {U : Upd} {N : List AO} {cv : Value} {w' : World} (h : InvR X B ts H ρ a w) (hd : dstOk o B.N = true) (hU : ∀ u ∈ U, X.ro ≤ u.1) (hok : OK B.Z H ρ w v U N cv w') :
    Inv X B (putT ts o.dst v) (H.upd U ++ N) (a.put o.dst cv) w' := by
  obtain ⟨ρ', h1, h2, h3, h4⟩ := hok
  refine ⟨ρ', h2, (h3.TRel h.ts).put h1 h.size (dstOk_ok hd), tmps_put.1.trans h.size, tmps_put.2.trans h.defers, ?_, ?_, h.since.step h3, rok_next h.rolen h.rok hU h3 h4⟩
  · rw [List.take_append_of_le_length (by rw [upd_len]; exact h.rolen), take_upd _ _ _ hU]; exact h.ro
  · simp [upd_len]; have := h.rolen; omega
theorem bool_of_VA {Z : Nat → Prop} {H : Heap} {ρ : Rho} {w : World} {b : Bool} {tmps : Array Value} {d : Nat} (h : VA Z H ρ w (.v (.one (.lit (.bool b)))) (tmps.getD d undef)) : tmps[d]? = some (.bool b) := by
  have h1 := (h : tmps.getD d undef = _ ∧ _).1
  rw [Array.getD_eq_getD_getElem?] at h1
  cases hc : tmps[d]? with
  | some v => rw [hc] at h1; simpa using h1
  | none => rw [hc] at h1; simp [undef] at h1
theorem guard_ok {Z : Nat → Prop} {H : Heap} {ρ : Rho} {w : World} {ts : TS} {a : Act} {j : Nat} {b : Bool} (ht : TRel Z H ρ w ts a) (h : guardVal ops ts j = some b) : yielded ops a.tmps j = some b := by
  unfold guardVal at h
  split at h
  case h_2 => cases h
  rename_i oj hj
  split at h
  case h_2 => cases h
  rename_i d hd
  split at h
  case h_2 => cases h
  rename_i b' hb
  simp only [Option.some.injEq] at h; subst h
  have := ht d
  rw [hb] at this
  have := bool_of_VA this
  simp [yielded, hj, hd, this]
theorem guardOff_ok {Z : Nat → Prop} {H : Heap} {ρ : Rho} {w : World} {ts : TS} {a : Act} {j : Nat} (ht : TRel Z H ρ w ts a) (h : guardOff ops ts j = true) : yielded ops a.tmps j = none := by
  unfold guardOff at h
  split at h
  case h_2 => cases h
  rename_i oj hj
  split at h
  case h_2 => cases h
  rename_i d hd
  split at h
  case h_2 => cases h
  rename_i hb
  have h1 := ht d
  rw [hb] at h1
  obtain ⟨us, h2, h3⟩ := h1
  have h4 : us = #[] := by apply Array.ext'; exact LR.nil_inv h3
  subst h4
  rw [Array.getD_eq_getD_getElem?] at h2
  simp only [yielded, hj, hd, Option.bind_some]
  cases hc : a.tmps[d]? with
  | none => rfl
  | some v => rw [hc] at h2; simp at h2; subst h2; rfl
theorem VA_off (Z : Nat → Prop) (H : Heap) (ρ : Rho) (w : World) : VA Z H ρ w (.tup []) undef := ⟨#[], rfl, trivial⟩
/-- an operation under its guard -/
theorem gEval_ok (hT : TIok P X.ti) (hE : ∀ e ∈ X.tb, EOk P e) {Z : Nat → Prop} {H : Heap} {ρ : Rho} {w : World} {ts : TS} {a : Act} {o : Oper} {i : Nat} {K : KO β} {r : β} (hR : Rel Z H ρ w) (ht : TRel Z H ρ w ts a) (hi : ops[i]? = some o) (h : gEval X ops ts H o K = some r) :
    ∃ v U N, K v U N = some r ∧ (∀ u ∈ U, X.ro ≤ u.1) ∧ ∀ next : Act → World → Prop, (∀ cv w', OK Z H ρ w v U N cv w' → next (a.put o.dst cv) w') → wpOp P ops Q i next a w := by
  unfold gEval at h
  split at h
  · rename_i hg
    obtain ⟨v, U, N, h1, h2, h3⟩ := opEval_ok hR ht hT hE h
    refine ⟨v, U, N, h1, h2, fun next hn => ?_⟩
    have : Region.wanted o (yielded ops a.tmps) = true := by simp [Region.wanted, hg]
    simp only [wpOp, hi, this, if_true]
    exact .inl (h3 next Q hn)
  · rename_i j want hg
    split at h
    case h_2 =>
      split at h
      case isFalse => cases h
      rename_i hoff
      have hw : Region.wanted o (yielded ops a.tmps) = false := by simp [Region.wanted, hg, guardOff_ok ht hoff]
      refine ⟨_, _, _, h, by simp, fun next hn => ?_⟩
      simp only [wpOp, hi, hw, Bool.false_eq_true, if_false]
      exact hn undef w (OK.quiet hR (VA_off ..))
    rename_i b hb
    have hy := guard_ok ht hb
    have hw : Region.wanted o (yielded ops a.tmps) = (b == want) := by simp [Region.wanted, hg, hy]
    cases hbw : (b == want) with
    | true =>
      rw [hbw] at h hw
      simp only [cond_true] at h
      obtain ⟨v, U, N, h1, h2, h3⟩ := opEval_ok hR ht hT hE h
      refine ⟨v, U, N, h1, h2, fun next hn => ?_⟩
      simp only [wpOp, hi, hw, if_true]
      exact .inl (h3 next Q hn)
    | false =>
      rw [hbw] at h hw
      simp only [cond_false] at h
      refine ⟨_, _, _, h, by simp, fun next hn => ?_⟩
      simp only [wpOp, hi, hw, Bool.false_eq_true, if_false]
      exact hn undef w (OK.quiet hR (VA_off ..))
/-- a slice beside nil -/
theorem nilCmp_ok (hT : TIok P X.ti) {Z : Nat → Prop} {H : Heap} {ρ : Rho} {w : World} {ts : TS} {a : Act} {o : Oper} {q em : Bool} (hR : Rel Z H ρ w) (ht : TRel Z H ρ w ts a) (h : nilCmp X ts H o = some (q, em)) :
    o.guard = none ∧ ((em = true ∧ (execOp a.eval o).run P w = .ok (.value (.bool q)) w) ∨ (execOp a.eval o).run P w = .ok (.value (.bool (!q))) w) := by
  unfold nilCmp at h
  split at h
  case h_2 => cases h
  rename_i op t x y t' hg ho
  split at h
  case h_2 => cases h
  rename_i tr c h1 h2 h3
  split at h
  case h_2 => cases h
  rename_i e q' hd hop
  have hx := ev_ok hR ht x
  have hy := ev_ok hR ht y
  rw [h2] at hx
  rw [h3] at hy
  have hy' : a.eval y = .slice none 0 0 := (hy : _ ∧ _).1
  have hu := hT.und t tr h1
  rw [hd] at hu
  have hmd : Op.maxDepth = (Op.maxDepth - 1) + 1 := by decide
  have run : ∀ {ad : Option Addr} {n cap : Nat}, a.eval x = .slice ad n cap → (execOp a.eval o).run P w = .ok (.value (.bool (if ad.isNone then q' else !q'))) w := fun {ad n cap} hv => by
    cases op <;> simp only [reduceCtorEq, Option.some.injEq] at hop
    all_goals (subst hop; cases ad <;> (simp only [execOp, ho, hv, hy', Sem.run_bind, eqGuard, binOp, Op.equal]; rw [hmd]; simp [Op.equalIn, run_underlying hu]))
  refine ⟨hg, ?_⟩
  split at h
  · rename_i s xs
    split at h
    case isFalse => cases h
    rename_i hpos
    simp only [Option.some.injEq, Prod.mk.injEq] at h
    obtain ⟨rfl, rfl⟩ := h
    simp only [decide_eq_true_eq] at hpos
    have hx' : R1 w (A Z H ρ w) _ _ := hx
    obtain ⟨a', cap, us, hv, hn, hL, hA⟩ := hx'.sl_inv
    have hr := run hv
    cases a' with
    | some ad => right; simpa using hr
    | none =>
      left
      refine ⟨?_, by simpa using hr⟩
      have : us = [] := by rcases hA with h | ⟨_, h, _⟩ <;> first | exact h | cases h
      subst this
      have h0 := hL.length
      rw [flat_len (dv_len s)] at h0
      have : xs.length = 0 := by
        rcases Nat.mul_eq_zero.mp h0 with h | h <;> omega
      rw [List.isEmpty_iff]; exact List.length_eq_zero_iff.mp this
  · rename_i l z
    split at h
    case h_2 => cases h
    rename_i e' s xs hat
    simp only [Option.some.injEq, Prod.mk.injEq] at h
    obtain ⟨rfl, rfl⟩ := h
    obtain ⟨g1, g2, g3⟩ := hx
    obtain ⟨_, hs⟩ := g3 _ s xs hat
    rcases hs with ⟨p, cap, hp, hv, _, _⟩ | ⟨h0, ad, hv⟩
    · right; simpa using run hv
    · have hr := run hv
      cases ad with
      | some ad => right; simpa using hr
      | none => left; exact ⟨by rw [List.isEmpty_iff]; exact List.length_eq_zero_iff.mp h0, by simpa using hr⟩
  · cases h
theorem freeze_heap (w : World) (b n : Nat) (m : Nat) {vs : Array Value} {e : TypeId} (h : w.heap[b]? = some (.cells vs e (0, 0))) (hm : m ≠ 0) :
    (w.freeze ⟨b, n, none⟩ m).heap[b]? = some (.cells vs e (n, n + m)) ∧ (∀ k, k ≠ b → (w.freeze ⟨b, n, none⟩ m).heap[k]? = w.heap[k]?) ∧ (w.freeze ⟨b, n, none⟩ m).heap.size = w.heap.size ∧ (w.freeze ⟨b, n, none⟩ m).os = w.os ∧ (w.freeze ⟨b, n, none⟩ m).tape = w.tape ∧ (w.freeze ⟨b, n, none⟩ m).output = w.output := by
  unfold World.freeze
  rw [if_neg hm]
  refine ⟨?_, fun k hk => ?_, by simp, rfl, rfl, rfl⟩
  · simp [Array.getElem?_modify, h]
  · simp [Array.getElem?_modify, Ne.symm hk]
/-- bytes as bytes -/
theorem convId_ok (hT : TIok P X.ti) {Z : Nat → Prop} {H : Heap} {ρ : Rho} {w : World} {ts : TS} {a : Act} {o : Oper} {l : Nat} {xs : List Int} (hR : Rel Z H ρ w) (ht : TRel Z H ρ w ts a) (h : convId X ts H o = some (l, xs)) (hpos : 0 < xs.length) :
    o.guard = none ∧ X.ro ≤ l ∧ StepTo P o a w (OK Z H ρ w (.one (.vsl (.int .u8) xs)) [(l, .dead)] []) := by
  unfold convId at h
  split at h
  case h_2 => cases h
  rename_i s d x hg ho
  split at h
  case isFalse => cases h
  rename_i hsd
  have hsd : s = d := by simpa using hsd
  subst hsd
  split at h
  case h_2 => cases h
  rename_i tr l0 z h1 h2
  split at h
  case h_2 => cases h
  rename_i e hd
  split at h
  case h_2 => cases h
  rename_i te he
  split at h
  case h_2 => cases h
  rename_i e' xs0 hde hat
  split at h
  case isFalse => cases h
  rename_i hro
  simp only [Option.some.injEq, Prod.mk.injEq] at h
  obtain ⟨rfl, rfl⟩ := h
  simp only [decide_eq_true_eq] at hro
  have hx := ev_ok hR ht x
  rw [h2] at hx
  obtain ⟨hl, _, h3⟩ := hx
  obtain ⟨hz, hs⟩ := h3 _ _ _ hat
  have hlive : (H.at l0).isLive = true := by rw [hat]; rfl
  rcases hs with ⟨p, cap, hp, hv, hc1, hc2⟩ | ⟨h0, _⟩
  case inr => omega
  have hob := hR.obj l0
  rw [hat] at hob
  rcases hob with ⟨hn, _⟩ | ⟨q, cur, us, hq, hw, _, _, _, hcu, hL⟩
  · rw [hn] at hpos; simp at hpos
  rw [hp] at hq
  cases hq
  have hu := hT.und s tr h1
  rw [hd] at hu
  have hue := hT.und e te he
  rw [hde] at hue
  obtain ⟨f1, f2, f3, f4, f5, f6⟩ := freeze_heap w p.b cur.size 1 hw (by omega)
  have hown : own H ρ p.b := ⟨l0, p, hlive, hp, rfl⟩
  have ek : Ext H ρ w (H.set l0 .dead) ρ w := ext_kill l0
  have hset : Heap.upd H [(l0, .dead)] ++ [] = H.set l0 .dead := by simp [Heap.upd]
  have other : ∀ l2 p2, l2 ≠ l0 → (H.at l2).isLive = true → ρ l2 = some p2 → p2.b ≠ p.b := fun l2 p2 hne hlv hp2 hb => hne (hR.inj l2 l0 p2 p hlv hlive hp2 hp hb)
  have hat2 : ∀ l2, (Heap.at (H.set l0 .dead) l2).isLive = true → l2 ≠ l0 ∧ Heap.at (H.set l0 .dead) l2 = H.at l2 := fun l2 hlv => by
    by_cases hq : l0 = l2
    · subst hq; rw [at_set_same hl] at hlv; cases hlv
    · exact ⟨fun h => hq h.symm, at_set_ne hq⟩
  have ex : Ext H ρ w (H.set l0 .dead) ρ (w.freeze ⟨p.b, cur.size, none⟩ 1) :=
    ⟨f4, f5, f6, by rw [f3]; exact Nat.le_refl _, fun k hk hn => f2 k (fun hq => hn (hq ▸ hown)), fun k hk => (ek.own k hk).elim .inl fun h => .inr h, ek.len, ek.rho, ek.live, ek.row⟩
  have hnot : ¬ own (H.set l0 .dead) ρ p.b := by
    rintro ⟨l2, p2, hlv, hp2, hb⟩
    obtain ⟨g1, g2⟩ := hat2 l2 hlv
    rw [g2] at hlv
    exact other l2 p2 g1 hlv hp2 hb
  refine ⟨hg, hro, StepTo.value (w' := w.freeze ⟨p.b, cur.size, none⟩ 1) (cv := a.eval x) ?_ ⟨ρ, ?_, ?_, ?_, ?_⟩⟩
  · have hsh : w.shape? p.b = some (e', cur.size) := by simp [World.shape?, hw]
    simp [execOp, ho, hv, convert, run_underlying hu, run_underlying hue, markStringish, hsh]
  · rw [hset]
    show R1 _ _ _ _
    rw [hv]
    refine R1.mk hc1 (cs := List.flatMap (Sh.int .u8).dv xs0) (us := us.take xs0.length) ?_ (.inr ⟨_, rfl, ⟨by show p.b < _; rw [f3]; exact hR.lt hlive hp, hnot, fun hz => hR.dis _ hz hown⟩, ⟨fun j u hj => ?_⟩⟩)
    · have hlen := hL.length
      have hfl : (List.flatMap (Sh.int .u8).dv xs0).length = xs0.length := by rw [flat_len (dv_len (Sh.int .u8))]; simp [Sh.sz]
      have : us.take xs0.length = us := List.take_of_length_le (by omega)
      rw [this]
      exact LR.imp (fun d u hr => hr.mono (fun k hk => f2 k (fun hq => hk.2.1 (hq ▸ hown))) (fun k hk => ⟨by rw [f3]; exact hk.1, fun ho' => hk.2.1 ((ek.own k ho').elim id fun h => absurd hk.1 (by omega)), hk.2.2⟩)) hL
    · have hj' : us[j]? = some u := by
        rw [List.getElem?_take] at hj; split at hj
        · exact hj
        · cases hj
      rw [add_off, cell_at _ p.b _ cur e' _ f1, ← hcu _ _ hj']
      congr 1; omega
  · rw [hset]
    exact hR.step ex (fun l2 hlv => by
      obtain ⟨g1, g2⟩ := hat2 l2 hlv
      rw [g2] at hlv
      exact .inl ⟨at_lt hlv, g2, fun p2 hp2 => f2 _ (other l2 p2 g1 hlv hp2)⟩) (fun l2 l' p2 p' h1 hlv => absurd (at_lt hlv) (by simp; omega))
  · rw [hset]; exact ex
  · exact fun l2 p2 hne hlv hp2 => f2 _ (other l2 p2 (fun hq => hne (l0, .dead) (by simp) hq.symm) hlv hp2)
theorem opsRun_ok (hT : TIok P X.ti) (hE : ∀ e ∈ X.tb, EOk P e) {K : TS → Heap → Option β} {r : β} (hQ : ∀ ts H a w, K ts H = some r → Inv X B ts H a w → Q .normal a w) :
    ∀ (l : List Oper) (i : Nat) (ts : TS) (H : Heap) (a : Act) (w : World), ops.toList.drop i = l → opsRun X ops B.N l ts H K = some r → Inv X B ts H a w → wpOps P ops Q (List.range' i l.length) a w
  | [], i, ts, H, a, w, hl, h, hI => by
    simp only [List.length_nil, List.range'_zero, wpOps]
    exact hQ _ _ _ _ h hI
  | o :: l, i, ts, H, a, w, hl, h, hI => by
    have hlen : i < ops.toList.length := by
      rcases Nat.lt_or_ge i ops.toList.length with h' | h'
      · exact h'
      · rw [List.drop_eq_nil_of_le h'] at hl; cases hl
    rw [List.drop_eq_getElem_cons hlen] at hl
    simp only [List.cons.injEq] at hl
    have hi : ops[i]? = some o := by
      rw [← Array.getElem?_toList, List.getElem?_eq_getElem hlen, hl.1]
    rw [List.length_cons, List.range'_succ, wpOps_cons]
    simp only [opsRun, splitB_eq] at h
    split at h
    case isFalse => cases h
    rename_i hd
    obtain ⟨ρ, hI⟩ := hI
    have plain : ∀ {v : AV} {U : Upd} {N : List AO}, o.guard = none → (∀ u ∈ U, X.ro ≤ u.1) → StepTo P o a w (OK B.Z H ρ w v U N) → opsRun X ops B.N l (putT ts o.dst v) (H.upd U ++ N) K = some r →
        wpOp P ops Q i (fun a w => wpOps P ops Q (List.range' (i + 1) l.length) a w) a w := fun {v U N} hg hU hst hrun => by
      have : Region.wanted o (yielded ops a.tmps) = true := by simp [Region.wanted, hg]
      simp only [wpOp, hi, this, if_true]
      exact .inl (hst _ Q fun cv w' hok => opsRun_ok hT hE hQ l (i + 1) _ _ _ _ hl.2 hrun (hI.next hd hU hok))
    have hH0 : Heap.upd H [] ++ [] = H := by simp [Heap.upd]
    split at h
    · rename_i q em hn
      obtain ⟨hg, hn⟩ := nilCmp_ok hT hI.rel hI.ts hn
      have go2 : ∀ b : Bool, (execOp a.eval o).run P w = .ok (.value (.bool b)) w → opsRun X ops B.N l (putT ts o.dst (.one (.lit (.bool b)))) H K = some r → wpOp P ops Q i (fun a w => wpOps P ops Q (List.range' (i + 1) l.length) a w) a w := fun b hr hk =>
        plain (v := .one (.lit (.bool b))) (U := []) (N := []) hg (by simp) (StepTo.value hr (OK.quiet hI.rel ⟨rfl, rfl⟩)) (by rw [hH0]; exact hk)
      cases em with
      | true =>
        simp only [cond_true] at h
        obtain ⟨ha, hb⟩ := both_some h
        rcases hn with ⟨_, hn⟩ | hn
        · exact go2 _ hn ha
        · exact go2 _ hn hb
      | false =>
        simp only [cond_false] at h
        rcases hn with ⟨h0, _⟩ | hn
        · cases h0
        · exact go2 _ hn h
    split at h
    · rename_i l' xs hc
      obtain ⟨hb, hk⟩ := iff'_ok h
      simp only [decide_eq_true_eq] at hb
      obtain ⟨hg, hro, hst⟩ := convId_ok hT hI.rel hI.ts hc hb
      exact plain (v := .one (.vsl (.int .u8) xs)) (U := [(l', .dead)]) (N := []) hg (by simpa using hro) hst (by simpa [Heap.upd] using hk)
    obtain ⟨v, U, N, h1, h2, h3⟩ := gEval_ok (Q := Q) hT hE hI.rel hI.ts hi h
    exact h3 _ fun cv w' hok => opsRun_ok hT hE hQ l (i + 1) _ _ _ _ hl.2 h1 (hI.next hd h2 hok)
end
end Go.Proofs.Ytgngbbkaghmnpaa.X
