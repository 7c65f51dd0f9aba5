import Derived.Test.YtaklapcbbdcdpaaDoorXPn
namespace Go.Proofs.YtaklapcbbdcdpaaDoor.X
open Go Go.RowKit
set_option linter.unusedVariables false
set_option linter.unusedSimpArgs false
/-! Regions -/
/-- what has come of the world since the call began -/
structure Since (H0 : Heap) (ρ0 : Rho) (w0 : World) (kp : Nat) (H : Heap) (ρ : Rho) (w : World) : Prop where
  os : w.os = w0.os
  tape : w.tape = w0.tape
  output : w.output = w0.output
  size : w0.heap.size ≤ w.heap.size
  keep : ∀ k, k < w0.heap.size → ¬ own H0 ρ0 k → w.heap[k]? = w0.heap[k]?
  own : ∀ k, own H ρ k → own H0 ρ0 k ∨ w0.heap.size ≤ k
  rho : ∀ l, l < kp → cor ρ l = cor ρ0 l
  len : kp ≤ H.length
  row : ∀ l, l < kp → ∀ d, (H.at l).dim = some d → (H0.at l).dim = some d
theorem Since.step {H0 : Heap} {ρ0 : Rho} {w0 : World} {kp : Nat} {H H' : Heap} {ρ ρ' : Rho} {w w' : World} (s : Since H0 ρ0 w0 kp H ρ w) (e : Ext H ρ w H' ρ' w') : Since H0 ρ0 w0 kp H' ρ' w' :=
  ⟨e.os.trans s.os, e.tape.trans s.tape, e.output.trans s.output, Nat.le_trans s.size e.size,
    fun k hk hn => (e.keep k (Nat.lt_of_lt_of_le hk s.size) (fun ho => (s.own k ho).elim hn (by omega))).trans (s.keep k hk hn),
    fun k hk => (e.own k hk).elim (s.own k) (fun h => .inr (Nat.le_trans s.size h)),
    fun l hl => (e.rho l (Nat.lt_of_lt_of_le hl s.len)).trans (s.rho l hl), Nat.le_trans s.len e.len, fun l hl d hr => s.row l hl d (e.row l (Nat.lt_of_lt_of_le hl s.len) d hr)⟩
structure Base where
  Z : Nat → Prop
  N : Nat
  R : Heap
  H0 : Heap
  ρ0 : Rho
  w0 : World
section
variable {P : Program} (X : Ctx P) (B : Base)
structure InvR (ts : TS) (H : Heap) (ρ : Rho) (a : Act) (w : World) : Prop where
  rel : Rel B.Z H ρ w
  ts : TRel B.Z H ρ w ts a
  size : a.tmps.size = B.N
  defers : a.defers = []
  ro : H.take X.ro = B.R
  rolen : X.ro ≤ H.length
  since : Since B.H0 B.ρ0 B.w0 X.kp H ρ w
  rok : ∀ l, l < X.ro → (H.at l).isLive = true → ρ l = B.ρ0 l ∧ ∀ p k, ρ l = some p → p.foot k → w.heap[k]? = B.w0.heap[k]?
def Inv (ts : TS) (H : Heap) (a : Act) (w : World) : Prop := ∃ ρ, InvR X B ts H ρ a w
end
theorem get_put (ts : TS) (d t : Tmp) (v : AV) : TS.get ((d, v) :: ts) t = if d = t then v else ts.get t := by
  simp only [TS.get]
  by_cases h : d = t <;> simp [h]
theorem take_upd (ro : Nat) : ∀ (U : Upd) (H : Heap), (∀ u ∈ U, ro ≤ u.1) → (H.upd U).take ro = H.take ro
  | [], H, _ => rfl
  | (l, o) :: U, H, h => by
    simp only [Heap.upd]
    rw [take_upd ro U _ (fun u hu => h u (by simp [hu]))]
    have := h (l, o) (by simp)
    apply List.ext_getElem?
    intro i
    simp only [List.getElem?_take]
    split
    · rw [List.getElem?_set_ne (by simp only at this; omega)]
    · rfl
theorem tmps_put {a : Act} {d : Option Tmp} {cv : Value} : (a.put d cv).tmps.size = a.tmps.size ∧ (a.put d cv).defers = a.defers := by
  cases d <;> simp [Act.put]
theorem TRel.put {Z : Nat → Prop} {H : Heap} {ρ : Rho} {w : World} {ts : TS} {a : Act} {d : Option Tmp} {v : AV} {cv : Value} {N : Nat} (h : TRel Z H ρ w ts a) (hv : VA Z H ρ w v cv) (hs : a.tmps.size = N) (hd : ∀ t, d = some t → t < N) : TRel Z H ρ w (putT ts d v) (a.put d cv) := by
  intro t
  cases d with
  | none => exact h t
  | some d =>
    simp only [putT, get_put, Act.put]
    have hlt := hd d rfl
    by_cases e : d = t
    · subst e
      rw [if_pos rfl, Array.getD_eq_getD_getElem?, Array.getElem?_setIfInBounds]
      simp [hs, hlt, hv]
    · rw [if_neg e, Array.getD_eq_getD_getElem?, Array.getElem?_setIfInBounds_ne e, ← Array.getD_eq_getD_getElem?]
      exact h t
theorem dstOk_ok {o : Oper} {N : Nat} (h : dstOk o N = true) : ∀ t, o.dst = some t → t < N := by
  intro t ht
  simp only [dstOk, ht, decide_eq_true_eq] at h
  exact h
section
variable {P : Program} {X : Ctx P} {B : Base} {β : Type} {ops : Array Oper} {Q : Exit → Act → World → Prop}
theorem rok_next {ro : Nat} {H : Heap} {ρ ρ' ρ0 : Rho} {w w' w0 : World} {U : Upd} {N : List AO} (hl : ro ≤ H.length) (h : ∀ l, l < ro → (H.at l).isLive = true → ρ l = ρ0 l ∧ ∀ p k, ρ l = some p → p.foot k → w.heap[k]? = w0.heap[k]?) (hU : ∀ u ∈ U, ro ≤ u.1) (e : Ext H ρ w (H.upd U ++ N) ρ' w') (k : KeepO H ρ w U w' ρ') :
    ∀ l, l < ro → (Heap.at (H.upd U ++ N) l).isLive = true → ρ' l = ρ0 l ∧ ∀ p k, ρ' l = some p → p.foot k → w'.heap[k]? = w0.heap[k]? := by
  intro l hlt hv
  have hne : ∀ u ∈ U, u.1 ≠ l := fun u hu => by have := hU u hu; omega
  rw [at_append_lt (by rw [upd_len]; omega), upd_other U H l hne] at hv
  obtain ⟨k1, k2⟩ := k l hne hv
  obtain ⟨g1, g2⟩ := h l hlt hv
  refine ⟨k1.trans g1, fun p kk hp hf => ?_⟩
  rw [k1] at hp
  exact (k2 p kk hp hf).trans (g2 p kk hp hf)
theorem InvR.next {ts : TS} {H : Heap} {ρ : Rho} {a : Act} {w : World} {o : Oper} {v : AV} {U : Upd} {N : List AO} {cv : Value} {w' : World} (h : InvR X B ts H ρ a w) (hd : dstOk o B.N = true) (hU : ∀ u ∈ U, X.ro ≤ u.1) (hok : OK B.Z H ρ w v U N cv w') :
    Inv X B (putT ts o.dst v) (H.upd U ++ N) (a.put o.dst cv) w' := by
  obtain ⟨ρ', h1, h2, h3, h4⟩ := hok
  refine ⟨ρ', h2, (h3.TRel h.ts).put h1 h.size (dstOk_ok hd), tmps_put.1.trans h.size, tmps_put.2.trans h.defers, ?_, ?_, h.since.step h3, rok_next h.rolen h.rok hU h3 h4⟩
  · rw [List.take_append_of_le_length (by rw [upd_len]; exact h.rolen), take_upd _ _ _ hU]; exact h.ro
  · simp [upd_len]; have := h.rolen; omega
theorem bool_of_VA {Z : Nat → Prop} {H : Heap} {ρ : Rho} {w : World} {b : Bool} {tmps : Array Value} {d : Nat} (h : VA Z H ρ w (.v (.one (.lit (.bool b)))) (tmps.getD d undef)) : tmps[d]? = some (.bool b) := by
  have h1 := (h : tmps.getD d undef = _ ∧ _).1
  rw [Array.getD_eq_getD_getElem?] at h1
  cases hc : tmps[d]? with
  | some v => rw [hc] at h1; simpa using h1
  | none => rw [hc] at h1; simp [undef] at h1
theorem guard_ok {Z : Nat → Prop} {H : Heap} {ρ : Rho} {w : World} {ts : TS} {a : Act} {j : Nat} {b : Bool} (ht : TRel Z H ρ w ts a) (h : guardVal ops ts j = some b) : yielded ops a.tmps j = some b := by
  unfold guardVal at h
  split at h
  case h_2 => cases h
  rename_i oj hj
  split at h
  case h_2 => cases h
  rename_i d hd
  split at h
  case h_2 => cases h
  rename_i b' hb
  simp only [Option.some.injEq] at h; subst h
  have := ht d
  rw [hb] at this
  have := bool_of_VA this
  simp [yielded, hj, hd, this]
theorem guardOff_ok {Z : Nat → Prop} {H : Heap} {ρ : Rho} {w : World} {ts : TS} {a : Act} {j : Nat} (ht : TRel Z H ρ w ts a) (h : guardOff ops ts j = true) : yielded ops a.tmps j = none := by
  unfold guardOff at h
  split at h
  case h_2 => cases h
  rename_i oj hj
  split at h
  case h_2 => cases h
  rename_i d hd
  split at h
  case h_2 => cases h
  rename_i hb
  have h1 := ht d
  rw [hb] at h1
  obtain ⟨us, h2, h3⟩ := h1
  have h4 : us = #[] := by apply Array.ext'; exact LR.nil_inv h3
  subst h4
  rw [Array.getD_eq_getD_getElem?] at h2
  simp only [yielded, hj, hd, Option.bind_some]
  cases hc : a.tmps[d]? with
  | none => rfl
  | some v => rw [hc] at h2; simp at h2; subst h2; rfl
theorem VA_off (Z : Nat → Prop) (H : Heap) (ρ : Rho) (w : World) : VA Z H ρ w (.tup []) undef := ⟨#[], rfl, trivial⟩
/-- an operation under its guard -/
theorem gEval_ok (hT : TIok P X.ti) (hE : ∀ e ∈ X.tb, EOk P e) {Z : Nat → Prop} {H : Heap} {ρ : Rho} {w : World} {ts : TS} {a : Act} {o : Oper} {i : Nat} {K : KO β} {r : β} (hR : Rel Z H ρ w) (ht : TRel Z H ρ w ts a) (hi : ops[i]? = some o) (h : gEval X ops ts H o K = some r) :
    ∃ v U N, K v U N = some r ∧ (∀ u ∈ U, X.ro ≤ u.1) ∧ ∀ next : Act → World → Prop, (∀ cv w', OK Z H ρ w v U N cv w' → next (a.put o.dst cv) w') → wpOp P ops Q i next a w := by
  unfold gEval at h
  split at h
  · rename_i hg
    obtain ⟨v, U, N, h1, h2, h3⟩ := opAll_ok hR ht hT hE h
    refine ⟨v, U, N, h1, h2, fun next hn => ?_⟩
    have : Region.wanted o (yielded ops a.tmps) = true := by simp [Region.wanted, hg]
    simp only [wpOp, hi, this, if_true]
    exact .inl (h3 next Q hn)
  · rename_i j want hg
    split at h
    case h_2 =>
      split at h
      case isFalse => cases h
      rename_i hoff
      have hw : Region.wanted o (yielded ops a.tmps) = false := by simp [Region.wanted, hg, guardOff_ok ht hoff]
      refine ⟨_, _, _, h, by simp, fun next hn => ?_⟩
      simp only [wpOp, hi, hw, Bool.false_eq_true, if_false]
      exact hn undef w (OK.quiet hR (VA_off ..))
    rename_i b hb
    have hy := guard_ok ht hb
    have hw : Region.wanted o (yielded ops a.tmps) = (b == want) := by simp [Region.wanted, hg, hy]
    cases hbw : (b == want) with
    | true =>
      rw [hbw] at h hw
      simp only [cond_true] at h
      obtain ⟨v, U, N, h1, h2, h3⟩ := opAll_ok hR ht hT hE h
      refine ⟨v, U, N, h1, h2, fun next hn => ?_⟩
      simp only [wpOp, hi, hw, if_true]
      exact .inl (h3 next Q hn)
    | false =>
      rw [hbw] at h hw
      simp only [cond_false] at h
      refine ⟨_, _, _, h, by simp, fun next hn => ?_⟩
      simp only [wpOp, hi, hw, Bool.false_eq_true, if_false]
      exact hn undef w (OK.quiet hR (VA_off ..))
/-- a slice beside nil -/
theorem nilCmp_ok (hT : TIok P X.ti) {Z : Nat → Prop} {H : Heap} {ρ : Rho} {w : World} {ts : TS} {a : Act} {o : Oper} {q em : Bool} (hR : Rel Z H ρ w) (ht : TRel Z H ρ w ts a) (h : nilCmp X ts H o = some (q, em)) :
    o.guard = none ∧ ((em = true ∧ (execOp a.eval o).run P w = .ok (.value (.bool q)) w) ∨ (execOp a.eval o).run P w = .ok (.value (.bool (!q))) w) := by
  unfold nilCmp at h
  split at h
  case h_2 => cases h
  rename_i op t x y t' hg ho
  split at h
  case h_2 => cases h
  rename_i tr c h1 h2 h3
  split at h
  case h_2 => cases h
  rename_i e q' hd hop
  have hx := ev_ok hR ht x
  have hy := ev_ok hR ht y
  rw [h2] at hx
  rw [h3] at hy
  have hy' : a.eval y = .slice none 0 0 := (hy : _ ∧ _).1
  have hu := hT.und t tr h1
  rw [hd] at hu
  have hmd : Op.maxDepth = (Op.maxDepth - 1) + 1 := by decide
  have run : ∀ {ad : Option Addr} {n cap : Nat}, a.eval x = .slice ad n cap → (execOp a.eval o).run P w = .ok (.value (.bool (if ad.isNone then q' else !q'))) w := fun {ad n cap} hv => by
    cases op <;> simp only [reduceCtorEq, Option.some.injEq] at hop
    all_goals (subst hop; cases ad <;> (simp only [execOp, ho, hv, hy', Sem.run_bind, eqGuard, binOp, Op.equal]; rw [hmd]; simp [Op.equalIn, run_underlying hu]))
  refine ⟨hg, ?_⟩
  split at h
  · rename_i s xs
    split at h
    case isFalse => cases h
    rename_i hpos
    simp only [Option.some.injEq, Prod.mk.injEq] at h
    obtain ⟨rfl, rfl⟩ := h
    simp only [decide_eq_true_eq] at hpos
    have hx' : R1 w (A Z H ρ w) _ _ := hx
    obtain ⟨a', cap, us, hv, hn, hL, hA⟩ := hx'.sl_inv
    have hr := run hv
    cases a' with
    | some ad => right; simpa using hr
    | none =>
      left
      refine ⟨?_, by simpa using hr⟩
      have : us = [] := by rcases hA with h | ⟨_, h, _⟩ <;> first | exact h | cases h
      subst this
      have h0 := hL.length
      rw [flat_len (dv_len s)] at h0
      have : xs.length = 0 := by
        rcases Nat.mul_eq_zero.mp h0 with h | h <;> omega
      rw [List.isEmpty_iff]; exact List.length_eq_zero_iff.mp this
  · rename_i l z
    split at h
    case h_2 => cases h
    rename_i e' s xs hat
    simp only [Option.some.injEq, Prod.mk.injEq] at h
    obtain ⟨rfl, rfl⟩ := h
    obtain ⟨g1, g2, g3⟩ := hx
    obtain ⟨_, hs⟩ := g3 _ _ (dim_row hat)
    rcases hs with ⟨p, cap, hp, hv, _, _⟩ | ⟨h0, ad, hv⟩
    · right; simpa using run hv
    · have hr := run hv
      cases ad with
      | some ad => right; simpa using hr
      | none => left; exact ⟨by rw [List.isEmpty_iff]; exact List.length_eq_zero_iff.mp h0, by simpa using hr⟩
  · cases h
theorem freeze_heap (w : World) (b n : Nat) (m : Nat) {vs : Array Value} {e : TypeId} (h : w.heap[b]? = some (.cells vs e (0, 0))) (hm : m ≠ 0) :
    (w.freeze ⟨b, n, none⟩ m).heap[b]? = some (.cells vs e (n, n + m)) ∧ (∀ k, k ≠ b → (w.freeze ⟨b, n, none⟩ m).heap[k]? = w.heap[k]?) ∧ (w.freeze ⟨b, n, none⟩ m).heap.size = w.heap.size ∧ (w.freeze ⟨b, n, none⟩ m).os = w.os ∧ (w.freeze ⟨b, n, none⟩ m).tape = w.tape ∧ (w.freeze ⟨b, n, none⟩ m).output = w.output := by
  unfold World.freeze
  rw [if_neg hm]
  refine ⟨?_, fun k hk => ?_, by simp, rfl, rfl, rfl⟩
  · simp [Array.getElem?_modify, h]
  · simp [Array.getElem?_modify, Ne.symm hk]
/-- bytes as bytes -/
theorem convId_ok (hT : TIok P X.ti) {Z : Nat → Prop} {H : Heap} {ρ : Rho} {w : World} {ts : TS} {a : Act} {o : Oper} {l : Nat} {xs : List Int} (hR : Rel Z H ρ w) (ht : TRel Z H ρ w ts a) (h : convId X ts H o = some (l, xs)) (hpos : 0 < xs.length) :
    o.guard = none ∧ X.ro ≤ l ∧ StepTo P o a w (OK Z H ρ w (.one (.vsl (.int .u8) xs)) [(l, .dead)] []) := by
  unfold convId at h
  split at h
  case h_2 => cases h
  rename_i s d x hg ho
  split at h
  case isFalse => cases h
  rename_i hsd
  have hsd : s = d := by simpa using hsd
  subst hsd
  split at h
  case h_2 => cases h
  rename_i tr l0 z h1 h2
  split at h
  case h_2 => cases h
  rename_i e hd
  split at h
  case h_2 => cases h
  rename_i te he
  split at h
  case h_2 => cases h
  rename_i e' xs0 hde hat
  split at h
  case isFalse => cases h
  rename_i hro
  simp only [Option.some.injEq, Prod.mk.injEq] at h
  obtain ⟨rfl, rfl⟩ := h
  simp only [decide_eq_true_eq] at hro
  have hx := ev_ok hR ht x
  rw [h2] at hx
  obtain ⟨hl, _, h3⟩ := hx
  obtain ⟨hz, hs⟩ := h3 _ _ (dim_row hat)
  have hlive : (H.at l0).isLive = true := by rw [hat]; rfl
  rcases hs with ⟨p, cap, hp, hv, hc1, hc2⟩ | ⟨h0, _⟩
  case inr => omega
  have hob := hR.obj l0
  rw [hat] at hob
  rcases hob with ⟨hn, _⟩ | ⟨q, cur, us, hq, hw, _, _, _, hcu, hL⟩
  · rw [hn] at hpos; simp at hpos
  rw [hp] at hq
  cases hq
  have hu := hT.und s tr h1
  rw [hd] at hu
  have hue := hT.und e te he
  rw [hde] at hue
  obtain ⟨f1, f2, f3, f4, f5, f6⟩ := freeze_heap w p.b cur.size 1 hw (by omega)
  have hown : own H ρ p.b := ⟨l0, p, hlive, hp, .inl rfl⟩
  have ek : Ext H ρ w (H.set l0 .dead) ρ w := ext_kill l0
  have hset : Heap.upd H [(l0, .dead)] ++ [] = H.set l0 .dead := by simp [Heap.upd]
  have other : ∀ l2 p2 k, l2 ≠ l0 → (H.at l2).isLive = true → ρ l2 = some p2 → p2.foot k → k ≠ p.b := fun l2 p2 k hne hlv hp2 hf hb => hne (hR.inj l2 l0 p2 p p.b hlv hlive hp2 hp (by subst hb; exact hf) (.inl rfl))
  have hat2 : ∀ l2, (Heap.at (H.set l0 .dead) l2).isLive = true → l2 ≠ l0 ∧ Heap.at (H.set l0 .dead) l2 = H.at l2 := fun l2 hlv => by
    by_cases hq : l0 = l2
    · subst hq; rw [at_set_same hl] at hlv; cases hlv
    · exact ⟨fun h => hq h.symm, at_set_ne hq⟩
  have ex : Ext H ρ w (H.set l0 .dead) ρ (w.freeze ⟨p.b, cur.size, none⟩ 1) :=
    ⟨f4, f5, f6, by rw [f3]; exact Nat.le_refl _, fun k hk hn => f2 k (fun hq => hn (hq ▸ hown)), fun k hk => (ek.own k hk).elim .inl fun h => .inr h, ek.len, ek.rho, ek.live, ek.row⟩
  have hnot : ¬ own (H.set l0 .dead) ρ p.b := by
    rintro ⟨l2, p2, hlv, hp2, hb⟩
    obtain ⟨g1, g2⟩ := hat2 l2 hlv
    rw [g2] at hlv
    exact other l2 p2 p.b g1 hlv hp2 hb rfl
  refine ⟨hg, hro, StepTo.value (w' := w.freeze ⟨p.b, cur.size, none⟩ 1) (cv := a.eval x) ?_ ⟨ρ, ?_, ?_, ?_, ?_⟩⟩
  · have hsh : w.shape? p.b = some (e', cur.size) := by simp [World.shape?, hw]
    simp [execOp, ho, hv, convert, run_underlying hu, run_underlying hue, markStringish, hsh]
  · rw [hset]
    show R1 _ _ _ _
    rw [hv]
    refine R1.mk hc1 (cs := List.flatMap (Sh.int .u8).dv xs0) (us := us.take xs0.length) ?_ (.inr ⟨_, rfl, ⟨by show p.b < _; rw [f3]; exact hR.lt hlive hp, hnot, fun hz => hR.dis _ hz hown⟩, ⟨fun j u hj => ?_⟩⟩)
    · have hlen := hL.length
      have hfl : (List.flatMap (Sh.int .u8).dv xs0).length = xs0.length := by rw [flat_len (dv_len (Sh.int .u8))]; simp [Sh.sz]
      have : us.take xs0.length = us := List.take_of_length_le (by omega)
      rw [this]
      exact LR.imp (fun d u hr => hr.mono (fun k hk => f2 k (fun hq => hk.2.1 (hq ▸ hown))) (fun k hk => ⟨by rw [f3]; exact hk.1, fun ho' => hk.2.1 ((ek.own k ho').elim id fun h => absurd hk.1 (by omega)), hk.2.2⟩)) hL
    · have hj' : us[j]? = some u := by
        rw [List.getElem?_take] at hj; split at hj
        · exact hj
        · cases hj
      rw [add_off, cell_at _ p.b _ cur e' _ f1, ← hcu _ _ hj']
      congr 1; omega
  · rw [hset]
    exact hR.step ex (fun l2 hlv => by
      obtain ⟨g1, g2⟩ := hat2 l2 hlv
      rw [g2] at hlv
      exact .inl ⟨at_lt hlv, g2, rfl, fun p2 k hp2 hf => f2 _ (other l2 p2 k g1 hlv hp2 hf)⟩) (fun l2 l' p2 p' k h1 hlv => absurd ⟨by have := at_lt hlv; simpa using this, rfl⟩ h1)
  · rw [hset]; exact ex
  · exact fun l2 hne hlv => ⟨rfl, fun p2 k hp2 hf => f2 _ (other l2 p2 k (fun hq => hne (l0, .dead) (by simp) hq.symm) hlv hp2 hf)⟩
/-- nothing moves: the objects are told otherwise -/
theorem InvR.retold {ts : TS} {H H' : Heap} {ρ ρ' : Rho} {a : Act} {w : World} (hI : InvR X B ts H ρ a w) (h1 : Rel B.Z H' ρ' w) (h2 : Ext H ρ w H' ρ' w) (h3 : H'.take X.ro = H.take X.ro) (h4 : ∀ k, k < X.ro → (H'.at k).isLive = true → ρ' k = ρ k) : InvR X B ts H' ρ' a w := by
  have hlen := h2.len
  have hro := hI.rolen
  refine ⟨h1, h2.TRel hI.ts, hI.size, hI.defers, h3.trans hI.ro, by omega, hI.since.step h2, fun l hl hv => ?_⟩
  have hat : H'.at l = H.at l := by
    have e1 : H'.at l = Heap.at (H'.take X.ro) l := by simp [Heap.at, List.getD_eq_getElem?_getD, List.getElem?_take, hl]
    have e2 : H.at l = Heap.at (H.take X.ro) l := by simp [Heap.at, List.getD_eq_getElem?_getD, List.getElem?_take, hl]
    rw [e1, e2, h3]
  have h5 := h4 l hl hv
  obtain ⟨q1, q2⟩ := hI.rok l hl (by rw [← hat]; exact hv)
  exact ⟨h5.trans q1, fun p k hp hf => q2 p k (by rw [← h5]; exact hp) hf⟩
theorem take_set_ge {ro l : Nat} {H : Heap} {o : AO} (h : ro ≤ l) : (H.set l o).take ro = H.take ro := by
  apply List.ext_getElem?
  intro i
  simp only [List.getElem?_take]
  split
  · rw [List.getElem?_set_ne (by omega)]
  · rfl
theorem Inv.opened {ts : TS} {H : Heap} {a : Act} {w : World} {x : Operand} (hI : Inv X B ts H a w) : Inv X B ts (openFor X.ro ts H x) a w := by
  unfold openFor
  split
  case h_2 => exact hI
  rename_i l z i off hev
  split
  case isFalse => exact hI
  rename_i hro
  simp only [decide_eq_true_eq] at hro
  cases hat : H.at l with
  | nest e es s xs op =>
    cases op with
    | some ic => unfold openH; rw [hat]; exact hI
    | none =>
      obtain ⟨ρ, hI⟩ := hI
      have hx := ev_ok hI.rel hI.ts x
      rw [hev] at hx
      obtain ⟨g1, _, g3⟩ := (hx : V0 B.Z H ρ w (.ep l z i off) (a.eval x))
      obtain ⟨hi, _⟩ := g3 _ _ (dim_nest hat)
      obtain ⟨ρ', k1, k2, k3⟩ := hI.rel.opened hat hi
      refine ⟨ρ', hI.retold k1 k2 ?_ fun k hk _ => k3 k (by have := hI.rolen; omega) (by omega)⟩
      unfold openH
      rw [hat]
      simp only
      rw [List.take_append_of_le_length (by rw [List.length_set]; exact hI.rolen), take_set_ge hro]
  | dead => unfold openH; rw [hat]; exact hI
  | cells e cs => unfold openH; rw [hat]; exact hI
  | row e s xs => unfold openH; rw [hat]; exact hI
theorem cutTo_ok {Z : Nat → Prop} {H H' : Heap} {ρ ρ' : Rho} {w : World} {l l' n : Nat} {o o' : AO} (h : o.cutTo n = some o') (hn : ∀ d, o.dim = some d → n ≤ d.2) (ho : Holds Z H ρ w l o) (ex : Ext H ρ w H' ρ' w) (hρ : ρ' l' = ρ l) : Holds Z H' ρ' w l' o' ∧ ∃ z N, o.dim = some (z, N) ∧ o'.dim = some (z, n) := by
  cases o with
  | dead => cases h
  | cells e cs => cases h
  | row e s xs =>
    simp only [AO.cutTo, Option.some.injEq] at h; subst h
    have hle := hn _ rfl
    simp only at hle
    refine ⟨?_, s.sz, xs.length, rfl, by simp [AO.dim]; omega⟩
    have hpre : xs.flatMap s.dv = (xs.take n).flatMap s.dv ++ (xs.drop n).flatMap s.dv := by rw [← List.flatMap_append, List.take_append_drop]
    rcases ho with ⟨k1, k2⟩ | ⟨p, cur, us, k1, k2, k3, k4, k5, k6, k7⟩
    · exact .inl ⟨by rw [k1]; simp, by rw [hρ]; exact k2⟩
    · refine .inr ⟨p, cur, us.take ((xs.take n).flatMap s.dv).length, by rw [hρ]; exact k1, k2, k3, by simp; omega, k5, fun j v hj => k6 j v ?_, ?_⟩
      · rw [List.getElem?_take] at hj
        split at hj
        · exact hj
        · cases hj
      · have := (k7.take ((xs.take n).flatMap s.dv).length).imp fun _ _ => ex.R1
        rw [hpre, List.take_left] at this
        exact this
  | nest e es s xs op =>
    cases op with
    | some ic => cases h
    | none =>
      simp only [AO.cutTo, Option.some.injEq] at h; subst h
      have hle := hn _ rfl
      simp only at hle
      refine ⟨?_, s.sz, xs.length, rfl, by simp [AO.dim]; omega⟩
      rcases ho with ⟨k1, k2, k3⟩ | ⟨p, cur, uss, pss, k1, k2⟩
      · exact .inl ⟨by rw [k1]; simp, rfl, by rw [hρ]; exact k3⟩
      · have tk : ∀ {α : Type} {xs : List α} {i : Nat} {x : α}, (xs.take n)[i]? = some x → xs[i]? = some x := fun {α xs i x} h => by
          rw [List.getElem?_take] at h
          split at h
          · exact h
          · cases h
        refine .inr ⟨p, cur, uss.take n, pss.take n, by rw [hρ]; exact k1, ⟨k2.at_, k2.size, by have := k2.len; simp; omega, k2.cap, by simp [k2.ul], by simp [k2.pl], fun i us hu => k2.us i us (tk hu), fun i x us ps h1 h2 h3 h4 => (k2.el i x us ps (tk h1) (tk h2) (tk h3) (fun cs h => by cases h)).mono (fun _ _ => ex.R1) fun _ _ => rfl, fun i cs h => (by cases h), ⟨fun i ps q h1 h2 => k2.pd.foot i ps q (tk h1) h2, fun i1 i2 ps1 ps2 m1 m2 q1 q2 h1 h2 => k2.pd.apart i1 i2 ps1 ps2 m1 m2 q1 q2 (tk h1) (tk h2)⟩⟩⟩
theorem LR_set {α β : Type} {R : α → β → Prop} {as : List α} {bs : List β} {c : Nat} {a' : α} (h : LR R as bs) (ha : ∀ b, bs[c]? = some b → R a' b) : LR R (as.set c a') bs := by
  refine LR.of_get (by simp [h.length]) fun i x y hx hy => ?_
  by_cases e : c = i
  · subst e
    have : x = a' := by
      rw [List.getElem?_set] at hx
      simp only [if_true] at hx
      split at hx <;> simp_all
    subst this; exact ha y hy
  · rw [List.getElem?_set_ne e] at hx
    exact h.get hx hy
/-- a slice cut short is told as a row of its own -/
theorem Rel.trimmed {Z : Nat → Prop} {H : Heap} {ρ : Rho} {w : World} (hR : Rel Z H ρ w) {j c l z n : Nat} {e : TypeId} {cs : List C1} {o' : AO} (hj : H.at j = .cells e cs) (hc : cs[c]? = some (.sl l z 0 n) ∨ cs[c]? = some (.own l z) ∧ ∃ z0, (H.at l).dim = some (z0, n)) (ho : (H.at l).cutTo n = some o') :
    ∃ ρ', Rel Z ((H.set l .dead).set j (.cells e (cs.set c (.own H.length z))) ++ [o']) ρ' w ∧ Ext H ρ w ((H.set l .dead).set j (.cells e (cs.set c (.own H.length z))) ++ [o']) ρ' w ∧ ∀ k, k < H.length → ρ' k = ρ k := by
  have hlive : (H.at l).isLive = true := by cases hh : H.at l <;> rw [hh] at ho <;> first | rfl | cases ho
  have hjlive : (H.at j).isLive = true := by rw [hj]; rfl
  have hjl : j ≠ l := fun e => by subst e; rw [hj] at ho; cases ho
  have hob := hR.obj j
  rw [hj] at hob
  obtain ⟨pj, vs, hpj, hwj, hL, hst⟩ := hob
  have hcv : ∀ v, vs.toList[c]? = some v → V1 Z H ρ w (.sl l z 0 n) v := fun v hv => by
    rcases hc with hc | ⟨hc, z0, hd⟩
    · exact hL.get hc hv
    · obtain ⟨h1, h2, h3⟩ := (hL.get hc hv : V0 Z H ρ w (.own l z) v)
      refine (⟨h1, h2, fun z2 n2 hd2 => ?_⟩ : V0 Z H ρ w (.sl l z 0 n) v)
      rw [hd] at hd2; cases hd2
      obtain ⟨g1, g2⟩ := h3 _ _ hd
      exact ⟨g1, by omega, g2⟩
  have hcl : c < vs.toList.length := by
    rw [← hL.length]
    rcases hc with hc | ⟨hc, _⟩ <;> exact (List.getElem?_eq_some_iff.1 hc).1
  have hv0 := hcv _ (List.getElem?_eq_getElem hcl)
  obtain ⟨_, hone, hdim⟩ := (hv0 : V0 Z H ρ w (.sl l z 0 n) _)
  have hn : ∀ d, (H.at l).dim = some d → n ≤ d.2 := fun d hd => by
    obtain ⟨z', n'⟩ := d
    have := (hdim z' n' hd).2.1
    simpa using this
  -- the row that ends, the new one
  have hkill : ∀ k, k < H.length → k ≠ l → Heap.at (H.set l .dead ++ [o']) k = H.at k := fun k hk hne => by
    rw [at_append_lt (by simpa using hk), at_set_ne (fun e => hne e.symm)]
  have stepA : Rel Z (H.set l .dead ++ [o']) (put ρ H.length (ρ l)) w ∧ Ext H ρ w (H.set l .dead ++ [o']) (put ρ H.length (ρ l)) w := by
    cases hp : ρ l with
    | some p =>
      refine Rel.over hR hlive hp (fun k hk => .inl hk) (fun k hk => hR.inn l p k hlive hp hk) (fun _ _ _ => rfl) rfl rfl rfl (Nat.le_refl _) fun ex => ?_
      exact (cutTo_ok ho hn (hR.obj l) ex (by rw [put_same, hp])).1
    | none =>
      have hRk := hR.kill l
      have e1 := ext_kill (H := H) (ρ := ρ) (w := w) l
      have hlen : (H.set l .dead).length = H.length := by simp
      have ex := e1.trans (Ext.new (H := H.set l .dead) (ρ := ρ) o' none (grown_refl w) (by simp))
      rw [hlen] at ex
      have := Rel.new (w' := w) hRk o' none (grown_refl w) (by simp) (by rw [hlen]; exact (cutTo_ok ho hn (hR.obj l) ex (by rw [put_same, hp])).1)
      rw [hlen] at this
      exact ⟨this, ex⟩
  obtain ⟨hA, eA⟩ := stepA
  have hjlt := at_lt hjlive
  have hat : Heap.at (H.set l .dead ++ [o']) j = .cells e cs := by rw [hkill j hjlt hjl]; exact hj
  have hpj' : put ρ H.length (ρ l) j = some pj := by rw [put_lt ρ _ _ hjlt]; exact hpj
  have eq : (H.set l .dead).set j (.cells e (cs.set c (.own H.length z))) ++ [o'] = (H.set l .dead ++ [o']).set j (.cells e (cs.set c (.own H.length z))) := by
    rw [List.set_append_left _ _ (by simpa using hjlt)]
  rw [eq]
  have exB := ext_set (H := H.set l .dead ++ [o']) (ρ := put ρ H.length (ρ l)) (w := w) (w' := w) (l := j) (.cells e (cs.set c (.own H.length z))) (by rw [hat]; rfl) hpj' (fun _ _ => rfl) rfl rfl rfl rfl (fun d h => by cases h)
  have hnew : ∀ v, vs.toList[c]? = some v → V1 Z ((H.set l .dead ++ [o']).set j (.cells e (cs.set c (.own H.length z)))) (put ρ H.length (ρ l)) w (.own H.length z) v := fun v hv => by
    obtain ⟨_, h1, h2⟩ := (hcv v hv : V0 Z H ρ w (.sl l z 0 n) v)
    have ho2 := (cutTo_ok ho hn (hR.obj l) (Ext.refl H ρ w) rfl).2
    obtain ⟨z1, N1, d1, d2⟩ := ho2
    show V0 Z ((H.set l .dead ++ [o']).set j (.cells e (cs.set c (.own H.length z)))) (put ρ H.length (ρ l)) w (.own H.length z) v
    refine ⟨by simp, h1, fun z2 n2 hd => ?_⟩
    have hat3 : Heap.at ((H.set l .dead ++ [o']).set j (.cells e (cs.set c (.own H.length z)))) H.length = o' := by
      rw [at_set_ne (by omega)]
      have := at_new (H := H.set l .dead) (o := o'); rwa [List.length_set] at this
    rw [hat3, d2] at hd
    cases hd
    obtain ⟨g1, _, g3⟩ := h2 _ _ d1
    exact ⟨g1, by unfold SlAt at g3 ⊢; rw [put_same]; exact g3⟩
  have hB := Rel.set hA (.cells e (cs.set c (.own H.length z))) (by rw [hat]; rfl) hpj' (fun _ _ => rfl) rfl rfl rfl rfl (fun d h => by cases h) (w' := w)
    ⟨pj, vs, hpj', hwj, LR_set (hL.imp fun _ _ h => exB.V1 (eA.V1 h)) hnew, by
      rw [List.all_eq_true] at hst ⊢
      intro x hx
      rcases List.mem_or_eq_of_mem_set hx with h | h
      · exact hst x h
      · subst h; rfl⟩
  exact ⟨_, hB, eA.trans exB, fun k hk => put_lt ρ _ _ hk⟩
theorem Inv.trim1 {ts : TS} {H : Heap} {a : Act} {w : World} {j c : Nat} (hI : Inv X B ts H a w) : Inv X B ts (trimC X.ro H j c) a w := by
  unfold trimC
  split
  case h_2 => exact hI
  rename_i e cs hj
  split
  case h_2 => exact hI
  rename_i l z n hc
  split
  case isFalse => exact hI
  rename_i hro
  simp only [Bool.and_eq_true, decide_eq_true_eq] at hro
  split
  case h_2 => exact hI
  rename_i o' ho
  obtain ⟨ρ, hI⟩ := hI
  obtain ⟨ρ', k1, k2, k3⟩ := hI.rel.trimmed hj (.inl hc) ho
  refine ⟨ρ', hI.retold k1 k2 ?_ fun k hk _ => k3 k (by have := hI.rolen; omega)⟩
  rw [List.take_append_of_le_length (by simp only [List.length_set]; exact hI.rolen), take_set_ge hro.1, take_set_ge hro.2]
theorem Inv.trimJ_ {ts : TS} {a : Act} {w : World} {j : Nat} : ∀ (c : Nat) {H : Heap}, Inv X B ts H a w → Inv X B ts (trimJ X.ro j c H) a w
  | 0, H, h => h
  | c + 1, H, h => Inv.trimJ_ c h.trim1
theorem Inv.trimN_ {ts : TS} {a : Act} {w : World} : ∀ (j : Nat) {H : Heap}, Inv X B ts H a w → Inv X B ts (trimN X.ro j H) a w
  | 0, H, h => h
  | j + 1, H, h => Inv.trimN_ j (h.trimJ_ _)
theorem Inv.trim {ts : TS} {H : Heap} {a : Act} {w : World} (hI : Inv X B ts H a w) : Inv X B ts (trimAll X.ro H) a w := hI.trimN_ _
theorem Rel.closes {Z : Nat → Prop} {H : Heap} {ρ : Rho} {w : World} (hR : Rel Z H ρ w) : ∀ n, ∃ ρ', Rel Z (H.upd (closesU n H)) ρ' w ∧ Ext H ρ w (H.upd (closesU n H)) ρ' w ∧ ∀ k, k < H.length → (∀ u ∈ closesU n H, u.1 ≠ k) → ρ' k = ρ k
  | 0 => ⟨ρ, hR, Ext.refl _ _ _, fun _ _ _ => rfl⟩
  | n + 1 => by
    obtain ⟨ρ1, a1, a2, a3⟩ := Rel.closes hR n
    obtain ⟨ρ2, b1, b2, b3⟩ := a1.closed n
    have e : H.upd (closesU (n + 1) H) = Heap.upd (H.upd (closesU n H)) (closeU (H.upd (closesU n H)) n) := by simp only [closesU]; exact upd_append _ _ _
    rw [e]
    refine ⟨ρ2, b1, a2.trans b2, fun k hk hu => ?_⟩
    rw [b3 k (by rw [upd_len]; exact hk) (fun u hu' => hu u (by simp only [closesU, List.mem_append]; exact .inr hu')), a3 k hk (fun u hu' => hu u (by simp only [closesU, List.mem_append]; exact .inl hu'))]
theorem Inv.close {ts : TS} {H : Heap} {a : Act} {w : World} (hI : Inv X B ts H a w) : Inv X B ts (closeAll X.ro H) a w := by
  unfold closeAll
  split
  case isFalse => exact hI
  rename_i hro
  have hro2 : ∀ u ∈ closesU H.length H, X.ro ≤ u.1 := fun u hu => by simpa using List.all_eq_true.1 hro u hu
  obtain ⟨ρ, hI⟩ := hI
  obtain ⟨ρ', k1, k2, k3⟩ := hI.rel.closes H.length
  exact ⟨ρ', hI.retold k1 k2 (take_upd _ _ _ hro2) fun k hk _ => k3 k (by have := hI.rolen; omega) (fun u hu => by have := hro2 u hu; omega)⟩
theorem Inv.home_ {objs : List OS} {kp : Nat} {ts : TS} {H : Heap} {a : Act} {w : World} {j c : Nat} (hI : Inv X B ts H a w) : Inv X B ts (homeC X.ro kp objs H j c) a w := by
  unfold homeC
  split
  case h_2 => exact hI
  rename_i e cs hj
  split
  case h_2 => exact hI
  rename_i l z hc
  split
  case isFalse => exact hI
  rename_i hro
  simp only [Bool.and_eq_true, decide_eq_true_eq] at hro
  split
  case h_2 => exact hI
  rename_i z0 n hd
  split
  case h_2 => exact hI
  rename_i o' ho
  obtain ⟨ρ, hI⟩ := hI
  obtain ⟨ρ', k1, k2, k3⟩ := hI.rel.trimmed hj (.inr ⟨hc, z0, hd⟩) ho
  refine ⟨ρ', hI.retold k1 k2 ?_ fun k hk _ => k3 k (by have := hI.rolen; omega)⟩
  rw [List.take_append_of_le_length (by simp only [List.length_set]; exact hI.rolen), take_set_ge hro.1.1.1, take_set_ge hro.1.1.2]
theorem Inv.homeJ_ {objs : List OS} {kp : Nat} {ts : TS} {a : Act} {w : World} {j : Nat} : ∀ (c : Nat) {H : Heap}, Inv X B ts H a w → Inv X B ts (homeJ X.ro kp objs j c H) a w
  | 0, H, h => h
  | c + 1, H, h => Inv.homeJ_ c h.home_
theorem Inv.homeN_ {objs : List OS} {kp : Nat} {ts : TS} {a : Act} {w : World} : ∀ (j : Nat) {H : Heap}, Inv X B ts H a w → Inv X B ts (homeN X.ro kp objs j H) a w
  | 0, H, h => h
  | j + 1, H, h => Inv.homeN_ j (h.homeJ_ _)
theorem Inv.tidy {objs : List OS} {kp : Nat} {ts : TS} {H : Heap} {a : Act} {w : World} (hI : Inv X B ts H a w) : Inv X B ts (tidyH X.ro kp objs H) a w := hI.close.trim.homeN_ _
theorem Inv.prepO_ {ts : TS} {H : Heap} {a : Act} {w : World} (o : Oper) (hI : Inv X B ts H a w) : Inv X B ts (prepO X.ro ts H o) a w := by
  unfold prepO
  split
  · exact hI.opened
  · exact hI.opened
  · exact hI.trim
  · exact hI
theorem Inv.openedAt {ts : TS} {H : Heap} {a : Act} {w : World} {l i : Nat} {e : TypeId} {es : List TypeId} {s : Sh} {xs : List s.T} (hat : H.at l = .nest e es s xs none) (hro : X.ro ≤ l) (hi : i < xs.length) (hI : Inv X B ts H a w) : Inv X B ts (openH H l i) a w := by
  obtain ⟨ρ, hI⟩ := hI
  obtain ⟨ρ', k1, k2, k3⟩ := hI.rel.opened hat hi
  refine ⟨ρ', hI.retold k1 k2 ?_ fun k hk _ => k3 k (by have := hI.rolen; omega) (by omega)⟩
  unfold openH
  rw [hat]
  simp only
  rw [List.take_append_of_le_length (by rw [List.length_set]; exact hI.rolen), take_set_ge hro]
theorem Inv.prepG_ {ts : TS} {a : Act} {w : World} {K : Heap → Option β} {r : β} : ∀ (l : List Oper) {us : TS} {H : Heap}, prepG X l us H K = some r → Inv X B ts H a w → ∃ H', Inv X B ts H' a w ∧ K H' = some r
  | [], us, H, h, hI => ⟨H, hI, h⟩
  | o :: l, us, H, h, hI => by
    simp only [prepG] at h
    split at h
    · rename_i k i n ho
      obtain ⟨hc, hK⟩ := iff'_ok h
      simp only [decide_eq_true_eq] at hc
      refine Inv.prepG_ l hK ?_
      unfold openAt at ho
      split at ho
      case h_2 => cases ho
      split at ho
      case h_2 => cases ho
      split at ho
      case isFalse => cases ho
      rename_i hro
      simp only [decide_eq_true_eq] at hro
      split at ho
      case h_2 => cases ho
      rename_i hat
      simp only [Option.some.injEq, Prod.mk.injEq] at ho
      obtain ⟨rfl, rfl, rfl⟩ := ho
      exact hI.openedAt hat hro hc
    · exact Inv.prepG_ l h hI
theorem Inv.prepR_ {ts : TS} {a : Act} {w : World} : ∀ (l : List Oper) {H : Heap}, Inv X B ts H a w → Inv X B ts (prepR X.ro ts l H) a w
  | [], H, h => h
  | o :: l, H, h => by
    simp only [prepR]
    refine Inv.prepR_ l ?_
    split
    · exact h.opened
    · exact h
theorem opsRun_ok (hT : TIok P X.ti) (hE : ∀ e ∈ X.tb, EOk P e) {K : TS → Heap → Option β} {r : β} (hQ : ∀ ts H a w, K ts H = some r → Inv X B ts H a w → Q .normal a w) :
    ∀ (l : List Oper) (i : Nat) (ts : TS) (H : Heap) (a : Act) (w : World), ops.toList.drop i = l → opsRun X ops B.N l ts H K = some r → Inv X B ts H a w → wpOps P ops Q (List.range' i l.length) a w
  | [], i, ts, H, a, w, hl, h, hI => by
    simp only [List.length_nil, List.range'_zero, wpOps]
    exact hQ _ _ _ _ h hI
  | o :: l, i, ts, H, a, w, hl, h, hI => by
    have hlen : i < ops.toList.length := by
      rcases Nat.lt_or_ge i ops.toList.length with h' | h'
      · exact h'
      · rw [List.drop_eq_nil_of_le h'] at hl; cases hl
    rw [List.drop_eq_getElem_cons hlen] at hl
    simp only [List.cons.injEq] at hl
    have hi : ops[i]? = some o := by
      rw [← Array.getElem?_toList, List.getElem?_eq_getElem hlen, hl.1]
    rw [List.length_cons, List.range'_succ, wpOps_cons]
    simp only [opsRun, splitB_eq] at h
    split at h
    case isFalse => cases h
    rename_i hd
    obtain ⟨ρ, hI⟩ := hI
    have plain : ∀ {v : AV} {U : Upd} {N : List AO}, o.guard = none → (∀ u ∈ U, X.ro ≤ u.1) → StepTo P o a w (OK B.Z H ρ w v U N) → opsRun X ops B.N l (putT ts o.dst v) (H.upd U ++ N) K = some r →
        wpOp P ops Q i (fun a w => wpOps P ops Q (List.range' (i + 1) l.length) a w) a w := fun {v U N} hg hU hst hrun => by
      have : Region.wanted o (yielded ops a.tmps) = true := by simp [Region.wanted, hg]
      simp only [wpOp, hi, this, if_true]
      exact .inl (hst _ Q fun cv w' hok => opsRun_ok hT hE hQ l (i + 1) _ _ _ _ hl.2 hrun (hI.next hd hU hok))
    have hH0 : Heap.upd H [] ++ [] = H := by simp [Heap.upd]
    split at h
    · rename_i q em hn
      obtain ⟨hg, hn⟩ := nilCmp_ok hT hI.rel hI.ts hn
      have go2 : ∀ b : Bool, (execOp a.eval o).run P w = .ok (.value (.bool b)) w → opsRun X ops B.N l (putT ts o.dst (.one (.lit (.bool b)))) H K = some r → wpOp P ops Q i (fun a w => wpOps P ops Q (List.range' (i + 1) l.length) a w) a w := fun b hr hk =>
        plain (v := .one (.lit (.bool b))) (U := []) (N := []) hg (by simp) (StepTo.value hr (OK.quiet hI.rel ⟨rfl, rfl⟩)) (by rw [hH0]; exact hk)
      cases em with
      | true =>
        simp only [cond_true] at h
        obtain ⟨ha, hb⟩ := both_some h
        rcases hn with ⟨_, hn⟩ | hn
        · exact go2 _ hn ha
        · exact go2 _ hn hb
      | false =>
        simp only [cond_false] at h
        rcases hn with ⟨h0, _⟩ | hn
        · cases h0
        · exact go2 _ hn h
    split at h
    · rename_i l' xs hc
      obtain ⟨hb, hk⟩ := iff'_ok h
      simp only [decide_eq_true_eq] at hb
      obtain ⟨hg, hro, hst⟩ := convId_ok hT hI.rel hI.ts hc hb
      exact plain (v := .one (.vsl (.int .u8) xs)) (U := [(l', .dead)]) (N := []) hg (by simpa using hro) hst (by simpa [Heap.upd] using hk)
    obtain ⟨ρ1, hI1⟩ := Inv.prepO_ (X := X) (B := B) o ⟨ρ, hI⟩
    obtain ⟨v, U, N, h1, h2, h3⟩ := gEval_ok (Q := Q) hT hE hI1.rel hI1.ts hi h
    exact h3 _ fun cv w' hok => opsRun_ok hT hE hQ l (i + 1) _ _ _ _ hl.2 h1 (hI1.next hd h2 hok)
end
end Go.Proofs.YtaklapcbbdcdpaaDoor.X
