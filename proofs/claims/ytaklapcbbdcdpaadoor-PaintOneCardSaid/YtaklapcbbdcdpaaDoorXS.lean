import Derived.Test.YtaklapcbbdcdpaaDoorXR
namespace Go.Proofs.YtaklapcbbdcdpaaDoor.X
open Go Go.RowKit
set_option linter.unusedVariables false
set_option linter.unusedSimpArgs false
theorem gEval_nat {P : Program} {X : Ctx P} {β : Type} {ops : Array Oper} {ts : TS} {H : Heap} {o : Oper} (hN : ∀ e ∈ X.tb, ENat e) (K : KO β) : gEval X ops ts H o K = (gEval X ops ts H o K0).bind (go K) := by
  unfold gEval
  split
  · exact opAll_nat hN K
  · split
    · rename_i b _
      cases (b == _)
      · rfl
      · exact opAll_nat hN K
    · split <;> rfl
def evL (ev : BV) : List (Nat × Oper) → List Nat
  | [] => []
  | (i, o) :: r => if ev.has i then i :: evL ev r else evL ev r
theorem cntE_eq (ev v : BV) : ∀ l : List (Nat × Oper), cntE ev v l = (evL ev l).countP (v.has ·)
  | [] => rfl
  | (i, o) :: r => by
    simp only [cntE, evL]
    cases h1 : ev.has i <;> cases h2 : v.has i <;> simp [h2, cntE_eq ev v r]
theorem evL_append {ev : BV} : ∀ (l m : List (Nat × Oper)), evL ev (l ++ m) = evL ev l ++ evL ev m
  | [], m => rfl
  | (i, o) :: r, m => by simp only [List.cons_append, evL]; split <;> simp [evL_append r m]
theorem mem_evL {ev : BV} {l : List (Nat × Oper)} {i : Nat} : i ∈ evL ev l ↔ ∃ o, (i, o) ∈ l ∧ ev.has i = true := by
  induction l with
  | nil => simp [evL]
  | cons p l ih =>
    obtain ⟨j, o⟩ := p
    simp only [evL]
    split
    · rename_i h
      simp only [List.mem_cons, ih]
      constructor
      · rintro (rfl | ⟨o', h1, h2⟩)
        · exact ⟨o, .inl rfl, h⟩
        · exact ⟨o', .inr h1, h2⟩
      · rintro ⟨o', h1 | h1, h2⟩
        · cases h1; exact .inl rfl
        · exact .inr ⟨o', h1, h2⟩
    · rename_i h
      rw [ih]
      constructor
      · rintro ⟨o', h1, h2⟩; exact ⟨o', List.mem_cons_of_mem _ h1, h2⟩
      · rintro ⟨o', h1, h2⟩
        rcases List.mem_cons.1 h1 with h1 | h1
        · cases h1; exact absurd h2 h
        · exact ⟨o', h1, h2⟩
theorem mem_numbered : ∀ (l : List Oper) (k i : Nat) (o : Oper), (i, o) ∈ numbered k l ↔ k ≤ i ∧ l[i - k]? = some o
  | [], k, i, o => by simp [numbered]
  | x :: l, k, i, o => by
    simp only [numbered, List.mem_cons, Prod.mk.injEq, mem_numbered l (k + 1) i o]
    constructor
    · rintro (⟨rfl, rfl⟩ | ⟨h1, h2⟩)
      · simp
      · refine ⟨by omega, ?_⟩
        have : i - k = (i - (k + 1)) + 1 := by omega
        rw [this, List.getElem?_cons_succ]; exact h2
    · rintro ⟨h1, h2⟩
      by_cases h : i = k
      · subst h; simp at h2; exact .inl ⟨rfl, h2.symm⟩
      · right
        refine ⟨by omega, ?_⟩
        have : i - k = (i - (k + 1)) + 1 := by omega
        rw [this, List.getElem?_cons_succ] at h2; exact h2
theorem mem_num0 {l : List Oper} {i : Nat} {o : Oper} : (i, o) ∈ numbered 0 l ↔ l[i]? = some o := by simp [mem_numbered]
theorem numbered_sorted : ∀ (l : List Oper) (k : Nat) (pre rest : List (Nat × Oper)) (i : Nat) (o : Oper), numbered k l = pre ++ (i, o) :: rest → (∀ q ∈ pre, q.1 < i) ∧ (∀ q ∈ rest, i < q.1)
  | [], k, pre, rest, i, o, h => by simp [numbered] at h
  | x :: l, k, [], rest, i, o, h => by
    simp only [numbered, List.nil_append, List.cons.injEq, Prod.mk.injEq] at h
    obtain ⟨⟨rfl, rfl⟩, rfl⟩ := h
    refine ⟨by simp, fun q hq => ?_⟩
    obtain ⟨j, oj⟩ := q
    have := (mem_numbered l (k + 1) j oj).1 hq
    simp only; omega
  | x :: l, k, p :: pre, rest, i, o, h => by
    simp only [numbered, List.cons_append, List.cons.injEq] at h
    obtain ⟨rfl, h⟩ := h
    obtain ⟨h1, h2⟩ := numbered_sorted l (k + 1) pre rest i o h
    refine ⟨fun q hq => ?_, h2⟩
    rcases List.mem_cons.1 hq with rfl | hq
    · have : (i, o) ∈ numbered (k + 1) l := by rw [h]; simp
      have := (mem_numbered l (k + 1) i o).1 this
      simp only; omega
    · exact h1 q hq
section
variable {ops : Array Oper} {ev : BV} {tab : List BV}
structure TabG (ops : Array Oper) (ev : BV) (tab : List BV) : Prop where
  tb : TabOk ops.toList tab
  lt : ∀ (i : Nat) (o : Oper), ops.toList[i]? = some o → ∀ p ∈ preds o, p < i
  ev : ∀ i j (oi oj : Oper), ops.toList[i]? = some oi → ops.toList[j]? = some oj → ev.has i = true → ev.has j = true → i < j → BV.has (tab.getD j []) i = true
theorem TabG.anc_lt (g : TabG ops ev tab) : ∀ (i : Nat) (o : Oper), ops.toList[i]? = some o → ∀ j, BV.has (tab.getD i []) j = true → j < i := by
  intro i
  induction i using Nat.strongRecOn with
  | _ i ih =>
    intro o ho j hj
    obtain ⟨p, hp, h⟩ := (g.tb.spec i o ho j).1 hj
    have hpi := g.lt i o ho p hp
    rcases h with rfl | ⟨_, h⟩
    · exact hpi
    · have hlen := (List.getElem?_eq_some_iff.1 ho).1
      have hp' : ops.toList[p]? = some ops.toList[p] := List.getElem?_eq_getElem (by omega)
      have := ih p hpi _ hp' j h
      omega
theorem TabG.trans (g : TabG ops ev tab) : ∀ (i : Nat) (o : Oper), ops.toList[i]? = some o → ∀ j k, BV.has (tab.getD i []) j = true → BV.has (tab.getD j []) k = true → BV.has (tab.getD i []) k = true := by
  intro i
  induction i using Nat.strongRecOn with
  | _ i ih =>
    intro o ho j k hj hk
    obtain ⟨p, hp, h⟩ := (g.tb.spec i o ho j).1 hj
    have hpi := g.lt i o ho p hp
    refine (g.tb.spec i o ho k).2 ⟨p, hp, .inr ⟨hpi, ?_⟩⟩
    rcases h with rfl | ⟨_, h⟩
    · exact hk
    · have hlen := (List.getElem?_eq_some_iff.1 ho).1
      have hp' : ops.toList[p]? = some ops.toList[p] := List.getElem?_eq_getElem (by omega)
      exact ih p hpi _ hp' j k h hk
/-- whoever is closed and has the ones ahead, has all that lie ahead -/
theorem TabG.closed (g : TabG ops ev tab) {D : Nat → Prop} (hD : ∀ i o, ops.toList[i]? = some o → D i → ∀ p ∈ preds o, D p) : ∀ (i : Nat) (o : Oper), ops.toList[i]? = some o → (∀ p ∈ preds o, D p) → ∀ j, BV.has (tab.getD i []) j = true → D j := by
  intro i
  induction i using Nat.strongRecOn with
  | _ i ih =>
    intro o ho hi j hj
    obtain ⟨p, hp, h⟩ := (g.tb.spec i o ho j).1 hj
    have hpi := g.lt i o ho p hp
    rcases h with rfl | ⟨_, h⟩
    · exact hi _ hp
    · have hlen := (List.getElem?_eq_some_iff.1 ho).1
      have hp' : ops.toList[p]? = some ops.toList[p] := List.getElem?_eq_getElem (by omega)
      exact ih p hpi _ hp' (hD p _ hp' (hi p hp)) j h
theorem rowOk_ok : ∀ (rest pre : List (Nat × Oper)) (es : List Nat), numbered 0 ops.toList = pre ++ rest → rowOk ev tab rest es = true → (∀ q ∈ pre, ev.has q.1 = true → q.1 ∈ es) →
    (∀ q ∈ rest, ∀ p ∈ preds q.2, p < q.1) ∧ (∀ a ∈ pre ++ rest, ∀ b ∈ rest, ev.has a.1 = true → ev.has b.1 = true → a.1 < b.1 → BV.has (tab.getD b.1 []) a.1 = true)
  | [], pre, es, hn, h, hp => by simp
  | (i, o) :: r, pre, es, hn, h, hp => by
    simp only [rowOk, Bool.and_eq_true] at h
    obtain ⟨h1, h2⟩ := h
    have hn' : numbered 0 ops.toList = (pre ++ [(i, o)]) ++ r := by rw [hn]; simp
    obtain ⟨s1, s2⟩ := numbered_sorted _ _ _ _ _ _ hn
    have key : ∃ es', rowOk ev tab r es' = true ∧ (∀ q ∈ pre ++ [(i, o)], ev.has q.1 = true → q.1 ∈ es') ∧ (ev.has i = true → ∀ q ∈ pre, ev.has q.1 = true → BV.has (tab.getD i []) q.1 = true) := by
      split at h2
      · rename_i he
        simp only [Bool.and_eq_true] at h2
        refine ⟨i :: es, h2.2, fun q hq heq => ?_, fun _ q hq heq => List.all_eq_true.1 h2.1 _ (hp q hq heq)⟩
        rcases List.mem_append.1 hq with hq | hq
        · exact List.mem_cons_of_mem _ (hp q hq heq)
        · simp at hq; subst hq; simp
      · rename_i he
        refine ⟨es, h2, fun q hq heq => ?_, fun h => absurd h he⟩
        rcases List.mem_append.1 hq with hq | hq
        · exact hp q hq heq
        · simp at hq; subst hq; exact absurd heq he
    obtain ⟨es', k1, k2, k3⟩ := key
    obtain ⟨m1, m2⟩ := rowOk_ok r (pre ++ [(i, o)]) es' hn' k1 k2
    refine ⟨fun q hq => ?_, fun a ha b hb ea eb hab => ?_⟩
    · rcases List.mem_cons.1 hq with rfl | hq
      · intro p hp'; simpa using List.all_eq_true.1 h1 p hp'
      · exact m1 q hq
    · rcases List.mem_cons.1 hb with rfl | hb
      · rcases List.mem_append.1 ha with ha | ha
        · exact k3 eb a ha ea
        · rcases List.mem_cons.1 ha with rfl | ha
          · simp only at hab; omega
          · have := s2 a ha; simp only at hab; omega
      · exact m2 a (by simpa using ha) b hb ea eb hab
theorem tabG_of (h : rowOk ev (ancTab ops.toList []) (numbered 0 ops.toList) [] = true) : TabG ops ev (ancTab ops.toList []) := by
  obtain ⟨h1, h2⟩ := rowOk_ok (ops := ops) (numbered 0 ops.toList) [] [] rfl h (by simp)
  refine ⟨by simpa using ancTab_ok ops.toList [] [] rfl (by simp), fun i o ho p hp => ?_, fun i j oi oj hi hj ei ej hij => ?_⟩
  · exact h1 (i, o) (mem_num0.2 ho) p hp
  · exact h2 (i, oi) (by simpa using mem_num0.2 hi) (j, oj) (mem_num0.2 hj) ei ej hij
/-- the events of a closed set are the first ones -/
theorem count_first {l : List Nat} {p : Nat → Bool} (h : ∀ (a b x y : Nat), a < b → l[a]? = some x → l[b]? = some y → p y = true → p x = true) : ∀ (r x : Nat), l[r]? = some x → (p x = true ↔ r < l.countP p) := by
  induction l with
  | nil => intro r x hr; simp at hr
  | cons z l ih =>
    intro r x hr
    have ih' := ih (fun a b x y hab hx hy hp => h (a + 1) (b + 1) x y (by omega) (by simpa using hx) (by simpa using hy) hp)
    cases hz : p z with
    | true =>
      rw [List.countP_cons_of_pos hz]
      cases r with
      | zero => simp at hr; subst hr; simp [hz]
      | succ r => rw [ih' r x (by simpa using hr)]; omega
    | false =>
      have hall : ∀ y ∈ l, p y = false := by
        intro y hy
        obtain ⟨i, hi⟩ := List.getElem?_of_mem hy
        cases hpy : p y with
        | false => rfl
        | true => have := h 0 (i + 1) z y (by omega) rfl (by simpa using hi) hpy; rw [hz] at this; cases this
      have hc : (z :: l).countP p = 0 := by
        rw [List.countP_cons_of_neg (by simp [hz]), List.countP_eq_zero]
        intro y hy; simp [hall y hy]
      rw [hc]
      cases r with
      | zero => simp at hr; subst hr; simp [hz]
      | succ r => simp at hr; simp [hall x (List.mem_of_getElem? hr)]
def evs (ops : Array Oper) (ev : BV) : List Nat := evL ev (numbered 0 ops.toList)
theorem evs_get {r e : Nat} (h : (evs ops ev)[r]? = some e) : ∃ o, ops.toList[e]? = some o ∧ ev.has e = true := by
  obtain ⟨o, h1, h2⟩ := mem_evL.1 (List.mem_of_getElem? h)
  exact ⟨o, mem_num0.1 h1, h2⟩
theorem evs_lt : ∀ (l : List (Nat × Oper)), (∀ pre i o rest, l = pre ++ (i, o) :: rest → ∀ q ∈ rest, i < q.1) → ∀ (a b x y : Nat), a < b → (evL ev l)[a]? = some x → (evL ev l)[b]? = some y → x < y
  | [], _, a, b, x, y, hab, hx, hy => by simp [evL] at hx
  | (i, o) :: l, h, a, b, x, y, hab, hx, hy => by
    have h' := evs_lt l (fun pre i' o' rest hl => h ((i, o) :: pre) i' o' rest (by simp [hl]))
    simp only [evL] at hx hy
    split at hx
    · rename_i he
      rw [if_pos he] at hy
      cases a with
      | zero =>
        simp at hx; subst hx
        obtain ⟨b, rfl⟩ : ∃ c, b = c + 1 := ⟨b - 1, by omega⟩
        simp at hy
        obtain ⟨o', h1, _⟩ := mem_evL.1 (List.mem_of_getElem? hy)
        exact h [] i o l rfl _ h1
      | succ a =>
        obtain ⟨b, rfl⟩ : ∃ c, b = c + 1 := ⟨b - 1, by omega⟩
        simp at hx hy
        exact h' a b x y (by omega) hx hy
    · rename_i he
      rw [if_neg he] at hy
      exact h' a b x y hab hx hy
theorem evs_sorted {a b x y : Nat} (hab : a < b) (hx : (evs ops ev)[a]? = some x) (hy : (evs ops ev)[b]? = some y) : x < y :=
  evs_lt _ (fun pre i o rest hl => (numbered_sorted _ _ _ _ _ _ hl).2) a b x y hab hx hy
theorem TabG.rank (g : TabG ops ev tab) {r e : Nat} (h : (evs ops ev)[r]? = some e) : cntE ev (tab.getD e []) (numbered 0 ops.toList) = r := by
  rw [cntE_eq]
  obtain ⟨o, ho, he⟩ := evs_get h
  have hf := count_first (l := evs ops ev) (p := (BV.has (tab.getD e []) ·)) (fun a b x y hab hx hy hp => by
    obtain ⟨ox, h1, h2⟩ := evs_get hx
    obtain ⟨oy, h3, h4⟩ := evs_get hy
    exact g.trans e o ho y x hp (g.ev x y ox oy h1 h3 h2 h4 (evs_sorted hab hx hy)))
  have h1 : ¬ r < (evs ops ev).countP (BV.has (tab.getD e []) ·) := by
    rw [← hf r e h]
    intro hh
    have := g.anc_lt e o ho e hh
    omega
  have h2 : ∀ s, s < r → s < (evs ops ev).countP (BV.has (tab.getD e []) ·) := by
    intro s hs
    have hlen := (List.getElem?_eq_some_iff.1 h).1
    have hx : (evs ops ev)[s]? = some (evs ops ev)[s] := List.getElem?_eq_getElem (by omega)
    rw [← hf s _ hx]
    obtain ⟨ox, h1, h2⟩ := evs_get hx
    exact g.ev _ _ ox o h1 ho h2 he (evs_sorted hs hx h)
  show (evs ops ev).countP _ = r
  rcases Nat.lt_trichotomy ((evs ops ev).countP (BV.has (tab.getD e []) ·)) r with h3 | h3 | h3
  · exact absurd (h2 _ h3) (by omega)
  · exact h3
  · exact absurd h3 h1
end
end Go.Proofs.YtaklapcbbdcdpaaDoor.X
