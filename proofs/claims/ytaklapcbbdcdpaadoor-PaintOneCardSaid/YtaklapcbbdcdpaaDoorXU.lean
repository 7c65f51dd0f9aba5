import Derived.Test.YtaklapcbbdcdpaaDoorXS
namespace Go.Proofs.YtaklapcbbdcdpaaDoor.X
open Go Go.RowKit
set_option linter.unusedVariables false
set_option linter.unusedSimpArgs false
theorem recTS_app (v : BV) : ∀ (l m : List Rec), recTS v (l ++ m) = recTS v l ++ recTS v m
  | [], m => rfl
  | q :: l, m => by
    simp only [List.cons_append, recTS, recTS_app v l m]
    cases q.d with
    | none => rfl
    | some d => simp only; split <;> simp
theorem recTS_none (v : BV) : ∀ (l : List Rec), (∀ q ∈ l, v.has q.i = false) → recTS v l = []
  | [], _ => rfl
  | q :: l, h => by
    simp only [recTS, h q (by simp), recTS_none v l (fun q hq => h q (by simp [hq]))]
    cases q.d <;> rfl
section
variable {P : Program} {X : Ctx P} {ops : Array Oper} {ev : BV} {tab : List BV} {N : Nat} {ds : List Tmp} {ts : TS} {n0 : Nat}
def Fact (X : Ctx P) (ops : Array Oper) (ev : BV) (tab : List BV) (N : Nat) (ds : List Tmp) (ts : TS) (n0 : Nat) (recsF : List Rec) (FH : List Heap) (i : Nat) (o : Oper) : Prop :=
  ∃ v v0 U Ns, (⟨i, o.dst, v⟩ : Rec) ∈ recsF ∧ dstOk o N = true ∧
    gEval X ops (recTS (tab.getD i []) recsF ++ (anyTS (maskB tab i (numbered 0 ops.toList)) ++ ts)) (FH.getD (cntE ev (tab.getD i []) (numbered 0 ops.toList)) []) o K0 = some (v0, U, Ns) ∧
    (ev.has i = true → v = v0 ∧ FH.getD (cntE ev (tab.getD i []) (numbered 0 ops.toList) + 1) [] = Heap.upd (FH.getD (cntE ev (tab.getD i []) (numbered 0 ops.toList)) []) U ++ Ns ∧ (U = [] ∨ alone tab ops.size i = true ∨ (cellU (FH.getD (cntE ev (tab.getD i []) (numbered 0 ops.toList)) []) n0 U = true ∧
      ∀ j oj, ops.toList[j]? = some oj → j = i ∨ BV.has (tab.getD i []) j = true ∨ BV.has (tab.getD j []) i = true ∨ softOp (recTS (tab.getD j []) recsF ++ (anyTS (maskB tab j (numbered 0 ops.toList)) ++ ts)) (U.map (·.1)) oj = true) ∨
      (rowU U = true ∧ ∀ j oj, ops.toList[j]? = some oj → j = i ∨ BV.has (tab.getD i []) j = true ∨ BV.has (tab.getD j []) i = true ∨ pureOp oj = true) ∨
      ((rowT (FH.getD (cntE ev (tab.getD i []) (numbered 0 ops.toList)) []) U = true ∧ lenB (FH.getD (cntE ev (tab.getD i []) (numbered 0 ops.toList)) []) U = true) ∧ ∀ j oj, ops.toList[j]? = some oj → j = i ∨ BV.has (tab.getD i []) j = true ∨ BV.has (tab.getD j []) i = true ∨ lenOp oj = true))) ∧
    (ev.has i = false → quieten (isEvent o.op) (FH.getD (cntE ev (tab.getD i []) (numbered 0 ops.toList)) []).length v0 U Ns = some v)
theorem drawRun_facts (g : TabG ops ev tab) (hN : ∀ e ∈ X.tb, ENat e) {β : Type} {K : TS → Heap → Option β} {r : β} : ∀ (rest pre : List (Nat × Oper)) (recs : List Rec) (Hs : List Heap) (H : Heap), numbered 0 ops.toList = pre ++ rest →
    Hs.length = (evL ev pre).length → drawRun X ops N ev tab ts n0 rest recs Hs H K = some r →
    ∃ more FM HF, K (allTS (recs ++ more) ++ ts) HF = some r ∧ (∀ q ∈ rest, Fact X ops ev tab N ds ts n0 (recs ++ more) (Hs ++ H :: FM) q.1 q.2) ∧ more.map (·.i) = rest.map (·.1) ∧ more.map (·.d) = rest.map (·.2.dst) ∧
      (Hs ++ H :: FM).length = (evs ops ev).length + 1 ∧ (Hs ++ H :: FM).getD (evs ops ev).length [] = HF
  | [], pre, recs, Hs, H, hn, hl, h => by
    have he : (evs ops ev).length = Hs.length := by unfold evs; rw [hn, List.append_nil, hl]
    refine ⟨[], [], H, by simpa [drawRun] using h, by simp, rfl, rfl, by simp [he], ?_⟩
    rw [he]; simp [List.getD_eq_getElem?_getD]
  | (i, o) :: rr, pre, recs, Hs, H, hn, hl, h => by
    have hn' : numbered 0 ops.toList = (pre ++ [(i, o)]) ++ rr := by rw [hn]; simp
    have ho : ops.toList[i]? = some o := mem_num0.1 (by rw [hn]; simp)
    obtain ⟨s1, s2⟩ := numbered_sorted _ _ _ _ _ _ hn
    have hlaterJ : ∀ (j : Nat) (oj : Oper), ops.toList[j]? = some oj → j ≤ i → ∀ (v : AV) (more : List Rec), more.map (·.i) = rr.map (·.1) → recTS (tab.getD j []) (recs ++ [⟨i, o.dst, v⟩] ++ more) = recTS (tab.getD j []) recs := by
      intro j oj hoj hji v more hm
      rw [List.append_assoc, recTS_app, recTS_none (tab.getD j []) ([(⟨i, o.dst, v⟩ : Rec)] ++ more), List.append_nil]
      intro q hq
      cases hh : BV.has (tab.getD j []) q.i with
      | false => rfl
      | true =>
        have hlt := g.anc_lt j oj hoj _ hh
        rcases List.mem_append.1 hq with hq | hq
        · simp at hq; subst hq; simp only at hlt; omega
        · have : q.i ∈ rr.map (·.1) := by rw [← hm]; exact List.mem_map_of_mem hq
          obtain ⟨z, hz, hz2⟩ := List.mem_map.1 this
          have := s2 z hz; omega
    have hlater : ∀ (v : AV) (more : List Rec), more.map (·.i) = rr.map (·.1) → recTS (tab.getD i []) (recs ++ [⟨i, o.dst, v⟩] ++ more) = recTS (tab.getD i []) recs := hlaterJ i o ho (Nat.le_refl i)
    simp only [drawRun, splitB_eq] at h
    split at h
    case isFalse => cases h
    rename_i hd
    split at h
    · rename_i he
      rw [gEval_nat hN] at h
      obtain ⟨⟨v, U, Ns⟩, h1, h2⟩ := Option.bind_eq_some_iff.1 h
      simp only [go] at h2
      obtain ⟨hU, h2⟩ : ((U.isEmpty || alone tab ops.size i || (cellU H n0 U && softAll ops tab ts recs i (U.map (·.1))) || (rowU U && pureAll ops tab i)) = true ∨ ((rowT H U && lenAll ops tab i) = true ∧ lenB H U = true)) ∧ drawRun X ops N ev tab ts n0 rr (recs ++ [⟨i, o.dst, v⟩]) (Hs ++ [H]) (H.upd U ++ Ns) K = some r := by
        split at h2
        · rename_i hU; exact ⟨.inl hU, h2⟩
        · split at h2
          · rename_i hU
            obtain ⟨hb, hk⟩ := iff'_ok h2
            exact ⟨.inr ⟨hU, hb⟩, hk⟩
          · cases h2
      obtain ⟨more, FM, HF, k1, k2, k3, k4, k5, k6⟩ := drawRun_facts g hN rr (pre ++ [(i, o)]) _ _ _ hn' (by rw [evL_append]; simp [evL, he, hl]) h2
      have hrank : cntE ev (tab.getD i []) (numbered 0 ops.toList) = Hs.length := by
        refine g.rank ?_
        unfold evs
        rw [hn, evL_append, hl, List.getElem?_append_right (Nat.le_refl _)]
        simp [evL, he]
      refine ⟨⟨i, o.dst, v⟩ :: more, (H.upd U ++ Ns) :: FM, HF, by simpa using k1, fun q hq => ?_, by simp [k3], by simp [k4], by simpa using k5, by simpa using k6⟩
      rcases List.mem_cons.1 hq with rfl | hq
      · refine ⟨v, v, U, Ns, by simp, hd, ?_, fun _ => ⟨rfl, ?_⟩, fun h => by rw [he] at h; cases h⟩
        · have e1 := hlater v more k3
          simp only [List.append_assoc, List.singleton_append] at e1
          rw [e1, hrank]
          have : (Hs ++ H :: (H.upd U ++ Ns) :: FM).getD Hs.length [] = H := by simp [List.getD_eq_getElem?_getD]
          rw [this]; exact h1
        · rw [hrank]
          refine ⟨?_, ?_⟩
          · have a1 : (Hs ++ H :: (H.upd U ++ Ns) :: FM).getD Hs.length [] = H := by simp [List.getD_eq_getElem?_getD]
            have a2 : (Hs ++ H :: (H.upd U ++ Ns) :: FM).getD (Hs.length + 1) [] = H.upd U ++ Ns := by
              simp [List.getD_eq_getElem?_getD, List.getElem?_append_right (Nat.le_succ Hs.length)]
            rw [a1, a2]
          · simp only [Bool.or_eq_true, List.isEmpty_iff, Bool.and_eq_true] at hU
            have a1 : (Hs ++ H :: (H.upd U ++ Ns) :: FM).getD Hs.length [] = H := by simp [List.getD_eq_getElem?_getD]
            rw [a1]
            rcases hU with (((hU | hU) | ⟨hU1, hU2⟩) | ⟨hU1, hU2⟩) | ⟨⟨hU1, hU2⟩, hU3⟩
            · exact .inl hU
            · exact .inr (.inl hU)
            · refine .inr (.inr (.inl ⟨hU1, fun j oj hoj => ?_⟩))
              have := List.all_eq_true.1 hU2 (j, oj) (mem_num0.2 hoj)
              simp only [Bool.or_eq_true, Bool.and_eq_true, beq_iff_eq, decide_eq_true_eq] at this
              rcases this with ((h1 | h1) | h1) | ⟨h1, h2⟩
              · exact .inl h1
              · exact .inr (.inl h1)
              · exact .inr (.inr (.inl h1))
              · have e1 := hlaterJ j oj hoj (Nat.le_of_lt h1) v more k3
                simp only [List.append_assoc, List.singleton_append] at e1
                rw [e1]
                exact .inr (.inr (.inr h2))
            · refine .inr (.inr (.inr (.inl ⟨hU1, fun j oj hoj => ?_⟩)))
              have := List.all_eq_true.1 hU2 (j, oj) (mem_num0.2 hoj)
              simp only [Bool.or_eq_true, beq_iff_eq] at this
              rcases this with ((h1 | h1) | h1) | h1
              · exact .inl h1
              · exact .inr (.inl h1)
              · exact .inr (.inr (.inl h1))
              · exact .inr (.inr (.inr h1))
            · refine .inr (.inr (.inr (.inr ⟨⟨hU1, hU3⟩, fun j oj hoj => ?_⟩)))
              have := List.all_eq_true.1 hU2 (j, oj) (mem_num0.2 hoj)
              simp only [Bool.or_eq_true, beq_iff_eq] at this
              rcases this with ((h1 | h1) | h1) | h1
              · exact .inl h1
              · exact .inr (.inl h1)
              · exact .inr (.inr (.inl h1))
              · exact .inr (.inr (.inr h1))
      · have := k2 q hq
        simpa using this
    · rename_i he
      rw [gEval_nat hN] at h
      obtain ⟨⟨v0, U, Ns⟩, h1, h2⟩ := Option.bind_eq_some_iff.1 h
      simp only [go] at h2
      split at h2
      case h_2 => cases h2
      rename_i v hq0
      obtain ⟨more, FM, HF, k1, k2, k3, k4, k5, k6⟩ := drawRun_facts g hN rr (pre ++ [(i, o)]) _ _ _ hn' (by rw [evL_append]; simp [evL, he, hl]) h2
      have hcnt : cntE ev (tab.getD i []) (numbered 0 ops.toList) ≤ Hs.length := by
        rw [cntE_eq, hn, evL_append, List.countP_append, hl]
        have h0 : (evL ev ((i, o) :: rr)).countP (BV.has (tab.getD i []) ·) = 0 := by
          rw [List.countP_eq_zero]
          intro e hme
          obtain ⟨oe, hm, _⟩ := mem_evL.1 hme
          simp only [Bool.not_eq_true]
          cases hh : BV.has (tab.getD i []) e with
          | false => rfl
          | true =>
            have hlt := g.anc_lt i o ho _ hh
            rcases List.mem_cons.1 hm with hm | hm
            · cases hm; omega
            · have := s2 _ hm; simp only at this; omega
        rw [h0]
        have := List.countP_le_length (p := (BV.has (tab.getD i []) ·)) (l := evL ev pre)
        omega
      refine ⟨⟨i, o.dst, v⟩ :: more, FM, HF, by simpa using k1, fun q hq => ?_, by simp [k3], by simp [k4], k5, k6⟩
      rcases List.mem_cons.1 hq with rfl | hq
      · have e1 := hlater v more k3
        simp only [List.append_assoc, List.singleton_append] at e1
        have : (Hs ++ H :: FM).getD (cntE ev (tab.getD i []) (numbered 0 ops.toList)) [] = (Hs ++ [H]).getD (cntE ev (tab.getD i []) (numbered 0 ops.toList)) [] := by
          have : Hs ++ H :: FM = (Hs ++ [H]) ++ FM := by simp
          rw [this]
          generalize cntE ev (tab.getD i []) (numbered 0 ops.toList) = c at hcnt
          simp only [List.getD_eq_getElem?_getD]
          rw [List.getElem?_append_left (by simp; omega)]
        refine ⟨v, v0, U, Ns, by simp, hd, ?_, fun h => absurd h he, fun _ => ?_⟩
        · rw [e1, this]; exact h1
        · rw [this]; exact hq0
      · have := k2 q hq
        simpa using this
/-- what is written where -/
def look : TS → Nat → Option AV
  | [], _ => none
  | (u, v) :: r, t => if u = t then some v else look r t
theorem get_app : ∀ (x y : TS) (t : Nat), TS.get (x ++ y) t = (look x t).getD (y.get t)
  | [], y, t => rfl
  | (u, v) :: x, y, t => by
    rw [List.cons_append, get_put]
    simp only [look]
    split
    · rfl
    · exact get_app x y t
theorem look_rec {v : BV} : ∀ {l : List Rec} {t : Nat} {x : AV}, look (recTS v l) t = some x → ∃ q ∈ l, v.has q.i = true ∧ q.d = some t ∧ q.v = x
  | [], t, x, h => by simp [recTS, look] at h
  | q :: l, t, x, h => by
    simp only [recTS] at h
    have rec' : look (recTS v l) t = some x → ∃ q' ∈ q :: l, v.has q'.i = true ∧ q'.d = some t ∧ q'.v = x := fun h => by
      obtain ⟨q', h1, h2⟩ := look_rec h; exact ⟨q', by simp [h1], h2⟩
    cases hd : q.d with
    | none => rw [hd] at h; exact rec' h
    | some d =>
      rw [hd] at h
      simp only at h
      split at h
      · rename_i hv
        simp only [look] at h
        split at h
        · rename_i hdt
          simp only [Option.some.injEq] at h
          exact ⟨q, by simp, hv, by rw [hd, hdt], h⟩
        · exact rec' h
      · exact rec' h
theorem look_of {v : BV} : ∀ {l : List Rec} {t : Nat} {q : Rec}, (∀ a ∈ l, ∀ b ∈ l, a.d = some t → b.d = some t → a = b) → q ∈ l → v.has q.i = true → q.d = some t → look (recTS v l) t = some q.v
  | [], t, q, _, hq, _, _ => by simp at hq
  | p :: l, t, q, hu, hq, hv, hd => by
    have hu' : ∀ a ∈ l, ∀ b ∈ l, a.d = some t → b.d = some t → a = b := fun a ha b hb => hu a (by simp [ha]) b (by simp [hb])
    simp only [recTS]
    by_cases hp : p.d = some t
    · have : p = q := hu p (by simp) q hq hp hd
      subst this
      simp [hp, hv, look]
    · have hql : q ∈ l := by
        rcases List.mem_cons.1 hq with rfl | h
        · exact absurd hd hp
        · exact h
      have ih := look_of hu' hql hv hd
      cases hpd : p.d with
      | none => exact ih
      | some d =>
        have hne : ¬ d = t := fun e => hp (by rw [hpd, e])
        simp only
        split
        · simp [look, hne, ih]
        · exact ih
theorem look_none {v : BV} {l : List Rec} {t : Nat} (h : ∀ q ∈ l, v.has q.i = true → q.d ≠ some t) : look (recTS v l) t = none := by
  cases hx : look (recTS v l) t with
  | none => rfl
  | some x => obtain ⟨q, h1, h2, h3, _⟩ := look_rec hx; exact absurd h3 (h q h1 h2)
theorem look_any : ∀ {ds : List Tmp} {t : Nat}, look (anyTS ds) t = if t ∈ ds then some (.one .any) else none
  | [], t => rfl
  | d :: ds, t => by
    simp only [anyTS, look, look_any (ds := ds) (t := t), List.mem_cons]
    by_cases h : d = t
    · subst h; simp
    · have : ¬ t = d := fun e => h e.symm
      simp [h, this]
theorem mem_dsts {t : Tmp} : ∀ {l : List Oper}, t ∈ dstsOf l ↔ ∃ o ∈ l, o.dst = some t
  | [] => by simp [dstsOf]
  | o :: l => by
    simp only [dstsOf]
    cases hd : o.dst with
    | none => simp [mem_dsts (l := l), hd]
    | some d => simp only [List.mem_cons, mem_dsts (l := l), exists_eq_or_imp, hd, Option.some.injEq]; constructor <;> (rintro (rfl | h); exact .inl rfl; exact .inr h)
theorem mem_mask {tab : List BV} {i j : Nat} {o : Oper} {t : Tmp} : ∀ {l : List (Nat × Oper)}, (j, o) ∈ l → o.dst = some t → t ∈ maskB tab i l ∨ (tab.getD j []).has i = true
  | (j', o') :: l, h, hd => by
    rcases List.mem_cons.1 h with h | h
    · cases h
      simp only [maskB, hd]
      split
      · rename_i h1; exact .inr h1
      · left; simp
    · rcases mem_mask (tab := tab) (i := i) h hd with h1 | h1
      · left
        simp only [maskB]
        split
        · split
          · exact h1
          · exact List.mem_cons_of_mem _ h1
        · exact h1
      · exact .inr h1
theorem nodup_uniq : ∀ {l : List Oper} {i j : Nat} {a b : Oper} {t : Tmp}, nodup (dstsOf l) = true → l[i]? = some a → l[j]? = some b → a.dst = some t → b.dst = some t → i = j
  | [], i, j, a, b, t, _, hi, _, _, _ => by simp at hi
  | o :: l, i, j, a, b, t, h, hi, hj, ha, hb => by
    have h' : nodup (dstsOf l) = true := by
      simp only [dstsOf] at h
      split at h
      · simp only [nodup, Bool.and_eq_true] at h; exact h.2
      · exact h
    have hno : o.dst = some t → ¬ t ∈ dstsOf l := fun e => by
      simp only [dstsOf, e, nodup, Bool.and_eq_true, Bool.not_eq_true', List.contains_eq_mem, decide_eq_false_iff_not] at h
      exact h.1
    cases i with
    | zero =>
      simp at hi; subst hi
      cases j with
      | zero => rfl
      | succ j => exact absurd (mem_dsts.2 ⟨b, List.mem_of_getElem? (by simpa using hj), hb⟩) (hno ha)
    | succ i =>
      cases j with
      | zero =>
        simp at hj; subst hj
        exact absurd (mem_dsts.2 ⟨a, List.mem_of_getElem? (by simpa using hi), ha⟩) (hno hb)
      | succ j => exact congrArg (· + 1) (nodup_uniq (i := i) (j := j) h' (by simpa using hi) (by simpa using hj) ha hb)
end
end Go.Proofs.YtaklapcbbdcdpaaDoor.X
