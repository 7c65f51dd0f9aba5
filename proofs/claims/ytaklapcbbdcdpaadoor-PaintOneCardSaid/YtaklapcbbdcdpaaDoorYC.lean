import Derived.Test.YtaklapcbbdcdpaaDoorYB
namespace Go.Proofs.YtaklapcbbdcdpaaDoor.X
open Go Go.RowKit
set_option linter.unusedVariables false
set_option linter.unusedSimpArgs false
/-! A function, from its call to its answer -/
def resOne (tmps : Array Value) : ResultVar → Sem Value
  | .tmp t => pure (tmps.getD t undef)
  | .cell a t => do loadVar t (← asAddr (tmps.getD a undef))
theorem results_eq {P : Program} (fn : Func) (tmps : Array Value) (w : World) {vs : List Value} (h : (fn.results.toList.mapM (resOne tmps)).run P w = .ok vs w) : (results fn tmps).run P w = .ok (if vs.length = 1 then vs.headD undef else .tuple vs.toArray) w := by
  have e : (fn.results.mapM (resOne tmps)).run P w = .ok vs.toArray w := by
    rw [Array.mapM_eq_mapM_toList]
    simp [h]
  have e2 : results fn tmps = (do let vs ← fn.results.mapM (resOne tmps); pure (if h : vs.size = 1 then vs[0] else .tuple vs)) := by
    unfold results
    congr 1
  rw [e2, Sem.run_bind, e]
  simp only [Result.andThen_ok]
  match vs with
  | [] => simp
  | [v] => simp
  | a :: b :: l => simp
theorem resTS_ok {P : Program} {ti : TI} (hT : TIok P ti) {Z : Nat → Prop} {H : Heap} {ρ : Rho} {w : World} {ts : TS} {a : Act} (hR : Rel Z H ρ w) (ht : TRel Z H ρ w ts a) : ∀ (l : List ResultVar) (i : Nat) (rs : TS), resTS ti ts H i l = some rs →
    ∃ vs : List Value, (l.mapM (resOne a.tmps)).run P w = .ok vs w ∧ vs.length = l.length ∧ ∀ t, VA Z H ρ w (rs.get t) (if i ≤ t then vs.getD (t - i) undef else undef)
  | [], i, rs, h => by
    simp only [resTS, Option.some.injEq] at h; subst h
    exact ⟨[], by simp, rfl, fun t => trivial⟩
  | .tmp x :: l, i, rs, h => by
    simp only [resTS] at h
    split at h
    case h_2 => cases h
    rename_i q hq
    simp only [Option.some.injEq] at h; subst h
    obtain ⟨vs, h1, h2, h3⟩ := resTS_ok hT hR ht l (i + 1) q hq
    refine ⟨a.tmps.getD x undef :: vs, by simp [List.mapM_cons, resOne, h1], by simp [h2], fun t => ?_⟩
    rw [get_put]
    split
    · rename_i e; subst e
      rw [if_pos (Nat.le_refl _), Nat.sub_self]
      exact ht x
    · rename_i e
      have := h3 t
      by_cases hle : i ≤ t
      · rw [if_pos hle]
        have hlt : i + 1 ≤ t := Nat.lt_of_le_of_ne hle e
        rw [if_pos hlt] at this
        rw [show t - i = (t - (i + 1)) + 1 by omega]
        exact this
      · rw [if_neg hle]; rw [if_neg (by omega)] at this; exact this
  | .cell x ty :: l, i, rs, h => by
    simp only [resTS] at h
    split at h
    case h_2 => cases h
    rename_i c tr hx hty
    split at h
    case h_2 => cases h
    rename_i cs hcs
    split at h
    case h_2 => cases h
    rename_i v q hm hq
    simp only [Option.some.injEq] at h; subst h
    have hxv := ht x
    rw [hx] at hxv
    obtain ⟨ad, us, hv, hl, hn, _, hL⟩ := cellsAt_ok hR hcs hxv
    obtain ⟨vs, h1, h2, h3⟩ := resTS_ok hT hR ht l (i + 1) q hq
    have hrun := loadVar_run (X := (⟨ti, [], 0, 0⟩ : Ctx P)) hT hty hl hn
    refine ⟨_ :: vs, by simp only [List.mapM_cons, resOne, Sem.run_bind, hv, asAddr, Sem.run_pure, Result.andThen_ok, hrun, h1]; rfl, by simp [h2], fun t => ?_⟩
    rw [get_put]
    split
    · rename_i e; subst e
      rw [if_pos (Nat.le_refl _), Nat.sub_self]
      exact V2_mk2 hm hL
    · rename_i e
      have := h3 t
      by_cases hle : i ≤ t
      · rw [if_pos hle]
        have hlt : i + 1 ≤ t := Nat.lt_of_le_of_ne hle e
        rw [if_pos hlt] at this
        rw [show t - i = (t - (i + 1)) + 1 by omega]
        exact this
      · rw [if_neg hle]; rw [if_neg (by omega)] at this; exact this
theorem avs_lt (n : Nat) : ∀ (s : Sh) (x : s.T), ∀ c ∈ s.avs x, C1.lt n c
  | .unit, x, c, h => by simp [Sh.avs] at h
  | .int k, x, c, h => by simp [Sh.avs] at h; subst h; trivial
  | .bool, x, c, h => by simp [Sh.avs] at h; subst h; trivial
  | .str, x, c, h => by simp [Sh.avs] at h; subst h; trivial
  | .sl s, x, c, h => by simp [Sh.avs] at h; subst h; trivial
  | .rs r, x, c, h => by simp [Sh.avs] at h; subst h; trivial
  | .pair a b, x, c, h => by
    simp only [Sh.avs, List.mem_append] at h
    rcases h with h | h
    · exact avs_lt n a _ c h
    · exact avs_lt n b _ c h
theorem VL_low {ro : Nat} : ∀ (vs : List VS) (x : VL.T vs), vs.all (VS.low ro) = true → ∀ c ∈ VL.enc vs x, C1.lt ro c
  | [], x, _, c, hc => by simp [VL.enc] at hc
  | v :: vs, x, h, c, hc => by
    simp only [List.all_cons, Bool.and_eq_true] at h
    simp only [VL.enc, List.mem_append] at hc
    rcases hc with hc | hc
    · cases v with
      | deep s => exact avs_lt ro s _ c hc
      | ptr j =>
        simp [VS.enc] at hc; subst hc
        have : j < ro := by simpa [VS.low] using h.1
        exact this
      | own j s =>
        simp [VS.enc] at hc; subst hc
        have : j < ro := by simpa [VS.low] using h.1
        exact this
      | part j s =>
        simp [VS.enc] at hc; subst hc
        have : j < ro := by simpa [VS.low] using h.1
        exact this
      | fn f js =>
        simp [VS.enc] at hc; subst hc
        intro c' hc'
        simp only [List.mem_map] at hc'
        obtain ⟨j, hj, rfl⟩ := hc'
        have := List.all_eq_true.1 (show js.all (fun j => decide (j < ro)) = true from h.1) j hj
        have h3 : j < ro := by simpa using this
        exact h3
      | ep j z =>
        simp [VS.enc] at hc; subst hc
        have : j < ro := by simpa [VS.low] using h.1
        exact this
      | nil => simp [VS.enc] at hc; subst hc; trivial
      | fni f k => simp [VS.enc] at hc; subst hc; intro c' hc'; simp at hc'; subst hc'; trivial
      | num k n => simp [VS.enc] at hc; subst hc; trivial
    · exact VL_low vs x.2 h.2 c hc
theorem OL_low {ro : Nat} : ∀ (os : List OS) (y : OL.T os) (m : Nat), (os.take m).all (OS.low ro) = true → ∀ l, l < m → ∀ c ∈ ((OL.enc os y).at l).cs, C1.lt ro c
  | [], y, m, h, l, hl, c, hc => by simp [OL.enc, Heap.at, AO.cs] at hc
  | o :: os, y, 0, h, l, hl, c, hc => by omega
  | o :: os, y, m + 1, h, l, hl, c, hc => by
    simp only [List.take_succ_cons, List.all_cons, Bool.and_eq_true] at h
    cases l with
    | zero =>
      simp [OL.enc, Heap.at] at hc
      cases o with
      | gone => simp [OS.enc, AO.cs] at hc
      | row e s => simp [OS.enc, AO.cs] at hc
      | nest e es s => simp [OS.enc, AO.cs] at hc
      | cells e' vs => exact VL_low vs _ h.1 c hc
    | succ l =>
      have : c ∈ ((OL.enc os y.2).at l).cs := by simpa [OL.enc, Heap.at] using hc
      exact OL_low os y.2 m h.2 l (by omega) c this
theorem RL_get_none : ∀ {rs : List Root} {x : RL.T rs} {t : Nat}, (∀ r ∈ rs, r.t ≠ t) → (RL.enc rs x).get t = .one .any
  | [], x, t, h => rfl
  | r :: rs, x, t, h => by
    simp only [RL.enc, get_put]
    rw [if_neg (h r (by simp))]
    exact RL_get_none fun r hr => h r (by simp [hr])
/-- what a function's run says of its call -/
theorem runFn_ok {P : Program} {ti : TI} {tb : List (Entry P)} (hT : TIok P ti) (hE : ∀ e ∈ tb, EOk P e) (hN : ∀ e ∈ tb, ENat e) (hM : P.follows .mixedOrders = true) {F : Fm} {fn : Func} {n k : Nat} (hfn : P.funcs[n]? = some fn) {g : F.pre.T} {q : F.post.T} (h : runFn P ti tb F fn k g = some q)
    {Z : Nat → Prop} {ρ : Rho} {w : World} {args : Array Value} (hR : Rel Z (OL.enc F.pre.objs g.2) ρ w) (hts : ∀ t, VA Z (OL.enc F.pre.objs g.2) ρ w ((RL.enc F.pre.roots g.1).get t) (args.getD t undef)) (hsz : args.size = F.pre.roots.length) :
    Calls P n args w (fun e w' => ∃ vs : List Value, e = .returned (if vs.length = 1 then vs.headD undef else .tuple vs.toArray) ∧ vs.length = F.post.roots.length ∧ F.post.roots.map (·.t) = List.range F.post.roots.length ∧ ∃ ρs,
      Since (OL.enc F.pre.objs g.2) ρ w F.pre.objs.length ((OL.enc F.pre.objs g.2).take F.ro ++ OL.enc F.post.objs q.2) ρs w' ∧ Rel Z ((OL.enc F.pre.objs g.2).take F.ro ++ OL.enc F.post.objs q.2) ρs w' ∧
      (∀ l, l < F.ro → ((OL.enc F.pre.objs g.2).at l).isLive = true → ρs l = ρ l ∧ ∀ p k, ρ l = some p → p.foot k → w'.heap[k]? = w.heap[k]?) ∧ ∀ t, VA Z ((OL.enc F.pre.objs g.2).take F.ro ++ OL.enc F.post.objs q.2) ρs w' ((RL.enc F.post.roots q.1).get t) (vs.getD t undef)) := by
  unfold runFn at h
  split at h
  case h_2 => cases h
  rename_i c hc
  split at h
  case isFalse => cases h
  rename_i hfit
  simp only [Fm.fits, Bool.and_eq_true, decide_eq_true_eq, beq_iff_eq] at hfit
  obtain ⟨⟨⟨⟨f1, f2⟩, f3⟩, f4⟩, f5⟩ := hfit
  have hol := OL_len F.pre.objs g.2
  refine calls_of_wp hfn hc ?_
  let X : Ctx P := ⟨ti, tb, F.ro, F.pre.objs.length⟩
  let B : Base := ⟨Z, fn.ntmps, (OL.enc F.pre.objs g.2).take F.ro, OL.enc F.pre.objs g.2, ρ, w⟩
  have hRo0 : RoOk F.ro (OL.enc F.pre.objs g.2) := fun l hl c ha => OL_low F.pre.objs g.2 F.ro f2 l hl c ha
  have hRo : RoOk X.ro B.R := fun l hl c ha => hRo0 l hl c (by
    simp only [B, Heap.at, List.getD_eq_getElem?_getD, List.getElem?_take] at ha ⊢
    rwa [if_pos hl] at ha)
  have hI : Inv X B (RL.enc F.pre.roots g.1) (OL.enc F.pre.objs g.2) { tmps := args ++ Array.replicate (fn.ntmps - args.size) undef, defers := [] } w := by
    refine ⟨ρ, hR, fun t => ?_, by simp [B]; omega, rfl, rfl, by simp only [X, hol]; exact f1, ⟨rfl, rfl, rfl, Nat.le_refl _, fun _ _ _ => rfl, fun _ h => .inl h, fun _ _ => rfl, by simp only [X, hol]; exact Nat.le_refl _, fun _ _ _ h => h⟩, fun _ _ _ => ⟨rfl, fun _ _ _ _ => rfl⟩⟩
    have h0 := hts t
    rcases Nat.lt_or_ge t args.size with h1 | h1
    · have : (args ++ Array.replicate (fn.ntmps - args.size) undef).getD t undef = args.getD t undef := by
        simp [Array.getD_eq_getD_getElem?, Array.getElem?_append_left h1]
      rw [this]; exact h0
    · rw [RL_get_none fun r hr => ?_]
      · trivial
      · have : r.t ∈ F.pre.roots.map (·.t) := List.mem_map_of_mem hr
        rw [f4, List.mem_range] at this
        intro e; rw [e] at this; rw [hsz] at h1; exact absurd this (Nat.not_lt.2 h1)
  refine exec_ok (X := X) (B := B) hT hE hN hM f1 hRo k c F.an F.post.T _ _ _ q _ _ _ h hI fun e ts' H' a' w' he hI' => ?_
  have fin : (match resTS ti ts' (tidyH F.ro F.pre.objs.length F.post.objs H') 0 fn.results.toList with
        | some rs => (match F.post.dec F.ro F.pre.objs.length rs (tidyH F.ro F.pre.objs.length F.post.objs H') with
          | some (q, _, _) => some q
          | none => none)
        | none => none) = some q → bodyPost P fn (fun e w' => ∃ vs : List Value, e = .returned (if vs.length = 1 then vs.headD undef else .tuple vs.toArray) ∧ vs.length = F.post.roots.length ∧ F.post.roots.map (·.t) = List.range F.post.roots.length ∧ ∃ ρs,
      Since (OL.enc F.pre.objs g.2) ρ w F.pre.objs.length ((OL.enc F.pre.objs g.2).take F.ro ++ OL.enc F.post.objs q.2) ρs w' ∧ Rel Z ((OL.enc F.pre.objs g.2).take F.ro ++ OL.enc F.post.objs q.2) ρs w' ∧
      (∀ l, l < F.ro → ((OL.enc F.pre.objs g.2).at l).isLive = true → ρs l = ρ l ∧ ∀ p k, ρ l = some p → p.foot k → w'.heap[k]? = w.heap[k]?) ∧ ∀ t, VA Z ((OL.enc F.pre.objs g.2).take F.ro ++ OL.enc F.post.objs q.2) ρs w' ((RL.enc F.post.roots q.1).get t) (vs.getD t undef)) .ret a' w' := by
    have hI' : Inv X B ts' (tidyH F.ro F.pre.objs.length F.post.objs H') a' w' := hI'.tidy
    generalize tidyH F.ro F.pre.objs.length F.post.objs H' = H' at hI' ⊢
    intro he
    split at he
    case h_2 => cases he
    rename_i rs hrs
    split at he
    case h_2 => cases he
    rename_i q' Hf Bf hd
    simp only [Option.some.injEq] at he
    subst he
    obtain ⟨ρ', hI'⟩ := hI'
    obtain ⟨vs, v1, v2, v3⟩ := resTS_ok hT hI'.rel hI'.ts _ 0 rs hrs
    have hRo' : RoOk F.ro H' := fun l hl c ha => hRo l hl c (by
      rw [← hI'.ro]
      simp only [Heap.at, List.getD_eq_getElem?_getD, List.getElem?_take] at ha ⊢
      rwa [if_pos hl])
    obtain ⟨ρf, ρs, k1, k2, k3, k4, k5, k6, k7, k8, k9, k10, k11⟩ := Sig_dec_ok (val := fun t => vs.getD t undef) hd f1 hI'.rel (fun t => by simpa using v3 t) hI'.rolen hRo'
    obtain ⟨m1, m2⟩ := k11 Z (fun k hk => hk.2.2) (fun k hk => ⟨hI'.rel.zlt k hk, fun ho => k1.dis k hk (k10 k ho)⟩)
    have hro : H'.take F.ro = (OL.enc F.pre.objs g.2).take F.ro := hI'.ro
    rw [hro] at m1 m2 k10
    have hrl : fn.results.size = F.post.roots.length := by
      have := congrArg List.length f3
      simpa using this.symm
    refine ⟨hI'.defers, _, results_eq fn a'.tmps w' v1, vs, rfl, by rw [v2, Array.length_toList, hrl], by rw [f3, hrl], ρs, ?_, m1, fun l hl hv => ?_, m2⟩
    · have s := hI'.since
      refine ⟨s.os, s.tape, s.output, s.size, s.keep, fun k hk => ?_, fun l hl => ?_, by simp [OL_len]; omega, fun l hl d hr => ?_⟩
      · exact (k2.ext (w := w').own k (k10 k hk)).elim (s.own k) fun h => .inr (Nat.le_trans s.size h)
      · refine Eq.trans ?_ (s.rho l hl)
        rcases Nat.lt_or_ge l F.ro with h | h
        · exact cor_of (k3 l h)
        · exact cor_of ((k4 l l (k6 l h hl)).trans (k2.old l (Nat.lt_of_lt_of_le hl s.len)).1)
      · refine s.row l hl d ?_
        have hlen : ((OL.enc F.pre.objs g.2).take F.ro).length = F.ro := by rw [List.length_take, hol]; omega
        rcases Nat.lt_or_ge l F.ro with h | h
        · rw [at_append_lt (by omega), ← hro] at hr
          simp only [Heap.at, List.getD_eq_getElem?_getD, List.getElem?_take, h, if_true] at hr ⊢
          exact hr
        · obtain ⟨o, hi, hod⟩ : ∃ o, (OL.enc F.post.objs q'.2)[l - F.ro]? = some o ∧ o.dim = some d := by
            simp only [Heap.at, List.getD_eq_getElem?_getD] at hr
            rw [List.getElem?_append_right (by omega), hlen] at hr
            cases ho : (OL.enc F.post.objs q'.2)[l - F.ro]? with
            | none => rw [ho] at hr; cases hr
            | some o => rw [ho] at hr; exact ⟨o, rfl, hr⟩
          obtain ⟨l', j1, j2, j3, _⟩ := k9 _ _ hi (dim_live hod)
          rw [show F.ro + (l - F.ro) = l by omega, k6 l h hl] at j1
          simp only [Option.some.injEq] at j1
          subst j1
          rw [← k2.live (Nat.lt_of_lt_of_le hl s.len) j2]
          rw [j3 (by rw [hod]; rfl)]; exact hod
    · have hH : (H'.at l).isLive = true := by
        have : H'.at l = (OL.enc F.pre.objs g.2).at l := by
          have e1 : H'.at l = Heap.at (H'.take F.ro) l := by simp [Heap.at, List.getD_eq_getElem?_getD, List.getElem?_take, hl]
          have e2 : (OL.enc F.pre.objs g.2).at l = Heap.at ((OL.enc F.pre.objs g.2).take F.ro) l := by simp [Heap.at, List.getD_eq_getElem?_getD, List.getElem?_take, hl]
          rw [e1, e2, hro]
        rw [this]; exact hv
      obtain ⟨q1, q2⟩ := hI'.rok l hl hH
      exact ⟨(k3 l hl).trans q1, fun p k hp hf => q2 p k (q1.trans hp) hf⟩
  cases e with
  | exit i => cases he
  | normal => exact fin he
  | ret => exact fin he
end Go.Proofs.YtaklapcbbdcdpaaDoor.X
