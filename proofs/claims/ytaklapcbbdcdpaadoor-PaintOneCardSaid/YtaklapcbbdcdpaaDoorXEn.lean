import Derived.Test.YtaklapcbbdcdpaaDoorXE
namespace Go.Proofs.YtaklapcbbdcdpaaDoor.X
open Go Go.RowKit
set_option linter.unusedVariables false
set_option linter.unusedSimpArgs false
/-! Elements with slices of their own: laid open, closed -/
section
variable {Z : Nat → Prop} {H : Heap} {ρ : Rho} {w : World} {A : Nat → Prop}
/-- what lies at the new places -/
structure Laid (w : World) (A : Nat → Prop) (os : List AO) (ps : List (Option Pl)) : Prop where
  len : os.length = ps.length
  row : ∀ (m : Nat) o q, os[m]? = some o → ps[m]? = some q → ∃ e s, ∃ ys : List s.T, o = .row e s ys ∧ RowQ w A e s ys q ∧ ∀ p, q = some p → ∀ k, ¬ p.inn k
theorem Laid.nil : Laid w A [] [] := ⟨rfl, fun m o q h => by simp at h⟩
theorem Laid.append {os os' : List AO} {ps ps' : List (Option Pl)} (h : Laid w A os ps) (h' : Laid w A os' ps') : Laid w A (os ++ os') (ps ++ ps') := by
  refine ⟨by simp [h.len, h'.len], fun m o q ho hq => ?_⟩
  rcases Nat.lt_or_ge m os.length with hm | hm
  · rw [List.getElem?_append_left hm] at ho
    rw [List.getElem?_append_left (by rw [← h.len]; exact hm)] at hq
    exact h.row m o q ho hq
  · rw [List.getElem?_append_right hm] at ho
    rw [List.getElem?_append_right (by rw [← h.len]; exact hm), ← h.len] at hq
    exact h'.row _ o q ho hq
def Found (H' : Heap) (ρ' : Rho) (n : Nat) (os : List AO) (ps : List (Option Pl)) : Prop := ∀ (m : Nat) o q, os[m]? = some o → ps[m]? = some q → H'.at (n + m) = o ∧ ρ' (n + m) = q
theorem Found.left {H' : Heap} {ρ' : Rho} {n : Nat} {os os' : List AO} {ps ps' : List (Option Pl)} (h : Found H' ρ' n (os ++ os') (ps ++ ps')) (hl : os.length = ps.length) : Found H' ρ' n os ps := fun m o q ho hq =>
  h m o q (by rw [List.getElem?_append_left (List.getElem?_eq_some_iff.1 ho).1]; exact ho) (by rw [List.getElem?_append_left (List.getElem?_eq_some_iff.1 hq).1]; exact hq)
theorem Found.right {H' : Heap} {ρ' : Rho} {n : Nat} {os os' : List AO} {ps ps' : List (Option Pl)} (h : Found H' ρ' n (os ++ os') (ps ++ ps')) (hl : os.length = ps.length) : Found H' ρ' (n + os.length) os' ps' := fun m o q ho hq => by
  have := h (os.length + m) o q (by rw [List.getElem?_append_right (by omega), Nat.add_sub_cancel_left]; exact ho) (by rw [List.getElem?_append_right (by omega), hl, Nat.add_sub_cancel_left]; exact hq)
  rw [Nat.add_assoc]; exact this
theorem opn_ok {es : List TypeId} {s : Sh} {x : s.T} {us : List Value} {ps : List (Option Pl)} (h : NE w A es s x us ps) : ∀ (n : Nat) (es' : List TypeId),
    (opnC n (es ++ es') s x).2.2 = es' ∧ Laid w A (opnC n (es ++ es') s x).2.1 ps ∧ us.length = s.sz ∧ (opnC n (es ++ es') s x).1.all storable = true ∧
      ∀ (Z' : Nat → Prop) (H' : Heap) (ρ' : Rho), Found H' ρ' n (opnC n (es ++ es') s x).2.1 ps → LR (V1 Z' H' ρ' w) (opnC n (es ++ es') s x).1 us := by
  induction h with
  | unit => intro n es'; exact ⟨rfl, Laid.nil, rfl, rfl, fun _ _ _ _ => trivial⟩
  | int => intro n es'; exact ⟨rfl, Laid.nil, rfl, rfl, fun _ _ _ _ => ⟨⟨rfl, rfl⟩, trivial⟩⟩
  | bool => intro n es'; exact ⟨rfl, Laid.nil, rfl, rfl, fun _ _ _ _ => ⟨⟨rfl, rfl⟩, trivial⟩⟩
  | str => intro n es'; exact ⟨rfl, Laid.nil, rfl, rfl, fun _ _ _ _ => ⟨⟨rfl, rfl⟩, trivial⟩⟩
  | @inn e s ys v q h1 h2 h3 =>
    intro n es'
    refine ⟨rfl, ⟨rfl, fun m o q' ho hq => ?_⟩, rfl, rfl, fun Z' H' ρ' hf => ⟨?_, trivial⟩⟩
    · cases m with
      | succ m => simp [opnC] at ho
      | zero =>
        simp only [opnC, List.cons_append, List.getElem?_cons_zero, Option.some.injEq] at ho hq
        subst ho hq
        exact ⟨e, s, ys, rfl, h2, h3⟩
    · obtain ⟨g1, g2⟩ := hf 0 (.row e s ys) q rfl rfl
      rw [Nat.add_zero] at g1 g2
      have hone : v.oneCell' = true := by
        rcases h1 with ⟨p, cap, _, rfl, _⟩ | ⟨_, a, rfl⟩ <;> rfl
      show V0 Z' H' ρ' w (.own n s.sz) v
      refine ⟨at_lt (by rw [g1]; rfl), hone, fun z2 n2 hd => ?_⟩
      rw [g1] at hd
      cases hd
      exact ⟨rfl, by unfold SlAt; rw [g2]; exact h1⟩
  | @pair ea eb a b x ua ub pa pb h1 h2 ih1 ih2 =>
    intro n es'
    rw [List.append_assoc]
    obtain ⟨a1, a2, a3, a4, a5⟩ := ih1 n (eb ++ es')
    obtain ⟨b1, b2, b3, b4, b5⟩ := ih2 (n + (opnC n (ea ++ (eb ++ es')) a x.1).2.1.length) es'
    simp only [opnC, a1]
    refine ⟨b1, a2.append b2, by simp [a3, b3, Sh.sz], by simp only [List.all_append, a4, b4, Bool.and_self], fun Z' H' ρ' hf => ?_⟩
    exact (a5 Z' H' ρ' (hf.left a2.len)).append (b5 Z' H' ρ' (hf.right a2.len))
theorem gt_at {s : Sh} {xs : List s.T} {i : Nat} (h : i < xs.length) : gt s xs i = xs[i] := by
  unfold gt; rw [List.getD_eq_getElem?_getD, List.getElem?_eq_getElem h]; rfl
/-- an element is laid open: nothing moves -/
theorem Rel.opened (hR : Rel Z H ρ w) {l i : Nat} {e : TypeId} {es : List TypeId} {s : Sh} {xs : List s.T} (hat : H.at l = .nest e es s xs none) (hi : i < xs.length) :
    ∃ ρ', Rel Z (openH H l i) ρ' w ∧ Ext H ρ w (openH H l i) ρ' w ∧ ∀ k, k < H.length → k ≠ l → ρ' k = ρ k := by
  have ho := hR.obj l
  rw [hat] at ho
  have hlive : (H.at l).isLive = true := by rw [hat]; rfl
  have hll := at_lt hlive
  rcases ho with ⟨h1, _, _⟩ | ⟨p, cur, uss, pss, hp, hn⟩
  · rw [h1] at hi; simp at hi
  have hiu : i < uss.length := by rw [hn.ul]; exact hi
  have hip : i < pss.length := by rw [hn.pl]; exact hi
  have hne := hn.el i xs[i] uss[i] pss[i] (List.getElem?_eq_getElem hi) (List.getElem?_eq_getElem hiu) (List.getElem?_eq_getElem hip) (fun cs h => by cases h)
  obtain ⟨o1, o2, o3, o4, o5⟩ := opn_ok hne H.length []
  rw [List.append_nil] at o1 o2 o4 o5
  unfold openH
  rw [hat]
  simp only [gt_at hi]
  generalize hcsE : (opnC H.length es s xs[i]).1 = cs at o4 o5 ⊢
  generalize hosE : (opnC H.length es s xs[i]).2.1 = os at o2 o5 ⊢
  generalize hpsE : pss[i] = ps at o2 o5 hne
  have hpsg : pss[i]? = some ps := by rw [← hpsE]; exact List.getElem?_eq_getElem hip
  let p' : Pl := ⟨p.b, p.base, p.cap, fun b => p.inn b ∧ ∀ q, some q ∈ ps → q.b ≠ b⟩
  let ρ' : Rho := fun k => if k = l then some p' else if k < H.length then ρ k else (ps[k - H.length]?).join
  have hρl : ρ' l = some p' := if_pos rfl
  have hρo : ∀ k, k < H.length → k ≠ l → ρ' k = ρ k := fun k hk hne => by simp only [ρ']; rw [if_neg hne, if_pos hk]
  have hρn : ∀ m, ρ' (H.length + m) = (ps[m]?).join := fun m => by
    simp only [ρ']; rw [if_neg (by omega), if_neg (by omega), Nat.add_sub_cancel_left]
  let N : AO := .nest e es s xs (some (i, cs))
  have hl1 : (H.set l N).length = H.length := by simp
  have atl : Heap.at (H.set l N ++ os) l = N := by rw [at_append_lt (by rw [hl1]; exact hll), at_set_same hll]
  have ato : ∀ k, k < H.length → k ≠ l → Heap.at (H.set l N ++ os) k = H.at k := fun k hk hne => by
    rw [at_append_lt (by rw [hl1]; exact hk), at_set_ne (fun e => hne e.symm)]
  have atn : ∀ m, Heap.at (H.set l N ++ os) (H.length + m) = (os[m]?).getD .dead := fun m => by
    simp only [Heap.at, List.getD_eq_getElem?_getD]
    rw [List.getElem?_append_right (by rw [hl1]; omega), hl1, Nat.add_sub_cancel_left]
  have newq : ∀ m, (Heap.at (H.set l N ++ os) (H.length + m)).isLive = true → ∃ o q, os[m]? = some o ∧ ps[m]? = some q := fun m hv => by
    rw [atn] at hv
    cases ho : os[m]? with
    | none => rw [ho] at hv; cases hv
    | some o =>
      have hm : m < ps.length := by rw [← o2.len]; exact (List.getElem?_eq_some_iff.1 ho).1
      exact ⟨o, ps[m], rfl, List.getElem?_eq_getElem hm⟩
  have newf : ∀ (m : Nat) (q : Pl) (b : Nat), (Heap.at (H.set l N ++ os) (H.length + m)).isLive = true → ρ' (H.length + m) = some q → q.foot b → ps[m]? = some (some q) ∧ q.b = b := fun m q b hv hq hf => by
    obtain ⟨o, q', ho, hq'⟩ := newq m hv
    rw [hρn, hq'] at hq
    have hq2 : q' = some q := by simpa using hq
    subst hq2
    obtain ⟨_, _, _, _, _, hno⟩ := o2.row m o _ ho hq'
    exact ⟨hq', hf.elim id fun h => absurd h (hno q rfl b)⟩
  have innq : ∀ (m : Nat) (q : Pl), ps[m]? = some (some q) → p.inn q.b := fun m q hq => hn.pd.foot i ps q hpsg (List.mem_of_getElem? hq)
  have trans : ∀ (k : Nat) (q : Pl) (b : Nat), (Heap.at (H.set l N ++ os) k).isLive = true → ρ' k = some q → q.foot b → own H ρ b := fun k q b hv hq hf => by
    rcases Nat.lt_or_ge k H.length with hk | hk
    · by_cases hkl : k = l
      · subst hkl
        rw [hρl] at hq; cases hq
        exact ⟨k, p, hlive, hp, hf.imp id fun h => h.1⟩
      · rw [hρo k hk hkl] at hq; rw [ato k hk hkl] at hv
        exact ⟨k, q, hv, hq, hf⟩
    · obtain ⟨m, rfl⟩ : ∃ m, k = H.length + m := ⟨k - H.length, by omega⟩
      obtain ⟨g1, rfl⟩ := newf m q b hv hq hf
      exact ⟨l, p, hlive, hp, .inr (innq m q g1)⟩
  have ex : Ext H ρ w (H.set l N ++ os) ρ' w := by
    refine ⟨rfl, rfl, rfl, Nat.le_refl _, fun _ _ _ => rfl, fun b ⟨k, q, hv, hq, hf⟩ => .inl (trans k q b hv hq hf), by simp, fun k hk => ?_, fun k hk hv => ?_, fun k hk d hd => ?_⟩
    · by_cases hkl : k = l
      · subst hkl; unfold cor; rw [hρl, hp]; rfl
      · exact cor_of (hρo k hk hkl)
    · by_cases hkl : k = l
      · subst hkl; exact hlive
      · rwa [ato k hk hkl] at hv
    · by_cases hkl : k = l
      · subst hkl; rw [atl] at hd; rw [hat]; exact hd
      · rwa [ato k hk hkl] at hd
  have inj : ∀ (k k' : Nat) (q q' : Pl) (b : Nat), (Heap.at (H.set l N ++ os) k).isLive = true → (Heap.at (H.set l N ++ os) k').isLive = true → ρ' k = some q → ρ' k' = some q' → q.foot b → q'.foot b → k = k' := by
    have ln : ∀ (m : Nat) (q : Pl) (b : Nat), ps[m]? = some (some q) → q.b = b → ¬ p'.foot b := fun m q b hq hb hf => by
      subst hb
      rcases hf with hf | ⟨_, hf⟩
      · exact (hR.inn l p _ hlive hp (innq m q hq)).1 hf.symm
      · exact hf q (List.mem_of_getElem? hq) rfl
    have on : ∀ (k : Nat) (q : Pl) (b m : Nat) (q2 : Pl), k < H.length → k ≠ l → (H.at k).isLive = true → ρ k = some q → q.foot b → ps[m]? = some (some q2) → q2.b = b → False := fun k q b m q2 hk hkl hv hq hf h2 hb => by
      subst hb
      exact hkl (hR.inj k l q p _ hv hlive hq hp hf (.inr (innq m q2 h2)))
    intro k k' q q' b hv hv' hq hq' hf hf'
    rcases Nat.lt_or_ge k H.length with hk | hk <;> rcases Nat.lt_or_ge k' H.length with hk' | hk'
    · have src : ∀ (k : Nat) (q : Pl), k < H.length → (Heap.at (H.set l N ++ os) k).isLive = true → ρ' k = some q → q.foot b → ∃ q0, (H.at k).isLive = true ∧ ρ k = some q0 ∧ q0.foot b := fun k q hk hv hq hf => by
        by_cases hkl : k = l
        · subst hkl; rw [hρl] at hq; cases hq; exact ⟨p, hlive, hp, hf.imp id fun h => h.1⟩
        · rw [hρo k hk hkl] at hq; rw [ato k hk hkl] at hv; exact ⟨q, hv, hq, hf⟩
      obtain ⟨q0, a1, a2, a3⟩ := src k q hk hv hq hf
      obtain ⟨q1, b1, b2, b3⟩ := src k' q' hk' hv' hq' hf'
      exact hR.inj k k' q0 q1 b a1 b1 a2 b2 a3 b3
    · exfalso
      obtain ⟨m, rfl⟩ : ∃ m, k' = H.length + m := ⟨k' - H.length, by omega⟩
      obtain ⟨g1, g2⟩ := newf m q' b hv' hq' hf'
      by_cases hkl : k = l
      · subst hkl; rw [hρl] at hq; cases hq; exact ln m q' b g1 g2 hf
      · rw [hρo k hk hkl] at hq; rw [ato k hk hkl] at hv; exact on k q b m q' hk hkl hv hq hf g1 g2
    · exfalso
      obtain ⟨m, rfl⟩ : ∃ m, k = H.length + m := ⟨k - H.length, by omega⟩
      obtain ⟨g1, g2⟩ := newf m q b hv hq hf
      by_cases hkl : k' = l
      · subst hkl; rw [hρl] at hq'; cases hq'; exact ln m q b g1 g2 hf'
      · rw [hρo k' hk' hkl] at hq'; rw [ato k' hk' hkl] at hv'; exact on k' q' b m q hk' hkl hv' hq' hf' g1 g2
    · obtain ⟨m, rfl⟩ : ∃ m, k = H.length + m := ⟨k - H.length, by omega⟩
      obtain ⟨m', rfl⟩ : ∃ m, k' = H.length + m := ⟨k' - H.length, by omega⟩
      obtain ⟨g1, g2⟩ := newf m q b hv hq hf
      obtain ⟨g1', g2'⟩ := newf m' q' b hv' hq' hf'
      rw [(hn.pd.apart i i ps ps m m' q q' hpsg hpsg g1 g1' (g2.trans g2'.symm)).2]
  have hfound : Found (H.set l N ++ os) ρ' H.length os ps := fun m o q ho hq => ⟨by rw [atn, ho]; rfl, by rw [hρn, hq]; rfl⟩
  refine ⟨ρ', hR.step ex (fun k hv => ?_) (fun k k' q q' b _ => inj k k' q q' b), ex, hρo⟩
  rcases Nat.lt_or_ge k H.length with hk | hk
  · by_cases hkl : k = l
    · subst hkl
      right
      rw [atl]
      refine ⟨.inr ⟨p', cur, uss, pss.set i [], hρl, ?_⟩, fun q b hq hb => ?_⟩
      · refine ⟨hn.at_, hn.size, hn.len, hn.cap, hn.ul, by simp [hn.pl], hn.us, fun i' x' us' ps' h1 h2 h3 h4 => ?_, fun i' cs' hop => ?_, ⟨fun i' ps' q h1 h2 => ?_, fun i1 i2 ps1 ps2 m1 m2 q1 q2 h1 h2 h3 h4 h5 => ?_⟩⟩
        · have hii : i ≠ i' := fun e => h4 cs (by rw [e])
          rw [List.getElem?_set_ne hii] at h3
          exact (hn.el i' x' us' ps' h1 h2 h3 (fun cs h => by cases h)).mono (fun _ _ => ex.R1) fun _ _ => rfl
        · simp only [Option.some.injEq, Prod.mk.injEq] at hop
          obtain ⟨rfl, rfl⟩ := hop
          refine ⟨hi, o4, fun us' ps' h1 h2 => ?_⟩
          rw [List.getElem?_set_self hip] at h2
          rw [List.getElem?_eq_getElem hiu] at h1
          simp only [Option.some.injEq] at h1 h2
          subst h1 h2
          exact ⟨rfl, o5 Z _ ρ' hfound⟩
        · by_cases hii : i = i'
          · subst hii
            rw [List.getElem?_set_self hip] at h1
            simp only [Option.some.injEq] at h1; subst h1; cases h2
          · rw [List.getElem?_set_ne hii] at h1
            refine ⟨hn.pd.foot i' ps' q h1 h2, fun q2 h3 e => ?_⟩
            obtain ⟨m2, hm2⟩ := List.getElem?_of_mem h3
            obtain ⟨m1, hm1⟩ := List.getElem?_of_mem h2
            exact hii (hn.pd.apart i i' ps ps' m2 m1 q2 q hpsg h1 hm2 hm1 e).1
        · have key : ∀ (i' : Nat) (ps' : List (Option Pl)) (m' : Nat) (q' : Pl), (pss.set i [])[i']? = some ps' → ps'[m']? = some (some q') → pss[i']? = some ps' := fun i' ps' m' q' h1 h2 => by
            by_cases hii : i = i'
            · subst hii
              rw [List.getElem?_set_self hip] at h1
              simp only [Option.some.injEq] at h1; subst h1; rw [List.getElem?_nil] at h2; cases h2
            · rwa [List.getElem?_set_ne hii] at h1
          exact hn.pd.apart i1 i2 ps1 ps2 m1 m2 q1 q2 (key _ _ _ _ h1 h3) (key _ _ _ _ h2 h4) h3 h4 h5
      · rw [hρl] at hq; cases hq
        exact hR.inn k p b hlive hp hb.1
    · exact .inl ⟨hk, ato k hk hkl, hρo k hk hkl, fun _ _ _ _ => rfl⟩
  · obtain ⟨m, rfl⟩ : ∃ m, k = H.length + m := ⟨k - H.length, by omega⟩
    obtain ⟨o, q, ho, hq⟩ := newq m hv
    obtain ⟨e2, s2, ys, rfl, hrow, hno⟩ := o2.row m o q ho hq
    right
    have hρm : ρ' (H.length + m) = q := by rw [hρn, hq]; rfl
    rw [atn, ho, Option.getD_some]
    refine ⟨?_, fun q2 b h1 h2 => ?_⟩
    · have := hrow.mono (w' := w) (A' := X.A Z (H.set l N ++ os) ρ' w) (fun _ _ => ex.R1) (fun _ _ => rfl)
      show RowQ w _ e2 s2 ys (ρ' (H.length + m))
      rw [hρm]; exact this
    · rw [hρm] at h1
      exact absurd h2 (hno q2 h1 b)
/-- the place alone -/
def Pl.bare (p : Pl) : Pl := ⟨p.b, p.base, p.cap, fun _ => False⟩
theorem SlQ.bare {q : Option Pl} {sz off len : Nat} {v : Value} (h : SlQ q sz off len v) : SlQ (q.map Pl.bare) sz off len v := by
  rcases h with ⟨p, cap, rfl, h⟩ | h
  · exact .inl ⟨p.bare, cap, rfl, h⟩
  · exact .inr h
theorem RowQ.bare {e : TypeId} {s : Sh} {xs : List s.T} {q : Option Pl} (h : RowQ w A e s xs q) : RowQ w A e s xs (q.map Pl.bare) := by
  rcases h with ⟨h, rfl⟩ | ⟨p, cur, us, rfl, h⟩
  · exact .inl ⟨h, rfl⟩
  · exact .inr ⟨p.bare, cur, us, rfl, h⟩
theorem RowQ.cut {e : TypeId} {s : Sh} {xs : List s.T} {q : Option Pl} (h : RowQ w A e s xs q) (n : Nat) : RowQ w A e s (xs.take n) q := by
  have hpre : xs.flatMap s.dv = (xs.take n).flatMap s.dv ++ (xs.drop n).flatMap s.dv := by rw [← List.flatMap_append, List.take_append_drop]
  rcases h with ⟨h, hq⟩ | ⟨p, cur, us, k1, k2, k3, k4, k5, k6, k7⟩
  · exact .inl ⟨by rw [h]; simp, hq⟩
  · refine .inr ⟨p, cur, us.take ((xs.take n).flatMap s.dv).length, k1, k2, k3, by simp; omega, k5, fun j v hj => k6 j v ?_, ?_⟩
    · rw [List.getElem?_take] at hj
      split at hj
      · exact hj
      · cases hj
    · have := k7.take ((xs.take n).flatMap s.dv).length
      rw [hpre, List.take_left] at this
      exact this
theorem isNilC_ok {c : C1} (h : isNilC c = true) : c = .lit (.slice none 0 0) := by
  unfold isNilC at h
  split at h
  · rfl
  · cases h
/-- a place among those that went in -/
def From (H : Heap) (ρ : Rho) (ls : List (Option Nat)) (ps : List (Option Pl)) : Prop := ps.length = ls.length ∧ ∀ (m : Nat) q, ps[m]? = some (some q) → ∃ k p, ls[m]? = some (some k) ∧ (H.at k).isLive = true ∧ ρ k = some p ∧ q.b = p.b
theorem From.append {ls ls' : List (Option Nat)} {ps ps' : List (Option Pl)} (h : From H ρ ls ps) (h' : From H ρ ls' ps') : From H ρ (ls ++ ls') (ps ++ ps') := by
  refine ⟨by simp [h.1, h'.1], fun m q hq => ?_⟩
  rcases Nat.lt_or_ge m ps.length with hm | hm
  · rw [List.getElem?_append_left hm] at hq
    obtain ⟨k, p, g1, g2⟩ := h.2 m q hq
    exact ⟨k, p, by rw [List.getElem?_append_left (by rw [← h.1]; exact hm)]; exact g1, g2⟩
  · rw [List.getElem?_append_right hm] at hq
    obtain ⟨k, p, g1, g2⟩ := h'.2 _ q hq
    exact ⟨k, p, by rw [List.getElem?_append_right (by rw [← h.1]; exact hm), ← h.1]; exact g1, g2⟩
theorem decN_ok (hR : Rel Z H ρ w) : ∀ (s : Sh) (es : List TypeId) (cs : List C1) (x : s.T) (r : List C1) (es' : List TypeId) (ls : List (Option Nat)) (us : List Value), decN H es s cs = some (x, r, es', ls) → LR (V1 Z H ρ w) cs us →
    ∃ es1 u1 u2 ps, es = es1 ++ es' ∧ us = u1 ++ u2 ∧ NE w (X.A Z H ρ w) es1 s x u1 ps ∧ LR (V1 Z H ρ w) r u2 ∧ From H ρ ls ps
  | .sl s, es, cs, x, r, es', ls, us, h, hl => by
    simp only [decN] at h
    split at h
    case h_2 => cases h
    rename_i e es2 c cs2
    obtain ⟨u, us2, rfl, h1, h2⟩ := LR.cons_inv hl
    split at h
    · rename_i hn
      have := isNilC_ok hn
      subst this
      simp only [Option.some.injEq, Prod.mk.injEq] at h
      obtain ⟨rfl, rfl, rfl, rfl⟩ := h
      obtain ⟨rfl, _⟩ := (h1 : u = _ ∧ _)
      exact ⟨[e], [_], us2, [none], rfl, rfl, .inn (.inr ⟨rfl, none, rfl⟩) (.inl ⟨rfl, rfl⟩) (fun p hp => by cases hp), h2, rfl, fun m q hq => by cases m <;> simp at hq⟩
    · have fin : ∀ {l n : Nat} {e' : TypeId} {ys : List s.T}, H.at l = .row e' s ys → n ≤ ys.length → SlAt ρ l s.sz 0 n u → e' = e → es' = es2 → (x : List s.T) = ys.take n → r = cs2 → ls = [some l] →
          ∃ es1 u1 u2 ps, e :: es2 = es1 ++ es' ∧ u :: us2 = u1 ++ u2 ∧ NE w (X.A Z H ρ w) es1 (.sl s) x u1 ps ∧ LR (V1 Z H ρ w) r u2 ∧ From H ρ ls ps := by
        intro l n e' ys hat hle g4 h5 h6 h7 h8 h9
        subst h5 h6 h8 h9
        have ho : RowQ w (X.A Z H ρ w) e' s ys (ρ l) := by
          have := hR.obj l
          rw [hat] at this; exact this
        have hx : (x : List s.T).length = n := by rw [h7, List.length_take]; omega
        refine ⟨[e'], [u], us2, [(ρ l).map Pl.bare], rfl, rfl, .inn (by rw [hx]; exact SlQ.bare g4) (by rw [h7]; exact (ho.cut n).bare) (fun p hp k hk => ?_), h2, rfl, fun m q hq => ?_⟩
        · cases hρ : ρ l with
          | none => rw [hρ] at hp; cases hp
          | some p0 => rw [hρ] at hp; cases hp; exact hk
        · cases m with
          | succ m => simp at hq
          | zero =>
            simp only [List.getElem?_cons_zero, Option.some.injEq] at hq
            cases hρ : ρ l with
            | none => rw [hρ] at hq; cases hq
            | some p0 => rw [hρ] at hq; cases hq; exact ⟨l, p0, rfl, by rw [hat]; rfl, hρ, rfl⟩
      split at h
      · rename_i l z hnn
        split at h
        case h_2 => cases h
        rename_i e' s' ys hat
        split at h
        case isFalse => cases h
        rename_i hs
        subst hs
        split at h
        case isFalse => cases h
        rename_i he
        simp only [beq_iff_eq] at he
        simp only [Option.some.injEq, Prod.mk.injEq] at h
        obtain ⟨h7, h8, h6, h9⟩ := h
        obtain ⟨g1, g2, g3⟩ := (h1 : V0 Z H ρ w (.own l z) u)
        obtain ⟨rfl, g4⟩ := g3 _ _ (dim_row hat)
        exact fin hat (Nat.le_refl _) g4 he h6.symm (by rw [← h7, List.take_length]) h8.symm h9.symm
      · rename_i l z n hnn
        split at h
        case h_2 => cases h
        rename_i e' s' ys hat
        split at h
        case isFalse => cases h
        rename_i hs
        subst hs
        split at h
        case isFalse => cases h
        rename_i he
        simp only [beq_iff_eq] at he
        simp only [Option.some.injEq, Prod.mk.injEq] at h
        obtain ⟨h7, h8, h6, h9⟩ := h
        obtain ⟨g1, g2, g3⟩ := (h1 : V0 Z H ρ w (.sl l z 0 n) u)
        obtain ⟨rfl, g5, g4⟩ := g3 _ _ (dim_row hat)
        exact fin hat (by omega) g4 he h6.symm h7.symm h8.symm h9.symm
      · cases h
  | .pair a b, es, cs, x, r, es', ls, us, h, hl => by
    simp only [decN] at h
    split at h
    case h_2 => cases h
    rename_i y cs1 es1 l1 h1
    split at h
    case h_2 => cases h
    rename_i z cs2 es2 l2 h2
    simp only [Option.some.injEq, Prod.mk.injEq] at h
    obtain ⟨rfl, rfl, rfl, rfl⟩ := h
    obtain ⟨ea, u1, u2, pa, rfl, rfl, g1, g2, g3⟩ := decN_ok hR a es cs y cs1 es1 l1 us h1 hl
    obtain ⟨eb, u3, u4, pb, rfl, rfl, g4, g5, g6⟩ := decN_ok hR b es1 cs1 z cs2 es2 l2 u2 h2 g2
    exact ⟨ea ++ eb, u1 ++ u3, u4, pa ++ pb, by rw [List.append_assoc], by rw [List.append_assoc], .pair g1 g4, g5, g3.append g6⟩
  | .rs q, es, cs, x, r, es', ls, us, h, hl => by
    simp only [decN] at h
    cases h
  | .unit, es, cs, x, r, es', ls, us, h, hl => by
    simp only [decN, Sh.dec, Option.some.injEq, Prod.mk.injEq] at h
    obtain ⟨_, rfl, rfl, rfl⟩ := h
    exact ⟨[], [], us, [], rfl, rfl, .unit, hl, rfl, fun m q hq => by simp at hq⟩
  | .int k, es, cs, x, r, es', ls, us, h, hl => by
    simp only [decN] at h
    split at h
    case h_2 => cases h
    rename_i y r1 hd
    simp only [Option.some.injEq, Prod.mk.injEq] at h
    obtain ⟨rfl, rfl, rfl, rfl⟩ := h
    obtain ⟨u1, u2, rfl, g1, g2⟩ := R1_of_V1 (.int k) cs y r1 us hd hl
    obtain ⟨v, rfl, g3⟩ := LR.one_inv g1
    obtain ⟨rfl, _⟩ := g3.lit_inv
    exact ⟨[], [_], u2, [], rfl, rfl, .int, g2, rfl, fun m q hq => by simp at hq⟩
  | .bool, es, cs, x, r, es', ls, us, h, hl => by
    simp only [decN] at h
    split at h
    case h_2 => cases h
    rename_i y r1 hd
    simp only [Option.some.injEq, Prod.mk.injEq] at h
    obtain ⟨rfl, rfl, rfl, rfl⟩ := h
    obtain ⟨u1, u2, rfl, g1, g2⟩ := R1_of_V1 .bool cs y r1 us hd hl
    obtain ⟨v, rfl, g3⟩ := LR.one_inv g1
    obtain ⟨rfl, _⟩ := g3.lit_inv
    exact ⟨[], [_], u2, [], rfl, rfl, .bool, g2, rfl, fun m q hq => by simp at hq⟩
  | .str, es, cs, x, r, es', ls, us, h, hl => by
    simp only [decN] at h
    split at h
    case h_2 => cases h
    rename_i y r1 hd
    simp only [Option.some.injEq, Prod.mk.injEq] at h
    obtain ⟨rfl, rfl, rfl, rfl⟩ := h
    obtain ⟨u1, u2, rfl, g1, g2⟩ := R1_of_V1 .str cs y r1 us hd hl
    obtain ⟨v, rfl, g3⟩ := LR.one_inv g1
    obtain ⟨rfl, _⟩ := g3.lit_inv
    exact ⟨[], [_], u2, [], rfl, rfl, .str, g2, rfl, fun m q hq => by simp at hq⟩
theorem noDup_ok : ∀ {ls : List (Option Nat)}, noDup (ls.filterMap id) = true → ∀ (m m' k : Nat), ls[m]? = some (some k) → ls[m']? = some (some k) → m = m'
  | [], _, m, m', k, h, _ => by simp at h
  | none :: ls, hd, m, m', k, h, h' => by
    cases m with
    | zero => simp at h
    | succ m =>
      cases m' with
      | zero => simp at h'
      | succ m' => rw [noDup_ok (ls := ls) (by simpa using hd) m m' k (by simpa using h) (by simpa using h')]
  | some a :: ls, hd, m, m', k, h, h' => by
    have hd' : (ls.filterMap id).contains a = false ∧ noDup (ls.filterMap id) = true := by simpa [noDup] using hd
    have hnot : ∀ m, ls[m]? = some (some a) → False := fun m hm => by
      have h1 : a ∈ ls.filterMap id := List.mem_filterMap.2 ⟨some a, List.mem_of_getElem? hm, rfl⟩
      have h2 := hd'.1
      rw [List.contains_eq_mem, decide_eq_false_iff_not] at h2
      exact h2 h1
    cases m with
    | zero =>
      simp only [List.getElem?_cons_zero, Option.some.injEq] at h
      cases m' with
      | zero => rfl
      | succ m' => subst h; exact (hnot m' (by simpa using h')).elim
    | succ m =>
      cases m' with
      | zero =>
        simp only [List.getElem?_cons_zero, Option.some.injEq] at h'
        subst h'; exact (hnot m (by simpa using h)).elim
      | succ m' => rw [noDup_ok hd'.2 m m' k (by simpa using h) (by simpa using h')]
theorem upd_len0 : ∀ (U : Upd) (H : Heap), (H.upd U).length = H.length
  | [], H => rfl
  | (l, o) :: U, H => by simp only [Heap.upd]; rw [upd_len0 U]; simp
theorem upd_kills : ∀ (ks : List Nat) (H : Heap) (k : Nat), Heap.at (H.upd (ks.map fun k => (k, .dead))) k = if k ∈ ks then .dead else H.at k
  | [], H, k => by simp [Heap.upd]
  | a :: ks, H, k => by
    simp only [List.map_cons, Heap.upd]
    rw [upd_kills ks]
    by_cases h : k ∈ ks
    · simp [h]
    · by_cases h2 : k = a
      · subst h2
        rw [if_neg h, if_pos (by simp)]
        rcases Nat.lt_or_ge k H.length with h3 | h3
        · exact at_set_same h3
        · exact at_ge (by simpa using h3)
      · rw [if_neg h, if_neg (by simp [h, h2]), at_set_ne (fun e => h2 e.symm)]
/-- what lies open is closed: nothing moves -/
theorem Rel.closed (hR : Rel Z H ρ w) (l : Nat) : ∃ ρ', Rel Z (H.upd (closeU H l)) ρ' w ∧ Ext H ρ w (H.upd (closeU H l)) ρ' w ∧ ∀ k, k < H.length → (∀ u ∈ closeU H l, u.1 ≠ k) → ρ' k = ρ k := by
  have same : ∃ ρ', Rel Z (H.upd []) ρ' w ∧ Ext H ρ w (H.upd []) ρ' w ∧ ∀ k, k < H.length → (∀ u ∈ ([] : Upd), u.1 ≠ k) → ρ' k = ρ k := ⟨ρ, hR, Ext.refl _ _ _, fun _ _ _ => rfl⟩
  unfold closeU
  split
  case h_2 => exact same
  rename_i e es s xs i cs hat
  split
  case h_2 => exact same
  rename_i x ls hd
  split
  case isFalse => exact same
  rename_i hc
  simp only [Bool.and_eq_true, Bool.not_eq_true', List.contains_eq_mem, decide_eq_false_iff_not] at hc
  obtain ⟨hnd, hnl⟩ := hc
  have hlive : (H.at l).isLive = true := by rw [hat]; rfl
  have hll := at_lt hlive
  have ho := hR.obj l
  rw [hat] at ho
  rcases ho with ⟨_, h2, _⟩ | ⟨p, cur, uss, pss, hp, hn⟩
  · cases h2
  obtain ⟨hi, hst, hop⟩ := hn.op i cs rfl
  have hiu : i < uss.length := by rw [hn.ul]; exact hi
  have hip : i < pss.length := by rw [hn.pl]; exact hi
  obtain ⟨hps0, hLR⟩ := hop uss[i] pss[i] (List.getElem?_eq_getElem hiu) (List.getElem?_eq_getElem hip)
  obtain ⟨es1, u1, u2, ps, hes, hus, hNE, hL2, hfr⟩ := decN_ok hR s es cs x [] [] ls uss[i] hd hLR
  obtain rfl := LR.nil_inv hL2
  rw [List.append_nil] at hes hus
  subst hes
  rw [← hus] at hNE
  generalize hks : ls.filterMap id = ks at hnd hnl ⊢
  have memk : ∀ (m k : Nat), ls[m]? = some (some k) → k ∈ ks := fun m k hm => by
    rw [← hks]; exact List.mem_filterMap.2 ⟨some k, List.mem_of_getElem? hm, rfl⟩
  let N : AO := .nest e es s (xs.set i x) none
  let B : Nat → Prop := fun b => ∃ k q, k ∈ ks ∧ (H.at k).isLive = true ∧ ρ k = some q ∧ q.b = b
  let p' : Pl := ⟨p.b, p.base, p.cap, fun b => p.inn b ∨ B b⟩
  let ρ' : Rho := fun k => if k = l then some p' else ρ k
  have hρl : ρ' l = some p' := if_pos rfl
  have hρo : ∀ k, k ≠ l → ρ' k = ρ k := fun k hk => if_neg hk
  have hat' : ∀ k, Heap.at (Heap.upd (H.set l N) (ks.map fun k => (k, .dead))) k = if k ∈ ks then .dead else if k = l then N else H.at k := fun k => by
    rw [upd_kills]
    by_cases h : k ∈ ks
    · rw [if_pos h, if_pos h]
    · rw [if_neg h, if_neg h]
      by_cases h2 : k = l
      · subst h2; rw [if_pos rfl, at_set_same hll]
      · rw [if_neg h2, at_set_ne (fun e => h2 e.symm)]
  have atl : Heap.at (Heap.upd (H.set l N) (ks.map fun k => (k, .dead))) l = N := by rw [hat', if_neg hnl, if_pos rfl]
  have old : ∀ k, k ≠ l → (Heap.at (Heap.upd (H.set l N) (ks.map fun k => (k, .dead))) k).isLive = true → k ∉ ks ∧ Heap.at (Heap.upd (H.set l N) (ks.map fun k => (k, .dead))) k = H.at k := fun k hk hv => by
    rw [hat'] at hv ⊢
    by_cases h : k ∈ ks
    · rw [if_pos h] at hv; cases hv
    · rw [if_neg h, if_neg hk]; exact ⟨h, rfl⟩
  have hBl : ∀ b, B b → b ≠ p.b ∧ b < w.heap.size := fun b ⟨k, q, h1, h2, h3, h4⟩ => by
    subst h4
    refine ⟨fun e => ?_, hR.lt h2 h3⟩
    have := hR.injb k l q p h2 hlive h3 hp e
    subst this; exact hnl h1
  have src : ∀ (k : Nat) (q : Pl) (b : Nat), (Heap.at (Heap.upd (H.set l N) (ks.map fun k => (k, .dead))) k).isLive = true → ρ' k = some q → q.foot b → (k = l ∧ B b) ∨ (∃ q0, k ∉ ks ∧ (H.at k).isLive = true ∧ ρ k = some q0 ∧ q0.foot b) := fun k q b hv hq hf => by
    by_cases hk : k = l
    · subst hk
      rw [hρl] at hq; cases hq
      rcases hf with hf | hf | hf
      · exact .inr ⟨p, hnl, hlive, hp, .inl hf⟩
      · exact .inr ⟨p, hnl, hlive, hp, .inr hf⟩
      · exact .inl ⟨rfl, hf⟩
    · obtain ⟨g1, g2⟩ := old k hk hv
      rw [g2] at hv
      rw [hρo k hk] at hq
      exact .inr ⟨q, g1, hv, hq, hf⟩
  have ex : Ext H ρ w (Heap.upd (H.set l N) (ks.map fun k => (k, .dead))) ρ' w := by
    refine ⟨rfl, rfl, rfl, Nat.le_refl _, fun _ _ _ => rfl, fun b ⟨k, q, hv, hq, hf⟩ => ?_, by rw [upd_len0]; simp, fun k hk => ?_, fun k hk hv => ?_, fun k hk d hd => ?_⟩
    · left
      rcases src k q b hv hq hf with ⟨_, k2, q2, _, h2, h3, h4⟩ | ⟨q0, _, h1, h2, h3⟩
      · exact ⟨k2, q2, h2, h3, .inl h4⟩
      · exact ⟨k, q0, h1, h2, h3⟩
    · by_cases hkl : k = l
      · subst hkl; unfold cor; rw [hρl, hp]; rfl
      · exact cor_of (hρo k hkl)
    · by_cases hkl : k = l
      · subst hkl; exact hlive
      · rw [← (old k hkl hv).2]; exact hv
    · by_cases hkl : k = l
      · subst hkl
        rw [atl] at hd; rw [hat]
        simpa [N, AO.dim] using hd
      · rw [(old k hkl (dim_live hd)).2] at hd; exact hd
  have clash : ∀ (k b : Nat) (q0 : Pl), B b → k ∉ ks → (H.at k).isLive = true → ρ k = some q0 → q0.foot b → False := fun k b q0 ⟨k2, q2, h1, h2, h3, h4⟩ hk hv hq hf => by
    have := hR.inj k2 k q2 q0 b h2 hv h3 hq (.inl h4) hf
    subst this; exact hk h1
  refine ⟨ρ', ?_, ex, fun k hk hu => hρo k (fun e => hu (l, N) (by simp [N]) e.symm)⟩
  show Rel Z (Heap.upd (H.set l N) (ks.map fun k => (k, .dead))) ρ' w
  refine hR.step ex (fun k hv => ?_) (fun k k' q q' b _ hv hv' hq hq' hf hf' => ?_)
  · by_cases hkl : k = l
    · subst hkl
      right
      rw [atl]
      refine ⟨.inr ⟨p', cur, uss, pss.set i ps, hρl, ?_⟩, fun q b hq hb => ?_⟩
      · refine ⟨hn.at_, hn.size, by simpa using hn.len, hn.cap, by simpa using hn.ul, by simpa using hn.pl, hn.us, fun i' x' us' ps' h1 h2 h3 h4 => ?_, fun i' cs' h => (by cases h), ⟨fun i' ps' q h1 h2 => ?_, fun i1 i2 ps1 ps2 m1 m2 q1 q2 h1 h2 h3 h4 h5 => ?_⟩⟩
        · by_cases hii : i = i'
          · subst hii
            rw [List.getElem?_set_self hip] at h3
            rw [List.getElem?_set_self hi] at h1
            rw [List.getElem?_eq_getElem hiu] at h2
            simp only [Option.some.injEq] at h1 h2 h3
            subst h1 h2 h3
            exact hNE.mono (fun _ _ => ex.R1) fun _ _ => rfl
          · rw [List.getElem?_set_ne hii] at h1 h3
            exact (hn.el i' x' us' ps' h1 h2 h3 (fun cs h => by cases h; exact hii rfl)).mono (fun _ _ => ex.R1) fun _ _ => rfl
        · by_cases hii : i = i'
          · subst hii
            rw [List.getElem?_set_self hip] at h1
            simp only [Option.some.injEq] at h1; subst h1
            obtain ⟨m, hm⟩ := List.getElem?_of_mem h2
            obtain ⟨k2, q2, g1, g2, g3, g4⟩ := hfr.2 m q hm
            exact .inr ⟨k2, q2, memk m k2 g1, g2, g3, g4.symm⟩
          · rw [List.getElem?_set_ne hii] at h1
            exact .inl (hn.pd.foot i' ps' q h1 h2)
        · have mixed : ∀ (i' : Nat) (ps' : List (Option Pl)) (m m' : Nat) (q q' : Pl), ps[m]? = some (some q) → pss[i']? = some ps' → ps'[m']? = some (some q') → q.b = q'.b → False := fun i' ps' m m' q q' g1 g2 g3 g4 => by
            obtain ⟨k2, q2, a1, a2, a3, a4⟩ := hfr.2 m q g1
            exact clash k q'.b p ⟨k2, q2, memk m k2 a1, a2, a3, a4.symm.trans g4⟩ hnl hlive hp (.inr (hn.pd.foot i' ps' q' g2 (List.mem_of_getElem? g3)))
          by_cases e1 : i = i1
          · subst e1
            rw [List.getElem?_set_self hip] at h1
            simp only [Option.some.injEq] at h1; subst h1
            by_cases e2 : i = i2
            · subst e2
              rw [List.getElem?_set_self hip] at h2
              simp only [Option.some.injEq] at h2; subst h2
              refine ⟨rfl, ?_⟩
              obtain ⟨k1, p1, a1, a2, a3, a4⟩ := hfr.2 m1 q1 h3
              obtain ⟨k2, p2, b1, b2, b3, b4⟩ := hfr.2 m2 q2 h4
              have := hR.injb k1 k2 p1 p2 a2 b2 a3 b3 (by rw [← a4, ← b4]; exact h5)
              subst this
              rw [← hks] at hnd
              exact noDup_ok hnd m1 m2 k1 a1 b1
            · rw [List.getElem?_set_ne e2] at h2
              exact (mixed i2 ps2 m1 m2 q1 q2 h3 h2 h4 h5).elim
          · rw [List.getElem?_set_ne e1] at h1
            by_cases e2 : i = i2
            · subst e2
              rw [List.getElem?_set_self hip] at h2
              simp only [Option.some.injEq] at h2; subst h2
              exact (mixed i1 ps1 m2 m1 q2 q1 h4 h1 h3 h5.symm).elim
            · rw [List.getElem?_set_ne e2] at h2
              exact hn.pd.apart i1 i2 ps1 ps2 m1 m2 q1 q2 h1 h2 h3 h4 h5
      · rw [hρl] at hq; cases hq
        rcases hb with hb | hb
        · exact hR.inn k p b hlive hp hb
        · exact hBl b hb
    · obtain ⟨g1, g2⟩ := old k hkl hv
      rw [g2] at hv
      exact .inl ⟨at_lt hv, g2, hρo k hkl, fun _ _ _ _ => rfl⟩
  · rcases src k q b hv hq hf with ⟨e1, hB1⟩ | ⟨q0, a1, a2, a3, a4⟩
    · rcases src k' q' b hv' hq' hf' with ⟨e2, _⟩ | ⟨q1, b1, b2, b3, b4⟩
      · rw [e1, e2]
      · exact (clash k' b q1 hB1 b1 b2 b3 b4).elim
    · rcases src k' q' b hv' hq' hf' with ⟨e2, hB2⟩ | ⟨q1, b1, b2, b3, b4⟩
      · exact (clash k b q0 hB2 a1 a2 a3 a4).elim
      · exact hR.inj k k' q0 q1 b a2 b2 a3 b3 a4 b4
end
end Go.Proofs.YtaklapcbbdcdpaaDoor.X
