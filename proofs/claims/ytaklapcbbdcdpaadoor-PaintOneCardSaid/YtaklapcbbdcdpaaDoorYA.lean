import Derived.Test.YtaklapcbbdcdpaaDoorXZ
namespace Go.Proofs.YtaklapcbbdcdpaaDoor.X
open Go Go.RowKit
set_option linter.unusedVariables false
set_option linter.unusedSimpArgs false
theorem selfs_get : ∀ (ro n j l : Nat), (selfs ro n).get j = some l ↔ l = j ∧ ro ≤ j ∧ j < ro + n
  | ro, 0, j, l => by simp [selfs, Bnd.get]
  | ro, n + 1, j, l => by
    simp only [selfs, Bnd.get]
    by_cases h : ro + n = j
    · subst h; simp; omega
    · have : (ro + n == j) = false := by simpa using h
      rw [this, if_neg (by simp), selfs_get ro n j l]; omega
theorem Bok_selfs (ro n : Nat) : Bok ro (ro + n) (selfs ro n) :=
  ⟨fun j l h => by have := (selfs_get ro n j l).1 h; omega, fun j j' l h h' => by have := (selfs_get ro n j l).1 h; have := (selfs_get ro n j' l).1 h'; omega, fun j l h _ => ((selfs_get ro n j l).1 h).1⟩
theorem get_mem : ∀ {B : Bnd} {j l : Nat}, B.get j = some l → (j, l) ∈ B
  | (i, m) :: r, j, l, h => by
    simp only [Bnd.get] at h
    split at h
    · rename_i e; simp only [beq_iff_eq] at e; simp only [Option.some.injEq] at h; subst e h; simp
    · exact List.mem_cons_of_mem _ (get_mem h)
  | [], j, l, h => by simp [Bnd.get] at h
section
variable {Z Z' : Nat → Prop} {w : World} {H H' : Heap} {ρ ρ' : Rho} {σ : Nat → Nat} {ro : Nat}
theorem Mt.low0 (m : Mt Z Z' w H ρ H' ρ' σ) (hσ : ∀ j, j < ro → σ j = j) (hro : ro ≤ H'.length) {c : C1} {v : Value} (hc : c.lt0 ro) (h : V0 Z H ρ w c v) : V0 Z' H' ρ' w c v := by
  cases c with
  | any => trivial
  | lit u => exact h
  | ptr l o => exact m.ptr (hσ l hc) (Nat.lt_of_lt_of_le hc hro) h
  | own l z => exact m.own (hσ l hc) (Nat.lt_of_lt_of_le hc hro) h
  | sl l z o n => exact m.part (hσ l hc) (Nat.lt_of_lt_of_le hc hro) h
  | ep l z i o =>
    have hl : l < ro := hc
    obtain ⟨h1, h2, h3⟩ := h
    refine ⟨Nat.lt_of_lt_of_le hl hro, h2, fun z2 n2 hr => ?_⟩
    obtain ⟨k1, k2⟩ := m.loc l (dim_live hr)
    have k3 := m.dim l _ hr
    rw [hσ l hl] at k2 k3
    rw [k2]; exact h3 _ _ k3
  | vp s xs i o =>
    obtain ⟨h1, ad, n, cap, h2, h3⟩ := h
    exact ⟨h1, ad, n, cap, m.R1 h2, h3⟩
  | vsl s xs => exact m.R1 h
  | fn f cs => exact h.elim
theorem Mt.low (m : Mt Z Z' w H ρ H' ρ' σ) (hσ : ∀ j, j < ro → σ j = j) (hro : ro ≤ H'.length) {c : C1} {v : Value} (hc : c.lt ro) (h : V1 Z H ρ w c v) : V1 Z' H' ρ' w c v := by
  cases c with
  | fn f cs =>
    obtain ⟨us, h1, h2⟩ := h
    exact ⟨us, h1, LR.imp_mem (fun c hc' b hb => m.low0 hσ hro (hc c hc') hb) h2⟩
  | any => trivial
  | lit u => exact h
  | ptr l o => exact m.low0 (c := .ptr l o) hσ hro hc h
  | own l z => exact m.low0 (c := .own l z) hσ hro hc h
  | sl l z o n => exact m.low0 (c := .sl l z o n) hσ hro hc h
  | ep l z i o => exact m.low0 (c := .ep l z i o) hσ hro hc h
  | vp s xs i o => exact m.low0 (c := .vp s xs i o) hσ hro hc h
  | vsl s xs => exact m.low0 (c := .vsl s xs) hσ hro hc h
end
/-- the objects that are only read lead to such ones alone -/
def RoOk (ro : Nat) (R : Heap) : Prop := ∀ l, l < ro → ∀ c ∈ (R.at l).cs, c.lt ro
theorem Sig_dec_ok {g : Sig} {ro kp : Nat} {ts : TS} {val : Nat → Value} {Z : Nat → Prop} {H : Heap} {ρ : Rho} {w : World} {q : g.T} {Hf : Heap} {Bf : Bnd} (hd : g.dec ro kp ts H = some (q, Hf, Bf)) (hkp : ro ≤ kp) (hR : Rel Z H ρ w)
    (hv : ∀ t, VA Z H ρ w (ts.get t) (val t)) (hro : ro ≤ H.length) (hRo : RoOk ro H) :
    ∃ ρf ρs, Rel Z Hf ρf w ∧ Frz H ρ Hf ρf ∧ (∀ j, j < ro → ρs j = ρ j) ∧ (∀ j l, Bf.get j = some l → ρs j = ρf l) ∧ Bok ro kp Bf ∧ (∀ j, ro ≤ j → j < kp → Bf.get j = some j) ∧ (∀ j, j < ro → Hf.at j = H.at j) ∧ kp ≤ ro + g.objs.length ∧
      (∀ i o, (OL.enc g.objs q.2)[i]? = some o → o.isLive = true → ∃ l, Bf.get (ro + i) = some l ∧ (Hf.at l).isLive = true ∧ (o.dim.isSome = true → Hf.at l = o) ∧ ∀ e cs, o = .cells e cs → ∃ cs', Hf.at l = .cells e cs') ∧
      (∀ k, own (H.take ro ++ OL.enc g.objs q.2) ρs k → own Hf ρf k) ∧
      ∀ Z' : Nat → Prop, (∀ k, A Z Hf ρf w k → ¬ Z' k) → (∀ k, Z' k → k < w.heap.size ∧ ¬ own (H.take ro ++ OL.enc g.objs q.2) ρs k) →
        Rel Z' (H.take ro ++ OL.enc g.objs q.2) ρs w ∧ ∀ t, VA Z' (H.take ro ++ OL.enc g.objs q.2) ρs w ((RL.enc g.roots q.1).get t) (val t) := by
  unfold Sig.dec at hd
  split at hd
  case isFalse => cases hd
  rename_i hk
  simp only [decide_eq_true_eq] at hk
  split at hd
  case h_2 => cases hd
  rename_i x H1 B1 h1
  split at hd
  case h_2 => cases hd
  rename_i y H2 B2 h2
  split at hd
  case isFalse => cases hd
  rename_i hc
  simp only [Bool.and_eq_true] at hc
  obtain ⟨hst, hkeys⟩ := hc
  simp only [Option.some.injEq, Prod.mk.injEq] at hd
  obtain ⟨rfl, rfl, rfl⟩ := hd
  have hkp' : ro + (kp - ro) = kp := by omega
  have hB0 := Bok_selfs ro (kp - ro)
  rw [hkp'] at hB0
  obtain ⟨ρ1, a1, a2, a3, a4, a5, a6⟩ := RL_dec_ok (val := val) h1 hR hv hB0
  obtain ⟨ρ2, b1, b2, b3, b4, b5, b6⟩ := OL_dec_ok h2 a1 a4
  have hB := b6 H2 ρ2 B2 (Frz.refl _ _) (fun _ _ h => h) hst b1
  have stay : ∀ j, j < ro → H2.at j = H.at j := fun j hj => (stays_trans a2 a3 b3 j hj).resolve_right (by omega)
  have hnn : (H.take ro ++ OL.enc g.objs y).length = ro + g.objs.length := by simp [OL_len]; omega
  have hlow : ∀ j, j < ro → Heap.at (H.take ro ++ OL.enc g.objs y) j = H.at j := fun j hj => by
    rw [at_append_lt (by simp; omega)]
    simp [Heap.at, List.getD_eq_getElem?_getD, List.getElem?_take, hj]
  have hhigh : ∀ i, Heap.at (H.take ro ++ OL.enc g.objs y) (ro + i) = ((OL.enc g.objs y)[i]?).getD .dead := fun i => by
    have e : (H.take ro).length = ro := by simp; omega
    simp only [Heap.at, List.getD_eq_getElem?_getD]
    rw [List.getElem?_append_right (by omega)]
    congr 2; omega
  have hlive : ∀ j, ro ≤ j → (Heap.at (H.take ro ++ OL.enc g.objs y) j).isLive = true → ∃ o, (OL.enc g.objs y)[j - ro]? = some o ∧ o.isLive = true ∧ Heap.at (H.take ro ++ OL.enc g.objs y) j = o := fun j hj hl => by
    have := hhigh (j - ro)
    rw [show ro + (j - ro) = j by omega] at this
    rw [this] at hl ⊢
    cases ho : (OL.enc g.objs y)[j - ro]? with
    | none => rw [ho] at hl; cases hl
    | some o => rw [ho] at hl; exact ⟨o, rfl, hl, rfl⟩
  let σ : Nat → Nat := fun j => if j < ro then j else (B2.get j).getD 0
  have hσ : ∀ j, j < ro → σ j = j := fun j hj => if_pos hj
  have hσ2 : ∀ j l, B2.get j = some l → σ j = l := fun j l h => by
    have := (b4.key j l h).1
    simp only [σ]
    rw [if_neg (by omega), h]; rfl
  have hag : Agr ro B2 σ (H.take ro ++ OL.enc g.objs y).length := ⟨hσ, hσ2, by rw [hnn]; omega, fun j l h => by
    rw [hnn]
    have := List.all_eq_true.1 hkeys _ (get_mem h)
    simpa using this⟩
  have hloc : ∀ j, (Heap.at (H.take ro ++ OL.enc g.objs y) j).isLive = true → (H2.at (σ j)).isLive = true := fun j hl => by
    rcases Nat.lt_or_ge j ro with hj | hj
    · rw [hσ j hj, stay j hj, ← hlow j hj]; exact hl
    · obtain ⟨o, ho, hol, _⟩ := hlive j hj hl
      obtain ⟨l, k1, k2, _⟩ := hB _ o ho hol
      rw [show ro + (j - ro) = j by omega] at k1
      rw [hσ2 j l k1]; exact k2
  have hrow : ∀ j d, (Heap.at (H.take ro ++ OL.enc g.objs y) j).dim = some d → (H2.at (σ j)).dim = some d := fun j d hr => by
    rcases Nat.lt_or_ge j ro with hj | hj
    · rw [hσ j hj, stay j hj, ← hlow j hj]; exact hr
    · obtain ⟨o, ho, hol, hat⟩ := hlive j hj (dim_live hr)
      obtain ⟨l, k1, k2, k3, _⟩ := hB _ o ho hol
      rw [show ro + (j - ro) = j by omega] at k1
      rw [hσ2 j l k1]
      rw [hat] at hr
      rw [k3.1 (by rw [hr]; rfl)]; exact hr
  have hown : ∀ k, own (H.take ro ++ OL.enc g.objs y) (fun j => ρ2 (σ j)) k → own H2 ρ2 k := by
    rintro k ⟨j, p, hl, hp, hf⟩
    exact ⟨σ j, p, hloc j hl, hp, hf⟩
  refine ⟨ρ2, fun j => ρ2 (σ j), b1, a2.trans b2, fun j hj => ?_, fun j l h => ?_, b4, fun j h3 h4 => b5 _ _ (a5 _ _ ((selfs_get ro (kp - ro) j j).2 ⟨rfl, h3, by omega⟩)), stay, hk, fun i o ho hl => ?_, hown, fun Z' hA hZ' => ?_⟩
  · show ρ2 (σ j) = ρ j
    rw [hσ j hj, ((a2.trans b2).old j (by omega)).1]
  · show ρ2 (σ j) = ρ2 l
    rw [hσ2 j l h]
  · obtain ⟨l, k1, k2, k3, _⟩ := hB i o ho hl
    exact ⟨l, k1, k2, k3.1, k3.2⟩
  · have mt : Mt Z Z' w H2 ρ2 (H.take ro ++ OL.enc g.objs y) (fun j => ρ2 (σ j)) σ :=
      ⟨fun k hk => ⟨hk.1, fun ho => hk.2.1 (hown k ho), hA k hk⟩, fun j hl => ⟨hloc j hl, rfl⟩, hrow⟩
    refine ⟨⟨fun j => ?_, fun j j' p p' kk hl hl' hp hp' hb hb' => ?_, fun j p k hl hp hk => b1.inn (σ j) p k (hloc j hl) hp hk, fun k hk => (hZ' k hk).1, fun k hk => (hZ' k hk).2, fun q x hq => by obtain ⟨h1, ad, n, cap, h2, h3⟩ := b1.gl q x hq; exact ⟨h1, ad, n, cap, mt.R1 h2, h3⟩⟩, fun t => a6 Z' H2 ρ2 _ _ σ B2 b2 b5 hag mt t⟩
    · rcases Nat.lt_or_ge j ro with hj | hj
      · have ho := b1.obj j
        rw [stay j hj] at ho
        rw [hlow j hj]
        cases hc : H.at j with
        | dead => trivial
        | cells e cs =>
          rw [hc] at ho
          obtain ⟨p, vs, k1, k2, k3, k4⟩ := ho
          exact ⟨p, vs, by show ρ2 (σ j) = _; rw [hσ j hj]; exact k1, k2, LR.imp_mem (fun c hcm b hb => mt.low hσ (by rw [hnn]; omega) (hRo j hj c (by rw [hc]; exact hcm)) hb) k3, k4⟩
        | row e s xs =>
          rw [hc] at ho
          rcases ho with ⟨k1, k2⟩ | ⟨p, cur, us, k1, k2, k3, k4, k5, k6, k7⟩
          · exact .inl ⟨k1, by show ρ2 (σ j) = _; rw [hσ j hj]; exact k2⟩
          · exact .inr ⟨p, cur, us, by show ρ2 (σ j) = _; rw [hσ j hj]; exact k1, k2, k3, k4, k5, k6, k7.imp fun _ _ => mt.R1⟩
        | nest e es s xs op =>
          rw [hc] at ho
          rcases ho with ⟨k1, k2, k3⟩ | ⟨p, cur, uss, pss, k1, k2⟩
          · exact .inl ⟨k1, k2, by show ρ2 (σ j) = _; rw [hσ j hj]; exact k3⟩
          · exact .inr ⟨p, cur, uss, pss, by show ρ2 (σ j) = _; rw [hσ j hj]; exact k1, k2.mono (fun _ _ => mt.R1) (fun i cs hop c hcm v hv => mt.low hσ (by rw [hnn]; omega) (hRo j hj c (by rw [hc, hop]; exact hcm)) hv) fun _ _ => rfl⟩
      · cases hl : (Heap.at (H.take ro ++ OL.enc g.objs y) j).isLive with
        | false => rw [dead_of (by rw [hl]; simp)]; trivial
        | true =>
          obtain ⟨o, ho, hol, hat⟩ := hlive j hj hl
          obtain ⟨l, k1, k2, k3, k4⟩ := hB _ o ho hol
          rw [hat]
          have := k4 Z' _ (fun j => ρ2 (σ j)) σ hag mt (by rw [show ro + (j - ro) = j by omega]; exact hat)
          rw [show ro + (j - ro) = j by omega] at this
          exact this
    · have he := b1.inj (σ j) (σ j') p p' kk (hloc j hl) (hloc j' hl') hp hp' hb hb'
      have hget : ∀ j, ro ≤ j → (Heap.at (H.take ro ++ OL.enc g.objs y) j).isLive = true → ∃ l, B2.get j = some l := fun j hj hl => by
        obtain ⟨o, ho, hol, _⟩ := hlive j hj hl
        obtain ⟨l, k1, _⟩ := hB _ o ho hol
        rw [show ro + (j - ro) = j by omega] at k1
        exact ⟨l, k1⟩
      rcases Nat.lt_or_ge j ro with hj | hj <;> rcases Nat.lt_or_ge j' ro with hj' | hj'
      · rwa [hσ j hj, hσ j' hj'] at he
      · obtain ⟨l', hl'⟩ := hget j' hj' hl'
        have := (b4.key j' l' hl').2
        rw [hσ j hj, hσ2 j' l' hl'] at he; omega
      · obtain ⟨l1, hl1⟩ := hget j hj hl
        have := (b4.key j l1 hl1).2
        rw [hσ j' hj', hσ2 j l1 hl1] at he; omega
      · obtain ⟨l1, hl1⟩ := hget j hj hl
        obtain ⟨l2, hl2⟩ := hget j' hj' hl'
        rw [hσ2 j l1 hl1, hσ2 j' l2 hl2] at he
        subst he
        exact b4.inj j j' l1 hl1 hl2
section
variable {P : Program} {X : Ctx P} {B : Base}
/-- a state taken into a form, within a function -/
theorem Inv.form {g : Sig} {ts : TS} {H : Heap} {a : Act} {w : World} {q : g.T} {Hf : Heap} {Bf : Bnd} (hkp : X.ro ≤ X.kp) (hRo : RoOk X.ro B.R) (hd : g.dec X.ro X.kp ts H = some (q, Hf, Bf)) (hI : Inv X B ts H a w) : Inv X B (RL.enc g.roots q.1) (B.R ++ OL.enc g.objs q.2) a w := by
  obtain ⟨ρ, hI⟩ := hI
  have hRo' : RoOk X.ro H := fun l hl c hc => hRo l hl c (by
    rw [← hI.ro]
    simp only [Heap.at, List.getD_eq_getElem?_getD, List.getElem?_take, hl, if_true] at hc ⊢
    exact hc)
  obtain ⟨ρf, ρs, k1, k2, k3, k4, k5, k6, k7, k8, k9, k10, k11⟩ := Sig_dec_ok hd hkp hI.rel hI.ts hI.rolen hRo'
  obtain ⟨m1, m2⟩ := k11 B.Z (fun k hk => hk.2.2) (fun k hk => ⟨hI.rel.zlt k hk, fun ho => k1.dis k hk (k10 k ho)⟩)
  rw [hI.ro] at m1 m2 k10
  have hlen : (B.R).length = X.ro := by rw [← hI.ro, List.length_take]; have := hI.rolen; omega
  refine ⟨ρs, m1, m2, hI.size, hI.defers, ?_, by simp [hlen], ?_, fun l hl hv => ?_⟩
  · rw [List.take_append_of_le_length (by omega), List.take_of_length_le (by omega)]
  · refine ⟨hI.since.os, hI.since.tape, hI.since.output, hI.since.size, hI.since.keep, fun k hk => ?_, fun l hl => ?_, by simp [hlen, OL_len]; omega, fun l hl d hr => ?_⟩
    · exact (k2.ext (w := w).own k (k10 k hk)).elim (hI.since.own k) fun h => .inr (Nat.le_trans hI.since.size h)
    · rw [← hI.since.rho l hl]
      rcases Nat.lt_or_ge l X.ro with h | h
      · exact cor_of (k3 l h)
      · exact cor_of ((k4 l l (k6 l h hl)).trans (k2.old l (Nat.lt_of_lt_of_le hl hI.since.len)).1)
    · refine hI.since.row l hl d ?_
      rcases Nat.lt_or_ge l X.ro with h | h
      · rw [at_append_lt (by omega)] at hr
        rw [← hI.ro] at hr
        simp only [Heap.at, List.getD_eq_getElem?_getD, List.getElem?_take, h, if_true] at hr ⊢
        exact hr
      · obtain ⟨o, hi, hod⟩ : ∃ o, (OL.enc g.objs q.2)[l - X.ro]? = some o ∧ o.dim = some d := by
          simp only [Heap.at, List.getD_eq_getElem?_getD] at hr
          rw [List.getElem?_append_right (by omega), hlen] at hr
          cases ho : (OL.enc g.objs q.2)[l - X.ro]? with
          | none => rw [ho] at hr; cases hr
          | some o => rw [ho] at hr; exact ⟨o, rfl, hr⟩
        obtain ⟨l', j1, j2, j3, _⟩ := k9 _ _ hi (dim_live hod)
        rw [show X.ro + (l - X.ro) = l by omega, k6 l h hl] at j1
        simp only [Option.some.injEq] at j1
        subst j1
        rw [← k2.live (Nat.lt_of_lt_of_le hl hI.since.len) j2]
        rw [j3 (by rw [hod]; rfl)]; exact hod
  · have hat : Heap.at (B.R ++ OL.enc g.objs q.2) l = H.at l := by
      rw [at_append_lt (by omega), ← hI.ro]
      simp [Heap.at, List.getD_eq_getElem?_getD, List.getElem?_take, hl]
    rw [hat] at hv
    obtain ⟨q1, q2⟩ := hI.rok l hl hv
    exact ⟨(k3 l hl).trans q1, fun p k hp hf => by rw [k3 l hl] at hp; exact q2 p k hp hf⟩
theorem Inv.home1 {ts : TS} {H : Heap} {a : Act} {w : World} {t l z n : Nat} {e : TypeId} {s : Sh} {xs ys : List s.T} {c : C1} (h1 : X.ro ≤ l) (hr : H.at l = .row e s xs) (hys : ys = xs.take n) (hg : ts.get t = .one c) (hc : c = .sl l z 0 n ∨ (c = .own l z ∧ n = xs.length)) (hI : Inv X B ts H a w) : Inv X B ((t, .one (.own H.length z)) :: ts) (H.set l .dead ++ [.row e s ys]) a w := by
  obtain ⟨ρ, hI⟩ := hI
  have hlive : (H.at l).isLive = true := by rw [hr]; rfl
  have hn : n ≤ xs.length := by
    have h0 := hI.ts t
    rw [hg] at h0
    rcases hc with rfl | ⟨rfl, hxl⟩
    · obtain ⟨g1, g2, g3⟩ := (h0 : _ ∧ _ ∧ _)
      have := (g3 _ _ (dim_row hr)).2.1
      omega
    · omega
  have hyl : ys.length = n := by rw [hys, List.length_take]; omega
  have hlt := at_lt hlive
  have hlen : (H.set l .dead).length = H.length := by simp
  have hold : ∀ k, k < H.length → Heap.at (H.set l .dead ++ [.row e s ys]) k = if k = l then .dead else H.at k := fun k hk => by
    rw [at_append_lt (by rw [hlen]; exact hk)]
    by_cases e : k = l
    · subst e; rw [if_pos rfl, at_set_same hk]
    · rw [if_neg e, at_set_ne (fun q => e q.symm)]
  have hnew : Heap.at (H.set l .dead ++ [.row e s ys]) H.length = .row e s ys := by rw [← hlen]; exact at_new
  have hcase : ∀ k, (Heap.at (H.set l .dead ++ [.row e s ys]) k).isLive = true → (k < H.length ∧ k ≠ l ∧ Heap.at (H.set l .dead ++ [.row e s ys]) k = H.at k) ∨ k = H.length := fun k hv => by
    have hk := at_lt hv
    simp only [List.length_append, List.length_set, List.length_singleton] at hk
    rcases Nat.lt_or_ge k H.length with h | h
    · have := hold k h
      by_cases e : k = l
      · rw [if_pos e] at this; rw [this] at hv; cases hv
      · rw [if_neg e] at this; exact .inl ⟨h, e, this⟩
    · exact .inr (by omega)
  have hrho : ∀ k, k < H.length → put ρ H.length (ρ l) k = ρ k := fun k hk => put_lt ρ _ _ hk
  have ex : Ext H ρ w (H.set l .dead ++ [.row e s ys]) (put ρ H.length (ρ l)) w := by
    refine ⟨rfl, rfl, rfl, Nat.le_refl _, fun _ _ _ => rfl, ?_, by simp, fun k hk => cor_of (hrho k hk), fun k hk hv => ?_, fun k hk d hat => ?_⟩
    · rintro k ⟨j, p, hj, hp, hf⟩
      rcases hcase j hj with ⟨a1, a2, a3⟩ | rfl
      · rw [a3] at hj; rw [hrho j a1] at hp; exact .inl ⟨j, p, hj, hp, hf⟩
      · rw [put_same] at hp; exact .inl ⟨l, p, hlive, hp, hf⟩
    · rcases hcase k hv with ⟨a1, a2, a3⟩ | h
      · rwa [a3] at hv
      · omega
    · rcases hcase k (dim_live hat) with ⟨a1, a2, a3⟩ | h
      · rw [a3] at hat; exact hat
      · omega
  have ho : Holds B.Z (H.set l .dead ++ [.row e s ys]) (put ρ H.length (ρ l)) w H.length (.row e s ys) := by
    have h0 := hI.rel.obj l
    rw [hr] at h0
    have hpre : xs.flatMap s.dv = ys.flatMap s.dv ++ (xs.drop n).flatMap s.dv := by rw [hys, ← List.flatMap_append, List.take_append_drop]
    rcases h0 with ⟨k1, k2⟩ | ⟨p, cur, us, k1, k2, k3, k4, k5, k6, k7⟩
    · exact .inl ⟨by rw [hys, k1]; simp, by rw [put_same]; exact k2⟩
    · refine .inr ⟨p, cur, us.take (ys.flatMap s.dv).length, by rw [put_same]; exact k1, k2, k3, by omega, k5, fun j v hj => k6 j v ?_, ?_⟩
      · rw [List.getElem?_take] at hj
        split at hj
        · exact hj
        · cases hj
      · have := (k7.take (ys.flatMap s.dv).length).imp fun _ _ => ex.R1
        rw [hpre, List.take_left] at this
        exact this
  have hrel : Rel B.Z (H.set l .dead ++ [.row e s ys]) (put ρ H.length (ρ l)) w := by
    refine hI.rel.step ex (fun k hv => ?_) (fun k k' p p' kk hk hv hv' hp hp' hb hb' => ?_)
    · rcases hcase k hv with ⟨a1, a2, a3⟩ | rfl
      · exact .inl ⟨a1, a3, hrho k a1, fun _ _ _ _ => rfl⟩
      · rw [hnew]
        exact .inr ⟨ho, fun p kk hp hk => by rw [put_same] at hp; exact hI.rel.inn l p kk hlive hp hk⟩
    · rcases hcase k hv with ⟨a1, a2, a3⟩ | rfl
      · exact absurd ⟨a1, hrho k a1⟩ hk
      · rcases hcase k' hv' with ⟨a1, a2, a3⟩ | rfl
        · rw [put_same] at hp
          rw [hrho k' a1] at hp'
          rw [a3] at hv'
          exact absurd (hI.rel.inj l k' p p' kk hlive hv' hp hp' hb hb').symm a2
        · rfl
  refine ⟨put ρ H.length (ρ l), hrel, fun u => ?_, hI.size, hI.defers, ?_, by simp only [List.length_append, List.length_set, List.length_singleton]; have := hI.rolen; omega, hI.since.step ex, fun k hk hv => ?_⟩
  · rw [get_put]
    split
    · rename_i e
      subst e
      have h0 := hI.ts t
      rw [hg] at h0
      rcases hc with rfl | ⟨rfl, hxl⟩
      · obtain ⟨g1, g2, g3⟩ := (h0 : _ ∧ _ ∧ _)
        refine ⟨by simp, g2, fun z2 n2 hat => ?_⟩
        rw [hnew] at hat
        cases hat
        obtain ⟨q1, _, q2⟩ := g3 _ _ (dim_row hr)
        refine ⟨q1, ?_⟩
        unfold SlAt at q2 ⊢
        rw [put_same, hyl]; exact q2
      · obtain ⟨g1, g2, g3⟩ := (h0 : _ ∧ _ ∧ _)
        refine ⟨by simp, g2, fun z2 n2 hat => ?_⟩
        rw [hnew] at hat
        cases hat
        obtain ⟨q1, q2⟩ := g3 _ _ (dim_row hr)
        refine ⟨q1, ?_⟩
        unfold SlAt at q2 ⊢
        rw [put_same, hyl, hxl]; exact q2
    · exact ex.VA (hI.ts u)
  · rw [← hI.ro]
    apply List.ext_getElem?
    intro i
    simp only [List.getElem?_take]
    split
    · rename_i hi
      rw [List.getElem?_append_left (by simp only [List.length_set]; have := hI.rolen; omega), List.getElem?_set_ne (by omega)]
    · rfl
  · have hk' : k < H.length := by have := hI.rolen; omega
    rcases hcase k hv with ⟨a1, a2, a3⟩ | h
    · rw [a3] at hv
      obtain ⟨q1, q2⟩ := hI.rok k hk hv
      exact ⟨(hrho k hk').trans q1, fun p kk hp hf => by rw [hrho k hk'] at hp; exact q2 p kk hp hf⟩
    · omega
theorem isRow_at {o : AO} (h : o.isRow = true) : ∃ e s, ∃ xs : List s.T, o = .row e s xs := by
  cases o with
  | row e s xs => exact ⟨e, s, xs, rfl⟩
  | _ => cases h
theorem Inv.homes {objs : List OS} : ∀ {rs : List Root} {ts : TS} {H : Heap} {a : Act} {w : World}, Inv X B ts H a w → Inv X B (rehome X.ro X.kp objs rs ts H).1 (rehome X.ro X.kp objs rs ts H).2 a w
  | [], ts, H, a, w, h => h
  | r :: rs, ts, H, a, w, h => by
    simp only [rehome]
    split
    · rename_i l z _ hg
      split
      · rename_i hc
        simp only [Bool.and_eq_true, decide_eq_true_eq] at hc
        obtain ⟨e, s, xs, hat⟩ := isRow_at hc.2
        have := Inv.home1 (n := xs.length) (ys := xs) hc.1.1.1 hat (by simp) hg (.inr ⟨rfl, rfl⟩) h
        rw [← hat] at this
        exact Inv.homes this
      · exact Inv.homes h
    · rename_i l z off n _ hg
      split
      · rename_i e s xs hat
        split
        · rename_i hc
          simp only [Bool.and_eq_true, decide_eq_true_eq, beq_iff_eq] at hc
          obtain ⟨h1, rfl⟩ := hc
          exact Inv.homes (Inv.home1 h1 hat rfl hg (.inl rfl) h)
        · exact Inv.homes h
      · exact Inv.homes h
    · exact Inv.homes h
theorem Inv.formh {g : Sig} {ts : TS} {H : Heap} {a : Act} {w : World} {q : g.T} {Hf : Heap} {Bf : Bnd} (hkp : X.ro ≤ X.kp) (hRo : RoOk X.ro B.R) (hd : g.deh X.ro X.kp ts H = some (q, Hf, Bf)) (hI : Inv X B ts H a w) : Inv X B (RL.enc g.roots q.1) (B.R ++ OL.enc g.objs q.2) a w :=
  Inv.form hkp hRo hd (Inv.homes hI.tidy)
end
end Go.Proofs.YtaklapcbbdcdpaaDoor.X
