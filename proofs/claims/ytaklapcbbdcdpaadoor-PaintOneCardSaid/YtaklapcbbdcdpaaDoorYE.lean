import Derived.Test.YtaklapcbbdcdpaaDoorYD
namespace Go.Proofs.YtaklapcbbdcdpaaDoor.X
open Go Go.RowKit
set_option linter.unusedVariables false
set_option linter.unusedSimpArgs false
theorem OL_get : ∀ (os : List OS) (y : OL.T os) (i : Nat) (a : AO), (OL.enc os y)[i]? = some a → ∃ (o : OS) (x : o.T), os[i]? = some o ∧ a = o.enc x
  | [], y, i, a, h => by simp [OL.enc] at h
  | o :: os, y, 0, a, h => by simp [OL.enc] at h; exact ⟨o, y.1, rfl, h.symm⟩
  | o :: os, y, i + 1, a, h => by
    obtain ⟨o', x, h1, h2⟩ := OL_get os y.2 i a (by simpa [OL.enc] using h)
    exact ⟨o', x, by simpa using h1, h2⟩
theorem OS_here_live {o : OS} {x : o.T} (h : o.here = true) : (o.enc x).isLive = true := by cases o <;> first | rfl | cases h
theorem at_eq_get {H : Heap} {i : Nat} : H.at i = (H[i]?).getD .dead := by simp [Heap.at, List.getD_eq_getElem?_getD]
theorem ren_dim (σ : Nat → Nat) (o : AO) : (o.ren σ).dim = o.dim := by cases o <;> rfl
theorem enumTS_get : ∀ (args : List AV) (i t : Nat), (enumTS i args).get t = if i ≤ t then args.getD (t - i) (.one .any) else .one .any
  | [], i, t => by simp [enumTS, TS.get]
  | v :: args, i, t => by
    simp only [enumTS, get_put, enumTS_get args (i + 1) t]
    by_cases h : i = t
    · subst h; simp
    · rw [if_neg h]
      by_cases h2 : i + 1 ≤ t
      · rw [if_pos h2, if_pos (by omega), show t - i = (t - (i + 1)) + 1 by omega]; rfl
      · rw [if_neg h2, if_neg (by omega)]
theorem answers_ok {Z Z' : Nat → Prop} {w : World} {H H' : Heap} {ρ ρ' : Rho} {σ : Nat → Nat} {flat : Bool} (b : Back Z Z' w H ρ H' ρ' σ flat) : ∀ (rs : List Root) (x : RL.T rs) (i : Nat) (vs : List Value), rs.map (·.t) = List.range' i rs.length → (∀ j ∈ rs.flatMap (fun r => r.vs.flatMap VS.refs), (H.at j).isLive = true) → (flat = true → rs.all (fun r => r.vs.all VS.flat) = true) →
    (∀ t, i ≤ t → VA Z H ρ w ((RL.enc rs x).get t) (vs.getD (t - i) undef)) → vs.length = rs.length → LR (V2 Z' H' ρ' w) (answers σ (RL.enc rs x)) vs
  | [], x, i, vs, _, _, _, _, hl => by
    obtain rfl : vs = [] := List.eq_nil_of_length_eq_zero (by simpa using hl)
    trivial
  | r :: rs, x, i, [], _, _, _, _, hl => by simp at hl
  | r :: rs, x, i, v :: vs, ht, hr, hf, hv, hl => by
    simp only [List.map_cons, List.length_cons, List.range'_succ, List.cons.injEq] at ht
    have hrest := answers_ok b rs x.2 (i + 1) vs ht.2 (fun j hj => hr j (by simp only [List.flatMap_cons, List.mem_append]; exact .inr hj)) (fun h => by have := hf h; simp only [List.all_cons, Bool.and_eq_true] at this; exact this.2) (fun t h => by
      have := hv t (by omega)
      simp only [RL.enc, get_put] at this
      rw [if_neg (fun e => absurd (ht.1.symm.trans e) (Nat.ne_of_lt h)), show t - i = (t - (i + 1)) + 1 by omega] at this
      exact this) (by simpa using hl)
    refine ⟨?_, hrest⟩
    have h0 := hv i (Nat.le_refl _)
    simp only [RL.enc, get_put] at h0
    rw [if_pos ht.1, Nat.sub_self] at h0
    have h1 : V2 Z H ρ w (mkA r.agg (VL.enc r.vs x.1)) v := h0
    have cell : ∀ c ∈ VL.enc r.vs x.1, ∀ u, V1 Z H ρ w c u → V1 Z' H' ρ' w (c.ren σ) u := fun c hc u hu => by
      have h2 := VL_formed r.vs x.1 c hc
      exact b.V1 h2.1 (fun h => h2.2 (by have := hf h; simp only [List.all_cons, Bool.and_eq_true] at this; exact this.1)) (VL_locs (p := fun l => (H.at l).isLive = true) r.vs x.1 (fun j hj => hr j (by simp only [List.flatMap_cons, List.mem_append]; exact .inl hj)) c hc) hu
    show V2 Z' H' ρ' w ((mkA r.agg (VL.enc r.vs x.1)).ren σ) v
    generalize hE : VL.enc r.vs x.1 = E at h1 cell ⊢
    unfold mkA at h1 ⊢
    split at h1
    · exact cell _ (by simp) _ h1
    · obtain ⟨us, h2, h3⟩ := h1
      exact ⟨us, h2, LR.of_map_left (LR.imp_mem (fun c hc u hu => cell c hc u hu) h3)⟩
/-- the call -/
theorem call_ok0 {P : Program} {ti : TI} {tb : List (Entry P)} (hT : TIok P ti) (hE : ∀ e ∈ tb, EOk P e) (hN : ∀ e ∈ tb, ENat e) (hM : P.follows .mixedOrders = true) (F : Fm) {fn : Func} {nf : Nat} (k : Nat) (hfn : P.funcs[nf]? = some fn) {β : Type} (args : List AV) (H : Heap) (K : KO β) (r : β) (Z : Nat → Prop) (ρ : Rho) (w : World) (cargs : Array Value)
    (h : callRun0 F (runFn P ti tb F fn k) args H K = some r) (hR : Rel Z H ρ w) (hargs : LR (VA Z H ρ w) args cargs.toList) :
    ∃ v U N, K v U N = some r ∧ Calls P nf cargs w (fun e w' => ∃ cv, e = .returned cv ∧ OK Z H ρ w v U N cv w') := by
  unfold callRun0 at h
  split at h
  case isFalse => cases h
  rename_i hc
  simp only [Bool.and_eq_true, beq_iff_eq, Fm.callOk, decide_eq_true_eq] at hc
  obtain ⟨⟨⟨hro, hhere⟩, hrefs⟩, hlen⟩ := hc
  split at h
  case h_2 => cases h
  rename_i g H1 B hd
  obtain ⟨q, hq, hK⟩ := Option.bind_eq_some_iff.1 h
  have hval : ∀ t, VA Z H ρ w ((enumTS 0 args).get t) (cargs.getD t undef) := fun t => by
    rw [enumTS_get, if_pos (Nat.zero_le _), Nat.sub_zero]
    rcases Nat.lt_or_ge t args.length with h1 | h1
    · have h2 : t < cargs.toList.length := by rw [← hargs.length]; exact h1
      have := hargs.get (List.getElem?_eq_getElem h1) (List.getElem?_eq_getElem h2)
      rw [List.getD_eq_getElem?_getD, List.getElem?_eq_getElem h1, Array.getD_eq_getD_getElem?, ← Array.getElem?_toList, List.getElem?_eq_getElem h2]
      exact this
    · rw [List.getD_eq_getElem?_getD, List.getElem?_eq_none h1]; trivial
  obtain ⟨ρf, ρs, c1, c2, _, c4, c5, _, _, _, c9, c10, c11⟩ := Sig_dec_ok (val := fun t => cargs.getD t undef) hd (Nat.le_refl 0) hR hval (Nat.zero_le _) (fun l hl => absurd hl (Nat.not_lt_zero l))
  simp only [List.take_zero, List.nil_append, Nat.zero_add] at c9 c10 c11
  let Zx : Nat → Prop := fun k => Z k ∨ (own H1 ρf k ∧ ¬ own (OL.enc F.pre.objs g.2) ρs k)
  obtain ⟨d1, d2⟩ := c11 Zx (fun k hk hz => hz.elim hk.2.2 fun h => hk.2.1 h.1) (fun k hz => hz.elim (fun h => ⟨hR.zlt k h, fun ho => c1.dis k h (c10 k ho)⟩) fun h => ⟨c1.own_lt h.1, h.2⟩)
  have hcsz : cargs.size = F.pre.roots.length := by rw [hlen, hargs.length]; simp
  refine ⟨_, _, _, hK, (runFn_ok hT hE hN hM hfn hq d1 d2 hcsz).mono fun e w' hpost => ?_⟩
  obtain ⟨vs, rfl, hvl, hvt, ρs', hs, hR', hrok, hva⟩ := hpost
  refine ⟨_, rfl, ?_⟩
  -- names
  generalize hnE : F.pre.objs.length = n at *
  generalize hosE : OL.enc F.post.objs q.2 = os at *
  generalize hH0E : OL.enc F.pre.objs g.2 = H0 at *
  generalize hσE : callσ n H1.length B = σ at *
  have h0len : H0.length = n := by rw [← hH0E, OL_len, hnE]
  have hkp : n ≤ F.ro + os.length := by
    have := hs.len
    simp only [List.length_append, List.length_take, h0len] at this; omega
  have hlive0 : ∀ j, j < n → (H0.at j).isLive = true := fun j hj => by
    have hx : H0[j]? = some H0[j] := List.getElem?_eq_getElem (by omega)
    obtain ⟨o, x, o1, o2⟩ := OL_get F.pre.objs g.2 j _ (by rw [hH0E]; exact hx)
    rw [at_eq_get, hx, Option.getD_some, o2]
    exact OS_here_live (List.all_eq_true.1 hhere o (List.mem_of_getElem? o1))
  have hB : ∀ j, j < n → ∃ l, B.get j = some l ∧ l < H1.length ∧ (H1.at l).isLive = true ∧ ((H0.at j).dim.isSome = true → H1.at l = H0.at j) ∧ ∀ e cs, H0.at j = .cells e cs → ∃ cs', H1.at l = .cells e cs' := fun j hj => by
    have hx : H0[j]? = some H0[j] := List.getElem?_eq_getElem (by omega)
    have hv := hlive0 j hj
    have he : H0.at j = H0[j] := by rw [at_eq_get, hx]; rfl
    rw [he] at hv ⊢
    obtain ⟨l, l1, l2, l3, l4⟩ := c9 j _ hx hv
    exact ⟨l, l1, at_lt l2, l2, l3, l4⟩
  have hσlo : ∀ j l, j < n → B.get j = some l → σ j = l := fun j l hj hl => by rw [← hσE]; simp [callσ, hj, hl]
  have hσhi : ∀ j, n ≤ j → σ j = H1.length + (j - n) := fun j hj => by rw [← hσE]; simp only [callσ]; rw [if_neg (by omega)]
  let Hx : Heap := H0.take F.ro ++ os
  have hxlo : ∀ j, j < F.ro → Hx.at j = H0.at j := fun j hj => by
    show Heap.at (H0.take F.ro ++ os) j = _
    rw [at_append_lt (by simp; omega)]
    simp [Heap.at, List.getD_eq_getElem?_getD, List.getElem?_take, hj]
  have hxhi : ∀ i, Hx.at (F.ro + i) = (os[i]?).getD .dead := fun i => by
    show Heap.at (H0.take F.ro ++ os) (F.ro + i) = _
    rw [at_eq_get, List.getElem?_append_right (by simp; omega)]
    congr 2; simp; omega
  -- what is written
  let Wr : Upd := writes B σ F.ro (os.take (n - F.ro))
  have hWr : ∀ u, u ∈ Wr ↔ ∃ i o, i < n - F.ro ∧ os[i]? = some o ∧ B.get (F.ro + i) = some u.1 ∧ u.2 = o.ren σ := fun u => by
    rw [show (u ∈ Wr ↔ _) = (u ∈ writes B σ F.ro (os.take (n - F.ro)) ↔ _) from rfl, mem_writes]
    constructor
    · rintro ⟨i, o, h1, h2⟩
      rw [List.getElem?_take] at h1
      split at h1
      · rename_i hi; exact ⟨i, o, hi, h1, h2⟩
      · cases h1
    · rintro ⟨i, o, hi, h1, h2⟩
      exact ⟨i, o, by rw [List.getElem?_take, if_pos hi]; exact h1, h2⟩
  have hWu : ∀ u ∈ Wr, ∀ v ∈ Wr, u.1 = v.1 → u = v := fun u hu v hv e => by
    obtain ⟨i, o, _, h1, h2, h3⟩ := (hWr u).1 hu
    obtain ⟨i', o', _, h1', h2', h3'⟩ := (hWr v).1 hv
    rw [e] at h2
    have := c5.inj _ _ _ h2 h2'
    have : i = i' := by omega
    subst this
    rw [h1] at h1'; cases h1'
    exact Prod.ext e (h3.trans h3'.symm)
  let wk : Nat → Prop := fun l => ∃ j, F.ro ≤ j ∧ j < n ∧ B.get j = some l
  have hwkW : ∀ l, (∃ u ∈ Wr, u.1 = l) ↔ wk l := fun l => by
    constructor
    · rintro ⟨u, hu, rfl⟩
      obtain ⟨i, o, hi, h1, h2, _⟩ := (hWr u).1 hu
      exact ⟨F.ro + i, by omega, by omega, h2⟩
    · rintro ⟨j, j1, j2, j3⟩
      have hx : os[j - F.ro]? = some os[j - F.ro] := List.getElem?_eq_getElem (by omega)
      exact ⟨(l, (os[j - F.ro]).ren σ), (hWr _).2 ⟨j - F.ro, _, by omega, hx, by rw [show F.ro + (j - F.ro) = j by omega]; exact j3, rfl⟩, rfl⟩
  have hwkV : ∀ j l, F.ro ≤ j → j < n → B.get j = some l → (l, (Hx.at j).ren σ) ∈ Wr := fun j l j1 j2 j3 => by
    have hx : os[j - F.ro]? = some os[j - F.ro] := List.getElem?_eq_getElem (by omega)
    have := hxhi (j - F.ro)
    rw [show F.ro + (j - F.ro) = j by omega, hx, Option.getD_some] at this
    rw [this]
    exact (hWr _).2 ⟨j - F.ro, _, by omega, hx, by rw [show F.ro + (j - F.ro) = j by omega]; exact j3, rfl⟩
  let U : Upd := (if F.post.flat then [] else ended H1 0 H) ++ Wr.filter fun u => decide (u.1 < H.length)
  let Ns : List AO := (Heap.upd H1 Wr).drop H.length ++ (os.drop (n - F.ro)).map (AO.ren σ)
  show OK Z H ρ w _ U Ns _ w'
  have hle := c2.len
  have hWlen : (H.upd U ++ Ns).length = H1.length + (os.length - (n - F.ro)) := by
    simp only [Ns, List.length_append, upd_len, List.length_drop, List.length_map]; omega
  have hkill : ∀ l, l < H.length → Heap.at (H.upd (if F.post.flat then [] else ended H1 0 H)) l = if F.post.flat then H.at l else H1.at l := fun l hl => by
    split
    · rfl
    · by_cases hk : ∃ u ∈ ended H1 0 H, u.1 = l
      · obtain ⟨u, hu, hul⟩ := hk
        have hh := mem_ended.1 hu
        rw [upd_keys (ended H1 0 H) H l ⟨u, hu, hul⟩ (fun a ha b hb e1 e2 => Prod.ext (e1.trans e2.symm) ((mem_ended.1 ha).1.trans (mem_ended.1 hb).1.symm)) hl u hu hul, hh.1]
        obtain ⟨_, kk, o, _, _, h3, h4⟩ := hh
        rw [← hul, h4]; exact h3.symm
      · rw [upd_other _ _ _ fun u hu e => hk ⟨u, hu, e⟩]
        rcases (c2.old l hl).2 with h1 | h1
        · exact h1.symm
        · cases hv : (H.at l).isLive with
          | false => rw [h1, dead_of (by rw [hv]; simp)]
          | true =>
            exfalso
            refine hk ⟨(l, .dead), mem_ended.2 ⟨rfl, l, H.at l, ?_, hv, by simpa using h1, by simp⟩, rfl⟩
            rw [at_eq_get, List.getElem?_eq_getElem hl]; rfl
  have hWw : ∀ j l, F.ro ≤ j → j < n → B.get j = some l → Heap.at (H.upd U ++ Ns) l = (Hx.at j).ren σ := fun j l j1 j2 j3 => by
    obtain ⟨l', l1, l2, _⟩ := hB j j2
    rw [j3] at l1; cases l1
    have hm := hwkV j l j1 j2 j3
    rcases Nat.lt_or_ge l H.length with hl | hl
    · rw [at_append_lt (by rw [upd_len]; exact hl), upd_append]
      have hm' : (l, (Hx.at j).ren σ) ∈ Wr.filter fun u => decide (u.1 < H.length) := List.mem_filter.2 ⟨hm, by simpa using hl⟩
      exact upd_keys _ _ l ⟨_, hm', rfl⟩ (fun a ha b hb e1 e2 => hWu a (List.mem_filter.1 ha).1 b (List.mem_filter.1 hb).1 (e1.trans e2.symm)) (by rw [upd_len]; exact hl) _ hm' rfl
    · have e1 : Heap.at (H.upd U ++ Ns) l = Heap.at (Heap.upd H1 Wr) l := by
        rw [at_eq_get, List.getElem?_append_right (by rw [upd_len]; exact hl), upd_len]
        simp only [Ns]
        rw [List.getElem?_append_left (by simp [upd_len]; omega), List.getElem?_drop, at_eq_get]
        congr 2; omega
      rw [e1]
      exact upd_keys _ _ l ⟨_, hm, rfl⟩ (fun a ha b hb e1 e2 => hWu a ha b hb (e1.trans e2.symm)) l2 _ hm rfl
  have hWu1 : ∀ l, l < H.length → ¬ wk l → Heap.at (H.upd U ++ Ns) l = if F.post.flat then H.at l else H1.at l := fun l hl hn => by
    rw [at_append_lt (by rw [upd_len]; exact hl), upd_append, upd_other _ _ _ fun u hu e => hn ((hwkW l).1 ⟨u, (List.mem_filter.1 hu).1, e⟩)]
    exact hkill l hl
  have hWu2 : ∀ l, H.length ≤ l → l < H1.length → ¬ wk l → Heap.at (H.upd U ++ Ns) l = H1.at l := fun l hl hl2 hn => by
    rw [at_eq_get, List.getElem?_append_right (by rw [upd_len]; exact hl), upd_len]
    simp only [Ns]
    rw [List.getElem?_append_left (by simp [upd_len]; omega), List.getElem?_drop, show H.length + (l - H.length) = l by omega, ← at_eq_get]
    exact upd_other _ _ _ fun u hu e => hn ((hwkW l).1 ⟨u, hu, e⟩)
  have hWn : ∀ i, Heap.at (H.upd U ++ Ns) (H1.length + i) = (Hx.at (n + i)).ren σ := fun i => by
    have h1 := hxhi (n - F.ro + i)
    rw [show F.ro + (n - F.ro + i) = n + i by omega] at h1
    rw [h1, at_eq_get, List.getElem?_append_right (by rw [upd_len]; omega), upd_len]
    simp only [Ns]
    rw [List.getElem?_append_right (by simp [upd_len]; omega), List.getElem?_map, List.getElem?_drop]
    have : H1.length + i - H.length - (List.drop H.length (Heap.upd H1 Wr)).length = i := by simp [upd_len]; omega
    rw [this]
    cases os[n - F.ro + i]? <;> rfl
  have hWlive : ∀ l, l < H.length → ¬ wk l → (Heap.at (H.upd U ++ Ns) l).isLive = true → Heap.at (H.upd U ++ Ns) l = H.at l := fun l hl hn hv => by
    rw [hWu1 l hl hn] at hv ⊢
    split
    · rfl
    · rename_i hf
      rw [if_neg hf] at hv
      exact c2.live hl hv
  have hwklt : ∀ l, wk l → l < H1.length := fun l ⟨j, _, j2, j3⟩ => by
    obtain ⟨l', l1, l2, _⟩ := hB j j2
    rw [j3] at l1; cases l1; exact l2
  let ρ2 : Rho := open Classical in fun l => if h : wk l then ρs' h.choose else if l < H1.length then ρf l else ρs' (n + (l - H1.length))
  have hρw : ∀ j l, F.ro ≤ j → j < n → B.get j = some l → ρ2 l = ρs' j := fun j l j1 j2 j3 => by
    have hw : wk l := ⟨j, j1, j2, j3⟩
    simp only [ρ2]
    rw [dif_pos hw, c5.inj _ _ _ hw.choose_spec.2.2 j3]
  have hρlo : ∀ l, l < H1.length → ¬ wk l → ρ2 l = ρf l := fun l hl hn => by simp only [ρ2]; rw [dif_neg hn, if_pos hl]
  have hρhi : ∀ i, ρ2 (H1.length + i) = ρs' (n + i) := fun i => by
    simp only [ρ2]
    rw [dif_neg (fun hw => by have := hwklt _ hw; omega), if_neg (by omega)]; congr 2; omega
  have hfnone : ∀ l, H.length ≤ l → (H1.at l).isLive = true → ρf l = none := c2.new
  have hnwk : ∀ j l, j < F.ro → B.get j = some l → ¬ wk l := fun j l hj hl ⟨j', j1, _, j3⟩ => by
    have := c5.inj j j' l hl j3; omega
  have hρj : ∀ j l, j < n → B.get j = some l → ρ2 l = ρs' j := fun j l hj hl => by
    rcases Nat.lt_or_ge j F.ro with h | h
    · obtain ⟨l', l1, l2, _⟩ := hB j hj
      rw [hl] at l1; cases l1
      rw [hρlo l l2 (hnwk j l h hl), (hrok j h (hlive0 j hj)).1, c4 j l hl]
    · exact hρw j l h hj hl
  have hρc : ∀ l, l < H1.length → cor ρ2 l = cor ρf l := fun l hl => by
    by_cases hn : wk l
    · obtain ⟨j, j1, j2, j3⟩ := hn
      exact (cor_of (hρw j l j1 j2 j3)).trans ((hs.rho j j2).trans (cor_of (c4 j l j3)))
    · exact cor_of (hρlo l hl hn)
  have hownH : ∀ {l p k}, l < H.length → (H.at l).isLive = true → ρ l = some p → p.foot k → own (OL.enc F.pre.objs g.2) ρs k → ∃ j, j < n ∧ B.get j = some l := by
    rintro l p k hl hv hp hf ⟨j, p', hj, hp', hb⟩
    rw [hH0E] at hj
    have hjn : j < n := by have := at_lt hj; omega
    obtain ⟨l', l1, l2, l3, _⟩ := hB j hjn
    rw [c4 j l' l1] at hp'
    have hl'H : l' < H.length := by
      rcases Nat.lt_or_ge l' H.length with h | h
      · exact h
      · rw [hfnone l' h l3] at hp'; cases hp'
    have hv' : (H.at l').isLive = true := by rw [← c2.live hl'H l3]; exact l3
    rw [(c2.old l' hl'H).1] at hp'
    have := hR.inj l' l p' p k hv' hv hp' hp hb hf
    subst this
    exact ⟨j, hjn, l1⟩
  have hblk : ∀ l p k, l < H.length → ¬ wk l → (H.at l).isLive = true → ρ l = some p → p.foot k → w'.heap[k]? = w.heap[k]? := fun l p k hl hn hv hp hf => by
    by_cases ho : own (OL.enc F.pre.objs g.2) ρs k
    · obtain ⟨j, hj, hjl⟩ := hownH hl hv hp hf ho
      have hjr : j < F.ro := by
        rcases Nat.lt_or_ge j F.ro with h | h
        · exact h
        · exact absurd ⟨j, h, hj, hjl⟩ hn
      exact (hrok j hjr (hlive0 j hj)).2 p k (by rw [c4 j l hjl, (c2.old l hl).1]; exact hp) hf
    · rw [hH0E] at ho
      exact hs.keep k (hR.foot_lt hv hp hf) ho
  have hxlive : ∀ j, j < n → F.ro ≤ j ∨ (Hx.at j).isLive = true := fun j hj => by
    rcases Nat.lt_or_ge j F.ro with h | h
    · right; rw [hxlo j h]; exact hlive0 j hj
    · exact .inl h
  -- the step in memory
  have hext : Ext H ρ w (H.upd U ++ Ns) ρ2 w' := by
    have liveH : ∀ l, l < H.length → (Heap.at (H.upd U ++ Ns) l).isLive = true → (H.at l).isLive = true := fun l hl hv => by
      by_cases hn : wk l
      · obtain ⟨j, _, j2, j3⟩ := hn
        obtain ⟨l', l1, l2, l3, _⟩ := hB j j2
        rw [j3] at l1; cases l1
        rw [← c2.live hl l3]; exact l3
      · rw [← hWlive l hl hn hv]; exact hv
    refine ⟨hs.os, hs.tape, hs.output, hs.size, fun k hk hn => ?_, fun k hk => ?_, by rw [hWlen]; omega, fun l hl => (hρc l (by omega)).trans (cor_of (c2.old l hl).1), liveH, fun l hl d hr => ?_⟩
    · refine hs.keep k hk fun ho => ?_
      rcases (c2.ext (w := w)).own k (c10 k ho) with h | h
      · exact hn h
      · omega
    · obtain ⟨l, p, hl, hp, hf⟩ := hk
      rcases Nat.lt_or_ge l H1.length with h1 | h1
      · by_cases hn : wk l
        · obtain ⟨j, j1, j2, j3⟩ := hn
          rw [hρw j l j1 j2 j3] at hp
          rw [hWw j l j1 j2 j3, ren_live] at hl
          rcases hs.own k ⟨j, p, hl, hp, hf⟩ with h | h
          · exact ((c2.ext (w := w)).own k (c10 k h))
          · exact .inr h
        · rw [hρlo l h1 hn] at hp
          rcases Nat.lt_or_ge l H.length with h2 | h2
          · left; exact ⟨l, p, liveH l h2 hl, by rw [← (c2.old l h2).1]; exact hp, hf⟩
          · exfalso
            rw [hWu2 l h2 h1 hn] at hl
            rw [hfnone l h2 hl] at hp; cases hp
      · obtain ⟨i, rfl⟩ : ∃ i, l = H1.length + i := ⟨l - H1.length, by omega⟩
        rw [hWn, ren_live] at hl
        rw [hρhi] at hp
        rcases hs.own k ⟨n + i, p, hl, hp, hf⟩ with h | h
        · exact ((c2.ext (w := w)).own k (c10 k h))
        · exact .inr h
    · by_cases hn : wk l
      · obtain ⟨j, j1, j2, j3⟩ := hn
        rw [hWw j l j1 j2 j3, ren_dim] at hr
        have y1 := hs.row j j2 d hr
        obtain ⟨l', l1, l2, l3, l4, _⟩ := hB j j2
        rw [j3] at l1; cases l1
        rw [← c2.live hl l3, l4 (by rw [y1]; rfl)]; exact y1
      · have := hWlive l hl hn (dim_live hr)
        rw [this] at hr; exact hr
  have hback : Back Zx Z w' Hx ρs' (H.upd U ++ Ns) ρ2 σ F.post.flat := by
    have jlt : ∀ j, (Hx.at j).isLive = true → j < F.ro + os.length := fun j hj => by
      have := at_lt hj
      simp only [Hx, List.length_append, List.length_take, h0len] at this; omega
    refine ⟨?_, fun j hj => ?_, fun j hj => ?_, fun j hj d hr => ?_⟩
    · cases hfl : F.post.flat with
      | true => exact .inl rfl
      | false =>
        refine .inr fun k hk => ⟨hk.1, ?_, fun hz => hk.2.2 (.inl hz)⟩
        rintro ⟨l, p, hl, hp, hf⟩
        rcases Nat.lt_or_ge l H1.length with h1 | h1
        · by_cases hn : wk l
          · obtain ⟨j, j1, j2, j3⟩ := hn
            rw [hWw j l j1 j2 j3, ren_live] at hl
            exact hk.2.1 ⟨j, p, hl, by rw [← hρw j l j1 j2 j3]; exact hp, hf⟩
          · rw [hρlo l h1 hn] at hp
            have hl1 : (H1.at l).isLive = true := by
              rcases Nat.lt_or_ge l H.length with h2 | h2
              · rw [hWu1 l h2 hn, if_neg (by rw [hfl]; simp)] at hl; exact hl
              · rw [hWu2 l h2 h1 hn] at hl; exact hl
            refine hk.2.2 (.inr ⟨⟨l, p, hl1, hp, hf⟩, ?_⟩)
            rintro ⟨j, p', hj, hp', hb⟩
            rw [hH0E] at hj
            have hjn : j < n := by have := at_lt hj; omega
            obtain ⟨l', l1, l2, l3, _⟩ := hB j hjn
            have hp2 := hp'
            rw [c4 j l' l1] at hp'
            have := c1.inj l' l p' p k l3 hl1 hp' hp hb hf
            subst this
            rcases Nat.lt_or_ge j F.ro with h | h
            · exact hk.2.1 ⟨j, p', by rw [hxlo j h]; exact hlive0 j hjn, by rw [(hrok j h (hlive0 j hjn)).1]; exact hp2, hb⟩
            · exact hn ⟨j, h, hjn, l1⟩
        · obtain ⟨i, rfl⟩ : ∃ i, l = H1.length + i := ⟨l - H1.length, by omega⟩
          rw [hWn, ren_live] at hl
          rw [hρhi] at hp
          exact hk.2.1 ⟨n + i, p, hl, hp, hf⟩
    · have := jlt j hj
      rcases Nat.lt_or_ge j n with h | h
      · obtain ⟨l, l1, l2, _⟩ := hB j h
        rw [hσlo j l h l1, hWlen]; omega
      · rw [hσhi j h, hWlen]; omega
    · rcases Nat.lt_or_ge j n with h | h
      · obtain ⟨l, l1, l2, _⟩ := hB j h
        rw [hσlo j l h l1, hρj j l h l1]
      · rw [hσhi j h, hρhi]; congr 1; omega
    · rcases Nat.lt_or_ge j n with h | h
      · obtain ⟨l, l1, l2, l3, l4, l5⟩ := hB j h
        rw [hσlo j l h l1] at hr
        rcases Nat.lt_or_ge j F.ro with h2 | h2
        · have hn : ¬ wk l := hnwk j l h2 l1
          have hr1 : (H1.at l).dim = some d := by
            rcases Nat.lt_or_ge l H.length with h3 | h3
            · have := hWlive l h3 hn (dim_live hr)
              rw [c2.live h3 l3, ← this]; exact hr
            · rw [hWu2 l h3 l2 hn] at hr; exact hr
          rw [hxlo j h2]
          have hv := hlive0 j h
          cases hc : H0.at j with
          | dead => rw [hc] at hv; cases hv
          | cells e' cs =>
            obtain ⟨cs', hcs'⟩ := l5 e' cs hc
            rw [hcs'] at hr1; cases hr1
          | row e' s' xs' => rw [← hc, ← l4 (by rw [hc]; rfl)]; exact hr1
          | nest e' es' s' xs' op' => rw [← hc, ← l4 (by rw [hc]; rfl)]; exact hr1
        · rw [hWw j l h2 h l1, ren_dim] at hr; exact hr
      · rw [hσhi j h, hWn, show n + (j - n) = j by omega, ren_dim] at hr; exact hr
  have refLive : ∀ j, (if j < F.ro then true else match F.post.objs[j - F.ro]? with
    | some o => o.here
    | none => false) = true → (Hx.at j).isLive = true := fun j hj => by
    split at hj
    · rename_i h; rw [hxlo j h]; exact hlive0 j (by omega)
    · rename_i h
      split at hj
      · rename_i o ho
        have hlt : j - F.ro < os.length := by rw [← hosE, OL_len]; exact (List.getElem?_eq_some_iff.1 ho).1
        have hx : os[j - F.ro]? = some os[j - F.ro] := List.getElem?_eq_getElem hlt
        obtain ⟨o', x, o1, o2⟩ := OL_get F.post.objs q.2 (j - F.ro) _ (by rw [hosE]; exact hx)
        rw [ho] at o1; cases o1
        have := hxhi (j - F.ro)
        rw [show F.ro + (j - F.ro) = j by omega, hx, Option.getD_some] at this
        rw [this, o2]; exact OS_here_live hj
      · cases hj
  have hrefs' : ∀ j ∈ (F.post.roots.flatMap fun r => r.vs.flatMap VS.refs) ++ F.post.objs.flatMap OS.refs, (Hx.at j).isLive = true := fun j hj => refLive j (List.all_eq_true.1 hrefs j hj)
  have hobj : ∀ j, F.ro ≤ j → (Hx.at j).isLive = true → Holds Z (H.upd U ++ Ns) ρ2 w' (σ j) ((Hx.at j).ren σ) := fun j hj hv => by
    have h1 := hxhi (j - F.ro)
    rw [show F.ro + (j - F.ro) = j by omega] at h1
    cases hx : os[j - F.ro]? with
    | none => rw [h1, hx] at hv; cases hv
    | some a =>
      obtain ⟨o, x, o1, o2⟩ := OL_get F.post.objs q.2 (j - F.ro) a (by rw [hosE]; exact hx)
      rw [hx, Option.getD_some, o2] at h1
      have hh := hR'.obj j
      rw [show Heap.at (H0.take F.ro ++ os) j = o.enc x from h1] at hh
      rw [h1]
      refine hback.holds h1 (fun i hi => hrefs' i (List.mem_append.2 (.inr (List.mem_flatMap.2 ⟨o, List.mem_of_getElem? o1, hi⟩)))) (fun hf => ?_) hh
      simp only [Sig.flat, Bool.and_eq_true] at hf
      exact List.all_eq_true.1 hf.2 o (List.mem_of_getElem? o1)
  refine ⟨ρ2, ?_, ?_, hext, fun l hl hv => ?_⟩
  · have hans := answers_ok hback F.post.roots q.1 0 vs (by rw [hvt, List.range_eq_range']) (fun j hj => hrefs' j (List.mem_append.2 (.inl hj))) (fun hf => by simp only [Sig.flat, Bool.and_eq_true] at hf; exact hf.1) (fun t _ => by simpa using hva t) hvl
    generalize answers σ (RL.enc F.post.roots q.1) = as at hans
    have hal := hans.length
    match as, vs, hans, hal with
    | [], [], _, _ => exact ⟨#[], rfl, trivial⟩
    | [a], [v], hans, _ => exact hans.1
    | a :: a' :: as, v :: v' :: vs, hans, _ => exact ⟨_, rfl, by simpa using hans⟩
  · have src : ∀ l p, (Heap.at (H.upd U ++ Ns) l).isLive = true → ρ2 l = some p → (∃ j, F.ro ≤ j ∧ (Hx.at j).isLive = true ∧ ρs' j = some p ∧ σ j = l) ∨ (l < H.length ∧ ¬ wk l ∧ (H.at l).isLive = true ∧ ρ l = some p) := fun l p hl hp => by
      rcases Nat.lt_or_ge l H1.length with h1 | h1
      · by_cases hn : wk l
        · obtain ⟨j, j1, j2, j3⟩ := hn
          rw [hWw j l j1 j2 j3, ren_live] at hl
          exact .inl ⟨j, j1, hl, by rw [← hρw j l j1 j2 j3]; exact hp, hσlo j l j2 j3⟩
        · rw [hρlo l h1 hn] at hp
          rcases Nat.lt_or_ge l H.length with h2 | h2
          · have he := hWlive l h2 hn hl
            exact .inr ⟨h2, hn, by rw [← he]; exact hl, by rw [← (c2.old l h2).1]; exact hp⟩
          · rw [hWu2 l h2 h1 hn] at hl
            rw [hfnone l h2 hl] at hp; cases hp
      · obtain ⟨i, rfl⟩ : ∃ i, l = H1.length + i := ⟨l - H1.length, by omega⟩
        rw [hWn, ren_live] at hl
        rw [hρhi] at hp
        exact .inl ⟨n + i, by omega, hl, hp, by rw [hσhi (n + i) (by omega)]; omega⟩
    refine hR.step hext (fun l hl => ?_) (fun l l' p p' k h1 hl hl' hp hp' hb hb' => ?_)
    · rcases Nat.lt_or_ge l H1.length with h1 | h1
      · by_cases hn : wk l
        · obtain ⟨j, j1, j2, j3⟩ := hn
          right
          rw [hWw j l j1 j2 j3] at hl ⊢
          rw [ren_live] at hl
          have := hobj j j1 hl
          rw [hσlo j l j2 j3] at this
          exact ⟨this, fun p k hp hk => hR'.inn j p k hl (by rw [← hρw j l j1 j2 j3]; exact hp) hk⟩
        · rcases Nat.lt_or_ge l H.length with h2 | h2
          · have he := hWlive l h2 hn hl
            exact .inl ⟨h2, he, (hρlo l h1 hn).trans (c2.old l h2).1, fun p k hp hf => hblk l p k h2 hn (by rw [← he]; exact hl) hp hf⟩
          · right
            rw [hWu2 l h2 h1 hn] at hl ⊢
            have hno := hfnone l h2 hl
            have hno2 : ρ2 l = none := (hρlo l h1 hn).trans hno
            refine ⟨?_, fun p k hp => by rw [hno2] at hp; cases hp⟩
            have hh := c1.obj l
            cases hc : H1.at l with
            | dead => trivial
            | cells e cs => rw [hc] at hh; obtain ⟨p, _, hp, _⟩ := hh; rw [hno] at hp; cases hp
            | row e s xs =>
              rw [hc] at hh
              rcases hh with ⟨g1, g2⟩ | ⟨p, _, _, hp, _⟩
              · exact .inl ⟨g1, hno2⟩
              · rw [hno] at hp; cases hp
            | nest e es s xs op =>
              rw [hc] at hh
              rcases hh with ⟨g1, g2, g3⟩ | ⟨p, _, _, _, hp, _⟩
              · exact .inl ⟨g1, g2, hno2⟩
              · rw [hno] at hp; cases hp
      · obtain ⟨i, rfl⟩ : ∃ i, l = H1.length + i := ⟨l - H1.length, by omega⟩
        right
        rw [hWn] at hl ⊢
        rw [ren_live] at hl
        have := hobj (n + i) (by omega) hl
        rw [hσhi (n + i) (by omega), show n + i - n = i by omega] at this
        exact ⟨this, fun p k hp hk => hR'.inn (n + i) p k hl (by rw [← hρhi]; exact hp) hk⟩
    · rcases src l p hl hp with ⟨j, j1, j2, j3, j4⟩ | ⟨g1, g2, g3, g4⟩
      · rcases src l' p' hl' hp' with ⟨j', j1', j2', j3', j4'⟩ | ⟨g1, g2, g3, g4⟩
        · have := hR'.inj j j' p p' k j2 j2' j3 j3' hb hb'
          subst this
          exact j4.symm.trans j4'
        · exfalso
          have hlt := hR.foot_lt g3 g4 hb'
          rcases hs.own k ⟨j, p, j2, j3, hb⟩ with ho | ho
          · rw [← hH0E] at ho
            obtain ⟨j0, hj0, hjl⟩ := hownH g1 g3 g4 hb' ho
            rcases Nat.lt_or_ge j0 F.ro with h | h
            · have h2 : ρs' j0 = some p' := by rw [(hrok j0 h (hlive0 j0 hj0)).1, c4 j0 l' hjl, (c2.old l' g1).1]; exact g4
              have := hR'.inj j j0 p p' k j2 (by rw [show Heap.at (H0.take F.ro ++ os) j0 = Hx.at j0 from rfl, hxlo j0 h]; exact hlive0 j0 hj0) j3 h2 hb hb'
              omega
            · exact g2 ⟨j0, h, hj0, hjl⟩
          · omega
      · exact absurd ⟨g1, by rw [hp, g4]⟩ h1
  · have hlt := at_lt hv
    have hn : ¬ wk l := fun hn => by
      obtain ⟨u, hu, hul⟩ := (hwkW l).2 hn
      exact hl u (List.mem_append.2 (.inr (List.mem_filter.2 ⟨hu, by rw [hul]; simpa using hlt⟩))) hul
    exact ⟨(hρlo l (by omega) hn).trans (c2.old l hlt).1, fun p k hp hf => hblk l p k hlt hn hv hp hf⟩
/-- the call, behind what is closed for it -/
theorem call_ok {P : Program} {ti : TI} {tb : List (Entry P)} (hT : TIok P ti) (hE : ∀ e ∈ tb, EOk P e) (hN : ∀ e ∈ tb, ENat e) (hM : P.follows .mixedOrders = true) (F : Fm) {fn : Func} {nf : Nat} (k : Nat) (hfn : P.funcs[nf]? = some fn) {β : Type} (args : List AV) (H : Heap) (K : KO β) (r : β) (Z : Nat → Prop) (ρ : Rho) (w : World) (cargs : Array Value)
    (h : callRun F (runFn P ti tb F fn k) args H K = some r) (hR : Rel Z H ρ w) (hargs : LR (VA Z H ρ w) args cargs.toList) :
    ∃ v U N, K v U N = some r ∧ Calls P nf cargs w (fun e w' => ∃ cv, e = .returned cv ∧ OK Z H ρ w v U N cv w') := by
  unfold callRun at h
  have hcl : ∃ ρ1, Rel Z (H.upd (callU F H)) ρ1 w ∧ Ext H ρ w (H.upd (callU F H)) ρ1 w ∧ ∀ k, k < H.length → (∀ u ∈ callU F H, u.1 ≠ k) → ρ1 k = ρ k := by
    unfold callU
    split
    · exact hR.closes _
    · exact ⟨ρ, hR, Ext.refl _ _ _, fun _ _ _ => rfl⟩
  obtain ⟨ρ1, a1, a2, a3⟩ := hcl
  obtain ⟨v, U, N, h1, h2⟩ := call_ok0 hT hE hN hM F k hfn args _ _ r Z ρ1 w cargs h a1 (hargs.imp fun _ _ => a2.VA)
  refine ⟨v, callU F H ++ U, N, h1, h2.mono fun e w' ⟨cv, he, ρ', q1, q2, q3, q4⟩ => ⟨cv, he, ρ', by rw [upd_append]; exact q1, by rw [upd_append]; exact q2, by rw [upd_append]; exact a2.trans q3, fun l hl hv => ?_⟩⟩
  have hl0 : ∀ u ∈ callU F H, u.1 ≠ l := fun u hu => hl u (List.mem_append.2 (.inl hu))
  have hρ := a3 l (at_lt hv) hl0
  obtain ⟨g1, g2⟩ := q4 l (fun u hu => hl u (List.mem_append.2 (.inr hu))) (by rw [upd_other _ _ _ hl0]; exact hv)
  exact ⟨g1.trans hρ, fun p k hp hf => g2 p k (hρ.trans hp) hf⟩
end Go.Proofs.YtaklapcbbdcdpaaDoor.X
