import Derived.Test.YtaklapcbbdcdpaaDoorXK
import Derived.Great.BuildSlice
namespace Go.Proofs.YtaklapcbbdcdpaaDoor.X
open Go Go.RowKit
set_option linter.unusedVariables false
set_option linter.unusedSimpArgs false
section
variable {P : Program} {X : Ctx P} {β : Type} {Z : Nat → Prop} {H : Heap} {ρ : Rho} {w w' : World} {o : Oper} {a : Act} {K : KO β} {r : β} {ts : TS}
theorem one_of_V1 {c : C1} {v : Value} (hs : storable c = true) (h : V1 Z H ρ w c v) : v.oneCell' = true := by
  cases c with
  | any => cases hs
  | lit u => obtain ⟨rfl, h⟩ := h; exact h
  | ptr l z => exact h.2.1
  | ep l z i m => obtain ⟨_, ⟨ad, rfl⟩, _⟩ := h; rfl
  | vp s xs i m => obtain ⟨_, ad, n, cap, _, rfl⟩ := h; rfl
  | own l z => exact h.2.1
  | sl l z i m => exact h.2.1
  | vsl s xs => exact R1.one (h : R1 w (A Z H ρ w) _ _)
  | fn f as => obtain ⟨us, rfl, _⟩ := h; rfl
theorem cells_one {v : Value} (h : v.oneCell' = true) : v.cells = #[v] := by cases v <;> first | rfl | cases h
theorem cells_ok {x : A2} {v : Value} (hs : x.cells.all storable = true) (h : V2 Z H ρ w x v) : LR (V1 Z H ρ w) x.cells v.cells.toList := by
  cases x with
  | one c =>
    have hc : storable c = true := by simpa [A2.cells] using hs
    rw [cells_one (one_of_V1 hc h)]
    exact ⟨h, trivial⟩
  | agg cs => obtain ⟨us, rfl, hl⟩ := h; exact hl
theorem all_one {cs : List C1} {us : List Value} (hs : cs.all storable = true) (h : LR (V1 Z H ρ w) cs us) : ∀ u ∈ us, u.oneCell' = true := by
  intro u hu
  obtain ⟨i, hi⟩ := List.getElem?_of_mem hu
  have hlt : i < cs.length := by rw [h.length]; exact (List.getElem?_eq_some_iff.1 hi).1
  refine one_of_V1 (List.all_eq_true.1 hs cs[i] (List.getElem_mem hlt)) (h.get (List.getElem?_eq_getElem hlt) hi)
theorem putCells_LR {cs vs : List C1} {us ws : List Value} {o : Nat} (h : LR (V1 Z H ρ w) cs us) (h' : LR (V1 Z H ρ w) vs ws) : LR (V1 Z H ρ w) (putCells cs o vs) (us.take o ++ ws ++ us.drop (o + ws.length)) := by
  unfold putCells
  rw [← h'.length]
  exact ((h.take o).append h').append (h.drop _)
theorem putCells_len {cs vs : List C1} {o : Nat} (h : o + vs.length ≤ cs.length) : (putCells cs o vs).length = cs.length := by
  simp [putCells]; omega
theorem putCells_st {cs vs : List C1} {o : Nat} (h : cs.all storable = true) (h' : vs.all storable = true) : (putCells cs o vs).all storable = true := by
  rw [List.all_eq_true] at h h' ⊢
  intro x hx
  simp only [putCells, List.mem_append] at hx
  rcases hx with (hx | hx) | hx
  · exact h x (List.mem_of_mem_take hx)
  · exact h' x hx
  · exact h x (List.mem_of_mem_drop hx)
theorem foldl_put (off : Nat) (vs : List Value) (cs : Array Value) (h : off + vs.length ≤ cs.size) :
    ((vs.zipIdx 0).foldl (fun cs (x : Value × Nat) => cs.setIfInBounds (off + x.2) x.1) cs).toList = cs.toList.take off ++ vs ++ cs.toList.drop (off + vs.length) := by
  obtain ⟨h1, h2⟩ := Great.foldl_set off vs 0 cs
  apply List.ext_getElem?
  intro k
  rw [Array.getElem?_toList, h2 k, List.append_assoc]
  simp only [Nat.add_zero]
  by_cases hk : k < off
  · rw [if_neg (by omega), List.getElem?_append_left (by simp; omega), List.getElem?_take, if_pos hk, Array.getElem?_toList]
  · rw [List.getElem?_append_right (by simp; omega)]
    have e1 : (cs.toList.take off).length = off := by simp; omega
    rw [e1]
    by_cases hk2 : k < off + vs.length
    · rw [if_pos ⟨by omega, hk2, by omega⟩, List.getElem?_append_left (by omega)]
    · rw [if_neg (by omega), List.getElem?_append_right (by omega), List.getElem?_drop, Array.getElem?_toList]
      congr 1; omega
theorem fill_ok {place : Nat → Option (Nat × Nat)} : ∀ (parts : List (Nat × AV)) (qs : List (Nat × Value)) (cs cs' : List C1) (cv : Array Value),
    fillCells place cs parts = some cs' → LR (fun (p : Nat × AV) (q : Nat × Value) => p.1 = q.1 ∧ VA Z H ρ w p.2 q.2) parts qs → LR (V1 Z H ρ w) cs cv.toList →
    ∃ cv', Instr.fill place cv qs = some cv' ∧ LR (V1 Z H ρ w) cs' cv'.toList
  | [], qs, cs, cs', cv, h, hp, hl => by
    obtain rfl := LR.nil_inv hp
    simp only [fillCells, Option.some.injEq] at h; subst h
    exact ⟨cv, rfl, hl⟩
  | (i, .v x) :: rest, qs, cs, cs', cv, h, hp, hl => by
    obtain ⟨⟨i', v⟩, qs', rfl, ⟨hi, hv⟩, hp2⟩ := LR.cons_inv hp
    simp only at hi
    subst hi
    simp only [fillCells] at h
    split at h
    case h_2 => cases h
    rename_i off size hpl
    split at h
    case isFalse => cases h
    rename_i hc
    simp only [Bool.and_eq_true, beq_iff_eq, decide_eq_true_eq] at hc
    obtain ⟨⟨hc1, hc2⟩, hc3⟩ := hc
    have hvl := cells_ok hc3 (hv : V2 Z H ρ w x v)
    have hlen := hvl.length
    have hlen2 := hl.length
    simp only [Array.length_toList] at hlen hlen2
    have hput := putCells_LR (o := off) hl hvl
    have hfold := foldl_put off v.cells.toList cv (by simp; omega)
    obtain ⟨cv', h1, h2⟩ := fill_ok rest qs' _ cs' ((v.cells.toList.zipIdx 0).foldl (fun cs (x : Value × Nat) => cs.setIfInBounds (off + x.2) x.1) cv) h hp2 (by rw [hfold]; exact hput)
    refine ⟨cv', ?_, h2⟩
    simp only [Instr.fill, hpl]
    rw [if_neg (by simp; omega), ← Array.foldl_toList, Array.toList_zipIdx]
    exact h1
  | (i, .tup x) :: rest, qs, cs, cs', cv, h, hp, hl => by simp [fillCells] at h
theorem parts_rel (hR : Rel Z H ρ w) (ht : TRel Z H ρ w ts a) (parts : Array (Nat × Operand)) : LR (fun (p : Nat × AV) (q : Nat × Value) => p.1 = q.1 ∧ VA Z H ρ w p.2 q.2) (partsOf ts parts) (parts.map fun (i, x) => (i, a.eval x)).toList := by
  unfold partsOf
  rw [Array.toList_map]
  generalize parts.toList = l
  induction l with
  | nil => trivial
  | cons p l ih => exact ⟨⟨rfl, ev_ok hR ht p.2⟩, ih⟩
theorem decRow_ok (s : Sh) : ∀ (n : Nat) (cs : List C1) (xs : List s.T) (us : List Value), decRow s n cs = some xs → LR (V1 Z H ρ w) cs us → xs.length = n ∧ LR (R1 w (A Z H ρ w)) (xs.flatMap s.dv) us
  | 0, [], xs, us, h, hl => by
    simp only [decRow, Option.some.injEq] at h; subst h
    obtain rfl := LR.nil_inv hl
    simp [LR]
  | 0, c :: cs, xs, us, h, hl => by simp [decRow] at h
  | n + 1, cs, xs, us, h, hl => by
    simp only [decRow] at h
    split at h
    case h_2 => cases h
    rename_i x r1 hd
    split at h
    case h_2 => cases h
    rename_i ys hy
    simp only [Option.some.injEq] at h; subst h
    obtain ⟨u1, u2, rfl, h1, h2⟩ := R1_of_V1 s cs x r1 us hd hl
    obtain ⟨h3, h4⟩ := decRow_ok s n r1 ys u2 hy h2
    exact ⟨by simp [h3], by rw [List.flatMap_cons]; exact h1.append h4⟩
theorem reps_LR {z : List Value} (h : ∀ u ∈ z, u.oneCell' = true) : ∀ n, LR (V1 Z H ρ w) (reps z n) (List.replicate n z).flatten
  | 0 => by simp [reps, LR]
  | n + 1 => by
    rw [List.replicate_succ, List.flatten_cons]
    exact (LR_lits z h).append (reps_LR h n)
/-- what an element's own slices hold is read -/
theorem NE.reads {A A' : Nat → Prop} (hA : ∀ d v, R1 w A d v → R1 w A' d v) {es : List TypeId} {s : Sh} {x : s.T} {us : List Value} {ps : List (Option Pl)} (h : NE w A es s x us ps) (hb : ∀ q, some q ∈ ps → A' q.b) : LR (R1 w A') (s.dv x) us ∧ us.length = s.sz := by
  induction h with
  | unit => exact ⟨trivial, rfl⟩
  | int => exact ⟨⟨.lit rfl, trivial⟩, rfl⟩
  | bool => exact ⟨⟨.lit rfl, trivial⟩, rfl⟩
  | str => exact ⟨⟨.lit rfl, trivial⟩, rfl⟩
  | @inn e s ys v q h1 h2 h3 =>
    refine ⟨⟨?_, trivial⟩, rfl⟩
    show R1 w A' (.sl ys.length (ys.flatMap s.dv)) v
    rcases h2 with ⟨rfl, rfl⟩ | ⟨p, cur, us, rfl, hw, _, _, _, hc, hL⟩
    · rcases h1 with ⟨p, cap, hq, _⟩ | ⟨_, a, rfl⟩
      · cases hq
      · exact .nil (Nat.le_refl _)
    · rcases h1 with ⟨p', cap, hq, rfl, hle, _⟩ | ⟨h0, a, rfl⟩
      · cases hq
        refine R1.mk hle (hL.imp hA) (.inr ⟨_, rfl, hb p (by simp), ⟨fun j u hj => ?_⟩⟩)
        rw [add_off, cell_at w p.b _ cur e (0, 0) hw, ← hc _ _ hj]
        congr 1; omega
      · obtain rfl : ys = [] := List.eq_nil_of_length_eq_zero h0
        exact .nil (Nat.le_refl _)
  | pair h1 h2 ih1 ih2 =>
    obtain ⟨a1, a2⟩ := ih1 fun q hq => hb q (by simp [hq])
    obtain ⟨b1, b2⟩ := ih2 fun q hq => hb q (by simp [hq])
    exact ⟨a1.append b1, by simp [a2, b2, Sh.sz]⟩
theorem flatten_LR {α : Type} {R : DV → Value → Prop} (f : α → List DV) : ∀ (xs : List α) (uss : List (List Value)), uss.length = xs.length → (∀ (i : Nat) x us, xs[i]? = some x → uss[i]? = some us → LR R (f x) us) → LR R (xs.flatMap f) uss.flatten
  | [], [], _, _ => trivial
  | [], _ :: _, h, _ => by simp at h
  | _ :: _, [], h, _ => by simp at h
  | x :: xs, us :: uss, h, hi => by
    rw [List.flatMap_cons, List.flatten_cons]
    exact (hi 0 x us rfl rfl).append (flatten_LR f xs uss (by simpa using h) fun i x' us' h1 h2 => hi (i + 1) x' us' (by simpa using h1) (by simpa using h2))
theorem flatten_got {sz : Nat} : ∀ (uss : List (List Value)), (∀ (i : Nat) us, uss[i]? = some us → us.length = sz) → ∀ (j : Nat) v, uss.flatten[j]? = some v → ∃ i us r, uss[i]? = some us ∧ us[r]? = some v ∧ j = i * sz + r
  | [], _, j, v, h => by simp at h
  | us :: uss, hl, j, v, h => by
    rw [List.flatten_cons] at h
    have h0 := hl 0 us rfl
    rcases Nat.lt_or_ge j us.length with hj | hj
    · rw [List.getElem?_append_left hj] at h
      exact ⟨0, us, j, rfl, h, by omega⟩
    · rw [List.getElem?_append_right hj] at h
      obtain ⟨i, us', r, h1, h2, h3⟩ := flatten_got uss (fun i us h => hl (i + 1) us (by simpa using h)) _ v h
      refine ⟨i + 1, us', r, by simpa using h1, h2, ?_⟩
      rw [Nat.succ_mul]; omega
/-- slices let go -/
theorem freeze1_ok (hR : Rel Z H ρ w) {c : C1} {v : Value} (hv : V1 Z H ρ w c v) :
    Rel Z (H.upd (freeze1 H c).2) ρ w ∧ Ext H ρ w (H.upd (freeze1 H c).2) ρ w ∧ V1 Z (H.upd (freeze1 H c).2) ρ w (freeze1 H c).1 v := by
  have key : ∀ {l : Nat} {e : TypeId} {s : Sh} {xs ys : List s.T} {c : C1}, H.at l = .row e s xs → elemsOf H c = some ⟨s, ys⟩ → V1 Z H ρ w c v → (∀ ad us cap, v = .slice (some ad) ys.length cap → us ≠ [] → Lies w ad us → LR (R1 w (A Z H ρ w)) (ys.flatMap s.dv) us → ∃ p, ρ l = some p ∧ ad.block = p.b) →
      V1 Z (H.set l .dead) ρ w (.vsl s ys) v := by
    intro l e s xs ys c hat he hv hbl
    obtain ⟨ad, cap, us, rfl, hcap, hL, hA⟩ := elemsOf_ok hR he hv
    have ex := ext_kill (H := H) (ρ := ρ) (w := w) l
    refine R1.mk hcap (hL.imp fun _ _ => ex.R1) ?_
    by_cases hu : us = []
    · exact .inl hu
    · rcases hA with h | ⟨b, rfl, hb⟩
      · exact absurd h hu
      · obtain ⟨p, hp, hbp⟩ := hbl b us cap rfl hu hb hL
        exact .inr ⟨b, rfl, hbp ▸ A_kill hR (by rw [hat]; rfl) hp, hb⟩
  have blk : ∀ {l : Nat} {sz off len : Nat} {ad : Addr} {n cap : Nat}, SlAt ρ l sz off len (.slice (some ad) n cap) → n ≠ 0 → ∃ p, ρ l = some p ∧ ad.block = p.b := by
    intro l sz off len ad n cap hs hn
    rcases hs with ⟨p, cap', hp, hv, _, _⟩ | ⟨h0, ad', hv⟩
    · simp only [Value.slice.injEq, Option.some.injEq] at hv
      exact ⟨p, hp, by rw [hv.1]⟩
    · simp only [Value.slice.injEq] at hv
      omega
  cases c with
  | own l sz =>
    simp only [freeze1]
    split
    · rename_i e s xs hat
      refine ⟨hR.kill l, ext_kill l, key hat (c := .own l sz) (by simp [elemsOf, hat]) hv fun ad us cap hv' hne hL hLR => ?_⟩
      obtain ⟨g1, g2, g3⟩ := hv
      have hs := (g3 _ _ (dim_row hat)).2
      rw [hv'] at hs
      refine blk hs fun h0 => hne ?_
      have := hLR.length
      rw [flat_len (dv_len s), h0] at this
      exact List.eq_nil_of_length_eq_zero (by simpa using this.symm)
    · rename_i e es s xs hat
      refine ⟨hR.kill l, ext_kill l, ?_⟩
      have ex := ext_kill (H := H) (ρ := ρ) (w := w) l
      obtain ⟨g1, g2, g3⟩ := hv
      have hs : SlAt ρ l sz 0 xs.length v := (g3 s.sz xs.length (by rw [hat]; rfl)).2
      have ho := hR.obj l
      rw [hat] at ho
      show R1 w (A Z (H.set l .dead) ρ w) (.sl xs.length (xs.flatMap s.dv)) v
      rcases ho with ⟨rfl, _, hn⟩ | ⟨p, cur, uss, pss, hp, hn⟩
      · rcases hs with ⟨p, cap, hp, _⟩ | ⟨_, a, rfl⟩
        · rw [hn] at hp; cases hp
        · exact .nil (Nat.le_refl _)
      · rcases hs with ⟨q, cap, hq, rfl, hle, _⟩ | ⟨h0, a, rfl⟩
        · rw [hp] at hq; cases hq
          have hfoot : ∀ k, p.foot k → A Z (H.set l .dead) ρ w k := fun k hk => A_kill' hR (by rw [hat]; rfl) hp hk
          have hel : ∀ (i : Nat) x us, xs[i]? = some x → uss[i]? = some us → LR (R1 w (A Z (H.set l .dead) ρ w)) (s.dv x) us ∧ us.length = s.sz := fun i x us h1 h2 => by
            have hi : i < pss.length := by rw [hn.pl]; exact (List.getElem?_eq_some_iff.1 h1).1
            exact (hn.el i x us pss[i] h1 h2 (List.getElem?_eq_getElem hi) (fun cs h => by cases h)).reads (fun _ _ => ex.R1) fun q hq => hfoot _ (.inr (hn.pd.foot i _ q (List.getElem?_eq_getElem hi) hq))
          have hlen : ∀ (i : Nat) us, uss[i]? = some us → us.length = s.sz := fun i us h2 => by
            have hi : i < xs.length := by rw [← hn.ul]; exact (List.getElem?_eq_some_iff.1 h2).1
            exact (hel i xs[i] us (List.getElem?_eq_getElem hi) h2).2
          refine R1.mk hle (flatten_LR s.dv xs uss hn.ul fun i x us h1 h2 => (hel i x us h1 h2).1) (.inr ⟨_, rfl, hfoot _ (.inl rfl), ⟨fun j u hj => ?_⟩⟩)
          obtain ⟨i, us, r, h1, h2, rfl⟩ := flatten_got uss hlen j u hj
          rw [add_off, cell_at w p.b _ cur e (0, 0) hn.at_, ← (hn.us i us h1).2 r u h2]
          congr 1; omega
        · obtain rfl : xs = [] := List.eq_nil_of_length_eq_zero h0
          exact .nil (Nat.le_refl _)
    · exact ⟨hR, Ext.refl _ _ _, trivial⟩
  | sl l sz off len =>
    simp only [freeze1]
    split
    · rename_i e s xs hat
      refine ⟨hR.kill l, ext_kill l, key hat (c := .sl l sz off len) (by simp [elemsOf, hat]) hv fun ad us cap hv' hne hL hLR => ?_⟩
      obtain ⟨g1, g2, g3⟩ := hv
      have hs := (g3 _ _ (dim_row hat)).2.2
      rw [hv'] at hs
      refine blk hs fun h0 => hne ?_
      have := hLR.length
      rw [flat_len (dv_len s), h0] at this
      exact List.eq_nil_of_length_eq_zero (by simpa using this.symm)
    · exact ⟨hR, Ext.refl _ _ _, trivial⟩
  | any => exact ⟨hR, Ext.refl _ _ _, hv⟩
  | lit u => exact ⟨hR, Ext.refl _ _ _, hv⟩
  | ptr l z => exact ⟨hR, Ext.refl _ _ _, hv⟩
  | ep l z i m => exact ⟨hR, Ext.refl _ _ _, hv⟩
  | vp l z i m => exact ⟨hR, Ext.refl _ _ _, hv⟩
  | vsl l z => exact ⟨hR, Ext.refl _ _ _, hv⟩
  | fn f as => exact ⟨hR, Ext.refl _ _ _, hv⟩
theorem freeze_ok : ∀ (cs : List C1) (us : List Value) {H : Heap}, Rel Z H ρ w → LR (V1 Z H ρ w) cs us →
    Rel Z (H.upd (freeze H cs).2) ρ w ∧ Ext H ρ w (H.upd (freeze H cs).2) ρ w ∧ LR (V1 Z (H.upd (freeze H cs).2) ρ w) (freeze H cs).1 us
  | [], us, H, hR, hl => ⟨hR, Ext.refl _ _ _, hl⟩
  | c :: cs, us, H, hR, hl => by
    obtain ⟨u, us', rfl, h1, h2⟩ := LR.cons_inv hl
    obtain ⟨g1, g2, g3⟩ := freeze1_ok hR h1
    obtain ⟨k1, k2, k3⟩ := freeze_ok cs us' g1 (h2.imp fun _ _ => g2.V1)
    simp only [freeze, upd_append]
    exact ⟨k1, g2.trans k2, k2.V1 g3, k3⟩
theorem upd_len (U : Upd) : ∀ H : Heap, (H.upd U).length = H.length := by
  induction U with
  | nil => intro H; rfl
  | cons u U ih => intro H; obtain ⟨l, o⟩ := u; simp only [Heap.upd]; rw [ih]; simp
end
end Go.Proofs.YtaklapcbbdcdpaaDoor.X
