import Derived.Test.YtaklapcbbdcdpaaDoorXU
namespace Go.Proofs.YtaklapcbbdcdpaaDoor.X
open Go Go.RowKit
set_option linter.unusedVariables false
set_option linter.unusedSimpArgs false
theorem C1.lt0_mono {n m : Nat} (h : n ≤ m) {c : C1} (hc : c.lt0 n) : c.lt0 m := by
  cases c <;> first | trivial | (simp only [C1.lt0] at hc ⊢; omega)
theorem C1.lt_mono {n m : Nat} (h : n ≤ m) {c : C1} (hc : c.lt n) : c.lt m := by
  cases c with
  | fn f cs => exact fun c hc' => C1.lt0_mono h (hc c hc')
  | any => trivial
  | lit u => trivial
  | ptr l o => exact Nat.lt_of_lt_of_le hc h
  | ep l z i o => exact Nat.lt_of_lt_of_le hc h
  | vp s xs i o => trivial
  | own l z => exact Nat.lt_of_lt_of_le hc h
  | sl l z i o => exact Nat.lt_of_lt_of_le hc h
  | vsl s xs => trivial
theorem A2.lt_mono {n m : Nat} (h : n ≤ m) {c : A2} (hc : c.lt n) : c.lt m := by
  cases c with
  | one c => exact C1.lt_mono h hc
  | agg cs => exact fun c hc' => C1.lt_mono h (hc c hc')
theorem AV.lt_mono {n m : Nat} (h : n ≤ m) {c : AV} (hc : c.lt n) : c.lt m := by
  cases c with
  | v c => exact A2.lt_mono h hc
  | tup cs => exact fun c hc' => A2.lt_mono h (hc c hc')
theorem gStill_ok {P : Program} {X : Ctx P} {β : Type} {ops : Array Oper} {Q : Exit → Act → World → Prop} (hT : TIok P X.ti) {Z : Nat → Prop} {H : Heap} {ρ : Rho} {w : World} {ts : TS} {a : Act} {o : Oper} {i : Nat} {K : KO β} {r : β} (hR : Rel Z H ρ w) (ht : TRel Z H ρ w ts a) (hi : ops[i]? = some o) (hs : isEvent o.op = false) (h : gEval X ops ts H o K = some r) :
    ∃ v cv, K v [] [] = some r ∧ VA Z H ρ w v cv ∧ ∀ next : Act → World → Prop, next (a.put o.dst cv) w → wpOp P ops Q i next a w := by
  have run : ∀ {cv : Value} {next : Act → World → Prop}, (execOp a.eval o).run P w = .ok (.value cv) w → next (a.put o.dst cv) w → o.wp P a w next Q := fun h1 h2 => by
    unfold Oper.wp; rw [h1]; exact h2
  unfold gEval at h
  split at h
  · rename_i hg
    obtain ⟨v, cv, h1, h2, h3⟩ := still_all hR ht hT hs h
    refine ⟨v, cv, h1, h3, fun next hn => ?_⟩
    have : Region.wanted o (yielded ops a.tmps) = true := by simp [Region.wanted, hg]
    simp only [wpOp, hi, this, if_true]
    exact .inl (run h2 hn)
  · rename_i j want hg
    split at h
    case h_2 =>
      split at h
      case isFalse => cases h
      rename_i hoff
      have hw : Region.wanted o (yielded ops a.tmps) = false := by simp [Region.wanted, hg, guardOff_ok ht hoff]
      refine ⟨_, undef, h, VA_off .., fun next hn => ?_⟩
      simp only [wpOp, hi, hw, Bool.false_eq_true, if_false]
      exact hn
    rename_i b hb
    have hy := guard_ok ht hb
    have hw : Region.wanted o (yielded ops a.tmps) = (b == want) := by simp [Region.wanted, hg, hy]
    cases hbw : (b == want) with
    | true =>
      rw [hbw] at h hw
      simp only [cond_true] at h
      obtain ⟨v, cv, h1, h2, h3⟩ := still_all hR ht hT hs h
      refine ⟨v, cv, h1, h3, fun next hn => ?_⟩
      simp only [wpOp, hi, hw, if_true]
      exact .inl (run h2 hn)
    | false =>
      rw [hbw] at h hw
      simp only [cond_false] at h
      refine ⟨_, undef, h, VA_off .., fun next hn => ?_⟩
      simp only [wpOp, hi, hw, Bool.false_eq_true, if_false]
      exact hn
/-! a heap whose cells alone are others -/
structure Like (ks : List Nat) (H H' : Heap) : Prop where
  live : ∀ l, (H'.at l).isLive = (H.at l).isLive
  same : ∀ l, l ∉ ks → H'.at l = H.at l
  alt : ∀ l, H'.at l = H.at l ∨ ((∃ e cs, H.at l = .cells e cs) ∧ ∃ e cs, H'.at l = .cells e cs)
theorem Like.row {ks : List Nat} {H H' : Heap} (h : Like ks H H') (l : Nat) : H'.at l = H.at l ∨ ((∀ e s xs, H.at l ≠ .row e s xs) ∧ ∀ e s xs, H'.at l ≠ .row e s xs) := by
  rcases h.alt l with h1 | ⟨⟨e, cs, h1⟩, e', cs', h2⟩
  · exact .inl h1
  · exact .inr ⟨fun a b c hh => (by rw [h1] at hh; cases hh), fun a b c hh => (by rw [h2] at hh; cases hh)⟩
theorem Like.dim {ks : List Nat} {H H' : Heap} (h : Like ks H H') (l : Nat) : (H'.at l).dim = (H.at l).dim := by
  rcases h.alt l with h1 | ⟨⟨e, cs, h1⟩, e', cs', h2⟩
  · rw [h1]
  · rw [h1, h2]; rfl
section
variable {ks : List Nat} {H H' : Heap} (h : Like ks H H')
include h
theorem like_len (c : C1) : lenOf H' c = lenOf H c := by
  cases c with
  | own l z => simp only [lenOf, h.dim l]
  | sl l z o n => simp only [lenOf, h.dim l]
  | lit v => cases v <;> first | rfl | (rename_i x; cases x <;> rfl) | (rename_i x y z; cases x <;> rfl)
  | _ => rfl
theorem like_nil (c : C1) : notNil H' c = notNil H c := by
  cases c with
  | ptr l o => exact h.live l
  | lit v => cases v <;> first | rfl | (rename_i x; cases x <;> rfl) | (rename_i x y z; cases x <;> rfl)
  | _ => rfl
theorem like_ptr (v : AV) : livePtr H' v = livePtr H v := by
  unfold livePtr
  split <;> first | exact h.live _ | rfl
theorem like_cells (c : C1) (n : Nat) (hc : ∀ l o, c = .ptr l o → l ∉ ks) : cellsAt H' c n = cellsAt H c n := by
  cases c with
  | ptr l o => simp only [cellsAt, h.same l (hc l o rfl)]
  | ep l z i o =>
    simp only [cellsAt]
    rcases h.row l with h1 | ⟨h1, h2⟩
    · simp only [h1]
    · cases ha : H.at l with
      | row e s xs => exact absurd ha (h1 e s xs)
      | _ => cases hb : H'.at l with
        | row e s xs => exact absurd hb (h2 e s xs)
        | _ => rfl
  | _ => rfl
theorem like_lenT (d : TypeDesc) (c : C1) : lenT H' d c = lenT H d c := by
  unfold lenT
  split
  · rfl
  · split
    · rfl
    · exact like_len h _
  · rfl
variable {P : Program} {X : Ctx P} {β : Type} {ts : TS} {K : KO β}
theorem like_index (t : TypeId) (x ix : Operand) : opIndexAddr X ts H' t x ix K = opIndexAddr X ts H t x ix K := by
  unfold opIndexAddr
  cases h1 : X.ti t with
  | none => rfl
  | some r =>
    cases h2 : ev ts x with
    | tup a => rfl
    | v a =>
      cases a with
      | agg cs => rfl
      | one c =>
        cases h3 : asI (ev ts ix) with
        | none => rfl
        | some i =>
          simp only
          split
          · split
            · cases c with
              | own l z => simp only [h.dim l]
              | sl l z o n => simp only [h.dim l]
              | _ => rfl
            · rfl
          · split
            · simp only [h.live]
            · rfl
            · rfl
          · rfl
theorem like_slice (t : TypeId) (x : Operand) (lo hi mx : Option Operand) : opSlice X ts H' t x lo hi mx K = opSlice X ts H t x lo hi mx K := by
  unfold opSlice
  cases h1 : X.ti t with
  | none => rfl
  | some r =>
    cases h2 : ev ts x with
    | tup a => rfl
    | v a =>
      cases a with
      | agg cs => rfl
      | one c => simp only [like_len h c]
theorem like_loadC (t : TypeId) (a : Operand) (hs : ∀ l o, ev ts a = .v (.one (.ptr l o)) → l ∉ ks) : opLoadC X ts H' t a K = opLoadC X ts H t a K := by
  unfold opLoadC
  cases h1 : X.ti t with
  | none => rfl
  | some r =>
    cases h2 : ev ts a with
    | tup a => rfl
    | v a =>
      cases a with
      | agg cs => rfl
      | one c => simp only [like_cells h c _ (fun l o e => hs l o (by rw [h2, e]))]
theorem like_load (t : TypeId) (a : Operand) (hs : ∀ l o, ev ts a = .v (.one (.ptr l o)) → l ∉ ks) : opLoad X ts H' t a K = opLoad X ts H t a K := by
  unfold opLoad
  cases h1 : X.ti t with
  | none => rfl
  | some r =>
    cases h2 : ev ts a with
    | tup a => rfl
    | v a =>
      cases a with
      | agg cs => rfl
      | one c =>
        have : arrAt X H' c = arrAt X H c := by
          cases c with
          | ptr l o => simp only [arrAt, h.same l (hs l o h2)]
          | _ => rfl
        simp only [this, like_loadC h t _ hs]
theorem like_field (s : TypeId) (x : Operand) (f : Nat) : opFieldAddr X ts H' s x f K = opFieldAddr X ts H s x f K := by
  unfold opFieldAddr
  cases h1 : X.ti s with
  | none => rfl
  | some r =>
    cases h2 : ev ts x with
    | tup a => rfl
    | v a =>
      cases a with
      | agg cs => rfl
      | one c => simp only [like_nil h c]
theorem like_opnil (op : BinOp) (t : TypeId) (x y : Operand) : opNil X ts H' op t x y K = opNil X ts H op t x y K := by
  unfold opNil
  simp only [like_ptr h]
theorem like_elems (c : C1) : elemsOf H' c = elemsOf H c := by
  cases c with
  | own l z =>
    simp only [elemsOf]
    rcases h.row l with h1 | ⟨h1, h2⟩
    · simp only [h1]
    · cases ha : H.at l with
      | row e s xs => exact absurd ha (h1 e s xs)
      | _ => cases hb : H'.at l with
        | row e s xs => exact absurd hb (h2 e s xs)
        | _ => rfl
  | sl l z o n =>
    simp only [elemsOf]
    rcases h.row l with h1 | ⟨h1, h2⟩
    · simp only [h1]
    · cases ha : H.at l with
      | row e s xs => exact absurd ha (h1 e s xs)
      | _ => cases hb : H'.at l with
        | row e s xs => exact absurd hb (h2 e s xs)
        | _ => rfl
  | _ => rfl
theorem like_b2s (s d : TypeId) (x : Operand) : opB2S X ts H' s d x K = opB2S X ts H s d x K := by
  unfold opB2S
  simp only [newsOf, like_elems h]
theorem like_pure (o : Oper) : opPure X ts H' o K = opPure X ts H o K := by
  unfold opPure
  simp only [like_opnil h, like_b2s h]
theorem like_builtin (o : Oper) (b : Builtin) (args : Array Operand) (tys : Array TypeId) (hb : b ≠ .append) (hb2 : b ≠ .copy) : opBuiltin X ts H' o b args tys K = opBuiltin X ts H o b args tys K := by
  unfold opBuiltin
  cases b <;> first | rfl | exact absurd rfl hb | exact absurd rfl hb2 | simp only [like_lenT h]
theorem like_op {o : Oper} (hs : softOp ts ks o = true) : opEval X ts H' o K = opEval X ts H o K := by
  unfold softOp at hs
  simp only [Bool.and_eq_true] at hs
  obtain ⟨he, hs⟩ := hs
  unfold opEval
  split
  all_goals first
    | rfl
    | exact like_slice h ..
    | exact like_index h ..
    | exact like_field h ..
    | exact like_pure h _
    | (simp only [like_nil h]; done)
    | (rename_i ho; rw [ho] at he; simp [isEvent, isConv] at he; done)
    | skip
  · rename_i t a ho
    rw [ho] at hs
    refine like_load h _ _ fun l o e => ?_
    simp only [e] at hs
    simpa using hs
  · rename_i b args tys ho
    refine like_builtin h o b args tys (fun e => ?_) (fun e => ?_)
    all_goals
      subst e
      rw [ho] at he
      cases he
theorem like_N {o : Oper} (hs : softOp ts ks o = true) : opN X ts H' o = opN X ts H o := by
  unfold softOp at hs
  simp only [Bool.and_eq_true] at hs
  obtain ⟨he, hs⟩ := hs
  unfold opN
  split
  · rename_i t a ho
    cases h1 : X.ti t with
    | none => rfl
    | some r =>
      cases h2 : ev ts a with
      | tup a => rfl
      | v a =>
        cases a with
        | agg cs => rfl
        | one c =>
          cases c with
          | ep l z i off =>
            simp only
            rcases h.alt l with h3 | ⟨⟨e, cs, h3⟩, e', cs', h4⟩
            · rw [h3]
            · rw [h3, h4]
          | _ => rfl
  · rename_i ho; rw [ho] at he; cases he
  · rename_i ho; rw [ho] at he; cases he
  · rename_i ho; rw [ho] at he; cases he
  · rfl
  · rfl
theorem like_all {o : Oper} (hs : softOp ts ks o = true) : opAll X ts H' o K = opAll X ts H o K := by
  unfold opAll opN1
  rw [like_N h hs, like_op h hs]
theorem like_g {all : Array Oper} {o : Oper} (hs : softOp ts ks o = true) : gEval X all ts H' o K = gEval X all ts H o K := by
  unfold gEval
  simp only [like_all h hs]
end
theorem like_upd : ∀ (U : Upd) {H : Heap} {n0 : Nat}, (∀ u ∈ U, (∃ e cs, H.at u.1 = .cells e cs) ∧ ∃ e cs, u.2 = .cells e cs) → Like (U.map (·.1)) H (H.upd U)
  | [], H, n0, _ => ⟨fun _ => rfl, fun _ _ => rfl, fun _ => .inl rfl⟩
  | (k, o) :: U, H, n0, hU => by
    obtain ⟨⟨e, cs, h1⟩, e', cs', h2⟩ := hU (k, o) (by simp)
    simp only at h1 h2
    subst h2
    have hk : k < H.length := at_lt (by rw [h1]; rfl)
    have hat : ∀ l, l ≠ k → Heap.at (H.set k (.cells e' cs')) l = H.at l := fun l hl => at_set_ne (Ne.symm hl)
    have hak : Heap.at (H.set k (.cells e' cs')) k = .cells e' cs' := at_set_same hk
    have ih := like_upd U (H := H.set k (.cells e' cs')) (n0 := n0) (fun u hu => by
      obtain ⟨⟨e1, c1, g1⟩, g2⟩ := hU u (List.mem_cons_of_mem _ hu)
      refine ⟨?_, g2⟩
      by_cases hq : u.1 = k
      · rw [hq, hak]; exact ⟨_, _, rfl⟩
      · rw [hat _ hq]; exact ⟨_, _, g1⟩)
    simp only [Heap.upd, List.map_cons]
    refine ⟨fun l => ?_, fun l hl => ?_, fun l => ?_⟩
    · rw [ih.live l]
      by_cases hq : l = k
      · subst hq; rw [hak, h1]; rfl
      · rw [hat _ hq]
    · simp only [List.mem_cons, not_or] at hl
      rw [ih.same l hl.2, hat _ hl.1]
    · by_cases hq : l = k
      · subst hq
        refine .inr ⟨⟨_, _, h1⟩, ?_⟩
        rcases ih.alt l with g | g
        · rw [g, hak]; exact ⟨_, _, rfl⟩
        · exact g.2
      · rcases ih.alt l with g | g
        · left; rw [g, hat _ hq]
        · right; rw [hat _ hq] at g; exact g
theorem upd_front : ∀ (U : Upd) (H S : Heap), ∃ S', Heap.upd (H ++ S) U = H.upd U ++ S' ∧ S'.length = S.length
  | [], H, S => ⟨S, rfl, rfl⟩
  | (k, o) :: U, H, S => by
    simp only [Heap.upd]
    rcases Nat.lt_or_ge k H.length with h | h
    · rw [List.set_append_left _ _ h]
      exact upd_front U _ S
    · rw [List.set_append_right _ _ h, List.set_eq_of_length_le h]
      obtain ⟨S', h1, h2⟩ := upd_front U H (S.set (k - H.length) o)
      exact ⟨S', h1, by rw [h2]; simp⟩
theorem upd_at_or : ∀ (U : Upd) (H : Heap) (l : Nat), (H.upd U).at l = H.at l ∨ ∃ u ∈ U, u.1 = l ∧ (H.upd U).at l = u.2
  | [], H, l => .inl rfl
  | (k, o) :: U, H, l => by
    simp only [Heap.upd]
    rcases upd_at_or U (H.set k o) l with h | ⟨u, hu, h1, h2⟩
    · rw [h]
      by_cases hk : k = l
      · subst hk
        rcases Nat.lt_or_ge k H.length with h3 | h3
        · exact .inr ⟨(k, o), by simp, rfl, at_set_same h3⟩
        · left; rw [List.set_eq_of_length_le h3]
      · left; exact at_set_ne hk
    · exact .inr ⟨u, List.mem_cons_of_mem _ hu, h1, h2⟩
theorem upd_filter : ∀ (U : Upd) (H : Heap), H.upd (U.filter fun u => decide (u.1 < H.length)) = H.upd U
  | [], H => rfl
  | (k, o) :: U, H => by
    rcases Nat.lt_or_ge k H.length with h | h
    · rw [List.filter_cons_of_pos (by simpa using h)]
      simp only [Heap.upd]
      have := upd_filter U (H.set k o)
      rw [List.length_set] at this
      exact this
    · rw [List.filter_cons_of_neg (by simpa using h)]
      simp only [Heap.upd]
      rw [List.set_eq_of_length_le h]
      exact upd_filter U H
theorem ltB0_ok {n : Nat} {c : C1} (h : c.ltB0 n = true) : C1.lt n c := by
  cases c with
  | ptr l o => exact (of_decide_eq_true h : l < n)
  | ep l z i o => exact (of_decide_eq_true h : l < n)
  | own l z => exact (of_decide_eq_true h : l < n)
  | sl l z o k => exact (of_decide_eq_true h : l < n)
  | fn f cs => cases h
  | _ => trivial
theorem pure_g {P : Program} {X : Ctx P} {all : Array Oper} {ts : TS} {β : Type} {K : KO β} {o : Oper} (h : pureOp o = true) (H H' : Heap) : gEval X all ts H' o K = gEval X all ts H o K := by
  have e : opAll X ts H' o K = opAll X ts H o K := by
    unfold pureOp at h
    unfold opAll opN1 asRead opN opEval
    split at h
    · rename_i ho; rw [ho]
    · rename_i ho; rw [ho]
    · cases h
  unfold gEval
  simp only [e]
/-! what only asks how long things are -/
structure DimEq (H H' : Heap) : Prop where
  dim : ∀ l, (H'.at l).dim = (H.at l).dim
  live : ∀ l, (H'.at l).isLive = (H.at l).isLive
theorem dim_g {P : Program} {X : Ctx P} {all : Array Oper} {ts : TS} {β : Type} {K : KO β} {o : Oper} {H H' : Heap} (hd : DimEq H H') (h : lenOp o = true) : gEval X all ts H' o K = gEval X all ts H o K := by
  have lp : ∀ a, livePtr H' a = livePtr H a := fun a => by
    unfold livePtr
    split
    · exact hd.live _
    · rfl
  have e : opAll X ts H' o K = opAll X ts H o K := by
    unfold lenOp at h
    unfold opAll opN1 asRead opN opEval
    split at h
    · rename_i ho; rw [ho]
    · rename_i ho; rw [ho]
    · rename_i ho
      simp only [ho]
      unfold opPure opNil
      simp only [ho, lp]
    · rename_i ho
      simp only [ho]
      unfold opIndexAddr
      simp only [hd.dim, hd.live]
    · cases h
  unfold gEval
  simp only [e]
theorem lenB_ok {H : Heap} : ∀ (U : Upd), lenB H U = true → ∀ u ∈ U, ∃ z n z' , (H.at u.1).dim = some (z, n) ∧ u.2.dim = some (z', n)
  | [], _, u, hu => by cases hu
  | w :: U, h, u, hu => by
    simp only [lenB, Bool.and_eq_true] at h
    rcases List.mem_cons.1 hu with rfl | hu
    · have h1 := h.1
      split at h1
      · rename_i z n z' m e1 e2
        have : n = m := of_decide_eq_true h1
        subst this
        exact ⟨z, n, z', e1, e2⟩
      · cases h1
    · exact lenB_ok U h.2 u hu
theorem rows_dim {H Hs S : Heap} (hS : H = Hs ++ S) {U : Upd} (h1 : rowT H U = true) (h2 : lenB H U = true) : DimEq Hs (Hs.upd U) := by
  have key : ∀ l, (Hs.upd U).at l = Hs.at l ∨ ∃ e s xs e' s' ys, Hs.at l = .row e s xs ∧ (Hs.upd U).at l = .row e' s' ys ∧ s.sz = s'.sz ∧ xs.length = ys.length := fun l => by
    rw [← upd_filter U Hs]
    rcases upd_at_or (U.filter fun u => decide (u.1 < Hs.length)) Hs l with h | ⟨u, hu, h3, h4⟩
    · exact .inl h
    · obtain ⟨hu, hlt⟩ := List.mem_filter.1 hu
      have hlt : u.1 < Hs.length := of_decide_eq_true hlt
      have a1 := List.all_eq_true.1 h1 u hu
      obtain ⟨z, n, z', b1, b2⟩ := lenB_ok U h2 u hu
      rw [h3] at hlt
      rw [h3, hS, at_append_lt hlt] at a1 b1
      split at a1
      · rename_i e s xs e' s' ys c1 c2
        rw [c1] at b1
        rw [c2] at b2 h4
        simp only [AO.dim, Option.some.injEq, Prod.mk.injEq] at b1 b2
        exact .inr ⟨e, s, xs, e', s', ys, c1, h4, by simpa using a1, by rw [b1.2, b2.2]⟩
      · cases a1
  refine ⟨fun l => ?_, fun l => ?_⟩
  · rcases key l with h | ⟨e, s, xs, e', s', ys, c1, c2, c3, c4⟩
    · rw [h]
    · rw [c1, c2]; simp only [AO.dim, c3, c4]
  · rcases key l with h | ⟨e, s, xs, e', s', ys, c1, c2, c3, c4⟩
    · rw [h]
    · rw [c1, c2]; rfl
theorem softOp_sub {ts : TS} {ks ks' : List Nat} {o : Oper} (hk : ∀ k ∈ ks', k ∈ ks) (h : softOp ts ks o = true) : softOp ts ks' o = true := by
  unfold softOp at h ⊢
  simp only [Bool.and_eq_true] at h ⊢
  refine ⟨h.1, ?_⟩
  have h2 := h.2
  split
  · rename_i t a ho
    rw [ho] at h2
    simp only at h2
    split
    · rename_i l o he
      rw [he] at h2
      simp only [Bool.not_eq_true', List.contains_eq_mem, decide_eq_false_iff_not] at h2 ⊢
      exact fun hl => h2 (hk l hl)
    · rfl
  · rfl
theorem has_toList (L : Array Bool) (i : Nat) : BV.has L.toList i = L.getD i false := by
  simp [BV.has, List.getD_eq_getElem?_getD, Array.getD_eq_getD_getElem?]
theorem count_set : ∀ (l : List Bool) (i : Nat), l[i]? = some false → (l.set i true).count false + 1 = l.count false
  | [], i, h => by simp at h
  | b :: l, 0, h => by simp at h; subst h; simp
  | b :: l, i + 1, h => by
    have := count_set l i (by simpa using h)
    cases b <;> simp [List.count_cons] <;> omega
section
variable {P : Program} {X : Ctx P} {ops : Array Oper} {ev : BV} {tab : List BV} {B : Base} {ts : TS} {recsF : List Rec} {FH : List Heap} {n0 : Nat} {Q : Exit → Act → World → Prop}
abbrev cn (ops : Array Oper) (ev : BV) (v : BV) : Nat := cntE ev v (numbered 0 ops.toList)
structure DInv (X : Ctx P) (ops : Array Oper) (ev : BV) (tab : List BV) (B : Base) (ts : TS) (recsF : List Rec) (FH : List Heap) (L : Array Bool) (ρ : Rho) (a : Act) (w : World) : Prop where
  inv : InvR X B (recTS L.toList recsF ++ ts) (FH.getD (cn ops ev L.toList) []) ρ a w
  bd : ∀ k, k ≤ cn ops ev L.toList → Bd (FH.getD k [])
  vlt : ∀ q ∈ recsF, BV.has L.toList q.i = true → q.v.lt (FH.getD (cn ops ev (tab.getD q.i []) + if ev.has q.i then 1 else 0) []).length
def Closed (ops : Array Oper) (L : Array Bool) : Prop := ∀ i o, ops.toList[i]? = some o → BV.has L.toList i = true → ∀ p ∈ preds o, BV.has L.toList p = true
variable (hT : TIok P X.ti) (hE : ∀ e ∈ X.tb, EOk P e) (g : TabG ops ev tab) (hnd : nodup (dstsOf ops.toList) = true)
  (hF : ∀ i o, ops.toList[i]? = some o → Fact X ops ev tab B.N (dstsOf ops.toList) ts n0 recsF FH i o)
  (hri : recsF.map (·.i) = (numbered 0 ops.toList).map (·.1)) (hrd : recsF.map (·.d) = (numbered 0 ops.toList).map (·.2.dst)) (hFl : FH.length = (evs ops ev).length + 1) (hts : ∀ t, (ts.get t).lt (FH.getD 0 []).length)
include hri hrd in
theorem rec_at {q : Rec} (hq : q ∈ recsF) : ∃ o, ops.toList[q.i]? = some o ∧ q.d = o.dst := by
  obtain ⟨k, hk⟩ := List.getElem?_of_mem hq
  have h1 : (recsF.map (·.i))[k]? = some q.i := by simp [hk]
  have h2 : (recsF.map (·.d))[k]? = some q.d := by simp [hk]
  rw [hri] at h1
  rw [hrd] at h2
  simp only [List.getElem?_map, Option.map_eq_some_iff] at h1 h2
  obtain ⟨p, hp, hp1⟩ := h1
  obtain ⟨p', hp', hp2⟩ := h2
  rw [hp] at hp'; cases hp'
  obtain ⟨i, o⟩ := p
  have := mem_num0.1 (List.mem_of_getElem? hp)
  exact ⟨o, by simp only at hp1; rw [← hp1]; exact this, hp2.symm⟩
theorem numbered_get : ∀ (l : List Oper) (k j : Nat) (p : Nat × Oper), (numbered k l)[j]? = some p → p.1 = k + j
  | [], k, j, p, h => by simp [numbered] at h
  | o :: l, k, 0, p, h => by simp [numbered] at h; rw [← h]; rfl
  | o :: l, k, j + 1, p, h => by
    have := numbered_get l (k + 1) j p (by simpa [numbered] using h)
    omega
include hri in
theorem rec_same {q q' : Rec} (hq : q ∈ recsF) (hq' : q' ∈ recsF) (h : q.i = q'.i) : q = q' := by
  obtain ⟨k, hk⟩ := List.getElem?_of_mem hq
  obtain ⟨k', hk'⟩ := List.getElem?_of_mem hq'
  have pos : ∀ {k : Nat} {q : Rec}, recsF[k]? = some q → q.i = k := fun {k q} hk => by
    have h1 : (recsF.map (·.i))[k]? = some q.i := by simp [hk]
    rw [hri] at h1
    simp only [List.getElem?_map, Option.map_eq_some_iff] at h1
    obtain ⟨p, hp, hp1⟩ := h1
    have := numbered_get _ _ _ _ hp
    omega
  have : k = k' := by rw [← pos hk, ← pos hk', h]
  subst this
  rw [hk] at hk'; exact Option.some.inj hk'
include hri hrd hnd in
theorem rec_uniq {t : Tmp} : ∀ a ∈ recsF, ∀ b ∈ recsF, a.d = some t → b.d = some t → a = b := by
  intro a ha b hb h1 h2
  obtain ⟨oa, k1, k2⟩ := rec_at hri hrd ha
  obtain ⟨ob, k3, k4⟩ := rec_at hri hrd hb
  exact rec_same hri ha hb (nodup_uniq hnd k1 k3 (k2 ▸ h1) (k4 ▸ h2))
include g in
theorem closed_anc {L : Array Bool} (hC : Closed ops L) {i : Nat} {o : Oper} (ho : ops.toList[i]? = some o) (hp : ∀ p ∈ preds o, BV.has L.toList p = true) : ∀ j, BV.has (tab.getD i []) j = true → BV.has L.toList j = true :=
  g.closed (D := fun j => BV.has L.toList j = true) (fun i o ho hi => hC i o ho hi) i o ho hp
include g in
theorem closed_first {L : Array Bool} (hC : Closed ops L) : ∀ (r e : Nat), (evs ops ev)[r]? = some e → (BV.has L.toList e = true ↔ r < cn ops ev L.toList) := by
  intro r e hr
  have := count_first (l := evs ops ev) (p := (BV.has L.toList ·)) (fun a b x y hab hx hy hp => by
    obtain ⟨ox, h1, h2⟩ := evs_get hx
    obtain ⟨oy, h3, h4⟩ := evs_get hy
    exact closed_anc g hC h3 (hC y oy h3 hp) x (g.ev x y ox oy h1 h3 h2 h4 (evs_sorted hab hx hy))) r e hr
  rw [this, cn, cntE_eq]; rfl
include g in
theorem anc_first {i : Nat} {o : Oper} (ho : ops.toList[i]? = some o) : ∀ (r e : Nat), (evs ops ev)[r]? = some e → (BV.has (tab.getD i []) e = true ↔ r < cn ops ev (tab.getD i [])) := by
  intro r e hr
  have := count_first (l := evs ops ev) (p := (BV.has (tab.getD i []) ·)) (fun a b x y hab hx hy hp => by
    obtain ⟨ox, h1, h2⟩ := evs_get hx
    obtain ⟨oy, h3, h4⟩ := evs_get hy
    exact g.trans i o ho y x hp (g.ev x y ox oy h1 h3 h2 h4 (evs_sorted hab hx hy))) r e hr
  rw [this, cn, cntE_eq]; rfl
theorem cn_le (v : BV) : cn ops ev v ≤ (evs ops ev).length := by rw [cn, cntE_eq]; exact List.countP_le_length
theorem cn_mono {v u : BV} (h : ∀ j, v.has j = true → u.has j = true) : cn ops ev v ≤ cn ops ev u := by
  rw [cn, cn, cntE_eq, cntE_eq]; exact List.countP_mono_left fun x _ => h x
include g hF in
/-- the heaps grow -/
theorem FH_len {k : Nat} (hk : k < (evs ops ev).length) : (FH.getD k []).length ≤ (FH.getD (k + 1) []).length := by
  have he : (evs ops ev)[k]? = some (evs ops ev)[k] := List.getElem?_eq_getElem hk
  obtain ⟨o, ho, hev⟩ := evs_get he
  obtain ⟨v, _, U, Ns, _, _, _, h, _⟩ := hF _ o ho
  have hr := g.rank he
  rw [hr] at h
  rw [(h hev).2.1, List.length_append, upd_len]; omega
include g hF in
theorem FH_mono {k m : Nat} (h : k ≤ m) (hm : m ≤ (evs ops ev).length) : (FH.getD k []).length ≤ (FH.getD m []).length := by
  induction m with
  | zero => have : k = 0 := by omega
            subst this; exact Nat.le_refl _
  | succ m ih =>
    rcases Nat.lt_or_ge m k with h1 | h1
    · have : k = m + 1 := by omega
      subst this; exact Nat.le_refl _
    · exact Nat.le_trans (ih h1 (by omega)) (FH_len g hF (by omega))
/-- what the operation's own operands are -/
theorem tsi_cases {L : Array Bool} {v : BV} {ms : List Tmp} (hv : ∀ j, v.has j = true → BV.has L.toList j = true) (hu : ∀ t, ∀ a ∈ recsF, ∀ b ∈ recsF, a.d = some t → b.d = some t → a = b) (hd : ∀ q ∈ recsF, ∀ t, q.d = some t → t ∈ ms ∨ BV.has L.toList q.i = false) (t : Tmp) :
    (∃ q ∈ recsF, v.has q.i = true ∧ TS.get (recTS v recsF ++ (anyTS ms ++ ts)) t = q.v ∧ TS.get (recTS L.toList recsF ++ ts) t = q.v) ∨
    TS.get (recTS v recsF ++ (anyTS ms ++ ts)) t = .one .any ∨
    (TS.get (recTS v recsF ++ (anyTS ms ++ ts)) t = ts.get t ∧ TS.get (recTS L.toList recsF ++ ts) t = ts.get t) := by
  simp only [get_app]
  cases hl : look (recTS v recsF) t with
  | some x =>
    obtain ⟨q, h1, h2, h3, h4⟩ := look_rec hl
    refine .inl ⟨q, h1, h2, by simp [h4], ?_⟩
    rw [look_of (hu t) h1 (hv _ h2) h3]; rfl
  | none =>
    rw [look_any]
    by_cases ht : t ∈ ms
    · right; left; simp [ht]
    · right; right
      refine ⟨by simp [ht], ?_⟩
      rw [look_none fun q hq hL h => (hd q hq t h).elim ht fun h' => by rw [hL] at h'; cases h']; rfl
theorem has_set {L : Array Bool} {i j : Nat} (hi : i < L.size) : BV.has (L.setIfInBounds i true).toList j = (decide (j = i) || BV.has L.toList j) := by
  simp only [BV.has, Array.toList_setIfInBounds, List.getD_eq_getElem?_getD, List.getElem?_set]
  by_cases h : i = j
  · subst h; simp [hi]
  · have : ¬ j = i := fun e => h e.symm
    simp [h, this]
include hri hrd hnd in
/-- the temporaries behind one operation more -/
theorem ts_next {L : Array Bool} {i : Nat} {o : Oper} {v : AV} (hi : i < L.size) (ho : ops.toList[i]? = some o) (hm : (⟨i, o.dst, v⟩ : Rec) ∈ recsF) (t : Tmp) :
    TS.get (recTS (L.setIfInBounds i true).toList recsF ++ ts) t = if o.dst = some t then v else TS.get (recTS L.toList recsF ++ ts) t := by
  simp only [get_app]
  split
  · rename_i hd
    rw [look_of (q := ⟨i, o.dst, v⟩) (rec_uniq hnd hri hrd) hm (by rw [has_set hi]; simp) hd]; rfl
  · rename_i hd
    have : look (recTS (L.setIfInBounds i true).toList recsF) t = look (recTS L.toList recsF) t := by
      cases hl : look (recTS (L.setIfInBounds i true).toList recsF) t with
      | some x =>
        obtain ⟨q, h1, h2, h3, h4⟩ := look_rec hl
        have hqi : q.i ≠ i := fun e => by
          have := rec_same hri h1 hm e
          subst this; exact hd h3
        rw [has_set hi] at h2
        simp only [hqi, decide_false, Bool.false_or] at h2
        rw [look_of (rec_uniq hnd hri hrd) h1 h2 h3, h4]
      | none =>
        symm
        refine look_none fun q hq h2 h3 => ?_
        have := look_of (v := (L.setIfInBounds i true).toList) (rec_uniq hnd hri hrd) hq (by rw [has_set hi, h2]; simp) h3
        rw [hl] at this; cases this
    rw [this]
theorem put_get {a : Act} {d : Option Tmp} {cv : Value} {t : Tmp} {N : Nat} (hs : a.tmps.size = N) (hd : ∀ t, d = some t → t < N) : (a.put d cv).tmps.getD t undef = if d = some t then cv else a.tmps.getD t undef := by
  cases d with
  | none => simp [Act.put]
  | some d =>
    have := hd d rfl
    simp only [Act.put, Option.some.injEq]
    by_cases e : d = t
    · subst e; simp [Array.getD_eq_getD_getElem?, Array.getElem?_setIfInBounds, hs, this]
    · simp [Array.getD_eq_getD_getElem?, Array.getElem?_setIfInBounds_ne e, e]
end
end Go.Proofs.YtaklapcbbdcdpaaDoor.X
