import Derived.Test.YtaklapcbbdcdpaaDoorXQ
namespace Go.Proofs.YtaklapcbbdcdpaaDoor.X
open Go Go.RowKit
set_option linter.unusedVariables false
set_option linter.unusedSimpArgs false
/-! Regions whose order Go leaves open -/
theorem orB_has : ∀ (v u : BV) (j : Nat), (orB v u).has j = (v.has j || u.has j)
  | [], u, j => by simp [orB, BV.has]
  | a :: v, [], j => by simp [orB, BV.has]
  | a :: v, b :: u, 0 => by simp [orB, BV.has]
  | a :: v, b :: u, j + 1 => by simpa [orB, BV.has] using orB_has v u j
theorem bitB_has : ∀ (n j : Nat), (bitB n).has j = true ↔ j = n
  | 0, 0 => by simp [bitB, BV.has]
  | 0, j + 1 => by simp [bitB, BV.has]
  | n + 1, 0 => by simp [bitB, BV.has]
  | n + 1, j + 1 => by have := bitB_has n j; simp [BV.has] at this; simp [bitB, BV.has, this]
theorem ancOf_has (tab : List BV) : ∀ (ps : List Nat) (j : Nat), (ancOf tab ps).has j = true ↔ ∃ p ∈ ps, j = p ∨ BV.has (tab.getD p []) j = true
  | [], j => by simp [ancOf, BV.has]
  | p :: ps, j => by
    simp only [ancOf, orB_has, Bool.or_eq_true, bitB_has, ancOf_has tab ps j, List.mem_cons, exists_eq_or_imp]
/-- the table of what lies ahead -/
structure TabOk (l : List Oper) (tab : List BV) : Prop where
  spec : ∀ i o, l[i]? = some o → ∀ j, BV.has (tab.getD i []) j = true ↔ ∃ p ∈ preds o, j = p ∨ (p < i ∧ BV.has (tab.getD p []) j = true)
theorem ancTab_get : ∀ (l : List Oper) (tab : List BV) (i : Nat), i < tab.length → (ancTab l tab).getD i [] = tab.getD i []
  | [], tab, i, h => rfl
  | o :: l, tab, i, h => by
    simp only [ancTab]
    rw [ancTab_get l _ i (by simp; omega)]
    simp [List.getD_eq_getElem?_getD, List.getElem?_append_left h]
theorem ancTab_ok : ∀ (l : List Oper) (tab : List BV) (pre : List Oper), pre.length = tab.length →
    (∀ i o, pre[i]? = some o → ∀ j, BV.has (tab.getD i []) j = true ↔ ∃ p ∈ preds o, j = p ∨ (p < i ∧ BV.has (tab.getD p []) j = true)) → TabOk (pre ++ l) (ancTab l tab)
  | [], tab, pre, hl, h => ⟨by simpa [ancTab] using h⟩
  | o :: l, tab, pre, hl, h => by
    have e : pre ++ o :: l = (pre ++ [o]) ++ l := by simp
    rw [e]
    simp only [ancTab]
    refine ancTab_ok l _ (pre ++ [o]) (by simp [hl]) fun i o' hi j => ?_
    have hget : ∀ p, p < tab.length → (tab ++ [ancOf tab (preds o)]).getD p [] = tab.getD p [] := fun p hp => by
      simp [List.getD_eq_getElem?_getD, List.getElem?_append_left hp]
    rcases Nat.lt_or_ge i pre.length with h1 | h1
    · rw [List.getElem?_append_left h1] at hi
      rw [hget i (by omega), h i o' hi j]
      constructor
      · rintro ⟨p, hp, hj⟩
        refine ⟨p, hp, hj.imp id fun ⟨h2, h3⟩ => ⟨h2, by rw [hget p (by omega)]; exact h3⟩⟩
      · rintro ⟨p, hp, hj⟩
        refine ⟨p, hp, hj.imp id fun ⟨h2, h3⟩ => ⟨h2, by rw [hget p (by omega)] at h3; exact h3⟩⟩
    · have hip : i = pre.length := by
        have := (List.getElem?_eq_some_iff.1 hi).1; simp at this; omega
      subst hip
      simp at hi
      subst hi
      have : (tab ++ [ancOf tab (preds o)]).getD pre.length [] = ancOf tab (preds o) := by simp [List.getD_eq_getElem?_getD, hl]
      rw [this, ancOf_has]
      constructor
      · rintro ⟨p, hp, hj⟩
        refine ⟨p, hp, hj.imp id fun h3 => ?_⟩
        rcases Nat.lt_or_ge p tab.length with h4 | h4
        · exact ⟨by omega, by rw [hget p h4]; exact h3⟩
        · simp [List.getD_eq_getElem?_getD, List.getElem?_eq_none h4, BV.has] at h3
      · rintro ⟨p, hp, hj⟩
        refine ⟨p, hp, hj.imp id fun ⟨h2, h3⟩ => by rw [hget p (by omega)] at h3; exact h3⟩
/-- what is bounded by the heap's length -/
def C1.lt0 (n : Nat) : C1 → Prop
  | .ptr l _ => l < n
  | .ep l _ _ _ => l < n
  | .own l _ => l < n
  | .sl l _ _ _ => l < n
  | _ => True
def C1.lt (n : Nat) : C1 → Prop
  | .fn _ cs => ∀ c ∈ cs, c.lt0 n
  | c => c.lt0 n
def A2.lt (n : Nat) : A2 → Prop
  | .one c => c.lt n
  | .agg cs => ∀ c ∈ cs, c.lt n
def AV.lt (n : Nat) : AV → Prop
  | .v a => a.lt n
  | .tup as => ∀ a ∈ as, a.lt n
theorem LR.mem {α β : Type} {R : α → β → Prop} {as : List α} {bs : List β} (h : LR R as bs) {a : α} (ha : a ∈ as) : ∃ b, R a b := by
  obtain ⟨i, hi⟩ := List.getElem?_of_mem ha
  have hlt : i < bs.length := by rw [← h.length]; exact (List.getElem?_eq_some_iff.1 hi).1
  exact ⟨_, h.get hi (List.getElem?_eq_getElem hlt)⟩
section
variable {Z : Nat → Prop} {H : Heap} {ρ : Rho} {w : World}
theorem V0.lt {c : C1} {v : Value} (h : V0 Z H ρ w c v) : c.lt0 H.length := by
  cases c <;> first | trivial | exact h.1
theorem V1.lt {c : C1} {v : Value} (h : V1 Z H ρ w c v) : c.lt H.length := by
  cases c with
  | fn f cs =>
    obtain ⟨us, _, hl⟩ := h
    intro c hc
    obtain ⟨b, hb⟩ := hl.mem hc
    exact V0.lt hb
  | ptr l o => exact h.1
  | ep l z i o => exact h.1
  | own l z => exact h.1
  | sl l z i o => exact h.1
  | any => trivial
  | lit u => trivial
  | vp s xs i o => trivial
  | vsl s xs => trivial
theorem V2.lt {x : A2} {v : Value} (h : V2 Z H ρ w x v) : x.lt H.length := by
  cases x with
  | one c => exact V1.lt h
  | agg cs =>
    obtain ⟨us, _, hl⟩ := h
    intro c hc
    obtain ⟨b, hb⟩ := hl.mem hc
    exact V1.lt hb
theorem VA.lt {x : AV} {v : Value} (h : VA Z H ρ w x v) : x.lt H.length := by
  cases x with
  | v c => exact V2.lt h
  | tup cs =>
    obtain ⟨us, _, hl⟩ := h
    intro c hc
    obtain ⟨b, hb⟩ := hl.mem hc
    exact V2.lt hb
end
def Bd (H : Heap) : Prop := ∀ l, ∀ c ∈ (H.at l).cs, C1.lt H.length c
theorem Rel.bd {Z : Nat → Prop} {H : Heap} {ρ : Rho} {w : World} (h : Rel Z H ρ w) : Bd H := by
  intro l c hc
  have ho := h.obj l
  cases hl : H.at l with
  | dead => rw [hl] at hc; simp [AO.cs] at hc
  | row e s xs => rw [hl] at hc; simp [AO.cs] at hc
  | cells e cs =>
    rw [hl] at ho hc
    obtain ⟨p, vs, _, _, hL, _⟩ := ho
    obtain ⟨b, hb⟩ := hL.mem hc
    exact V1.lt hb
  | nest e es s xs op =>
    rw [hl] at ho hc
    cases op with
    | none => simp [AO.cs] at hc
    | some ic =>
      obtain ⟨i, cs⟩ := ic
      rcases ho with ⟨_, h2, _⟩ | ⟨p, cur, uss, pss, _, hn⟩
      · cases h2
      · obtain ⟨g1, _, g3⟩ := hn.op i cs rfl
        have hi1 : i < uss.length := by rw [hn.ul]; exact g1
        have hi2 : i < pss.length := by rw [hn.pl]; exact g1
        obtain ⟨b, hb⟩ := (g3 _ _ (List.getElem?_eq_getElem hi1) (List.getElem?_eq_getElem hi2)).2.mem (show c ∈ cs from hc)
        exact V1.lt hb
section part
variable {Z : Nat → Prop} {H S : Heap} {ρ : Rho} {w : World}
def hid (Z : Nat → Prop) (H S : Heap) (ρ : Rho) (k : Nat) : Prop := Z k ∨ (own (H ++ S) ρ k ∧ ¬ own H ρ k)
theorem own_part {k : Nat} (h : own H ρ k) : own (H ++ S) ρ k := by
  obtain ⟨l, p, h1, h2, h3⟩ := h
  exact ⟨l, p, by rw [at_append_lt (at_lt h1)]; exact h1, h2, h3⟩
theorem A_part (k : Nat) : A (hid Z H S ρ) H ρ w k ↔ A Z (H ++ S) ρ w k := by
  unfold A hid
  constructor
  · rintro ⟨h1, h2, h3⟩
    refine ⟨h1, fun h => h3 (.inr ⟨h, h2⟩), fun h => h3 (.inl h)⟩
  · rintro ⟨h1, h2, h3⟩
    exact ⟨h1, fun h => h2 (own_part h), fun h => h.elim h3 fun h => h2 h.1⟩
theorem A_part_eq : A (hid Z H S ρ) H ρ w = A Z (H ++ S) ρ w := funext fun k => propext (A_part k)
theorem V0_part {c : C1} {v : Value} (hc : c.lt0 H.length) : V0 (hid Z H S ρ) H ρ w c v ↔ V0 Z (H ++ S) ρ w c v := by
  cases c with
  | any => exact Iff.rfl
  | lit u => exact Iff.rfl
  | ptr l o => have h : l < H.length := hc; simp only [V0, at_append_lt h, List.length_append]; constructor <;> rintro ⟨h1, h2⟩ <;> exact ⟨by omega, h2⟩
  | ep l z i o => have h : l < H.length := hc; simp only [V0, at_append_lt h, List.length_append]; constructor <;> rintro ⟨h1, h2⟩ <;> exact ⟨by omega, h2⟩
  | vp s xs i o => simp only [V0, A_part_eq]
  | own l z => have h : l < H.length := hc; simp only [V0, at_append_lt h, List.length_append]; constructor <;> rintro ⟨h1, h2⟩ <;> exact ⟨by omega, h2⟩
  | sl l z i o => have h : l < H.length := hc; simp only [V0, at_append_lt h, List.length_append]; constructor <;> rintro ⟨h1, h2⟩ <;> exact ⟨by omega, h2⟩
  | vsl s xs => simp only [V0, A_part_eq]
  | fn f cs => exact Iff.rfl
theorem LR.iff_mem {α β : Type} {R S : α → β → Prop} {as : List α} {bs : List β} (h : ∀ a ∈ as, ∀ b, R a b ↔ S a b) : LR R as bs ↔ LR S as bs :=
  ⟨LR.imp_mem fun a ha b => (h a ha b).1, LR.imp_mem fun a ha b => (h a ha b).2⟩
theorem V1_part {c : C1} {v : Value} (hc : c.lt H.length) : V1 (hid Z H S ρ) H ρ w c v ↔ V1 Z (H ++ S) ρ w c v := by
  cases c with
  | fn f cs =>
    simp only [V1]
    constructor
    · rintro ⟨us, h1, h2⟩; exact ⟨us, h1, (LR.iff_mem fun a ha b => V0_part (hc a ha)).1 h2⟩
    · rintro ⟨us, h1, h2⟩; exact ⟨us, h1, (LR.iff_mem fun a ha b => V0_part (hc a ha)).2 h2⟩
  | any => exact Iff.rfl
  | lit u => exact Iff.rfl
  | ptr l o => exact V0_part (Z := Z) (S := S) (w := w) (c := .ptr l o) hc
  | ep l z i o => exact V0_part (Z := Z) (S := S) (w := w) (c := .ep l z i o) hc
  | vp s xs i o => exact V0_part (Z := Z) (S := S) (w := w) (c := .vp s xs i o) trivial
  | own l z => exact V0_part (Z := Z) (S := S) (w := w) (c := .own l z) hc
  | sl l z i o => exact V0_part (Z := Z) (S := S) (w := w) (c := .sl l z i o) hc
  | vsl s xs => exact V0_part (Z := Z) (S := S) (w := w) (c := .vsl s xs) trivial
theorem V2_part {x : A2} {v : Value} (hc : x.lt H.length) : V2 (hid Z H S ρ) H ρ w x v ↔ V2 Z (H ++ S) ρ w x v := by
  cases x with
  | one c => exact V1_part hc
  | agg cs =>
    simp only [V2]
    constructor
    · rintro ⟨us, h1, h2⟩; exact ⟨us, h1, (LR.iff_mem fun a ha b => V1_part (hc a ha)).1 h2⟩
    · rintro ⟨us, h1, h2⟩; exact ⟨us, h1, (LR.iff_mem fun a ha b => V1_part (hc a ha)).2 h2⟩
theorem VA_part {x : AV} {v : Value} (hc : x.lt H.length) : VA (hid Z H S ρ) H ρ w x v ↔ VA Z (H ++ S) ρ w x v := by
  cases x with
  | v c => exact V2_part hc
  | tup cs =>
    simp only [VA]
    constructor
    · rintro ⟨us, h1, h2⟩; exact ⟨us, h1, (LR.iff_mem fun a ha b => V2_part (hc a ha)).1 h2⟩
    · rintro ⟨us, h1, h2⟩; exact ⟨us, h1, (LR.iff_mem fun a ha b => V2_part (hc a ha)).2 h2⟩
theorem Holds.part {l : Nat} {o : AO} (hb : ∀ c ∈ o.cs, C1.lt H.length c) : Holds (hid Z H S ρ) H ρ w l o ↔ Holds Z (H ++ S) ρ w l o := by
  cases o with
  | dead => exact Iff.rfl
  | cells e cs =>
    constructor
    · rintro ⟨p, vs, g1, g2, g3, g4⟩
      exact ⟨p, vs, g1, g2, (LR.iff_mem fun a ha b => V1_part (hb a ha)).1 g3, g4⟩
    · rintro ⟨p, vs, g1, g2, g3, g4⟩
      exact ⟨p, vs, g1, g2, (LR.iff_mem fun a ha b => V1_part (hb a ha)).2 g3, g4⟩
  | row e s xs => simp only [Holds, A_part_eq]
  | nest e es s xs op =>
    constructor
    · rintro (g | ⟨p, cur, uss, pss, g1, g2⟩)
      · exact .inl g
      · exact .inr ⟨p, cur, uss, pss, g1, g2.mono (fun _ _ h => by rw [A_part_eq] at h; exact h) (fun i cs hop c hc v => (V1_part (hb c (by rw [hop]; exact hc))).1) fun _ _ => rfl⟩
    · rintro (g | ⟨p, cur, uss, pss, g1, g2⟩)
      · exact .inl g
      · exact .inr ⟨p, cur, uss, pss, g1, g2.mono (fun _ _ h => by rw [A_part_eq]; exact h) (fun i cs hop c hc v => (V1_part (hb c (by rw [hop]; exact hc))).2) fun _ _ => rfl⟩
theorem Rel.part (h : Rel Z (H ++ S) ρ w) (hb : Bd H) : Rel (hid Z H S ρ) H ρ w := by
  refine ⟨fun l => ?_, fun l l' p p' k hl hl' hp hp' he he' => ?_, fun l p k hl hp hk => h.inn l p k (by rw [at_append_lt (at_lt hl)]; exact hl) hp hk, fun k hk => ?_, fun k hk ho => ?_, fun g x hg => (V0_part (c := .vp x.1 x.2 0 0) trivial).2 (h.gl g x hg)⟩
  · rcases Nat.lt_or_ge l H.length with h1 | h1
    · have ho := h.obj l
      rw [at_append_lt h1] at ho
      exact (Holds.part (hb l)).2 ho
    · rw [at_ge h1]; trivial
  · exact h.inj l l' p p' k (by rw [at_append_lt (at_lt hl)]; exact hl) (by rw [at_append_lt (at_lt hl')]; exact hl') hp hp' he he'
  · rcases hk with hk | hk
    · exact h.zlt k hk
    · exact h.own_lt hk.1
  · rcases hk with hk | hk
    · exact h.dis k hk (own_part ho)
    · exact hk.2 ho
end part
end Go.Proofs.YtaklapcbbdcdpaaDoor.X
