import Derived.Test.YtjdbamenbgfcjaaDoorGR
namespace Go.Proofs.YtjdbamenbgfcjaaDoor.Gl
open Go Go.RowKit Go.Proofs Go.Proofs.YtjdbamenbgfcjaaDoor.X
set_option linter.unusedVariables false
set_option linter.unusedSimpArgs false
noncomputable section
/-! What waits of bytes -/
/-- bytes that are a proper beginning of a rune's -/
def Pend (b : List Int) : Prop := b.length ≠ 0 ∧ 194 ≤ b.getD 0 0 ∧ b.getD 0 0 ≤ 244 ∧ (b.length = 1 ∨ (224 ≤ b.getD 0 0 ∧ loOf (b.getD 0 0) ≤ b.getD 1 0 ∧ b.getD 1 0 ≤ hiOf (b.getD 0 0) ∧ (b.length = 2 ∨ (240 ≤ b.getD 0 0 ∧ b.length = 3 ∧ 128 ≤ b.getD 2 0 ∧ b.getD 2 0 ≤ 191))))
instance (b : List Int) : Decidable (Pend b) := by unfold Pend; infer_instance
theorem getD_app {a : List Int} (t : List Int) {i : Nat} (h : i < a.length) : (a ++ t).getD i 0 = a.getD i 0 := by
  rw [List.getD_eq_getElem?_getD, List.getD_eq_getElem?_getD, List.getElem?_append_left h]
theorem whole_app {a : List Int} (t : List Int) (h0 : a.length ≠ 0) (h : ¬ Pend a) : whole (a ++ t) = whole a := by
  have hl : (a ++ t).length = a.length + t.length := List.length_append
  have g0 := getD_app (i := 0) t (by omega : 0 < a.length)
  have g1 := fun (h : 1 < a.length) => getD_app (i := 1) t h
  have g2 := fun (h : 2 < a.length) => getD_app (i := 2) t h
  have g3 := fun (h : 3 < a.length) => getD_app (i := 3) t h
  unfold Pend at h
  unfold whole
  rw [if_neg h0, if_neg (by omega : ¬ (a ++ t).length = 0), g0]
  generalize a.getD 0 0 = c at *
  by_cases q1 : c < 128
  · rw [if_pos q1, if_pos q1]
  rw [if_neg q1, if_neg q1]
  by_cases q2 : c < 194 ∨ 244 < c
  · simp (disch := omega) only [ipos, ineg]
  have l1 : 1 < a.length := by omega
  rw [g1 l1]
  generalize a.getD 1 0 = d at *
  by_cases q3 : c < 224
  · by_cases hh : 128 ≤ d ∧ d ≤ 191
    · simp (disch := omega) only [ipos, ineg]
    · simp (disch := omega) only [ipos, ineg]
  by_cases hd : loOf c ≤ d ∧ d ≤ hiOf c
  case neg => simp (disch := omega) only [ipos, ineg]
  have l2 : 2 < a.length := by omega
  rw [g2 l2]
  generalize a.getD 2 0 = e at *
  by_cases q4 : c < 240
  · by_cases hh : 128 ≤ e ∧ e ≤ 191
    · simp (disch := omega) only [ipos, ineg]
    · simp (disch := omega) only [ipos, ineg]
  by_cases he : 128 ≤ e ∧ e ≤ 191
  case neg => simp (disch := omega) only [ipos, ineg]
  have l3 : 3 < a.length := by omega
  rw [g3 l3]
  generalize a.getD 3 0 = f at *
  by_cases hh : 128 ≤ f ∧ f ≤ 191
  · simp (disch := omega) only [ipos, ineg]
  · simp (disch := omega) only [ipos, ineg]
theorem dec_app {a : List Int} (t : List Int) (h0 : a.length ≠ 0) (h : ¬ Pend a) : dec (a ++ t) = dec a := by
  have hl : (a ++ t).length = a.length + t.length := List.length_append
  unfold dec
  rw [whole_app t h0 h, if_neg h0, if_neg (by omega : ¬ (a ++ t).length = 0)]
theorem pend_app {a t : List Int} (h0 : a.length ≠ 0) (h : Pend (a ++ t)) : Pend a := by
  have hl : (a ++ t).length = a.length + t.length := List.length_append
  have g0 := getD_app (i := 0) t (by omega : 0 < a.length)
  have g1 : a.length = 1 ∨ (a ++ t).getD 1 0 = a.getD 1 0 := by
    by_cases h : 1 < a.length
    · exact .inr (getD_app t h)
    · exact .inl (by omega)
  have g2 : a.length ≤ 2 ∨ (a ++ t).getD 2 0 = a.getD 2 0 := by
    by_cases h : 2 < a.length
    · exact .inr (getD_app t h)
    · exact .inl (by omega)
  unfold Pend at h ⊢
  rw [g0] at h
  rw [hl] at h
  by_cases l1 : a.length = 1
  · omega
  have g1' : (a ++ t).getD 1 0 = a.getD 1 0 := by omega
  rw [g1'] at h
  by_cases l2 : a.length = 2
  · omega
  have g2' : (a ++ t).getD 2 0 = a.getD 2 0 := by omega
  rw [g2'] at h
  omega
theorem pend_whole {b : List Int} (h : Pend b) : whole b = (0, 0) := by
  unfold Pend at h
  unfold whole
  have g1 := loOf_ge (b.getD 0 0)
  simp (disch := omega) only [ipos, ineg]
theorem pend_runes {b : List Int} (h : Pend b) : runes b = List.replicate b.length 65533 := by
  have hw := pend_whole h
  have h' := h
  unfold Pend at h'
  have g1 := loOf_ge (b.getD 0 0)
  have g2 := hiOf_le (b.getD 0 0)
  match b, h, hw, h' with
  | [], h, _, _ => exact absurd rfl h.1
  | [x], _, hw, _ => rw [runes_bad (by simp) hw]; rfl
  | [x, y], _, hw, h' =>
    simp only [List.length_cons, List.length_nil, List.getD_cons_zero, List.getD_cons_succ] at h' g1 g2
    rw [runes_bad (by simp) hw]
    show 65533 :: runes [y] = _
    rw [runes_cont (by omega)]; rfl
  | [x, y, z], _, hw, h' =>
    simp only [List.length_cons, List.length_nil, List.getD_cons_zero, List.getD_cons_succ] at h' g1 g2
    rw [runes_bad (by simp) hw]
    show 65533 :: runes [y, z] = _
    rw [runes_cont (by omega), runes_cont (by omega)]; rfl
  | x :: y :: z :: u :: t, _, _, h' =>
    simp only [List.length_cons] at h'
    omega
theorem pend_len {b : List Int} (h : Pend b) : 1 ≤ b.length ∧ b.length ≤ 3 := by unfold Pend at h; omega
def feedF : Nat → List Int → List Int × List Int
  | 0, _ => ([], [])
  | n + 1, b => if b.length = 0 then ([], []) else if Pend b then ([], b) else ((dec b).1 :: (feedF n (b.drop (dec b).2.toNat)).1, (feedF n (b.drop (dec b).2.toNat)).2)
/-- what is known of bytes, and what waits -/
def feed (b : List Int) : List Int × List Int := feedF b.length b
theorem feedF_fuel : ∀ (n m : Nat) (b : List Int), b.length ≤ n → b.length ≤ m → feedF n b = feedF m b
  | 0, 0, _, _, _ => rfl
  | 0, m + 1, b, h, _ => by rw [feedF, feedF, if_pos (by omega)]
  | n + 1, 0, b, _, h => by rw [feedF, feedF, if_pos (by omega)]
  | n + 1, m + 1, b, h1, h2 => by
    rw [feedF, feedF]
    by_cases h0 : b.length = 0
    · rw [if_pos h0, if_pos h0]
    have := dec_n h0
    rw [if_neg h0, if_neg h0, feedF_fuel n m (b.drop (dec b).2.toNat) (by rw [List.length_drop]; omega) (by rw [List.length_drop]; omega)]
theorem feed_nil : feed [] = ([], []) := rfl
theorem feed_pend {b : List Int} (h : Pend b) : feed b = ([], b) := by
  obtain ⟨n, hn⟩ : ∃ n, b.length = n + 1 := ⟨b.length - 1, by have := h.1; omega⟩
  unfold feed
  rw [hn, feedF, if_neg h.1, if_pos h]
theorem feed_step {b : List Int} (h : b.length ≠ 0) (hp : ¬ Pend b) : feed b = ((dec b).1 :: (feed (b.drop (dec b).2.toNat)).1, (feed (b.drop (dec b).2.toNat)).2) := by
  have := dec_n h
  obtain ⟨n, hn⟩ : ∃ n, b.length = n + 1 := ⟨b.length - 1, by omega⟩
  unfold feed
  conv => lhs; rw [hn]
  rw [feedF, if_neg h, if_neg hp, feedF_fuel n (b.drop (dec b).2.toNat).length (b.drop (dec b).2.toNat) (by rw [List.length_drop]; omega) (Nat.le_refl _)]
/-- an induction on what is left -/
theorem feed_ind {M : List Int → Prop} (h0 : M []) (h1 : ∀ b, Pend b → M b) (h2 : ∀ b, b.length ≠ 0 → ¬ Pend b → M (b.drop (dec b).2.toNat) → M b) : ∀ (n : Nat) (b : List Int), b.length ≤ n → M b
  | 0, b, h => by rw [List.length_eq_zero_iff.1 (by omega : b.length = 0)]; exact h0
  | n + 1, b, h => by
    by_cases hb : b.length = 0
    · rw [List.length_eq_zero_iff.1 hb]; exact h0
    · by_cases hp : Pend b
      · exact h1 b hp
      · have := dec_n hb
        exact h2 b hb hp (feed_ind h0 h1 h2 n _ (by rw [List.length_drop]; omega))
theorem feed_rest (b : List Int) : ∃ m, (feed b).2 = b.drop m ∧ m ≤ b.length ∧ (feed b).1.length ≤ m ∧ ((feed b).2 = [] ∨ Pend (feed b).2) := by
  refine feed_ind (M := fun b => ∃ m, (feed b).2 = b.drop m ∧ m ≤ b.length ∧ (feed b).1.length ≤ m ∧ ((feed b).2 = [] ∨ Pend (feed b).2)) ⟨0, rfl, Nat.le_refl _, Nat.le_refl _, .inl rfl⟩ (fun b h => ?_) (fun b h hp ih => ?_) b.length b (Nat.le_refl _)
  · rw [feed_pend h]; exact ⟨0, rfl, Nat.zero_le _, Nat.le_refl _, .inr h⟩
  · obtain ⟨m, h1, h2, h3, h4⟩ := ih
    have hd := dec_n h
    rw [List.length_drop] at h2
    rw [feed_step h hp]
    refine ⟨(dec b).2.toNat + m, ?_, by omega, ?_, h4⟩
    · show (feed (b.drop (dec b).2.toNat)).2 = _
      rw [h1, List.drop_drop]
    · show ((dec b).1 :: (feed (b.drop (dec b).2.toNat)).1).length ≤ _
      rw [List.length_cons]; omega
theorem feed_len (b : List Int) : (feed b).1.length + (feed b).2.length ≤ b.length ∧ (feed b).2.length ≤ 3 := by
  obtain ⟨m, h1, h2, h3, h4⟩ := feed_rest b
  refine ⟨?_, ?_⟩
  · rw [h1, List.length_drop]; omega
  · rcases h4 with h | h
    · rw [h]; simp
    · exact (pend_len h).2
theorem feed_u8 {b : List Int} (h : ∀ x ∈ b, U8 x) : ∀ x ∈ (feed b).2, U8 x := by
  obtain ⟨m, h1, _⟩ := feed_rest b
  rw [h1]; exact u8_drop h m
theorem runes_feed (b : List Int) : runes b = (feed b).1 ++ List.replicate (feed b).2.length 65533 := by
  refine feed_ind (M := fun b => runes b = (feed b).1 ++ List.replicate (feed b).2.length 65533) rfl (fun b h => ?_) (fun b h hp ih => ?_) b.length b (Nat.le_refl _)
  · rw [feed_pend h, pend_runes h]; rfl
  · rw [runes_step h, feed_step h hp, ih]; rfl
theorem feed_app (a t : List Int) : feed (a ++ t) = ((feed a).1 ++ (feed ((feed a).2 ++ t)).1, (feed ((feed a).2 ++ t)).2) := by
  refine feed_ind (M := fun a => feed (a ++ t) = ((feed a).1 ++ (feed ((feed a).2 ++ t)).1, (feed ((feed a).2 ++ t)).2)) rfl (fun b h => ?_) (fun b h hp ih => ?_) a.length a (Nat.le_refl _)
  · rw [feed_pend h]; rfl
  · have hd := dec_n h
    have hl : (b ++ t).length = b.length + t.length := List.length_append
    rw [feed_step (b := b ++ t) (by omega) (fun hq => hp (pend_app h hq)), dec_app t h hp, List.drop_append_of_le_length (by omega), ih, feed_step h hp]; rfl
/-! the library tells it -/
abbrev v1 (o : Bool) : Option (((Bool × Unit) × Unit) × Unit) := some (((o, ()), ()), ())
theorem e33_eq (k : Nat) (b : List Int) : f33 k (((b, ()), ()), ()) = bif (b.length : Int) == (0 : Int) then v1 false else
    bif decide ((0 : Int) ≤ (0 : Int) ∧ (0 : Int) < (b.length : Int)) then
      bif decide ((0 : Int) ≤ b.getD 0 0 ∧ b.getD 0 0 < ((256 : Nat) : Int)) then
        bif decide ((b.length : Int) ≥ lo3 (fst1 (b.getD 0 0))) then v1 true else
          bif decide ((0 : Int) ≤ hi4 (fst1 (b.getD 0 0)) ∧ hi4 (fst1 (b.getD 0 0)) < ((16 : Nat) : Int)) then
            bif decide ((b.length : Int) > (1 : Int)) then
              bif decide ((0 : Int) ≤ (1 : Int) ∧ (1 : Int) < (b.length : Int)) then
                bif decide (b.getD 1 0 < (acc1 (hi4 (fst1 (b.getD 0 0)))).1) then v1 true else
                  bif decide ((0 : Int) ≤ (1 : Int) ∧ (1 : Int) < (b.length : Int)) then
                    bif decide ((acc1 (hi4 (fst1 (b.getD 0 0)))).2 < b.getD 1 0) then v1 true else
                      bif decide ((b.length : Int) > (2 : Int)) then
                        bif decide ((0 : Int) ≤ (2 : Int) ∧ (2 : Int) < (b.length : Int)) then
                          bif decide (b.getD 2 0 < (128 : Int)) then v1 true else
                            bif decide ((0 : Int) ≤ (2 : Int) ∧ (2 : Int) < (b.length : Int)) then
                              bif decide ((191 : Int) < b.getD 2 0) then v1 true else v1 false
                            else none
                        else none
                      else v1 false
                  else none
              else none
            else
              bif decide ((b.length : Int) > (2 : Int)) then
                bif decide ((0 : Int) ≤ (2 : Int) ∧ (2 : Int) < (b.length : Int)) then
                  bif decide (b.getD 2 0 < (128 : Int)) then v1 true else
                    bif decide ((0 : Int) ≤ (2 : Int) ∧ (2 : Int) < (b.length : Int)) then
                      bif decide ((191 : Int) < b.getD 2 0) then v1 true else v1 false
                    else none
                else none
              else v1 false
          else none
      else none
    else none := by kernel_rfl
def chkF (n : Nat) : Bool := (decide (194 ≤ n) && decide (n ≤ 244)) || decide (lo3 (fst1 n) ≤ 1)
theorem chkFs : (List.range 256).all chkF = true := by kernel_rfl
theorem tabF {c : Int} (h : 0 ≤ c ∧ c < 256) (h2 : c < 194 ∨ 244 < c) : lo3 (fst1 c) ≤ 1 := by
  obtain ⟨n, rfl⟩ := Int.eq_ofNat_of_zero_le h.1
  have := List.all_eq_true.1 chkFs n (List.mem_range.2 (by omega))
  simp only [chkF, Bool.and_eq_true, Bool.or_eq_true, decide_eq_true_eq] at this
  rcases this with h3 | h3
  · omega
  · exact h3
theorem full_ok (k : Nat) (b : List Int) (h : ∀ x ∈ b, U8 x) : f33 k (((b, ()), ()), ()) = v1 (decide (b.length ≠ 0 ∧ ¬ Pend b)) := by
  rw [e33_eq]
  by_cases h0 : b.length = 0
  · rw [bpos (by omega), cond_true, decide_eq_false (fun hh => hh.1 h0)]
  rw [bneg (by omega), cond_false, cpos (by omega)]
  have hc := getU8 h (i := 0) (by omega)
  rw [cpos (by omega)]
  have T : ¬ Pend b → decide (b.length ≠ 0 ∧ ¬ Pend b) = true := fun hp => decide_eq_true ⟨h0, hp⟩
  have F : Pend b → decide (b.length ≠ 0 ∧ ¬ Pend b) = false := fun hp => decide_eq_false (fun hh => hh.2 hp)
  generalize decide (b.length ≠ 0 ∧ ¬ Pend b) = D at T F ⊢
  unfold Pend at T F
  generalize b.getD 0 0 = c at *
  by_cases h2 : c < 194 ∨ 244 < c
  · have := tabF ⟨hc.1, by omega⟩ h2
    rw [cpos (by omega), T (by omega)]
  obtain ⟨t1, t2, t3, t4, t5, t6⟩ := tabM (c := c) (by omega)
  rw [t4, t5, t6]
  generalize b.getD 1 0 = d at *
  generalize b.getD 2 0 = e at *
  generalize b.length = n at *
  by_cases h3 : c < 224
  · have hs : szOf c = 2 := by unfold szOf; rw [if_pos h3]
    rw [hs]
    by_cases q1 : n < 2
    · rw [F (by omega)]
      simp (disch := omega) only [cpos, cneg]
    · rw [T (by omega)]
      simp (disch := omega) only [cpos, cneg]
  generalize loOf c = lo at *
  generalize hiOf c = hi at *
  by_cases h4 : c < 240
  · have hs : szOf c = 3 := by unfold szOf; rw [if_neg h3, if_pos h4]
    rw [hs]
    by_cases q1 : n < 2
    · rw [F (by omega)]
      simp (disch := omega) only [cpos, cneg]
    by_cases q2 : n < 3
    · by_cases q3 : d < lo
      · rw [T (by omega)]
        simp (disch := omega) only [cpos, cneg]
      · by_cases q4 : hi < d
        · rw [T (by omega)]
          simp (disch := omega) only [cpos, cneg]
        · rw [F (by omega)]
          simp (disch := omega) only [cpos, cneg]
    · rw [T (by omega)]
      simp (disch := omega) only [cpos, cneg]
  · have hs : szOf c = 4 := by unfold szOf; rw [if_neg h3, if_neg h4]
    rw [hs]
    by_cases q1 : n < 2
    · rw [F (by omega)]
      simp (disch := omega) only [cpos, cneg]
    by_cases q2 : n < 4
    · by_cases q3 : d < lo
      · rw [T (by omega)]
        simp (disch := omega) only [cpos, cneg]
      · by_cases q4 : hi < d
        · rw [T (by omega)]
          simp (disch := omega) only [cpos, cneg]
        · by_cases q5 : n < 3
          · rw [F (by omega)]
            simp (disch := omega) only [cpos, cneg]
          · by_cases q6 : e < 128
            · rw [T (by omega)]
              simp (disch := omega) only [cpos, cneg]
            · by_cases q7 : 191 < e
              · rw [T (by omega)]
                simp (disch := omega) only [cpos, cneg]
              · rw [F (by omega)]
                simp (disch := omega) only [cpos, cneg]
    · rw [T (by omega)]
      simp (disch := omega) only [cpos, cneg]
/-! What waits of bytes, as the document tells it -/
def e31_0 (k : Nat) (b : List Int) (L1 : ((List Int × Unit) × (Unit × Unit) × (Int × Unit) × Unit) × List (List Int) × Unit → Option (((Bool × Unit) × Unit) × Unit)) (g : ((List Int × Unit) × (Unit × Unit) × (Int × Unit) × (Unit × Unit) × (Int × Unit) × Unit) × List (List Int) × List Int × Unit) (L : ((List Int × Unit) × (Unit × Unit) × (Int × Unit) × (Unit × Unit) × (Int × Unit) × Unit) × List (List Int) × List Int × Unit → Option (((Bool × Unit) × Unit) × Unit)) : Option (((Bool × Unit) × Unit) × Unit) := bif decide ((0 : Int) ≤ g.1.2.2.1.1 ∧ g.1.2.2.1.1 < (↑g.2.1.length : Int)) then bif decide (g.1.2.2.2.2.1.1 < (↑(List.length (gt (Sh.int IntKind.u8).sl g.2.1 g.1.2.2.1.1.toNat)) : Int)) then bif decide ((0 : Int) ≤ g.1.2.2.1.1 ∧ g.1.2.2.1.1 < (↑g.2.1.length : Int)) then bif decide ((0 : Int) ≤ g.1.2.2.2.2.1.1 ∧ g.1.2.2.2.2.1.1 < (↑(List.length (gt (Sh.int IntKind.u8).sl g.2.1 g.1.2.2.1.1.toNat)) : Int)) then bif ((g.2.2.1.length + [gt (Sh.int IntKind.u8) (gt (Sh.int IntKind.u8).sl g.2.1 g.1.2.2.1.1.toNat) g.1.2.2.2.2.1.1.toNat].length) * (1 : Nat)).ble (140737488355328 : Nat) then L (((g.1.1.1, ()), ((), ()), (g.1.2.2.1.1, ()), ((), ()), (IntKind.i64.wrap (g.1.2.2.2.2.1.1 + (1 : Int)), ()), ()), g.2.1, g.2.2.1 ++ [gt (Sh.int IntKind.u8) (gt (Sh.int IntKind.u8).sl g.2.1 g.1.2.2.1.1.toNat) g.1.2.2.2.2.1.1.toNat], ()) else none else none else none else (f30 k (((g.2.2.1, ()), ()), ())).bind fun v => bif v.1.1.1 == (↑g.2.2.1.length : Int) then some (((true, ()), ()), ()) else L1 (((g.1.1.1, ()), ((), ()), (IntKind.i64.wrap (g.1.2.2.1.1 + (1 : Int)), ()), ()), g.2.1, ()) else none
def e31_1 (k : Nat) (b : List Int) (L1 : ((List Int × Unit) × (Unit × Unit) × (Int × Unit) × Unit) × List (List Int) × Unit → Option (((Bool × Unit) × Unit) × Unit)) (g : ((List Int × Unit) × (Unit × Unit) × (Int × Unit) × (Unit × Unit) × (Int × Unit) × Unit) × List (List Int) × List Int × Unit) (L : ((List Int × Unit) × (Unit × Unit) × (Int × Unit) × (Unit × Unit) × (Int × Unit) × Unit) × List (List Int) × List Int × Unit → Option (((Bool × Unit) × Unit) × Unit)) : Option (((Bool × Unit) × Unit) × Unit) := bif decide (g.1.2.2.2.2.1.1 < (↑g.1.1.1.length : Int)) then bif decide ((0 : Int) ≤ g.1.2.2.2.2.1.1 ∧ g.1.2.2.2.2.1.1 < (↑g.1.1.1.length : Int)) then bif ((g.2.2.1.length + [gt (Sh.int IntKind.u8) g.1.1.1 g.1.2.2.2.2.1.1.toNat].length) * (1 : Nat)).ble (140737488355328 : Nat) then L (((g.1.1.1, ()), ((), ()), (g.1.2.2.1.1, ()), ((), ()), (IntKind.i64.wrap (g.1.2.2.2.2.1.1 + (1 : Int)), ()), ()), g.2.1, g.2.2.1 ++ [gt (Sh.int IntKind.u8) g.1.1.1 g.1.2.2.2.2.1.1.toNat], ()) else none else none else loopN (e31_0 k b L1) k (((g.1.1.1, ()), ((), ()), (g.1.2.2.1.1, ()), ((), ()), ((0 : Int), ()), ()), g.2.1, g.2.2.1, ())
def e31_2 (k : Nat) (b : List Int) (g : ((List Int × Unit) × (Unit × Unit) × (Int × Unit) × Unit) × List (List Int) × Unit) (L : ((List Int × Unit) × (Unit × Unit) × (Int × Unit) × Unit) × List (List Int) × Unit → Option (((Bool × Unit) × Unit) × Unit)) : Option (((Bool × Unit) × Unit) × Unit) := bif decide (g.1.2.2.1.1 < (↑g.2.1.length : Int)) then loopN (e31_1 k b L) k (((g.1.1.1, ()), ((), ()), (g.1.2.2.1.1, ()), ((), ()), ((0 : Int), ()), ()), g.2.1, [], ()) else some (((false, ()), ()), ())
theorem e31_eq (k : Nat) (b : List Int) : f31 k (((b, ()), ()), ()) = bif (↑b.length : Int) == (0 : Int) then some (((false, ()), ()), ()) else bif decide ((↑b.length : Int) > (3 : Int)) then some (((false, ()), ()), ()) else (f30 k (((b, ()), ()), ())).bind fun v => bif decide (v.1.1.1 > (0 : Int)) then some (((false, ()), ()), ()) else loopN (e31_2 k b) k (((b, ()), ((), ()), ((0 : Int), ()), ()), [[(128 : Int)], [(144 : Int)], [(160 : Int)], [(128 : Int), (128 : Int)], [(144 : Int), (128 : Int)], [(160 : Int), (128 : Int)], [(128 : Int), (128 : Int), (128 : Int)], [(144 : Int), (128 : Int), (128 : Int)]], ()) := by kernel_rfl
def e15_0 (k : Nat) (b : List Int) (g : ((List Int × Unit) × (Unit × Unit) × (Int × Unit) × Unit) × List Int × Unit) (L : ((List Int × Unit) × (Unit × Unit) × (Int × Unit) × Unit) × List Int × Unit → Option (((List Int × Unit) × (List Int × Unit) × Unit) × Unit)) : Option (((List Int × Unit) × (List Int × Unit) × Unit) × Unit) := bif decide (g.1.2.2.1.1 < (↑g.1.1.1.length : Int)) then bif decide ((0 : Int) ≤ g.1.2.2.1.1 ∧ g.1.2.2.1.1 ≤ (↑g.1.1.1.length : Int) ∧ (↑g.1.1.1.length : Int) ≤ (↑g.1.1.1.length : Int) ∧ (↑g.1.1.1.length : Int) ≤ (↑g.1.1.1.length : Int)) then (f31 k (((List.drop g.1.2.2.1.1.toNat (List.take (↑g.1.1.1.length : Int).toNat g.1.1.1), ()), ()), ())).bind fun v => bif v.1.1.1 then bif decide ((0 : Int) ≤ g.1.2.2.1.1 ∧ g.1.2.2.1.1 ≤ (↑g.1.1.1.length : Int) ∧ (↑g.1.1.1.length : Int) ≤ (↑g.1.1.1.length : Int) ∧ (↑g.1.1.1.length : Int) ≤ (↑g.1.1.1.length : Int)) then some (((g.2.1, ()), (List.drop g.1.2.2.1.1.toNat (List.take (↑g.1.1.1.length : Int).toNat g.1.1.1), ()), ()), ()) else none else bif decide ((0 : Int) ≤ g.1.2.2.1.1 ∧ g.1.2.2.1.1 ≤ (↑g.1.1.1.length : Int) ∧ (↑g.1.1.1.length : Int) ≤ (↑g.1.1.1.length : Int) ∧ (↑g.1.1.1.length : Int) ≤ (↑g.1.1.1.length : Int)) then (f30 k (((List.drop g.1.2.2.1.1.toNat (List.take (↑g.1.1.1.length : Int).toNat g.1.1.1), ()), ()), ())).bind fun v => bif v.1.1.1 == (0 : Int) then bif ((g.2.1.length + [(65533 : Int)].length) * (4 : Nat)).ble (140737488355328 : Nat) then L (((g.1.1.1, ()), ((), ()), (IntKind.i64.wrap (g.1.2.2.1.1 + (1 : Int)), ()), ()), g.2.1 ++ [(65533 : Int)], ()) else none else bif ((g.2.1.length + [v.1.2.1.1].length) * (4 : Nat)).ble (140737488355328 : Nat) then L (((g.1.1.1, ()), ((), ()), (IntKind.i64.wrap (g.1.2.2.1.1 + v.1.1.1), ()), ()), g.2.1 ++ [v.1.2.1.1], ()) else none else none else none else some (((g.2.1, ()), ([], ()), ()), ())
theorem e15_eq (k : Nat) (b : List Int) : f15 k (((b, ()), ()), ()) = loopN (e15_0 k b) k (((b, ()), ((), ()), ((0 : Int), ()), ()), [], ()) := by kernel_rfl
def e16_0 (k : Nat) (p : List Int) (b : List Int) (g : ((Unit × Unit) × (Unit × Unit) × (List Int × Unit) × Unit) × (List Int × Unit) × List Int × Unit) (L : ((Unit × Unit) × (Unit × Unit) × (List Int × Unit) × Unit) × (List Int × Unit) × List Int × Unit → Option (((List Int × Unit) × Unit) × (List Int × Unit) × Unit)) : Option (((List Int × Unit) × Unit) × (List Int × Unit) × Unit) := (f33 k (((g.1.2.2.1.1, ()), ()), ())).bind fun v => bif v.1.1.1 then (f29 k (((g.1.2.2.1.1, ()), ()), ())).bind fun v => bif ((g.2.2.1.length + [v.1.1.1].length) * (4 : Nat)).ble (140737488355328 : Nat) then bif decide ((0 : Int) ≤ v.1.2.1.1 ∧ v.1.2.1.1 ≤ (↑g.1.2.2.1.1.length : Int) ∧ (↑g.1.2.2.1.1.length : Int) ≤ (↑g.1.2.2.1.1.length : Int) ∧ (↑g.1.2.2.1.1.length : Int) ≤ (↑g.1.2.2.1.1.length : Int)) then L ((((), ()), ((), ()), (List.drop (Int.toNat v.1.2.1.1) (List.take (↑g.1.2.2.1.1.length : Int).toNat g.1.2.2.1.1), ()), ()), (g.2.1.1, ()), g.2.2.1 ++ [v.1.1.1], ()) else none else none else (f32 k (((g.1.2.2.1.1, ()), ()), ())).bind fun v => some (((g.2.2.1, ()), ()), (v.2.1, ()), ())
theorem e16_eq (k : Nat) (b : List Int) (p : List Int) : f16 k ((((), ()), (p, ()), ()), (b, ()), ()) = (f32 k (((b, ()), ()), ())).bind fun v => bif ((List.length v.2.1 + p.length) * (1 : Nat)).ble (140737488355328 : Nat) then loopN (e16_0 k p b) k ((((), ()), ((), ()), (v.2.1 ++ p, ()), ()), (b, ()), [], ()) else none := by kernel_rfl
theorem e17_eq (k : Nat) (b : List Int) : f17 k ((((), ()), ()), (b, ()), ()) = some ((((↑b.length : Int), ()), ()), ()) := by kernel_rfl
theorem e18_eq (k : Nat) (b : List Int) : f18 k ((((), ()), ()), (b, ()), ()) = (f34 k ((([(65533 : Int)], ()), ((↑b.length : Int), ()), ()), ())).bind fun v => some (((v.1.1.1, ()), ()), ([], ()), ()) := by kernel_rfl

theorem gt_row {F : List (List Int)} {i : Nat} (h : i < F.length) : gt (Sh.int IntKind.u8).sl F i = F[i] := by simp [gt, h]
/-- does a row of bytes behind these make a whole rune of all? -/
def fits (b f : List Int) : Bool := (whole (b ++ f)).1 == ((b ++ f).length : Int)
abbrev B1 : Type := ((Bool × Unit) × Unit) × Unit
theorem e31_0_loop (k0 : Nat) (b b0 : List Int) (F : List (List Int)) (L : ((List Int × Unit) × (Unit × Unit) × (Int × Unit) × Unit) × List (List Int) × Unit → Option B1) (hF : F.length ≤ 100) (i : Nat) (hi : i < F.length) (hFi : (F[i]).length ≤ 100) :
    ∀ (n j : Nat) (more : List Int) (k : Nat), (F[i]).length - j ≤ n → j ≤ (F[i]).length → (F[i]).length - j + 1 ≤ k → more.length ≤ 1000 + j → (∀ x ∈ more ++ (F[i]).drop j, U8 x) →
    loopN (e31_0 k0 b0 L) k (((b, ()), ((), ()), ((i : Int), ()), ((), ()), ((j : Int), ()), ()), F, more, ()) =
      bif (whole (more ++ (F[i]).drop j)).1 == ((more ++ (F[i]).drop j).length : Int) then v1 true else L (((b, ()), ((), ()), (IntKind.i64.wrap ((i : Int) + 1), ()), ()), F, ()) := by
  intro n
  have ci : (0 : Int) ≤ (i : Int) ∧ (i : Int) < (F.length : Int) := by omega
  have ti : ((i : Int)).toNat = i := Int.toNat_natCast i
  have fin : ∀ (j : Nat) (more : List Int) (k : Nat), (F[i]).length ≤ j → 1 ≤ k → (∀ x ∈ more ++ (F[i]).drop j, U8 x) →
    loopN (e31_0 k0 b0 L) k (((b, ()), ((), ()), ((i : Int), ()), ((), ()), ((j : Int), ()), ()), F, more, ()) =
      bif (whole (more ++ (F[i]).drop j)).1 == ((more ++ (F[i]).drop j).length : Int) then v1 true else L (((b, ()), ((), ()), (IntKind.i64.wrap ((i : Int) + 1), ()), ()), F, ()) := by
    intro j more k hj hk hu
    obtain ⟨k, rfl⟩ : ∃ k2, k = k2 + 1 := ⟨k - 1, by omega⟩
    rw [List.drop_of_length_le hj, List.append_nil] at hu ⊢
    rw [loopN_succ, e31_0]
    simp only []
    rw [cpos ci, ti, gt_row hi, cneg (by omega), whole_ok k0 more hu, Option.bind_some]
  induction n with
  | zero => intro j more k hn hj hk hm hu; exact fin j more k (by omega) (by omega) hu
  | succ n ih =>
    intro j more k hn hj hk hm hu
    by_cases h0 : (F[i]).length ≤ j
    · exact fin j more k h0 (by omega) hu
    obtain ⟨k, rfl⟩ : ∃ k2, k = k2 + 1 := ⟨k - 1, by omega⟩
    have hlt : j < (F[i]).length := by omega
    have hd := List.drop_eq_getElem_cons hlt
    have hap : more ++ (F[i]).drop j = (more ++ [(F[i])[j]]) ++ (F[i]).drop (j + 1) := by rw [hd, List.append_assoc, List.singleton_append]
    have cj : (0 : Int) ≤ (j : Int) ∧ (j : Int) < ((F[i]).length : Int) := by omega
    rw [hap] at hu ⊢
    rw [loopN_succ, e31_0]
    simp only []
    rw [cpos ci, ti, gt_row hi, cpos (by omega), cpos ci, cpos cj, show ((j : Int)).toNat = j from Int.toNat_natCast j, gt_at hlt, bl1 (n := more.length + [(F[i])[j]].length) (by rw [List.length_singleton]; omega), wrapId (n := (j : Int) + 1) (by omega) (by omega), show ((j : Int) + 1) = ((j + 1 : Nat) : Int) by omega]
    exact ih (j + 1) _ k (by omega) (by omega) (by omega) (by rw [List.length_append, List.length_singleton]; omega) hu
theorem e31_1_loop (k0 : Nat) (b b0 : List Int) (F : List (List Int)) (L : ((List Int × Unit) × (Unit × Unit) × (Int × Unit) × Unit) × List (List Int) × Unit → Option B1) (hF : F.length ≤ 100) (i : Nat) (hi : i < F.length) (hFi : (F[i]).length ≤ 100) (hb : b.length ≤ 3) (hk0 : 200 ≤ k0) (hu : ∀ x ∈ b ++ F[i], U8 x) :
    ∀ (n j : Nat) (k : Nat), b.length - j ≤ n → j ≤ b.length → b.length - j + 1 ≤ k →
    loopN (e31_1 k0 b0 L) k (((b, ()), ((), ()), ((i : Int), ()), ((), ()), ((j : Int), ()), ()), F, b.take j, ()) = bif fits b F[i] then v1 true else L (((b, ()), ((), ()), (IntKind.i64.wrap ((i : Int) + 1), ()), ()), F, ()) := by
  intro n
  have fin : ∀ (j k : Nat), b.length ≤ j → 1 ≤ k → loopN (e31_1 k0 b0 L) k (((b, ()), ((), ()), ((i : Int), ()), ((), ()), ((j : Int), ()), ()), F, b.take j, ()) = bif fits b F[i] then v1 true else L (((b, ()), ((), ()), (IntKind.i64.wrap ((i : Int) + 1), ()), ()), F, ()) := by
    intro j k hj hk
    obtain ⟨k, rfl⟩ : ∃ k2, k = k2 + 1 := ⟨k - 1, by omega⟩
    rw [loopN_succ, e31_1]
    simp only []
    rw [cneg (by omega), List.take_of_length_le hj]
    have := e31_0_loop k0 b b0 F L hF i hi hFi (F[i]).length 0 b k0 (by omega) (by omega) (by omega) (by omega) (by rw [List.drop_zero]; exact hu)
    rw [List.drop_zero] at this
    exact this
  induction n with
  | zero => intro j k hn hj hk; exact fin j k (by omega) (by omega)
  | succ n ih =>
    intro j k hn hj hk
    by_cases h0 : b.length ≤ j
    · exact fin j k h0 (by omega)
    obtain ⟨k, rfl⟩ : ∃ k2, k = k2 + 1 := ⟨k - 1, by omega⟩
    have hlt : j < b.length := by omega
    have htl : (b.take j).length = j := by rw [List.length_take]; omega
    rw [loopN_succ, e31_1]
    simp only []
    rw [cpos (by omega), cpos (by omega), show ((j : Int)).toNat = j from Int.toNat_natCast j, gt_at hlt, bl1 (n := (b.take j).length + [b[j]].length) (by rw [List.length_singleton]; omega), wrapId (n := (j : Int) + 1) (by omega) (by omega), show ((j : Int) + 1) = ((j + 1 : Nat) : Int) by omega, ← List.take_succ_eq_append_getElem hlt]
    exact ih (j + 1) k (by omega) (by omega) (by omega)
theorem e31_2_loop (k0 : Nat) (b b0 : List Int) (F : List (List Int)) (hF : F.length ≤ 100) (hFi : ∀ f ∈ F, f.length ≤ 100) (hb : b.length ≤ 3) (hk0 : 200 ≤ k0) (hub : ∀ x ∈ b, U8 x) (hu : ∀ f ∈ F, ∀ x ∈ f, U8 x) :
    ∀ (n i : Nat) (k : Nat), F.length - i ≤ n → i ≤ F.length → F.length - i + 1 ≤ k →
    loopN (e31_2 k0 b0) k (((b, ()), ((), ()), ((i : Int), ()), ()), F, ()) = v1 ((F.drop i).any (fits b)) := by
  intro n
  induction n with
  | zero =>
    intro i k hn hi hk
    obtain ⟨k, rfl⟩ : ∃ k2, k = k2 + 1 := ⟨k - 1, by omega⟩
    rw [loopN_succ, e31_2]
    simp only []
    rw [cneg (by omega), List.drop_of_length_le (by omega), List.any_nil]
  | succ n ih =>
    intro i k hn hi hk
    obtain ⟨k, rfl⟩ : ∃ k2, k = k2 + 1 := ⟨k - 1, by omega⟩
    rw [loopN_succ, e31_2]
    simp only []
    by_cases h0 : F.length ≤ i
    · rw [cneg (by omega), List.drop_of_length_le h0, List.any_nil]
    · have hlt : i < F.length := by omega
      have hl := e31_1_loop k0 b b0 F (loopN (e31_2 k0 b0) k) hF i hlt (hFi _ (List.getElem_mem hlt)) hb hk0 (fun x hx => by
        cases List.mem_append.1 hx with
        | inl h => exact hub x h
        | inr h => exact hu _ (List.getElem_mem hlt) x h) b.length 0 k0 (by omega) (by omega) (by omega)
      rw [List.take_zero] at hl
      rw [cpos (by omega)]
      refine hl.trans ?_
      rw [wrapId (n := (i : Int) + 1) (by omega) (by omega), show ((i : Int) + 1) = ((i + 1 : Nat) : Int) by omega, ih (i + 1) k (by omega) (by omega) (by omega), List.drop_eq_getElem_cons hlt, List.any_cons]
      cases fits b F[i] <;> rfl
def fills : List (List Int) := [[128], [144], [160], [128, 128], [144, 128], [160, 128], [128, 128, 128], [144, 128, 128]]
theorem begins_at (k : Nat) (b : List Int) (hb : ∀ x ∈ b, U8 x) (hk : 200 ≤ k) : f31 k (((b, ()), ()), ()) = v1 (decide (1 ≤ b.length ∧ b.length ≤ 3) && (decide ((whole b).1 ≤ 0) && fills.any (fits b))) := by
  rw [e31_eq]
  by_cases h0 : b.length = 0
  · rw [bpos (by omega), cond_true, decide_eq_false (by omega), Bool.false_and]
  rw [bneg (by omega), cond_false]
  by_cases h3 : 3 < b.length
  · rw [cpos (by omega), decide_eq_false (by omega), Bool.false_and]
  rw [cneg (by omega), decide_eq_true (by omega), Bool.true_and, whole_ok k b hb, Option.bind_some]
  simp only []
  by_cases hw : (whole b).1 > 0
  · rw [cpos hw, decide_eq_false (by omega), Bool.false_and]
  · rw [cneg hw, decide_eq_true (by omega), Bool.true_and]
    exact e31_2_loop k b b fills (by decide) (by decide) (by omega) hk hb (by decide) fills.length 0 k (by decide) (by decide) (by have : fills.length = 8 := rfl; omega)
/-! that is: whether they are a proper beginning of a rune's -/
theorem fits_not {b f : List Int} (h : (whole (b ++ f)).1 ≠ ((b ++ f).length : Int)) : fits b f = false := by
  unfold fits
  exact beq_eq_false_iff_ne.2 h
theorem fits_of {b f : List Int} (h : (whole (b ++ f)).1 = ((b ++ f).length : Int)) : fits b f = true := by
  unfold fits
  exact beq_iff_eq.2 h
/-- a rune of all of the bytes, with a byte behind them -/
theorem fits_pend {b f : List Int} (hb : b.length ≠ 0) (hf : f.length ≠ 0) (h0 : (whole b).1 ≤ 0) (h : fits b f = true) : Pend b := by
  have hl : (b ++ f).length = b.length + f.length := List.length_append
  have hw : (whole (b ++ f)).1 = ((b ++ f).length : Int) := beq_iff_eq.1 h
  by_cases hp : Pend b
  · exact hp
  · rw [whole_app f hb hp] at hw; omega
theorem pend_fits {b : List Int} (h : Pend b) : fills.any (fits b) = true := by
  have h' := h
  unfold Pend at h'
  have g1 := loOf_ge (b.getD 0 0)
  have g2 := hiOf_le (b.getD 0 0)
  have any : ∀ f ∈ fills, fits b f = true → fills.any (fits b) = true := fun f hf hh => List.any_eq_true.2 ⟨f, hf, hh⟩
  match b, h, h', any with
  | [], h, _, _ => exact absurd rfl h.1
  | [x], _, h', any =>
    simp only [List.length_cons, List.length_nil, List.getD_cons_zero] at h' g1 g2
    by_cases q1 : x < 224
    · refine any [128] (by decide) (fits_of ?_)
      unfold whole
      simp only [List.cons_append, List.nil_append, List.length_cons, List.length_nil, List.getD_cons_zero, List.getD_cons_succ]
      rw [if_neg (by omega), if_neg (by omega), if_pos (by omega)]; rfl
    by_cases q2 : x < 240
    · by_cases q3 : x = 224
      · refine any [160, 128] (by decide) (fits_of ?_)
        subst q3; rfl
      · refine any [128, 128] (by decide) (fits_of ?_)
        have e1 : loOf x = 128 := by unfold loOf; rw [if_neg q3, if_neg (by omega)]
        have e2 : 128 ≤ hiOf x := by unfold hiOf; repeat' split <;> omega
        unfold whole
        simp only [List.cons_append, List.nil_append, List.length_cons, List.length_nil, List.getD_cons_zero, List.getD_cons_succ]
        rw [if_neg (by omega), if_neg (by omega), if_neg (by omega), if_pos (by omega)]; rfl
    · by_cases q3 : x = 240
      · refine any [144, 128, 128] (by decide) (fits_of ?_)
        subst q3; rfl
      · refine any [128, 128, 128] (by decide) (fits_of ?_)
        have e1 : loOf x = 128 := by unfold loOf; rw [if_neg (by omega), if_neg q3]
        have e2 : 128 ≤ hiOf x := by unfold hiOf; repeat' split <;> omega
        unfold whole
        simp only [List.cons_append, List.nil_append, List.length_cons, List.length_nil, List.getD_cons_zero, List.getD_cons_succ]
        rw [if_neg (by omega), if_neg (by omega), if_neg (by omega), if_neg (by omega), if_pos (by omega)]; rfl
  | [x, y], _, h', any =>
    simp only [List.length_cons, List.length_nil, List.getD_cons_zero, List.getD_cons_succ] at h' g1 g2
    by_cases q2 : x < 240
    · refine any [128] (by decide) (fits_of ?_)
      unfold whole
      simp only [List.cons_append, List.nil_append, List.length_cons, List.length_nil, List.getD_cons_zero, List.getD_cons_succ]
      rw [if_neg (by omega), if_neg (by omega), if_neg (by omega), if_pos (by omega)]; rfl
    · refine any [128, 128] (by decide) (fits_of ?_)
      unfold whole
      simp only [List.cons_append, List.nil_append, List.length_cons, List.length_nil, List.getD_cons_zero, List.getD_cons_succ]
      rw [if_neg (by omega), if_neg (by omega), if_neg (by omega), if_neg (by omega), if_pos (by omega)]; rfl
  | [x, y, z], _, h', any =>
    simp only [List.length_cons, List.length_nil, List.getD_cons_zero, List.getD_cons_succ] at h' g1 g2
    refine any [128] (by decide) (fits_of ?_)
    unfold whole
    simp only [List.cons_append, List.nil_append, List.length_cons, List.length_nil, List.getD_cons_zero, List.getD_cons_succ]
    rw [if_neg (by omega), if_neg (by omega), if_neg (by omega), if_neg (by omega), if_pos (by omega)]; rfl
  | x :: y :: z :: u :: t, _, h', _ =>
    simp only [List.length_cons] at h'
    omega
theorem begins_ok (k : Nat) (b : List Int) (hb : ∀ x ∈ b, U8 x) (hk : 200 ≤ k) : f31 k (((b, ()), ()), ()) = v1 (decide (Pend b)) := by
  rw [begins_at k b hb hk]
  by_cases hp : Pend b
  · have hl := pend_len hp
    rw [decide_eq_true hp, decide_eq_true (by omega), pend_whole hp, pend_fits hp]; rfl
  · rw [decide_eq_false hp]
    cases hh : (decide (1 ≤ b.length ∧ b.length ≤ 3) && (decide ((whole b).1 ≤ 0) && fills.any (fits b)))
    · rfl
    · simp only [Bool.and_eq_true, decide_eq_true_eq, List.any_eq_true] at hh
      obtain ⟨h1, h2, f, hf, h3⟩ := hh
      have hfl : ∀ f ∈ fills, f.length ≠ 0 := by decide
      exact absurd (fits_pend (by omega) (hfl f hf) h2 h3) hp
/-! bytes that come in pieces -/
theorem e15_loop (k0 : Nat) (b b0 : List Int) (hl : b.length ≤ 35184372088832) (hb : ∀ x ∈ b, U8 x) (hk0 : 200 ≤ k0) : ∀ (n i : Nat) (out : List Int) (k : Nat), b.length - i ≤ n → i ≤ b.length → b.length - i + 1 ≤ k → out.length ≤ i →
    loopN (e15_0 k0 b0) k (((b, ()), ((), ()), ((i : Int), ()), ()), out, ()) = some (((out ++ (feed (b.drop i)).1, ()), ((feed (b.drop i)).2, ()), ()), ()) := by
  intro n
  induction n with
  | zero =>
    intro i out k hn hi hk ho
    obtain ⟨k, rfl⟩ : ∃ k2, k = k2 + 1 := ⟨k - 1, by omega⟩
    rw [loopN_succ, e15_0]
    simp only []
    rw [cneg (by omega), List.drop_of_length_le (by omega), feed_nil, List.append_nil]
  | succ n ih =>
    intro i out k hn hi hk ho
    obtain ⟨k, rfl⟩ : ∃ k2, k = k2 + 1 := ⟨k - 1, by omega⟩
    rw [loopN_succ, e15_0]
    simp only []
    by_cases h0 : b.length ≤ i
    · rw [cneg (by omega), List.drop_of_length_le h0, feed_nil, List.append_nil]
    · have hdl : (b.drop i).length = b.length - i := List.length_drop
      have h1 : (b.drop i).length ≠ 0 := by omega
      have hu := u8_drop hb i
      rw [cpos (by omega), cpos (slice_in (by omega) (by omega)), show ((b.length : Int)).toNat = b.length from Int.toNat_natCast _, List.take_length, show ((i : Int)).toNat = i from Int.toNat_natCast _, begins_ok k0 _ hu hk0, Option.bind_some]
      simp only []
      by_cases hp : Pend (b.drop i)
      · rw [decide_eq_true hp, cond_true, cpos (slice_in (by omega) (by omega)), feed_pend hp, List.append_nil]
      rw [decide_eq_false hp, cond_false, cpos (slice_in (by omega) (by omega)), whole_ok k0 _ hu, Option.bind_some]
      simp only []
      have hd := dec_n h1
      have hw := whole_n (b.drop i)
      rw [feed_step h1 hp]
      rw [List.drop_drop]
      unfold dec at hd ⊢
      rw [if_neg h1] at hd ⊢
      by_cases hz : (whole (b.drop i)).1 = 0
      · rw [if_pos hz] at hd ⊢
        rw [bpos hz, cond_true, bl4 (n := out.length + [(65533 : Int)].length) (by rw [List.length_singleton]; omega), wrapId (by omega) (by omega), show ((i : Int) + 1) = ((i + 1 : Nat) : Int) by omega]
        rw [ih (i + 1) _ k (by omega) (by omega) (by omega) (by rw [List.length_append, List.length_singleton]; omega), List.append_assoc, List.singleton_append]; rfl
      · rw [if_neg hz] at hd ⊢
        rw [bneg hz, cond_false, bl4 (n := out.length + [(whole (b.drop i)).2].length) (by rw [List.length_singleton]; omega)]
        simp only [] at hd ⊢
        rw [wrapId (by omega) (by omega), show ((i : Int) + (whole (b.drop i)).1) = ((i + (whole (b.drop i)).1.toNat : Nat) : Int) by omega]
        rw [ih (i + (whole (b.drop i)).1.toNat) _ k (by omega) (by omega) (by omega) (by rw [List.length_append, List.length_singleton]; omega), List.append_assoc, List.singleton_append]
theorem rfeed_ok (k : Nat) (b : List Int) (hb : ∀ x ∈ b, U8 x) (hl : b.length ≤ 35184372088832) (hk : b.length + 200 ≤ k) : f15 k (((b, ()), ()), ()) = some ((((feed b).1, ()), ((feed b).2, ()), ()), ()) := by
  have h := e15_loop k b b hl hb (by omega) b.length 0 [] k (by omega) (by omega) (by omega) (Nat.le_refl _)
  rw [List.drop_zero, List.nil_append] at h
  rw [e15_eq]; exact h
theorem e16_loop (k0 : Nat) (p0 b0 q : List Int) (hk0 : 2 ≤ k0) : ∀ (n : Nat) (b out : List Int) (k : Nat), b.length ≤ n → b.length + 1 ≤ k → (∀ x ∈ b, U8 x) → out.length + b.length ≤ 35184372088832 →
    loopN (e16_0 k0 p0 b0) k ((((), ()), ((), ()), (b, ()), ()), (q, ()), out, ()) = some (((out ++ (feed b).1, ()), ()), ((feed b).2, ()), ()) := by
  intro n
  have fin : ∀ (b out : List Int) (k : Nat), (b.length = 0 ∨ Pend b) → 1 ≤ k → (∀ x ∈ b, U8 x) → out.length + b.length ≤ 35184372088832 →
    loopN (e16_0 k0 p0 b0) k ((((), ()), ((), ()), (b, ()), ()), (q, ()), out, ()) = some (((out ++ (feed b).1, ()), ()), ((feed b).2, ()), ()) := by
    intro b out k hq hk hb ho
    obtain ⟨k, rfl⟩ : ∃ k2, k = k2 + 1 := ⟨k - 1, by omega⟩
    have hf : feed b = ([], b) := by
      rcases hq with h | h
      · rw [List.length_eq_zero_iff.1 h]; rfl
      · exact feed_pend h
    rw [loopN_succ, e16_0]
    simp only []
    rw [full_ok k0 b hb, Option.bind_some]
    simp only []
    rw [decide_eq_false (by rintro ⟨h1, h2⟩; rcases hq with h | h; exact h1 h; exact h2 h), cond_false, clone1 k0 b (by omega), Option.bind_some, hf, List.append_nil]
  induction n with
  | zero => intro b out k hn hk hb ho; exact fin b out k (.inl (by omega)) (by omega) hb ho
  | succ n ih =>
    intro b out k hn hk hb ho
    by_cases hq : b.length = 0 ∨ Pend b
    · exact fin b out k hq (by omega) hb ho
    obtain ⟨k, rfl⟩ : ∃ k2, k = k2 + 1 := ⟨k - 1, by omega⟩
    have h0 : b.length ≠ 0 := fun h => hq (.inl h)
    have hp : ¬ Pend b := fun h => hq (.inr h)
    have hd := dec_n h0
    rw [loopN_succ, e16_0]
    simp only []
    rw [full_ok k0 b hb, Option.bind_some]
    simp only []
    rw [decide_eq_true ⟨h0, hp⟩, cond_true, dec_ok k0 b hb hk0, Option.bind_some]
    simp only []
    rw [bl4 (n := out.length + [(dec b).1].length) (by rw [List.length_singleton]; omega), cpos (slice_in (by omega) (by omega)), show ((b.length : Int)).toNat = b.length from Int.toNat_natCast _, List.take_length]
    have hl : (b.drop (dec b).2.toNat).length = b.length - (dec b).2.toNat := List.length_drop
    rw [ih _ _ k (by omega) (by omega) (u8_drop hb _) (by rw [List.length_append, List.length_singleton]; omega), feed_step h0 hp, List.append_assoc, List.singleton_append]
theorem feed_ok (k : Nat) (b p : List Int) (hb : ∀ x ∈ b, U8 x) (hp : ∀ x ∈ p, U8 x) (hl : b.length + p.length ≤ 35184372088832) (hk : b.length + p.length + 2 ≤ k) :
    f16 k ((((), ()), (p, ()), ()), (b, ()), ()) = some ((((feed (b ++ p)).1, ()), ()), ((feed (b ++ p)).2, ()), ()) := by
  rw [e16_eq, clone1 k b (by omega), Option.bind_some]
  show (bif ((b.length + p.length) * (1 : Nat)).ble (140737488355328 : Nat) then loopN (e16_0 k p b) k ((((), ()), ((), ()), (b ++ p, ()), ()), (b, ()), [], ()) else none) = _
  have hap : (b ++ p).length = b.length + p.length := List.length_append
  rw [bl1 (by omega), e16_loop k p b b (by omega) (b ++ p).length (b ++ p) [] k (Nat.le_refl _) (by omega) (fun x hx => by
    cases List.mem_append.1 hx with
    | inl h => exact hb x h
    | inr h => exact hp x h) (by rw [List.length_nil]; omega), List.nil_append]
theorem rep0 (k : Nat) : f34 (k + 20) ((([65533], ()), ((0 : Int), ()), ()), ()) = some ((([], ()), ()), ()) := by kernel_rfl
theorem rep1 (k : Nat) : f34 (k + 20) ((([65533], ()), ((1 : Int), ()), ()), ()) = some ((([65533], ()), ()), ()) := by kernel_rfl
theorem rep2 (k : Nat) : f34 (k + 20) ((([65533], ()), ((2 : Int), ()), ()), ()) = some ((([65533, 65533], ()), ()), ()) := by kernel_rfl
theorem rep3 (k : Nat) : f34 (k + 20) ((([65533], ()), ((3 : Int), ()), ()), ()) = some ((([65533, 65533, 65533], ()), ()), ()) := by kernel_rfl
theorem rest_ok (k : Nat) (b : List Int) (h : b.length ≤ 3) : f18 (k + 20) ((((), ()), ()), (b, ()), ()) = some (((List.replicate b.length 65533, ()), ()), ([], ()), ()) := by
  rw [e18_eq]
  generalize b.length = n at *
  match n, h with
  | 0, _ => rw [show (((0 : Nat) : Int)) = 0 from rfl, rep0, Option.bind_some]; rfl
  | 1, _ => rw [show (((1 : Nat) : Int)) = 1 from rfl, rep1, Option.bind_some]; rfl
  | 2, _ => rw [show (((2 : Nat) : Int)) = 2 from rfl, rep2, Option.bind_some]; rfl
  | 3, _ => rw [show (((3 : Nat) : Int)) = 3 from rfl, rep3, Option.bind_some]; rfl
end
end Go.Proofs.YtjdbamenbgfcjaaDoor.Gl
