-- written by a program of this session after the way of the kit's print; not the kit's own print. Lean checks it.
import Derived.Test.YtmokmkaipcojkaaQx0
import Derived.Test.YtmokmkaipcojkaaQx2
import Derived.Test.YtmokmkaipcojkaaQx3
namespace Go.Proofs.Ytmokmkaipcojkaa.Q
open Go.RowKit Go.Proofs.YtmokmkaipcojkaaW.PrintWords Go.Proofs.YtmokmkaipcojkaaW.PrintLast Go.Proofs.YtmokmkaipcojkaaW.PrintMore
attribute [local go_sem] max2_int min2_int max_two min_two max_three min_three max_four min_four   -- for this text's walks alone
set_option linter.unusedVariables false
set_option linter.unusedSimpArgs false

/-! ### rect_Cut: function 24 -/
def rect_Cut.l0 : Nat → Bool → List (S26) → List Int → Int → Int → Int → Int → Int → Int → Option ((List (S26)))
  | 0, _, _, _, _, _, _, _, _, _ => none
  | k + 1, x2, x7, x17, x18, x19, x203000, x203001, x203002, x203003 => if x19 < x18 then (if 0 ≤ x19 then (if x19 < (x17.length : Int) then (if x2 = true then ((rect_Clamp.f (rd x17 x19) 0 x203003).bind fun t210 => ((rect_Clean.f x203000 x203001 x203002 t210).bind fun bt211 => (if x7.length < 4398046511104 then (rect_Cut.l0 k x2 (x7 ++ [(⟨bt211.1, bt211.2.1, bt211.2.2.1, bt211.2.2.2⟩ : S26)]) x17 x18 (wrap64 (x19 + 1)) x203000 (wrap64 (x203001 + t210)) x203002 (wrap64 (x203003 - t210))) else (none)))) else ((rect_Clamp.f (rd x17 x19) 0 x203002).bind fun t218 => ((rect_Clean.f x203000 x203001 t218 x203003).bind fun bt219 => (if x7.length < 4398046511104 then (rect_Cut.l0 k x2 (x7 ++ [(⟨bt219.1, bt219.2.1, bt219.2.2.1, bt219.2.2.2⟩ : S26)]) x17 x18 (wrap64 (x19 + 1)) (wrap64 (x203000 + t218)) x203001 (wrap64 (x203002 - t218)) x203003) else (none))))) else (none)) else (none)) else (some x7)
def rect_Cut.f (k : Nat) (a0_0 : Int) (a0_1 : Int) (a0_2 : Int) (a0_3 : Int) (l1 : List Int) (a2 : Bool) : Option ((List (S26))) := (rect_Clean.f a0_0 a0_1 a0_2 a0_3).bind fun bt203 => (if 0 ≤ (mn (l1.length : Int) 16) then (if (mn (l1.length : Int) 16) ≤ (l1.length : Int) then (rect_Cut.l0 k a2 ([] : List (S26)) (l1.take ((mn (l1.length : Int) 16) : Int).toNat) ((l1.take ((mn (l1.length : Int) 16) : Int).toNat).length : Int) 0 bt203.1 bt203.2.1 bt203.2.2.1 bt203.2.2.2) else (none)) else (none))
theorem rect_Cut.mono_l : ∀ k, (∀ y0 y1 y2 y3 y4 y5 y6 y7 y8, LeO (rect_Cut.l0 k y0 y1 y2 y3 y4 y5 y6 y7 y8) (rect_Cut.l0 (k + 1) y0 y1 y2 y3 y4 y5 y6 y7 y8))
  | 0 => fun _ _ _ _ _ _ _ _ _ r h => by simp [rect_Cut.l0] at h
  | k + 1 => by
    have ih0 := rect_Cut.mono_l k
    · intro y0 y1 y2 y3 y4 y5 y6 y7 y8
      unfold rect_Cut.l0
      repeat' first
      | (with_reducible exact ih0 _ _ _ _ _ _ _ _ _)
      | (with_reducible exact LeO.refl _)
      | (with_reducible exact LeO.none _)
      | (with_reducible refine LeO.ite ?_ ?_)
      | (with_reducible refine LeO.bind ?_ (fun _ => ?_))
      | exact ih0 _ _ _ _ _ _ _ _ _
      | exact LeO.none _
      | refine LeO.ite ?_ ?_
      | refine LeO.bind ?_ (fun _ => ?_)
theorem rect_Cut.mono : ∀ a0 a1 a2 a3 a4 a5 k, LeO (rect_Cut.f k a0 a1 a2 a3 a4 a5) (rect_Cut.f (k + 1) a0 a1 a2 a3 a4 a5) := by
  intro a0 a1 a2 a3 a4 a5 k
  have ih0 := rect_Cut.mono_l k
  unfold rect_Cut.f
  repeat' first
      | (with_reducible exact ih0 _ _ _ _ _ _ _ _ _)
      | (with_reducible exact LeO.refl _)
      | (with_reducible exact LeO.none _)
      | (with_reducible refine LeO.ite ?_ ?_)
      | (with_reducible refine LeO.bind ?_ (fun _ => ?_))
      | exact ih0 _ _ _ _ _ _ _ _ _
      | exact LeO.none _
      | refine LeO.ite ?_ ?_
      | refine LeO.bind ?_ (fun _ => ?_)
def rect_Cut.T9 : Bool × List (List Nat × List Nat) := (true, [([], []), ([0], [0]), ([], []), ([2], [2]), ([1, 3], [1, 3]), ([], []), ([5], [5]), ([], []), ([7], [7]), ([6, 8], [6, 8]), ([0, 1, 2, 3, 4, 5, 6], []), ([10, 4, 0, 1, 2, 3, 4, 5, 6], [4, 10]), ([0, 1, 2, 3, 4, 5, 6, 7, 8, 9, 10, 11], []), ([12, 9, 11, 0, 1, 2, 3, 4, 5, 6, 7, 8, 9, 10, 11], [9, 12])])
def rect_Cut.B9 : List Nat := [0, 1, 0, 4, 15, 0, 32, 0, 128, 480, 127, 1151, 4095, 8191]
theorem rect_Cut.tab9 : rtab .any (opsOf Try.f24 9) = rect_Cut.T9 := by kernel_rfl
theorem rect_Cut.bits9 : waitsOk rect_Cut.T9.2 rect_Cut.B9 = true := by kernel_rfl
def rect_Cut.T11 : Bool × List (List Nat × List Nat) := (true, [([], []), ([0], [0]), ([], []), ([2], [2]), ([1, 3], [1, 3]), ([], []), ([5], [5]), ([], []), ([7], [7]), ([6, 8], [6, 8]), ([0, 1, 2, 3, 4, 5, 6], []), ([10, 4, 0, 1, 2, 3, 4, 5, 6], [4, 10]), ([0, 1, 2, 3, 4, 5, 6, 7, 8, 9, 10, 11], []), ([12, 9, 11, 0, 1, 2, 3, 4, 5, 6, 7, 8, 9, 10, 11], [9, 12])])
def rect_Cut.B11 : List Nat := [0, 1, 0, 4, 15, 0, 32, 0, 128, 480, 127, 1151, 4095, 8191]
theorem rect_Cut.tab11 : rtab .any (opsOf Try.f24 11) = rect_Cut.T11 := by kernel_rfl
theorem rect_Cut.bits11 : waitsOk rect_Cut.T11.2 rect_Cut.B11 = true := by kernel_rfl
set_option maxHeartbeats 8000000 in
set_option maxRecDepth 100000 in
theorem rect_Cut.calls (k : Nat) (a0_0 : Int) (a0_1 : Int) (a0_2 : Int) (a0_3 : Int) (A1 : Option Addr) (c1 : Nat) (l1 : List Int) (a2 : Bool) (r : List (S26)) (w : World) (hr1 : Kd.C (Kd.int .i64) w A1 l1.length l1) (hc1 : l1.length ≤ c1) (h : rect_Cut.f k a0_0 a0_1 a0_2 a0_3 l1 a2 = some r) :
    Calls Try.prog 24 #[.agg #[.int .i64 a0_0, .int .i64 a0_1, .int .i64 a0_2, .int .i64 a0_3], .slice A1 l1.length c1, .bool a2] w fun e w' => ∃ v0_ : Value, e = .returned (v0_) ∧ Kd.R k26 26 w' w.heap.size (fun _ => True) v0_ r ∧ Below w.heap.size w w' := by
  have hu26 := Try.underlying26
  have HR1 := Aside0.mk hr1
  have HC1 := Aside0.mk hc1
  clear hr1 hc1
  have HB := Aside0.mk (Below.refl w.heap.size w)
  have H : ((rect_Clean.f a0_0 a0_1 a0_2 a0_3).bind fun bt203 => (if 0 ≤ (mn (l1.length : Int) 16) then (if (mn (l1.length : Int) 16) ≤ (l1.length : Int) then (rect_Cut.l0 k a2 ([] : List (S26)) (l1.take ((mn (l1.length : Int) 16) : Int).toNat) ((l1.take ((mn (l1.length : Int) 16) : Int).toNat).length : Int) 0 bt203.1 bt203.2.1 bt203.2.2.1 bt203.2.2.2) else (none)) else (none))) = some r := h
  clear h
  replace H := Option.bind_eq_some_iff.mp H
  obtain ⟨⟨t203, t204, t205, t206⟩, A40, H⟩ := H
  replace H : (if 0 ≤ (mn (l1.length : Int) 16) then (if (mn (l1.length : Int) 16) ≤ (l1.length : Int) then (rect_Cut.l0 k a2 ([] : List (S26)) (l1.take ((mn (l1.length : Int) 16) : Int).toNat) ((l1.take ((mn (l1.length : Int) 16) : Int).toNat).length : Int) 0 t203 t204 t205 t206) else (none)) else (none)) = some r := H
  have A4 := Aside0.mk A40
  clear A40
  obtain ⟨ji5, hji5⟩ : ∃ j_ : Int, (mn (l1.length : Int) 16) = j_ := ⟨_, rfl⟩
  replace H : (if 0 ≤ (ji5) then (if (ji5) ≤ (l1.length : Int) then (rect_Cut.l0 k a2 ([] : List (S26)) (l1.take ((ji5) : Int).toNat) ((l1.take ((ji5) : Int).toNat).length : Int) 0 t203 t204 t205 t206) else (none)) else (none)) = some r := by first | (rw [hji5] at H; exact H) | (simp only [hji5] at H ⊢; exact H)
  (try rw [hji5] at A4)
  (try (have hji5h : ji5 ≤ 16 := by (rw [← hji5]; unfold mn; (repeat' split) <;> omega)))
  (try (have hji5g : ji5 ≤ 64 := by omega))
  (try (have hji5l : 0 ≤ ji5 := by (rw [← hji5]; unfold mn; (repeat' split) <;> omega)))
  (try (have hji5m : 0 ≤ ji5 := by omega))
  (try (have hji5mx : max ji5 0 = ji5 := by omega))
  have hji5_ : (if 16 < (l1.length : Int) then 16 else (l1.length : Int)) = ji5 := hji5
  by_cases c6 : 0 ≤ (ji5)
  · rw [if_pos c6] at H
    have c6b0 := eq_true c6
    have c6b1 : decide (0 ≤ (ji5)) = true := decide_eq_true c6
    clear c6
    by_cases c7 : (ji5) ≤ (l1.length : Int)
    · rw [if_pos c7] at H
      have c7b0 := eq_true c7
      have c7b1 : decide ((ji5) ≤ (l1.length : Int)) = true := decide_eq_true c7
      clear c7
      have H' := Aside0.mk H
      clear H
      go_enter Try.func24, Try.ntmps24
      go_wp2_with (first | ((with_reducible refine gate_dst (N := 3) rfl ?_); refine box_event ?hg (N := 3) ?hd (cs := #[.int .i64 a0_0, .int .i64 a0_1, .int .i64 a0_2, .int .i64 a0_3]) (t := 26) ?hr ?_; (case hd => rfl); (case hg => rfl); (case hr => first | (go_simp; done) | (go_simp; rfl)); intro gb202 hg w8 hbox hb; have n0_ := Aside0.mk (below_step (by repeat (first | (with_reducible first | exact HB.out | apply below_alloc | apply pw_below_drewN | apply below_drew1) | exact HB.out)) hb); have n1_ := Aside0.mk (hbox); have n2_ := Aside0.mk ((by rw [hg]; exact (below_size (by repeat (first | (with_reducible first | exact HB.out | apply below_alloc | apply pw_below_drewN | apply below_drew1) | exact HB.out))) : w.heap.size ≤ gb202)); have n3_ := Aside0.mk ((by rw [hg]; exact (below_size (by repeat (first | (with_reducible first | exact HB.out | apply below_alloc | apply pw_below_drewN | apply below_drew1) | exact HB.out))) : w.heap.size ≤ gb202)); clear HB; have HB := n0_; have BK202 := n1_; have GW202 := n2_; have GE202 := n3_; clear n0_ n1_ n2_ n3_; clear hb hbox hg; have hcz9_0 : w8.cell? ⟨gb202, 0, none⟩ = some (.int .i64 a0_0) := (blk_cell BK202.out 0).trans rfl; have hcz9_1 : w8.cell? ⟨gb202, 1, none⟩ = some (.int .i64 a0_1) := (blk_cell BK202.out 1).trans rfl; have hcz9_2 : w8.cell? ⟨gb202, 2, none⟩ = some (.int .i64 a0_2) := (blk_cell BK202.out 2).trans rfl; have hcz9_3 : w8.cell? ⟨gb202, 3, none⟩ = some (.int .i64 a0_3) := (blk_cell BK202.out 3).trans rfl; have hfz9_0 := blk_frozen BK202.out 0; have hfz9_1 := blk_frozen BK202.out 1; have hfz9_2 := blk_frozen BK202.out 2; have hfz9_3 := blk_frozen BK202.out 3) | ((with_reducible refine gate_callee (f := 20) rfl ?_); refine goesL_ (some 12) rfl rfl Try.func20 (by kernel_rfl) rfl #[.agg #[.int .i64 a0_0, .int .i64 a0_1, .int .i64 a0_2, .int .i64 a0_3]] rfl (by (try simp only [List.map_toArray, List.map_cons, List.map_nil]); first | done | rfl | (simp only [List.length_drop, List.length_take]; rfl)) ?_; (with_reducible refine (rect_Clean.calls a0_0 a0_1 a0_2 a0_3 t203 t204 t205 t206 _ A4.out).mono ?_); rintro e w10 ⟨rfl, hb⟩; refine ⟨_, rfl, ?_⟩; have n0_ := Aside0.mk (blk_below (g := gb202) (o := .cells #[.int .i64 a0_0, .int .i64 a0_1, .int .i64 a0_2, .int .i64 a0_3] 26 (0, 0)) (by (with_reducible repeat (first | refine blk_drewN ?_ _ | refine blk_drew ?_ | refine blk_alloc ?_ _)); exact BK202.out) hb); have n1_ := Aside0.mk (below_step (by repeat (first | (with_reducible first | exact HB.out | apply below_alloc | apply pw_below_drewN | apply below_drew1 | refine below_set ?_ GE202.out) | exact HB.out)) hb); clear BK202; clear HB; have BK202 := n0_; have HB := n1_; clear n0_ n1_; (try clear hb); (try clear hb2); (try clear hk); (try clear hi); have hcz11_0 : w10.cell? ⟨gb202, 0, none⟩ = some (.int .i64 a0_0) := (blk_cell BK202.out 0).trans rfl; have hcz11_1 : w10.cell? ⟨gb202, 1, none⟩ = some (.int .i64 a0_1) := (blk_cell BK202.out 1).trans rfl; have hcz11_2 : w10.cell? ⟨gb202, 2, none⟩ = some (.int .i64 a0_2) := (blk_cell BK202.out 2).trans rfl; have hcz11_3 : w10.cell? ⟨gb202, 3, none⟩ = some (.int .i64 a0_3) := (blk_cell BK202.out 3).trans rfl; have hfz11_0 := blk_frozen BK202.out 0; have hfz11_1 := blk_frozen BK202.out 1; have hfz11_2 := blk_frozen BK202.out 2; have hfz11_3 := blk_frozen BK202.out 3; obtain ⟨i012, hi012, _, hsz12, _⟩ := info_parts info3; obtain ⟨hcut12, hA12, hC12⟩ := print_take_of (P := Try.prog) (Value.int .i64) 0 36 3 .i64 Try.underlying36 hi012 hsz12 A1 c1 l1 (ji5) (of_decide_eq_true (by first | (with_reducible assumption) | assumption)) (of_decide_eq_true (by first | (with_reducible assumption) | assumption)) HC1.out; have HR207 := Aside0.mk (Kd.C_of_reads (h1 := fun _ => rfl) (hA12 _ (Kd.reads_of_C HR1.out))); have HC207 := Aside0.mk hC12; clear hA12 hC12 hi012 hsz12))
      go_loopg [7, 19] k (fun kq v7 v19 w' => ∃ (x7_1 : List (S26)) (x19_1 : Int) (x203000_1 : Int) (x203001_1 : Int) (x203002_1 : Int) (x203003_1 : Int), v19 = .int .i64 x19_1 ∧ Aside0 (rect_Cut.l0 kq a2 x7_1 (l1.take ((ji5) : Int).toNat) ((l1.take ((ji5) : Int).toNat).length : Int) x19_1 x203000_1 x203001_1 x203002_1 x203003_1 = some r) ∧ Aside0 (kq ≤ k) ∧ Aside0 (Kd.R k26 26 w' w.heap.size (fun k_ => k_ ≠ gb202) v7 x7_1) ∧ Aside0 (w'.heap[gb202]? = some (.cells #[.int .i64 x203000_1, .int .i64 x203001_1, .int .i64 x203002_1, .int .i64 x203003_1] 26 (0, 0))) ∧ Aside0 (Below w.heap.size w w'))
      case atStart => exact ⟨(([] : List (S26))), (0), (t203), (t204), (t205), (t206), (by first | rfl | (simp; done) | (simp [*]; done)), H', ⟨Nat.le_refl _⟩, ⟨by first | exact Kd.R_nil _ _ _ _ _ | exact Kd.N_nil _ _ _ _ _ | exact Kd.V_nil _ _ _ _ _ | exact Kd.Q_nil _ _ _ _ _ | exact Kd.S_nil _ _ _ _ _⟩, ⟨by (with_reducible repeat (first | refine blk_drewN ?_ _ | refine blk_drew ?_ | refine blk_alloc ?_ _)); refine blk_put (cs := #[.int .i64 t203, .int .i64 t204, .int .i64 t205, .int .i64 a0_3]) ?_ 3 _ rfl; (with_reducible repeat (first | refine blk_drewN ?_ _ | refine blk_drew ?_ | refine blk_alloc ?_ _)); refine blk_put (cs := #[.int .i64 t203, .int .i64 t204, .int .i64 a0_2, .int .i64 a0_3]) ?_ 2 _ rfl; (with_reducible repeat (first | refine blk_drewN ?_ _ | refine blk_drew ?_ | refine blk_alloc ?_ _)); refine blk_put (cs := #[.int .i64 t203, .int .i64 a0_1, .int .i64 a0_2, .int .i64 a0_3]) ?_ 1 _ rfl; (with_reducible repeat (first | refine blk_drewN ?_ _ | refine blk_drew ?_ | refine blk_alloc ?_ _)); refine blk_put (cs := #[.int .i64 a0_0, .int .i64 a0_1, .int .i64 a0_2, .int .i64 a0_3]) ?_ 0 _ rfl; (with_reducible repeat (first | refine blk_drewN ?_ _ | refine blk_drew ?_ | refine blk_alloc ?_ _)); exact BK202.out⟩, ⟨by repeat (first | (with_reducible first | exact HB.out | apply below_alloc | apply pw_below_drewN | apply below_drew1 | refine below_set ?_ GE202.out) | exact HB.out)⟩⟩
      case round =>
        clear H'
        try clear c1
        try clear c2
        try clear p2
        try clear c6
        try clear c6b0
        try clear c6b1
        try clear c7
        try clear c7b0
        try clear c7b1
        try clear hcz11_0
        try clear hcz11_1
        try clear hcz11_2
        try clear hcz11_3
        try clear hcz9_0
        try clear hcz9_1
        try clear hcz9_2
        try clear hcz9_3
        try clear hfz11_0
        try clear hfz11_1
        try clear hfz11_2
        try clear hfz11_3
        try clear hfz9_0
        try clear hfz9_1
        try clear hfz9_2
        try clear hfz9_3
        obtain ⟨x7_1, x19_1, x203000_1, x203001_1, x203002_1, x203003_1, rfl, HA, HK1, HO_7, BK202, HB⟩ := hrel
        cases gk with
        | zero => exact absurd HA.out (by simp [rect_Cut.l0])
        | succ k1 =>
          have H := HA.out
          clear HA
          simp only [rect_Cut.l0] at H
          by_cases c13 : x19_1 < ((l1.take ((ji5) : Int).toNat).length : Int)
          · rw [if_pos c13] at H
            have c13b0 : decide (x19_1 < ((l1.take ((ji5) : Int).toNat).length : Int)) = true := decide_eq_true c13
            (try (have c13b1 : (x19_1 < ji5) = True := eq_true (by have h_ := c13; (try simp only [List.length_take] at h_); omega)))
            (try (have c13b2 : (ji5 ≤ x19_1) = False := eq_false (by have h_ := c13; (try simp only [List.length_take] at h_); omega)))
            (try (have c13b3 : decide (x19_1 < ji5) = true := decide_eq_true (by have h_ := c13; (try simp only [List.length_take] at h_); omega)))
            clear c13
            by_cases c14 : 0 ≤ x19_1
            · rw [if_pos c14] at H
              have c14b0 : decide (0 ≤ x19_1) = true := decide_eq_true c14
              clear c14
              by_cases c15 : x19_1 < ((l1.take ((ji5) : Int).toNat).length : Int)
              · rw [if_pos c15] at H
                have c15b0 : decide (x19_1 < ((l1.take ((ji5) : Int).toNat).length : Int)) = true := decide_eq_true c15
                (try (have c15b1 : (x19_1 < ji5) = True := eq_true (by have h_ := c15; (try simp only [List.length_take] at h_); omega)))
                (try (have c15b2 : (ji5 ≤ x19_1) = False := eq_false (by have h_ := c15; (try simp only [List.length_take] at h_); omega)))
                (try (have c15b3 : decide (x19_1 < ji5) = true := decide_eq_true (by have h_ := c15; (try simp only [List.length_take] at h_); omega)))
                clear c15
                by_cases c16 : a2 = true
                · subst c16
                  have H1 : ((rect_Clamp.f (rd (l1.take ((ji5) : Int).toNat) x19_1) 0 x203003_1).bind fun t210 => ((rect_Clean.f x203000_1 x203001_1 x203002_1 t210).bind fun bt211 => (if x7_1.length < 4398046511104 then (rect_Cut.l0 k1 true (x7_1 ++ [(⟨bt211.1, bt211.2.1, bt211.2.2.1, bt211.2.2.2⟩ : S26)]) (l1.take ((ji5) : Int).toNat) ((l1.take ((ji5) : Int).toNat).length : Int) (wrap64 (x19_1 + 1)) x203000_1 (wrap64 (x203001_1 + t210)) x203002_1 (wrap64 (x203003_1 - t210))) else (none)))) = some r := by rw [if_pos rfl] at H; exact H
                  clear H
                  have H := H1
                  clear H1
                  replace H := Option.bind_eq_some_iff.mp H
                  obtain ⟨t210, A170, H⟩ := H
                  replace H : ((rect_Clean.f x203000_1 x203001_1 x203002_1 t210).bind fun bt211 => (if x7_1.length < 4398046511104 then (rect_Cut.l0 k1 true (x7_1 ++ [(⟨bt211.1, bt211.2.1, bt211.2.2.1, bt211.2.2.2⟩ : S26)]) (l1.take ((ji5) : Int).toNat) ((l1.take ((ji5) : Int).toNat).length : Int) (wrap64 (x19_1 + 1)) x203000_1 (wrap64 (x203001_1 + t210)) x203002_1 (wrap64 (x203003_1 - t210))) else (none))) = some r := H
                  have A17 := Aside0.mk A170
                  clear A170
                  replace H := Option.bind_eq_some_iff.mp H
                  obtain ⟨⟨t211, t212, t213, t214⟩, A180, H⟩ := H
                  replace H : (if x7_1.length < 4398046511104 then (rect_Cut.l0 k1 true (x7_1 ++ [(⟨t211, t212, t213, t214⟩ : S26)]) (l1.take ((ji5) : Int).toNat) ((l1.take ((ji5) : Int).toNat).length : Int) (wrap64 (x19_1 + 1)) x203000_1 (wrap64 (x203001_1 + t210)) x203002_1 (wrap64 (x203003_1 - t210))) else (none)) = some r := H
                  have A18 := Aside0.mk A180
                  clear A180
                  by_cases c19 : x7_1.length < 4398046511104
                  · rw [if_pos c19] at H
                    have LMc19 := Aside0.mk c19
                    clear c19
                    obtain ⟨y215, hy215⟩ : ∃ y_ : List (S26), y_ = (x7_1 ++ [(⟨t211, t212, t213, t214⟩ : S26)]) := ⟨_, rfl⟩
                    replace H : (rect_Cut.l0 k1 true y215 (l1.take ((ji5) : Int).toNat) ((l1.take ((ji5) : Int).toNat).length : Int) (wrap64 (x19_1 + 1)) x203000_1 (wrap64 (x203001_1 + t210)) x203002_1 (wrap64 (x203003_1 - t210))) = some r := by first | (rw [hy215]; with_reducible exact H) | (have H2_ := (Option.bind_some _ _).symm.trans H; rw [hy215]; with_reducible exact H2_) | (have H2_ := (Option.bind_some _ _).symm.trans H; with_reducible exact H2_) | with_reducible exact H | (rw [hy215]; exact H) | exact H
                    have Ny215 := Aside0.mk hy215
                    clear hy215
                    have H' := Aside0.mk H
                    clear H
                    have p208 : 0 ≤ (x19_1 : Int) := of_decide_eq_true (by first | (with_reducible assumption) | assumption)
                    have q208 : x19_1 < ((l1.take ((ji5) : Int).toNat).length : Int) := of_decide_eq_true (by first | (with_reducible assumption) | assumption)
                    obtain ⟨ad208, e208, hx208_0⟩ := Kd.at_int HR207.out x19_1 p208 q208
                    cases e208
                    replace hx208_0 := (HB.out.cell (World.block_lt_of_cell? w _ hx208_0)).trans hx208_0
                    replace p208 := eq_true p208
                    replace q208 := eq_true q208
                    have hcz20_0 : wr.cell? ⟨gb202, 0, none⟩ = some (.int .i64 x203000_1) := (blk_cell BK202.out 0).trans rfl
                    have hcz20_1 : wr.cell? ⟨gb202, 1, none⟩ = some (.int .i64 x203001_1) := (blk_cell BK202.out 1).trans rfl
                    have hcz20_2 : wr.cell? ⟨gb202, 2, none⟩ = some (.int .i64 x203002_1) := (blk_cell BK202.out 2).trans rfl
                    have hcz20_3 : wr.cell? ⟨gb202, 3, none⟩ = some (.int .i64 x203003_1) := (blk_cell BK202.out 3).trans rfl
                    have hfz20_0 := blk_frozen BK202.out 0
                    have hfz20_1 := blk_frozen BK202.out 1
                    have hfz20_2 := blk_frozen BK202.out 2
                    have hfz20_3 := blk_frozen BK202.out 3
                    try go_wp2_with (first | ((with_reducible refine gate_dst (N := 10) rfl ?_); refine box_event ?hg (N := 10) ?hd (cs := #[.int .i64 0, .int .i64 0, .int .i64 0, .int .i64 0]) (t := 26) ?hr ?_; (case hd => rfl); (case hg => rfl); (case hr => first | (go_simp; done) | (go_simp; rfl)); intro gb209 hg w21 hbox hb; have n0_ := Aside0.mk (Kd.R_below (Kd.R_elderB (by (with_reducible repeat (first | apply Kd.R_alloc | apply Kd.R_drewN | apply Kd.R_drew)); exact HO_7.out) gb209 (Nat.le_of_eq hg.symm)) hb); have n1_ := Aside0.mk (blk_below (g := gb202) (o := .cells #[.int .i64 x203000_1, .int .i64 x203001_1, .int .i64 x203002_1, .int .i64 x203003_1] 26 (0, 0)) (by (with_reducible repeat (first | refine blk_drewN ?_ _ | refine blk_drew ?_ | refine blk_alloc ?_ _)); exact BK202.out) hb); have n2_ := Aside0.mk (below_step (by repeat (first | (with_reducible first | exact HB.out | apply below_alloc | apply pw_below_drewN | apply below_drew1 | refine below_set ?_ GE202.out) | exact HB.out)) hb); have n3_ := Aside0.mk (hbox); have n4_ := Aside0.mk ((by rw [hg]; exact (below_size (by repeat (first | (with_reducible first | exact HB.out | apply below_alloc | apply pw_below_drewN | apply below_drew1 | refine below_set ?_ GE202.out) | exact HB.out))) : w.heap.size ≤ gb209)); have n5_ := Aside0.mk ((by rw [hg]; exact (below_size (by repeat (first | (with_reducible first | exact HB.out | apply below_alloc | apply pw_below_drewN | apply below_drew1 | refine below_set ?_ GE202.out) | exact HB.out))) : w.heap.size ≤ gb209)); have n6_ := Aside0.mk ((by rw [hg]; exact Nat.ne_of_lt (blk_lt (g := gb202) (o := .cells #[.int .i64 x203000_1, .int .i64 x203001_1, .int .i64 x203002_1, .int .i64 x203003_1] 26 (0, 0)) (by (with_reducible repeat (first | refine blk_drewN ?_ _ | refine blk_drew ?_ | refine blk_alloc ?_ _)); exact BK202.out)) : gb202 ≠ gb209)); have n7_ := Aside0.mk ((by rw [hg]; exact Nat.ne_of_gt (blk_lt (g := gb202) (o := .cells #[.int .i64 x203000_1, .int .i64 x203001_1, .int .i64 x203002_1, .int .i64 x203003_1] 26 (0, 0)) (by (with_reducible repeat (first | refine blk_drewN ?_ _ | refine blk_drew ?_ | refine blk_alloc ?_ _)); exact BK202.out)) : gb209 ≠ gb202)); clear HO_7; clear BK202; clear HB; have HO_7 := n0_; have BK202 := n1_; have HB := n2_; have BK209 := n3_; have GW209 := n4_; have GE209 := n5_; have NB202_209 := n6_; have NB209_202 := n7_; clear n0_ n1_ n2_ n3_ n4_ n5_ n6_ n7_; clear hb hbox hg; have hnb22 := NB209_202.out; have hnc22 := NB202_209.out; have hcz23_0 : w21.cell? ⟨gb209, 0, none⟩ = some (.int .i64 0) := (blk_cell BK209.out 0).trans rfl; have hcz23_1 : w21.cell? ⟨gb209, 1, none⟩ = some (.int .i64 0) := (blk_cell BK209.out 1).trans rfl; have hcz23_2 : w21.cell? ⟨gb209, 2, none⟩ = some (.int .i64 0) := (blk_cell BK209.out 2).trans rfl; have hcz23_3 : w21.cell? ⟨gb209, 3, none⟩ = some (.int .i64 0) := (blk_cell BK209.out 3).trans rfl; have hfz23_0 := blk_frozen BK209.out 0; have hfz23_1 := blk_frozen BK209.out 1; have hfz23_2 := blk_frozen BK209.out 2; have hfz23_3 := blk_frozen BK209.out 3; have hcz24_0 : w21.cell? ⟨gb202, 0, none⟩ = some (.int .i64 x203000_1) := (blk_cell BK202.out 0).trans rfl; have hcz24_1 : w21.cell? ⟨gb202, 1, none⟩ = some (.int .i64 x203001_1) := (blk_cell BK202.out 1).trans rfl; have hcz24_2 : w21.cell? ⟨gb202, 2, none⟩ = some (.int .i64 x203002_1) := (blk_cell BK202.out 2).trans rfl; have hcz24_3 : w21.cell? ⟨gb202, 3, none⟩ = some (.int .i64 x203003_1) := (blk_cell BK202.out 3).trans rfl; have hfz24_0 := blk_frozen BK202.out 0; have hfz24_1 := blk_frozen BK202.out 1; have hfz24_2 := blk_frozen BK202.out 2; have hfz24_3 := blk_frozen BK202.out 3) | ((with_reducible refine gate_callee (f := 17) rfl ?_); refine goesL_ (some 28) rfl rfl Try.func17 (by kernel_rfl) rfl #[.int .i64 (rd (l1.take ((ji5) : Int).toNat) x19_1), .int .i64 0, .int .i64 x203003_1] rfl (by (try simp only [List.map_toArray, List.map_cons, List.map_nil]); first | done | (simp only [hji5]; rfl) | rfl | (simp only [List.length_drop, List.length_take]; rfl)) ?_; (with_reducible refine (rect_Clamp.calls (rd (l1.take ((ji5) : Int).toNat) x19_1) 0 x203003_1 t210 _ A17.out).mono ?_); rintro e w25 ⟨rfl, hb⟩; refine ⟨_, rfl, ?_⟩; have n0_ := Aside0.mk (Kd.R_below (by (with_reducible repeat (first | apply Kd.R_alloc | apply Kd.R_drewN | apply Kd.R_drew)); exact (Kd.R_mono (Kd.R_far (p := ⟨gb209, 3, none⟩) (Kd.R_far (p := ⟨gb209, 2, none⟩) (Kd.R_far (p := ⟨gb209, 1, none⟩) (Kd.R_far (p := ⟨gb209, 0, none⟩) (Kd.R_mono HO_7.out (fun k_ hk => (⟨hk, hk.2⟩ : _ ∧ k_ ≠ gb209))) (fun _ hk => hk.2) (.int .i64 x203000_1)) (fun _ hk => hk.2) (.int .i64 x203001_1)) (fun _ hk => hk.2) (.int .i64 x203002_1)) (fun _ hk => hk.2) (.int .i64 x203003_1)) (fun _ h_ => h_.1))) hb); have n1_ := Aside0.mk (blk_below (g := gb202) (o := .cells #[.int .i64 x203000_1, .int .i64 x203001_1, .int .i64 x203002_1, .int .i64 x203003_1] 26 (0, 0)) (by (with_reducible repeat (first | refine blk_drewN ?_ _ | refine blk_drew ?_ | refine blk_alloc ?_ _)); refine blk_far ?_ NB202_209.out _; (with_reducible repeat (first | refine blk_drewN ?_ _ | refine blk_drew ?_ | refine blk_alloc ?_ _)); refine blk_far ?_ NB202_209.out _; (with_reducible repeat (first | refine blk_drewN ?_ _ | refine blk_drew ?_ | refine blk_alloc ?_ _)); refine blk_far ?_ NB202_209.out _; (with_reducible repeat (first | refine blk_drewN ?_ _ | refine blk_drew ?_ | refine blk_alloc ?_ _)); refine blk_far ?_ NB202_209.out _; (with_reducible repeat (first | refine blk_drewN ?_ _ | refine blk_drew ?_ | refine blk_alloc ?_ _)); exact BK202.out) hb); have n2_ := Aside0.mk (blk_below (g := gb209) (o := .cells #[.int .i64 x203000_1, .int .i64 x203001_1, .int .i64 x203002_1, .int .i64 x203003_1] 26 (0, 0)) (by (with_reducible repeat (first | refine blk_drewN ?_ _ | refine blk_drew ?_ | refine blk_alloc ?_ _)); refine blk_put (cs := #[.int .i64 x203000_1, .int .i64 x203001_1, .int .i64 x203002_1, .int .i64 0]) ?_ 3 _ rfl; (with_reducible repeat (first | refine blk_drewN ?_ _ | refine blk_drew ?_ | refine blk_alloc ?_ _)); refine blk_put (cs := #[.int .i64 x203000_1, .int .i64 x203001_1, .int .i64 0, .int .i64 0]) ?_ 2 _ rfl; (with_reducible repeat (first | refine blk_drewN ?_ _ | refine blk_drew ?_ | refine blk_alloc ?_ _)); refine blk_put (cs := #[.int .i64 x203000_1, .int .i64 0, .int .i64 0, .int .i64 0]) ?_ 1 _ rfl; (with_reducible repeat (first | refine blk_drewN ?_ _ | refine blk_drew ?_ | refine blk_alloc ?_ _)); refine blk_put (cs := #[.int .i64 0, .int .i64 0, .int .i64 0, .int .i64 0]) ?_ 0 _ rfl; (with_reducible repeat (first | refine blk_drewN ?_ _ | refine blk_drew ?_ | refine blk_alloc ?_ _)); exact BK209.out) hb); have n3_ := Aside0.mk (below_step (by repeat (first | (with_reducible first | exact HB.out | apply below_alloc | apply pw_below_drewN | apply below_drew1 | refine below_set ?_ GE202.out | refine below_set ?_ GE209.out) | exact HB.out)) hb); clear HO_7; clear BK202; clear BK209; clear HB; have HO_7 := n0_; have BK202 := n1_; have BK209 := n2_; have HB := n3_; clear n0_ n1_ n2_ n3_; (try clear hb); (try clear hb2); (try clear hk); (try clear hi); have hcz26_0 : w25.cell? ⟨gb209, 0, none⟩ = some (.int .i64 x203000_1) := (blk_cell BK209.out 0).trans rfl; have hcz26_1 : w25.cell? ⟨gb209, 1, none⟩ = some (.int .i64 x203001_1) := (blk_cell BK209.out 1).trans rfl; have hcz26_2 : w25.cell? ⟨gb209, 2, none⟩ = some (.int .i64 x203002_1) := (blk_cell BK209.out 2).trans rfl; have hcz26_3 : w25.cell? ⟨gb209, 3, none⟩ = some (.int .i64 x203003_1) := (blk_cell BK209.out 3).trans rfl; have hfz26_0 := blk_frozen BK209.out 0; have hfz26_1 := blk_frozen BK209.out 1; have hfz26_2 := blk_frozen BK209.out 2; have hfz26_3 := blk_frozen BK209.out 3))
                    have n0_ : Aside0 (Kd.R k26 26 (w25.setCell ⟨gb209, 3, none⟩ (.int .i64 t210)) w.heap.size (fun k_ => k_ ≠ gb202 ∧ k_ ≠ gb209) u7 x7_1) := ⟨by (with_reducible repeat (first | apply Kd.R_alloc | apply Kd.R_drewN | apply Kd.R_drew)); exact Kd.R_mono (Kd.R_far (p := ⟨gb209, 3, none⟩) (Kd.R_mono HO_7.out (fun k_ hk => (⟨hk, hk.2⟩ : _ ∧ k_ ≠ gb209))) (fun _ hk => hk.2) (.int .i64 t210)) (fun _ hk => ⟨hk.1.1, hk.1.2⟩)⟩
                    have n1_ : Aside0 ((w25.setCell ⟨gb209, 3, none⟩ (.int .i64 t210)).heap[gb202]? = some (.cells #[.int .i64 x203000_1, .int .i64 x203001_1, .int .i64 x203002_1, .int .i64 x203003_1] 26 (0, 0))) := ⟨by (with_reducible repeat (first | refine blk_drewN ?_ _ | refine blk_drew ?_ | refine blk_alloc ?_ _)); refine blk_far ?_ NB202_209.out _; (with_reducible repeat (first | refine blk_drewN ?_ _ | refine blk_drew ?_ | refine blk_alloc ?_ _)); exact BK202.out⟩
                    have n2_ : Aside0 ((w25.setCell ⟨gb209, 3, none⟩ (.int .i64 t210)).heap[gb209]? = some (.cells #[.int .i64 x203000_1, .int .i64 x203001_1, .int .i64 x203002_1, .int .i64 t210] 26 (0, 0))) := ⟨by (with_reducible repeat (first | refine blk_drewN ?_ _ | refine blk_drew ?_ | refine blk_alloc ?_ _)); refine blk_put (cs := #[.int .i64 x203000_1, .int .i64 x203001_1, .int .i64 x203002_1, .int .i64 x203003_1]) ?_ 3 _ rfl; (with_reducible repeat (first | refine blk_drewN ?_ _ | refine blk_drew ?_ | refine blk_alloc ?_ _)); exact BK209.out⟩
                    have n3_ : Aside0 (Below w.heap.size w (w25.setCell ⟨gb209, 3, none⟩ (.int .i64 t210))) := ⟨by repeat (first | (with_reducible first | exact HB.out | apply below_alloc | apply pw_below_drewN | apply below_drew1 | refine below_set ?_ GE202.out | refine below_set ?_ GE209.out) | exact HB.out)⟩
                    (try clear HO_7)
                    (try clear BK202)
                    (try clear BK209)
                    (try clear HB)
                    generalize (w25.setCell ⟨gb209, 3, none⟩ (.int .i64 t210)) = w27 at n0_ n1_ n2_ n3_ ⊢
                    have HO_7 := n0_
                    have BK202 := n1_
                    have BK209 := n2_
                    have HB := n3_
                    clear n0_ n1_ n2_ n3_
                    have n0_ := Aside0.mk (Kd.R_drew HO_7.out)
                    have n1_ := Aside0.mk (blk_drew BK202.out)
                    have n2_ := Aside0.mk (blk_drew BK209.out)
                    have n3_ := Aside0.mk (below_drew1 HB.out)
                    clear HO_7
                    clear BK202
                    clear BK209
                    clear HB
                    have HO_7 := n0_
                    have BK202 := n1_
                    have BK209 := n2_
                    have HB := n3_
                    clear n0_ n1_ n2_ n3_
                    refine start_ (n := 14) (S := fun w' => w'.cell? ⟨gb202, 0, none⟩ = some (.int .i64 x203000_1) ∧ w'.cell? ⟨gb202, 2, none⟩ = some (.int .i64 x203002_1) ∧ w'.cell? ⟨gb202, 3, none⟩ = some (.int .i64 x203003_1) ∧ w'.cell? ⟨gb209, 0, none⟩ = some (.int .i64 x203000_1) ∧ w'.cell? ⟨gb209, 1, none⟩ = some (.int .i64 x203001_1) ∧ w'.cell? ⟨gb209, 2, none⟩ = some (.int .i64 x203002_1) ∧ w'.cell? ⟨gb209, 3, none⟩ = some (.int .i64 t210)) (ds := [13]) #[false, false, false, false, false, false, false, false, false, false, false, false, false, false] (by kernel_rfl) rfl rfl ⟨(blk_cell BK202.out 0).trans rfl, (blk_cell BK202.out 2).trans rfl, (blk_cell BK202.out 3).trans rfl, (blk_cell BK209.out 0).trans rfl, (blk_cell BK209.out 1).trans rfl, (blk_cell BK209.out 2).trans rfl, (blk_cell BK209.out 3).trans rfl⟩ (fun hHeld => ?_); refine with_tabW rect_Cut.tab9 rect_Cut.bits9 (fun HT_ HW_ => ?_)
                    generalize w27.drew = w28 at HO_7 BK202 BK209 HB hHeld ⊢
                    refine pure_ (i := 0) (N := some 30) (v := ?_) (a' := ?_) #[true, false, false, false, false, false, false, false, false, false, false, false, false, false] rfl rfl (any_of HT_.out (by kernel_rfl)) (fun _ _ _ h => h) (Or.inl ⟨by rfl, ?_⟩) ?_ ?_
                    rotate_left
                    · intro w'
                      go_simp
                      with_reducible rfl
                    rotate_left
                    · simp only [Act.put, List.setIfInBounds_toArray, List.set_cons_zero, List.set_cons_succ, i64_w, i32_w]
                      rfl
                    refine pure_ (i := 2) (N := some 32) (v := ?_) (a' := ?_) #[true, false, true, false, false, false, false, false, false, false, false, false, false, false] rfl rfl (any_of HT_.out (by kernel_rfl)) (fun _ _ _ h => h) (Or.inl ⟨by rfl, ?_⟩) ?_ ?_
                    rotate_left
                    · intro w'
                      go_simp
                      with_reducible rfl
                    rotate_left
                    · simp only [Act.put, List.setIfInBounds_toArray, List.set_cons_zero, List.set_cons_succ, i64_w, i32_w]
                      rfl
                    refine pure_ (i := 5) (N := some 35) (v := ?_) (a' := ?_) #[true, false, true, false, false, true, false, false, false, false, false, false, false, false] rfl rfl (any_of HT_.out (by kernel_rfl)) (fun _ _ _ h => h) (Or.inl ⟨by rfl, ?_⟩) ?_ ?_
                    rotate_left
                    · intro w'
                      go_simp
                      with_reducible rfl
                    rotate_left
                    · simp only [Act.put, List.setIfInBounds_toArray, List.set_cons_zero, List.set_cons_succ, i64_w, i32_w]
                      rfl
                    refine pure_ (i := 7) (N := some 37) (v := ?_) (a' := ?_) #[true, false, true, false, false, true, false, true, false, false, false, false, false, false] rfl rfl (any_of HT_.out (by kernel_rfl)) (fun _ _ _ h => h) (Or.inl ⟨by rfl, ?_⟩) ?_ ?_
                    rotate_left
                    · intro w'
                      go_simp
                      with_reducible rfl
                    rotate_left
                    · simp only [Act.put, List.setIfInBounds_toArray, List.set_cons_zero, List.set_cons_succ, i64_w, i32_w]
                      rfl
                    refine take_ (i := 3) (N := some 33) (v := ?_) (a' := ?_) #[true, false, true, true, false, true, false, true, false, false, false, false, false, false] rfl rfl (take_ofW HT_.out HW_.out (by kernel_rfl)) (fun _ _ _ h => h) (Or.inl ⟨by rfl, ?_⟩) hHeld ?_ ?_
                    rotate_left
                    · rintro w' ⟨s0, s1, s2, s3, s4, s5, s6⟩
                      go_simp
                      with_reducible rfl
                    rotate_left
                    · simp only [Act.put, List.setIfInBounds_toArray, List.set_cons_zero, List.set_cons_succ, i64_w, i32_w]
                      rfl
                    refine take_ (i := 6) (N := some 36) (v := ?_) (a' := ?_) #[true, false, true, true, false, true, true, true, false, false, false, false, false, false] rfl rfl (take_ofW HT_.out HW_.out (by kernel_rfl)) (fun _ _ _ h => h) (Or.inl ⟨by rfl, ?_⟩) hHeld ?_ ?_
                    rotate_left
                    · rintro w' ⟨s0, s1, s2, s3, s4, s5, s6⟩
                      go_simp
                      with_reducible rfl
                    rotate_left
                    · simp only [Act.put, List.setIfInBounds_toArray, List.set_cons_zero, List.set_cons_succ, i64_w, i32_w]
                      rfl
                    refine take_ (i := 8) (N := some 38) (v := ?_) (a' := ?_) #[true, false, true, true, false, true, true, true, true, false, false, false, false, false] rfl rfl (take_ofW HT_.out HW_.out (by kernel_rfl)) (fun _ _ _ h => h) (Or.inl ⟨by rfl, ?_⟩) hHeld ?_ ?_
                    rotate_left
                    · rintro w' ⟨s0, s1, s2, s3, s4, s5, s6⟩
                      go_simp
                      with_reducible rfl
                    rotate_left
                    · simp only [Act.put, List.setIfInBounds_toArray, List.set_cons_zero, List.set_cons_succ, i64_w, i32_w]
                      rfl
                    refine pure_ (i := 9) (N := some 39) (v := ?_) (a' := ?_) #[true, false, true, true, false, true, true, true, true, true, false, false, false, false] rfl rfl (any_of HT_.out (by kernel_rfl)) (fun _ _ _ h => h) (Or.inl ⟨by rfl, ?_⟩) ?_ ?_
                    rotate_left
                    · intro w'
                      go_simp
                      with_reducible rfl
                    rotate_left
                    · simp only [Act.put, List.setIfInBounds_toArray, List.set_cons_zero, List.set_cons_succ, i64_w, i32_w]
                      rfl
                    refine one_ (i := 1) (N := some 31) #[true, true, true, true, false, true, true, true, true, true, false, false, false, false] rfl rfl (one_of HT_.out (by kernel_rfl)) (by decide) (fun K hK => ?_)
                    have hxl1_ : World.cell? _ ⟨gb202, 1, none⟩ = some (.int .i64 x203001_1) := (blk_cell BK202.out 1).trans rfl
                    refine value_ (w1 := ?_) (v := ?_) (by rfl) rfl ?_ ?_
                    rotate_left 2
                    · go_simp
                      constructor
                      · rfl
                      · rfl
                    clear hxl1_
                    refine hK.out _ _ ⟨hHeld.1, hHeld.2.1, hHeld.2.2.1, hHeld.2.2.2.1, hHeld.2.2.2.2.1, hHeld.2.2.2.2.2.1, hHeld.2.2.2.2.2.2⟩ (fun hHeld => ?_)
                    clear hK K
                    refine norm_ (a' := ?_) ?_ ?_
                    rotate_left
                    · show Act.put _ (some 31) _ = _
                      simp only [Act.put, List.setIfInBounds_toArray, List.set_cons_zero, List.set_cons_succ, i64_w, i32_w]
                      rfl
                    refine pure_ (i := 4) (N := some 34) (v := ?_) (a' := ?_) #[true, true, true, true, true, true, true, true, true, true, false, false, false, false] rfl rfl (any_of HT_.out (by kernel_rfl)) (fun _ _ _ h => h) (Or.inl ⟨by rfl, ?_⟩) ?_ ?_
                    rotate_left
                    · intro w'
                      go_simp
                      with_reducible rfl
                    rotate_left
                    · simp only [Act.put, List.setIfInBounds_toArray, List.set_cons_zero, List.set_cons_succ, i64_w, i32_w]
                      rfl
                    refine pure_ (i := 10) (N := some 40) (v := ?_) (a' := ?_) #[true, true, true, true, true, true, true, true, true, true, true, false, false, false] rfl rfl (any_of HT_.out (by kernel_rfl)) (fun _ _ _ h => h) (Or.inl ⟨by rfl, ?_⟩) ?_ ?_
                    rotate_left
                    · intro w'
                      go_simp
                      with_reducible rfl
                    rotate_left
                    · simp only [Act.put, List.setIfInBounds_toArray, List.set_cons_zero, List.set_cons_succ, i64_w, i32_w]
                      rfl
                    refine one_ (i := 11) (N := none) #[true, true, true, true, true, true, true, true, true, true, true, true, false, false] rfl rfl (one_of HT_.out (by kernel_rfl)) (by decide) (fun K hK => ?_)
                    have hs29 : w28.cell? ⟨gb202, 1, none⟩ = some (.int .i64 x203001_1) := (blk_cell BK202.out 1).trans rfl
                    have hfs29 := blk_frozen BK202.out 1
                    have hns29_1 := NB209_202.out
                    have hms29_1 := NB202_209.out
                    refine skip_ (w1 := ?_) (by rfl) rfl ?_ ?_
                    rotate_left
                    · go_simp
                      rfl
                    refine hK.out _ _ ⟨((World.cell?_setCell_other _ ⟨gb202, 1, none⟩ _ _ (by simp)).trans (hHeld.1)), ((World.cell?_setCell_other _ ⟨gb202, 1, none⟩ _ _ (by simp)).trans (hHeld.2.1)), ((World.cell?_setCell_other _ ⟨gb202, 1, none⟩ _ _ (by simp)).trans (hHeld.2.2.1)), ((cell_far (p := ⟨gb202, _, none⟩) NB209_202.out _).trans (hHeld.2.2.2.1)), ((cell_far (p := ⟨gb202, _, none⟩) NB209_202.out _).trans (hHeld.2.2.2.2.1)), ((cell_far (p := ⟨gb202, _, none⟩) NB209_202.out _).trans (hHeld.2.2.2.2.2.1)), ((cell_far (p := ⟨gb202, _, none⟩) NB209_202.out _).trans (hHeld.2.2.2.2.2.2))⟩ (fun hHeld => ?_)
                    clear hK K
                    refine pure_ (i := 12) (N := some 41) (v := ?_) (a' := ?_) #[true, true, true, true, true, true, true, true, true, true, true, true, true, false] rfl rfl (any_of HT_.out (by kernel_rfl)) (fun _ _ _ h => h) (Or.inl ⟨by rfl, ?_⟩) ?_ ?_
                    rotate_left
                    · intro w'
                      go_simp
                      with_reducible rfl
                    rotate_left
                    · simp only [Act.put, List.setIfInBounds_toArray, List.set_cons_zero, List.set_cons_succ, i64_w, i32_w]
                      rfl
                    refine last_ (i := 13) (N := none) #[true, true, true, true, true, true, true, true, true, true, true, true, true, true] rfl rfl (one_of HT_.out (by kernel_rfl)) (by decide) (fun K hK => ?_)
                    have hs30 : w28.cell? ⟨gb202, 3, none⟩ = some (.int .i64 x203003_1) := (blk_cell BK202.out 3).trans rfl
                    have hfs30 := blk_frozen BK202.out 3
                    have hns30_1 := NB209_202.out
                    have hms30_1 := NB202_209.out
                    refine skip_ (w1 := ?_) (by rfl) rfl ?_ ?_
                    rotate_left
                    · go_simp
                      rfl
                    refine hK.out _ _ ?_
                    clear hK K
                    refine done_ (done_of HT_.out (by kernel_rfl)) ?_
                    have hcz31_0 : w28.cell? ⟨gb209, 0, none⟩ = some (.int .i64 x203000_1) := (blk_cell BK209.out 0).trans rfl
                    have hcz31_1 : w28.cell? ⟨gb209, 1, none⟩ = some (.int .i64 x203001_1) := (blk_cell BK209.out 1).trans rfl
                    have hcz31_2 : w28.cell? ⟨gb209, 2, none⟩ = some (.int .i64 x203002_1) := (blk_cell BK209.out 2).trans rfl
                    have hcz31_3 : w28.cell? ⟨gb209, 3, none⟩ = some (.int .i64 t210) := (blk_cell BK209.out 3).trans rfl
                    have hfz31_0 := blk_frozen BK209.out 0
                    have hfz31_1 := blk_frozen BK209.out 1
                    have hfz31_2 := blk_frozen BK209.out 2
                    have hfz31_3 := blk_frozen BK209.out 3
                    try go_wp2_with (first | ((with_reducible refine gate_callee (f := 20) rfl ?_); refine goesL_ (some 61) rfl rfl Try.func20 (by kernel_rfl) rfl #[.agg #[.int .i64 x203000_1, .int .i64 x203001_1, .int .i64 x203002_1, .int .i64 t210]] rfl (by (try simp only [List.map_toArray, List.map_cons, List.map_nil]); first | done | rfl | (simp only [List.length_drop, List.length_take]; rfl)) ?_; (with_reducible refine (rect_Clean.calls x203000_1 x203001_1 x203002_1 t210 t211 t212 t213 t214 _ A18.out).mono ?_); rintro e w32 ⟨rfl, hb⟩; refine ⟨_, rfl, ?_⟩; have n0_ := Aside0.mk (Kd.R_below (by (with_reducible repeat (first | apply Kd.R_alloc | apply Kd.R_drewN | apply Kd.R_drew)); exact (Kd.R_mono (Kd.R_far (p := ⟨gb202, 3, none⟩) (Kd.R_far (p := ⟨gb202, 1, none⟩) (Kd.R_mono HO_7.out (fun k_ hk => (⟨hk, hk.1⟩ : _ ∧ k_ ≠ gb202))) (fun _ hk => hk.2) (.int .i64 (wrap64 (x203001_1 + t210)))) (fun _ hk => hk.2) (.int .i64 (wrap64 (x203003_1 - t210)))) (fun _ h_ => h_.1))) hb); have n1_ := Aside0.mk (blk_below (g := gb202) (o := .cells #[.int .i64 x203000_1, .int .i64 (wrap64 (x203001_1 + t210)), .int .i64 x203002_1, .int .i64 (wrap64 (x203003_1 - t210))] 26 (0, 0)) (by (with_reducible repeat (first | refine blk_drewN ?_ _ | refine blk_drew ?_ | refine blk_alloc ?_ _)); refine blk_put (cs := #[.int .i64 x203000_1, .int .i64 (wrap64 (x203001_1 + t210)), .int .i64 x203002_1, .int .i64 x203003_1]) ?_ 3 _ rfl; (with_reducible repeat (first | refine blk_drewN ?_ _ | refine blk_drew ?_ | refine blk_alloc ?_ _)); refine blk_put (cs := #[.int .i64 x203000_1, .int .i64 x203001_1, .int .i64 x203002_1, .int .i64 x203003_1]) ?_ 1 _ rfl; (with_reducible repeat (first | refine blk_drewN ?_ _ | refine blk_drew ?_ | refine blk_alloc ?_ _)); exact BK202.out) hb); have n2_ := Aside0.mk (blk_below (g := gb209) (o := .cells #[.int .i64 x203000_1, .int .i64 x203001_1, .int .i64 x203002_1, .int .i64 t210] 26 (0, 0)) (by (with_reducible repeat (first | refine blk_drewN ?_ _ | refine blk_drew ?_ | refine blk_alloc ?_ _)); refine blk_far ?_ NB209_202.out _; (with_reducible repeat (first | refine blk_drewN ?_ _ | refine blk_drew ?_ | refine blk_alloc ?_ _)); refine blk_far ?_ NB209_202.out _; (with_reducible repeat (first | refine blk_drewN ?_ _ | refine blk_drew ?_ | refine blk_alloc ?_ _)); exact BK209.out) hb); have n3_ := Aside0.mk (below_step (by repeat (first | (with_reducible first | exact HB.out | apply below_alloc | apply pw_below_drewN | apply below_drew1 | refine below_set ?_ GE202.out | refine below_set ?_ GE209.out) | exact HB.out)) hb); clear HO_7; clear BK202; clear BK209; clear HB; have HO_7 := n0_; have BK202 := n1_; have BK209 := n2_; have HB := n3_; clear n0_ n1_ n2_ n3_; (try clear hb); (try clear hb2); (try clear hk); (try clear hi)) | ((with_reducible refine gate_builtin (b := .append) (xs := #[.tmp 59, .tmp 62]) rfl ?_); at_builtin; refine Kd.R_append k26 (w0 := w) w.heap.size rfl (.tmp 59) (.tmp 62) 22 26 (.agg #[(.int .i64 0), (.int .i64 0), (.int .i64 0), (.int .i64 0)]) 32 rfl Try.underlying22 info26 rfl (by decide) (by omega) u7 x7_1 (⟨t211, t212, t213, t214⟩ : S26) [.int .i64 t211, .int .i64 t212, .int .i64 t213, .int .i64 t214] (fun k_ => k_ ≠ gb202 ∧ k_ ≠ gb209) (fun _ => False) rfl rfl ?aP (fun _ hk => hk.elim) ?aF ?aO ?aB ?aS ?aL ?_; (case aP => exact k26_mkM _ _ _ (⟨t211, t212, t213, t214⟩ : S26)); (case aB => exact (by repeat (first | (with_reducible first | exact HB.out | apply below_alloc | apply pw_below_drewN | apply below_drew1 | refine below_set ?_ GE202.out | refine below_set ?_ GE209.out) | exact HB.out))); (case aF => exact (fun k_ hk => ⟨Kd.freshB (g := gb202) (o := .cells #[.int .i64 x203000_1, .int .i64 (wrap64 (x203001_1 + t210)), .int .i64 x203002_1, .int .i64 (wrap64 (x203003_1 - t210))] 26 (0, 0)) (by (with_reducible repeat (first | refine blk_drewN ?_ _ | refine blk_drew ?_ | refine blk_alloc ?_ _)); exact BK202.out) k_ hk, Kd.freshB (g := gb209) (o := .cells #[.int .i64 x203000_1, .int .i64 x203001_1, .int .i64 x203002_1, .int .i64 t210] 26 (0, 0)) (by (with_reducible repeat (first | refine blk_drewN ?_ _ | refine blk_drew ?_ | refine blk_alloc ?_ _)); exact BK209.out) k_ hk⟩)); (case aO => exact (by (with_reducible repeat (first | apply Kd.R_alloc | apply Kd.R_drewN | apply Kd.R_drew)); exact HO_7.out)); (case aS => exact (below_size (by repeat (first | (with_reducible first | exact HB.out | apply below_alloc | apply pw_below_drewN | apply below_drew1 | refine below_set ?_ GE202.out | refine below_set ?_ GE209.out) | exact HB.out)))); (case aL => have := LMc19.out; omega); intro v216 w33 ho hb hg hat; rw [← Ny215.out] at ho; have n0_ := Aside0.mk (blk_grown (g := gb202) (o := .cells #[.int .i64 x203000_1, .int .i64 (wrap64 (x203001_1 + t210)), .int .i64 x203002_1, .int .i64 (wrap64 (x203003_1 - t210))] 26 (0, 0)) (by (with_reducible repeat (first | refine blk_drewN ?_ _ | refine blk_drew ?_ | refine blk_alloc ?_ _)); exact BK202.out) hg (Kd.R_away HO_7.out (fun _ hk => hk.1))); have n1_ := Aside0.mk (blk_grown (g := gb209) (o := .cells #[.int .i64 x203000_1, .int .i64 x203001_1, .int .i64 x203002_1, .int .i64 t210] 26 (0, 0)) (by (with_reducible repeat (first | refine blk_drewN ?_ _ | refine blk_drew ?_ | refine blk_alloc ?_ _)); exact BK209.out) hg (Kd.R_away HO_7.out (fun _ hk => hk.2))); have n2_ := Aside0.mk (hb); have n3_ := Aside0.mk (ho); clear BK202; clear BK209; clear HB; clear HO_7; have BK202 := n0_; have BK209 := n1_; have HB := n2_; have HO217 := n3_; clear n0_ n1_ n2_ n3_; clear ho hb hg hat))
                    go_roundg k1
                    case measure => have := HK1.out; omega
                    case rel => exact ⟨(y215), (wrap64 (x19_1 + 1)), (x203000_1), (wrap64 (x203001_1 + t210)), (x203002_1), (wrap64 (x203003_1 - t210)), (by first | rfl | (simp; done) | (simp [*]; done)), H', ⟨by have := HK1.out; omega⟩, ⟨by (with_reducible repeat (first | apply Kd.R_alloc | apply Kd.R_drewN | apply Kd.R_drew)); exact Kd.R_mono HO217.out (fun _ hk => hk.1)⟩, ⟨by (with_reducible repeat (first | refine blk_drewN ?_ _ | refine blk_drew ?_ | refine blk_alloc ?_ _)); exact BK202.out⟩, ⟨by repeat (first | (with_reducible first | exact HB.out | apply below_alloc | apply pw_below_drewN | apply below_drew1 | refine below_set ?_ GE202.out | refine below_set ?_ GE209.out) | exact HB.out)⟩⟩
                  · rw [if_neg c19] at H
                    exact absurd H (by simp)
                · replace c16 := Bool.eq_false_iff.mpr c16
                  subst c16
                  have H1 : ((rect_Clamp.f (rd (l1.take ((ji5) : Int).toNat) x19_1) 0 x203002_1).bind fun t218 => ((rect_Clean.f x203000_1 x203001_1 t218 x203003_1).bind fun bt219 => (if x7_1.length < 4398046511104 then (rect_Cut.l0 k1 false (x7_1 ++ [(⟨bt219.1, bt219.2.1, bt219.2.2.1, bt219.2.2.2⟩ : S26)]) (l1.take ((ji5) : Int).toNat) ((l1.take ((ji5) : Int).toNat).length : Int) (wrap64 (x19_1 + 1)) (wrap64 (x203000_1 + t218)) x203001_1 (wrap64 (x203002_1 - t218)) x203003_1) else (none)))) = some r := by rw [if_neg (show ¬ (false = true) by decide)] at H; exact H
                  clear H
                  have H := H1
                  clear H1
                  replace H := Option.bind_eq_some_iff.mp H
                  obtain ⟨t218, A340, H⟩ := H
                  replace H : ((rect_Clean.f x203000_1 x203001_1 t218 x203003_1).bind fun bt219 => (if x7_1.length < 4398046511104 then (rect_Cut.l0 k1 false (x7_1 ++ [(⟨bt219.1, bt219.2.1, bt219.2.2.1, bt219.2.2.2⟩ : S26)]) (l1.take ((ji5) : Int).toNat) ((l1.take ((ji5) : Int).toNat).length : Int) (wrap64 (x19_1 + 1)) (wrap64 (x203000_1 + t218)) x203001_1 (wrap64 (x203002_1 - t218)) x203003_1) else (none))) = some r := H
                  have A34 := Aside0.mk A340
                  clear A340
                  replace H := Option.bind_eq_some_iff.mp H
                  obtain ⟨⟨t219, t220, t221, t222⟩, A350, H⟩ := H
                  replace H : (if x7_1.length < 4398046511104 then (rect_Cut.l0 k1 false (x7_1 ++ [(⟨t219, t220, t221, t222⟩ : S26)]) (l1.take ((ji5) : Int).toNat) ((l1.take ((ji5) : Int).toNat).length : Int) (wrap64 (x19_1 + 1)) (wrap64 (x203000_1 + t218)) x203001_1 (wrap64 (x203002_1 - t218)) x203003_1) else (none)) = some r := H
                  have A35 := Aside0.mk A350
                  clear A350
                  by_cases c36 : x7_1.length < 4398046511104
                  · rw [if_pos c36] at H
                    have LMc36 := Aside0.mk c36
                    clear c36
                    obtain ⟨y223, hy223⟩ : ∃ y_ : List (S26), y_ = (x7_1 ++ [(⟨t219, t220, t221, t222⟩ : S26)]) := ⟨_, rfl⟩
                    replace H : (rect_Cut.l0 k1 false y223 (l1.take ((ji5) : Int).toNat) ((l1.take ((ji5) : Int).toNat).length : Int) (wrap64 (x19_1 + 1)) (wrap64 (x203000_1 + t218)) x203001_1 (wrap64 (x203002_1 - t218)) x203003_1) = some r := by first | (rw [hy223]; with_reducible exact H) | (have H2_ := (Option.bind_some _ _).symm.trans H; rw [hy223]; with_reducible exact H2_) | (have H2_ := (Option.bind_some _ _).symm.trans H; with_reducible exact H2_) | with_reducible exact H | (rw [hy223]; exact H) | exact H
                    have Ny223 := Aside0.mk hy223
                    clear hy223
                    have H' := Aside0.mk H
                    clear H
                    have p208 : 0 ≤ (x19_1 : Int) := of_decide_eq_true (by first | (with_reducible assumption) | assumption)
                    have q208 : x19_1 < ((l1.take ((ji5) : Int).toNat).length : Int) := of_decide_eq_true (by first | (with_reducible assumption) | assumption)
                    obtain ⟨ad208, e208, hx208_0⟩ := Kd.at_int HR207.out x19_1 p208 q208
                    cases e208
                    replace hx208_0 := (HB.out.cell (World.block_lt_of_cell? w _ hx208_0)).trans hx208_0
                    replace p208 := eq_true p208
                    replace q208 := eq_true q208
                    have hcz37_0 : wr.cell? ⟨gb202, 0, none⟩ = some (.int .i64 x203000_1) := (blk_cell BK202.out 0).trans rfl
                    have hcz37_1 : wr.cell? ⟨gb202, 1, none⟩ = some (.int .i64 x203001_1) := (blk_cell BK202.out 1).trans rfl
                    have hcz37_2 : wr.cell? ⟨gb202, 2, none⟩ = some (.int .i64 x203002_1) := (blk_cell BK202.out 2).trans rfl
                    have hcz37_3 : wr.cell? ⟨gb202, 3, none⟩ = some (.int .i64 x203003_1) := (blk_cell BK202.out 3).trans rfl
                    have hfz37_0 := blk_frozen BK202.out 0
                    have hfz37_1 := blk_frozen BK202.out 1
                    have hfz37_2 := blk_frozen BK202.out 2
                    have hfz37_3 := blk_frozen BK202.out 3
                    try go_wp2_with (first | ((with_reducible refine gate_dst (N := 10) rfl ?_); refine box_event ?hg (N := 10) ?hd (cs := #[.int .i64 0, .int .i64 0, .int .i64 0, .int .i64 0]) (t := 26) ?hr ?_; (case hd => rfl); (case hg => rfl); (case hr => first | (go_simp; done) | (go_simp; rfl)); intro gb209 hg w38 hbox hb; have n0_ := Aside0.mk (Kd.R_below (Kd.R_elderB (by (with_reducible repeat (first | apply Kd.R_alloc | apply Kd.R_drewN | apply Kd.R_drew)); exact HO_7.out) gb209 (Nat.le_of_eq hg.symm)) hb); have n1_ := Aside0.mk (blk_below (g := gb202) (o := .cells #[.int .i64 x203000_1, .int .i64 x203001_1, .int .i64 x203002_1, .int .i64 x203003_1] 26 (0, 0)) (by (with_reducible repeat (first | refine blk_drewN ?_ _ | refine blk_drew ?_ | refine blk_alloc ?_ _)); exact BK202.out) hb); have n2_ := Aside0.mk (below_step (by repeat (first | (with_reducible first | exact HB.out | apply below_alloc | apply pw_below_drewN | apply below_drew1 | refine below_set ?_ GE202.out) | exact HB.out)) hb); have n3_ := Aside0.mk (hbox); have n4_ := Aside0.mk ((by rw [hg]; exact (below_size (by repeat (first | (with_reducible first | exact HB.out | apply below_alloc | apply pw_below_drewN | apply below_drew1 | refine below_set ?_ GE202.out) | exact HB.out))) : w.heap.size ≤ gb209)); have n5_ := Aside0.mk ((by rw [hg]; exact (below_size (by repeat (first | (with_reducible first | exact HB.out | apply below_alloc | apply pw_below_drewN | apply below_drew1 | refine below_set ?_ GE202.out) | exact HB.out))) : w.heap.size ≤ gb209)); have n6_ := Aside0.mk ((by rw [hg]; exact Nat.ne_of_lt (blk_lt (g := gb202) (o := .cells #[.int .i64 x203000_1, .int .i64 x203001_1, .int .i64 x203002_1, .int .i64 x203003_1] 26 (0, 0)) (by (with_reducible repeat (first | refine blk_drewN ?_ _ | refine blk_drew ?_ | refine blk_alloc ?_ _)); exact BK202.out)) : gb202 ≠ gb209)); have n7_ := Aside0.mk ((by rw [hg]; exact Nat.ne_of_gt (blk_lt (g := gb202) (o := .cells #[.int .i64 x203000_1, .int .i64 x203001_1, .int .i64 x203002_1, .int .i64 x203003_1] 26 (0, 0)) (by (with_reducible repeat (first | refine blk_drewN ?_ _ | refine blk_drew ?_ | refine blk_alloc ?_ _)); exact BK202.out)) : gb209 ≠ gb202)); clear HO_7; clear BK202; clear HB; have HO_7 := n0_; have BK202 := n1_; have HB := n2_; have BK209 := n3_; have GW209 := n4_; have GE209 := n5_; have NB202_209 := n6_; have NB209_202 := n7_; clear n0_ n1_ n2_ n3_ n4_ n5_ n6_ n7_; clear hb hbox hg; have hnb39 := NB209_202.out; have hnc39 := NB202_209.out; have hcz40_0 : w38.cell? ⟨gb209, 0, none⟩ = some (.int .i64 0) := (blk_cell BK209.out 0).trans rfl; have hcz40_1 : w38.cell? ⟨gb209, 1, none⟩ = some (.int .i64 0) := (blk_cell BK209.out 1).trans rfl; have hcz40_2 : w38.cell? ⟨gb209, 2, none⟩ = some (.int .i64 0) := (blk_cell BK209.out 2).trans rfl; have hcz40_3 : w38.cell? ⟨gb209, 3, none⟩ = some (.int .i64 0) := (blk_cell BK209.out 3).trans rfl; have hfz40_0 := blk_frozen BK209.out 0; have hfz40_1 := blk_frozen BK209.out 1; have hfz40_2 := blk_frozen BK209.out 2; have hfz40_3 := blk_frozen BK209.out 3; have hcz41_0 : w38.cell? ⟨gb202, 0, none⟩ = some (.int .i64 x203000_1) := (blk_cell BK202.out 0).trans rfl; have hcz41_1 : w38.cell? ⟨gb202, 1, none⟩ = some (.int .i64 x203001_1) := (blk_cell BK202.out 1).trans rfl; have hcz41_2 : w38.cell? ⟨gb202, 2, none⟩ = some (.int .i64 x203002_1) := (blk_cell BK202.out 2).trans rfl; have hcz41_3 : w38.cell? ⟨gb202, 3, none⟩ = some (.int .i64 x203003_1) := (blk_cell BK202.out 3).trans rfl; have hfz41_0 := blk_frozen BK202.out 0; have hfz41_1 := blk_frozen BK202.out 1; have hfz41_2 := blk_frozen BK202.out 2; have hfz41_3 := blk_frozen BK202.out 3) | ((with_reducible refine gate_callee (f := 17) rfl ?_); refine goesL_ (some 45) rfl rfl Try.func17 (by kernel_rfl) rfl #[.int .i64 (rd (l1.take ((ji5) : Int).toNat) x19_1), .int .i64 0, .int .i64 x203002_1] rfl (by (try simp only [List.map_toArray, List.map_cons, List.map_nil]); first | done | (simp only [hji5]; rfl) | rfl | (simp only [List.length_drop, List.length_take]; rfl)) ?_; (with_reducible refine (rect_Clamp.calls (rd (l1.take ((ji5) : Int).toNat) x19_1) 0 x203002_1 t218 _ A34.out).mono ?_); rintro e w42 ⟨rfl, hb⟩; refine ⟨_, rfl, ?_⟩; have n0_ := Aside0.mk (Kd.R_below (by (with_reducible repeat (first | apply Kd.R_alloc | apply Kd.R_drewN | apply Kd.R_drew)); exact (Kd.R_mono (Kd.R_far (p := ⟨gb209, 3, none⟩) (Kd.R_far (p := ⟨gb209, 2, none⟩) (Kd.R_far (p := ⟨gb209, 1, none⟩) (Kd.R_far (p := ⟨gb209, 0, none⟩) (Kd.R_mono HO_7.out (fun k_ hk => (⟨hk, hk.2⟩ : _ ∧ k_ ≠ gb209))) (fun _ hk => hk.2) (.int .i64 x203000_1)) (fun _ hk => hk.2) (.int .i64 x203001_1)) (fun _ hk => hk.2) (.int .i64 x203002_1)) (fun _ hk => hk.2) (.int .i64 x203003_1)) (fun _ h_ => h_.1))) hb); have n1_ := Aside0.mk (blk_below (g := gb202) (o := .cells #[.int .i64 x203000_1, .int .i64 x203001_1, .int .i64 x203002_1, .int .i64 x203003_1] 26 (0, 0)) (by (with_reducible repeat (first | refine blk_drewN ?_ _ | refine blk_drew ?_ | refine blk_alloc ?_ _)); refine blk_far ?_ NB202_209.out _; (with_reducible repeat (first | refine blk_drewN ?_ _ | refine blk_drew ?_ | refine blk_alloc ?_ _)); refine blk_far ?_ NB202_209.out _; (with_reducible repeat (first | refine blk_drewN ?_ _ | refine blk_drew ?_ | refine blk_alloc ?_ _)); refine blk_far ?_ NB202_209.out _; (with_reducible repeat (first | refine blk_drewN ?_ _ | refine blk_drew ?_ | refine blk_alloc ?_ _)); refine blk_far ?_ NB202_209.out _; (with_reducible repeat (first | refine blk_drewN ?_ _ | refine blk_drew ?_ | refine blk_alloc ?_ _)); exact BK202.out) hb); have n2_ := Aside0.mk (blk_below (g := gb209) (o := .cells #[.int .i64 x203000_1, .int .i64 x203001_1, .int .i64 x203002_1, .int .i64 x203003_1] 26 (0, 0)) (by (with_reducible repeat (first | refine blk_drewN ?_ _ | refine blk_drew ?_ | refine blk_alloc ?_ _)); refine blk_put (cs := #[.int .i64 x203000_1, .int .i64 x203001_1, .int .i64 x203002_1, .int .i64 0]) ?_ 3 _ rfl; (with_reducible repeat (first | refine blk_drewN ?_ _ | refine blk_drew ?_ | refine blk_alloc ?_ _)); refine blk_put (cs := #[.int .i64 x203000_1, .int .i64 x203001_1, .int .i64 0, .int .i64 0]) ?_ 2 _ rfl; (with_reducible repeat (first | refine blk_drewN ?_ _ | refine blk_drew ?_ | refine blk_alloc ?_ _)); refine blk_put (cs := #[.int .i64 x203000_1, .int .i64 0, .int .i64 0, .int .i64 0]) ?_ 1 _ rfl; (with_reducible repeat (first | refine blk_drewN ?_ _ | refine blk_drew ?_ | refine blk_alloc ?_ _)); refine blk_put (cs := #[.int .i64 0, .int .i64 0, .int .i64 0, .int .i64 0]) ?_ 0 _ rfl; (with_reducible repeat (first | refine blk_drewN ?_ _ | refine blk_drew ?_ | refine blk_alloc ?_ _)); exact BK209.out) hb); have n3_ := Aside0.mk (below_step (by repeat (first | (with_reducible first | exact HB.out | apply below_alloc | apply pw_below_drewN | apply below_drew1 | refine below_set ?_ GE202.out | refine below_set ?_ GE209.out) | exact HB.out)) hb); clear HO_7; clear BK202; clear BK209; clear HB; have HO_7 := n0_; have BK202 := n1_; have BK209 := n2_; have HB := n3_; clear n0_ n1_ n2_ n3_; (try clear hb); (try clear hb2); (try clear hk); (try clear hi); have hcz43_0 : w42.cell? ⟨gb209, 0, none⟩ = some (.int .i64 x203000_1) := (blk_cell BK209.out 0).trans rfl; have hcz43_1 : w42.cell? ⟨gb209, 1, none⟩ = some (.int .i64 x203001_1) := (blk_cell BK209.out 1).trans rfl; have hcz43_2 : w42.cell? ⟨gb209, 2, none⟩ = some (.int .i64 x203002_1) := (blk_cell BK209.out 2).trans rfl; have hcz43_3 : w42.cell? ⟨gb209, 3, none⟩ = some (.int .i64 x203003_1) := (blk_cell BK209.out 3).trans rfl; have hfz43_0 := blk_frozen BK209.out 0; have hfz43_1 := blk_frozen BK209.out 1; have hfz43_2 := blk_frozen BK209.out 2; have hfz43_3 := blk_frozen BK209.out 3))
                    have n0_ : Aside0 (Kd.R k26 26 (w42.setCell ⟨gb209, 2, none⟩ (.int .i64 t218)) w.heap.size (fun k_ => k_ ≠ gb202 ∧ k_ ≠ gb209) u7 x7_1) := ⟨by (with_reducible repeat (first | apply Kd.R_alloc | apply Kd.R_drewN | apply Kd.R_drew)); exact Kd.R_mono (Kd.R_far (p := ⟨gb209, 2, none⟩) (Kd.R_mono HO_7.out (fun k_ hk => (⟨hk, hk.2⟩ : _ ∧ k_ ≠ gb209))) (fun _ hk => hk.2) (.int .i64 t218)) (fun _ hk => ⟨hk.1.1, hk.1.2⟩)⟩
                    have n1_ : Aside0 ((w42.setCell ⟨gb209, 2, none⟩ (.int .i64 t218)).heap[gb202]? = some (.cells #[.int .i64 x203000_1, .int .i64 x203001_1, .int .i64 x203002_1, .int .i64 x203003_1] 26 (0, 0))) := ⟨by (with_reducible repeat (first | refine blk_drewN ?_ _ | refine blk_drew ?_ | refine blk_alloc ?_ _)); refine blk_far ?_ NB202_209.out _; (with_reducible repeat (first | refine blk_drewN ?_ _ | refine blk_drew ?_ | refine blk_alloc ?_ _)); exact BK202.out⟩
                    have n2_ : Aside0 ((w42.setCell ⟨gb209, 2, none⟩ (.int .i64 t218)).heap[gb209]? = some (.cells #[.int .i64 x203000_1, .int .i64 x203001_1, .int .i64 t218, .int .i64 x203003_1] 26 (0, 0))) := ⟨by (with_reducible repeat (first | refine blk_drewN ?_ _ | refine blk_drew ?_ | refine blk_alloc ?_ _)); refine blk_put (cs := #[.int .i64 x203000_1, .int .i64 x203001_1, .int .i64 x203002_1, .int .i64 x203003_1]) ?_ 2 _ rfl; (with_reducible repeat (first | refine blk_drewN ?_ _ | refine blk_drew ?_ | refine blk_alloc ?_ _)); exact BK209.out⟩
                    have n3_ : Aside0 (Below w.heap.size w (w42.setCell ⟨gb209, 2, none⟩ (.int .i64 t218))) := ⟨by repeat (first | (with_reducible first | exact HB.out | apply below_alloc | apply pw_below_drewN | apply below_drew1 | refine below_set ?_ GE202.out | refine below_set ?_ GE209.out) | exact HB.out)⟩
                    (try clear HO_7)
                    (try clear BK202)
                    (try clear BK209)
                    (try clear HB)
                    generalize (w42.setCell ⟨gb209, 2, none⟩ (.int .i64 t218)) = w44 at n0_ n1_ n2_ n3_ ⊢
                    have HO_7 := n0_
                    have BK202 := n1_
                    have BK209 := n2_
                    have HB := n3_
                    clear n0_ n1_ n2_ n3_
                    have n0_ := Aside0.mk (Kd.R_drew HO_7.out)
                    have n1_ := Aside0.mk (blk_drew BK202.out)
                    have n2_ := Aside0.mk (blk_drew BK209.out)
                    have n3_ := Aside0.mk (below_drew1 HB.out)
                    clear HO_7
                    clear BK202
                    clear BK209
                    clear HB
                    have HO_7 := n0_
                    have BK202 := n1_
                    have BK209 := n2_
                    have HB := n3_
                    clear n0_ n1_ n2_ n3_
                    refine start_ (n := 14) (S := fun w' => w'.cell? ⟨gb202, 1, none⟩ = some (.int .i64 x203001_1) ∧ w'.cell? ⟨gb202, 2, none⟩ = some (.int .i64 x203002_1) ∧ w'.cell? ⟨gb202, 3, none⟩ = some (.int .i64 x203003_1) ∧ w'.cell? ⟨gb209, 0, none⟩ = some (.int .i64 x203000_1) ∧ w'.cell? ⟨gb209, 1, none⟩ = some (.int .i64 x203001_1) ∧ w'.cell? ⟨gb209, 2, none⟩ = some (.int .i64 t218) ∧ w'.cell? ⟨gb209, 3, none⟩ = some (.int .i64 x203003_1)) (ds := [13]) #[false, false, false, false, false, false, false, false, false, false, false, false, false, false] (by kernel_rfl) rfl rfl ⟨(blk_cell BK202.out 1).trans rfl, (blk_cell BK202.out 2).trans rfl, (blk_cell BK202.out 3).trans rfl, (blk_cell BK209.out 0).trans rfl, (blk_cell BK209.out 1).trans rfl, (blk_cell BK209.out 2).trans rfl, (blk_cell BK209.out 3).trans rfl⟩ (fun hHeld => ?_); refine with_tabW rect_Cut.tab11 rect_Cut.bits11 (fun HT_ HW_ => ?_)
                    generalize w44.drew = w45 at HO_7 BK202 BK209 HB hHeld ⊢
                    refine pure_ (i := 0) (N := some 47) (v := ?_) (a' := ?_) #[true, false, false, false, false, false, false, false, false, false, false, false, false, false] rfl rfl (any_of HT_.out (by kernel_rfl)) (fun _ _ _ h => h) (Or.inl ⟨by rfl, ?_⟩) ?_ ?_
                    rotate_left
                    · intro w'
                      go_simp
                      with_reducible rfl
                    rotate_left
                    · simp only [Act.put, List.setIfInBounds_toArray, List.set_cons_zero, List.set_cons_succ, i64_w, i32_w]
                      rfl
                    refine pure_ (i := 2) (N := some 49) (v := ?_) (a' := ?_) #[true, false, true, false, false, false, false, false, false, false, false, false, false, false] rfl rfl (any_of HT_.out (by kernel_rfl)) (fun _ _ _ h => h) (Or.inl ⟨by rfl, ?_⟩) ?_ ?_
                    rotate_left
                    · intro w'
                      go_simp
                      with_reducible rfl
                    rotate_left
                    · simp only [Act.put, List.setIfInBounds_toArray, List.set_cons_zero, List.set_cons_succ, i64_w, i32_w]
                      rfl
                    refine pure_ (i := 5) (N := some 52) (v := ?_) (a' := ?_) #[true, false, true, false, false, true, false, false, false, false, false, false, false, false] rfl rfl (any_of HT_.out (by kernel_rfl)) (fun _ _ _ h => h) (Or.inl ⟨by rfl, ?_⟩) ?_ ?_
                    rotate_left
                    · intro w'
                      go_simp
                      with_reducible rfl
                    rotate_left
                    · simp only [Act.put, List.setIfInBounds_toArray, List.set_cons_zero, List.set_cons_succ, i64_w, i32_w]
                      rfl
                    refine pure_ (i := 7) (N := some 54) (v := ?_) (a' := ?_) #[true, false, true, false, false, true, false, true, false, false, false, false, false, false] rfl rfl (any_of HT_.out (by kernel_rfl)) (fun _ _ _ h => h) (Or.inl ⟨by rfl, ?_⟩) ?_ ?_
                    rotate_left
                    · intro w'
                      go_simp
                      with_reducible rfl
                    rotate_left
                    · simp only [Act.put, List.setIfInBounds_toArray, List.set_cons_zero, List.set_cons_succ, i64_w, i32_w]
                      rfl
                    refine take_ (i := 3) (N := some 50) (v := ?_) (a' := ?_) #[true, false, true, true, false, true, false, true, false, false, false, false, false, false] rfl rfl (take_ofW HT_.out HW_.out (by kernel_rfl)) (fun _ _ _ h => h) (Or.inl ⟨by rfl, ?_⟩) hHeld ?_ ?_
                    rotate_left
                    · rintro w' ⟨s0, s1, s2, s3, s4, s5, s6⟩
                      go_simp
                      with_reducible rfl
                    rotate_left
                    · simp only [Act.put, List.setIfInBounds_toArray, List.set_cons_zero, List.set_cons_succ, i64_w, i32_w]
                      rfl
                    refine take_ (i := 6) (N := some 53) (v := ?_) (a' := ?_) #[true, false, true, true, false, true, true, true, false, false, false, false, false, false] rfl rfl (take_ofW HT_.out HW_.out (by kernel_rfl)) (fun _ _ _ h => h) (Or.inl ⟨by rfl, ?_⟩) hHeld ?_ ?_
                    rotate_left
                    · rintro w' ⟨s0, s1, s2, s3, s4, s5, s6⟩
                      go_simp
                      with_reducible rfl
                    rotate_left
                    · simp only [Act.put, List.setIfInBounds_toArray, List.set_cons_zero, List.set_cons_succ, i64_w, i32_w]
                      rfl
                    refine take_ (i := 8) (N := some 55) (v := ?_) (a' := ?_) #[true, false, true, true, false, true, true, true, true, false, false, false, false, false] rfl rfl (take_ofW HT_.out HW_.out (by kernel_rfl)) (fun _ _ _ h => h) (Or.inl ⟨by rfl, ?_⟩) hHeld ?_ ?_
                    rotate_left
                    · rintro w' ⟨s0, s1, s2, s3, s4, s5, s6⟩
                      go_simp
                      with_reducible rfl
                    rotate_left
                    · simp only [Act.put, List.setIfInBounds_toArray, List.set_cons_zero, List.set_cons_succ, i64_w, i32_w]
                      rfl
                    refine pure_ (i := 9) (N := some 56) (v := ?_) (a' := ?_) #[true, false, true, true, false, true, true, true, true, true, false, false, false, false] rfl rfl (any_of HT_.out (by kernel_rfl)) (fun _ _ _ h => h) (Or.inl ⟨by rfl, ?_⟩) ?_ ?_
                    rotate_left
                    · intro w'
                      go_simp
                      with_reducible rfl
                    rotate_left
                    · simp only [Act.put, List.setIfInBounds_toArray, List.set_cons_zero, List.set_cons_succ, i64_w, i32_w]
                      rfl
                    refine one_ (i := 1) (N := some 48) #[true, true, true, true, false, true, true, true, true, true, false, false, false, false] rfl rfl (one_of HT_.out (by kernel_rfl)) (by decide) (fun K hK => ?_)
                    have hxl0_ : World.cell? _ ⟨gb202, 0, none⟩ = some (.int .i64 x203000_1) := (blk_cell BK202.out 0).trans rfl
                    refine value_ (w1 := ?_) (v := ?_) (by rfl) rfl ?_ ?_
                    rotate_left 2
                    · go_simp
                      constructor
                      · rfl
                      · rfl
                    clear hxl0_
                    refine hK.out _ _ ⟨hHeld.1, hHeld.2.1, hHeld.2.2.1, hHeld.2.2.2.1, hHeld.2.2.2.2.1, hHeld.2.2.2.2.2.1, hHeld.2.2.2.2.2.2⟩ (fun hHeld => ?_)
                    clear hK K
                    refine norm_ (a' := ?_) ?_ ?_
                    rotate_left
                    · show Act.put _ (some 48) _ = _
                      simp only [Act.put, List.setIfInBounds_toArray, List.set_cons_zero, List.set_cons_succ, i64_w, i32_w]
                      rfl
                    refine pure_ (i := 4) (N := some 51) (v := ?_) (a' := ?_) #[true, true, true, true, true, true, true, true, true, true, false, false, false, false] rfl rfl (any_of HT_.out (by kernel_rfl)) (fun _ _ _ h => h) (Or.inl ⟨by rfl, ?_⟩) ?_ ?_
                    rotate_left
                    · intro w'
                      go_simp
                      with_reducible rfl
                    rotate_left
                    · simp only [Act.put, List.setIfInBounds_toArray, List.set_cons_zero, List.set_cons_succ, i64_w, i32_w]
                      rfl
                    refine pure_ (i := 10) (N := some 57) (v := ?_) (a' := ?_) #[true, true, true, true, true, true, true, true, true, true, true, false, false, false] rfl rfl (any_of HT_.out (by kernel_rfl)) (fun _ _ _ h => h) (Or.inl ⟨by rfl, ?_⟩) ?_ ?_
                    rotate_left
                    · intro w'
                      go_simp
                      with_reducible rfl
                    rotate_left
                    · simp only [Act.put, List.setIfInBounds_toArray, List.set_cons_zero, List.set_cons_succ, i64_w, i32_w]
                      rfl
                    refine one_ (i := 11) (N := none) #[true, true, true, true, true, true, true, true, true, true, true, true, false, false] rfl rfl (one_of HT_.out (by kernel_rfl)) (by decide) (fun K hK => ?_)
                    have hs46 : w45.cell? ⟨gb202, 0, none⟩ = some (.int .i64 x203000_1) := (blk_cell BK202.out 0).trans rfl
                    have hfs46 := blk_frozen BK202.out 0
                    have hns46_1 := NB209_202.out
                    have hms46_1 := NB202_209.out
                    refine skip_ (w1 := ?_) (by rfl) rfl ?_ ?_
                    rotate_left
                    · go_simp
                      rfl
                    refine hK.out _ _ ⟨((World.cell?_setCell_other _ ⟨gb202, 0, none⟩ _ _ (by simp)).trans (hHeld.1)), ((World.cell?_setCell_other _ ⟨gb202, 0, none⟩ _ _ (by simp)).trans (hHeld.2.1)), ((World.cell?_setCell_other _ ⟨gb202, 0, none⟩ _ _ (by simp)).trans (hHeld.2.2.1)), ((cell_far (p := ⟨gb202, _, none⟩) NB209_202.out _).trans (hHeld.2.2.2.1)), ((cell_far (p := ⟨gb202, _, none⟩) NB209_202.out _).trans (hHeld.2.2.2.2.1)), ((cell_far (p := ⟨gb202, _, none⟩) NB209_202.out _).trans (hHeld.2.2.2.2.2.1)), ((cell_far (p := ⟨gb202, _, none⟩) NB209_202.out _).trans (hHeld.2.2.2.2.2.2))⟩ (fun hHeld => ?_)
                    clear hK K
                    refine pure_ (i := 12) (N := some 58) (v := ?_) (a' := ?_) #[true, true, true, true, true, true, true, true, true, true, true, true, true, false] rfl rfl (any_of HT_.out (by kernel_rfl)) (fun _ _ _ h => h) (Or.inl ⟨by rfl, ?_⟩) ?_ ?_
                    rotate_left
                    · intro w'
                      go_simp
                      with_reducible rfl
                    rotate_left
                    · simp only [Act.put, List.setIfInBounds_toArray, List.set_cons_zero, List.set_cons_succ, i64_w, i32_w]
                      rfl
                    refine last_ (i := 13) (N := none) #[true, true, true, true, true, true, true, true, true, true, true, true, true, true] rfl rfl (one_of HT_.out (by kernel_rfl)) (by decide) (fun K hK => ?_)
                    have hs47 : w45.cell? ⟨gb202, 2, none⟩ = some (.int .i64 x203002_1) := (blk_cell BK202.out 2).trans rfl
                    have hfs47 := blk_frozen BK202.out 2
                    have hns47_1 := NB209_202.out
                    have hms47_1 := NB202_209.out
                    refine skip_ (w1 := ?_) (by rfl) rfl ?_ ?_
                    rotate_left
                    · go_simp
                      rfl
                    refine hK.out _ _ ?_
                    clear hK K
                    refine done_ (done_of HT_.out (by kernel_rfl)) ?_
                    have hcz48_0 : w45.cell? ⟨gb209, 0, none⟩ = some (.int .i64 x203000_1) := (blk_cell BK209.out 0).trans rfl
                    have hcz48_1 : w45.cell? ⟨gb209, 1, none⟩ = some (.int .i64 x203001_1) := (blk_cell BK209.out 1).trans rfl
                    have hcz48_2 : w45.cell? ⟨gb209, 2, none⟩ = some (.int .i64 t218) := (blk_cell BK209.out 2).trans rfl
                    have hcz48_3 : w45.cell? ⟨gb209, 3, none⟩ = some (.int .i64 x203003_1) := (blk_cell BK209.out 3).trans rfl
                    have hfz48_0 := blk_frozen BK209.out 0
                    have hfz48_1 := blk_frozen BK209.out 1
                    have hfz48_2 := blk_frozen BK209.out 2
                    have hfz48_3 := blk_frozen BK209.out 3
                    try go_wp2_with (first | ((with_reducible refine gate_callee (f := 20) rfl ?_); refine goesL_ (some 61) rfl rfl Try.func20 (by kernel_rfl) rfl #[.agg #[.int .i64 x203000_1, .int .i64 x203001_1, .int .i64 t218, .int .i64 x203003_1]] rfl (by (try simp only [List.map_toArray, List.map_cons, List.map_nil]); first | done | rfl | (simp only [List.length_drop, List.length_take]; rfl)) ?_; (with_reducible refine (rect_Clean.calls x203000_1 x203001_1 t218 x203003_1 t219 t220 t221 t222 _ A35.out).mono ?_); rintro e w49 ⟨rfl, hb⟩; refine ⟨_, rfl, ?_⟩; have n0_ := Aside0.mk (Kd.R_below (by (with_reducible repeat (first | apply Kd.R_alloc | apply Kd.R_drewN | apply Kd.R_drew)); exact (Kd.R_mono (Kd.R_far (p := ⟨gb202, 2, none⟩) (Kd.R_far (p := ⟨gb202, 0, none⟩) (Kd.R_mono HO_7.out (fun k_ hk => (⟨hk, hk.1⟩ : _ ∧ k_ ≠ gb202))) (fun _ hk => hk.2) (.int .i64 (wrap64 (x203000_1 + t218)))) (fun _ hk => hk.2) (.int .i64 (wrap64 (x203002_1 - t218)))) (fun _ h_ => h_.1))) hb); have n1_ := Aside0.mk (blk_below (g := gb202) (o := .cells #[.int .i64 (wrap64 (x203000_1 + t218)), .int .i64 x203001_1, .int .i64 (wrap64 (x203002_1 - t218)), .int .i64 x203003_1] 26 (0, 0)) (by (with_reducible repeat (first | refine blk_drewN ?_ _ | refine blk_drew ?_ | refine blk_alloc ?_ _)); refine blk_put (cs := #[.int .i64 (wrap64 (x203000_1 + t218)), .int .i64 x203001_1, .int .i64 x203002_1, .int .i64 x203003_1]) ?_ 2 _ rfl; (with_reducible repeat (first | refine blk_drewN ?_ _ | refine blk_drew ?_ | refine blk_alloc ?_ _)); refine blk_put (cs := #[.int .i64 x203000_1, .int .i64 x203001_1, .int .i64 x203002_1, .int .i64 x203003_1]) ?_ 0 _ rfl; (with_reducible repeat (first | refine blk_drewN ?_ _ | refine blk_drew ?_ | refine blk_alloc ?_ _)); exact BK202.out) hb); have n2_ := Aside0.mk (blk_below (g := gb209) (o := .cells #[.int .i64 x203000_1, .int .i64 x203001_1, .int .i64 t218, .int .i64 x203003_1] 26 (0, 0)) (by (with_reducible repeat (first | refine blk_drewN ?_ _ | refine blk_drew ?_ | refine blk_alloc ?_ _)); refine blk_far ?_ NB209_202.out _; (with_reducible repeat (first | refine blk_drewN ?_ _ | refine blk_drew ?_ | refine blk_alloc ?_ _)); refine blk_far ?_ NB209_202.out _; (with_reducible repeat (first | refine blk_drewN ?_ _ | refine blk_drew ?_ | refine blk_alloc ?_ _)); exact BK209.out) hb); have n3_ := Aside0.mk (below_step (by repeat (first | (with_reducible first | exact HB.out | apply below_alloc | apply pw_below_drewN | apply below_drew1 | refine below_set ?_ GE202.out | refine below_set ?_ GE209.out) | exact HB.out)) hb); clear HO_7; clear BK202; clear BK209; clear HB; have HO_7 := n0_; have BK202 := n1_; have BK209 := n2_; have HB := n3_; clear n0_ n1_ n2_ n3_; (try clear hb); (try clear hb2); (try clear hk); (try clear hi)) | ((with_reducible refine gate_builtin (b := .append) (xs := #[.tmp 59, .tmp 62]) rfl ?_); at_builtin; refine Kd.R_append k26 (w0 := w) w.heap.size rfl (.tmp 59) (.tmp 62) 22 26 (.agg #[(.int .i64 0), (.int .i64 0), (.int .i64 0), (.int .i64 0)]) 32 rfl Try.underlying22 info26 rfl (by decide) (by omega) u7 x7_1 (⟨t219, t220, t221, t222⟩ : S26) [.int .i64 t219, .int .i64 t220, .int .i64 t221, .int .i64 t222] (fun k_ => k_ ≠ gb202 ∧ k_ ≠ gb209) (fun _ => False) rfl rfl ?aP (fun _ hk => hk.elim) ?aF ?aO ?aB ?aS ?aL ?_; (case aP => exact k26_mkM _ _ _ (⟨t219, t220, t221, t222⟩ : S26)); (case aB => exact (by repeat (first | (with_reducible first | exact HB.out | apply below_alloc | apply pw_below_drewN | apply below_drew1 | refine below_set ?_ GE202.out | refine below_set ?_ GE209.out) | exact HB.out))); (case aF => exact (fun k_ hk => ⟨Kd.freshB (g := gb202) (o := .cells #[.int .i64 (wrap64 (x203000_1 + t218)), .int .i64 x203001_1, .int .i64 (wrap64 (x203002_1 - t218)), .int .i64 x203003_1] 26 (0, 0)) (by (with_reducible repeat (first | refine blk_drewN ?_ _ | refine blk_drew ?_ | refine blk_alloc ?_ _)); exact BK202.out) k_ hk, Kd.freshB (g := gb209) (o := .cells #[.int .i64 x203000_1, .int .i64 x203001_1, .int .i64 t218, .int .i64 x203003_1] 26 (0, 0)) (by (with_reducible repeat (first | refine blk_drewN ?_ _ | refine blk_drew ?_ | refine blk_alloc ?_ _)); exact BK209.out) k_ hk⟩)); (case aO => exact (by (with_reducible repeat (first | apply Kd.R_alloc | apply Kd.R_drewN | apply Kd.R_drew)); exact HO_7.out)); (case aS => exact (below_size (by repeat (first | (with_reducible first | exact HB.out | apply below_alloc | apply pw_below_drewN | apply below_drew1 | refine below_set ?_ GE202.out | refine below_set ?_ GE209.out) | exact HB.out)))); (case aL => have := LMc36.out; omega); intro v224 w50 ho hb hg hat; rw [← Ny223.out] at ho; have n0_ := Aside0.mk (blk_grown (g := gb202) (o := .cells #[.int .i64 (wrap64 (x203000_1 + t218)), .int .i64 x203001_1, .int .i64 (wrap64 (x203002_1 - t218)), .int .i64 x203003_1] 26 (0, 0)) (by (with_reducible repeat (first | refine blk_drewN ?_ _ | refine blk_drew ?_ | refine blk_alloc ?_ _)); exact BK202.out) hg (Kd.R_away HO_7.out (fun _ hk => hk.1))); have n1_ := Aside0.mk (blk_grown (g := gb209) (o := .cells #[.int .i64 x203000_1, .int .i64 x203001_1, .int .i64 t218, .int .i64 x203003_1] 26 (0, 0)) (by (with_reducible repeat (first | refine blk_drewN ?_ _ | refine blk_drew ?_ | refine blk_alloc ?_ _)); exact BK209.out) hg (Kd.R_away HO_7.out (fun _ hk => hk.2))); have n2_ := Aside0.mk (hb); have n3_ := Aside0.mk (ho); clear BK202; clear BK209; clear HB; clear HO_7; have BK202 := n0_; have BK209 := n1_; have HB := n2_; have HO225 := n3_; clear n0_ n1_ n2_ n3_; clear ho hb hg hat))
                    go_roundg k1
                    case measure => have := HK1.out; omega
                    case rel => exact ⟨(y223), (wrap64 (x19_1 + 1)), (wrap64 (x203000_1 + t218)), (x203001_1), (wrap64 (x203002_1 - t218)), (x203003_1), (by first | rfl | (simp; done) | (simp [*]; done)), H', ⟨by have := HK1.out; omega⟩, ⟨by (with_reducible repeat (first | apply Kd.R_alloc | apply Kd.R_drewN | apply Kd.R_drew)); exact Kd.R_mono HO225.out (fun _ hk => hk.1)⟩, ⟨by (with_reducible repeat (first | refine blk_drewN ?_ _ | refine blk_drew ?_ | refine blk_alloc ?_ _)); exact BK202.out⟩, ⟨by repeat (first | (with_reducible first | exact HB.out | apply below_alloc | apply pw_below_drewN | apply below_drew1 | refine below_set ?_ GE202.out | refine below_set ?_ GE209.out) | exact HB.out)⟩⟩
                  · rw [if_neg c36] at H
                    exact absurd H (by simp)
              · rw [if_neg c15] at H
                exact absurd H (by simp)
            · rw [if_neg c14] at H
              exact absurd H (by simp)
          · rw [if_neg c13] at H
            have c13b0 : decide (x19_1 < ((l1.take ((ji5) : Int).toNat).length : Int)) = false := decide_eq_false c13
            (try (have c13b1 : (x19_1 < ji5) = False := eq_false (by have h_ := c13; (try simp only [List.length_take] at h_); omega)))
            (try (have c13b2 : (ji5 ≤ x19_1) = True := eq_true (by have h_ := c13; (try simp only [List.length_take] at h_); omega)))
            (try (have c13b3 : decide (x19_1 < ji5) = false := decide_eq_false (by have h_ := c13; (try simp only [List.length_take] at h_); omega)))
            clear c13
            obtain rfl := Option.some.inj H
            go_wp2
            go_ret
            exact ⟨_, by first | rfl | (simp [errW_none, errW_some] <;> rfl) | (simp only [← hji5]; first | rfl | (simp [errW_none, errW_some] <;> rfl)) | (simp [*, errW_none, errW_some] <;> rfl), by (with_reducible repeat (first | apply Kd.R_alloc | apply Kd.R_drewN | apply Kd.R_drew)); exact Kd.R_mono HO_7.out (fun _ hk => trivial), by repeat (first | (with_reducible first | exact HB.out | apply below_alloc | apply pw_below_drewN | apply below_drew1 | refine below_set ?_ GE202.out) | exact HB.out)⟩
    · rw [if_neg c7] at H
      exact absurd H (by simp)
  · rw [if_neg c6] at H
    exact absurd H (by simp)

end Go.Proofs.Ytmokmkaipcojkaa.Q
