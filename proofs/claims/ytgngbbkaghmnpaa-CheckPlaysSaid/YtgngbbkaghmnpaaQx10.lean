-- written by a program of this session after the way of the kit's print; not the kit's own print. Lean checks it.
import Derived.Test.YtgngbbkaghmnpaaQx0
import Derived.Test.YtgngbbkaghmnpaaQx8
import Derived.Test.YtgngbbkaghmnpaaQx9
namespace Go.Proofs.Ytgngbbkaghmnpaa.Q
open Go.RowKit Go.Proofs.YtgngbbkaghmnpaaW.PrintWords Go.Proofs.YtgngbbkaghmnpaaW.PrintLast Go.Proofs.YtgngbbkaghmnpaaW.PrintMore
attribute [local go_sem] max2_int min2_int max_two min_two max_three min_three max_four min_four   -- for this text's walks alone
set_option linter.unusedVariables false
set_option linter.unusedSimpArgs false

/-! ### check_Effect: function 14 -/
mutual
def check_Effect.j0 : Nat → Int → Int → Bool → Int → List Int → List (S42) → Int → Int → Option (Int × Int × Bool)
  | 0, _, _, _, _, _, _, _, _ => none
  | k + 1, x1, x15, x24, x149000, x149001, x149002, x150000, x150001 => if x24 = true then (some (0, 0, true)) else (if x15 = 1 then (check_Effect.j1 k x1 x15 (x15 == 1) x149000 x149001 x149002 x150000 x150001) else (check_Effect.j1 k x1 x15 (x15 == 5) x149000 x149001 x149002 x150000 x150001))
def check_Effect.j1 : Nat → Int → Int → Bool → Int → List Int → List (S42) → Int → Int → Option (Int × Int × Bool)
  | 0, _, _, _, _, _, _, _, _ => none
  | k + 1, x1, x15, x28, x149000, x149001, x149002, x150000, x150001 => if x28 = true then (some (0, 1, true)) else (if x15 = 2 then (check_Effect.j2 k x1 x15 (x15 == 2) x149000 x149001 x149002 x150000 x150001) else (if x15 = 6 then (check_Effect.j2 k x1 x15 (x15 == 6) x149000 x149001 x149002 x150000 x150001) else (check_Effect.j2 k x1 x15 (x15 == 25) x149000 x149001 x149002 x150000 x150001)))
def check_Effect.j2 : Nat → Int → Int → Bool → Int → List Int → List (S42) → Int → Int → Option (Int × Int × Bool)
  | 0, _, _, _, _, _, _, _, _ => none
  | k + 1, x1, x15, x31, x149000, x149001, x149002, x150000, x150001 => if x31 = true then (some (1, 0, true)) else (if x15 = 3 then (some (1, 2, true)) else (if x15 = 4 then (some (2, 2, true)) else (if x15 = 19 then (check_Effect.j3 k x1 x15 (x15 == 19) x149000 x149001 x149002 x150000 x150001) else (if x15 = 20 then (check_Effect.j3 k x1 x15 (x15 == 20) x149000 x149001 x149002 x150000 x150001) else (check_Effect.j3 k x1 x15 (x15 == 22) x149000 x149001 x149002 x150000 x150001)))))
def check_Effect.j3 : Nat → Int → Int → Bool → Int → List Int → List (S42) → Int → Int → Option (Int × Int × Bool)
  | 0, _, _, _, _, _, _, _, _ => none
  | k + 1, x1, x15, x39, x149000, x149001, x149002, x150000, x150001 => if x39 = true then (some (1, 1, true)) else (if x15 = 21 then (check_Effect.j4 k x1 x15 (x15 == 21) x149000 x149001 x149002 x150000 x150001) else (check_Effect.j4 k x1 x15 (x15 == 23) x149000 x149001 x149002 x150000 x150001))
def check_Effect.j4 : Nat → Int → Int → Bool → Int → List Int → List (S42) → Int → Int → Option (Int × Int × Bool)
  | 0, _, _, _, _, _, _, _, _ => none
  | k + 1, x1, x15, x43, x149000, x149001, x149002, x150000, x150001 => if x43 = true then (some (2, 0, true)) else (if x15 = 27 then (if 0 ≤ x1 then (if x1 < (x149002.length : Int) then (some ((rd_T42 x149002 x1).f1, 0, true)) else (none)) else (none)) else (if x15 = 26 then ((check_function.f x149000 x149001 x149002 x150001).bind fun t152 => (if t152 = true then (if 0 ≤ x150001 then (if x150001 < (x149002.length : Int) then (some ((rd_T42 x149002 x150001).f0, (rd_T42 x149002 x150001).f1, true)) else (none)) else (none)) else (some (0, 0, false)))) else (if x15 = 28 then ((check_host.f x150001).bind fun t155 => (if t155 ≥ 0 then (some (t155, 1, true)) else (some (0, 0, false)))) else (if x150000 ≥ 7 then (if x150000 ≤ 18 then (some (2, 1, true)) else (some (0, 0, false))) else (some (0, 0, false))))))
end
def check_Effect.f (k : Nat) (a0_0 : Int) (l0_1 : List Int) (l0_2 : List (S42)) (a1 : Int) (a2_0 : Int) (a2_1 : Int) : Option (Int × Int × Bool) := (check_function.f a0_0 l0_1 l0_2 a1).bind fun t150 => (if t150 = true then (if a2_0 = 0 then (check_Effect.j0 k a1 a2_0 (a2_0 == 0) a0_0 l0_1 l0_2 a2_0 a2_1) else (if a2_0 = 24 then (check_Effect.j0 k a1 a2_0 (a2_0 == 24) a0_0 l0_1 l0_2 a2_0 a2_1) else (check_Effect.j0 k a1 a2_0 (a2_0 == 29) a0_0 l0_1 l0_2 a2_0 a2_1))) else (some (0, 0, false)))
theorem check_Effect.mono_l : ∀ k, (∀ y0 y1 y2 y3 y4 y5 y6 y7, LeO (check_Effect.j0 k y0 y1 y2 y3 y4 y5 y6 y7) (check_Effect.j0 (k + 1) y0 y1 y2 y3 y4 y5 y6 y7)) ∧ (∀ y0 y1 y2 y3 y4 y5 y6 y7, LeO (check_Effect.j1 k y0 y1 y2 y3 y4 y5 y6 y7) (check_Effect.j1 (k + 1) y0 y1 y2 y3 y4 y5 y6 y7)) ∧ (∀ y0 y1 y2 y3 y4 y5 y6 y7, LeO (check_Effect.j2 k y0 y1 y2 y3 y4 y5 y6 y7) (check_Effect.j2 (k + 1) y0 y1 y2 y3 y4 y5 y6 y7)) ∧ (∀ y0 y1 y2 y3 y4 y5 y6 y7, LeO (check_Effect.j3 k y0 y1 y2 y3 y4 y5 y6 y7) (check_Effect.j3 (k + 1) y0 y1 y2 y3 y4 y5 y6 y7)) ∧ (∀ y0 y1 y2 y3 y4 y5 y6 y7, LeO (check_Effect.j4 k y0 y1 y2 y3 y4 y5 y6 y7) (check_Effect.j4 (k + 1) y0 y1 y2 y3 y4 y5 y6 y7))
  | 0 => ⟨fun _ _ _ _ _ _ _ _ r h => by simp [check_Effect.j0] at h, fun _ _ _ _ _ _ _ _ r h => by simp [check_Effect.j1] at h, fun _ _ _ _ _ _ _ _ r h => by simp [check_Effect.j2] at h, fun _ _ _ _ _ _ _ _ r h => by simp [check_Effect.j3] at h, fun _ _ _ _ _ _ _ _ r h => by simp [check_Effect.j4] at h⟩
  | k + 1 => by
    obtain ⟨ih0, ih1, ih2, ih3, ih4⟩ := check_Effect.mono_l k
    refine ⟨?_, ?_, ?_, ?_, ?_⟩ <;> intros <;> (first | unfold check_Effect.j0 | unfold check_Effect.j1 | unfold check_Effect.j2 | unfold check_Effect.j3 | unfold check_Effect.j4) <;>
      (repeat' first
      | (with_reducible exact ih0 _ _ _ _ _ _ _ _)
      | (with_reducible exact ih1 _ _ _ _ _ _ _ _)
      | (with_reducible exact ih2 _ _ _ _ _ _ _ _)
      | (with_reducible exact ih3 _ _ _ _ _ _ _ _)
      | (with_reducible exact ih4 _ _ _ _ _ _ _ _)
      | (with_reducible exact LeO.refl _)
      | (with_reducible exact LeO.none _)
      | (with_reducible refine LeO.ite ?_ ?_)
      | (with_reducible refine LeO.bind ?_ (fun _ => ?_))
      | exact ih0 _ _ _ _ _ _ _ _
      | exact ih1 _ _ _ _ _ _ _ _
      | exact ih2 _ _ _ _ _ _ _ _
      | exact ih3 _ _ _ _ _ _ _ _
      | exact ih4 _ _ _ _ _ _ _ _
      | exact LeO.none _
      | refine LeO.ite ?_ ?_
      | refine LeO.bind ?_ (fun _ => ?_))
theorem check_Effect.mono : ∀ a0 a1 a2 a3 a4 a5 k, LeO (check_Effect.f k a0 a1 a2 a3 a4 a5) (check_Effect.f (k + 1) a0 a1 a2 a3 a4 a5) := by
  intro a0 a1 a2 a3 a4 a5 k; obtain ⟨ih0, ih1, ih2, ih3, ih4⟩ := check_Effect.mono_l k
  unfold check_Effect.f
  repeat' first
      | (with_reducible exact ih0 _ _ _ _ _ _ _ _)
      | (with_reducible exact ih1 _ _ _ _ _ _ _ _)
      | (with_reducible exact ih2 _ _ _ _ _ _ _ _)
      | (with_reducible exact ih3 _ _ _ _ _ _ _ _)
      | (with_reducible exact ih4 _ _ _ _ _ _ _ _)
      | (with_reducible exact LeO.refl _)
      | (with_reducible exact LeO.none _)
      | (with_reducible refine LeO.ite ?_ ?_)
      | (with_reducible refine LeO.bind ?_ (fun _ => ?_))
      | exact ih0 _ _ _ _ _ _ _ _
      | exact ih1 _ _ _ _ _ _ _ _
      | exact ih2 _ _ _ _ _ _ _ _
      | exact ih3 _ _ _ _ _ _ _ _
      | exact ih4 _ _ _ _ _ _ _ _
      | exact LeO.none _
      | refine LeO.ite ?_ ?_
      | refine LeO.bind ?_ (fun _ => ?_)
set_option maxHeartbeats 8000000 in
set_option maxRecDepth 100000 in
theorem check_Effect.calls (k : Nat) (a0_0 : Int) (A0_1 : Option Addr) (c0_1 : Nat) (l0_1 : List Int) (A0_2 : Option Addr) (c0_2 : Nat) (l0_2 : List (S42)) (a1 : Int) (a2_0 : Int) (a2_1 : Int) (r1 : Int) (r2 : Int) (r3 : Bool) (w : World) (hr0_1 : Kd.C (Kd.int .u8) w A0_1 l0_1.length l0_1) (hc0_1 : l0_1.length ≤ c0_1) (hr0_2 : Kd.C k42 w A0_2 l0_2.length l0_2) (hc0_2 : l0_2.length ≤ c0_2) (h : check_Effect.f k a0_0 l0_1 l0_2 a1 a2_0 a2_1 = some (r1, r2, r3)) :
    Calls Try.prog 14 #[.agg #[.int .i64 a0_0, .slice A0_1 l0_1.length c0_1, .slice A0_2 l0_2.length c0_2], .int .i64 a1, .agg #[.int .i64 a2_0, .int .i64 a2_1]] w fun e w' => e = .returned (.tuple #[.int .i64 r1, .int .i64 r2, .bool r3]) ∧ Below w.heap.size w w' := by
  have hu25 := Try.underlying25; have hu46 := Try.underlying46; have HR0_1 := Aside0.mk hr0_1; have HC0_1 := Aside0.mk hc0_1; clear hr0_1 hc0_1; have HR0_2 := Aside0.mk hr0_2; have HC0_2 := Aside0.mk hc0_2; clear hr0_2 hc0_2; have HB := Aside0.mk (Below.refl w.heap.size w); have H : ((check_function.f a0_0 l0_1 l0_2 a1).bind fun t150 => (if t150 = true then (if a2_0 = 0 then (check_Effect.j0 k a1 a2_0 (a2_0 == 0) a0_0 l0_1 l0_2 a2_0 a2_1) else (if a2_0 = 24 then (check_Effect.j0 k a1 a2_0 (a2_0 == 24) a0_0 l0_1 l0_2 a2_0 a2_1) else (check_Effect.j0 k a1 a2_0 (a2_0 == 29) a0_0 l0_1 l0_2 a2_0 a2_1))) else (some (0, 0, false)))) = some (r1, r2, r3) := h; clear h; replace H := Option.bind_eq_some_iff.mp H; obtain ⟨t150, A40, H⟩ := H; replace H : (if t150 = true then (if a2_0 = 0 then (check_Effect.j0 k a1 a2_0 (a2_0 == 0) a0_0 l0_1 l0_2 a2_0 a2_1) else (if a2_0 = 24 then (check_Effect.j0 k a1 a2_0 (a2_0 == 24) a0_0 l0_1 l0_2 a2_0 a2_1) else (check_Effect.j0 k a1 a2_0 (a2_0 == 29) a0_0 l0_1 l0_2 a2_0 a2_1))) else (some (0, 0, false))) = some (r1, r2, r3) := H; have A4 := Aside0.mk A40; clear A40
  by_cases c5 : t150 = true
  · subst c5
    have H1 : (if a2_0 = 0 then (check_Effect.j0 k a1 a2_0 (a2_0 == 0) a0_0 l0_1 l0_2 a2_0 a2_1) else (if a2_0 = 24 then (check_Effect.j0 k a1 a2_0 (a2_0 == 24) a0_0 l0_1 l0_2 a2_0 a2_1) else (check_Effect.j0 k a1 a2_0 (a2_0 == 29) a0_0 l0_1 l0_2 a2_0 a2_1))) = some (r1, r2, r3) := by rw [if_pos rfl] at H; exact H
    clear H; have H := H1; clear H1; have HC6 := Aside0.mk H; clear H
    go_enter Try.func14, Try.ntmps14
    go_upto_if 24 with (first | ((with_reducible refine gate_dst (N := 3) rfl ?_); refine box_event ?hg (N := 3) ?hd (cs := #[.int .i64 a0_0, .slice A0_1 l0_1.length c0_1, .slice A0_2 l0_2.length c0_2]) (t := 25) ?hr ?_; (case hd => rfl); (case hg => rfl); (case hr => first | (go_simp; done) | (go_simp; rfl)); intro gb148 hg w7 hbox hb; have n0_ := Aside0.mk (below_step (bn0 HB) hb); have BK148 := Aside0.mk (hbox); have GW148 := Aside0.mk ((by rw [hg]; exact (below_size (bn0 HB)) : w.heap.size ≤ gb148)); have GE148 := Aside0.mk ((by rw [hg]; exact (below_size (bn0 HB)) : w.heap.size ≤ gb148)); replace HB := n0_; clear n0_; clear hb hbox hg) | ((with_reducible refine gate_dst (N := 5) rfl ?_); refine box_event ?hg (N := 5) ?hd (cs := #[.int .i64 a2_0, .int .i64 a2_1]) (t := 46) ?hr ?_; (case hd => rfl); (case hg => rfl); (case hr => first | (go_simp; done) | (go_simp; rfl)); intro gb149 hg w8 hbox hb; have n0_ := Aside0.mk (blk_below (g := gb148) (o := .cells #[.int .i64 a0_0, .slice A0_1 l0_1.length c0_1, .slice A0_2 l0_2.length c0_2] 25 (0, 0)) (bkn BK148) hb); have n1_ := Aside0.mk (below_step (bn1 HB GE148) hb); have BK149 := Aside0.mk (hbox); have GW149 := Aside0.mk ((by rw [hg]; exact (below_size (bn1 HB GE148)) : w.heap.size ≤ gb149)); have GE149 := Aside0.mk ((by rw [hg]; exact (below_size (bn1 HB GE148)) : w.heap.size ≤ gb149)); have NB148_149 := Aside0.mk ((by rw [hg]; exact Nat.ne_of_lt (blk_lt (g := gb148) (o := .cells #[.int .i64 a0_0, .slice A0_1 l0_1.length c0_1, .slice A0_2 l0_2.length c0_2] 25 (0, 0)) (bkn BK148)) : gb148 ≠ gb149)); have NB149_148 := Aside0.mk ((by rw [hg]; exact Nat.ne_of_gt (blk_lt (g := gb148) (o := .cells #[.int .i64 a0_0, .slice A0_1 l0_1.length c0_1, .slice A0_2 l0_2.length c0_2] 25 (0, 0)) (bkn BK148)) : gb149 ≠ gb148)); replace BK148 := n0_; replace HB := n1_; clear n0_ n1_; clear hb hbox hg; have hnb9 := NB148_149.out; have hnc9 := NB149_148.out; obtain ⟨hcz10_0, hcz10_1, hcz10_2⟩ := cells3 BK148.out; obtain ⟨hfz10_0, hfz10_1, hfz10_2⟩ := froz3 BK148.out) | (go_at_call 24; (with_reducible refine (check_function.calls a0_0 _ _ l0_1 _ _ l0_2 a1 true _ ?side1 ?side2 ?side3 ?side4 A4.out).mono ?_); (case side1 => repeat (first | exact (Kd.C_below HR0_1.out HB.out) | (with_reducible refine Kd.C_alloc ?_ _) | (with_reducible refine Kd.C_drewN ?_ _) | (with_reducible refine Kd.C_drew ?_))); (case side2 => exact HC0_1.out); (case side3 => repeat (first | exact (Kd.C_below HR0_2.out HB.out) | (with_reducible refine Kd.C_alloc ?_ _) | (with_reducible refine Kd.C_drewN ?_ _) | (with_reducible refine Kd.C_drew ?_))); (case side4 => exact HC0_2.out); rintro e w11 ⟨rfl, hb⟩; replace BK148 := Aside0.mk (blk_below (g := gb148) (o := .cells #[.int .i64 a0_0, .slice A0_1 l0_1.length c0_1, .slice A0_2 l0_2.length c0_2] 25 (0, 0)) (bkn BK148) hb); replace BK149 := Aside0.mk (blk_below (g := gb149) (o := .cells #[.int .i64 a2_0, .int .i64 a2_1] 46 (0, 0)) (bkn BK149) hb); replace HB := Aside0.mk (below_step (bn2 HB GE148 GE149) hb); (try clear hb); obtain ⟨hcz12_0, hcz12_1⟩ := cells2 BK149.out; obtain ⟨hfz12_0, hfz12_1⟩ := froz2 BK149.out))
    repeat (go_quiet (first | ((with_reducible refine gate_dst (N := 3) rfl ?_); refine box_event ?hg (N := 3) ?hd (cs := #[.int .i64 a0_0, .slice A0_1 l0_1.length c0_1, .slice A0_2 l0_2.length c0_2]) (t := 25) ?hr ?_; (case hd => rfl); (case hg => rfl); (case hr => first | (go_simp; done) | (go_simp; rfl)); intro gb148 hg w7 hbox hb; have n0_ := Aside0.mk (below_step (bn0 HB) hb); have BK148 := Aside0.mk (hbox); have GW148 := Aside0.mk ((by rw [hg]; exact (below_size (bn0 HB)) : w.heap.size ≤ gb148)); have GE148 := Aside0.mk ((by rw [hg]; exact (below_size (bn0 HB)) : w.heap.size ≤ gb148)); replace HB := n0_; clear n0_; clear hb hbox hg) | ((with_reducible refine gate_dst (N := 5) rfl ?_); refine box_event ?hg (N := 5) ?hd (cs := #[.int .i64 a2_0, .int .i64 a2_1]) (t := 46) ?hr ?_; (case hd => rfl); (case hg => rfl); (case hr => first | (go_simp; done) | (go_simp; rfl)); intro gb149 hg w8 hbox hb; have n0_ := Aside0.mk (blk_below (g := gb148) (o := .cells #[.int .i64 a0_0, .slice A0_1 l0_1.length c0_1, .slice A0_2 l0_2.length c0_2] 25 (0, 0)) (bkn BK148) hb); have n1_ := Aside0.mk (below_step (bn1 HB GE148) hb); have BK149 := Aside0.mk (hbox); have GW149 := Aside0.mk ((by rw [hg]; exact (below_size (bn1 HB GE148)) : w.heap.size ≤ gb149)); have GE149 := Aside0.mk ((by rw [hg]; exact (below_size (bn1 HB GE148)) : w.heap.size ≤ gb149)); have NB148_149 := Aside0.mk ((by rw [hg]; exact Nat.ne_of_lt (blk_lt (g := gb148) (o := .cells #[.int .i64 a0_0, .slice A0_1 l0_1.length c0_1, .slice A0_2 l0_2.length c0_2] 25 (0, 0)) (bkn BK148)) : gb148 ≠ gb149)); have NB149_148 := Aside0.mk ((by rw [hg]; exact Nat.ne_of_gt (blk_lt (g := gb148) (o := .cells #[.int .i64 a0_0, .slice A0_1 l0_1.length c0_1, .slice A0_2 l0_2.length c0_2] 25 (0, 0)) (bkn BK148)) : gb149 ≠ gb148)); replace BK148 := n0_; replace HB := n1_; clear n0_ n1_; clear hb hbox hg; have hnb9 := NB148_149.out; have hnc9 := NB149_148.out; obtain ⟨hcz10_0, hcz10_1, hcz10_2⟩ := cells3 BK148.out; obtain ⟨hfz10_0, hfz10_1, hfz10_2⟩ := froz3 BK148.out) | (go_at_call 24; (with_reducible refine (check_function.calls a0_0 _ _ l0_1 _ _ l0_2 a1 true _ ?side1 ?side2 ?side3 ?side4 A4.out).mono ?_); (case side1 => repeat (first | exact (Kd.C_below HR0_1.out HB.out) | (with_reducible refine Kd.C_alloc ?_ _) | (with_reducible refine Kd.C_drewN ?_ _) | (with_reducible refine Kd.C_drew ?_))); (case side2 => exact HC0_1.out); (case side3 => repeat (first | exact (Kd.C_below HR0_2.out HB.out) | (with_reducible refine Kd.C_alloc ?_ _) | (with_reducible refine Kd.C_drewN ?_ _) | (with_reducible refine Kd.C_drew ?_))); (case side4 => exact HC0_2.out); rintro e w11 ⟨rfl, hb⟩; replace BK148 := Aside0.mk (blk_below (g := gb148) (o := .cells #[.int .i64 a0_0, .slice A0_1 l0_1.length c0_1, .slice A0_2 l0_2.length c0_2] 25 (0, 0)) (bkn BK148) hb); replace BK149 := Aside0.mk (blk_below (g := gb149) (o := .cells #[.int .i64 a2_0, .int .i64 a2_1] 46 (0, 0)) (bkn BK149) hb); replace HB := Aside0.mk (below_step (bn2 HB GE148 GE149) hb); (try clear hb); obtain ⟨hcz12_0, hcz12_1⟩ := cells2 BK149.out; obtain ⟨hfz12_0, hfz12_1⟩ := froz2 BK149.out)); go_upto_if 24 with (first | ((with_reducible refine gate_dst (N := 3) rfl ?_); refine box_event ?hg (N := 3) ?hd (cs := #[.int .i64 a0_0, .slice A0_1 l0_1.length c0_1, .slice A0_2 l0_2.length c0_2]) (t := 25) ?hr ?_; (case hd => rfl); (case hg => rfl); (case hr => first | (go_simp; done) | (go_simp; rfl)); intro gb148 hg w7 hbox hb; have n0_ := Aside0.mk (below_step (bn0 HB) hb); have BK148 := Aside0.mk (hbox); have GW148 := Aside0.mk ((by rw [hg]; exact (below_size (bn0 HB)) : w.heap.size ≤ gb148)); have GE148 := Aside0.mk ((by rw [hg]; exact (below_size (bn0 HB)) : w.heap.size ≤ gb148)); replace HB := n0_; clear n0_; clear hb hbox hg) | ((with_reducible refine gate_dst (N := 5) rfl ?_); refine box_event ?hg (N := 5) ?hd (cs := #[.int .i64 a2_0, .int .i64 a2_1]) (t := 46) ?hr ?_; (case hd => rfl); (case hg => rfl); (case hr => first | (go_simp; done) | (go_simp; rfl)); intro gb149 hg w8 hbox hb; have n0_ := Aside0.mk (blk_below (g := gb148) (o := .cells #[.int .i64 a0_0, .slice A0_1 l0_1.length c0_1, .slice A0_2 l0_2.length c0_2] 25 (0, 0)) (bkn BK148) hb); have n1_ := Aside0.mk (below_step (bn1 HB GE148) hb); have BK149 := Aside0.mk (hbox); have GW149 := Aside0.mk ((by rw [hg]; exact (below_size (bn1 HB GE148)) : w.heap.size ≤ gb149)); have GE149 := Aside0.mk ((by rw [hg]; exact (below_size (bn1 HB GE148)) : w.heap.size ≤ gb149)); have NB148_149 := Aside0.mk ((by rw [hg]; exact Nat.ne_of_lt (blk_lt (g := gb148) (o := .cells #[.int .i64 a0_0, .slice A0_1 l0_1.length c0_1, .slice A0_2 l0_2.length c0_2] 25 (0, 0)) (bkn BK148)) : gb148 ≠ gb149)); have NB149_148 := Aside0.mk ((by rw [hg]; exact Nat.ne_of_gt (blk_lt (g := gb148) (o := .cells #[.int .i64 a0_0, .slice A0_1 l0_1.length c0_1, .slice A0_2 l0_2.length c0_2] 25 (0, 0)) (bkn BK148)) : gb149 ≠ gb148)); replace BK148 := n0_; replace HB := n1_; clear n0_ n1_; clear hb hbox hg; have hnb9 := NB148_149.out; have hnc9 := NB149_148.out; obtain ⟨hcz10_0, hcz10_1, hcz10_2⟩ := cells3 BK148.out; obtain ⟨hfz10_0, hfz10_1, hfz10_2⟩ := froz3 BK148.out) | (go_at_call 24; (with_reducible refine (check_function.calls a0_0 _ _ l0_1 _ _ l0_2 a1 true _ ?side1 ?side2 ?side3 ?side4 A4.out).mono ?_); (case side1 => repeat (first | exact (Kd.C_below HR0_1.out HB.out) | (with_reducible refine Kd.C_alloc ?_ _) | (with_reducible refine Kd.C_drewN ?_ _) | (with_reducible refine Kd.C_drew ?_))); (case side2 => exact HC0_1.out); (case side3 => repeat (first | exact (Kd.C_below HR0_2.out HB.out) | (with_reducible refine Kd.C_alloc ?_ _) | (with_reducible refine Kd.C_drewN ?_ _) | (with_reducible refine Kd.C_drew ?_))); (case side4 => exact HC0_2.out); rintro e w11 ⟨rfl, hb⟩; replace BK148 := Aside0.mk (blk_below (g := gb148) (o := .cells #[.int .i64 a0_0, .slice A0_1 l0_1.length c0_1, .slice A0_2 l0_2.length c0_2] 25 (0, 0)) (bkn BK148) hb); replace BK149 := Aside0.mk (blk_below (g := gb149) (o := .cells #[.int .i64 a2_0, .int .i64 a2_1] 46 (0, 0)) (bkn BK149) hb); replace HB := Aside0.mk (below_step (bn2 HB GE148 GE149) hb); (try clear hb); obtain ⟨hcz12_0, hcz12_1⟩ := cells2 BK149.out; obtain ⟨hfz12_0, hfz12_1⟩ := froz2 BK149.out)))
    (try simp only [Act.put, List.setIfInBounds_toArray, List.set_cons_zero, List.set_cons_succ])
    go_cut [24] (fun v24 wc => ∃ (kq : Nat) (x24_5 : Bool), v24 = .bool x24_5 ∧ Aside0 (check_Effect.j0 kq a1 a2_0 x24_5 a0_0 l0_1 l0_2 a2_0 a2_1 = some (r1, r2, r3)) ∧ Aside0 (kq ≤ k) ∧ Aside0 (wc.heap[gb148]? = some (.cells #[.int .i64 a0_0, (.slice A0_1 l0_1.length c0_1), (.slice A0_2 l0_2.length c0_2)] 25 (0, 0))) ∧ Aside0 (wc.heap[gb149]? = some (.cells #[.int .i64 a2_0, .int .i64 a2_1] 46 (0, 0))) ∧ Aside0 (Below w.heap.size w wc))
    case first =>
      have H := HC6.out; clear HC6
      by_cases c13 : a2_0 = 0
      · rw [if_pos c13] at H
        have c13b0 : (a2_0 == 0) = true := beq_iff_eq.mpr c13; have c13b1 : (a2_0 != 0) = false := bne_eq_false_iff_eq.mpr c13; clear c13
        (first | rw [c13b0] | (simp only [i64_w, i32_w]; rw [c13b0]) | skip)
        have H' := Aside0.mk H; clear H
        go_wp2
        repeat (go_quiet (fail); try go_wp2)
        go_meet
        case rel => exact ⟨_, ((a2_0 == 0)), (by first | rfl | (simp; done) | (simp [*]; done)), H', ⟨by first | omega | exact Nat.le_refl _⟩, ⟨by (with_reducible repeat (first | refine blk_drewN ?_ _ | refine blk_drew ?_ | refine blk_alloc ?_ _)); exact BK148.out⟩, ⟨by (with_reducible repeat (first | refine blk_drewN ?_ _ | refine blk_drew ?_ | refine blk_alloc ?_ _)); exact BK149.out⟩, ⟨bn2 HB GE148 GE149⟩⟩
      · rw [if_neg c13] at H
        have c13b0 : (a2_0 == 0) = false := beq_eq_false_iff_ne.mpr c13; have c13b1 : (a2_0 != 0) = true := bne_iff_ne.mpr c13
        (first | rw [c13b0] | (simp only [i64_w, i32_w]; rw [c13b0]) | skip)
        by_cases c14 : a2_0 = 24
        · rw [if_pos c14] at H
          have c14b0 : (a2_0 == 24) = true := beq_iff_eq.mpr c14; have c14b1 : (a2_0 != 24) = false := bne_eq_false_iff_eq.mpr c14; clear c14; have H' := Aside0.mk H; clear H
          go_wp2
          repeat (go_quiet (fail); try go_wp2)
          go_meet
          case rel => exact ⟨_, ((a2_0 == 24)), (by first | rfl | (simp; done) | (simp [*]; done)), H', ⟨by first | omega | exact Nat.le_refl _⟩, ⟨by (with_reducible repeat (first | refine blk_drewN ?_ _ | refine blk_drew ?_ | refine blk_alloc ?_ _)); exact BK148.out⟩, ⟨by (with_reducible repeat (first | refine blk_drewN ?_ _ | refine blk_drew ?_ | refine blk_alloc ?_ _)); exact BK149.out⟩, ⟨bn2 HB GE148 GE149⟩⟩
        · rw [if_neg c14] at H
          have c14b0 : (a2_0 == 24) = false := beq_eq_false_iff_ne.mpr c14; have c14b1 : (a2_0 != 24) = true := bne_iff_ne.mpr c14; have H' := Aside0.mk H; clear H
          go_wp2
          repeat (go_quiet (fail); try go_wp2)
          go_meet
          case rel => exact ⟨_, ((a2_0 == 29)), (by first | rfl | (simp; done) | (simp [*]; done)), H', ⟨by first | omega | exact Nat.le_refl _⟩, ⟨by (with_reducible repeat (first | refine blk_drewN ?_ _ | refine blk_drew ?_ | refine blk_alloc ?_ _)); exact BK148.out⟩, ⟨by (with_reducible repeat (first | refine blk_drewN ?_ _ | refine blk_drew ?_ | refine blk_alloc ?_ _)); exact BK149.out⟩, ⟨bn2 HB GE148 GE149⟩⟩
    case rest =>
      clear HC6
      try clear c1
      try clear p2
      try clear c5
      try clear c9
      try clear c13
      try clear c13b0
      try clear c13b1
      try clear c14
      try clear c14b0
      try clear c14b1
      try clear hcz10_0
      try clear hcz10_1
      try clear hcz10_2
      try clear hcz12_0
      try clear hcz12_1
      try clear hfz10_0
      try clear hfz10_1
      try clear hfz10_2
      try clear hfz12_0
      try clear hfz12_1
      obtain ⟨kq, x24_5, rfl, HA, HJ5, BK148, BK149, HB⟩ := hcut
      cases kq with
      | zero => exact absurd HA.out (by simp [check_Effect.j0])
      | succ kj5 => ?_
      have H := HA.out; clear HA; simp only [check_Effect.j0] at H
      by_cases c15 : x24_5 = true
      · subst c15
        have H1 : (some (0, 0, true)) = some (r1, r2, r3) := by rw [if_pos rfl] at H; exact H
        clear H; have H := H1; clear H1; simp only [Option.some.injEq, Prod.mk.injEq] at H; obtain ⟨rfl, rfl, rfl⟩ := H
        go_wp2
        repeat (go_quiet (fail); try go_wp2)
        go_ret3
        exact ⟨by first | rfl | (simp [errW_none, errW_some] <;> rfl) | (simp [*, errW_none, errW_some] <;> rfl), bn2 HB GE148 GE149⟩
      · replace c15 := Bool.eq_false_iff.mpr c15
        subst c15
        have H1 : (if a2_0 = 1 then (check_Effect.j1 kj5 a1 a2_0 (a2_0 == 1) a0_0 l0_1 l0_2 a2_0 a2_1) else (check_Effect.j1 kj5 a1 a2_0 (a2_0 == 5) a0_0 l0_1 l0_2 a2_0 a2_1)) = some (r1, r2, r3) := by rw [if_neg (show ¬ (false = true) by decide)] at H; exact H
        clear H; have H := H1; clear H1; have HC16 := Aside0.mk H; clear H
        go_upto_if 28 with (fail)
        repeat (go_quiet (fail); go_upto_if 28 with (fail))
        go_cut [28] (fun v28 wc => ∃ (kq : Nat) (x28_15 : Bool), v28 = .bool x28_15 ∧ Aside0 (check_Effect.j1 kq a1 a2_0 x28_15 a0_0 l0_1 l0_2 a2_0 a2_1 = some (r1, r2, r3)) ∧ Aside0 (kq ≤ kj5) ∧ Aside0 (wc.heap[gb148]? = some (.cells #[.int .i64 a0_0, (.slice A0_1 l0_1.length c0_1), (.slice A0_2 l0_2.length c0_2)] 25 (0, 0))) ∧ Aside0 (wc.heap[gb149]? = some (.cells #[.int .i64 a2_0, .int .i64 a2_1] 46 (0, 0))) ∧ Aside0 (Below w.heap.size w wc))
        case first =>
          have H := HC16.out; clear HC16
          by_cases c17 : a2_0 = 1
          · rw [if_pos c17] at H
            have c17b0 : (a2_0 == 1) = true := beq_iff_eq.mpr c17; have c17b1 : (a2_0 != 1) = false := bne_eq_false_iff_eq.mpr c17; clear c17
            (first | rw [c17b0] | (simp only [i64_w, i32_w]; rw [c17b0]) | skip)
            have H' := Aside0.mk H; clear H
            go_wp2
            repeat (go_quiet (fail); try go_wp2)
            go_meet
            case rel => exact ⟨_, ((a2_0 == 1)), (by first | rfl | (simp; done) | (simp [*]; done)), H', ⟨by have := HJ5.out; first | omega | exact Nat.le_refl _⟩, ⟨by (with_reducible repeat (first | refine blk_drewN ?_ _ | refine blk_drew ?_ | refine blk_alloc ?_ _)); exact BK148.out⟩, ⟨by (with_reducible repeat (first | refine blk_drewN ?_ _ | refine blk_drew ?_ | refine blk_alloc ?_ _)); exact BK149.out⟩, ⟨bn2 HB GE148 GE149⟩⟩
          · rw [if_neg c17] at H
            have c17b0 : (a2_0 == 1) = false := beq_eq_false_iff_ne.mpr c17; have c17b1 : (a2_0 != 1) = true := bne_iff_ne.mpr c17
            (first | rw [c17b0] | (simp only [i64_w, i32_w]; rw [c17b0]) | skip)
            have H' := Aside0.mk H; clear H
            go_wp2
            repeat (go_quiet (fail); try go_wp2)
            go_meet
            case rel => exact ⟨_, ((a2_0 == 5)), (by first | rfl | (simp; done) | (simp [*]; done)), H', ⟨by have := HJ5.out; first | omega | exact Nat.le_refl _⟩, ⟨by (with_reducible repeat (first | refine blk_drewN ?_ _ | refine blk_drew ?_ | refine blk_alloc ?_ _)); exact BK148.out⟩, ⟨by (with_reducible repeat (first | refine blk_drewN ?_ _ | refine blk_drew ?_ | refine blk_alloc ?_ _)); exact BK149.out⟩, ⟨bn2 HB GE148 GE149⟩⟩
        case rest =>
          clear HC16
          try clear c1
          try clear p2
          try clear c5
          try clear c9
          try clear c13
          try clear c13b0
          try clear c13b1
          try clear c14
          try clear c14b0
          try clear c14b1
          try clear c15
          try clear c17
          try clear c17b0
          try clear c17b1
          try clear hcz10_0
          try clear hcz10_1
          try clear hcz10_2
          try clear hcz12_0
          try clear hcz12_1
          try clear hfz10_0
          try clear hfz10_1
          try clear hfz10_2
          try clear hfz12_0
          try clear hfz12_1
          try clear p2
          obtain ⟨kq, x28_15, rfl, HA, HJ15, BK148, BK149, HB⟩ := hcut
          cases kq with
          | zero => exact absurd HA.out (by simp [check_Effect.j1])
          | succ kj15 => ?_
          have H := HA.out; clear HA; simp only [check_Effect.j1] at H
          by_cases c18 : x28_15 = true
          · subst c18
            have H1 : (some (0, 1, true)) = some (r1, r2, r3) := by rw [if_pos rfl] at H; exact H
            clear H; have H := H1; clear H1; simp only [Option.some.injEq, Prod.mk.injEq] at H; obtain ⟨rfl, rfl, rfl⟩ := H
            go_wp2
            repeat (go_quiet (fail); try go_wp2)
            go_ret3
            exact ⟨by first | rfl | (simp [errW_none, errW_some] <;> rfl) | (simp [*, errW_none, errW_some] <;> rfl), bn2 HB GE148 GE149⟩
          · replace c18 := Bool.eq_false_iff.mpr c18
            subst c18
            have H1 : (if a2_0 = 2 then (check_Effect.j2 kj15 a1 a2_0 (a2_0 == 2) a0_0 l0_1 l0_2 a2_0 a2_1) else (if a2_0 = 6 then (check_Effect.j2 kj15 a1 a2_0 (a2_0 == 6) a0_0 l0_1 l0_2 a2_0 a2_1) else (check_Effect.j2 kj15 a1 a2_0 (a2_0 == 25) a0_0 l0_1 l0_2 a2_0 a2_1))) = some (r1, r2, r3) := by rw [if_neg (show ¬ (false = true) by decide)] at H; exact H
            clear H; have H := H1; clear H1; have HC19 := Aside0.mk H; clear H
            go_upto_if 31 with (fail)
            repeat (go_quiet (fail); go_upto_if 31 with (fail))
            go_cut [31] (fun v31 wc => ∃ (kq : Nat) (x31_18 : Bool), v31 = .bool x31_18 ∧ Aside0 (check_Effect.j2 kq a1 a2_0 x31_18 a0_0 l0_1 l0_2 a2_0 a2_1 = some (r1, r2, r3)) ∧ Aside0 (kq ≤ kj15) ∧ Aside0 (wc.heap[gb148]? = some (.cells #[.int .i64 a0_0, (.slice A0_1 l0_1.length c0_1), (.slice A0_2 l0_2.length c0_2)] 25 (0, 0))) ∧ Aside0 (wc.heap[gb149]? = some (.cells #[.int .i64 a2_0, .int .i64 a2_1] 46 (0, 0))) ∧ Aside0 (Below w.heap.size w wc))
            case first =>
              have H := HC19.out; clear HC19
              by_cases c20 : a2_0 = 2
              · rw [if_pos c20] at H
                have c20b0 : (a2_0 == 2) = true := beq_iff_eq.mpr c20; have c20b1 : (a2_0 != 2) = false := bne_eq_false_iff_eq.mpr c20; clear c20
                (first | rw [c20b0] | (simp only [i64_w, i32_w]; rw [c20b0]) | skip)
                have H' := Aside0.mk H; clear H
                go_wp2
                repeat (go_quiet (fail); try go_wp2)
                go_meet
                case rel => exact ⟨_, ((a2_0 == 2)), (by first | rfl | (simp; done) | (simp [*]; done)), H', ⟨by have := HJ5.out; have := HJ15.out; first | omega | exact Nat.le_refl _⟩, ⟨by (with_reducible repeat (first | refine blk_drewN ?_ _ | refine blk_drew ?_ | refine blk_alloc ?_ _)); exact BK148.out⟩, ⟨by (with_reducible repeat (first | refine blk_drewN ?_ _ | refine blk_drew ?_ | refine blk_alloc ?_ _)); exact BK149.out⟩, ⟨bn2 HB GE148 GE149⟩⟩
              · rw [if_neg c20] at H
                have c20b0 : (a2_0 == 2) = false := beq_eq_false_iff_ne.mpr c20; have c20b1 : (a2_0 != 2) = true := bne_iff_ne.mpr c20
                (first | rw [c20b0] | (simp only [i64_w, i32_w]; rw [c20b0]) | skip)
                by_cases c21 : a2_0 = 6
                · rw [if_pos c21] at H
                  have c21b0 : (a2_0 == 6) = true := beq_iff_eq.mpr c21; have c21b1 : (a2_0 != 6) = false := bne_eq_false_iff_eq.mpr c21; clear c21; have H' := Aside0.mk H; clear H
                  go_wp2
                  repeat (go_quiet (fail); try go_wp2)
                  go_meet
                  case rel => exact ⟨_, ((a2_0 == 6)), (by first | rfl | (simp; done) | (simp [*]; done)), H', ⟨by have := HJ5.out; have := HJ15.out; first | omega | exact Nat.le_refl _⟩, ⟨by (with_reducible repeat (first | refine blk_drewN ?_ _ | refine blk_drew ?_ | refine blk_alloc ?_ _)); exact BK148.out⟩, ⟨by (with_reducible repeat (first | refine blk_drewN ?_ _ | refine blk_drew ?_ | refine blk_alloc ?_ _)); exact BK149.out⟩, ⟨bn2 HB GE148 GE149⟩⟩
                · rw [if_neg c21] at H
                  have c21b0 : (a2_0 == 6) = false := beq_eq_false_iff_ne.mpr c21; have c21b1 : (a2_0 != 6) = true := bne_iff_ne.mpr c21; have H' := Aside0.mk H; clear H
                  go_wp2
                  repeat (go_quiet (fail); try go_wp2)
                  go_meet
                  case rel => exact ⟨_, ((a2_0 == 25)), (by first | rfl | (simp; done) | (simp [*]; done)), H', ⟨by have := HJ5.out; have := HJ15.out; first | omega | exact Nat.le_refl _⟩, ⟨by (with_reducible repeat (first | refine blk_drewN ?_ _ | refine blk_drew ?_ | refine blk_alloc ?_ _)); exact BK148.out⟩, ⟨by (with_reducible repeat (first | refine blk_drewN ?_ _ | refine blk_drew ?_ | refine blk_alloc ?_ _)); exact BK149.out⟩, ⟨bn2 HB GE148 GE149⟩⟩
            case rest =>
              clear HC19
              try clear c1
              try clear c2
              try clear p2
              try clear c5
              try clear c9
              try clear c13
              try clear c13b0
              try clear c13b1
              try clear c14
              try clear c14b0
              try clear c14b1
              try clear c15
              try clear c17
              try clear c17b0
              try clear c17b1
              try clear c18
              try clear c20
              try clear c20b0
              try clear c20b1
              try clear c21
              try clear c21b0
              try clear c21b1
              try clear hcz10_0
              try clear hcz10_1
              try clear hcz10_2
              try clear hcz12_0
              try clear hcz12_1
              try clear hfz10_0
              try clear hfz10_1
              try clear hfz10_2
              try clear hfz12_0
              try clear hfz12_1
              try clear p2
              obtain ⟨kq, x31_18, rfl, HA, HJ18, BK148, BK149, HB⟩ := hcut
              cases kq with
              | zero => exact absurd HA.out (by simp [check_Effect.j2])
              | succ kj18 => ?_
              have H := HA.out; clear HA; simp only [check_Effect.j2] at H
              by_cases c22 : x31_18 = true
              · subst c22
                have H1 : (some (1, 0, true)) = some (r1, r2, r3) := by rw [if_pos rfl] at H; exact H
                clear H; have H := H1; clear H1; simp only [Option.some.injEq, Prod.mk.injEq] at H; obtain ⟨rfl, rfl, rfl⟩ := H
                go_wp2
                repeat (go_quiet (fail); try go_wp2)
                go_ret3
                exact ⟨by first | rfl | (simp [errW_none, errW_some] <;> rfl) | (simp [*, errW_none, errW_some] <;> rfl), bn2 HB GE148 GE149⟩
              · replace c22 := Bool.eq_false_iff.mpr c22
                subst c22
                have H1 : (if a2_0 = 3 then (some (1, 2, true)) else (if a2_0 = 4 then (some (2, 2, true)) else (if a2_0 = 19 then (check_Effect.j3 kj18 a1 a2_0 (a2_0 == 19) a0_0 l0_1 l0_2 a2_0 a2_1) else (if a2_0 = 20 then (check_Effect.j3 kj18 a1 a2_0 (a2_0 == 20) a0_0 l0_1 l0_2 a2_0 a2_1) else (check_Effect.j3 kj18 a1 a2_0 (a2_0 == 22) a0_0 l0_1 l0_2 a2_0 a2_1))))) = some (r1, r2, r3) := by rw [if_neg (show ¬ (false = true) by decide)] at H; exact H
                clear H; have H := H1; clear H1
                by_cases c23 : a2_0 = 3
                · rw [if_pos c23] at H
                  have c23b0 : (a2_0 == 3) = true := beq_iff_eq.mpr c23; have c23b1 : (a2_0 != 3) = false := bne_eq_false_iff_eq.mpr c23; clear c23; simp only [Option.some.injEq, Prod.mk.injEq] at H; obtain ⟨rfl, rfl, rfl⟩ := H
                  go_wp2
                  repeat (go_quiet (fail); try go_wp2)
                  go_ret3
                  exact ⟨by first | rfl | (simp [errW_none, errW_some] <;> rfl) | (simp [*, errW_none, errW_some] <;> rfl), bn2 HB GE148 GE149⟩
                · rw [if_neg c23] at H
                  have c23b0 : (a2_0 == 3) = false := beq_eq_false_iff_ne.mpr c23; have c23b1 : (a2_0 != 3) = true := bne_iff_ne.mpr c23
                  by_cases c24 : a2_0 = 4
                  · rw [if_pos c24] at H
                    have c24b0 : (a2_0 == 4) = true := beq_iff_eq.mpr c24; have c24b1 : (a2_0 != 4) = false := bne_eq_false_iff_eq.mpr c24; clear c24; simp only [Option.some.injEq, Prod.mk.injEq] at H; obtain ⟨rfl, rfl, rfl⟩ := H
                    go_wp2
                    repeat (go_quiet (fail); try go_wp2)
                    go_ret3
                    exact ⟨by first | rfl | (simp [errW_none, errW_some] <;> rfl) | (simp [*, errW_none, errW_some] <;> rfl), bn2 HB GE148 GE149⟩
                  · rw [if_neg c24] at H
                    have c24b0 : (a2_0 == 4) = false := beq_eq_false_iff_ne.mpr c24; have c24b1 : (a2_0 != 4) = true := bne_iff_ne.mpr c24; have HC25 := Aside0.mk H; clear H
                    go_upto_if 39 with (fail)
                    repeat (go_quiet (fail); go_upto_if 39 with (fail))
                    go_cut [39] (fun v39 wc => ∃ (kq : Nat) (x39_24 : Bool), v39 = .bool x39_24 ∧ Aside0 (check_Effect.j3 kq a1 a2_0 x39_24 a0_0 l0_1 l0_2 a2_0 a2_1 = some (r1, r2, r3)) ∧ Aside0 (kq ≤ kj18) ∧ Aside0 (wc.heap[gb148]? = some (.cells #[.int .i64 a0_0, (.slice A0_1 l0_1.length c0_1), (.slice A0_2 l0_2.length c0_2)] 25 (0, 0))) ∧ Aside0 (wc.heap[gb149]? = some (.cells #[.int .i64 a2_0, .int .i64 a2_1] 46 (0, 0))) ∧ Aside0 (Below w.heap.size w wc))
                    case first =>
                      have H := HC25.out; clear HC25
                      by_cases c26 : a2_0 = 19
                      · rw [if_pos c26] at H
                        have c26b0 : (a2_0 == 19) = true := beq_iff_eq.mpr c26; have c26b1 : (a2_0 != 19) = false := bne_eq_false_iff_eq.mpr c26; clear c26
                        (first | rw [c26b0] | (simp only [i64_w, i32_w]; rw [c26b0]) | skip)
                        have H' := Aside0.mk H; clear H
                        go_wp2
                        repeat (go_quiet (fail); try go_wp2)
                        go_meet
                        case rel => exact ⟨_, ((a2_0 == 19)), (by first | rfl | (simp; done) | (simp [*]; done)), H', ⟨by have := HJ5.out; have := HJ15.out; have := HJ18.out; first | omega | exact Nat.le_refl _⟩, ⟨by (with_reducible repeat (first | refine blk_drewN ?_ _ | refine blk_drew ?_ | refine blk_alloc ?_ _)); exact BK148.out⟩, ⟨by (with_reducible repeat (first | refine blk_drewN ?_ _ | refine blk_drew ?_ | refine blk_alloc ?_ _)); exact BK149.out⟩, ⟨bn2 HB GE148 GE149⟩⟩
                      · rw [if_neg c26] at H
                        have c26b0 : (a2_0 == 19) = false := beq_eq_false_iff_ne.mpr c26; have c26b1 : (a2_0 != 19) = true := bne_iff_ne.mpr c26
                        (first | rw [c26b0] | (simp only [i64_w, i32_w]; rw [c26b0]) | skip)
                        by_cases c27 : a2_0 = 20
                        · rw [if_pos c27] at H
                          have c27b0 : (a2_0 == 20) = true := beq_iff_eq.mpr c27; have c27b1 : (a2_0 != 20) = false := bne_eq_false_iff_eq.mpr c27; clear c27; have H' := Aside0.mk H; clear H
                          go_wp2
                          repeat (go_quiet (fail); try go_wp2)
                          go_meet
                          case rel => exact ⟨_, ((a2_0 == 20)), (by first | rfl | (simp; done) | (simp [*]; done)), H', ⟨by have := HJ5.out; have := HJ15.out; have := HJ18.out; first | omega | exact Nat.le_refl _⟩, ⟨by (with_reducible repeat (first | refine blk_drewN ?_ _ | refine blk_drew ?_ | refine blk_alloc ?_ _)); exact BK148.out⟩, ⟨by (with_reducible repeat (first | refine blk_drewN ?_ _ | refine blk_drew ?_ | refine blk_alloc ?_ _)); exact BK149.out⟩, ⟨bn2 HB GE148 GE149⟩⟩
                        · rw [if_neg c27] at H
                          have c27b0 : (a2_0 == 20) = false := beq_eq_false_iff_ne.mpr c27; have c27b1 : (a2_0 != 20) = true := bne_iff_ne.mpr c27; have H' := Aside0.mk H; clear H
                          go_wp2
                          repeat (go_quiet (fail); try go_wp2)
                          go_meet
                          case rel => exact ⟨_, ((a2_0 == 22)), (by first | rfl | (simp; done) | (simp [*]; done)), H', ⟨by have := HJ5.out; have := HJ15.out; have := HJ18.out; first | omega | exact Nat.le_refl _⟩, ⟨by (with_reducible repeat (first | refine blk_drewN ?_ _ | refine blk_drew ?_ | refine blk_alloc ?_ _)); exact BK148.out⟩, ⟨by (with_reducible repeat (first | refine blk_drewN ?_ _ | refine blk_drew ?_ | refine blk_alloc ?_ _)); exact BK149.out⟩, ⟨bn2 HB GE148 GE149⟩⟩
                    case rest =>
                      clear HC25
                      try clear c1
                      try clear c2
                      try clear p2
                      try clear c5
                      try clear c9
                      try clear c13
                      try clear c13b0
                      try clear c13b1
                      try clear c14
                      try clear c14b0
                      try clear c14b1
                      try clear c15
                      try clear c17
                      try clear c17b0
                      try clear c17b1
                      try clear c18
                      try clear c20
                      try clear c20b0
                      try clear c20b1
                      try clear c21
                      try clear c21b0
                      try clear c21b1
                      try clear c22
                      try clear c23
                      try clear c23b0
                      try clear c23b1
                      try clear c24
                      try clear c24b0
                      try clear c24b1
                      try clear c26
                      try clear c26b0
                      try clear c26b1
                      try clear c27
                      try clear c27b0
                      try clear c27b1
                      try clear hcz10_0
                      try clear hcz10_1
                      try clear hcz10_2
                      try clear hcz12_0
                      try clear hcz12_1
                      try clear hfz10_0
                      try clear hfz10_1
                      try clear hfz10_2
                      try clear hfz12_0
                      try clear hfz12_1
                      try clear p2
                      obtain ⟨kq, x39_24, rfl, HA, HJ24, BK148, BK149, HB⟩ := hcut
                      cases kq with
                      | zero => exact absurd HA.out (by simp [check_Effect.j3])
                      | succ kj24 => ?_
                      have H := HA.out; clear HA; simp only [check_Effect.j3] at H
                      by_cases c28 : x39_24 = true
                      · subst c28
                        have H1 : (some (1, 1, true)) = some (r1, r2, r3) := by rw [if_pos rfl] at H; exact H
                        clear H; have H := H1; clear H1; simp only [Option.some.injEq, Prod.mk.injEq] at H; obtain ⟨rfl, rfl, rfl⟩ := H
                        go_wp2
                        repeat (go_quiet (fail); try go_wp2)
                        go_ret3
                        exact ⟨by first | rfl | (simp [errW_none, errW_some] <;> rfl) | (simp [*, errW_none, errW_some] <;> rfl), bn2 HB GE148 GE149⟩
                      · replace c28 := Bool.eq_false_iff.mpr c28
                        subst c28
                        have H1 : (if a2_0 = 21 then (check_Effect.j4 kj24 a1 a2_0 (a2_0 == 21) a0_0 l0_1 l0_2 a2_0 a2_1) else (check_Effect.j4 kj24 a1 a2_0 (a2_0 == 23) a0_0 l0_1 l0_2 a2_0 a2_1)) = some (r1, r2, r3) := by rw [if_neg (show ¬ (false = true) by decide)] at H; exact H
                        clear H; have H := H1; clear H1; have HC29 := Aside0.mk H; clear H
                        go_upto_if 43 with (fail)
                        repeat (go_quiet (fail); go_upto_if 43 with (fail))
                        go_cut [43] (fun v43 wc => ∃ (kq : Nat) (x43_28 : Bool), v43 = .bool x43_28 ∧ Aside0 (check_Effect.j4 kq a1 a2_0 x43_28 a0_0 l0_1 l0_2 a2_0 a2_1 = some (r1, r2, r3)) ∧ Aside0 (kq ≤ kj24) ∧ Aside0 (wc.heap[gb148]? = some (.cells #[.int .i64 a0_0, (.slice A0_1 l0_1.length c0_1), (.slice A0_2 l0_2.length c0_2)] 25 (0, 0))) ∧ Aside0 (wc.heap[gb149]? = some (.cells #[.int .i64 a2_0, .int .i64 a2_1] 46 (0, 0))) ∧ Aside0 (Below w.heap.size w wc))
                        case first =>
                          have H := HC29.out; clear HC29
                          by_cases c30 : a2_0 = 21
                          · rw [if_pos c30] at H
                            have c30b0 : (a2_0 == 21) = true := beq_iff_eq.mpr c30; have c30b1 : (a2_0 != 21) = false := bne_eq_false_iff_eq.mpr c30; clear c30
                            (first | rw [c30b0] | (simp only [i64_w, i32_w]; rw [c30b0]) | skip)
                            have H' := Aside0.mk H; clear H
                            go_wp2
                            repeat (go_quiet (fail); try go_wp2)
                            go_meet
                            case rel => exact ⟨_, ((a2_0 == 21)), (by first | rfl | (simp; done) | (simp [*]; done)), H', ⟨by have := HJ5.out; have := HJ15.out; have := HJ18.out; have := HJ24.out; first | omega | exact Nat.le_refl _⟩, ⟨by (with_reducible repeat (first | refine blk_drewN ?_ _ | refine blk_drew ?_ | refine blk_alloc ?_ _)); exact BK148.out⟩, ⟨by (with_reducible repeat (first | refine blk_drewN ?_ _ | refine blk_drew ?_ | refine blk_alloc ?_ _)); exact BK149.out⟩, ⟨bn2 HB GE148 GE149⟩⟩
                          · rw [if_neg c30] at H
                            have c30b0 : (a2_0 == 21) = false := beq_eq_false_iff_ne.mpr c30; have c30b1 : (a2_0 != 21) = true := bne_iff_ne.mpr c30
                            (first | rw [c30b0] | (simp only [i64_w, i32_w]; rw [c30b0]) | skip)
                            have H' := Aside0.mk H; clear H
                            go_wp2
                            repeat (go_quiet (fail); try go_wp2)
                            go_meet
                            case rel => exact ⟨_, ((a2_0 == 23)), (by first | rfl | (simp; done) | (simp [*]; done)), H', ⟨by have := HJ5.out; have := HJ15.out; have := HJ18.out; have := HJ24.out; first | omega | exact Nat.le_refl _⟩, ⟨by (with_reducible repeat (first | refine blk_drewN ?_ _ | refine blk_drew ?_ | refine blk_alloc ?_ _)); exact BK148.out⟩, ⟨by (with_reducible repeat (first | refine blk_drewN ?_ _ | refine blk_drew ?_ | refine blk_alloc ?_ _)); exact BK149.out⟩, ⟨bn2 HB GE148 GE149⟩⟩
                        case rest =>
                          clear HC29
                          try clear c1
                          try clear c2
                          try clear p2
                          try clear c3
                          try clear c5
                          try clear c9
                          try clear c13
                          try clear c13b0
                          try clear c13b1
                          try clear c14
                          try clear c14b0
                          try clear c14b1
                          try clear c15
                          try clear c17
                          try clear c17b0
                          try clear c17b1
                          try clear c18
                          try clear c20
                          try clear c20b0
                          try clear c20b1
                          try clear c21
                          try clear c21b0
                          try clear c21b1
                          try clear c22
                          try clear c23
                          try clear c23b0
                          try clear c23b1
                          try clear c24
                          try clear c24b0
                          try clear c24b1
                          try clear c26
                          try clear c26b0
                          try clear c26b1
                          try clear c27
                          try clear c27b0
                          try clear c27b1
                          try clear c28
                          try clear c30
                          try clear c30b0
                          try clear c30b1
                          try clear hcz10_0
                          try clear hcz10_1
                          try clear hcz10_2
                          try clear hcz12_0
                          try clear hcz12_1
                          try clear hfz10_0
                          try clear hfz10_1
                          try clear hfz10_2
                          try clear hfz12_0
                          try clear hfz12_1
                          try clear p2
                          obtain ⟨kq, x43_28, rfl, HA, HJ28, BK148, BK149, HB⟩ := hcut
                          cases kq with
                          | zero => exact absurd HA.out (by simp [check_Effect.j4])
                          | succ kj28 => ?_
                          have H := HA.out; clear HA; simp only [check_Effect.j4] at H
                          by_cases c31 : x43_28 = true
                          · subst c31
                            have H1 : (some (2, 0, true)) = some (r1, r2, r3) := by rw [if_pos rfl] at H; exact H
                            clear H; have H := H1; clear H1; simp only [Option.some.injEq, Prod.mk.injEq] at H; obtain ⟨rfl, rfl, rfl⟩ := H
                            go_wp2
                            repeat (go_quiet (fail); try go_wp2)
                            go_ret3
                            exact ⟨by first | rfl | (simp [errW_none, errW_some] <;> rfl) | (simp [*, errW_none, errW_some] <;> rfl), bn2 HB GE148 GE149⟩
                          · replace c31 := Bool.eq_false_iff.mpr c31
                            subst c31
                            have H1 : (if a2_0 = 27 then (if 0 ≤ a1 then (if a1 < (l0_2.length : Int) then (some ((rd_T42 l0_2 a1).f1, 0, true)) else (none)) else (none)) else (if a2_0 = 26 then ((check_function.f a0_0 l0_1 l0_2 a2_1).bind fun t152 => (if t152 = true then (if 0 ≤ a2_1 then (if a2_1 < (l0_2.length : Int) then (some ((rd_T42 l0_2 a2_1).f0, (rd_T42 l0_2 a2_1).f1, true)) else (none)) else (none)) else (some (0, 0, false)))) else (if a2_0 = 28 then ((check_host.f a2_1).bind fun t155 => (if t155 ≥ 0 then (some (t155, 1, true)) else (some (0, 0, false)))) else (if a2_0 ≥ 7 then (if a2_0 ≤ 18 then (some (2, 1, true)) else (some (0, 0, false))) else (some (0, 0, false)))))) = some (r1, r2, r3) := by rw [if_neg (show ¬ (false = true) by decide)] at H; exact H
                            clear H; have H := H1; clear H1
                            by_cases c32 : a2_0 = 27
                            · rw [if_pos c32] at H
                              have c32b0 : (a2_0 == 27) = true := beq_iff_eq.mpr c32; have c32b1 : (a2_0 != 27) = false := bne_eq_false_iff_eq.mpr c32; clear c32
                              by_cases c33 : 0 ≤ a1
                              case neg => rw [if_neg c33] at H; exact absurd H (by simp)
                              rw [if_pos c33] at H; have c33b0 : decide (0 ≤ a1) = true := decide_eq_true c33; clear c33
                              by_cases c34 : a1 < (l0_2.length : Int)
                              case neg => rw [if_neg c34] at H; exact absurd H (by simp)
                              rw [if_pos c34] at H; have c34b0 : decide (a1 < (l0_2.length : Int)) = true := decide_eq_true c34; clear c34; simp only [Option.some.injEq, Prod.mk.injEq] at H; obtain ⟨rfl, rfl, rfl⟩ := H; have hnb35 := NB148_149.out; have hnc35 := NB149_148.out; obtain ⟨hcz36_0, hcz36_1, hcz36_2⟩ := cells3 BK148.out; obtain ⟨hfz36_0, hfz36_1, hfz36_2⟩ := froz3 BK148.out; have p151 : 0 ≤ (a1 : Int) := of_decide_eq_true (by first | (with_reducible assumption) | assumption); have q151 : a1 < (l0_2.length : Int) := of_decide_eq_true (by first | (with_reducible assumption) | assumption); obtain ⟨ad151, A151_3, c151_3, e151, hx151_0, hx151_1, hx151_2, hx151_3, hl151_3, hi151_3⟩ := at_T42 HR0_2.out a1 p151 q151
                              cases e151
                              replace hx151_0 := (HB.out.cell (World.block_lt_of_cell? w _ hx151_0)).trans hx151_0; replace hx151_1 := (HB.out.cell (World.block_lt_of_cell? w _ hx151_1)).trans hx151_1; replace hx151_2 := (HB.out.cell (World.block_lt_of_cell? w _ hx151_2)).trans hx151_2; replace hx151_3 := (HB.out.cell (World.block_lt_of_cell? w _ hx151_3)).trans hx151_3; have HR151_3 := Aside0.mk hi151_3; have HC151_3 := Aside0.mk hl151_3; clear hi151_3 hl151_3; replace p151 := eq_true p151; replace q151 := eq_true q151
                              go_wp2
                              repeat (go_quiet (fail); try go_wp2)
                              go_ret3
                              exact ⟨by first | rfl | (simp [errW_none, errW_some] <;> rfl) | (simp [*, errW_none, errW_some] <;> rfl), bn2 HB GE148 GE149⟩
                            · rw [if_neg c32] at H
                              have c32b0 : (a2_0 == 27) = false := beq_eq_false_iff_ne.mpr c32; have c32b1 : (a2_0 != 27) = true := bne_iff_ne.mpr c32
                              by_cases c37 : a2_0 = 26
                              · rw [if_pos c37] at H
                                have c37b0 : (a2_0 == 26) = true := beq_iff_eq.mpr c37; have c37b1 : (a2_0 != 26) = false := bne_eq_false_iff_eq.mpr c37; clear c37; replace H := Option.bind_eq_some_iff.mp H; obtain ⟨t152, A380, H⟩ := H; replace H : (if t152 = true then (if 0 ≤ a2_1 then (if a2_1 < (l0_2.length : Int) then (some ((rd_T42 l0_2 a2_1).f0, (rd_T42 l0_2 a2_1).f1, true)) else (none)) else (none)) else (some (0, 0, false))) = some (r1, r2, r3) := H; have A38 := Aside0.mk A380; clear A380
                                by_cases c39 : t152 = true
                                · subst c39
                                  have H1 : (if 0 ≤ a2_1 then (if a2_1 < (l0_2.length : Int) then (some ((rd_T42 l0_2 a2_1).f0, (rd_T42 l0_2 a2_1).f1, true)) else (none)) else (none)) = some (r1, r2, r3) := by rw [if_pos rfl] at H; exact H
                                  clear H; have H := H1; clear H1
                                  by_cases c40 : 0 ≤ a2_1
                                  case neg => rw [if_neg c40] at H; exact absurd H (by simp)
                                  rw [if_pos c40] at H; have c40b0 : decide (0 ≤ a2_1) = true := decide_eq_true c40; clear c40
                                  by_cases c41 : a2_1 < (l0_2.length : Int)
                                  case neg => rw [if_neg c41] at H; exact absurd H (by simp)
                                  rw [if_pos c41] at H; have c41b0 : decide (a2_1 < (l0_2.length : Int)) = true := decide_eq_true c41; clear c41; simp only [Option.some.injEq, Prod.mk.injEq] at H; obtain ⟨rfl, rfl, rfl⟩ := H; have hnb42 := NB148_149.out; have hnc42 := NB149_148.out; obtain ⟨hcz43_0, hcz43_1, hcz43_2⟩ := cells3 BK148.out; obtain ⟨hfz43_0, hfz43_1, hfz43_2⟩ := froz3 BK148.out; obtain ⟨hcz44_0, hcz44_1⟩ := cells2 BK149.out; obtain ⟨hfz44_0, hfz44_1⟩ := froz2 BK149.out
                                  go_wp2_with (first | (go_at_call 24; (with_reducible refine (check_function.calls a0_0 _ _ l0_1 _ _ l0_2 a2_1 true _ ?side1 ?side2 ?side3 ?side4 A38.out).mono ?_); (case side1 => repeat (first | exact (Kd.C_below HR0_1.out HB.out) | (with_reducible refine Kd.C_alloc ?_ _) | (with_reducible refine Kd.C_drewN ?_ _) | (with_reducible refine Kd.C_drew ?_))); (case side2 => exact HC0_1.out); (case side3 => repeat (first | exact (Kd.C_below HR0_2.out HB.out) | (with_reducible refine Kd.C_alloc ?_ _) | (with_reducible refine Kd.C_drewN ?_ _) | (with_reducible refine Kd.C_drew ?_))); (case side4 => exact HC0_2.out); rintro e w45 ⟨rfl, hb⟩; replace BK148 := Aside0.mk (blk_below (g := gb148) (o := .cells #[.int .i64 a0_0, .slice A0_1 l0_1.length c0_1, .slice A0_2 l0_2.length c0_2] 25 (0, 0)) (bkn BK148) hb); replace BK149 := Aside0.mk (blk_below (g := gb149) (o := .cells #[.int .i64 a2_0, .int .i64 a2_1] 46 (0, 0)) (bkn BK149) hb); replace HB := Aside0.mk (below_step (bn2 HB GE148 GE149) hb); (try clear hb); obtain ⟨hcz46_0, hcz46_1, hcz46_2⟩ := cells3 BK148.out; obtain ⟨hfz46_0, hfz46_1, hfz46_2⟩ := froz3 BK148.out; obtain ⟨hcz47_0, hcz47_1⟩ := cells2 BK149.out; obtain ⟨hfz47_0, hfz47_1⟩ := froz2 BK149.out; have p153 : 0 ≤ (a2_1 : Int) := of_decide_eq_true (by first | (with_reducible assumption) | assumption); have q153 : a2_1 < (l0_2.length : Int) := of_decide_eq_true (by first | (with_reducible assumption) | assumption); obtain ⟨ad153, A153_3, c153_3, e153, hx153_0, hx153_1, hx153_2, hx153_3, hl153_3, hi153_3⟩ := at_T42 HR0_2.out a2_1 p153 q153; cases e153; replace hx153_0 := (HB.out.cell (World.block_lt_of_cell? w _ hx153_0)).trans hx153_0; replace hx153_1 := (HB.out.cell (World.block_lt_of_cell? w _ hx153_1)).trans hx153_1; replace hx153_2 := (HB.out.cell (World.block_lt_of_cell? w _ hx153_2)).trans hx153_2; replace hx153_3 := (HB.out.cell (World.block_lt_of_cell? w _ hx153_3)).trans hx153_3; have HR153_3 := Aside0.mk hi153_3; have HC153_3 := Aside0.mk hl153_3; clear hi153_3 hl153_3; replace p153 := eq_true p153; replace q153 := eq_true q153; have p154 : 0 ≤ (a2_1 : Int) := of_decide_eq_true (by first | (with_reducible assumption) | assumption); have q154 : a2_1 < (l0_2.length : Int) := of_decide_eq_true (by first | (with_reducible assumption) | assumption); obtain ⟨ad154, A154_3, c154_3, e154, hx154_0, hx154_1, hx154_2, hx154_3, hl154_3, hi154_3⟩ := at_T42 HR0_2.out a2_1 p154 q154; obtain rfl : ad153 = ad154 := (by injection e154); replace hx154_0 := (HB.out.cell (World.block_lt_of_cell? w _ hx154_0)).trans hx154_0; replace hx154_1 := (HB.out.cell (World.block_lt_of_cell? w _ hx154_1)).trans hx154_1; replace hx154_2 := (HB.out.cell (World.block_lt_of_cell? w _ hx154_2)).trans hx154_2; replace hx154_3 := (HB.out.cell (World.block_lt_of_cell? w _ hx154_3)).trans hx154_3; have HR154_3 := Aside0.mk hi154_3; have HC154_3 := Aside0.mk hl154_3; clear hi154_3 hl154_3; replace p154 := eq_true p154; replace q154 := eq_true q154; have ea_ := Option.some.inj (hx153_3.symm.trans hx154_3); injection ea_ with ea_ en_ ec_; subst ea_; subst ec_; clear en_))
                                  repeat (go_quiet (first | (go_at_call 24; (with_reducible refine (check_function.calls a0_0 _ _ l0_1 _ _ l0_2 a2_1 true _ ?side1 ?side2 ?side3 ?side4 A38.out).mono ?_); (case side1 => repeat (first | exact (Kd.C_below HR0_1.out HB.out) | (with_reducible refine Kd.C_alloc ?_ _) | (with_reducible refine Kd.C_drewN ?_ _) | (with_reducible refine Kd.C_drew ?_))); (case side2 => exact HC0_1.out); (case side3 => repeat (first | exact (Kd.C_below HR0_2.out HB.out) | (with_reducible refine Kd.C_alloc ?_ _) | (with_reducible refine Kd.C_drewN ?_ _) | (with_reducible refine Kd.C_drew ?_))); (case side4 => exact HC0_2.out); rintro e w45 ⟨rfl, hb⟩; replace BK148 := Aside0.mk (blk_below (g := gb148) (o := .cells #[.int .i64 a0_0, .slice A0_1 l0_1.length c0_1, .slice A0_2 l0_2.length c0_2] 25 (0, 0)) (bkn BK148) hb); replace BK149 := Aside0.mk (blk_below (g := gb149) (o := .cells #[.int .i64 a2_0, .int .i64 a2_1] 46 (0, 0)) (bkn BK149) hb); replace HB := Aside0.mk (below_step (bn2 HB GE148 GE149) hb); (try clear hb); obtain ⟨hcz46_0, hcz46_1, hcz46_2⟩ := cells3 BK148.out; obtain ⟨hfz46_0, hfz46_1, hfz46_2⟩ := froz3 BK148.out; obtain ⟨hcz47_0, hcz47_1⟩ := cells2 BK149.out; obtain ⟨hfz47_0, hfz47_1⟩ := froz2 BK149.out; have p153 : 0 ≤ (a2_1 : Int) := of_decide_eq_true (by first | (with_reducible assumption) | assumption); have q153 : a2_1 < (l0_2.length : Int) := of_decide_eq_true (by first | (with_reducible assumption) | assumption); obtain ⟨ad153, A153_3, c153_3, e153, hx153_0, hx153_1, hx153_2, hx153_3, hl153_3, hi153_3⟩ := at_T42 HR0_2.out a2_1 p153 q153; cases e153; replace hx153_0 := (HB.out.cell (World.block_lt_of_cell? w _ hx153_0)).trans hx153_0; replace hx153_1 := (HB.out.cell (World.block_lt_of_cell? w _ hx153_1)).trans hx153_1; replace hx153_2 := (HB.out.cell (World.block_lt_of_cell? w _ hx153_2)).trans hx153_2; replace hx153_3 := (HB.out.cell (World.block_lt_of_cell? w _ hx153_3)).trans hx153_3; have HR153_3 := Aside0.mk hi153_3; have HC153_3 := Aside0.mk hl153_3; clear hi153_3 hl153_3; replace p153 := eq_true p153; replace q153 := eq_true q153; have p154 : 0 ≤ (a2_1 : Int) := of_decide_eq_true (by first | (with_reducible assumption) | assumption); have q154 : a2_1 < (l0_2.length : Int) := of_decide_eq_true (by first | (with_reducible assumption) | assumption); obtain ⟨ad154, A154_3, c154_3, e154, hx154_0, hx154_1, hx154_2, hx154_3, hl154_3, hi154_3⟩ := at_T42 HR0_2.out a2_1 p154 q154; obtain rfl : ad153 = ad154 := (by injection e154); replace hx154_0 := (HB.out.cell (World.block_lt_of_cell? w _ hx154_0)).trans hx154_0; replace hx154_1 := (HB.out.cell (World.block_lt_of_cell? w _ hx154_1)).trans hx154_1; replace hx154_2 := (HB.out.cell (World.block_lt_of_cell? w _ hx154_2)).trans hx154_2; replace hx154_3 := (HB.out.cell (World.block_lt_of_cell? w _ hx154_3)).trans hx154_3; have HR154_3 := Aside0.mk hi154_3; have HC154_3 := Aside0.mk hl154_3; clear hi154_3 hl154_3; replace p154 := eq_true p154; replace q154 := eq_true q154; have ea_ := Option.some.inj (hx153_3.symm.trans hx154_3); injection ea_ with ea_ en_ ec_; subst ea_; subst ec_; clear en_)); try go_wp2_with (first | (go_at_call 24; (with_reducible refine (check_function.calls a0_0 _ _ l0_1 _ _ l0_2 a2_1 true _ ?side1 ?side2 ?side3 ?side4 A38.out).mono ?_); (case side1 => repeat (first | exact (Kd.C_below HR0_1.out HB.out) | (with_reducible refine Kd.C_alloc ?_ _) | (with_reducible refine Kd.C_drewN ?_ _) | (with_reducible refine Kd.C_drew ?_))); (case side2 => exact HC0_1.out); (case side3 => repeat (first | exact (Kd.C_below HR0_2.out HB.out) | (with_reducible refine Kd.C_alloc ?_ _) | (with_reducible refine Kd.C_drewN ?_ _) | (with_reducible refine Kd.C_drew ?_))); (case side4 => exact HC0_2.out); rintro e w45 ⟨rfl, hb⟩; replace BK148 := Aside0.mk (blk_below (g := gb148) (o := .cells #[.int .i64 a0_0, .slice A0_1 l0_1.length c0_1, .slice A0_2 l0_2.length c0_2] 25 (0, 0)) (bkn BK148) hb); replace BK149 := Aside0.mk (blk_below (g := gb149) (o := .cells #[.int .i64 a2_0, .int .i64 a2_1] 46 (0, 0)) (bkn BK149) hb); replace HB := Aside0.mk (below_step (bn2 HB GE148 GE149) hb); (try clear hb); obtain ⟨hcz46_0, hcz46_1, hcz46_2⟩ := cells3 BK148.out; obtain ⟨hfz46_0, hfz46_1, hfz46_2⟩ := froz3 BK148.out; obtain ⟨hcz47_0, hcz47_1⟩ := cells2 BK149.out; obtain ⟨hfz47_0, hfz47_1⟩ := froz2 BK149.out; have p153 : 0 ≤ (a2_1 : Int) := of_decide_eq_true (by first | (with_reducible assumption) | assumption); have q153 : a2_1 < (l0_2.length : Int) := of_decide_eq_true (by first | (with_reducible assumption) | assumption); obtain ⟨ad153, A153_3, c153_3, e153, hx153_0, hx153_1, hx153_2, hx153_3, hl153_3, hi153_3⟩ := at_T42 HR0_2.out a2_1 p153 q153; cases e153; replace hx153_0 := (HB.out.cell (World.block_lt_of_cell? w _ hx153_0)).trans hx153_0; replace hx153_1 := (HB.out.cell (World.block_lt_of_cell? w _ hx153_1)).trans hx153_1; replace hx153_2 := (HB.out.cell (World.block_lt_of_cell? w _ hx153_2)).trans hx153_2; replace hx153_3 := (HB.out.cell (World.block_lt_of_cell? w _ hx153_3)).trans hx153_3; have HR153_3 := Aside0.mk hi153_3; have HC153_3 := Aside0.mk hl153_3; clear hi153_3 hl153_3; replace p153 := eq_true p153; replace q153 := eq_true q153; have p154 : 0 ≤ (a2_1 : Int) := of_decide_eq_true (by first | (with_reducible assumption) | assumption); have q154 : a2_1 < (l0_2.length : Int) := of_decide_eq_true (by first | (with_reducible assumption) | assumption); obtain ⟨ad154, A154_3, c154_3, e154, hx154_0, hx154_1, hx154_2, hx154_3, hl154_3, hi154_3⟩ := at_T42 HR0_2.out a2_1 p154 q154; obtain rfl : ad153 = ad154 := (by injection e154); replace hx154_0 := (HB.out.cell (World.block_lt_of_cell? w _ hx154_0)).trans hx154_0; replace hx154_1 := (HB.out.cell (World.block_lt_of_cell? w _ hx154_1)).trans hx154_1; replace hx154_2 := (HB.out.cell (World.block_lt_of_cell? w _ hx154_2)).trans hx154_2; replace hx154_3 := (HB.out.cell (World.block_lt_of_cell? w _ hx154_3)).trans hx154_3; have HR154_3 := Aside0.mk hi154_3; have HC154_3 := Aside0.mk hl154_3; clear hi154_3 hl154_3; replace p154 := eq_true p154; replace q154 := eq_true q154; have ea_ := Option.some.inj (hx153_3.symm.trans hx154_3); injection ea_ with ea_ en_ ec_; subst ea_; subst ec_; clear en_)))
                                  go_ret3
                                  exact ⟨by first | rfl | (simp [errW_none, errW_some] <;> rfl) | (simp [*, errW_none, errW_some] <;> rfl), bn2 HB GE148 GE149⟩
                                · replace c39 := Bool.eq_false_iff.mpr c39
                                  subst c39
                                  have H1 : (some (0, 0, false)) = some (r1, r2, r3) := by rw [if_neg (show ¬ (false = true) by decide)] at H; exact H
                                  clear H; have H := H1; clear H1; simp only [Option.some.injEq, Prod.mk.injEq] at H; obtain ⟨rfl, rfl, rfl⟩ := H; have hnb48 := NB148_149.out; have hnc48 := NB149_148.out; obtain ⟨hcz49_0, hcz49_1, hcz49_2⟩ := cells3 BK148.out; obtain ⟨hfz49_0, hfz49_1, hfz49_2⟩ := froz3 BK148.out; obtain ⟨hcz50_0, hcz50_1⟩ := cells2 BK149.out; obtain ⟨hfz50_0, hfz50_1⟩ := froz2 BK149.out
                                  go_wp2_with (first | (go_at_call 24; (with_reducible refine (check_function.calls a0_0 _ _ l0_1 _ _ l0_2 a2_1 false _ ?side1 ?side2 ?side3 ?side4 A38.out).mono ?_); (case side1 => repeat (first | exact (Kd.C_below HR0_1.out HB.out) | (with_reducible refine Kd.C_alloc ?_ _) | (with_reducible refine Kd.C_drewN ?_ _) | (with_reducible refine Kd.C_drew ?_))); (case side2 => exact HC0_1.out); (case side3 => repeat (first | exact (Kd.C_below HR0_2.out HB.out) | (with_reducible refine Kd.C_alloc ?_ _) | (with_reducible refine Kd.C_drewN ?_ _) | (with_reducible refine Kd.C_drew ?_))); (case side4 => exact HC0_2.out); rintro e w51 ⟨rfl, hb⟩; replace BK148 := Aside0.mk (blk_below (g := gb148) (o := .cells #[.int .i64 a0_0, .slice A0_1 l0_1.length c0_1, .slice A0_2 l0_2.length c0_2] 25 (0, 0)) (bkn BK148) hb); replace BK149 := Aside0.mk (blk_below (g := gb149) (o := .cells #[.int .i64 a2_0, .int .i64 a2_1] 46 (0, 0)) (bkn BK149) hb); replace HB := Aside0.mk (below_step (bn2 HB GE148 GE149) hb); (try clear hb)))
                                  repeat (go_quiet (first | (go_at_call 24; (with_reducible refine (check_function.calls a0_0 _ _ l0_1 _ _ l0_2 a2_1 false _ ?side1 ?side2 ?side3 ?side4 A38.out).mono ?_); (case side1 => repeat (first | exact (Kd.C_below HR0_1.out HB.out) | (with_reducible refine Kd.C_alloc ?_ _) | (with_reducible refine Kd.C_drewN ?_ _) | (with_reducible refine Kd.C_drew ?_))); (case side2 => exact HC0_1.out); (case side3 => repeat (first | exact (Kd.C_below HR0_2.out HB.out) | (with_reducible refine Kd.C_alloc ?_ _) | (with_reducible refine Kd.C_drewN ?_ _) | (with_reducible refine Kd.C_drew ?_))); (case side4 => exact HC0_2.out); rintro e w51 ⟨rfl, hb⟩; replace BK148 := Aside0.mk (blk_below (g := gb148) (o := .cells #[.int .i64 a0_0, .slice A0_1 l0_1.length c0_1, .slice A0_2 l0_2.length c0_2] 25 (0, 0)) (bkn BK148) hb); replace BK149 := Aside0.mk (blk_below (g := gb149) (o := .cells #[.int .i64 a2_0, .int .i64 a2_1] 46 (0, 0)) (bkn BK149) hb); replace HB := Aside0.mk (below_step (bn2 HB GE148 GE149) hb); (try clear hb))); try go_wp2_with (first | (go_at_call 24; (with_reducible refine (check_function.calls a0_0 _ _ l0_1 _ _ l0_2 a2_1 false _ ?side1 ?side2 ?side3 ?side4 A38.out).mono ?_); (case side1 => repeat (first | exact (Kd.C_below HR0_1.out HB.out) | (with_reducible refine Kd.C_alloc ?_ _) | (with_reducible refine Kd.C_drewN ?_ _) | (with_reducible refine Kd.C_drew ?_))); (case side2 => exact HC0_1.out); (case side3 => repeat (first | exact (Kd.C_below HR0_2.out HB.out) | (with_reducible refine Kd.C_alloc ?_ _) | (with_reducible refine Kd.C_drewN ?_ _) | (with_reducible refine Kd.C_drew ?_))); (case side4 => exact HC0_2.out); rintro e w51 ⟨rfl, hb⟩; replace BK148 := Aside0.mk (blk_below (g := gb148) (o := .cells #[.int .i64 a0_0, .slice A0_1 l0_1.length c0_1, .slice A0_2 l0_2.length c0_2] 25 (0, 0)) (bkn BK148) hb); replace BK149 := Aside0.mk (blk_below (g := gb149) (o := .cells #[.int .i64 a2_0, .int .i64 a2_1] 46 (0, 0)) (bkn BK149) hb); replace HB := Aside0.mk (below_step (bn2 HB GE148 GE149) hb); (try clear hb))))
                                  go_ret3
                                  exact ⟨by first | rfl | (simp [errW_none, errW_some] <;> rfl) | (simp [*, errW_none, errW_some] <;> rfl), bn2 HB GE148 GE149⟩
                              · rw [if_neg c37] at H
                                have c37b0 : (a2_0 == 26) = false := beq_eq_false_iff_ne.mpr c37; have c37b1 : (a2_0 != 26) = true := bne_iff_ne.mpr c37
                                by_cases c52 : a2_0 = 28
                                · rw [if_pos c52] at H
                                  have c52b0 : (a2_0 == 28) = true := beq_iff_eq.mpr c52; have c52b1 : (a2_0 != 28) = false := bne_eq_false_iff_eq.mpr c52; clear c52; replace H := Option.bind_eq_some_iff.mp H; obtain ⟨t155, A530, H⟩ := H; replace H : (if t155 ≥ 0 then (some (t155, 1, true)) else (some (0, 0, false))) = some (r1, r2, r3) := H; have A53 := Aside0.mk A530; clear A530
                                  by_cases c54 : t155 ≥ 0
                                  · rw [if_pos c54] at H
                                    have c54b0 : decide (0 ≤ t155) = true := decide_eq_true c54; clear c54; simp only [Option.some.injEq, Prod.mk.injEq] at H; obtain ⟨rfl, rfl, rfl⟩ := H; have hnb55 := NB149_148.out; have hnc55 := NB148_149.out; obtain ⟨hcz56_0, hcz56_1⟩ := cells2 BK149.out; obtain ⟨hfz56_0, hfz56_1⟩ := froz2 BK149.out
                                    go_wp2_with (first | (go_at_call 26; (with_reducible refine (check_host.calls a2_1 t155 _ A53.out).mono ?_); rintro e w57 ⟨rfl, hb⟩; replace BK148 := Aside0.mk (blk_below (g := gb148) (o := .cells #[.int .i64 a0_0, .slice A0_1 l0_1.length c0_1, .slice A0_2 l0_2.length c0_2] 25 (0, 0)) (bkn BK148) hb); replace BK149 := Aside0.mk (blk_below (g := gb149) (o := .cells #[.int .i64 a2_0, .int .i64 a2_1] 46 (0, 0)) (bkn BK149) hb); replace HB := Aside0.mk (below_step (bn2 HB GE148 GE149) hb); (try clear hb)))
                                    repeat (go_quiet (first | (go_at_call 26; (with_reducible refine (check_host.calls a2_1 t155 _ A53.out).mono ?_); rintro e w57 ⟨rfl, hb⟩; replace BK148 := Aside0.mk (blk_below (g := gb148) (o := .cells #[.int .i64 a0_0, .slice A0_1 l0_1.length c0_1, .slice A0_2 l0_2.length c0_2] 25 (0, 0)) (bkn BK148) hb); replace BK149 := Aside0.mk (blk_below (g := gb149) (o := .cells #[.int .i64 a2_0, .int .i64 a2_1] 46 (0, 0)) (bkn BK149) hb); replace HB := Aside0.mk (below_step (bn2 HB GE148 GE149) hb); (try clear hb))); try go_wp2_with (first | (go_at_call 26; (with_reducible refine (check_host.calls a2_1 t155 _ A53.out).mono ?_); rintro e w57 ⟨rfl, hb⟩; replace BK148 := Aside0.mk (blk_below (g := gb148) (o := .cells #[.int .i64 a0_0, .slice A0_1 l0_1.length c0_1, .slice A0_2 l0_2.length c0_2] 25 (0, 0)) (bkn BK148) hb); replace BK149 := Aside0.mk (blk_below (g := gb149) (o := .cells #[.int .i64 a2_0, .int .i64 a2_1] 46 (0, 0)) (bkn BK149) hb); replace HB := Aside0.mk (below_step (bn2 HB GE148 GE149) hb); (try clear hb))))
                                    go_ret3
                                    exact ⟨by first | rfl | (simp [errW_none, errW_some] <;> rfl) | (simp [*, errW_none, errW_some] <;> rfl), bn2 HB GE148 GE149⟩
                                  · rw [if_neg c54] at H
                                    have c54b0 : decide (0 ≤ t155) = false := decide_eq_false c54; clear c54; simp only [Option.some.injEq, Prod.mk.injEq] at H; obtain ⟨rfl, rfl, rfl⟩ := H; have hnb58 := NB149_148.out; have hnc58 := NB148_149.out; obtain ⟨hcz59_0, hcz59_1⟩ := cells2 BK149.out; obtain ⟨hfz59_0, hfz59_1⟩ := froz2 BK149.out
                                    go_wp2_with (first | (go_at_call 26; (with_reducible refine (check_host.calls a2_1 t155 _ A53.out).mono ?_); rintro e w60 ⟨rfl, hb⟩; replace BK148 := Aside0.mk (blk_below (g := gb148) (o := .cells #[.int .i64 a0_0, .slice A0_1 l0_1.length c0_1, .slice A0_2 l0_2.length c0_2] 25 (0, 0)) (bkn BK148) hb); replace BK149 := Aside0.mk (blk_below (g := gb149) (o := .cells #[.int .i64 a2_0, .int .i64 a2_1] 46 (0, 0)) (bkn BK149) hb); replace HB := Aside0.mk (below_step (bn2 HB GE148 GE149) hb); (try clear hb)))
                                    repeat (go_quiet (first | (go_at_call 26; (with_reducible refine (check_host.calls a2_1 t155 _ A53.out).mono ?_); rintro e w60 ⟨rfl, hb⟩; replace BK148 := Aside0.mk (blk_below (g := gb148) (o := .cells #[.int .i64 a0_0, .slice A0_1 l0_1.length c0_1, .slice A0_2 l0_2.length c0_2] 25 (0, 0)) (bkn BK148) hb); replace BK149 := Aside0.mk (blk_below (g := gb149) (o := .cells #[.int .i64 a2_0, .int .i64 a2_1] 46 (0, 0)) (bkn BK149) hb); replace HB := Aside0.mk (below_step (bn2 HB GE148 GE149) hb); (try clear hb))); try go_wp2_with (first | (go_at_call 26; (with_reducible refine (check_host.calls a2_1 t155 _ A53.out).mono ?_); rintro e w60 ⟨rfl, hb⟩; replace BK148 := Aside0.mk (blk_below (g := gb148) (o := .cells #[.int .i64 a0_0, .slice A0_1 l0_1.length c0_1, .slice A0_2 l0_2.length c0_2] 25 (0, 0)) (bkn BK148) hb); replace BK149 := Aside0.mk (blk_below (g := gb149) (o := .cells #[.int .i64 a2_0, .int .i64 a2_1] 46 (0, 0)) (bkn BK149) hb); replace HB := Aside0.mk (below_step (bn2 HB GE148 GE149) hb); (try clear hb))))
                                    go_ret3
                                    exact ⟨by first | rfl | (simp [errW_none, errW_some] <;> rfl) | (simp [*, errW_none, errW_some] <;> rfl), bn2 HB GE148 GE149⟩
                                · rw [if_neg c52] at H
                                  have c52b0 : (a2_0 == 28) = false := beq_eq_false_iff_ne.mpr c52; have c52b1 : (a2_0 != 28) = true := bne_iff_ne.mpr c52
                                  by_cases c61 : a2_0 ≥ 7
                                  · rw [if_pos c61] at H
                                    have c61b0 : decide (7 ≤ a2_0) = true := decide_eq_true c61; clear c61
                                    by_cases c62 : a2_0 ≤ 18
                                    · rw [if_pos c62] at H
                                      have c62b0 : decide (a2_0 ≤ 18) = true := decide_eq_true c62; clear c62; simp only [Option.some.injEq, Prod.mk.injEq] at H; obtain ⟨rfl, rfl, rfl⟩ := H; have hnb63 := NB149_148.out; have hnc63 := NB148_149.out; obtain ⟨hcz64_0, hcz64_1⟩ := cells2 BK149.out; obtain ⟨hfz64_0, hfz64_1⟩ := froz2 BK149.out
                                      go_wp2
                                      repeat (go_quiet (fail); try go_wp2)
                                      go_ret3
                                      exact ⟨by first | rfl | (simp [errW_none, errW_some] <;> rfl) | (simp [*, errW_none, errW_some] <;> rfl), bn2 HB GE148 GE149⟩
                                    · rw [if_neg c62] at H
                                      have c62b0 : decide (a2_0 ≤ 18) = false := decide_eq_false c62; clear c62; simp only [Option.some.injEq, Prod.mk.injEq] at H; obtain ⟨rfl, rfl, rfl⟩ := H; have hnb65 := NB149_148.out; have hnc65 := NB148_149.out; obtain ⟨hcz66_0, hcz66_1⟩ := cells2 BK149.out; obtain ⟨hfz66_0, hfz66_1⟩ := froz2 BK149.out
                                      go_wp2
                                      repeat (go_quiet (fail); try go_wp2)
                                      go_ret3
                                      exact ⟨by first | rfl | (simp [errW_none, errW_some] <;> rfl) | (simp [*, errW_none, errW_some] <;> rfl), bn2 HB GE148 GE149⟩
                                  · rw [if_neg c61] at H
                                    have c61b0 : decide (7 ≤ a2_0) = false := decide_eq_false c61; clear c61; simp only [Option.some.injEq, Prod.mk.injEq] at H; obtain ⟨rfl, rfl, rfl⟩ := H; have hnb67 := NB149_148.out; have hnc67 := NB148_149.out; obtain ⟨hcz68_0, hcz68_1⟩ := cells2 BK149.out; obtain ⟨hfz68_0, hfz68_1⟩ := froz2 BK149.out
                                    go_wp2
                                    repeat (go_quiet (fail); try go_wp2)
                                    go_ret3
                                    exact ⟨by first | rfl | (simp [errW_none, errW_some] <;> rfl) | (simp [*, errW_none, errW_some] <;> rfl), bn2 HB GE148 GE149⟩
  · replace c5 := Bool.eq_false_iff.mpr c5
    subst c5
    have H1 : (some (0, 0, false)) = some (r1, r2, r3) := by rw [if_neg (show ¬ (false = true) by decide)] at H; exact H
    clear H; have H := H1; clear H1; simp only [Option.some.injEq, Prod.mk.injEq] at H; obtain ⟨rfl, rfl, rfl⟩ := H
    go_enter Try.func14, Try.ntmps14
    go_wp2_with (first | ((with_reducible refine gate_dst (N := 3) rfl ?_); refine box_event ?hg (N := 3) ?hd (cs := #[.int .i64 a0_0, .slice A0_1 l0_1.length c0_1, .slice A0_2 l0_2.length c0_2]) (t := 25) ?hr ?_; (case hd => rfl); (case hg => rfl); (case hr => first | (go_simp; done) | (go_simp; rfl)); intro gb148 hg w69 hbox hb; have n0_ := Aside0.mk (below_step (bn0 HB) hb); have BK148 := Aside0.mk (hbox); have GW148 := Aside0.mk ((by rw [hg]; exact (below_size (bn0 HB)) : w.heap.size ≤ gb148)); have GE148 := Aside0.mk ((by rw [hg]; exact (below_size (bn0 HB)) : w.heap.size ≤ gb148)); replace HB := n0_; clear n0_; clear hb hbox hg) | ((with_reducible refine gate_dst (N := 5) rfl ?_); refine box_event ?hg (N := 5) ?hd (cs := #[.int .i64 a2_0, .int .i64 a2_1]) (t := 46) ?hr ?_; (case hd => rfl); (case hg => rfl); (case hr => first | (go_simp; done) | (go_simp; rfl)); intro gb149 hg w70 hbox hb; have n0_ := Aside0.mk (blk_below (g := gb148) (o := .cells #[.int .i64 a0_0, .slice A0_1 l0_1.length c0_1, .slice A0_2 l0_2.length c0_2] 25 (0, 0)) (bkn BK148) hb); have n1_ := Aside0.mk (below_step (bn1 HB GE148) hb); have BK149 := Aside0.mk (hbox); have GW149 := Aside0.mk ((by rw [hg]; exact (below_size (bn1 HB GE148)) : w.heap.size ≤ gb149)); have GE149 := Aside0.mk ((by rw [hg]; exact (below_size (bn1 HB GE148)) : w.heap.size ≤ gb149)); have NB148_149 := Aside0.mk ((by rw [hg]; exact Nat.ne_of_lt (blk_lt (g := gb148) (o := .cells #[.int .i64 a0_0, .slice A0_1 l0_1.length c0_1, .slice A0_2 l0_2.length c0_2] 25 (0, 0)) (bkn BK148)) : gb148 ≠ gb149)); have NB149_148 := Aside0.mk ((by rw [hg]; exact Nat.ne_of_gt (blk_lt (g := gb148) (o := .cells #[.int .i64 a0_0, .slice A0_1 l0_1.length c0_1, .slice A0_2 l0_2.length c0_2] 25 (0, 0)) (bkn BK148)) : gb149 ≠ gb148)); replace BK148 := n0_; replace HB := n1_; clear n0_ n1_; clear hb hbox hg; have hnb71 := NB148_149.out; have hnc71 := NB149_148.out; obtain ⟨hcz72_0, hcz72_1, hcz72_2⟩ := cells3 BK148.out; obtain ⟨hfz72_0, hfz72_1, hfz72_2⟩ := froz3 BK148.out) | (go_at_call 24; (with_reducible refine (check_function.calls a0_0 _ _ l0_1 _ _ l0_2 a1 false _ ?side1 ?side2 ?side3 ?side4 A4.out).mono ?_); (case side1 => repeat (first | exact (Kd.C_below HR0_1.out HB.out) | (with_reducible refine Kd.C_alloc ?_ _) | (with_reducible refine Kd.C_drewN ?_ _) | (with_reducible refine Kd.C_drew ?_))); (case side2 => exact HC0_1.out); (case side3 => repeat (first | exact (Kd.C_below HR0_2.out HB.out) | (with_reducible refine Kd.C_alloc ?_ _) | (with_reducible refine Kd.C_drewN ?_ _) | (with_reducible refine Kd.C_drew ?_))); (case side4 => exact HC0_2.out); rintro e w73 ⟨rfl, hb⟩; replace BK148 := Aside0.mk (blk_below (g := gb148) (o := .cells #[.int .i64 a0_0, .slice A0_1 l0_1.length c0_1, .slice A0_2 l0_2.length c0_2] 25 (0, 0)) (bkn BK148) hb); replace BK149 := Aside0.mk (blk_below (g := gb149) (o := .cells #[.int .i64 a2_0, .int .i64 a2_1] 46 (0, 0)) (bkn BK149) hb); replace HB := Aside0.mk (below_step (bn2 HB GE148 GE149) hb); (try clear hb)))
    repeat (go_quiet (first | ((with_reducible refine gate_dst (N := 3) rfl ?_); refine box_event ?hg (N := 3) ?hd (cs := #[.int .i64 a0_0, .slice A0_1 l0_1.length c0_1, .slice A0_2 l0_2.length c0_2]) (t := 25) ?hr ?_; (case hd => rfl); (case hg => rfl); (case hr => first | (go_simp; done) | (go_simp; rfl)); intro gb148 hg w69 hbox hb; have n0_ := Aside0.mk (below_step (bn0 HB) hb); have BK148 := Aside0.mk (hbox); have GW148 := Aside0.mk ((by rw [hg]; exact (below_size (bn0 HB)) : w.heap.size ≤ gb148)); have GE148 := Aside0.mk ((by rw [hg]; exact (below_size (bn0 HB)) : w.heap.size ≤ gb148)); replace HB := n0_; clear n0_; clear hb hbox hg) | ((with_reducible refine gate_dst (N := 5) rfl ?_); refine box_event ?hg (N := 5) ?hd (cs := #[.int .i64 a2_0, .int .i64 a2_1]) (t := 46) ?hr ?_; (case hd => rfl); (case hg => rfl); (case hr => first | (go_simp; done) | (go_simp; rfl)); intro gb149 hg w70 hbox hb; have n0_ := Aside0.mk (blk_below (g := gb148) (o := .cells #[.int .i64 a0_0, .slice A0_1 l0_1.length c0_1, .slice A0_2 l0_2.length c0_2] 25 (0, 0)) (bkn BK148) hb); have n1_ := Aside0.mk (below_step (bn1 HB GE148) hb); have BK149 := Aside0.mk (hbox); have GW149 := Aside0.mk ((by rw [hg]; exact (below_size (bn1 HB GE148)) : w.heap.size ≤ gb149)); have GE149 := Aside0.mk ((by rw [hg]; exact (below_size (bn1 HB GE148)) : w.heap.size ≤ gb149)); have NB148_149 := Aside0.mk ((by rw [hg]; exact Nat.ne_of_lt (blk_lt (g := gb148) (o := .cells #[.int .i64 a0_0, .slice A0_1 l0_1.length c0_1, .slice A0_2 l0_2.length c0_2] 25 (0, 0)) (bkn BK148)) : gb148 ≠ gb149)); have NB149_148 := Aside0.mk ((by rw [hg]; exact Nat.ne_of_gt (blk_lt (g := gb148) (o := .cells #[.int .i64 a0_0, .slice A0_1 l0_1.length c0_1, .slice A0_2 l0_2.length c0_2] 25 (0, 0)) (bkn BK148)) : gb149 ≠ gb148)); replace BK148 := n0_; replace HB := n1_; clear n0_ n1_; clear hb hbox hg; have hnb71 := NB148_149.out; have hnc71 := NB149_148.out; obtain ⟨hcz72_0, hcz72_1, hcz72_2⟩ := cells3 BK148.out; obtain ⟨hfz72_0, hfz72_1, hfz72_2⟩ := froz3 BK148.out) | (go_at_call 24; (with_reducible refine (check_function.calls a0_0 _ _ l0_1 _ _ l0_2 a1 false _ ?side1 ?side2 ?side3 ?side4 A4.out).mono ?_); (case side1 => repeat (first | exact (Kd.C_below HR0_1.out HB.out) | (with_reducible refine Kd.C_alloc ?_ _) | (with_reducible refine Kd.C_drewN ?_ _) | (with_reducible refine Kd.C_drew ?_))); (case side2 => exact HC0_1.out); (case side3 => repeat (first | exact (Kd.C_below HR0_2.out HB.out) | (with_reducible refine Kd.C_alloc ?_ _) | (with_reducible refine Kd.C_drewN ?_ _) | (with_reducible refine Kd.C_drew ?_))); (case side4 => exact HC0_2.out); rintro e w73 ⟨rfl, hb⟩; replace BK148 := Aside0.mk (blk_below (g := gb148) (o := .cells #[.int .i64 a0_0, .slice A0_1 l0_1.length c0_1, .slice A0_2 l0_2.length c0_2] 25 (0, 0)) (bkn BK148) hb); replace BK149 := Aside0.mk (blk_below (g := gb149) (o := .cells #[.int .i64 a2_0, .int .i64 a2_1] 46 (0, 0)) (bkn BK149) hb); replace HB := Aside0.mk (below_step (bn2 HB GE148 GE149) hb); (try clear hb))); try go_wp2_with (first | ((with_reducible refine gate_dst (N := 3) rfl ?_); refine box_event ?hg (N := 3) ?hd (cs := #[.int .i64 a0_0, .slice A0_1 l0_1.length c0_1, .slice A0_2 l0_2.length c0_2]) (t := 25) ?hr ?_; (case hd => rfl); (case hg => rfl); (case hr => first | (go_simp; done) | (go_simp; rfl)); intro gb148 hg w69 hbox hb; have n0_ := Aside0.mk (below_step (bn0 HB) hb); have BK148 := Aside0.mk (hbox); have GW148 := Aside0.mk ((by rw [hg]; exact (below_size (bn0 HB)) : w.heap.size ≤ gb148)); have GE148 := Aside0.mk ((by rw [hg]; exact (below_size (bn0 HB)) : w.heap.size ≤ gb148)); replace HB := n0_; clear n0_; clear hb hbox hg) | ((with_reducible refine gate_dst (N := 5) rfl ?_); refine box_event ?hg (N := 5) ?hd (cs := #[.int .i64 a2_0, .int .i64 a2_1]) (t := 46) ?hr ?_; (case hd => rfl); (case hg => rfl); (case hr => first | (go_simp; done) | (go_simp; rfl)); intro gb149 hg w70 hbox hb; have n0_ := Aside0.mk (blk_below (g := gb148) (o := .cells #[.int .i64 a0_0, .slice A0_1 l0_1.length c0_1, .slice A0_2 l0_2.length c0_2] 25 (0, 0)) (bkn BK148) hb); have n1_ := Aside0.mk (below_step (bn1 HB GE148) hb); have BK149 := Aside0.mk (hbox); have GW149 := Aside0.mk ((by rw [hg]; exact (below_size (bn1 HB GE148)) : w.heap.size ≤ gb149)); have GE149 := Aside0.mk ((by rw [hg]; exact (below_size (bn1 HB GE148)) : w.heap.size ≤ gb149)); have NB148_149 := Aside0.mk ((by rw [hg]; exact Nat.ne_of_lt (blk_lt (g := gb148) (o := .cells #[.int .i64 a0_0, .slice A0_1 l0_1.length c0_1, .slice A0_2 l0_2.length c0_2] 25 (0, 0)) (bkn BK148)) : gb148 ≠ gb149)); have NB149_148 := Aside0.mk ((by rw [hg]; exact Nat.ne_of_gt (blk_lt (g := gb148) (o := .cells #[.int .i64 a0_0, .slice A0_1 l0_1.length c0_1, .slice A0_2 l0_2.length c0_2] 25 (0, 0)) (bkn BK148)) : gb149 ≠ gb148)); replace BK148 := n0_; replace HB := n1_; clear n0_ n1_; clear hb hbox hg; have hnb71 := NB148_149.out; have hnc71 := NB149_148.out; obtain ⟨hcz72_0, hcz72_1, hcz72_2⟩ := cells3 BK148.out; obtain ⟨hfz72_0, hfz72_1, hfz72_2⟩ := froz3 BK148.out) | (go_at_call 24; (with_reducible refine (check_function.calls a0_0 _ _ l0_1 _ _ l0_2 a1 false _ ?side1 ?side2 ?side3 ?side4 A4.out).mono ?_); (case side1 => repeat (first | exact (Kd.C_below HR0_1.out HB.out) | (with_reducible refine Kd.C_alloc ?_ _) | (with_reducible refine Kd.C_drewN ?_ _) | (with_reducible refine Kd.C_drew ?_))); (case side2 => exact HC0_1.out); (case side3 => repeat (first | exact (Kd.C_below HR0_2.out HB.out) | (with_reducible refine Kd.C_alloc ?_ _) | (with_reducible refine Kd.C_drewN ?_ _) | (with_reducible refine Kd.C_drew ?_))); (case side4 => exact HC0_2.out); rintro e w73 ⟨rfl, hb⟩; replace BK148 := Aside0.mk (blk_below (g := gb148) (o := .cells #[.int .i64 a0_0, .slice A0_1 l0_1.length c0_1, .slice A0_2 l0_2.length c0_2] 25 (0, 0)) (bkn BK148) hb); replace BK149 := Aside0.mk (blk_below (g := gb149) (o := .cells #[.int .i64 a2_0, .int .i64 a2_1] 46 (0, 0)) (bkn BK149) hb); replace HB := Aside0.mk (below_step (bn2 HB GE148 GE149) hb); (try clear hb))))
    go_ret3
    exact ⟨by first | rfl | (simp [errW_none, errW_some] <;> rfl) | (simp [*, errW_none, errW_some] <;> rfl), bn2 HB GE148 GE149⟩

end Go.Proofs.Ytgngbbkaghmnpaa.Q
