-- written by a program of this session after the way of the kit's print; not the kit's own print. Lean checks it.
import Derived.Test.YtgngbbkaghmnpaaQx0
import Derived.Test.YtgngbbkaghmnpaaQx14
import Derived.Test.YtgngbbkaghmnpaaQx15
import Derived.Test.YtgngbbkaghmnpaaQx16
import Derived.Test.YtgngbbkaghmnpaaQx19
import Derived.Test.YtgngbbkaghmnpaaQx23
import Derived.Test.YtgngbbkaghmnpaaQx32
namespace Go.Proofs.Ytgngbbkaghmnpaa.Q
open Go.RowKit Go.Proofs.YtgngbbkaghmnpaaW.PrintWords Go.Proofs.YtgngbbkaghmnpaaW.PrintLast Go.Proofs.YtgngbbkaghmnpaaW.PrintMore
attribute [local go_sem] max2_int min2_int max_two min_two max_three min_three max_four min_four   -- for this text's walks alone
set_option linter.unusedVariables false
set_option linter.unusedSimpArgs false

/-! ### casementlaw13_CheckPlays: function 3 -/
mutual
def casementlaw13_CheckPlays.j0 : Nat → Bool → Int → List Int → List (S42) → Int → Int → Int → Option (Bool)
  | 0, _, _, _, _, _, _, _ => none
  | k + 1, x33, x530000, x530001, x530002, x535000, x535001, x535002 => if x33 = true then (some false) else ((check_Heights.f k x530000 x530001 x530002 (-1)).bind fun t539 => (if (t539.length : Int) = 0 then ((check_Heights.f k x530000 x530001 x530002 (x530002.length : Int)).bind fun t542 => (casementlaw13_CheckPlays.j1 k ((t542.length : Int) != 0) x530000 x530001 x530002 x535000 x535001 x535002)) else (casementlaw13_CheckPlays.j1 k true x530000 x530001 x530002 x535000 x535001 x535002)))
def casementlaw13_CheckPlays.j1 : Nat → Bool → Int → List Int → List (S42) → Int → Int → Int → Option (Bool)
  | 0, _, _, _, _, _, _, _ => none
  | k + 1, x46, x530000, x530001, x530002, x535000, x535001, x535002 => if x46 = true then (some false) else (casementlaw13_CheckPlays.l0 k (x530002.length : Int) 0 x530000 x530001 x530002 x535000 x535001 x535002)
def casementlaw13_CheckPlays.l0 : Nat → Int → Int → Int → List Int → List (S42) → Int → Int → Int → Option (Bool)
  | 0, _, _, _, _, _, _, _, _ => none
  | k + 1, x49, x50, x530000, x530001, x530002, x535000, x535001, x535002 => if x50 < x49 then ((check_Heights.f k x530000 x530001 x530002 x50).bind fun t545 => (if x535002 = 0 then ((casementref13_Heights.f k x530000 x530001 x530002 x50).bind fun bt548 => ((casementref01_SameInts.f k t545 bt548.1).bind fun t552 => (if t552 = true then (casementlaw13_CheckPlays.l0 k x49 (wrap64 (x50 + 1)) x530000 x530001 x530002 x535000 x535001 x535002) else (some false)))) else (if (t545.length : Int) = 0 then (casementlaw13_CheckPlays.l0 k x49 (wrap64 (x50 + 1)) x530000 x530001 x530002 x535000 x535001 x535002) else (some false)))) else (some true)
end
def casementlaw13_CheckPlays.f (k : Nat) (a0_0 : Int) (l0_1 : List Int) (l0_2 : List (S42)) : Option (Bool) := (casementlaw13_alive.f k).bind fun t530 => (if t530 = true then ((check_Check.f k a0_0 l0_1 l0_2).bind fun bt531 => ((casementref13_Check.f k a0_0 l0_1 l0_2).bind fun bt535 => (if bt531.1 = bt535.1 then (if bt531.2.1 = bt535.2.1 then (casementlaw13_CheckPlays.j0 k (bt531.2.2 != bt535.2.2) a0_0 l0_1 l0_2 bt531.1 bt531.2.1 bt531.2.2) else (casementlaw13_CheckPlays.j0 k true a0_0 l0_1 l0_2 bt531.1 bt531.2.1 bt531.2.2)) else (casementlaw13_CheckPlays.j0 k true a0_0 l0_1 l0_2 bt531.1 bt531.2.1 bt531.2.2)))) else (some false))
theorem casementlaw13_CheckPlays.mono_l : ∀ k, (∀ y0 y1 y2 y3 y4 y5 y6, LeO (casementlaw13_CheckPlays.j0 k y0 y1 y2 y3 y4 y5 y6) (casementlaw13_CheckPlays.j0 (k + 1) y0 y1 y2 y3 y4 y5 y6)) ∧ (∀ y0 y1 y2 y3 y4 y5 y6, LeO (casementlaw13_CheckPlays.j1 k y0 y1 y2 y3 y4 y5 y6) (casementlaw13_CheckPlays.j1 (k + 1) y0 y1 y2 y3 y4 y5 y6)) ∧ (∀ y0 y1 y2 y3 y4 y5 y6 y7, LeO (casementlaw13_CheckPlays.l0 k y0 y1 y2 y3 y4 y5 y6 y7) (casementlaw13_CheckPlays.l0 (k + 1) y0 y1 y2 y3 y4 y5 y6 y7))
  | 0 => ⟨fun _ _ _ _ _ _ _ r h => by simp [casementlaw13_CheckPlays.j0] at h, fun _ _ _ _ _ _ _ r h => by simp [casementlaw13_CheckPlays.j1] at h, fun _ _ _ _ _ _ _ _ r h => by simp [casementlaw13_CheckPlays.l0] at h⟩
  | k + 1 => by
    obtain ⟨ih0, ih1, ih2⟩ := casementlaw13_CheckPlays.mono_l k
    refine ⟨?_, ?_, ?_⟩ <;> intros <;> (first | unfold casementlaw13_CheckPlays.j0 | unfold casementlaw13_CheckPlays.j1 | unfold casementlaw13_CheckPlays.l0) <;>
      (repeat' first
      | (with_reducible exact ih0 _ _ _ _ _ _ _)
      | (with_reducible exact ih1 _ _ _ _ _ _ _)
      | (with_reducible exact ih2 _ _ _ _ _ _ _ _)
      | (with_reducible exact casementlaw13_alive.mono _)
      | (with_reducible exact casementref01_SameInts.mono _ _ _)
      | (with_reducible exact casementref13_Check.mono _ _ _ _)
      | (with_reducible exact casementref13_Heights.mono _ _ _ _ _)
      | (with_reducible exact check_Check.mono _ _ _ _)
      | (with_reducible exact check_Heights.mono _ _ _ _ _)
      | (with_reducible exact LeO.refl _)
      | (with_reducible exact LeO.none _)
      | (with_reducible refine LeO.ite ?_ ?_)
      | (with_reducible refine LeO.bind ?_ (fun _ => ?_))
      | exact ih0 _ _ _ _ _ _ _
      | exact ih1 _ _ _ _ _ _ _
      | exact ih2 _ _ _ _ _ _ _ _
      | exact casementlaw13_alive.mono _
      | exact casementref01_SameInts.mono _ _ _
      | exact casementref13_Check.mono _ _ _ _
      | exact casementref13_Heights.mono _ _ _ _ _
      | exact check_Check.mono _ _ _ _
      | exact check_Heights.mono _ _ _ _ _
      | exact LeO.none _
      | refine LeO.ite ?_ ?_
      | refine LeO.bind ?_ (fun _ => ?_))
theorem casementlaw13_CheckPlays.mono : ∀ a0 a1 a2 k, LeO (casementlaw13_CheckPlays.f k a0 a1 a2) (casementlaw13_CheckPlays.f (k + 1) a0 a1 a2) := by
  intro a0 a1 a2 k; obtain ⟨ih0, ih1, ih2⟩ := casementlaw13_CheckPlays.mono_l k
  unfold casementlaw13_CheckPlays.f
  repeat' first
      | (with_reducible exact ih0 _ _ _ _ _ _ _)
      | (with_reducible exact ih1 _ _ _ _ _ _ _)
      | (with_reducible exact ih2 _ _ _ _ _ _ _ _)
      | (with_reducible exact casementlaw13_alive.mono _)
      | (with_reducible exact casementref01_SameInts.mono _ _ _)
      | (with_reducible exact casementref13_Check.mono _ _ _ _)
      | (with_reducible exact casementref13_Heights.mono _ _ _ _ _)
      | (with_reducible exact check_Check.mono _ _ _ _)
      | (with_reducible exact check_Heights.mono _ _ _ _ _)
      | (with_reducible exact LeO.refl _)
      | (with_reducible exact LeO.none _)
      | (with_reducible refine LeO.ite ?_ ?_)
      | (with_reducible refine LeO.bind ?_ (fun _ => ?_))
      | exact ih0 _ _ _ _ _ _ _
      | exact ih1 _ _ _ _ _ _ _
      | exact ih2 _ _ _ _ _ _ _ _
      | exact casementlaw13_alive.mono _
      | exact casementref01_SameInts.mono _ _ _
      | exact casementref13_Check.mono _ _ _ _
      | exact casementref13_Heights.mono _ _ _ _ _
      | exact check_Check.mono _ _ _ _
      | exact check_Heights.mono _ _ _ _ _
      | exact LeO.none _
      | refine LeO.ite ?_ ?_
      | refine LeO.bind ?_ (fun _ => ?_)
set_option maxHeartbeats 8000000 in
set_option maxRecDepth 100000 in
theorem casementlaw13_CheckPlays.calls (k : Nat) (a0_0 : Int) (A0_1 : Option Addr) (c0_1 : Nat) (l0_1 : List Int) (A0_2 : Option Addr) (c0_2 : Nat) (l0_2 : List (S42)) (r : Bool) (w : World) (hr0_1 : Kd.C (Kd.int .u8) w A0_1 l0_1.length l0_1) (hc0_1 : l0_1.length ≤ c0_1) (hr0_2 : Kd.C k42 w A0_2 l0_2.length l0_2) (hc0_2 : l0_2.length ≤ c0_2) (h : casementlaw13_CheckPlays.f k a0_0 l0_1 l0_2 = some r) (hr : r = true) :
    Calls Try.prog 3 #[.agg #[.int .i64 a0_0, .slice A0_1 l0_1.length c0_1, .slice A0_2 l0_2.length c0_2]] w fun e w' => e = .returned (.bool r) ∧ Below w.heap.size w w' := by
  have hu25 := Try.underlying25; have hu29 := Try.underlying29; have hu32 := Try.underlying32; have HRT := Aside0.mk hr; clear hr; have HR0_1 := Aside0.mk hr0_1; have HC0_1 := Aside0.mk hc0_1; clear hr0_1 hc0_1; have HR0_2 := Aside0.mk hr0_2; have HC0_2 := Aside0.mk hc0_2; clear hr0_2 hc0_2; have HB := Aside0.mk (Below.refl w.heap.size w); have H : ((casementlaw13_alive.f k).bind fun t530 => (if t530 = true then ((check_Check.f k a0_0 l0_1 l0_2).bind fun bt531 => ((casementref13_Check.f k a0_0 l0_1 l0_2).bind fun bt535 => (if bt531.1 = bt535.1 then (if bt531.2.1 = bt535.2.1 then (casementlaw13_CheckPlays.j0 k (bt531.2.2 != bt535.2.2) a0_0 l0_1 l0_2 bt531.1 bt531.2.1 bt531.2.2) else (casementlaw13_CheckPlays.j0 k true a0_0 l0_1 l0_2 bt531.1 bt531.2.1 bt531.2.2)) else (casementlaw13_CheckPlays.j0 k true a0_0 l0_1 l0_2 bt531.1 bt531.2.1 bt531.2.2)))) else (some false))) = some r := h; clear h; replace H := Option.bind_eq_some_iff.mp H; obtain ⟨t530, A20, H⟩ := H; replace H : (if t530 = true then ((check_Check.f k a0_0 l0_1 l0_2).bind fun bt531 => ((casementref13_Check.f k a0_0 l0_1 l0_2).bind fun bt535 => (if bt531.1 = bt535.1 then (if bt531.2.1 = bt535.2.1 then (casementlaw13_CheckPlays.j0 k (bt531.2.2 != bt535.2.2) a0_0 l0_1 l0_2 bt531.1 bt531.2.1 bt531.2.2) else (casementlaw13_CheckPlays.j0 k true a0_0 l0_1 l0_2 bt531.1 bt531.2.1 bt531.2.2)) else (casementlaw13_CheckPlays.j0 k true a0_0 l0_1 l0_2 bt531.1 bt531.2.1 bt531.2.2)))) else (some false)) = some r := H; have A2 := Aside0.mk A20; clear A20
  by_cases c3 : t530 = true
  · subst c3
    have H1 : ((check_Check.f k a0_0 l0_1 l0_2).bind fun bt531 => ((casementref13_Check.f k a0_0 l0_1 l0_2).bind fun bt535 => (if bt531.1 = bt535.1 then (if bt531.2.1 = bt535.2.1 then (casementlaw13_CheckPlays.j0 k (bt531.2.2 != bt535.2.2) a0_0 l0_1 l0_2 bt531.1 bt531.2.1 bt531.2.2) else (casementlaw13_CheckPlays.j0 k true a0_0 l0_1 l0_2 bt531.1 bt531.2.1 bt531.2.2)) else (casementlaw13_CheckPlays.j0 k true a0_0 l0_1 l0_2 bt531.1 bt531.2.1 bt531.2.2)))) = some r := by rw [if_pos rfl] at H; exact H
    clear H; have H := H1; clear H1; replace H := Option.bind_eq_some_iff.mp H; obtain ⟨⟨t531, t532, t533⟩, A40, H⟩ := H; replace H : ((casementref13_Check.f k a0_0 l0_1 l0_2).bind fun bt535 => (if t531 = bt535.1 then (if t532 = bt535.2.1 then (casementlaw13_CheckPlays.j0 k (t533 != bt535.2.2) a0_0 l0_1 l0_2 t531 t532 t533) else (casementlaw13_CheckPlays.j0 k true a0_0 l0_1 l0_2 t531 t532 t533)) else (casementlaw13_CheckPlays.j0 k true a0_0 l0_1 l0_2 t531 t532 t533))) = some r := H; have A4 := Aside0.mk A40; clear A40; replace H := Option.bind_eq_some_iff.mp H; obtain ⟨⟨t535, t536, t537⟩, A50, H⟩ := H; replace H : (if t531 = t535 then (if t532 = t536 then (casementlaw13_CheckPlays.j0 k (t533 != t537) a0_0 l0_1 l0_2 t531 t532 t533) else (casementlaw13_CheckPlays.j0 k true a0_0 l0_1 l0_2 t531 t532 t533)) else (casementlaw13_CheckPlays.j0 k true a0_0 l0_1 l0_2 t531 t532 t533)) = some r := H; have A5 := Aside0.mk A50; clear A50; have HC6 := Aside0.mk H; clear H
    go_enter Try.func3, Try.ntmps3
    go_upto_region 5 with (first | ((with_reducible refine gate_dst (N := 1) rfl ?_); (try (refine gate_guard (by rfl) ?_; dsimp only)); refine box_event ?hg (N := 1) ?hd (cs := #[.int .i64 a0_0, .slice A0_1 l0_1.length c0_1, .slice A0_2 l0_2.length c0_2]) (t := 25) ?hr ?_; (case hd => rfl); (case hg => rfl); (case hr => first | (go_simp; done) | (go_simp; rfl)); intro gb529 hg w7 hbox hb; have n0_ := Aside0.mk (below_step (bn0 HB) hb); have BK529 := Aside0.mk (hbox); have GW529 := Aside0.mk ((by rw [hg]; exact (below_size (bn0 HB)) : w.heap.size ≤ gb529)); have GE529 := Aside0.mk ((by rw [hg]; exact (below_size (bn0 HB)) : w.heap.size ≤ gb529)); replace HB := n0_; clear n0_; clear hb hbox hg) | ((with_reducible refine gate_callee (f := 8) rfl ?_); refine goesL_ (some 9) rfl rfl Try.func8 (by kernel_rfl) rfl #[] rfl (by (try simp only [List.map_toArray, List.map_cons, List.map_nil]); first | done | rfl | (simp only [List.length_drop, List.length_take]; rfl)) ?_; (with_reducible refine (casementlaw13_alive.calls k  true _ A2.out (by first | rfl | assumption)).mono ?_); rintro e w8 ⟨rfl, hb⟩; refine ⟨_, rfl, ?_⟩; replace BK529 := Aside0.mk (blk_below (g := gb529) (o := .cells #[.int .i64 a0_0, .slice A0_1 l0_1.length c0_1, .slice A0_2 l0_2.length c0_2] 25 (0, 0)) (bkn BK529) hb); replace HB := Aside0.mk (below_step (bn1 HB GE529) hb); (try clear hb); obtain ⟨hcz9_0, hcz9_1, hcz9_2⟩ := cells3 BK529.out; obtain ⟨hfz9_0, hfz9_1, hfz9_2⟩ := froz3 BK529.out) | ((with_reducible refine gate_callee (f := 9) rfl ?_); refine goesL_ (some 12) rfl rfl Try.func9 (by kernel_rfl) rfl #[.agg #[.int .i64 a0_0, .slice A0_1 l0_1.length c0_1, .slice A0_2 l0_2.length c0_2]] rfl (by (try simp only [List.map_toArray, List.map_cons, List.map_nil]); first | done | rfl | (simp only [List.length_drop, List.length_take]; rfl)) ?_; (with_reducible refine (check_Check.calls k a0_0 _ _ l0_1 _ _ l0_2 t531 t532 t533 _ ?side1 ?side2 ?side3 ?side4 A4.out).mono ?_); (case side1 => repeat (first | exact (Kd.C_below HR0_1.out HB.out) | (with_reducible refine Kd.C_alloc ?_ _) | (with_reducible refine Kd.C_drewN ?_ _) | (with_reducible refine Kd.C_drew ?_))); (case side2 => exact HC0_1.out); (case side3 => repeat (first | exact (Kd.C_below HR0_2.out HB.out) | (with_reducible refine Kd.C_alloc ?_ _) | (with_reducible refine Kd.C_drewN ?_ _) | (with_reducible refine Kd.C_drew ?_))); (case side4 => exact HC0_2.out); rintro e w10 ⟨rfl, hb⟩; refine ⟨_, rfl, ?_⟩; replace BK529 := Aside0.mk (blk_below (g := gb529) (o := .cells #[.int .i64 a0_0, .slice A0_1 l0_1.length c0_1, .slice A0_2 l0_2.length c0_2] 25 (0, 0)) (bkn BK529) hb); replace HB := Aside0.mk (below_step (bn1 HB GE529) hb); (try clear hb)) | ((with_reducible refine gate_dst (N := 3) rfl ?_); (try (refine gate_guard (by rfl) ?_; dsimp only)); refine box_event ?hg (N := 3) ?hd (cs := #[.int .i64 0, .int .i64 0, .int .i64 0]) (t := 29) ?hr ?_; (case hd => rfl); (case hg => rfl); (case hr => first | (go_simp; done) | (go_simp; rfl)); intro gb534 hg w11 hbox hb; have n0_ := Aside0.mk (blk_below (g := gb529) (o := .cells #[.int .i64 a0_0, .slice A0_1 l0_1.length c0_1, .slice A0_2 l0_2.length c0_2] 25 (0, 0)) (bkn BK529) hb); have n1_ := Aside0.mk (below_step (bn1 HB GE529) hb); have BK534 := Aside0.mk (hbox); have GW534 := Aside0.mk ((by rw [hg]; exact (below_size (bn1 HB GE529)) : w.heap.size ≤ gb534)); have GE534 := Aside0.mk ((by rw [hg]; exact (below_size (bn1 HB GE529)) : w.heap.size ≤ gb534)); have NB529_534 := Aside0.mk ((by rw [hg]; exact Nat.ne_of_lt (blk_lt (g := gb529) (o := .cells #[.int .i64 a0_0, .slice A0_1 l0_1.length c0_1, .slice A0_2 l0_2.length c0_2] 25 (0, 0)) (bkn BK529)) : gb529 ≠ gb534)); have NB534_529 := Aside0.mk ((by rw [hg]; exact Nat.ne_of_gt (blk_lt (g := gb529) (o := .cells #[.int .i64 a0_0, .slice A0_1 l0_1.length c0_1, .slice A0_2 l0_2.length c0_2] 25 (0, 0)) (bkn BK529)) : gb534 ≠ gb529)); replace BK529 := n0_; replace HB := n1_; clear n0_ n1_; clear hb hbox hg; have hnb12 := NB534_529.out; have hnc12 := NB529_534.out; obtain ⟨hcz13_0, hcz13_1, hcz13_2⟩ := cells3 BK534.out; obtain ⟨hfz13_0, hfz13_1, hfz13_2⟩ := froz3 BK534.out; obtain ⟨hcz14_0, hcz14_1, hcz14_2⟩ := cells3 BK529.out; obtain ⟨hfz14_0, hfz14_1, hfz14_2⟩ := froz3 BK529.out) | ((with_reducible refine gate_callee (f := 10) rfl ?_); refine goesL_ (some 14) rfl rfl Try.func10 (by kernel_rfl) rfl #[.agg #[.int .i64 a0_0, .slice A0_1 l0_1.length c0_1, .slice A0_2 l0_2.length c0_2]] rfl (by (try simp only [List.map_toArray, List.map_cons, List.map_nil]); first | done | rfl | (simp only [List.length_drop, List.length_take]; rfl)) ?_; (with_reducible refine (casementref13_Check.calls k a0_0 _ _ l0_1 _ _ l0_2 t535 t536 t537 _ ?side1 ?side2 ?side3 ?side4 A5.out).mono ?_); (case side1 => exact Kd.C_below HR0_1.out (bn2 HB GE529 GE534)); (case side2 => exact HC0_1.out); (case side3 => exact Kd.C_below HR0_2.out (bn2 HB GE529 GE534)); (case side4 => exact HC0_2.out); rintro e w15 ⟨rfl, hb⟩; refine ⟨_, rfl, ?_⟩; replace BK529 := Aside0.mk (blk_below (g := gb529) (o := .cells #[.int .i64 a0_0, .slice A0_1 l0_1.length c0_1, .slice A0_2 l0_2.length c0_2] 25 (0, 0)) (by (with_reducible repeat (first | refine blk_drewN ?_ _ | refine blk_drew ?_ | refine blk_alloc ?_ _)); refine blk_far ?_ NB529_534.out _; (with_reducible repeat (first | refine blk_drewN ?_ _ | refine blk_drew ?_ | refine blk_alloc ?_ _)); refine blk_far ?_ NB529_534.out _; (with_reducible repeat (first | refine blk_drewN ?_ _ | refine blk_drew ?_ | refine blk_alloc ?_ _)); refine blk_far ?_ NB529_534.out _; (with_reducible repeat (first | refine blk_drewN ?_ _ | refine blk_drew ?_ | refine blk_alloc ?_ _)); exact BK529.out) hb); replace BK534 := Aside0.mk (blk_below (g := gb534) (o := .cells #[.int .i64 t531, .int .i64 t532, .int .i64 t533] 29 (0, 0)) (by (with_reducible repeat (first | refine blk_drewN ?_ _ | refine blk_drew ?_ | refine blk_alloc ?_ _)); refine blk_put (cs := #[.int .i64 t531, .int .i64 t532, .int .i64 0]) ?_ 2 _ rfl; (with_reducible repeat (first | refine blk_drewN ?_ _ | refine blk_drew ?_ | refine blk_alloc ?_ _)); refine blk_put (cs := #[.int .i64 t531, .int .i64 0, .int .i64 0]) ?_ 1 _ rfl; (with_reducible repeat (first | refine blk_drewN ?_ _ | refine blk_drew ?_ | refine blk_alloc ?_ _)); refine blk_put (cs := #[.int .i64 0, .int .i64 0, .int .i64 0]) ?_ 0 _ rfl; (with_reducible repeat (first | refine blk_drewN ?_ _ | refine blk_drew ?_ | refine blk_alloc ?_ _)); exact BK534.out) hb); replace HB := Aside0.mk (below_step (bn2 HB GE529 GE534) hb); (try clear hb)) | ((with_reducible refine gate_dst (N := 4) rfl ?_); (try (refine gate_guard (by rfl) ?_; dsimp only)); refine box_event ?hg (N := 4) ?hd (cs := #[.int .i64 0, .int .i64 0, .int .i64 0]) (t := 32) ?hr ?_; (case hd => rfl); (case hg => rfl); (case hr => first | (go_simp; done) | (go_simp; rfl)); intro gb538 hg w16 hbox hb; have n0_ := Aside0.mk (blk_below (g := gb529) (o := .cells #[.int .i64 a0_0, .slice A0_1 l0_1.length c0_1, .slice A0_2 l0_2.length c0_2] 25 (0, 0)) (bkn BK529) hb); have n1_ := Aside0.mk (blk_below (g := gb534) (o := .cells #[.int .i64 t531, .int .i64 t532, .int .i64 t533] 29 (0, 0)) (bkn BK534) hb); have n2_ := Aside0.mk (below_step (bn2 HB GE529 GE534) hb); have BK538 := Aside0.mk (hbox); have GW538 := Aside0.mk ((by rw [hg]; exact (below_size (bn2 HB GE529 GE534)) : w.heap.size ≤ gb538)); have GE538 := Aside0.mk ((by rw [hg]; exact (below_size (bn2 HB GE529 GE534)) : w.heap.size ≤ gb538)); have NB529_538 := Aside0.mk ((by rw [hg]; exact Nat.ne_of_lt (blk_lt (g := gb529) (o := .cells #[.int .i64 a0_0, .slice A0_1 l0_1.length c0_1, .slice A0_2 l0_2.length c0_2] 25 (0, 0)) (bkn BK529)) : gb529 ≠ gb538)); have NB538_529 := Aside0.mk ((by rw [hg]; exact Nat.ne_of_gt (blk_lt (g := gb529) (o := .cells #[.int .i64 a0_0, .slice A0_1 l0_1.length c0_1, .slice A0_2 l0_2.length c0_2] 25 (0, 0)) (bkn BK529)) : gb538 ≠ gb529)); have NB534_538 := Aside0.mk ((by rw [hg]; exact Nat.ne_of_lt (blk_lt (g := gb534) (o := .cells #[.int .i64 t531, .int .i64 t532, .int .i64 t533] 29 (0, 0)) (bkn BK534)) : gb534 ≠ gb538)); have NB538_534 := Aside0.mk ((by rw [hg]; exact Nat.ne_of_gt (blk_lt (g := gb534) (o := .cells #[.int .i64 t531, .int .i64 t532, .int .i64 t533] 29 (0, 0)) (bkn BK534)) : gb538 ≠ gb534)); replace BK529 := n0_; replace BK534 := n1_; replace HB := n2_; clear n0_ n1_ n2_; clear hb hbox hg; have hnb17 := NB538_529.out; have hnc17 := NB529_538.out; have hnb18 := NB538_534.out; have hnc18 := NB534_538.out; obtain ⟨hcz19_0, hcz19_1, hcz19_2⟩ := cells3 BK538.out; obtain ⟨hfz19_0, hfz19_1, hfz19_2⟩ := froz3 BK538.out))
    (try simp only [Act.put, List.setIfInBounds_toArray, List.set_cons_zero, List.set_cons_succ])
    go_cut [33] (fun v33 wc => ∃ (kq : Nat) (x33_5 : Bool), v33 = .bool x33_5 ∧ Aside0 (casementlaw13_CheckPlays.j0 kq x33_5 a0_0 l0_1 l0_2 t531 t532 t533 = some r) ∧ Aside0 (kq ≤ k) ∧ Aside0 (wc.heap[gb529]? = some (.cells #[.int .i64 a0_0, (.slice A0_1 l0_1.length c0_1), (.slice A0_2 l0_2.length c0_2)] 25 (0, 0))) ∧ Aside0 (wc.heap[gb534]? = some (.cells #[.int .i64 t531, .int .i64 t532, .int .i64 t533] 29 (0, 0))) ∧ Aside0 (wc.heap[gb538]? = some (.cells #[.int .i64 t535, .int .i64 t536, .int .i64 t537] 32 (0, 0))) ∧ Aside0 (Below w.heap.size w wc))
    case first =>
      have H := HC6.out; clear HC6
      by_cases c20 : t531 = t535
      · rw [if_pos c20] at H
        have c20b0 : (t531 == t535) = true := beq_iff_eq.mpr c20; have c20b1 : (t531 != t535) = false := bne_eq_false_iff_eq.mpr c20; clear c20
        (first | rw [c20b0] | (simp only [i64_w, i32_w]; rw [c20b0]) | skip)
        by_cases c21 : t532 = t536
        · rw [if_pos c21] at H
          have c21b0 : (t532 == t536) = true := beq_iff_eq.mpr c21; have c21b1 : (t532 != t536) = false := bne_eq_false_iff_eq.mpr c21; clear c21; have H' := Aside0.mk H; clear H; have hnb22 := NB534_529.out; have hnc22 := NB529_534.out; have hnb23 := NB534_538.out; have hnc23 := NB538_534.out; obtain ⟨hcz24_0, hcz24_1, hcz24_2⟩ := cells3 BK534.out; obtain ⟨hfz24_0, hfz24_1, hfz24_2⟩ := froz3 BK534.out; have hnb25 := NB538_529.out; have hnc25 := NB529_538.out; obtain ⟨hcz26_0, hcz26_1, hcz26_2⟩ := cells3 BK538.out; obtain ⟨hfz26_0, hfz26_1, hfz26_2⟩ := froz3 BK538.out
          go_wp2
          go_meet
          case rel => exact ⟨_, ((t533 != t537)), (by first | rfl | (simp; done) | (simp [*]; done)), H', ⟨by first | omega | exact Nat.le_refl _⟩, ⟨by (with_reducible repeat (first | refine blk_drewN ?_ _ | refine blk_drew ?_ | refine blk_alloc ?_ _)); refine blk_far ?_ NB529_538.out _; (with_reducible repeat (first | refine blk_drewN ?_ _ | refine blk_drew ?_ | refine blk_alloc ?_ _)); refine blk_far ?_ NB529_538.out _; (with_reducible repeat (first | refine blk_drewN ?_ _ | refine blk_drew ?_ | refine blk_alloc ?_ _)); refine blk_far ?_ NB529_538.out _; (with_reducible repeat (first | refine blk_drewN ?_ _ | refine blk_drew ?_ | refine blk_alloc ?_ _)); exact BK529.out⟩, ⟨by (with_reducible repeat (first | refine blk_drewN ?_ _ | refine blk_drew ?_ | refine blk_alloc ?_ _)); refine blk_far ?_ NB534_538.out _; (with_reducible repeat (first | refine blk_drewN ?_ _ | refine blk_drew ?_ | refine blk_alloc ?_ _)); refine blk_far ?_ NB534_538.out _; (with_reducible repeat (first | refine blk_drewN ?_ _ | refine blk_drew ?_ | refine blk_alloc ?_ _)); refine blk_far ?_ NB534_538.out _; (with_reducible repeat (first | refine blk_drewN ?_ _ | refine blk_drew ?_ | refine blk_alloc ?_ _)); exact BK534.out⟩, ⟨by (with_reducible repeat (first | refine blk_drewN ?_ _ | refine blk_drew ?_ | refine blk_alloc ?_ _)); refine blk_put (cs := #[.int .i64 t535, .int .i64 t536, .int .i64 0]) ?_ 2 _ rfl; (with_reducible repeat (first | refine blk_drewN ?_ _ | refine blk_drew ?_ | refine blk_alloc ?_ _)); refine blk_put (cs := #[.int .i64 t535, .int .i64 0, .int .i64 0]) ?_ 1 _ rfl; (with_reducible repeat (first | refine blk_drewN ?_ _ | refine blk_drew ?_ | refine blk_alloc ?_ _)); refine blk_put (cs := #[.int .i64 0, .int .i64 0, .int .i64 0]) ?_ 0 _ rfl; (with_reducible repeat (first | refine blk_drewN ?_ _ | refine blk_drew ?_ | refine blk_alloc ?_ _)); exact BK538.out⟩, ⟨bn3 HB GE529 GE534 GE538⟩⟩
        · rw [if_neg c21] at H
          have c21b0 : (t532 == t536) = false := beq_eq_false_iff_ne.mpr c21; have c21b1 : (t532 != t536) = true := bne_iff_ne.mpr c21; have H' := Aside0.mk H; clear H; have hnb27 := NB534_529.out; have hnc27 := NB529_534.out; have hnb28 := NB534_538.out; have hnc28 := NB538_534.out; obtain ⟨hcz29_0, hcz29_1, hcz29_2⟩ := cells3 BK534.out; obtain ⟨hfz29_0, hfz29_1, hfz29_2⟩ := froz3 BK534.out; have hnb30 := NB538_529.out; have hnc30 := NB529_538.out; obtain ⟨hcz31_0, hcz31_1, hcz31_2⟩ := cells3 BK538.out; obtain ⟨hfz31_0, hfz31_1, hfz31_2⟩ := froz3 BK538.out
          go_wp2
          go_meet
          case rel => exact ⟨_, (true), (by first | rfl | (simp; done) | (simp [*]; done)), H', ⟨by first | omega | exact Nat.le_refl _⟩, ⟨by (with_reducible repeat (first | refine blk_drewN ?_ _ | refine blk_drew ?_ | refine blk_alloc ?_ _)); refine blk_far ?_ NB529_538.out _; (with_reducible repeat (first | refine blk_drewN ?_ _ | refine blk_drew ?_ | refine blk_alloc ?_ _)); refine blk_far ?_ NB529_538.out _; (with_reducible repeat (first | refine blk_drewN ?_ _ | refine blk_drew ?_ | refine blk_alloc ?_ _)); refine blk_far ?_ NB529_538.out _; (with_reducible repeat (first | refine blk_drewN ?_ _ | refine blk_drew ?_ | refine blk_alloc ?_ _)); exact BK529.out⟩, ⟨by (with_reducible repeat (first | refine blk_drewN ?_ _ | refine blk_drew ?_ | refine blk_alloc ?_ _)); refine blk_far ?_ NB534_538.out _; (with_reducible repeat (first | refine blk_drewN ?_ _ | refine blk_drew ?_ | refine blk_alloc ?_ _)); refine blk_far ?_ NB534_538.out _; (with_reducible repeat (first | refine blk_drewN ?_ _ | refine blk_drew ?_ | refine blk_alloc ?_ _)); refine blk_far ?_ NB534_538.out _; (with_reducible repeat (first | refine blk_drewN ?_ _ | refine blk_drew ?_ | refine blk_alloc ?_ _)); exact BK534.out⟩, ⟨by (with_reducible repeat (first | refine blk_drewN ?_ _ | refine blk_drew ?_ | refine blk_alloc ?_ _)); refine blk_put (cs := #[.int .i64 t535, .int .i64 t536, .int .i64 0]) ?_ 2 _ rfl; (with_reducible repeat (first | refine blk_drewN ?_ _ | refine blk_drew ?_ | refine blk_alloc ?_ _)); refine blk_put (cs := #[.int .i64 t535, .int .i64 0, .int .i64 0]) ?_ 1 _ rfl; (with_reducible repeat (first | refine blk_drewN ?_ _ | refine blk_drew ?_ | refine blk_alloc ?_ _)); refine blk_put (cs := #[.int .i64 0, .int .i64 0, .int .i64 0]) ?_ 0 _ rfl; (with_reducible repeat (first | refine blk_drewN ?_ _ | refine blk_drew ?_ | refine blk_alloc ?_ _)); exact BK538.out⟩, ⟨bn3 HB GE529 GE534 GE538⟩⟩
      · rw [if_neg c20] at H
        have c20b0 : (t531 == t535) = false := beq_eq_false_iff_ne.mpr c20; have c20b1 : (t531 != t535) = true := bne_iff_ne.mpr c20
        (first | rw [c20b0] | (simp only [i64_w, i32_w]; rw [c20b0]) | skip)
        have H' := Aside0.mk H; clear H; have hnb32 := NB534_529.out; have hnc32 := NB529_534.out; have hnb33 := NB534_538.out; have hnc33 := NB538_534.out; obtain ⟨hcz34_0, hcz34_1, hcz34_2⟩ := cells3 BK534.out; obtain ⟨hfz34_0, hfz34_1, hfz34_2⟩ := froz3 BK534.out; have hnb35 := NB538_529.out; have hnc35 := NB529_538.out; obtain ⟨hcz36_0, hcz36_1, hcz36_2⟩ := cells3 BK538.out; obtain ⟨hfz36_0, hfz36_1, hfz36_2⟩ := froz3 BK538.out
        go_wp2
        go_meet
        case rel => exact ⟨_, (true), (by first | rfl | (simp; done) | (simp [*]; done)), H', ⟨by first | omega | exact Nat.le_refl _⟩, ⟨by (with_reducible repeat (first | refine blk_drewN ?_ _ | refine blk_drew ?_ | refine blk_alloc ?_ _)); refine blk_far ?_ NB529_538.out _; (with_reducible repeat (first | refine blk_drewN ?_ _ | refine blk_drew ?_ | refine blk_alloc ?_ _)); refine blk_far ?_ NB529_538.out _; (with_reducible repeat (first | refine blk_drewN ?_ _ | refine blk_drew ?_ | refine blk_alloc ?_ _)); refine blk_far ?_ NB529_538.out _; (with_reducible repeat (first | refine blk_drewN ?_ _ | refine blk_drew ?_ | refine blk_alloc ?_ _)); exact BK529.out⟩, ⟨by (with_reducible repeat (first | refine blk_drewN ?_ _ | refine blk_drew ?_ | refine blk_alloc ?_ _)); refine blk_far ?_ NB534_538.out _; (with_reducible repeat (first | refine blk_drewN ?_ _ | refine blk_drew ?_ | refine blk_alloc ?_ _)); refine blk_far ?_ NB534_538.out _; (with_reducible repeat (first | refine blk_drewN ?_ _ | refine blk_drew ?_ | refine blk_alloc ?_ _)); refine blk_far ?_ NB534_538.out _; (with_reducible repeat (first | refine blk_drewN ?_ _ | refine blk_drew ?_ | refine blk_alloc ?_ _)); exact BK534.out⟩, ⟨by (with_reducible repeat (first | refine blk_drewN ?_ _ | refine blk_drew ?_ | refine blk_alloc ?_ _)); refine blk_put (cs := #[.int .i64 t535, .int .i64 t536, .int .i64 0]) ?_ 2 _ rfl; (with_reducible repeat (first | refine blk_drewN ?_ _ | refine blk_drew ?_ | refine blk_alloc ?_ _)); refine blk_put (cs := #[.int .i64 t535, .int .i64 0, .int .i64 0]) ?_ 1 _ rfl; (with_reducible repeat (first | refine blk_drewN ?_ _ | refine blk_drew ?_ | refine blk_alloc ?_ _)); refine blk_put (cs := #[.int .i64 0, .int .i64 0, .int .i64 0]) ?_ 0 _ rfl; (with_reducible repeat (first | refine blk_drewN ?_ _ | refine blk_drew ?_ | refine blk_alloc ?_ _)); exact BK538.out⟩, ⟨bn3 HB GE529 GE534 GE538⟩⟩
    case rest =>
      clear HC6
      try clear c1
      try clear c2
      try clear p2
      try clear c3
      try clear c8
      try clear c9
      try clear c10
      try clear c12
      try clear c17
      try clear c18
      try clear c20
      try clear c20b0
      try clear c20b1
      try clear c21
      try clear c21b0
      try clear c21b1
      try clear c22
      try clear c23
      try clear c25
      try clear c27
      try clear c28
      try clear c30
      try clear c32
      try clear c33
      try clear c35
      try clear hcz13_0
      try clear hcz13_1
      try clear hcz13_2
      try clear hcz14_0
      try clear hcz14_1
      try clear hcz14_2
      try clear hcz19_0
      try clear hcz19_1
      try clear hcz19_2
      try clear hcz24_0
      try clear hcz24_1
      try clear hcz24_2
      try clear hcz26_0
      try clear hcz26_1
      try clear hcz26_2
      try clear hcz29_0
      try clear hcz29_1
      try clear hcz29_2
      try clear hcz31_0
      try clear hcz31_1
      try clear hcz31_2
      try clear hcz34_0
      try clear hcz34_1
      try clear hcz34_2
      try clear hcz36_0
      try clear hcz36_1
      try clear hcz36_2
      try clear hcz9_0
      try clear hcz9_1
      try clear hcz9_2
      try clear hfz13_0
      try clear hfz13_1
      try clear hfz13_2
      try clear hfz14_0
      try clear hfz14_1
      try clear hfz14_2
      try clear hfz19_0
      try clear hfz19_1
      try clear hfz19_2
      try clear hfz24_0
      try clear hfz24_1
      try clear hfz24_2
      try clear hfz26_0
      try clear hfz26_1
      try clear hfz26_2
      try clear hfz29_0
      try clear hfz29_1
      try clear hfz29_2
      try clear hfz31_0
      try clear hfz31_1
      try clear hfz31_2
      try clear hfz34_0
      try clear hfz34_1
      try clear hfz34_2
      try clear hfz36_0
      try clear hfz36_1
      try clear hfz36_2
      try clear hfz9_0
      try clear hfz9_1
      try clear hfz9_2
      obtain ⟨kq, x33_5, rfl, HA, HJ5, BK529, BK534, BK538, HB⟩ := hcut
      cases kq with
      | zero => exact absurd HA.out (by simp [casementlaw13_CheckPlays.j0])
      | succ kj5 => ?_
      have H := HA.out; clear HA; simp only [casementlaw13_CheckPlays.j0] at H
      by_cases c37 : x33_5 = true
      · subst c37
        have H1 : (some false) = some r := by rw [if_pos rfl] at H; exact H
        clear H; have H := H1; clear H1
        exact absurd ((Option.some.inj H).trans HRT.out) (by decide)
      · replace c37 := Bool.eq_false_iff.mpr c37
        subst c37
        have H1 : ((check_Heights.f kj5 a0_0 l0_1 l0_2 (-1)).bind fun t539 => (if (t539.length : Int) = 0 then ((check_Heights.f kj5 a0_0 l0_1 l0_2 (l0_2.length : Int)).bind fun t542 => (casementlaw13_CheckPlays.j1 kj5 ((t542.length : Int) != 0) a0_0 l0_1 l0_2 t531 t532 t533)) else (casementlaw13_CheckPlays.j1 kj5 true a0_0 l0_1 l0_2 t531 t532 t533))) = some r := by rw [if_neg (show ¬ (false = true) by decide)] at H; exact H
        clear H; have H := H1; clear H1; have HC38 := Aside0.mk H; clear H
        go_upto_region 7 with (fail)
        go_cut [46] (fun v46 wc => ∃ (kq : Nat) (x46_37 : Bool), v46 = .bool x46_37 ∧ Aside0 (casementlaw13_CheckPlays.j1 kq x46_37 a0_0 l0_1 l0_2 t531 t532 t533 = some r) ∧ Aside0 (kq ≤ kj5) ∧ Aside0 (wc.heap[gb529]? = some (.cells #[.int .i64 a0_0, (.slice A0_1 l0_1.length c0_1), (.slice A0_2 l0_2.length c0_2)] 25 (0, 0))) ∧ Aside0 (wc.heap[gb534]? = some (.cells #[.int .i64 t531, .int .i64 t532, .int .i64 t533] 29 (0, 0))) ∧ Aside0 (wc.heap[gb538]? = some (.cells #[.int .i64 t535, .int .i64 t536, .int .i64 t537] 32 (0, 0))) ∧ Aside0 (Below w.heap.size w wc))
        case first =>
          have H := HC38.out; clear HC38; replace H := Option.bind_eq_some_iff.mp H; obtain ⟨t539, A390, H⟩ := H; replace H : (if (t539.length : Int) = 0 then ((check_Heights.f kj5 a0_0 l0_1 l0_2 (l0_2.length : Int)).bind fun t542 => (casementlaw13_CheckPlays.j1 kj5 ((t542.length : Int) != 0) a0_0 l0_1 l0_2 t531 t532 t533)) else (casementlaw13_CheckPlays.j1 kj5 true a0_0 l0_1 l0_2 t531 t532 t533)) = some r := H; have A39 := Aside0.mk A390; clear A390
          by_cases c40 : (t539.length : Int) = 0
          · rw [if_pos c40] at H
            have c40b0 : ((t539.length : Int) == 0) = true := beq_iff_eq.mpr c40; have c40b1 : ((t539.length : Int) != 0) = false := bne_eq_false_iff_eq.mpr c40; clear c40
            (first | rw [c40b0] | (simp only [i64_w, i32_w]; rw [c40b0]) | skip)
            replace H := Option.bind_eq_some_iff.mp H; obtain ⟨t542, A410, H⟩ := H; replace H : (casementlaw13_CheckPlays.j1 kj5 ((t542.length : Int) != 0) a0_0 l0_1 l0_2 t531 t532 t533) = some r := H; have A41 := Aside0.mk A410; clear A410; have H' := Aside0.mk H; clear H; have hnb42 := NB529_534.out; have hnc42 := NB534_529.out; have hnb43 := NB529_538.out; have hnc43 := NB538_529.out; obtain ⟨hcz44_0, hcz44_1, hcz44_2⟩ := cells3 BK529.out; obtain ⟨hfz44_0, hfz44_1, hfz44_2⟩ := froz3 BK529.out
            go_wp2_with (first | ((with_reducible refine gate_callee (f := 11) rfl ?_); refine goesL_ (some 35) rfl rfl Try.func11 (by kernel_rfl) rfl #[.agg #[.int .i64 a0_0, .slice A0_1 l0_1.length c0_1, .slice A0_2 l0_2.length c0_2], .int .i64 (-1)] rfl (by (try simp only [List.map_toArray, List.map_cons, List.map_nil]); first | done | rfl | (simp only [List.length_drop, List.length_take]; rfl)) ?_; (with_reducible refine (check_Heights.calls kj5 a0_0 _ _ l0_1 _ _ l0_2 (-1) t539 _ ?side1 ?side2 ?side3 ?side4 A39.out).mono ?_); (case side1 => repeat (first | exact (Kd.C_below HR0_1.out HB.out) | (with_reducible refine Kd.C_alloc ?_ _) | (with_reducible refine Kd.C_drewN ?_ _) | (with_reducible refine Kd.C_drew ?_))); (case side2 => exact HC0_1.out); (case side3 => repeat (first | exact (Kd.C_below HR0_2.out HB.out) | (with_reducible refine Kd.C_alloc ?_ _) | (with_reducible refine Kd.C_drewN ?_ _) | (with_reducible refine Kd.C_drew ?_))); (case side4 => exact HC0_2.out); rintro e w45 ⟨v540, rfl, ho0, hb⟩; refine ⟨_, rfl, ?_⟩; have HO541 := Aside0.mk (Kd.R_lower ho0 (below_size (bn3 HB GE529 GE534 GE538))); replace BK529 := Aside0.mk (blk_below (g := gb529) (o := .cells #[.int .i64 a0_0, .slice A0_1 l0_1.length c0_1, .slice A0_2 l0_2.length c0_2] 25 (0, 0)) (bkn BK529) hb); replace BK534 := Aside0.mk (blk_below (g := gb534) (o := .cells #[.int .i64 t531, .int .i64 t532, .int .i64 t533] 29 (0, 0)) (bkn BK534) hb); replace BK538 := Aside0.mk (blk_below (g := gb538) (o := .cells #[.int .i64 t535, .int .i64 t536, .int .i64 t537] 32 (0, 0)) (bkn BK538) hb); replace HB := Aside0.mk (below_step (bn3 HB GE529 GE534 GE538) hb); (try clear hb); (try clear ho0); obtain ⟨Ao46, co46, eo46⟩ := Kd.R_slice HO541.out; subst eo46; obtain ⟨hcz47_0, hcz47_1, hcz47_2⟩ := cells3 BK529.out; obtain ⟨hfz47_0, hfz47_1, hfz47_2⟩ := froz3 BK529.out) | (go_at_call 11; (with_reducible refine (check_Heights.calls kj5 a0_0 _ _ l0_1 _ _ l0_2 (l0_2.length : Int) t542 _ ?side1 ?side2 ?side3 ?side4 A41.out).mono ?_); (case side1 => repeat (first | exact (Kd.C_below HR0_1.out HB.out) | (with_reducible refine Kd.C_alloc ?_ _) | (with_reducible refine Kd.C_drewN ?_ _) | (with_reducible refine Kd.C_drew ?_))); (case side2 => exact HC0_1.out); (case side3 => repeat (first | exact (Kd.C_below HR0_2.out HB.out) | (with_reducible refine Kd.C_alloc ?_ _) | (with_reducible refine Kd.C_drewN ?_ _) | (with_reducible refine Kd.C_drew ?_))); (case side4 => exact HC0_2.out); rintro e w48 ⟨v543, rfl, ho0, hb⟩; have n0_ := Aside0.mk (Kd.R_elder' (rnR HO541) (Kd.R_base ho0) hb); have HO544 := Aside0.mk (Kd.R_lower (Kd.R_new' ho0 (Kd.R_lt (rnR HO541))) (below_size (bn3 HB GE529 GE534 GE538))); replace BK529 := Aside0.mk (blk_below (g := gb529) (o := .cells #[.int .i64 a0_0, .slice A0_1 l0_1.length c0_1, .slice A0_2 l0_2.length c0_2] 25 (0, 0)) (bkn BK529) hb); replace BK534 := Aside0.mk (blk_below (g := gb534) (o := .cells #[.int .i64 t531, .int .i64 t532, .int .i64 t533] 29 (0, 0)) (bkn BK534) hb); replace BK538 := Aside0.mk (blk_below (g := gb538) (o := .cells #[.int .i64 t535, .int .i64 t536, .int .i64 t537] 32 (0, 0)) (bkn BK538) hb); replace HB := Aside0.mk (below_step (bn3 HB GE529 GE534 GE538) hb); replace HO541 := n0_; clear n0_; (try clear hb); (try clear ho0); obtain ⟨Ao49, co49, eo49⟩ := Kd.R_slice HO544.out; subst eo49))
            go_meet
            case rel => exact ⟨_, (((t542.length : Int) != 0)), (by first | rfl | (simp; done) | (simp [*]; done)), H', ⟨by have := HJ5.out; first | omega | exact Nat.le_refl _⟩, ⟨by (with_reducible repeat (first | refine blk_drewN ?_ _ | refine blk_drew ?_ | refine blk_alloc ?_ _)); exact BK529.out⟩, ⟨by (with_reducible repeat (first | refine blk_drewN ?_ _ | refine blk_drew ?_ | refine blk_alloc ?_ _)); exact BK534.out⟩, ⟨by (with_reducible repeat (first | refine blk_drewN ?_ _ | refine blk_drew ?_ | refine blk_alloc ?_ _)); exact BK538.out⟩, ⟨bn3 HB GE529 GE534 GE538⟩⟩
          · rw [if_neg c40] at H
            have c40b0 : ((t539.length : Int) == 0) = false := beq_eq_false_iff_ne.mpr c40; have c40b1 : ((t539.length : Int) != 0) = true := bne_iff_ne.mpr c40
            have c40b2 : ¬ (t539 = []) := fun h_ => c40 (by rw [h_]; rfl)
            (first | rw [c40b0] | (simp only [i64_w, i32_w]; rw [c40b0]) | skip)
            have H' := Aside0.mk H; clear H; have hnb50 := NB529_534.out; have hnc50 := NB534_529.out; have hnb51 := NB529_538.out; have hnc51 := NB538_529.out; obtain ⟨hcz52_0, hcz52_1, hcz52_2⟩ := cells3 BK529.out; obtain ⟨hfz52_0, hfz52_1, hfz52_2⟩ := froz3 BK529.out
            go_wp2_with (first | ((with_reducible refine gate_callee (f := 11) rfl ?_); refine goesL_ (some 35) rfl rfl Try.func11 (by kernel_rfl) rfl #[.agg #[.int .i64 a0_0, .slice A0_1 l0_1.length c0_1, .slice A0_2 l0_2.length c0_2], .int .i64 (-1)] rfl (by (try simp only [List.map_toArray, List.map_cons, List.map_nil]); first | done | rfl | (simp only [List.length_drop, List.length_take]; rfl)) ?_; (with_reducible refine (check_Heights.calls kj5 a0_0 _ _ l0_1 _ _ l0_2 (-1) t539 _ ?side1 ?side2 ?side3 ?side4 A39.out).mono ?_); (case side1 => repeat (first | exact (Kd.C_below HR0_1.out HB.out) | (with_reducible refine Kd.C_alloc ?_ _) | (with_reducible refine Kd.C_drewN ?_ _) | (with_reducible refine Kd.C_drew ?_))); (case side2 => exact HC0_1.out); (case side3 => repeat (first | exact (Kd.C_below HR0_2.out HB.out) | (with_reducible refine Kd.C_alloc ?_ _) | (with_reducible refine Kd.C_drewN ?_ _) | (with_reducible refine Kd.C_drew ?_))); (case side4 => exact HC0_2.out); rintro e w53 ⟨v540, rfl, ho0, hb⟩; refine ⟨_, rfl, ?_⟩; have HO541 := Aside0.mk (Kd.R_lower ho0 (below_size (bn3 HB GE529 GE534 GE538))); replace BK529 := Aside0.mk (blk_below (g := gb529) (o := .cells #[.int .i64 a0_0, .slice A0_1 l0_1.length c0_1, .slice A0_2 l0_2.length c0_2] 25 (0, 0)) (bkn BK529) hb); replace BK534 := Aside0.mk (blk_below (g := gb534) (o := .cells #[.int .i64 t531, .int .i64 t532, .int .i64 t533] 29 (0, 0)) (bkn BK534) hb); replace BK538 := Aside0.mk (blk_below (g := gb538) (o := .cells #[.int .i64 t535, .int .i64 t536, .int .i64 t537] 32 (0, 0)) (bkn BK538) hb); replace HB := Aside0.mk (below_step (bn3 HB GE529 GE534 GE538) hb); (try clear hb); (try clear ho0); obtain ⟨Ao54, co54, eo54⟩ := Kd.R_slice HO541.out; subst eo54))
            go_meet
            case rel => exact ⟨_, (true), (by first | rfl | (simp; done) | (simp [*]; done)), H', ⟨by have := HJ5.out; first | omega | exact Nat.le_refl _⟩, ⟨by (with_reducible repeat (first | refine blk_drewN ?_ _ | refine blk_drew ?_ | refine blk_alloc ?_ _)); exact BK529.out⟩, ⟨by (with_reducible repeat (first | refine blk_drewN ?_ _ | refine blk_drew ?_ | refine blk_alloc ?_ _)); exact BK534.out⟩, ⟨by (with_reducible repeat (first | refine blk_drewN ?_ _ | refine blk_drew ?_ | refine blk_alloc ?_ _)); exact BK538.out⟩, ⟨bn3 HB GE529 GE534 GE538⟩⟩
        case rest =>
          clear HC38
          try clear c1
          try clear c2
          try clear p2
          try clear c3
          try clear c4
          try clear c5
          try clear c8
          try clear c9
          try clear c10
          try clear c11
          try clear c12
          try clear c17
          try clear c18
          try clear c20
          try clear c20b0
          try clear c20b1
          try clear c21
          try clear c21b0
          try clear c21b1
          try clear c22
          try clear c23
          try clear c25
          try clear c27
          try clear c28
          try clear c30
          try clear c32
          try clear c33
          try clear c35
          try clear c37
          try clear c40
          try clear c40b0
          try clear c40b1
          try clear c40b2
          try clear c42
          try clear c43
          try clear c50
          try clear c51
          try clear hcz13_0
          try clear hcz13_1
          try clear hcz13_2
          try clear hcz14_0
          try clear hcz14_1
          try clear hcz14_2
          try clear hcz19_0
          try clear hcz19_1
          try clear hcz19_2
          try clear hcz24_0
          try clear hcz24_1
          try clear hcz24_2
          try clear hcz26_0
          try clear hcz26_1
          try clear hcz26_2
          try clear hcz29_0
          try clear hcz29_1
          try clear hcz29_2
          try clear hcz31_0
          try clear hcz31_1
          try clear hcz31_2
          try clear hcz34_0
          try clear hcz34_1
          try clear hcz34_2
          try clear hcz36_0
          try clear hcz36_1
          try clear hcz36_2
          try clear hcz44_0
          try clear hcz44_1
          try clear hcz44_2
          try clear hcz47_0
          try clear hcz47_1
          try clear hcz47_2
          try clear hcz52_0
          try clear hcz52_1
          try clear hcz52_2
          try clear hcz9_0
          try clear hcz9_1
          try clear hcz9_2
          try clear hfz13_0
          try clear hfz13_1
          try clear hfz13_2
          try clear hfz14_0
          try clear hfz14_1
          try clear hfz14_2
          try clear hfz19_0
          try clear hfz19_1
          try clear hfz19_2
          try clear hfz24_0
          try clear hfz24_1
          try clear hfz24_2
          try clear hfz26_0
          try clear hfz26_1
          try clear hfz26_2
          try clear hfz29_0
          try clear hfz29_1
          try clear hfz29_2
          try clear hfz31_0
          try clear hfz31_1
          try clear hfz31_2
          try clear hfz34_0
          try clear hfz34_1
          try clear hfz34_2
          try clear hfz36_0
          try clear hfz36_1
          try clear hfz36_2
          try clear hfz44_0
          try clear hfz44_1
          try clear hfz44_2
          try clear hfz47_0
          try clear hfz47_1
          try clear hfz47_2
          try clear hfz52_0
          try clear hfz52_1
          try clear hfz52_2
          try clear hfz9_0
          try clear hfz9_1
          try clear hfz9_2
          try clear p2
          obtain ⟨kq, x46_37, rfl, HA, HJ37, BK529, BK534, BK538, HB⟩ := hcut
          cases kq with
          | zero => exact absurd HA.out (by simp [casementlaw13_CheckPlays.j1])
          | succ kj37 => ?_
          have H := HA.out; clear HA; simp only [casementlaw13_CheckPlays.j1] at H
          by_cases c55 : x46_37 = true
          · subst c55
            have H1 : (some false) = some r := by rw [if_pos rfl] at H; exact H
            clear H; have H := H1; clear H1
            exact absurd ((Option.some.inj H).trans HRT.out) (by decide)
          · replace c55 := Bool.eq_false_iff.mpr c55
            subst c55
            have H1 : (casementlaw13_CheckPlays.l0 kj37 (l0_2.length : Int) 0 a0_0 l0_1 l0_2 t531 t532 t533) = some r := by rw [if_neg (show ¬ (false = true) by decide)] at H; exact H
            clear H; have H := H1; clear H1; have H' := Aside0.mk H; clear H; have hnb56 := NB529_534.out; have hnc56 := NB534_529.out; have hnb57 := NB529_538.out; have hnc57 := NB538_529.out; obtain ⟨hcz58_0, hcz58_1, hcz58_2⟩ := cells3 BK529.out; obtain ⟨hfz58_0, hfz58_1, hfz58_2⟩ := froz3 BK529.out
            go_wp2
            go_loopg [50] kj37 (fun kq v50 w' => ∃ (x50_3 : Int), v50 = .int .i64 x50_3 ∧ Aside0 (casementlaw13_CheckPlays.l0 kq (l0_2.length : Int) x50_3 a0_0 l0_1 l0_2 t531 t532 t533 = some r) ∧ Aside0 (kq ≤ kj37) ∧ Aside0 (w'.heap[gb529]? = some (.cells #[.int .i64 a0_0, (.slice A0_1 l0_1.length c0_1), (.slice A0_2 l0_2.length c0_2)] 25 (0, 0))) ∧ Aside0 (w'.heap[gb534]? = some (.cells #[.int .i64 t531, .int .i64 t532, .int .i64 t533] 29 (0, 0))) ∧ Aside0 (w'.heap[gb538]? = some (.cells #[.int .i64 t535, .int .i64 t536, .int .i64 t537] 32 (0, 0))) ∧ Aside0 (Below w.heap.size w w'))
            case atStart => exact ⟨(0), (by first | rfl | (simp; done) | (simp [*]; done)), H', ⟨Nat.le_refl _⟩, ⟨by (with_reducible repeat (first | refine blk_drewN ?_ _ | refine blk_drew ?_ | refine blk_alloc ?_ _)); exact BK529.out⟩, ⟨by (with_reducible repeat (first | refine blk_drewN ?_ _ | refine blk_drew ?_ | refine blk_alloc ?_ _)); exact BK534.out⟩, ⟨by (with_reducible repeat (first | refine blk_drewN ?_ _ | refine blk_drew ?_ | refine blk_alloc ?_ _)); exact BK538.out⟩, ⟨bn3 HB GE529 GE534 GE538⟩⟩
            case round =>
              clear H'
              try clear c1
              try clear c2
              try clear p2
              try clear c3
              try clear c4
              try clear c5
              try clear c8
              try clear c9
              try clear c10
              try clear c11
              try clear c12
              try clear c17
              try clear c18
              try clear c20
              try clear c20b0
              try clear c20b1
              try clear c21
              try clear c21b0
              try clear c21b1
              try clear c22
              try clear c23
              try clear c25
              try clear c27
              try clear c28
              try clear c30
              try clear c32
              try clear c33
              try clear c35
              try clear c37
              try clear c40
              try clear c40b0
              try clear c40b1
              try clear c40b2
              try clear c42
              try clear c43
              try clear c50
              try clear c51
              try clear c55
              try clear c56
              try clear c57
              try clear hcz13_0
              try clear hcz13_1
              try clear hcz13_2
              try clear hcz14_0
              try clear hcz14_1
              try clear hcz14_2
              try clear hcz19_0
              try clear hcz19_1
              try clear hcz19_2
              try clear hcz24_0
              try clear hcz24_1
              try clear hcz24_2
              try clear hcz26_0
              try clear hcz26_1
              try clear hcz26_2
              try clear hcz29_0
              try clear hcz29_1
              try clear hcz29_2
              try clear hcz31_0
              try clear hcz31_1
              try clear hcz31_2
              try clear hcz34_0
              try clear hcz34_1
              try clear hcz34_2
              try clear hcz36_0
              try clear hcz36_1
              try clear hcz36_2
              try clear hcz44_0
              try clear hcz44_1
              try clear hcz44_2
              try clear hcz47_0
              try clear hcz47_1
              try clear hcz47_2
              try clear hcz52_0
              try clear hcz52_1
              try clear hcz52_2
              try clear hcz58_0
              try clear hcz58_1
              try clear hcz58_2
              try clear hcz9_0
              try clear hcz9_1
              try clear hcz9_2
              try clear hfz13_0
              try clear hfz13_1
              try clear hfz13_2
              try clear hfz14_0
              try clear hfz14_1
              try clear hfz14_2
              try clear hfz19_0
              try clear hfz19_1
              try clear hfz19_2
              try clear hfz24_0
              try clear hfz24_1
              try clear hfz24_2
              try clear hfz26_0
              try clear hfz26_1
              try clear hfz26_2
              try clear hfz29_0
              try clear hfz29_1
              try clear hfz29_2
              try clear hfz31_0
              try clear hfz31_1
              try clear hfz31_2
              try clear hfz34_0
              try clear hfz34_1
              try clear hfz34_2
              try clear hfz36_0
              try clear hfz36_1
              try clear hfz36_2
              try clear hfz44_0
              try clear hfz44_1
              try clear hfz44_2
              try clear hfz47_0
              try clear hfz47_1
              try clear hfz47_2
              try clear hfz52_0
              try clear hfz52_1
              try clear hfz52_2
              try clear hfz58_0
              try clear hfz58_1
              try clear hfz58_2
              try clear hfz9_0
              try clear hfz9_1
              try clear hfz9_2
              try clear p2
              obtain ⟨x50_3, rfl, HA, HK3, BK529, BK534, BK538, HB⟩ := hrel
              cases gk with
              | zero => exact absurd HA.out (by simp [casementlaw13_CheckPlays.l0])
              | succ k3 => ?_
              have H := HA.out; clear HA; simp only [casementlaw13_CheckPlays.l0] at H
              by_cases c59 : x50_3 < (l0_2.length : Int)
              · rw [if_pos c59] at H
                have c59b0 : decide (x50_3 < (l0_2.length : Int)) = true := decide_eq_true c59; clear c59; replace H := Option.bind_eq_some_iff.mp H; obtain ⟨t545, A600, H⟩ := H; replace H : (if t533 = 0 then ((casementref13_Heights.f k3 a0_0 l0_1 l0_2 x50_3).bind fun bt548 => ((casementref01_SameInts.f k3 t545 bt548.1).bind fun t552 => (if t552 = true then (casementlaw13_CheckPlays.l0 k3 (l0_2.length : Int) (wrap64 (x50_3 + 1)) a0_0 l0_1 l0_2 t531 t532 t533) else (some false)))) else (if (t545.length : Int) = 0 then (casementlaw13_CheckPlays.l0 k3 (l0_2.length : Int) (wrap64 (x50_3 + 1)) a0_0 l0_1 l0_2 t531 t532 t533) else (some false))) = some r := H; have A60 := Aside0.mk A600; clear A600
                by_cases c61 : t533 = 0
                · rw [if_pos c61] at H
                  have c61b0 : (t533 == 0) = true := beq_iff_eq.mpr c61; have c61b1 : (t533 != 0) = false := bne_eq_false_iff_eq.mpr c61; clear c61; replace H := Option.bind_eq_some_iff.mp H; obtain ⟨⟨t548, t551⟩, A620, H⟩ := H; replace H : ((casementref01_SameInts.f k3 t545 t548).bind fun t552 => (if t552 = true then (casementlaw13_CheckPlays.l0 k3 (l0_2.length : Int) (wrap64 (x50_3 + 1)) a0_0 l0_1 l0_2 t531 t532 t533) else (some false))) = some r := H; have A62 := Aside0.mk A620; clear A620; replace H := Option.bind_eq_some_iff.mp H; obtain ⟨t552, A630, H⟩ := H; replace H : (if t552 = true then (casementlaw13_CheckPlays.l0 k3 (l0_2.length : Int) (wrap64 (x50_3 + 1)) a0_0 l0_1 l0_2 t531 t532 t533) else (some false)) = some r := H; have A63 := Aside0.mk A630; clear A630
                  by_cases c64 : t552 = true
                  · subst c64
                    have H1 : (casementlaw13_CheckPlays.l0 k3 (l0_2.length : Int) (wrap64 (x50_3 + 1)) a0_0 l0_1 l0_2 t531 t532 t533) = some r := by rw [if_pos rfl] at H; exact H
                    clear H; have H := H1; clear H1; have H' := Aside0.mk H; clear H; have hnb65 := NB529_534.out; have hnc65 := NB534_529.out; have hnb66 := NB529_538.out; have hnc66 := NB538_529.out; obtain ⟨hcz67_0, hcz67_1, hcz67_2⟩ := cells3 BK529.out; obtain ⟨hfz67_0, hfz67_1, hfz67_2⟩ := froz3 BK529.out
                    go_wp2_with (first | ((with_reducible refine gate_callee (f := 11) rfl ?_); refine goesL_ (some 55) rfl rfl Try.func11 (by kernel_rfl) rfl #[.agg #[.int .i64 a0_0, .slice A0_1 l0_1.length c0_1, .slice A0_2 l0_2.length c0_2], .int .i64 x50_3] rfl (by (try simp only [List.map_toArray, List.map_cons, List.map_nil]); first | done | rfl | (simp only [List.length_drop, List.length_take]; rfl)) ?_; (with_reducible refine (check_Heights.calls k3 a0_0 _ _ l0_1 _ _ l0_2 x50_3 t545 _ ?side1 ?side2 ?side3 ?side4 A60.out).mono ?_); (case side1 => repeat (first | exact (Kd.C_below HR0_1.out HB.out) | (with_reducible refine Kd.C_alloc ?_ _) | (with_reducible refine Kd.C_drewN ?_ _) | (with_reducible refine Kd.C_drew ?_))); (case side2 => exact HC0_1.out); (case side3 => repeat (first | exact (Kd.C_below HR0_2.out HB.out) | (with_reducible refine Kd.C_alloc ?_ _) | (with_reducible refine Kd.C_drewN ?_ _) | (with_reducible refine Kd.C_drew ?_))); (case side4 => exact HC0_2.out); rintro e w68 ⟨v546, rfl, ho0, hb⟩; refine ⟨_, rfl, ?_⟩; have HO547 := Aside0.mk (Kd.R_lower ho0 (below_size (bn3 HB GE529 GE534 GE538))); replace BK529 := Aside0.mk (blk_below (g := gb529) (o := .cells #[.int .i64 a0_0, .slice A0_1 l0_1.length c0_1, .slice A0_2 l0_2.length c0_2] 25 (0, 0)) (bkn BK529) hb); replace BK534 := Aside0.mk (blk_below (g := gb534) (o := .cells #[.int .i64 t531, .int .i64 t532, .int .i64 t533] 29 (0, 0)) (bkn BK534) hb); replace BK538 := Aside0.mk (blk_below (g := gb538) (o := .cells #[.int .i64 t535, .int .i64 t536, .int .i64 t537] 32 (0, 0)) (bkn BK538) hb); replace HB := Aside0.mk (below_step (bn3 HB GE529 GE534 GE538) hb); (try clear hb); (try clear ho0); have hnb69 := NB534_538.out; have hnc69 := NB538_534.out; obtain ⟨hcz70_0, hcz70_1, hcz70_2⟩ := cells3 BK534.out; obtain ⟨hfz70_0, hfz70_1, hfz70_2⟩ := froz3 BK534.out; obtain ⟨hcz71_0, hcz71_1, hcz71_2⟩ := cells3 BK529.out; obtain ⟨hfz71_0, hfz71_1, hfz71_2⟩ := froz3 BK529.out) | ((with_reducible refine gate_callee (f := 12) rfl ?_); refine goesL_ (some 65) rfl rfl Try.func12 (by kernel_rfl) rfl #[.agg #[.int .i64 a0_0, .slice A0_1 l0_1.length c0_1, .slice A0_2 l0_2.length c0_2], .int .i64 x50_3] rfl (by (try simp only [List.map_toArray, List.map_cons, List.map_nil]); first | done | rfl | (simp only [List.length_drop, List.length_take]; rfl)) ?_; (with_reducible refine (casementref13_Heights.calls k3 a0_0 _ _ l0_1 _ _ l0_2 x50_3 t548 t551 _ ?side1 ?side2 ?side3 ?side4 A62.out).mono ?_); (case side1 => repeat (first | exact (Kd.C_below HR0_1.out HB.out) | (with_reducible refine Kd.C_alloc ?_ _) | (with_reducible refine Kd.C_drewN ?_ _) | (with_reducible refine Kd.C_drew ?_))); (case side2 => exact HC0_1.out); (case side3 => repeat (first | exact (Kd.C_below HR0_2.out HB.out) | (with_reducible refine Kd.C_alloc ?_ _) | (with_reducible refine Kd.C_drewN ?_ _) | (with_reducible refine Kd.C_drew ?_))); (case side4 => exact HC0_2.out); rintro e w72 ⟨v549, rfl, ho0, hb⟩; refine ⟨_, rfl, ?_⟩; have n0_ := Aside0.mk (Kd.R_elder' (rnR HO547) (Kd.R_base ho0) hb); have HO550 := Aside0.mk (Kd.R_lower (Kd.R_new' ho0 (Kd.R_lt (rnR HO547))) (below_size (bn3 HB GE529 GE534 GE538))); replace BK529 := Aside0.mk (blk_below (g := gb529) (o := .cells #[.int .i64 a0_0, .slice A0_1 l0_1.length c0_1, .slice A0_2 l0_2.length c0_2] 25 (0, 0)) (bkn BK529) hb); replace BK534 := Aside0.mk (blk_below (g := gb534) (o := .cells #[.int .i64 t531, .int .i64 t532, .int .i64 t533] 29 (0, 0)) (bkn BK534) hb); replace BK538 := Aside0.mk (blk_below (g := gb538) (o := .cells #[.int .i64 t535, .int .i64 t536, .int .i64 t537] 32 (0, 0)) (bkn BK538) hb); replace HB := Aside0.mk (below_step (bn3 HB GE529 GE534 GE538) hb); replace HO547 := n0_; clear n0_; (try clear hb); (try clear ho0); obtain ⟨Ao73, co73, eo73⟩ := Kd.R_slice HO547.out; subst eo73; obtain ⟨Ao74, co74, eo74⟩ := Kd.R_slice HO550.out; subst eo74) | ((with_reducible refine gate_callee (f := 13) rfl ?_); refine goesL_ (some 70) rfl rfl Try.func13 (by kernel_rfl) rfl #[.slice Ao73 t545.length co73, .slice Ao74 t548.length co74] rfl (by (try simp only [List.map_toArray, List.map_cons, List.map_nil]); first | done | rfl | (simp only [List.length_drop, List.length_take]; rfl)) ?_; (with_reducible refine (casementref01_SameInts.calls k3 _ _ t545 _ _ t548 true _ ?side1 ?side2 ?side3 ?side4 A63.out).mono ?_); (case side1 => repeat (first | exact (Kd.R_reads' HO547.out).2.2 | (with_reducible refine Kd.C_alloc ?_ _) | (with_reducible refine Kd.C_drewN ?_ _) | (with_reducible refine Kd.C_drew ?_))); (case side2 => exact (Kd.R_reads' HO547.out).2.1); (case side3 => repeat (first | exact (Kd.R_reads' HO550.out).2.2 | (with_reducible refine Kd.C_alloc ?_ _) | (with_reducible refine Kd.C_drewN ?_ _) | (with_reducible refine Kd.C_drew ?_))); (case side4 => exact (Kd.R_reads' HO550.out).2.1); rintro e w' ⟨rfl, ⟨nd, rfl⟩⟩; refine ⟨_, rfl, ?_⟩))
                    go_roundg k3
                    case measure => have := HJ5.out; have := HJ37.out; have := HK3.out; omega
                    case rel => exact ⟨(wrap64 (x50_3 + 1)), (by first | rfl | (simp; done) | (simp [*]; done)), H', ⟨by have := HJ5.out; have := HJ37.out; have := HK3.out; omega⟩, ⟨by (with_reducible repeat (first | refine blk_drewN ?_ _ | refine blk_drew ?_ | refine blk_alloc ?_ _)); exact BK529.out⟩, ⟨by (with_reducible repeat (first | refine blk_drewN ?_ _ | refine blk_drew ?_ | refine blk_alloc ?_ _)); exact BK534.out⟩, ⟨by (with_reducible repeat (first | refine blk_drewN ?_ _ | refine blk_drew ?_ | refine blk_alloc ?_ _)); exact BK538.out⟩, ⟨bn3 HB GE529 GE534 GE538⟩⟩
                  · replace c64 := Bool.eq_false_iff.mpr c64
                    subst c64
                    have H1 : (some false) = some r := by rw [if_neg (show ¬ (false = true) by decide)] at H; exact H
                    clear H; have H := H1; clear H1
                    exact absurd ((Option.some.inj H).trans HRT.out) (by decide)
                · rw [if_neg c61] at H
                  have c61b0 : (t533 == 0) = false := beq_eq_false_iff_ne.mpr c61; have c61b1 : (t533 != 0) = true := bne_iff_ne.mpr c61
                  by_cases c75 : (t545.length : Int) = 0
                  · rw [if_pos c75] at H
                    have c75b0 : ((t545.length : Int) == 0) = true := beq_iff_eq.mpr c75; have c75b1 : ((t545.length : Int) != 0) = false := bne_eq_false_iff_eq.mpr c75; clear c75; have H' := Aside0.mk H; clear H; have hnb76 := NB529_534.out; have hnc76 := NB534_529.out; have hnb77 := NB529_538.out; have hnc77 := NB538_529.out; obtain ⟨hcz78_0, hcz78_1, hcz78_2⟩ := cells3 BK529.out; obtain ⟨hfz78_0, hfz78_1, hfz78_2⟩ := froz3 BK529.out
                    go_wp2_with (first | ((with_reducible refine gate_callee (f := 11) rfl ?_); refine goesL_ (some 55) rfl rfl Try.func11 (by kernel_rfl) rfl #[.agg #[.int .i64 a0_0, .slice A0_1 l0_1.length c0_1, .slice A0_2 l0_2.length c0_2], .int .i64 x50_3] rfl (by (try simp only [List.map_toArray, List.map_cons, List.map_nil]); first | done | rfl | (simp only [List.length_drop, List.length_take]; rfl)) ?_; (with_reducible refine (check_Heights.calls k3 a0_0 _ _ l0_1 _ _ l0_2 x50_3 t545 _ ?side1 ?side2 ?side3 ?side4 A60.out).mono ?_); (case side1 => repeat (first | exact (Kd.C_below HR0_1.out HB.out) | (with_reducible refine Kd.C_alloc ?_ _) | (with_reducible refine Kd.C_drewN ?_ _) | (with_reducible refine Kd.C_drew ?_))); (case side2 => exact HC0_1.out); (case side3 => repeat (first | exact (Kd.C_below HR0_2.out HB.out) | (with_reducible refine Kd.C_alloc ?_ _) | (with_reducible refine Kd.C_drewN ?_ _) | (with_reducible refine Kd.C_drew ?_))); (case side4 => exact HC0_2.out); rintro e w79 ⟨v546, rfl, ho0, hb⟩; refine ⟨_, rfl, ?_⟩; have HO547 := Aside0.mk (Kd.R_lower ho0 (below_size (bn3 HB GE529 GE534 GE538))); replace BK529 := Aside0.mk (blk_below (g := gb529) (o := .cells #[.int .i64 a0_0, .slice A0_1 l0_1.length c0_1, .slice A0_2 l0_2.length c0_2] 25 (0, 0)) (bkn BK529) hb); replace BK534 := Aside0.mk (blk_below (g := gb534) (o := .cells #[.int .i64 t531, .int .i64 t532, .int .i64 t533] 29 (0, 0)) (bkn BK534) hb); replace BK538 := Aside0.mk (blk_below (g := gb538) (o := .cells #[.int .i64 t535, .int .i64 t536, .int .i64 t537] 32 (0, 0)) (bkn BK538) hb); replace HB := Aside0.mk (below_step (bn3 HB GE529 GE534 GE538) hb); (try clear hb); (try clear ho0); have hnb80 := NB534_538.out; have hnc80 := NB538_534.out; obtain ⟨hcz81_0, hcz81_1, hcz81_2⟩ := cells3 BK534.out; obtain ⟨hfz81_0, hfz81_1, hfz81_2⟩ := froz3 BK534.out; obtain ⟨Ao82, co82, eo82⟩ := Kd.R_slice HO547.out; subst eo82))
                    go_roundg k3
                    case measure => have := HJ5.out; have := HJ37.out; have := HK3.out; omega
                    case rel => exact ⟨(wrap64 (x50_3 + 1)), (by first | rfl | (simp; done) | (simp [*]; done)), H', ⟨by have := HJ5.out; have := HJ37.out; have := HK3.out; omega⟩, ⟨by (with_reducible repeat (first | refine blk_drewN ?_ _ | refine blk_drew ?_ | refine blk_alloc ?_ _)); exact BK529.out⟩, ⟨by (with_reducible repeat (first | refine blk_drewN ?_ _ | refine blk_drew ?_ | refine blk_alloc ?_ _)); exact BK534.out⟩, ⟨by (with_reducible repeat (first | refine blk_drewN ?_ _ | refine blk_drew ?_ | refine blk_alloc ?_ _)); exact BK538.out⟩, ⟨bn3 HB GE529 GE534 GE538⟩⟩
                  · rw [if_neg c75] at H
                    have c75b0 : ((t545.length : Int) == 0) = false := beq_eq_false_iff_ne.mpr c75; have c75b1 : ((t545.length : Int) != 0) = true := bne_iff_ne.mpr c75
                    have c75b2 : ¬ (t545 = []) := fun h_ => c75 (by rw [h_]; rfl)
                    exact absurd ((Option.some.inj H).trans HRT.out) (by decide)
              · rw [if_neg c59] at H
                have c59b0 : decide (x50_3 < (l0_2.length : Int)) = false := decide_eq_false c59; clear c59; obtain rfl := Option.some.inj H
                go_wp2
                go_ret
                exact ⟨by first | rfl | (simp [errW_none, errW_some] <;> rfl) | (simp [*, errW_none, errW_some] <;> rfl), bn3 HB GE529 GE534 GE538⟩
  · replace c3 := Bool.eq_false_iff.mpr c3
    subst c3
    have H1 : (some false) = some r := by rw [if_neg (show ¬ (false = true) by decide)] at H; exact H
    clear H; have H := H1; clear H1
    exact absurd ((Option.some.inj H).trans HRT.out) (by decide)

def casementlaw13_CheckPlays.Pure : Prop := ∀ (a0_0 : Int) (l0_1 : List Int) (l0_2 : List (S42)), ((Lit.int .i64 a0_0).wf = true) → l0_1.length ≤ maxLen → l0_1.length * 1 ≤ 140737488351232 → (∀ y_ ∈ l0_1, (Lit.int .u8 y_).wf = true) → l0_2.length ≤ maxLen → l0_2.length * 48 ≤ 140737488351232 → (∀ y_ ∈ l0_2, okS42 y_) → ∃ k, casementlaw13_CheckPlays.f k a0_0 l0_1 l0_2 = some true
theorem casementlaw13_CheckPlays.walk (P : casementlaw13_CheckPlays.Pure) (a0_0 : Int) (A0_1 : Option Addr) (c0_1 : Nat) (l0_1 : List Int) (A0_2 : Option Addr) (c0_2 : Nat) (l0_2 : List (S42)) (w : World) (wl0 : ((Lit.int .i64 a0_0).wf = true)) (wl1 : l0_1.length ≤ maxLen) (wl2 : l0_1.length * 1 ≤ 140737488351232) (wl3 : (∀ y_ ∈ l0_1, (Lit.int .u8 y_).wf = true)) (wl4 : l0_2.length ≤ maxLen) (wl5 : l0_2.length * 48 ≤ 140737488351232) (wl6 : (∀ y_ ∈ l0_2, okS42 y_)) (hr0_1 : Kd.C (Kd.int .u8) w A0_1 l0_1.length l0_1) (hc0_1 : l0_1.length ≤ c0_1) (hr0_2 : Kd.C k42 w A0_2 l0_2.length l0_2) (hc0_2 : l0_2.length ≤ c0_2) :
    Calls Try.prog 3 #[.agg #[.int .i64 a0_0, .slice A0_1 l0_1.length c0_1, .slice A0_2 l0_2.length c0_2]] w fun e w' => e = .returned (.bool true) ∧ Below w.heap.size w w' := by
  obtain ⟨k, h⟩ := P a0_0 l0_1 l0_2 wl0 wl1 wl2 wl3 wl4 wl5 wl6
  refine (casementlaw13_CheckPlays.calls k a0_0 _ _ l0_1 _ _ l0_2 true w hr0_1 hc0_1 hr0_2 hc0_2 h rfl).mono ?_
  rintro e w' ⟨rfl, hd⟩
  exact ⟨rfl, hd⟩

end Go.Proofs.Ytgngbbkaghmnpaa.Q
