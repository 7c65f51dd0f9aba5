-- written by a program of this session after the way of the kit's print; not the kit's own print. Lean checks it.
import Derived.Test.YtgngbbkaghmnpaaQx0
namespace Go.Proofs.Ytgngbbkaghmnpaa.Q
open Go.RowKit Go.Proofs.YtgngbbkaghmnpaaW.PrintWords Go.Proofs.YtgngbbkaghmnpaaW.PrintLast Go.Proofs.YtgngbbkaghmnpaaW.PrintMore
attribute [local go_sem] max2_int min2_int max_two min_two max_three min_three max_four min_four   -- for this text's walks alone
set_option linter.unusedVariables false
set_option linter.unusedSimpArgs false

/-! ### check_function: function 24 -/
def check_function.f (a0_0 : Int) (l0_1 : List Int) (l0_2 : List (S42)) (a1 : Int) : Option (Bool) := if a1 ≥ 0 then (some (decide (a1 < (l0_2.length : Int)))) else (some false)
set_option maxHeartbeats 8000000 in
set_option maxRecDepth 100000 in
theorem check_function.calls (a0_0 : Int) (A0_1 : Option Addr) (c0_1 : Nat) (l0_1 : List Int) (A0_2 : Option Addr) (c0_2 : Nat) (l0_2 : List (S42)) (a1 : Int) (r : Bool) (w : World) (hr0_1 : Kd.C (Kd.int .u8) w A0_1 l0_1.length l0_1) (hc0_1 : l0_1.length ≤ c0_1) (hr0_2 : Kd.C k42 w A0_2 l0_2.length l0_2) (hc0_2 : l0_2.length ≤ c0_2) (h : check_function.f a0_0 l0_1 l0_2 a1 = some r) :
    Calls Try.prog 24 #[.agg #[.int .i64 a0_0, .slice A0_1 l0_1.length c0_1, .slice A0_2 l0_2.length c0_2], .int .i64 a1] w fun e w' => e = .returned (.bool r) ∧ Below w.heap.size w w' := by
  have hu25 := Try.underlying25; have HR0_1 := Aside0.mk hr0_1; have HC0_1 := Aside0.mk hc0_1; clear hr0_1 hc0_1; have HR0_2 := Aside0.mk hr0_2; have HC0_2 := Aside0.mk hc0_2; clear hr0_2 hc0_2; have HB := Aside0.mk (Below.refl w.heap.size w); have H : (if a1 ≥ 0 then (some (decide (a1 < (l0_2.length : Int)))) else (some false)) = some r := h; clear h
  by_cases c3 : a1 ≥ 0
  · rw [if_pos c3] at H
    have c3b0 : decide (0 ≤ a1) = true := decide_eq_true c3; clear c3; obtain rfl := Option.some.inj H
    go_enter Try.func24, Try.ntmps24
    go_wp2_with (first | ((with_reducible refine gate_dst (N := 2) rfl ?_); (try (refine gate_guard (by rfl) ?_; dsimp only)); refine box_event ?hg (N := 2) ?hd (cs := #[.int .i64 a0_0, .slice A0_1 l0_1.length c0_1, .slice A0_2 l0_2.length c0_2]) (t := 25) ?hr ?_; (case hd => rfl); (case hg => rfl); (case hr => first | (go_simp; done) | (go_simp; rfl)); intro gb147 hg w4 hbox hb; have n0_ := Aside0.mk (below_step (bn0 HB) hb); have BK147 := Aside0.mk (hbox); have GW147 := Aside0.mk ((by rw [hg]; exact (below_size (bn0 HB)) : w.heap.size ≤ gb147)); have GE147 := Aside0.mk ((by rw [hg]; exact (below_size (bn0 HB)) : w.heap.size ≤ gb147)); replace HB := n0_; clear n0_; clear hb hbox hg; obtain ⟨hcz5_0, hcz5_1, hcz5_2⟩ := cells3 BK147.out; obtain ⟨hfz5_0, hfz5_1, hfz5_2⟩ := froz3 BK147.out))
    go_ret
    exact ⟨by first | rfl | (simp [errW_none, errW_some] <;> rfl) | (simp [*, errW_none, errW_some] <;> rfl), bn1 HB GE147⟩
  · rw [if_neg c3] at H
    have c3b0 : decide (0 ≤ a1) = false := decide_eq_false c3; clear c3; obtain rfl := Option.some.inj H
    go_enter Try.func24, Try.ntmps24
    go_wp2_with (first | ((with_reducible refine gate_dst (N := 2) rfl ?_); (try (refine gate_guard (by rfl) ?_; dsimp only)); refine box_event ?hg (N := 2) ?hd (cs := #[.int .i64 a0_0, .slice A0_1 l0_1.length c0_1, .slice A0_2 l0_2.length c0_2]) (t := 25) ?hr ?_; (case hd => rfl); (case hg => rfl); (case hr => first | (go_simp; done) | (go_simp; rfl)); intro gb147 hg w6 hbox hb; have n0_ := Aside0.mk (below_step (bn0 HB) hb); have BK147 := Aside0.mk (hbox); have GW147 := Aside0.mk ((by rw [hg]; exact (below_size (bn0 HB)) : w.heap.size ≤ gb147)); have GE147 := Aside0.mk ((by rw [hg]; exact (below_size (bn0 HB)) : w.heap.size ≤ gb147)); replace HB := n0_; clear n0_; clear hb hbox hg))
    go_ret
    exact ⟨by first | rfl | (simp [errW_none, errW_some] <;> rfl) | (simp [*, errW_none, errW_some] <;> rfl), bn1 HB GE147⟩

end Go.Proofs.Ytgngbbkaghmnpaa.Q
