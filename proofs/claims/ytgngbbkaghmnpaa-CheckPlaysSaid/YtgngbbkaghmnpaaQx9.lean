-- written by a program of this session after the way of the kit's print; not the kit's own print. Lean checks it.
import Derived.Test.YtgngbbkaghmnpaaQx0
namespace Go.Proofs.Ytgngbbkaghmnpaa.Q
open Go.RowKit Go.Proofs.YtgngbbkaghmnpaaW.PrintWords Go.Proofs.YtgngbbkaghmnpaaW.PrintLast Go.Proofs.YtgngbbkaghmnpaaW.PrintMore
attribute [local go_sem] max2_int min2_int max_two min_two max_three min_three max_four min_four   -- for this text's walks alone
set_option linter.unusedVariables false
set_option linter.unusedSimpArgs false

/-! ### check_host: function 26 -/
def check_host.f (a0 : Int) : Option (Int) := some (if a0 < 0 then -1 else if 12 ≤ a0 then -1 else rd [3, 3, 0, 1, 1, 3, 1, 0, 1, 3, 0, 2] a0)
set_option maxHeartbeats 8000000 in
set_option maxRecDepth 100000 in
theorem check_host.calls (a0 : Int) (r : Int) (w : World) (h : check_host.f a0 = some r) :
    Calls Try.prog 26 #[.int .i64 a0] w fun e w' => e = .returned (.int .i64 r) ∧ Below w.heap.size w w' := by
  have hr := Option.some.inj h
  clear h
  by_cases c0 : a0 < 0
  · rw [if_pos c0] at hr
    subst hr
    have c0b : decide (a0 < 0) = true := by simpa using c0
    go_enter Try.func26, Try.ntmps26
    go_wp2_with (first | ((with_reducible refine gate_dst (N := 3) rfl ?_); refine box_event ?hg (N := 3) ?hd (cs := #[.int .i64 0, .int .i64 0, .int .i64 0, .int .i64 0, .int .i64 0, .int .i64 0, .int .i64 0, .int .i64 0, .int .i64 0, .int .i64 0, .int .i64 0, .int .i64 0]) (t := 67) ?hr ?_; (case hd => rfl); (case hg => rfl); (case hr => first | (go_simp; done) | (go_simp; rfl)); intro gb hg w9 hbox hb; have HB := Aside0.mk hb; have GE := Aside0.mk (Nat.le_of_eq hg.symm); clear hb hg; have hcz_0 : w9.cell? ⟨gb, 0, none⟩ = some (.int .i64 0) := (blk_cell hbox 0).trans rfl; have hfz_0 := blk_frozen hbox 0; have hcz_1 : w9.cell? ⟨gb, 1, none⟩ = some (.int .i64 0) := (blk_cell hbox 1).trans rfl; have hfz_1 := blk_frozen hbox 1; have hcz_2 : w9.cell? ⟨gb, 2, none⟩ = some (.int .i64 0) := (blk_cell hbox 2).trans rfl; have hfz_2 := blk_frozen hbox 2; have hcz_3 : w9.cell? ⟨gb, 3, none⟩ = some (.int .i64 0) := (blk_cell hbox 3).trans rfl; have hfz_3 := blk_frozen hbox 3; have hcz_4 : w9.cell? ⟨gb, 4, none⟩ = some (.int .i64 0) := (blk_cell hbox 4).trans rfl; have hfz_4 := blk_frozen hbox 4; have hcz_5 : w9.cell? ⟨gb, 5, none⟩ = some (.int .i64 0) := (blk_cell hbox 5).trans rfl; have hfz_5 := blk_frozen hbox 5; have hcz_6 : w9.cell? ⟨gb, 6, none⟩ = some (.int .i64 0) := (blk_cell hbox 6).trans rfl; have hfz_6 := blk_frozen hbox 6; have hcz_7 : w9.cell? ⟨gb, 7, none⟩ = some (.int .i64 0) := (blk_cell hbox 7).trans rfl; have hfz_7 := blk_frozen hbox 7; have hcz_8 : w9.cell? ⟨gb, 8, none⟩ = some (.int .i64 0) := (blk_cell hbox 8).trans rfl; have hfz_8 := blk_frozen hbox 8; have hcz_9 : w9.cell? ⟨gb, 9, none⟩ = some (.int .i64 0) := (blk_cell hbox 9).trans rfl; have hfz_9 := blk_frozen hbox 9; have hcz_10 : w9.cell? ⟨gb, 10, none⟩ = some (.int .i64 0) := (blk_cell hbox 10).trans rfl; have hfz_10 := blk_frozen hbox 10; have hcz_11 : w9.cell? ⟨gb, 11, none⟩ = some (.int .i64 0) := (blk_cell hbox 11).trans rfl; have hfz_11 := blk_frozen hbox 11; clear hbox))
    go_ret
    exact ⟨by first | rfl | (simp [*] <;> rfl), by repeat (first | (with_reducible first | exact HB.out | refine below_set ?_ GE.out) | exact HB.out)⟩
  · rw [if_neg c0] at hr
    have c0b : decide (a0 < 0) = false := by simpa using c0
    by_cases c1 : 12 ≤ a0
    · rw [if_pos c1] at hr
      subst hr
      have c1b : decide (a0 ≥ 12) = true := by simpa using c1
      go_enter Try.func26, Try.ntmps26
      go_wp2_with (first | ((with_reducible refine gate_dst (N := 3) rfl ?_); refine box_event ?hg (N := 3) ?hd (cs := #[.int .i64 0, .int .i64 0, .int .i64 0, .int .i64 0, .int .i64 0, .int .i64 0, .int .i64 0, .int .i64 0, .int .i64 0, .int .i64 0, .int .i64 0, .int .i64 0]) (t := 67) ?hr ?_; (case hd => rfl); (case hg => rfl); (case hr => first | (go_simp; done) | (go_simp; rfl)); intro gb hg w9 hbox hb; have HB := Aside0.mk hb; have GE := Aside0.mk (Nat.le_of_eq hg.symm); clear hb hg; have hcz_0 : w9.cell? ⟨gb, 0, none⟩ = some (.int .i64 0) := (blk_cell hbox 0).trans rfl; have hfz_0 := blk_frozen hbox 0; have hcz_1 : w9.cell? ⟨gb, 1, none⟩ = some (.int .i64 0) := (blk_cell hbox 1).trans rfl; have hfz_1 := blk_frozen hbox 1; have hcz_2 : w9.cell? ⟨gb, 2, none⟩ = some (.int .i64 0) := (blk_cell hbox 2).trans rfl; have hfz_2 := blk_frozen hbox 2; have hcz_3 : w9.cell? ⟨gb, 3, none⟩ = some (.int .i64 0) := (blk_cell hbox 3).trans rfl; have hfz_3 := blk_frozen hbox 3; have hcz_4 : w9.cell? ⟨gb, 4, none⟩ = some (.int .i64 0) := (blk_cell hbox 4).trans rfl; have hfz_4 := blk_frozen hbox 4; have hcz_5 : w9.cell? ⟨gb, 5, none⟩ = some (.int .i64 0) := (blk_cell hbox 5).trans rfl; have hfz_5 := blk_frozen hbox 5; have hcz_6 : w9.cell? ⟨gb, 6, none⟩ = some (.int .i64 0) := (blk_cell hbox 6).trans rfl; have hfz_6 := blk_frozen hbox 6; have hcz_7 : w9.cell? ⟨gb, 7, none⟩ = some (.int .i64 0) := (blk_cell hbox 7).trans rfl; have hfz_7 := blk_frozen hbox 7; have hcz_8 : w9.cell? ⟨gb, 8, none⟩ = some (.int .i64 0) := (blk_cell hbox 8).trans rfl; have hfz_8 := blk_frozen hbox 8; have hcz_9 : w9.cell? ⟨gb, 9, none⟩ = some (.int .i64 0) := (blk_cell hbox 9).trans rfl; have hfz_9 := blk_frozen hbox 9; have hcz_10 : w9.cell? ⟨gb, 10, none⟩ = some (.int .i64 0) := (blk_cell hbox 10).trans rfl; have hfz_10 := blk_frozen hbox 10; have hcz_11 : w9.cell? ⟨gb, 11, none⟩ = some (.int .i64 0) := (blk_cell hbox 11).trans rfl; have hfz_11 := blk_frozen hbox 11; clear hbox))
      go_ret
      exact ⟨by first | rfl | (simp [*] <;> rfl), by repeat (first | (with_reducible first | exact HB.out | refine below_set ?_ GE.out) | exact HB.out)⟩
    · rw [if_neg c1] at hr
      have c1b : decide (a0 ≥ 12) = false := by simpa using c1
      obtain rfl | rfl | rfl | rfl | rfl | rfl | rfl | rfl | rfl | rfl | rfl | rfl : a0 = 0 ∨ a0 = 1 ∨ a0 = 2 ∨ a0 = 3 ∨ a0 = 4 ∨ a0 = 5 ∨ a0 = 6 ∨ a0 = 7 ∨ a0 = 8 ∨ a0 = 9 ∨ a0 = 10 ∨ a0 = 11 := by omega
      all_goals clear c0 c0b c1 c1b
      all_goals subst hr
      all_goals
        go_enter Try.func26, Try.ntmps26
        go_wp2_with (first | ((with_reducible refine gate_dst (N := 3) rfl ?_); refine box_event ?hg (N := 3) ?hd (cs := #[.int .i64 0, .int .i64 0, .int .i64 0, .int .i64 0, .int .i64 0, .int .i64 0, .int .i64 0, .int .i64 0, .int .i64 0, .int .i64 0, .int .i64 0, .int .i64 0]) (t := 67) ?hr ?_; (case hd => rfl); (case hg => rfl); (case hr => first | (go_simp; done) | (go_simp; rfl)); intro gb hg w9 hbox hb; have HB := Aside0.mk hb; have GE := Aside0.mk (Nat.le_of_eq hg.symm); clear hb hg; have hcz_0 : w9.cell? ⟨gb, 0, none⟩ = some (.int .i64 0) := (blk_cell hbox 0).trans rfl; have hfz_0 := blk_frozen hbox 0; have hcz_1 : w9.cell? ⟨gb, 1, none⟩ = some (.int .i64 0) := (blk_cell hbox 1).trans rfl; have hfz_1 := blk_frozen hbox 1; have hcz_2 : w9.cell? ⟨gb, 2, none⟩ = some (.int .i64 0) := (blk_cell hbox 2).trans rfl; have hfz_2 := blk_frozen hbox 2; have hcz_3 : w9.cell? ⟨gb, 3, none⟩ = some (.int .i64 0) := (blk_cell hbox 3).trans rfl; have hfz_3 := blk_frozen hbox 3; have hcz_4 : w9.cell? ⟨gb, 4, none⟩ = some (.int .i64 0) := (blk_cell hbox 4).trans rfl; have hfz_4 := blk_frozen hbox 4; have hcz_5 : w9.cell? ⟨gb, 5, none⟩ = some (.int .i64 0) := (blk_cell hbox 5).trans rfl; have hfz_5 := blk_frozen hbox 5; have hcz_6 : w9.cell? ⟨gb, 6, none⟩ = some (.int .i64 0) := (blk_cell hbox 6).trans rfl; have hfz_6 := blk_frozen hbox 6; have hcz_7 : w9.cell? ⟨gb, 7, none⟩ = some (.int .i64 0) := (blk_cell hbox 7).trans rfl; have hfz_7 := blk_frozen hbox 7; have hcz_8 : w9.cell? ⟨gb, 8, none⟩ = some (.int .i64 0) := (blk_cell hbox 8).trans rfl; have hfz_8 := blk_frozen hbox 8; have hcz_9 : w9.cell? ⟨gb, 9, none⟩ = some (.int .i64 0) := (blk_cell hbox 9).trans rfl; have hfz_9 := blk_frozen hbox 9; have hcz_10 : w9.cell? ⟨gb, 10, none⟩ = some (.int .i64 0) := (blk_cell hbox 10).trans rfl; have hfz_10 := blk_frozen hbox 10; have hcz_11 : w9.cell? ⟨gb, 11, none⟩ = some (.int .i64 0) := (blk_cell hbox 11).trans rfl; have hfz_11 := blk_frozen hbox 11; clear hbox))
        go_ret
        exact ⟨by first | rfl | (simp [*] <;> rfl), by repeat (first | (with_reducible first | exact HB.out | refine below_set ?_ GE.out) | exact HB.out)⟩

end Go.Proofs.Ytgngbbkaghmnpaa.Q
