-- written by a program of this session after the way of the kit's print; not the kit's own print. Lean checks it.
import Derived.Test.YtgngbbkaghmnpaaQx0
namespace Go.Proofs.Ytgngbbkaghmnpaa.Q
open Go.RowKit Go.Proofs.YtgngbbkaghmnpaaW.PrintWords Go.Proofs.YtgngbbkaghmnpaaW.PrintLast Go.Proofs.YtgngbbkaghmnpaaW.PrintMore
attribute [local go_sem] max2_int min2_int max_two min_two max_three min_three max_four min_four   -- for this text's walks alone
set_option linter.unusedVariables false
set_option linter.unusedSimpArgs false

/-! ### casementref12_Has: function 34 -/
def casementref12_Has.f (a0 : Int) : Option (Bool) := if a0 = 1 then (some true) else (if a0 = 5 then (some true) else (if a0 = 6 then (some true) else (if a0 = 24 then (some true) else (if a0 = 25 then (some true) else (if a0 = 26 then (some true) else (some (a0 == 28)))))))
set_option maxHeartbeats 8000000 in
set_option maxRecDepth 100000 in
theorem casementref12_Has.calls (a0 : Int) (r : Bool) (w : World) (h : casementref12_Has.f a0 = some r) :
    Calls Try.prog 34 #[.int .i64 a0] w fun e w' => e = .returned (.bool r) ∧ Drawn0 w w' := by
  have H : (if a0 = 1 then (some true) else (if a0 = 5 then (some true) else (if a0 = 6 then (some true) else (if a0 = 24 then (some true) else (if a0 = 25 then (some true) else (if a0 = 26 then (some true) else (some (a0 == 28)))))))) = some r := h; clear h
  by_cases c2 : a0 = 1
  · rw [if_pos c2] at H
    have c2b0 : (a0 == 1) = true := beq_iff_eq.mpr c2; have c2b1 : (a0 != 1) = false := bne_eq_false_iff_eq.mpr c2; clear c2; obtain rfl := Option.some.inj H
    go_enter Try.func34, Try.ntmps34
    go_wp2
    go_ret
    exact ⟨by first | rfl | (simp; done) | (simp [*]; done), by repeat (first | exact Drawn0.refl _ | apply Drawn0.step)⟩
  · rw [if_neg c2] at H
    have c2b0 : (a0 == 1) = false := beq_eq_false_iff_ne.mpr c2; have c2b1 : (a0 != 1) = true := bne_iff_ne.mpr c2
    by_cases c3 : a0 = 5
    · rw [if_pos c3] at H
      have c3b0 : (a0 == 5) = true := beq_iff_eq.mpr c3; have c3b1 : (a0 != 5) = false := bne_eq_false_iff_eq.mpr c3; clear c3; obtain rfl := Option.some.inj H
      go_enter Try.func34, Try.ntmps34
      go_wp2
      go_ret
      exact ⟨by first | rfl | (simp; done) | (simp [*]; done), by repeat (first | exact Drawn0.refl _ | apply Drawn0.step)⟩
    · rw [if_neg c3] at H
      have c3b0 : (a0 == 5) = false := beq_eq_false_iff_ne.mpr c3; have c3b1 : (a0 != 5) = true := bne_iff_ne.mpr c3
      by_cases c4 : a0 = 6
      · rw [if_pos c4] at H
        have c4b0 : (a0 == 6) = true := beq_iff_eq.mpr c4; have c4b1 : (a0 != 6) = false := bne_eq_false_iff_eq.mpr c4; clear c4; obtain rfl := Option.some.inj H
        go_enter Try.func34, Try.ntmps34
        go_wp2
        go_ret
        exact ⟨by first | rfl | (simp; done) | (simp [*]; done), by repeat (first | exact Drawn0.refl _ | apply Drawn0.step)⟩
      · rw [if_neg c4] at H
        have c4b0 : (a0 == 6) = false := beq_eq_false_iff_ne.mpr c4; have c4b1 : (a0 != 6) = true := bne_iff_ne.mpr c4
        by_cases c5 : a0 = 24
        · rw [if_pos c5] at H
          have c5b0 : (a0 == 24) = true := beq_iff_eq.mpr c5; have c5b1 : (a0 != 24) = false := bne_eq_false_iff_eq.mpr c5; clear c5; obtain rfl := Option.some.inj H
          go_enter Try.func34, Try.ntmps34
          go_wp2
          go_ret
          exact ⟨by first | rfl | (simp; done) | (simp [*]; done), by repeat (first | exact Drawn0.refl _ | apply Drawn0.step)⟩
        · rw [if_neg c5] at H
          have c5b0 : (a0 == 24) = false := beq_eq_false_iff_ne.mpr c5; have c5b1 : (a0 != 24) = true := bne_iff_ne.mpr c5
          by_cases c6 : a0 = 25
          · rw [if_pos c6] at H
            have c6b0 : (a0 == 25) = true := beq_iff_eq.mpr c6; have c6b1 : (a0 != 25) = false := bne_eq_false_iff_eq.mpr c6; clear c6; obtain rfl := Option.some.inj H
            go_enter Try.func34, Try.ntmps34
            go_wp2
            go_ret
            exact ⟨by first | rfl | (simp; done) | (simp [*]; done), by repeat (first | exact Drawn0.refl _ | apply Drawn0.step)⟩
          · rw [if_neg c6] at H
            have c6b0 : (a0 == 25) = false := beq_eq_false_iff_ne.mpr c6; have c6b1 : (a0 != 25) = true := bne_iff_ne.mpr c6
            by_cases c7 : a0 = 26
            · rw [if_pos c7] at H
              have c7b0 : (a0 == 26) = true := beq_iff_eq.mpr c7; have c7b1 : (a0 != 26) = false := bne_eq_false_iff_eq.mpr c7; clear c7; obtain rfl := Option.some.inj H
              go_enter Try.func34, Try.ntmps34
              go_wp2
              go_ret
              exact ⟨by first | rfl | (simp; done) | (simp [*]; done), by repeat (first | exact Drawn0.refl _ | apply Drawn0.step)⟩
            · rw [if_neg c7] at H
              have c7b0 : (a0 == 26) = false := beq_eq_false_iff_ne.mpr c7; have c7b1 : (a0 != 26) = true := bne_iff_ne.mpr c7; obtain rfl := Option.some.inj H
              go_enter Try.func34, Try.ntmps34
              go_wp2
              go_ret
              exact ⟨by first | rfl | (simp; done) | (simp [*]; done), by repeat (first | exact Drawn0.refl _ | apply Drawn0.step)⟩

end Go.Proofs.Ytgngbbkaghmnpaa.Q
