-- written by a program of this session after the way of the kit's print; not the kit's own print. Lean checks it.
import Derived.Test.YtgngbbkaghmnpaaQx0
namespace Go.Proofs.Ytgngbbkaghmnpaa.Q
open Go.RowKit Go.Proofs.YtgngbbkaghmnpaaW.PrintWords Go.Proofs.YtgngbbkaghmnpaaW.PrintLast Go.Proofs.YtgngbbkaghmnpaaW.PrintMore
attribute [local go_sem] max2_int min2_int max_two min_two max_three min_three max_four min_four   -- for this text's walks alone
set_option linter.unusedVariables false
set_option linter.unusedSimpArgs false

/-! ### casementref12_two: function 36 -/
def casementref12_two.f (a0 : Int) : Option (List Int) := some (([(Int.tmod a0 256) % 256, (wrap64 (Int.tdiv a0 256)) % 256] : List Int))
set_option maxHeartbeats 8000000 in
set_option maxRecDepth 100000 in
theorem casementref12_two.calls (a0 : Int) (r : List Int) (w : World) (h : casementref12_two.f a0 = some r) :
    Calls Try.prog 36 #[.int .i64 a0] w fun e w' => ∃ v0_ : Value, e = .returned (v0_) ∧ Kd.R (Kd.int .u8) 5 w' w.heap.size (fun _ => True) v0_ r ∧ Below w.heap.size w w' := by
  have HB := Aside0.mk (Below.refl w.heap.size w); have H : (some (([(Int.tmod a0 256) % 256, (wrap64 (Int.tdiv a0 256)) % 256] : List Int))) = some r := h; clear h; obtain ⟨y441, hy441⟩ : ∃ y_ : List Int, y_ = (([(Int.tmod a0 256) % 256, (wrap64 (Int.tdiv a0 256)) % 256] : List Int)) := ⟨_, rfl⟩
  replace H : (some y441) = some r := by first | (rw [hy441]; with_reducible exact H) | (have H2_ := (Option.bind_some _ _).symm.trans H; rw [hy441]; with_reducible exact H2_) | (have H2_ := (Option.bind_some _ _).symm.trans H; with_reducible exact H2_) | with_reducible exact H | (rw [hy441]; exact H) | exact H
  have Ny441 := Aside0.mk hy441; clear hy441; obtain rfl := Option.some.inj H
  go_enter Try.func36, Try.ntmps36
  go_wp2_with (first | ((with_reducible refine gate_dst (N := 9) rfl ?_); refine Kd.R_lit (Kd.int .u8) _ 5 ?hg (N := 9) ?hd (xs := ([(Int.tmod a0 256) % 256, (wrap64 (Int.tdiv a0 256)) % 256] : List Int)) (inner := [.int .u8 ((Int.tmod a0 256) % 256), .int .u8 ((wrap64 (Int.tdiv a0 256)) % 256)]) (ok := fun _ => True) (okp := fun _ => True) ?hr ?hp (fun _ hk => hk) trivial (Below.refl _ _) (Nat.le_refl _) (by simp) ?_; (case hd => rfl); (case hg => rfl); (case hr => first | (go_simp; done) | (go_simp; rfl)); (case hp => exact (Reps.one (show Kd.M (Kd.int .u8) _ _ _ ((Int.tmod a0 256) % 256) [.int .u8 ((Int.tmod a0 256) % 256)] from rfl) (Reps.one (show Kd.M (Kd.int .u8) _ _ _ ((wrap64 (Int.tdiv a0 256)) % 256) [.int .u8 ((wrap64 (Int.tdiv a0 256)) % 256)] from rfl) (Reps.none _ _)))); intro v442 w2 ho3 hb hg_ hnew_; clear hg_ hnew_; (first | rw [← Ny441.out] at ho3 | (simp only [Int.reduceToNat] at ho3; rw [← Ny441.out] at ho3)); have HO443 := Aside0.mk (Kd.R_lower ho3 (below_size (bn0 HB))); replace HB := Aside0.mk (below_step (bn0 HB) hb); clear hb ho3))
  go_ret
  exact ⟨_, by first | rfl | (simp [errW_none, errW_some] <;> rfl) | (simp [*, errW_none, errW_some] <;> rfl), by (with_reducible repeat (first | apply Kd.R_alloc | apply Kd.R_drewN | apply Kd.R_drew)); exact HO443.out, bn0 HB⟩

end Go.Proofs.Ytgngbbkaghmnpaa.Q
