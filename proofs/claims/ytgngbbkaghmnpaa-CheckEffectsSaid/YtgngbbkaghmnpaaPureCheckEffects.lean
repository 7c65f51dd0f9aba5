/- Every instruction takes and puts as many numbers as said: CheckEffects answers true for every module and instruction. No condition. -/
import Derived.Test.YtgngbbkaghmnpaaQx34
import Derived.Test.YtgngbbkaghmnpaaCA
namespace Go.Proofs.Ytgngbbkaghmnpaa.Pure
open Go.RowKit Go.Proofs.Ytgngbbkaghmnpaa.Q Go.Proofs.YtgngbbkaghmnpaaW.PrintWords Go.Proofs.YtgngbbkaghmnpaaW.PrintLast Go.Proofs.Ytgngbbkaghmnpaa.Chk

theorem alive_ok : casementlaw13_alive.f 100 = some true := by kernel_rfl
theorem alive_k {k : Nat} (hk : 100 ≤ k) : casementlaw13_alive.f k = some true := at_rounds casementlaw13_alive.mono hk alive_ok
theorem effects_loop {m : Int} {d : List Int} {l : List S42} {f op n : Int} (hl : l.length ≤ 9000000000000000000) : ∀ (e k i : Nat), l.length - i = e → i ≤ l.length → e + 10 ≤ k →
    casementlaw13_CheckEffects.l0 k f op n l (l.length : Int) (i : Int) m d l = some true := by
  intro e
  induction e with
  | zero =>
    intro k i he hi hk
    obtain ⟨k, rfl⟩ : ∃ q, k = q + 1 := ⟨k - 1, by omega⟩
    obtain ⟨v, h1, h2⟩ := eff_eq m d l f op n (k := k) (by omega)
    rw [casementlaw13_CheckEffects.l0, if_neg (by omega)]
    unfold casementlaw13_ins.f
    simp only [Option.bind_some]
    rw [h1, h2]
    simp
  | succ e ih =>
    intro k i he hi hk
    obtain ⟨k, rfl⟩ : ∃ q, k = q + 1 := ⟨k - 1, by omega⟩
    have hnext := ih k (i + 1) (by omega) (by omega) (by omega)
    rw [casementlaw13_CheckEffects.l0, if_pos (by omega), if_pos (by omega), if_pos (by omega), wrap_id (n := (i : Int) + 1) (by unfold I64; omega), show ((i : Int) + 1) = ((i + 1 : Nat) : Int) from by omega, hnext]
    repeat' split
    all_goals rfl
theorem CheckEffects : casementlaw13_CheckEffects.Pure := by
  intro m d l f op n _ _ _ _ _ hb _ _ _ _
  refine ⟨l.length + 100, ?_⟩
  unfold casementlaw13_CheckEffects.f
  rw [alive_k (by omega)]
  simp only [Option.bind_some, if_true]
  exact effects_loop (by omega) l.length _ 0 (by omega) (by omega) (by omega)
end Go.Proofs.Ytgngbbkaghmnpaa.Pure
