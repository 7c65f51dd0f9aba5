/- Rectangles moved, and made smaller step by step as the reference does it. Conditions: numbers of 64 bits. -/
import Derived.Test.YtmokmkaipcojkaaRJ
import Derived.Test.YtmokmkaipcojkaaRS
import Derived.Test.YtmokmkaipcojkaaRD
import Derived.Test.YtmokmkaipcojkaaQx28
import Derived.Test.YtmokmkaipcojkaaQx29
import Derived.Test.YtmokmkaipcojkaaQx30
import Derived.Test.YtmokmkaipcojkaaQx31
namespace Go.Proofs.Ytmokmkaipcojkaa.Rect
open Go.RowKit Go.Proofs.Ytmokmkaipcojkaa.Q Go.Proofs.YtmokmkaipcojkaaW.PrintWords Go.Proofs.YtmokmkaipcojkaaW.PrintLast Go.Proofs.YtmokmkaipcojkaaW.PrintMore

theorem nrm_i64 {X Y W H : Int} (n : Nrm X Y W H) : I64 X ∧ I64 Y := by unfold Nrm I64 at *; omega
theorem shift_eq {x y w h X Y W H dx dy : Int} (e : cl x y w h = (X, Y, W, H)) (n : Nrm X Y W H) (hx : I64 dx) (hy : I64 dy) {k : Nat} (hk : 1 ≤ k) :
    rect_Shift.f k x y w h dx dy = some (cl (sumS X dx) (sumS Y dy) W H) := by
  unfold rect_Shift.f
  rw [clean_eq, e]
  simp only [Option.bind_some]
  rw [sum_k hk (nrm_i64 n).1 hx, sum_k hk (nrm_i64 n).2 hy]
  simp only [Option.bind_some]
  rw [clean_eq]
  rfl
theorem refShift_eq {X Y W H dx dy : Int} (n : Nrm X Y W H) (hx : I64 dx) (hy : I64 dy) {k : Nat} (hk : 1 ≤ k) :
    casementref02_Shift.f k X Y W H dx dy = some (cl (sumS X dx) (sumS Y dy) W H) := by
  unfold casementref02_Shift.f
  rw [refSum_k hk (nrm_i64 n).1 hx, refSum_k hk (nrm_i64 n).2 hy]
  simp only [Option.bind_some]
  rw [refClean_k hk]
  rfl
theorem box_eq {x y r b : Int} (h1 : -20000 ≤ x ∧ x ≤ 20000) (h2 : -20000 ≤ y ∧ y ≤ 20000) (h3 : -20000 ≤ r ∧ r ≤ 20000) (h4 : -20000 ≤ b ∧ b ≤ 20000) {k : Nat} (hk : 1 ≤ k) : casementref02_box.f k x y r b = some (cl x y (r - x) (b - y)) := by
  unfold casementref02_box.f
  rw [wrap_id (by unfold I64; omega), wrap_id (by unfold I64; omega), refClean_k hk]
  rfl
theorem insS_clamp {X Y W H m m' : Int} (h : max 0 (min m 200) = max 0 (min m' 200)) : insS X Y W H m = insS X Y W H m' := by
  unfold insS
  rw [h]
theorem insS_none {X Y W H m : Int} (n : Nrm X Y W H) (hm : m ≤ 0) : insS X Y W H m = (X, Y, W, H) := by
  rw [insS_clamp (m' := 0) (by omega)]
  exact ins_zero n
theorem refInset_loop (m : Int) (hm : I64 m) : ∀ (d : Nat) (k : Nat) (i X Y W H : Int), Nrm X Y W H → W ≤ d → 0 ≤ i → d + 2 ≤ k → casementref02_Inset.l0 k m i X Y W H = some (insS X Y W H (m - i)) := by
  intro d
  induction d with
  | zero =>
    intro k i X Y W H n hW hi hk
    obtain ⟨k, rfl⟩ : ∃ q, k = q + 1 := ⟨k - 1, by omega⟩
    rw [casementref02_Inset.l0]
    have hz : X = 0 ∧ Y = 0 ∧ W = 0 ∧ H = 0 := by unfold Nrm at n; omega
    obtain ⟨rfl, rfl, rfl, rfl⟩ := hz
    have : insS 0 0 0 0 (m - i) = (0, 0, 0, 0) := by
      unfold insS
      rw [if_pos (by omega)]
    rw [this]
    split
    · rw [if_neg (by decide)]
    · rfl
  | succ d ih =>
    intro k i X Y W H n hW hi hk
    obtain ⟨k, rfl⟩ : ∃ q, k = q + 1 := ⟨k - 1, by omega⟩
    rw [casementref02_Inset.l0]
    by_cases c1 : i < m
    · rw [if_pos c1]
      by_cases c2 : W > 0
      · rw [if_pos c2]
        have n' := n
        unfold Nrm at n'
        unfold I64 at hm
        rw [wrap_id (n := X + 1) (by unfold I64; omega), wrap_id (n := Y + 1) (by unfold I64; omega), wrap_id (n := X + W) (by unfold I64; omega), wrap_id (n := Y + H) (by unfold I64; omega), wrap_id (n := X + W - 1) (by unfold I64; omega), wrap_id (n := Y + H - 1) (by unfold I64; omega), wrap_id (n := i + 1) (by unfold I64; omega)]
        rw [box_eq (by omega) (by omega) (by omega) (by omega) (by omega), cl_in (by omega) (by omega) (by omega) (by omega) (by omega) (by omega)]
        have e1 : (if X + W - 1 - (X + 1) ≤ 0 ∨ Y + H - 1 - (Y + 1) ≤ 0 then ((0, 0, 0, 0) : Int × Int × Int × Int) else (X + 1, Y + 1, X + W - 1 - (X + 1), Y + H - 1 - (Y + 1))) = insS X Y W H 1 := by
          unfold insS
          by_cases c : X + W - 1 - (X + 1) ≤ 0 ∨ Y + H - 1 - (Y + 1) ≤ 0
          · rw [if_pos c, if_pos (by omega)]
          · rw [if_neg c, if_neg (by omega)]
            simp only [Prod.mk.injEq]
            omega
        rw [e1]
        obtain ⟨X1, Y1, W1, H1, e2, n1, r1⟩ := insS_nrm n 1
        rw [e2]
        simp only [Option.bind_some]
        rw [ih k (i + 1) X1 Y1 W1 H1 n1 (by omega) (by omega) (by omega), ins_twice (by omega) (by omega) 1 (m - (i + 1)) e2]
        refine congrArg some (insS_clamp ?_)
        omega
      · rw [if_neg c2]
        have hz : X = 0 ∧ Y = 0 ∧ W = 0 ∧ H = 0 := by unfold Nrm at n; omega
        obtain ⟨rfl, rfl, rfl, rfl⟩ := hz
        unfold insS
        rw [if_pos (by omega)]
    · rw [if_neg c1, insS_none n (by omega)]
end Go.Proofs.Ytmokmkaipcojkaa.Rect
