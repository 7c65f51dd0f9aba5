/- A rectangle's parts, as the reference makes them; and lists that are the same. No condition. -/
import Derived.Test.YtmokmkaipcojkaaRL
import Derived.Test.YtmokmkaipcojkaaRD
import Derived.Test.YtmokmkaipcojkaaQx35
import Derived.Test.YtmokmkaipcojkaaQx32
import Derived.Test.YtmokmkaipcojkaaQx33
import Derived.Test.YtmokmkaipcojkaaQx34
namespace Go.Proofs.Ytmokmkaipcojkaa.Rect
open Go.RowKit Go.Proofs.Ytmokmkaipcojkaa.Q Go.Proofs.YtmokmkaipcojkaaW.PrintWords Go.Proofs.YtmokmkaipcojkaaW.PrintLast Go.Proofs.YtmokmkaipcojkaaW.PrintMore

theorem high_eq (a b : Int) : casementref02_high.f a b = some (max a b) := by unfold casementref02_high.f; split <;> (refine congrArg some ?_; omega)
theorem low_eq (a b : Int) : casementref02_low.f a b = some (min a b) := by unfold casementref02_low.f; split <;> (refine congrArg some ?_; omega)
theorem refCut_loop (across : Bool) (l : List Int) : ∀ (d k i : Nat) (out : List S26) (X Y W H : Int), min l.length 16 - i = d → i ≤ min l.length 16 → out.length ≤ i → Lft X Y W H → 2 * d + 3 ≤ k →
    casementref02_Cut.l0 k l across out (i : Int) X Y W H = some (out ++ cutS across ((l.take 16).drop i) X Y W H) := by
  intro d
  induction d with
  | zero =>
    intro k i out X Y W H hd hi ho hL hk
    obtain ⟨k, rfl⟩ : ∃ q, k = q + 2 := ⟨k - 2, by omega⟩
    have hj : casementref02_Cut.j1 (k + 1) l across out (i : Int) false X Y W H = some out := by rw [casementref02_Cut.j1, if_neg (by decide)]
    rw [casementref02_Cut.l0, List.drop_eq_nil_of_le (by simp; omega)]
    simp only [cutS, List.append_nil]
    split
    · rw [show decide ((i : Int) < 16) = false from by simp; omega, hj]
    · exact hj
  | succ d ih =>
    intro k i out X Y W H hd hi ho hL hk
    obtain ⟨k, rfl⟩ : ∃ q, k = q + 2 := ⟨k - 2, by omega⟩
    have hlt : i < l.length := by omega
    have hlt' : i < (l.take 16).length := by simp; omega
    unfold Lft at hL
    rw [casementref02_Cut.l0, if_pos (by omega), show decide ((i : Int) < 16) = true from by simp; omega, casementref02_Cut.j1, if_pos rfl, if_pos (by omega), if_pos (by omega), rd_at l i hlt, drop_at (l.take 16) i hlt', List.getElem_take]
    generalize l[i] = n
    rw [wrap_id (n := (i : Int) + 1) (by unfold I64; omega), show ((i : Int) + 1) = ((i + 1 : Nat) : Int) from by omega, high_eq]
    simp only [Option.bind_some]
    cases across
    · rw [if_neg (by decide), low_eq, show min (max n 0) W = max 0 (min n W) from by omega]
      simp only [Option.bind_some]
      rw [refClean_k (by omega)]
      simp only [Option.bind_some]
      have hb : 0 ≤ max 0 (min n W) ∧ max 0 (min n W) ≤ W := by omega
      rw [if_pos (by omega), wrap_id (n := X + _) (by unfold I64; omega), wrap_id (n := W - _) (by unfold I64; omega)]
      rw [ih k (i + 1) _ _ _ _ _ (by omega) (by omega) (by simp; omega) (by unfold Lft; omega) (by omega)]
      simp [cutS, mkS]
    · rw [if_pos rfl, low_eq, show min (max n 0) H = max 0 (min n H) from by omega]
      simp only [Option.bind_some]
      rw [refClean_k (by omega)]
      simp only [Option.bind_some]
      have hb : 0 ≤ max 0 (min n H) ∧ max 0 (min n H) ≤ H := by omega
      rw [if_pos (by omega), wrap_id (n := Y + _) (by unfold I64; omega), wrap_id (n := H - _) (by unfold I64; omega)]
      rw [ih k (i + 1) _ _ _ _ _ (by omega) (by omega) (by simp; omega) (by unfold Lft; omega) (by omega)]
      simp [cutS, mkS]
theorem refCut_eq {X Y W H : Int} (n : Nrm X Y W H) (l : List Int) (across : Bool) {k : Nat} (hk : 40 ≤ k) : casementref02_Cut.f k X Y W H l across = some (cutS across (l.take 16) X Y W H) := by
  unfold casementref02_Cut.f
  have := refCut_loop across l (min l.length 16) k 0 [] X Y W H (by omega) (by omega) (by simp) (lft_of n) (by omega)
  simpa using this
theorem same_loop (l : List S26) (hl : l.length ≤ 1000000) : ∀ (d k i : Nat), l.length - i = d → i ≤ l.length → d < k → casementref02_Same.l0 k l l (i : Int) = some true := by
  intro d
  induction d with
  | zero =>
    intro k i hd hi hk
    obtain ⟨k, rfl⟩ : ∃ q, k = q + 1 := ⟨k - 1, by omega⟩
    rw [casementref02_Same.l0, if_neg (by omega)]
  | succ d ih =>
    intro k i hd hi hk
    obtain ⟨k, rfl⟩ : ∃ q, k = q + 1 := ⟨k - 1, by omega⟩
    rw [casementref02_Same.l0, if_pos (by omega), if_pos (by omega), if_pos (by omega), if_neg (by simp)]
    rw [wrap_id (n := (i : Int) + 1) (by unfold I64; omega), show ((i : Int) + 1) = ((i + 1 : Nat) : Int) from by omega]
    exact ih k (i + 1) (by omega) (by omega) (by omega)
theorem same_self (l : List S26) (hl : l.length ≤ 1000000) {k : Nat} (hk : l.length < k) : casementref02_Same.f k l l = some true := by
  unfold casementref02_Same.f
  rw [if_pos rfl]
  exact same_loop l hl l.length k 0 (by omega) (by omega) (by omega)
end Go.Proofs.Ytmokmkaipcojkaa.Rect
