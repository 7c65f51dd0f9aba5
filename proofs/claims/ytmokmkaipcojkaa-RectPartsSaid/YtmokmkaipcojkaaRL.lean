/- A rectangle's parts, as the program and the reference make them; and lists that are the same. Conditions: numbers of 64 bits. -/
import Derived.Test.YtmokmkaipcojkaaRC
import Derived.Test.YtmokmkaipcojkaaQx11
namespace Go.Proofs.Ytmokmkaipcojkaa.Rect
open Go.RowKit Go.Proofs.Ytmokmkaipcojkaa.Q Go.Proofs.YtmokmkaipcojkaaW.PrintWords Go.Proofs.YtmokmkaipcojkaaW.PrintLast Go.Proofs.YtmokmkaipcojkaaW.PrintMore

def mkS (p : Int × Int × Int × Int) : S26 := ⟨p.1, p.2.1, p.2.2.1, p.2.2.2⟩
/-- The parts, one behind the other. -/
def cutS (across : Bool) : List Int → Int → Int → Int → Int → List S26
  | [], _, _, _, _ => []
  | n :: l, X, Y, W, H => match across with
    | true => mkS (cl X Y W (max 0 (min n H))) :: cutS across l X (Y + max 0 (min n H)) W (H - max 0 (min n H))
    | false => mkS (cl X Y (max 0 (min n W)) H) :: cutS across l (X + max 0 (min n W)) Y (W - max 0 (min n W)) H
/-- What is left of a rectangle: it lies in the field. -/
def Lft (X Y W H : Int) : Prop := -5000 ≤ X ∧ -5000 ≤ Y ∧ 0 ≤ W ∧ W ≤ 200 ∧ 0 ≤ H ∧ H ≤ 200 ∧ X + W ≤ 5000 ∧ Y + H ≤ 5000
theorem lft_of {X Y W H : Int} (n : Nrm X Y W H) : Lft X Y W H := by unfold Nrm Lft at *; omega
theorem rd_at (l : List Int) (i : Nat) (h : i < l.length) : rd l (i : Int) = l[i] := by
  unfold rd
  simp [h]
theorem drop_at {α : Type} (l : List α) (i : Nat) (h : i < l.length) : l.drop i = l[i] :: l.drop (i + 1) := List.drop_eq_getElem_cons h
theorem cut_loop (across : Bool) (l : List Int) (hl : l.length ≤ 16) : ∀ (d k i : Nat) (out : List S26) (X Y W H : Int), l.length - i = d → i ≤ l.length → out.length ≤ i → Lft X Y W H → d < k →
    rect_Cut.l0 k across out l (l.length : Int) (i : Int) X Y W H = some (out ++ cutS across (l.drop i) X Y W H) := by
  intro d
  induction d with
  | zero =>
    intro k i out X Y W H hd hi ho hL hk
    obtain ⟨k, rfl⟩ : ∃ q, k = q + 1 := ⟨k - 1, by omega⟩
    rw [rect_Cut.l0, if_neg (by omega), List.drop_eq_nil_of_le (by omega)]
    simp [cutS]
  | succ d ih =>
    intro k i out X Y W H hd hi ho hL hk
    obtain ⟨k, rfl⟩ : ∃ q, k = q + 1 := ⟨k - 1, by omega⟩
    have hlt : i < l.length := by omega
    unfold Lft at hL
    rw [rect_Cut.l0, if_pos (by omega), if_pos (by omega), if_pos (by omega), rd_at l i hlt, drop_at l i hlt]
    generalize l[i] = n
    rw [wrap_id (n := (i : Int) + 1) (by unfold I64; omega), show ((i : Int) + 1) = ((i + 1 : Nat) : Int) from by omega]
    cases across
    · rw [if_neg (by decide), clamp_eq]
      simp only [Option.bind_some]
      rw [clean_eq]
      simp only [Option.bind_some]
      have hb : 0 ≤ max 0 (min n W) ∧ max 0 (min n W) ≤ W := by omega
      rw [if_pos (by omega), wrap_id (n := X + _) (by unfold I64; omega), wrap_id (n := W - _) (by unfold I64; omega)]
      rw [ih k (i + 1) _ _ _ _ _ (by omega) (by omega) (by simp; omega) (by unfold Lft; omega) (by omega)]
      simp [cutS, mkS]
    · rw [if_pos rfl, clamp_eq]
      simp only [Option.bind_some]
      rw [clean_eq]
      simp only [Option.bind_some]
      have hb : 0 ≤ max 0 (min n H) ∧ max 0 (min n H) ≤ H := by omega
      rw [if_pos (by omega), wrap_id (n := Y + _) (by unfold I64; omega), wrap_id (n := H - _) (by unfold I64; omega)]
      rw [ih k (i + 1) _ _ _ _ _ (by omega) (by omega) (by simp; omega) (by unfold Lft; omega) (by omega)]
      simp [cutS, mkS]
theorem cut_eq {x y w h X Y W H : Int} (e : cl x y w h = (X, Y, W, H)) (n : Nrm X Y W H) (l : List Int) (across : Bool) {k : Nat} (hk : 17 ≤ k) :
    rect_Cut.f k x y w h l across = some (cutS across (l.take 16) X Y W H) := by
  unfold rect_Cut.f
  rw [clean_eq, e]
  simp only [Option.bind_some]
  have hm : mn (l.length : Int) 16 = ((min l.length 16 : Nat) : Int) := by unfold mn; split <;> omega
  rw [hm, if_pos (by omega), if_pos (by omega), Int.toNat_natCast]
  have ht : l.take (min l.length 16) = l.take 16 := by
    rcases Nat.le_total l.length 16 with c | c
    · rw [Nat.min_eq_left c, List.take_of_length_le (Nat.le_refl _), List.take_of_length_le c]
    · rw [Nat.min_eq_right c]
  rw [ht]
  have hl : (l.take 16).length ≤ 16 := by simp; omega
  have := cut_loop across (l.take 16) hl (l.take 16).length k 0 [] X Y W H (by omega) (by omega) (by simp) (lft_of n) (by omega)
  simpa using this
theorem cutS_length (across : Bool) : ∀ (l : List Int) (X Y W H : Int), (cutS across l X Y W H).length = l.length
  | [], _, _, _, _ => rfl
  | _ :: l, _, _, _, _ => by cases across <;> simp [cutS, cutS_length _ l]
end Go.Proofs.Ytmokmkaipcojkaa.Rect
