/- A cell is in the meeting just if both have it, in what is left just if one alone has it, in the hull if one has it: RectCells answers true for every two rectangles and every cell. No condition. -/
import Derived.Test.YtmokmkaipcojkaaQx41
import Derived.Test.YtmokmkaipcojkaaRA
import Derived.Test.YtmokmkaipcojkaaRN
import Derived.Test.YtmokmkaipcojkaaRO
namespace Go.Proofs.Ytmokmkaipcojkaa.Pure
open Go.RowKit Go.Proofs.Ytmokmkaipcojkaa.Q Go.Proofs.YtmokmkaipcojkaaW.PrintWords Go.Proofs.YtmokmkaipcojkaaW.PrintLast Go.Proofs.Ytmokmkaipcojkaa.Rect

theorem cells_loop (a b : Int) (p q : Bool) (L : List S26) (hL : ∀ r ∈ L, NrmS r) (hl : L.length ≤ 4) (x y w h x' y' w' h' : Int) : ∀ (d m i : Nat) (c : Int), L.length - i = d → i ≤ L.length → 0 ≤ c → c ≤ i →
    casementlaw02_RectCells.l0 (d + m) a b p q c L (L.length : Int) (i : Int) x y w h x' y' w' h' = casementlaw02_RectCells.l0 m a b p q (c + cnt a b (L.drop i)) L (L.length : Int) (L.length : Int) x y w h x' y' w' h' := by
  intro d
  induction d with
  | zero =>
    intro m i c hd hi h0 h1
    rw [List.drop_eq_nil_of_le (by omega), show i = L.length from by omega]
    simp [cnt]
  | succ d ih =>
    intro m i c hd hi h0 h1
    have hlt : i < L.length := by omega
    have hr := hL L[i] (List.getElem_mem hlt)
    rw [show d + 1 + m = (d + m) + 1 from by omega]
    conv => lhs; rw [casementlaw02_RectCells.l0]
    rw [if_pos (by omega), if_pos (by omega), if_pos (by omega), rd_T26_at L i hlt, List.drop_eq_getElem_cons hlt]
    generalize L[i] = r at *
    rw [has_of hr, wrap_id (n := (i : Int) + 1) (by unfold I64; omega), wrap_id (n := c + 1) (by unfold I64; omega), show ((i : Int) + 1) = ((i + 1 : Nat) : Int) from by omega]
    simp only [Option.bind_some, cnt]
    by_cases t : inR r a b = true
    · rw [if_pos t, if_pos t, ih m (i + 1) (c + 1) (by omega) (by omega) (by omega) (by omega)]
      rw [Int.add_assoc]
    · rw [if_neg t, if_neg t, ih m (i + 1) c (by omega) (by omega) (by omega) (by omega), Int.zero_add]

theorem RectCells : casementlaw02_RectCells.Pure := by
  intro x y w h x' y' w' h' a b _ _ _ _ _ _ _ _ _ _
  obtain ⟨X, Y, W, H, e, n, _⟩ := cl_nrm x y w h
  obtain ⟨X', Y', W', H', e', n', _⟩ := cl_nrm x' y' w' h'
  have hl := minusS_length X Y W H X' Y' W' H'
  refine ⟨70, ?_⟩
  unfold casementlaw02_RectCells.f
  rw [alive_k (by decide), has_eq e, has_eq e', minus_eq e e' n n' (by decide)]
  simp only [Option.bind_some, if_true]
  generalize hL : minusS X Y W H X' Y' W' H' = L at *
  obtain ⟨m, hm⟩ : ∃ m, 70 = L.length + (m + 3) := ⟨67 - L.length, by omega⟩
  have hloop := cells_loop a b (inB X Y W H a b) (inB X' Y' W' H' a b) L (hL ▸ minusS_nrm X Y W H X' Y' W' H') hl x y w h x' y' w' h' L.length (m + 3) 0 0 (by omega) (by omega) (by omega) (by omega)
  rw [← hm] at hloop
  refine Eq.trans hloop ?_
  rw [List.drop_zero, Int.zero_add, ← hL, minusS_cnt n n']
  rw [casementlaw02_RectCells.l0, if_neg (by omega), meet_eq e e' n n']
  obtain ⟨M, N, P, R, em, nm, rm⟩ := meetS_nrm n n'
  rw [em]
  simp only [Option.bind_some]
  rw [has_eq (cl_of_nrm nm)]
  simp only [Option.bind_some]
  have hmeet : inB M N P R a b = (inB X Y W H a b && inB X' Y' W' H' a b) := by
    unfold inB
    rw [← Bool.decide_and, decide_eq_decide]
    unfold Nrm at n n' nm
    omega
  rw [hmeet]
  have hend : casementlaw02_RectCells.j1 (m + 2) a b (inB X Y W H a b) (inB X' Y' W' H' a b) false x y w h x' y' w' h' = some true := by
    rw [casementlaw02_RectCells.j1, if_neg (by decide), hull_eq e e' n n']
    obtain ⟨U, V, S, T, eh, nh, rh⟩ := hullS_nrm n n'
    rw [eh]
    simp only [Option.bind_some]
    by_cases c1 : S = 200
    · rw [if_pos c1]
    · rw [if_neg c1]
      by_cases c2 : T = 200
      · rw [if_pos c2]
      · rw [if_neg c2, has_eq (cl_of_nrm nh)]
        simp only [Option.bind_some]
        by_cases c3 : inB U V S T a b = true
        · rw [if_pos c3]
        · rw [if_neg c3]
          have h1 : inB X Y W H a b = false := by
            unfold inB at *
            simp only [decide_eq_true_eq, decide_eq_false_iff_not] at *
            unfold Nrm at n n' nh
            omega
          have h2 : inB X' Y' W' H' a b = false := by
            unfold inB at *
            simp only [decide_eq_true_eq, decide_eq_false_iff_not] at *
            unfold Nrm at n n' nh
            omega
          rw [h1, h2]
          rfl
  generalize inB X Y W H a b = p at *
  generalize inB X' Y' W' H' a b = q at *
  cases p <;> cases q <;> simp <;> first | exact hend | skip
end Go.Proofs.Ytmokmkaipcojkaa.Pure
