/- What is left of one rectangle without another, and in which of the parts a cell lies. No condition. -/
import Derived.Test.YtmokmkaipcojkaaRI
import Derived.Test.YtmokmkaipcojkaaQx8
namespace Go.Proofs.Ytmokmkaipcojkaa.Rect
open Go.RowKit Go.Proofs.Ytmokmkaipcojkaa.Q Go.Proofs.YtmokmkaipcojkaaW.PrintWords Go.Proofs.YtmokmkaipcojkaaW.PrintLast Go.Proofs.YtmokmkaipcojkaaW.PrintMore

def mkR (p : Int × Int × Int × Int) : S26 := ⟨p.1, p.2.1, p.2.2.1, p.2.2.2⟩
def NrmS (r : S26) : Prop := Nrm r.f0 r.f1 r.f2 r.f3
def inR (r : S26) (a b : Int) : Bool := inB r.f0 r.f1 r.f2 r.f3 a b
def nz (r : S26) : Bool := !(r.f2 == 0)
theorem mkR_nrm (x y w h : Int) : NrmS (mkR (cl x y w h)) := by
  obtain ⟨X, Y, W, H, e, n, _⟩ := cl_nrm x y w h
  rw [e]
  exact n
theorem has_of {r : S26} (n : NrmS r) (a b : Int) : rect_Has.f r.f0 r.f1 r.f2 r.f3 a b = some (inR r a b) := has_eq (cl_of_nrm n) a b
theorem rd_T26_at (l : List S26) (i : Nat) (h : i < l.length) : rd_T26 l (i : Int) = l[i] := by
  unfold rd_T26
  simp [h]
/-- How many of the rectangles have a cell. -/
def cnt (a b : Int) : List S26 → Int
  | [] => 0
  | r :: l => (if inR r a b = true then 1 else 0) + cnt a b l
theorem cnt_filter (a b : Int) : ∀ (l : List S26), (∀ r ∈ l, NrmS r) → cnt a b (l.filter nz) = cnt a b l
  | [], _ => rfl
  | r :: l, h => by
    have ih := cnt_filter a b l (fun q hq => h q (List.mem_cons_of_mem _ hq))
    have hr := h r List.mem_cons_self
    by_cases c : nz r = true
    · rw [List.filter_cons_of_pos c]
      simp only [cnt, ih]
    · rw [List.filter_cons_of_neg c, ih]
      have hz : inR r a b = false := by
        unfold nz at c
        simp at c
        unfold NrmS Nrm at hr
        unfold inR inB
        simp
        omega
      simp only [cnt, hz]
      simp
theorem minus_loop (l : List S26) (hn : ∀ r ∈ l, NrmS r) (hl : l.length ≤ 4) : ∀ (d k i : Nat) (out : List S26), l.length - i = d → i ≤ l.length → out.length ≤ i → d < k →
    rect_Minus.l0 k out l (l.length : Int) (i : Int) = some (out ++ (l.drop i).filter nz) := by
  intro d
  induction d with
  | zero =>
    intro k i out hd hi ho hk
    obtain ⟨k, rfl⟩ : ∃ q, k = q + 1 := ⟨k - 1, by omega⟩
    rw [rect_Minus.l0, if_neg (by omega), List.drop_eq_nil_of_le (by omega)]
    simp
  | succ d ih =>
    intro k i out hd hi ho hk
    obtain ⟨k, rfl⟩ : ∃ q, k = q + 1 := ⟨k - 1, by omega⟩
    have hlt : i < l.length := by omega
    have hr := hn l[i] (List.getElem_mem hlt)
    rw [rect_Minus.l0, if_pos (by omega), if_pos (by omega), if_pos (by omega), rd_T26_at l i hlt, List.drop_eq_getElem_cons hlt]
    generalize l[i] = r at *
    rw [empty_eq (cl_of_nrm hr), wrap_id (n := (i : Int) + 1) (by unfold I64; omega), show ((i : Int) + 1) = ((i + 1 : Nat) : Int) from by omega]
    simp only [Option.bind_some]
    by_cases c : r.f2 = 0
    · rw [if_pos (by simpa using c), ih k (i + 1) out (by omega) (by omega) (by omega) (by omega), List.filter_cons_of_neg (by unfold nz; simpa using c)]
    · rw [if_neg (by simpa using c), if_pos (by omega), ih k (i + 1) _ (by omega) (by omega) (by simp; omega) (by omega), List.filter_cons_of_pos (by unfold nz; simpa using c)]
      simp
/-- The four parts. -/
def four (X Y W H M N P R : Int) : List S26 := [mkR (cl X Y W (N - Y)), mkR (cl X N (M - X) R), mkR (cl (M + P) N (X + W - (M + P)) R), mkR (cl X (N + R) W (Y + H - (N + R)))]
theorem four_nrm (X Y W H M N P R : Int) : ∀ r ∈ four X Y W H M N P R, NrmS r := by
  intro r hr
  simp only [four, List.mem_cons, List.not_mem_nil, or_false] at hr
  rcases hr with rfl | rfl | rfl | rfl <;> exact mkR_nrm _ _ _ _
theorem minus_j {X Y W H M N P R : Int} (h1 : -5000 ≤ X ∧ -5000 ≤ Y ∧ X ≤ 5000 ∧ Y ≤ 5000) (h2 : 0 ≤ W ∧ 0 ≤ H ∧ X + W ≤ 5000 ∧ Y + H ≤ 5000) (h3 : -5000 ≤ M ∧ -5000 ≤ N ∧ M ≤ 5000 ∧ N ≤ 5000) (h4 : 0 ≤ P ∧ 0 ≤ R ∧ M + P ≤ 5000 ∧ N + R ≤ 5000) {k : Nat} (hk : 7 ≤ k) :
    rect_Minus.j0 k X Y W H M N P R = some ((four X Y W H M N P R).filter nz) := by
  obtain ⟨k, rfl⟩ : ∃ q, k = q + 1 := ⟨k - 1, by omega⟩
  rw [rect_Minus.j0]
  rw [wrap_id (n := X + W) (by unfold I64; omega), wrap_id (n := N + R) (by unfold I64; omega), wrap_id (n := M + P) (by unfold I64; omega), wrap_id (n := Y + H) (by unfold I64; omega)]
  rw [between_eq (by omega) (by omega) (by omega) (by omega)]
  simp only [Option.bind_some]
  rw [between_eq (by omega) (by omega) (by omega) (by omega)]
  simp only [Option.bind_some]
  rw [between_eq (by omega) (by omega) (by omega) (by omega)]
  simp only [Option.bind_some]
  rw [between_eq (by omega) (by omega) (by omega) (by omega)]
  simp only [Option.bind_some]
  rw [show X + W - X = W from by omega, show N + R - N = R from by omega]
  have := minus_loop (four X Y W H M N P R) (four_nrm _ _ _ _ _ _ _ _) (by simp [four]) 4 k 0 [] (by simp [four]) (by omega) (by simp) (by omega)
  simpa [four, mkR] using this
def minusS (X Y W H X' Y' W' H' : Int) : List S26 :=
  (if min (X + W) (X' + W') ≤ max X X' ∨ min (Y + H) (Y' + H') ≤ max Y Y' then four X Y W H X (Y + H) 0 0
    else four X Y W H (max X X') (max Y Y') (min (X + W) (X' + W') - max X X') (min (Y + H) (Y' + H') - max Y Y')).filter nz
theorem minus_eq {x y w h X Y W H x' y' w' h' X' Y' W' H' : Int} (e : cl x y w h = (X, Y, W, H)) (e' : cl x' y' w' h' = (X', Y', W', H')) (n : Nrm X Y W H) (n' : Nrm X' Y' W' H') {k : Nat} (hk : 7 ≤ k) :
    rect_Minus.f k x y w h x' y' w' h' = some (minusS X Y W H X' Y' W' H') := by
  unfold rect_Minus.f
  rw [clean_eq, e]
  simp only [Option.bind_some]
  rw [meet_eq (cl_of_nrm n) e' n n', (nrm_ends n).2]
  simp only [Option.bind_some]
  unfold Nrm at n n'
  unfold meetS minusS
  by_cases c : min (X + W) (X' + W') ≤ max X X' ∨ min (Y + H) (Y' + H') ≤ max Y Y'
  · rw [if_pos c, if_pos c, if_pos rfl, minus_j (by omega) (by omega) (by omega) (by omega) hk]
  · rw [if_neg c, if_neg c, if_neg (by simp only; omega)]
    dsimp only
    rw [minus_j (by omega) (by omega) (by omega) (by omega) hk]
theorem inR_cl {x y w h : Int} (h1 : -5000 ≤ x) (h2 : -5000 ≤ y) (h3 : x + w ≤ 5000) (h4 : y + h ≤ 5000) (h5 : w ≤ 200) (h6 : h ≤ 200) (a b : Int) : inR (mkR (cl x y w h)) a b = decide (x ≤ a ∧ a < x + w ∧ y ≤ b ∧ b < y + h) := by
  rw [cl_in h1 h2 h3 h4 h5 h6]
  unfold inR inB mkR
  split <;> simp only [decide_eq_decide] <;> omega
theorem minusS_nrm (X Y W H X' Y' W' H' : Int) : ∀ r ∈ minusS X Y W H X' Y' W' H', NrmS r := by
  intro r hr
  unfold minusS at hr
  have := (List.mem_filter.1 hr).1
  split at this <;> exact four_nrm _ _ _ _ _ _ _ _ r this
theorem minusS_length (X Y W H X' Y' W' H' : Int) : (minusS X Y W H X' Y' W' H').length ≤ 4 := by
  unfold minusS
  refine Nat.le_trans (List.length_filter_le _ _) ?_
  split <;> simp [four]
/-- Each cell that the one alone has lies in just one part; no other cell lies in one. -/
theorem minusS_cnt {X Y W H X' Y' W' H' : Int} (n : Nrm X Y W H) (n' : Nrm X' Y' W' H') (a b : Int) :
    cnt a b (minusS X Y W H X' Y' W' H') = if inB X Y W H a b = true ∧ inB X' Y' W' H' a b = false then 1 else 0 := by
  unfold Nrm at n n'
  unfold minusS
  have hin : inB X Y W H a b = true ↔ X ≤ a ∧ a < X + W ∧ Y ≤ b ∧ b < Y + H := by unfold inB; simp
  have hin' : inB X' Y' W' H' a b = false ↔ ¬ (X' ≤ a ∧ a < X' + W' ∧ Y' ≤ b ∧ b < Y' + H') := by unfold inB; exact decide_eq_false_iff_not
  simp only [hin, hin']
  have b1 : -5000 ≤ X ∧ -5000 ≤ Y ∧ X + W ≤ 5000 ∧ Y + H ≤ 5000 ∧ 0 ≤ W ∧ 0 ≤ H ∧ W ≤ 200 ∧ H ≤ 200 := by omega
  have b2 : -5000 ≤ X' ∧ -5000 ≤ Y' ∧ X' + W' ≤ 5000 ∧ Y' + H' ≤ 5000 ∧ 0 ≤ W' ∧ 0 ≤ H' ∧ W' ≤ 200 ∧ H' ≤ 200 := by omega
  clear n n' hin hin'
  by_cases c : min (X + W) (X' + W') ≤ max X X' ∨ min (Y + H) (Y' + H') ≤ max Y Y'
  · rw [if_pos c, cnt_filter _ _ _ (four_nrm _ _ _ _ _ _ _ _)]
    simp only [four, cnt]
    rw [inR_cl (by omega) (by omega) (by omega) (by omega) (by omega) (by omega), inR_cl (by omega) (by omega) (by omega) (by omega) (by omega) (by omega), inR_cl (by omega) (by omega) (by omega) (by omega) (by omega) (by omega), inR_cl (by omega) (by omega) (by omega) (by omega) (by omega) (by omega)]
    simp only [decide_eq_true_eq]
    rw [if_neg (c := X ≤ a ∧ a < X + (X - X) ∧ _) (by omega), if_neg (c := X + 0 ≤ a ∧ _) (by omega), if_neg (c := X ≤ a ∧ a < X + W ∧ Y + H + 0 ≤ b ∧ _) (by omega)]
    by_cases d : X ≤ a ∧ a < X + W ∧ Y ≤ b ∧ b < Y + H
    · rw [if_pos (by omega), if_pos ⟨d, by omega⟩]
      rfl
    · rw [if_neg (by omega), if_neg (fun h => d h.1)]
      rfl
  · rw [if_neg c, cnt_filter _ _ _ (four_nrm _ _ _ _ _ _ _ _)]
    simp only [four, cnt]
    generalize hM : max X X' = M
    generalize hN : max Y Y' = N
    generalize hE : min (X + W) (X' + W') = E
    generalize hF : min (Y + H) (Y' + H') = F
    rw [show M + (E - M) = E from by omega, show N + (F - N) = F from by omega]
    rw [inR_cl (by omega) (by omega) (by omega) (by omega) (by omega) (by omega), inR_cl (by omega) (by omega) (by omega) (by omega) (by omega) (by omega), inR_cl (by omega) (by omega) (by omega) (by omega) (by omega) (by omega), inR_cl (by omega) (by omega) (by omega) (by omega) (by omega) (by omega)]
    simp only [decide_eq_true_eq]
    have k1 : (X' ≤ a ∧ a < X' + W' ∧ Y' ≤ b ∧ b < Y' + H') ∧ (X ≤ a ∧ a < X + W ∧ Y ≤ b ∧ b < Y + H) ↔ M ≤ a ∧ a < E ∧ N ≤ b ∧ b < F := by omega
    have k2 : X ≤ M ∧ M < E ∧ E ≤ X + W ∧ Y ≤ N ∧ N < F ∧ F ≤ Y + H := by omega
    clear hM hN hE hF c b1 b2
    by_cases d : X ≤ a ∧ a < X + W ∧ Y ≤ b ∧ b < Y + H
    · by_cases t1 : b < N
      · rw [if_pos (by omega), if_neg (by omega), if_neg (by omega), if_neg (by omega), if_pos ⟨d, fun h => by omega⟩]
        rfl
      · by_cases t2 : F ≤ b
        · rw [if_neg (by omega), if_neg (by omega), if_neg (by omega), if_pos (by omega), if_pos ⟨d, fun h => by omega⟩]
          rfl
        · by_cases t3 : a < M
          · rw [if_neg (by omega), if_pos (by omega), if_neg (by omega), if_neg (by omega), if_pos ⟨d, fun h => by omega⟩]
            rfl
          · by_cases t4 : E ≤ a
            · rw [if_neg (by omega), if_neg (by omega), if_pos (by omega), if_neg (by omega), if_pos ⟨d, fun h => by omega⟩]
              rfl
            · rw [if_neg (by omega), if_neg (by omega), if_neg (by omega), if_neg (by omega), if_neg (fun h => h.2 (by omega))]
              rfl
    · rw [if_neg (by omega), if_neg (by omega), if_neg (by omega), if_neg (by omega), if_neg (fun h => d h.1)]
      rfl
end Go.Proofs.Ytmokmkaipcojkaa.Rect
