/- How many cells lie in some of many rectangles, as the reference counts them. No condition. -/
import Derived.Test.YtmokmkaipcojkaaRY
import Derived.Test.YtmokmkaipcojkaaRD
import Derived.Test.YtmokmkaipcojkaaQx18
import Derived.Test.YtmokmkaipcojkaaQx17
namespace Go.Proofs.Ytmokmkaipcojkaa.Rect
open Go.RowKit Go.Proofs.Ytmokmkaipcojkaa.Q Go.Proofs.YtmokmkaipcojkaaW.PrintWords Go.Proofs.YtmokmkaipcojkaaW.PrintLast Go.Proofs.YtmokmkaipcojkaaW.PrintMore

theorem refHas_eq {X Y W H : Int} (n : Nrm X Y W H) (a b : Int) : casementref02_Has.f X Y W H a b = some (inB X Y W H a b) := by
  have h := has_eq (cl_of_nrm n) a b
  unfold rect_Has.f at h
  rw [clean_eq, cl_of_nrm n] at h
  exact h
theorem refClean_clR (q : S26) {k : Nat} (hk : 1 ≤ k) : casementref02_Clean.f k q.f0 q.f1 q.f2 q.f3 = some ((clR q).f0, (clR q).f1, (clR q).f2, (clR q).f3) := refClean_k hk _ _ _ _
section
variable {r : Int} {rs : List S26} {X Y W H : Int}
theorem ref_old {i : Nat} {x y n : Int} (hi : i ≤ rs.length) (hi2 : i ≤ 24) (hn : 0 ≤ n ∧ n ≤ 1000000) : ∀ (d kk : Nat) (old : Bool), i - kk = d → kk ≤ i →
    Evt (fun k => casementref02_Cover.l2 k rs (n + if old = true ∨ 0 < cnt x y (((rs.take i).map clR).drop kk) then 0 else 1) (i : Int) y (wrap64 (x + 1)) X Y W H) r →
    Evt (fun k => casementref02_Cover.l3 k rs n (i : Int) y x old (kk : Int) X Y W H) r := by
  intro d
  induction d with
  | zero =>
    intro kk old hd hk h
    rw [List.drop_eq_nil_of_le (by simp; omega)] at h
    refine Evt.step (fun k => ?_) (Evt.step (g := fun k => casementref02_Cover.j5 k rs n (i : Int) y x old (kk : Int) false X Y W H) (fun k => ?_) h)
    · rw [casementref02_Cover.l3, if_neg (by omega)]
    · rw [casementref02_Cover.j5, if_neg (by decide), wrap_id (n := n + 1) (by unfold I64; omega)]
      cases old
      · rw [if_neg (by decide), if_neg (by simp [cnt])]
      · rw [if_pos rfl, if_pos (by simp), Int.add_zero]
  | succ d ih =>
    intro kk old hd hk h
    have hlt : kk < rs.length := by omega
    have hlt' : kk < ((rs.take i).map clR).length := by simp; omega
    cases old
    · have e : ((rs.take i).map clR)[kk] = clR rs[kk] := by simp
      rw [List.drop_eq_getElem_cons hlt', e] at h
      have hc := clR_nrm rs[kk]
      refine Evt.step (fun k => ?_) (Evt.stepL (g := fun k => casementref02_Cover.j5 k rs n (i : Int) y x false (kk : Int) true X Y W H) 1 (fun k hk1 => ?_) (ih (kk + 1) (inR (clR rs[kk]) x y) (by omega) (by omega) ?_))
      · rw [casementref02_Cover.l3, if_pos (by omega)]
        rfl
      · rw [casementref02_Cover.j5, if_pos rfl, if_pos (by omega), if_pos (by omega), rd_T26_at rs kk hlt, refClean_clR _ hk1]
        simp only [Option.bind_some]
        rw [refHas_eq hc]
        simp only [Option.bind_some]
        rw [wrap_id (n := (kk : Int) + 1) (by unfold I64; omega), show ((kk : Int) + 1) = ((kk + 1 : Nat) : Int) from by omega]
        rfl
      · have hq : (inR (clR rs[kk]) x y = true ∨ 0 < cnt x y (((rs.take i).map clR).drop (kk + 1))) ↔ (false = true ∨ 0 < cnt x y (clR rs[kk] :: ((rs.take i).map clR).drop (kk + 1))) := by
          have := cnt_nonneg x y (((rs.take i).map clR).drop (kk + 1))
          have e2 : cnt x y (clR rs[kk] :: ((rs.take i).map clR).drop (kk + 1)) = (if inR (clR rs[kk]) x y = true then 1 else 0) + cnt x y (((rs.take i).map clR).drop (kk + 1)) := rfl
          rw [e2]
          by_cases t : inR (clR rs[kk]) x y = true
          · rw [if_pos t]
            exact ⟨fun _ => .inr (by omega), fun _ => .inl t⟩
          · rw [if_neg t, Int.zero_add]
            exact ⟨fun h => h.elim (fun h => absurd h t) .inr, fun h => h.elim (fun h => by cases h) .inr⟩
        by_cases t : false = true ∨ 0 < cnt x y (clR rs[kk] :: ((rs.take i).map clR).drop (kk + 1))
        · rw [if_pos t] at h
          rw [if_pos (hq.2 t)]
          exact h
        · rw [if_neg t] at h
          rw [if_neg (fun hh => t (hq.1 hh))]
          exact h
    · rw [if_pos (.inl rfl), Int.add_zero] at h
      refine Evt.step (fun k => ?_) (Evt.step (g := fun k => casementref02_Cover.j5 k rs n (i : Int) y x true (kk : Int) false X Y W H) (fun k => ?_) h)
      · rw [casementref02_Cover.l3, if_pos (by omega)]
        rfl
      · rw [casementref02_Cover.j5, if_neg (by decide), if_pos rfl]
/-- What a cell adds. -/
def adds (rs : List S26) (i : Nat) (x y : Int) : Int := if 0 < cnt x y ((rs.take i).map clR) then 0 else 1
theorem adds_bd (rs : List S26) (i : Nat) (x y : Int) : 0 ≤ adds rs i x y ∧ adds rs i x y ≤ 1 := by unfold adds; split <;> omega
theorem sumR_bd {lo : Int} {g : Int → Int} {c : Int} (h : ∀ x, 0 ≤ g x ∧ g x ≤ c) : ∀ n : Nat, 0 ≤ sumR lo g n ∧ sumR lo g n ≤ c * n
  | 0 => by simp [sumR]
  | n + 1 => by
    have h1 := sumR_bd (lo := lo) h n
    have h2 := h (lo + n)
    simp only [sumR]
    rw [show ((n + 1 : Nat) : Int) = (n : Int) + 1 from by omega, Int.mul_add, Int.mul_one]
    omega
theorem ref_row {i : Nat} {y n : Int} (hi : i ≤ rs.length) (hi2 : i ≤ 24) (hX : -5000 ≤ X ∧ X ≤ 5000) (hW : 0 ≤ W ∧ W ≤ 200) : ∀ (d j : Nat) (n : Int), W.toNat - j = d → j ≤ W.toNat → 0 ≤ n → n ≤ 990000 + j →
    Evt (fun k => casementref02_Cover.l1 k rs (n + (sumR X (fun x => adds rs i x y) W.toNat - sumR X (fun x => adds rs i x y) j)) (i : Int) (wrap64 (y + 1)) X Y W H) r →
    Evt (fun k => casementref02_Cover.l2 k rs n (i : Int) y (X + j) X Y W H) r := by
  intro d
  induction d with
  | zero =>
    intro j n hd hj h0 h1 h
    rw [show j = W.toNat from by omega, Int.sub_self, Int.add_zero] at h
    refine Evt.step (fun k => ?_) h
    rw [casementref02_Cover.l2, wrap_id (n := X + W) (by unfold I64; omega), if_neg (by omega)]
  | succ d ih =>
    intro j n hd hj h0 h1 h
    have hb := adds_bd rs i (X + j) y
    have hnext := ih (j + 1) (n + adds rs i (X + j) y) (by omega) (by omega) (by omega) (by omega) (by
      have e : n + adds rs i (X + j) y + (sumR X (fun x => adds rs i x y) W.toNat - sumR X (fun x => adds rs i x y) (j + 1)) = n + (sumR X (fun x => adds rs i x y) W.toNat - sumR X (fun x => adds rs i x y) j) := by
        simp only [sumR]
        omega
      rw [e]
      exact h)
    refine Evt.step (fun k => ?_) (ref_old (X := X) (Y := Y) (W := W) (H := H) (x := X + j) (y := y) (n := n) hi hi2 (by omega) i 0 false (by omega) (by omega) ?_)
    · rw [casementref02_Cover.l2, wrap_id (n := X + W) (by unfold I64; omega), if_pos (by omega)]
      rfl
    · rw [List.drop_zero, wrap_id (n := X + j + 1) (by unfold I64; omega), show X + (j : Int) + 1 = X + ((j + 1 : Nat) : Int) from by omega]
      have e : (n + if false = true ∨ 0 < cnt (X + j) y ((rs.take i).map clR) then 0 else 1) = n + adds rs i (X + j) y := by
        unfold adds
        by_cases t : 0 < cnt (X + j) y ((rs.take i).map clR)
        · rw [if_pos (.inr t), if_pos t]
        · rw [if_neg (fun hh => hh.elim (fun h => by cases h) t), if_neg t]
      rw [e]
      exact hnext
theorem ref_rows {i : Nat} (hi : i ≤ rs.length) (hi2 : i ≤ 24) (hX : -5000 ≤ X ∧ X ≤ 5000) (hW : 0 ≤ W ∧ W ≤ 200) (hY : -5000 ≤ Y ∧ Y ≤ 5000) (hH : 0 ≤ H ∧ H ≤ 200) : ∀ (d j : Nat) (n : Int), H.toNat - j = d → j ≤ H.toNat → 0 ≤ n → n ≤ 950000 + 200 * j →
    Evt (fun k => casementref02_Cover.l0 k rs (n + (cells X Y W H (adds rs i) - sumR Y (fun y => sumR X (fun x => adds rs i x y) W.toNat) j)) (wrap64 ((i : Int) + 1))) r →
    Evt (fun k => casementref02_Cover.l1 k rs n (i : Int) (Y + j) X Y W H) r := by
  intro d
  induction d with
  | zero =>
    intro j n hd hj h0 h1 h
    rw [show j = H.toNat from by omega] at h
    unfold cells at h
    rw [Int.sub_self, Int.add_zero] at h
    refine Evt.step (fun k => ?_) h
    rw [casementref02_Cover.l1, wrap_id (n := Y + H) (by unfold I64; omega), if_neg (by omega)]
  | succ d ih =>
    intro j n hd hj h0 h1 h
    have hb := sumR_bd (lo := X) (g := fun x => adds rs i x (Y + j)) (c := 1) (fun x => adds_bd rs i x (Y + j)) W.toNat
    have hnext := ih (j + 1) (n + sumR X (fun x => adds rs i x (Y + j)) W.toNat) (by omega) (by omega) (by omega) (by omega) (by
      have e : n + sumR X (fun x => adds rs i x (Y + j)) W.toNat + (cells X Y W H (adds rs i) - sumR Y (fun y => sumR X (fun x => adds rs i x y) W.toNat) (j + 1)) = n + (cells X Y W H (adds rs i) - sumR Y (fun y => sumR X (fun x => adds rs i x y) W.toNat) j) := by
        simp only [sumR]
        omega
      rw [e]
      exact h)
    refine Evt.step (fun k => ?_) (ref_row (X := X) (Y := Y) (W := W) (H := H) (y := Y + j) (n := n) hi hi2 hX hW W.toNat 0 n (by omega) (by omega) h0 (by omega) ?_)
    · rw [casementref02_Cover.l1, wrap_id (n := Y + H) (by unfold I64; omega), if_pos (by omega)]
      simp
    · rw [wrap_id (n := Y + j + 1) (by unfold I64; omega), show Y + (j : Int) + 1 = Y + ((j + 1 : Nat) : Int) from by omega]
      simp only [sumR, Int.sub_zero]
      exact hnext
end
theorem cells_bd {c : S26} (hc : NrmS c) (rs : List S26) (i : Nat) : 0 ≤ cells c.f0 c.f1 c.f2 c.f3 (adds rs i) ∧ cells c.f0 c.f1 c.f2 c.f3 (adds rs i) ≤ 40000 := by
  unfold NrmS Nrm at hc
  unfold cells
  have h1 : ∀ y, 0 ≤ sumR c.f0 (fun x => adds rs i x y) c.f2.toNat ∧ sumR c.f0 (fun x => adds rs i x y) c.f2.toNat ≤ 200 := fun y => by
    have := sumR_bd (lo := c.f0) (g := fun x => adds rs i x y) (c := 1) (fun x => adds_bd rs i x y) c.f2.toNat
    omega
  have := sumR_bd (lo := c.f1) (g := fun y => sumR c.f0 (fun x => adds rs i x y) c.f2.toNat) (c := 200) h1 c.f3.toNat
  omega
theorem ref_loop {rs : List S26} : ∀ (d i : Nat) (n : Int), min rs.length 24 - i = d → i ≤ min rs.length 24 → 0 ≤ n → n ≤ 39000 * i + 1000 * i →
    Evt (fun k => casementref02_Cover.l0 k rs n (i : Int)) (n + refN (((rs.take 24).drop i).map clR) ((rs.take i).map clR)) := by
  intro d
  induction d with
  | zero =>
    intro i n hd hi h0 h1
    rw [List.drop_eq_nil_of_le (by simp; omega)]
    simp only [List.map_nil, refN, Int.add_zero]
    refine ⟨2, fun k hk => ?_⟩
    obtain ⟨k, rfl⟩ : ∃ q, k = q + 2 := ⟨k - 2, by omega⟩
    have hj : casementref02_Cover.j1 (k + 1) rs n (i : Int) false = some n := by rw [casementref02_Cover.j1, if_neg (by decide)]
    (try simp only)
    rw [casementref02_Cover.l0]
    split
    · rw [show decide ((i : Int) < 24) = false from by simp; omega, hj]
    · exact hj
  | succ d ih =>
    intro i n hd hi h0 h1
    have hlt : i < rs.length := by omega
    have hlt' : i < (rs.take 24).length := by simp; omega
    have hc := clR_nrm rs[i]
    have hb := cells_bd hc rs i
    have hn : Nrm (clR rs[i]).f0 (clR rs[i]).f1 (clR rs[i]).f2 (clR rs[i]).f3 := hc
    unfold Nrm at hn
    have e1 : (rs.take 24)[i] = rs[i] := by simp
    have e2 : (rs.take (i + 1)).map clR = (rs.take i).map clR ++ [clR rs[i]] := by rw [List.take_succ_eq_append_getElem hlt, List.map_append]; rfl
    have hnext := ih (i + 1) (n + cells (clR rs[i]).f0 (clR rs[i]).f1 (clR rs[i]).f2 (clR rs[i]).f3 (adds rs i)) (by omega) (by omega) (by omega) (by omega)
    rw [List.drop_eq_getElem_cons hlt', e1, List.map_cons, refN, ← Int.add_assoc]
    rw [e2] at hnext
    have h4 := ref_rows (rs := rs) (X := (clR rs[i]).f0) (Y := (clR rs[i]).f1) (W := (clR rs[i]).f2) (H := (clR rs[i]).f3) (i := i) (r := n + cells (clR rs[i]).f0 (clR rs[i]).f1 (clR rs[i]).f2 (clR rs[i]).f3 (adds rs i) + refN (((rs.take 24).drop (i + 1)).map clR) ((rs.take i).map clR ++ [clR rs[i]])) (by omega) (by omega) (by omega) (by omega) (by omega) (by omega) ((clR rs[i]).f3).toNat 0 n (by omega) (by omega) h0 (by omega) (by
      rw [wrap_id (n := (i : Int) + 1) (by unfold I64; omega), show ((i : Int) + 1) = ((i + 1 : Nat) : Int) from by omega]
      simp only [sumR, Int.sub_zero]
      exact hnext)
    refine Evt.step (fun k => ?_) (Evt.stepL (g := fun k => casementref02_Cover.j1 k rs n (i : Int) true) 1 (fun k hk => ?_) h4)
    · rw [casementref02_Cover.l0, if_pos (by omega), show decide ((i : Int) < 24) = true from by simp; omega]
    · rw [casementref02_Cover.j1, if_pos rfl, if_pos (by omega), if_pos (by omega), rd_T26_at rs i hlt, refClean_clR _ hk]
      simp
theorem ref_evt (rs : List S26) : Evt (fun k => casementref02_Cover.f k rs) (refN ((rs.take 24).map clR) []) := by
  have h := ref_loop (rs := rs) (min rs.length 24) 0 0 (by omega) (by omega) (by omega) (by omega)
  rw [Int.zero_add] at h
  exact h
end Go.Proofs.Ytmokmkaipcojkaa.Rect
