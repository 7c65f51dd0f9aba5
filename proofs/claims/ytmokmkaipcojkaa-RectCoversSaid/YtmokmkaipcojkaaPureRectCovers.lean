/- How many cells lie in some of many rectangles is as said: RectCovers answers true for every list of rectangles. No condition. -/
import Derived.Test.YtmokmkaipcojkaaQx19
import Derived.Test.YtmokmkaipcojkaaRA
import Derived.Test.YtmokmkaipcojkaaRZ
namespace Go.Proofs.Ytmokmkaipcojkaa.Pure
open Go.RowKit Go.Proofs.Ytmokmkaipcojkaa.Q Go.Proofs.YtmokmkaipcojkaaW.PrintWords Go.Proofs.YtmokmkaipcojkaaW.PrintLast Go.Proofs.Ytmokmkaipcojkaa.Rect

theorem covers_loop {rs : List S26} {r : Bool} (h : Evt (fun k => casementlaw02_RectCovers.j1 k rs (arsR ((rs.take 24).map clR))) r) : ∀ (d i : Nat), min rs.length 24 - i = d → i ≤ min rs.length 24 →
    Evt (fun k => casementlaw02_RectCovers.l0 k rs (arsR (((rs.take 24).take i).map clR)) (i : Int)) r := by
  intro d
  induction d with
  | zero =>
    intro i hd hi
    rw [List.take_of_length_le (by simp; omega)]
    refine Evt.step (fun k => ?_) h
    rw [casementlaw02_RectCovers.l0]
    split
    · rw [if_neg (by omega)]
    · rfl
  | succ d ih =>
    intro i hd hi
    have hlt : i < rs.length := by omega
    have hlt' : i < (rs.take 24).length := by simp; omega
    have hc := clR_nrm rs[i]
    have ha := area_pos hc
    have e1 : (rs.take 24)[i] = rs[i] := by simp
    have happ : ∀ l m : List S26, arsR (l ++ m) = arsR l + arsR m := by
      intro l m
      induction l with
      | nil => simp [arsR]
      | cons q l ih => simp only [List.cons_append, arsR, ih, Int.add_assoc]
    have hb := arsR_bd (((rs.take 24).take i).map clR) (fun q hq => by
      obtain ⟨p, _, rfl⟩ := List.mem_map.1 hq
      exact clR_nrm p)
    have hlen : ((((rs.take 24).take i).map clR).length : Int) ≤ 24 := by simp; omega
    have hnext := ih (i + 1) (by omega) (by omega)
    rw [List.take_succ_eq_append_getElem hlt', e1, List.map_append, happ] at hnext
    refine Evt.step (fun k => ?_) hnext
    rw [casementlaw02_RectCovers.l0, if_pos (by omega), if_pos (by omega), if_pos (by omega), rd_T26_at rs i hlt]
    have hcl : cl rs[i].f0 rs[i].f1 rs[i].f2 rs[i].f3 = ((clR rs[i]).f0, (clR rs[i]).f1, (clR rs[i]).f2, (clR rs[i]).f3) := rfl
    rw [area_eq hcl]
    simp only [Option.bind_some]
    rw [wrap_id (n := (clR rs[i]).f2 * (clR rs[i]).f3) (by unfold I64; omega), wrap_id (n := arsR _ + _) (by unfold I64; omega), wrap_id (n := (i : Int) + 1) (by unfold I64; omega), show ((i : Int) + 1) = ((i + 1 : Nat) : Int) from by omega]
    simp [arsR]

theorem RectCovers : casementlaw02_RectCovers.Pure := by
  intro rs _ _ _
  have hn : ∀ q ∈ (rs.take 24).map clR, NrmS q := fun q hq => by
    obtain ⟨p, _, rfl⟩ := List.mem_map.1 hq
    exact clR_nrm p
  have hle := (covN_le ((rs.take 24).map clR) [] hn (by simp)).2
  have heq := covN_eq ((rs.take 24).map clR) [] [] hn (by simp) (fun _ _ => Iff.rfl)
  obtain ⟨K1, h1⟩ := cover_evt rs
  obtain ⟨K2, h2⟩ := ref_evt rs
  have hj : Evt (fun k => casementlaw02_RectCovers.j1 k rs (arsR ((rs.take 24).map clR))) true := by
    refine ⟨K1 + K2 + 1, fun k hk => ?_⟩
    obtain ⟨k, rfl⟩ : ∃ q, k = q + 1 := ⟨k - 1, by omega⟩
    have e1 := h1 k (by omega)
    have e2 := h2 k (by omega)
    (try simp only at e1 e2 ⊢)
    rw [casementlaw02_RectCovers.j1, e1, e2]
    simp only [Option.bind_some]
    split
    · refine congrArg some ?_
      simpa using hle
    · rw [heq]
      simp
  obtain ⟨K, hK⟩ := covers_loop hj (min rs.length 24) 0 (by omega) (by omega)
  refine ⟨K + 60, ?_⟩
  unfold casementlaw02_RectCovers.f
  rw [alive_k (by omega)]
  simp only [Option.bind_some, if_true]
  exact hK (K + 60) (by omega)
end Go.Proofs.Ytmokmkaipcojkaa.Pure
