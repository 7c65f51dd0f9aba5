import Derived.Test.YtjdbamenbgfcjaaDoorGG
namespace Go.Proofs.YtjdbamenbgfcjaaDoor.Gl
open Go Go.RowKit Go.Proofs Go.Proofs.YtjdbamenbgfcjaaDoor.X
set_option linter.unusedVariables false
/-! What a bound on the arguments' bulk says of their lengths -/
theorem bulk_one {H : Type} (d : DataW H) : 1 ≤ Rows.uptoBulk d := by
  cases d with
  | lit l => cases l <;> simp [Rows.uptoBulk]
  | _ => simp [Rows.uptoBulk]
theorem bulk_len {H : Type} (l : List (DataW H)) : l.length ≤ Rows.uptoBulkAll l := by
  induction l with
  | nil => simp [Rows.uptoBulkAll]
  | cons x r ih => have := bulk_one x; simp only [Rows.uptoBulkAll, List.length_cons]; omega
theorem bulk_part {H : Type} {d : DataW H} {l : List (DataW H)} (h : d ∈ l) : Rows.uptoBulk d ≤ Rows.uptoBulkAll l := by
  induction l with
  | nil => cases h
  | cons x r ih =>
    simp only [Rows.uptoBulkAll]
    cases List.mem_cons.1 h with
    | inl e => subst e; omega
    | inr e => have := ih e; omega
theorem bulk_of {H : Type} {l : List (DataW H)} (hk : Rows.uptoSmall H l = true) {d : DataW H} (h : d ∈ l) : Rows.uptoBulk d ≤ 1048576 :=
  Nat.le_trans (bulk_part h) (of_decide_eq_true hk)
section
variable {H : Type} {enc : TypeId × Value → H} {P : Program} {w : World} {t e : TypeId}
/-- a slice is no longer than its bulk; so are its elements -/
theorem slice_bulk {fuel : Nat} {cs : List Value} {x : DataW H × List MemPlace} (ht : P.underlying t = some (.slice e)) (h : DataW.trod enc P w 0 (fun _ => true) true fuel t cs = some x) :
    ∃ a len cap, cs = [.slice a len cap] ∧ len ≤ Rows.uptoBulk x.1 := by
  rcases Go.Deep.open_slice ht h with ⟨rfl, rfl⟩ | ⟨a, len, cap, m, n, D, Pl, rfl, hb, hl, hm, hmm, rfl, hi⟩
  · exact ⟨none, 0, 0, rfl, Nat.zero_le _⟩
  · refine ⟨_, _, _, rfl, ?_⟩
    simp only [Rows.uptoBulk]
    have := bulk_len ((List.range len).map D)
    simp only [List.length_map, List.length_range] at this
    omega
theorem arg_bulk {v : Value} {dd : DataW H} {ps : List MemPlace} {s : Sh} {xs : List s.T} (ht : P.underlying t = some (.slice e)) (hT : DataW.Trod enc P w 0 (fun _ => true) true t v dd ps) (hK : LR (R1 w (low w)) ((Sh.sl s).dv xs) v.cells.toList)
    (hb : Rows.uptoBulk dd ≤ 1048576) : xs.length ≤ 1048576 := by
  obtain ⟨fuel, hf⟩ := hT
  obtain ⟨a, len, cap, h1, h2⟩ := slice_bulk ht hf
  rw [h1] at hK
  have h3 : R1 w (low w) (.sl xs.length (xs.flatMap s.dv)) (.slice a len cap) := hK.1
  obtain ⟨a', cap', us, hv, _⟩ := h3.sl_inv
  simp only [Value.slice.injEq] at hv
  have : len ≤ 1048576 := Nat.le_trans h2 hb
  omega
end
/-! What a bound on the arguments' bulk says of the rows within a slice of slices -/
section
variable {H : Type} {enc : TypeId × Value → H} {P : Program} {w : World} {t e e' : TypeId}
theorem flat_at {s : Sh} (h1 : ∀ a : s.T, (s.dv a).length = 1) : ∀ (xs : List s.T) (i : Nat) (a : s.T), xs[i]? = some a → (xs.flatMap s.dv)[i]? = (s.dv a)[0]?
  | [], i, a, h => by simp at h
  | x :: xs, 0, a, h => by
    simp only [List.getElem?_cons_zero, Option.some.injEq] at h
    subst h
    rw [List.flatMap_cons, List.getElem?_append_left (by rw [h1]; omega)]
  | x :: xs, i + 1, a, h => by
    rw [List.getElem?_cons_succ] at h
    rw [List.flatMap_cons, List.getElem?_append_right (by rw [h1]; omega), h1, Nat.add_sub_cancel]
    exact flat_at h1 xs i a h
theorem rows_bulk {v : Value} {dd : DataW H} {ps : List MemPlace} {s : Sh} {xs : List (Sh.sl s).T} (ht : P.underlying t = some (.slice e)) (he : P.underlying e = some (.slice e')) (hc : P.cellsOf e = 1) (hT : DataW.Trod enc P w 0 (fun _ => true) true t v dd ps)
    (hK : LR (R1 w (low w)) ((Sh.sl (Sh.sl s)).dv xs) v.cells.toList) {B : Nat} (hb : Rows.uptoBulk dd ≤ B) : ∀ r ∈ xs, List.length r ≤ B := by
  obtain ⟨fuel, hf⟩ := hT
  intro r hr
  obtain ⟨i, hi⟩ := List.mem_iff_getElem?.1 hr
  have h1 : ∀ a : (Sh.sl s).T, ((Sh.sl s).dv a).length = 1 := fun a => rfl
  rcases Go.Deep.open_slice1 ht hc hf with ⟨h2, h3⟩ | ⟨a, len, cap, m, n, V, D, Pl, h2, hb0, hl, hm, hmm, h3, hx⟩
  · rw [h2] at hK
    have hR : R1 w (low w) (.sl (List.length xs) (List.flatMap (Sh.sl s).dv xs)) (.slice none 0 0) := hK.1
    obtain ⟨a', cap', us, hv, hn, _⟩ := hR.sl_inv
    simp only [Value.slice.injEq] at hv
    have : xs.length = 0 := by omega
    rw [List.length_eq_zero_iff.1 this] at hi
    simp at hi
  · rw [h2] at hK
    have hR : R1 w (low w) (.sl (List.length xs) (List.flatMap (Sh.sl s).dv xs)) (.slice (some a) len cap) := hK.1
    obtain ⟨a', cap', us, hv, hn, hL, hA⟩ := hR.sl_inv
    simp only [Value.slice.injEq] at hv
    obtain ⟨ha, hlen, _⟩ := hv
    have hil : i < xs.length := (List.getElem?_eq_some_iff.1 hi).1
    have hd := flat_at h1 xs i r hi
    have hul := hL.length
    have hfl : (List.flatMap (Sh.sl s).dv xs).length = xs.length := by rw [flat_len (z := 1) (fun a => rfl), Nat.mul_one]
    obtain ⟨u, hu⟩ : ∃ u, us[i]? = some u := ⟨_, List.getElem?_eq_getElem (by omega)⟩
    have hRi := hL.get (hd.trans rfl) hu
    have hm' : m = cap := by simpa using hmm
    obtain ⟨g1, g2⟩ := hx i (by omega)
    obtain ⟨ai, li, ci, g3, g4⟩ := slice_bulk he g2
    simp only [List.cons.injEq, and_true] at g3
    have hlie : w.cell? (a.add i) = some u := by
      rcases hA with h | ⟨b, hb1, _, hLie⟩
      · rw [h] at hu; simp at hu
      · rw [← ha] at hb1
        cases hb1
        exact hLie.cell i u hu
    rw [hlie] at g1
    cases g1
    rw [g3] at hRi
    obtain ⟨a2, cap2, us2, hv2, _⟩ := R1.sl_inv hRi
    simp only [Value.slice.injEq] at hv2
    have hlr : li = List.length r := hv2.2.1
    have hDi : D i ∈ (List.range len).map D := List.mem_map.2 ⟨i, by simp only [List.mem_range]; omega, rfl⟩
    have hDb : Rows.uptoBulk (D i) ≤ Rows.uptoBulk dd := by
      rw [show dd = DataW.slice _ _ from (congrArg Prod.fst h3)]
      simp only [Rows.uptoBulk]
      have := bulk_part hDi
      omega
    have g5 : List.length r ≤ Rows.uptoBulk (D i) := by rw [← hlr]; exact g4
    exact Nat.le_trans g5 (Nat.le_trans hDb hb)
end
end Go.Proofs.YtjdbamenbgfcjaaDoor.Gl
