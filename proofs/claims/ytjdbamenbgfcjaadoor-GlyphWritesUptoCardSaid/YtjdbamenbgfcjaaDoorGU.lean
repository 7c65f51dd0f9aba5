import Derived.Test.YtjdbamenbgfcjaaDoorGG
namespace Go.Proofs.YtjdbamenbgfcjaaDoor.Gl
open Go Go.RowKit Go.Proofs Go.Proofs.YtjdbamenbgfcjaaDoor.X
set_option linter.unusedVariables false
/-! What a bound on the arguments' bulk says of their lengths -/
theorem bulk_one {H : Type} (d : DataW H) : 1 ≤ Rows.uptoBulk d := by
  cases d with
  | lit l => cases l <;> simp [Rows.uptoBulk]
  | _ => simp [Rows.uptoBulk]
theorem bulk_len {H : Type} (l : List (DataW H)) : l.length ≤ Rows.uptoBulkAll l := by
  induction l with
  | nil => simp [Rows.uptoBulkAll]
  | cons x r ih => have := bulk_one x; simp only [Rows.uptoBulkAll, List.length_cons]; omega
theorem bulk_part {H : Type} {d : DataW H} {l : List (DataW H)} (h : d ∈ l) : Rows.uptoBulk d ≤ Rows.uptoBulkAll l := by
  induction l with
  | nil => cases h
  | cons x r ih =>
    simp only [Rows.uptoBulkAll]
    cases List.mem_cons.1 h with
    | inl e => subst e; omega
    | inr e => have := ih e; omega
theorem bulk_of {H : Type} {l : List (DataW H)} (hk : Rows.uptoSmall H l = true) {d : DataW H} (h : d ∈ l) : Rows.uptoBulk d ≤ 1048576 :=
  Nat.le_trans (bulk_part h) (of_decide_eq_true hk)
section
variable {H : Type} {enc : TypeId × Value → H} {P : Program} {w : World} {t e : TypeId}
/-- a slice is no longer than its bulk; so are its elements -/
theorem slice_bulk {fuel : Nat} {cs : List Value} {x : DataW H × List MemPlace} (ht : P.underlying t = some (.slice e)) (h : DataW.trod enc P w 0 (fun _ => true) true fuel t cs = some x) :
    ∃ a len cap, cs = [.slice a len cap] ∧ len ≤ Rows.uptoBulk x.1 := by
  rcases Go.Deep.open_slice ht h with ⟨rfl, rfl⟩ | ⟨a, len, cap, m, n, D, Pl, rfl, hb, hl, hm, hmm, rfl, hi⟩
  · exact ⟨none, 0, 0, rfl, Nat.zero_le _⟩
  · refine ⟨_, _, _, rfl, ?_⟩
    simp only [Rows.uptoBulk]
    have := bulk_len ((List.range len).map D)
    simp only [List.length_map, List.length_range] at this
    omega
theorem arg_bulk {v : Value} {dd : DataW H} {ps : List MemPlace} {s : Sh} {xs : List s.T} (ht : P.underlying t = some (.slice e)) (hT : DataW.Trod enc P w 0 (fun _ => true) true t v dd ps) (hK : LR (R1 w (low w)) ((Sh.sl s).dv xs) v.cells.toList)
    (hb : Rows.uptoBulk dd ≤ 1048576) : xs.length ≤ 1048576 := by
  obtain ⟨fuel, hf⟩ := hT
  obtain ⟨a, len, cap, h1, h2⟩ := slice_bulk ht hf
  rw [h1] at hK
  have h3 : R1 w (low w) (.sl xs.length (xs.flatMap s.dv)) (.slice a len cap) := hK.1
  obtain ⟨a', cap', us, hv, _⟩ := h3.sl_inv
  simp only [Value.slice.injEq] at hv
  have : len ≤ 1048576 := Nat.le_trans h2 hb
  omega
end
end Go.Proofs.YtjdbamenbgfcjaaDoor.Gl
