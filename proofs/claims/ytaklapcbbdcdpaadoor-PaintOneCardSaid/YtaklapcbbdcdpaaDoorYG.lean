import Derived.Test.YtaklapcbbdcdpaaDoorYF
import Derived.Test.YtaklapcbbdcdpaaDoorXT
import Derived.Test.YtaklapcbbdcdpaaDoorProg
namespace Go.Proofs.YtaklapcbbdcdpaaDoor.X
open Go Go.RowKit
set_option linter.unusedVariables false
/-! The types of the seat are as the table says -/
def TRok (P : Program) (x : TypeId × TR) : Prop :=
  P.underlying x.1 = some x.2.d ∧ (P.info? x.1).map (fun i => (i.size, i.bytes, i.zero.map fun z => z.cells.toList)) = some (x.2.size, x.2.bytes, some x.2.zero) ∧ x.2.zero.length = x.2.size ∧ x.2.zero.all (fun u => u.oneCell') = true
theorem tiGet_mem : ∀ (l : List (TypeId × TR)) (t : TypeId) (r : TR), tiGet l t = some r → (t, r) ∈ l
  | [], t, r, h => by cases h
  | (u, r0) :: l, t, r, h => by
    unfold tiGet at h
    split at h
    · rename_i e
      simp only [Option.some.injEq] at h
      rw [beq_iff_eq] at e
      subst e; subst h; simp
    · exact List.mem_cons_of_mem _ (tiGet_mem l t r h)
theorem tiok_of {P : Program} {l : List (TypeId × TR)} (h : ∀ x ∈ l, TRok P x) : TIok P (tiGet l) := by
  refine ⟨fun t r ht => (h _ (tiGet_mem l t r ht)).1, fun t r ht => ?_⟩
  obtain ⟨_, h2, h3, h4⟩ := h _ (tiGet_mem l t r ht)
  obtain ⟨i, hi, he⟩ := Option.map_eq_some_iff.1 h2
  simp only [Prod.mk.injEq] at he
  obtain ⟨e1, e2, e3⟩ := he
  obtain ⟨z, hz, ez⟩ := Option.map_eq_some_iff.1 e3
  exact ⟨i, z, hi, e1, e2, hz, ez, h3, fun u hu => List.all_eq_true.1 h4 u hu⟩
theorem all_nil {P : Program} : ∀ x ∈ ([] : List (TypeId × TR)), TRok P x := fun x hx => by cases hx
theorem all_cons {P : Program} {y : TypeId × TR} {l : List (TypeId × TR)} (h : TRok P y) (hs : ∀ x ∈ l, TRok P x) : ∀ x ∈ y :: l, TRok P x := fun x hx => by
  rcases List.mem_cons.1 hx with rfl | hx
  · exact h
  · exact hs x hx
theorem tiok : TIok Tryd.prog ti := by
  refine tiok_of ?_
  unfold tiL
  repeat' refine all_cons ⟨by kernel_rfl, by kernel_rfl, by kernel_rfl, by kernel_rfl⟩ ?_
  exact all_nil
theorem mixed : Tryd.prog.follows .mixedOrders = true := by kernel_rfl
end Go.Proofs.YtaklapcbbdcdpaaDoor.X
