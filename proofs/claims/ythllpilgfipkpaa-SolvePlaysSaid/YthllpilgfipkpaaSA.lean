/- Which sizes are right, as both texts have it; the least total. Conditions: sizes of 64 bits. -/
import Derived.Test.YthllpilgfipkpaaQx2
import Derived.Test.YthllpilgfipkpaaQx10
import Derived.Test.YthllpilgfipkpaaQx5
import Derived.Test.YthllpilgfipkpaaQx4
import Derived.Test.YthllpilgfipkpaaQx3
import Derived.Test.YthllpilgfipkpaaQx9
import Derived.OpenShut
namespace Go.Proofs.Ythllpilgfipkpaa.Solve
open Go.RowKit Go.Proofs.Ythllpilgfipkpaa.Q Go.Proofs.YthllpilgfipkpaaW.PrintWords Go.Proofs.YthllpilgfipkpaaW.PrintLast Go.Proofs.YthllpilgfipkpaaW.PrintMore

theorem alive_ok : casementlaw09_alive.f 60 = some true := by kernel_rfl
theorem alive_k {k : Nat} (hk : 60 ≤ k) : casementlaw09_alive.f k = some true := at_rounds casementlaw09_alive.mono hk alive_ok
def I64 (a : Int) : Prop := -9223372036854775808 ≤ a ∧ a ≤ 9223372036854775807
theorem i64_of {a : Int} (h : (Lit.int .i64 a).wf = true) : I64 a := by
  have := bounds_i64 h
  exact ⟨by omega, by omega⟩
theorem wrap_id {n : Int} (h : I64 n) : wrap64 n = n := by unfold wrap64 I64 at *; omega
theorem rd_at (l : List Int) (i : Nat) (h : i < l.length) : rd l (i : Int) = l[i] := by
  unfold rd
  simp [h]
theorem rdT_at (l : List S70) (i : Nat) (h : i < l.length) : rd_T70 l (i : Int) = l[i] := by
  unfold rd_T70
  simp [h]
def right (s : S70) : Bool := decide (s.f0 = 0 ∨ (s.f0 = 1 ∧ 1 ≤ s.f1 ∧ s.f1 ≤ 200) ∨ (s.f0 = 2 ∧ 1 ≤ s.f1 ∧ s.f1 ≤ 100))
theorem check_k (s : S70) {k : Nat} (hk : 1 ≤ k) : solve_Check.f k s.f0 s.f1 = some (if right s = true then 0 else 1) := by
  obtain ⟨k, rfl⟩ : ∃ q, k = q + 1 := ⟨k - 1, by omega⟩
  unfold solve_Check.f right
  simp only [solve_Check.j0, decide_eq_true_eq, Bool.false_eq_true, if_false]
  repeat' split
  all_goals first | rfl | (exfalso; omega)
theorem refRight_eq (s : S70) : casementref09_Right.f s.f0 s.f1 = some (right s) := by
  unfold casementref09_Right.f right
  repeat' split
  all_goals (refine congrArg some ?_; first | (rw [decide_eq_decide]; omega) | (rw [eq_comm, decide_eq_true_eq]; omega) | (rw [eq_comm, decide_eq_false_iff_not]; omega))
theorem bad_k (s : S70) {k : Nat} (hk : 1 ≤ k) : solve_Share_1.f k s.f0 s.f1 = some (!right s) := by
  unfold solve_Share_1.f
  rw [check_k s hk]
  cases right s <;> rfl
theorem index_loop (l : List S70) (hl : l.length ≤ 9000000000000000000) : ∀ (d k i : Nat), l.length - i = d → i ≤ l.length → d + 1 < k →
    ∃ r : Int, api_Size_56.l0 k l (l.length : Int) (i : Int) = some r ∧ (0 ≤ r ↔ ∃ s ∈ l.drop i, right s = false) := by
  intro d
  induction d with
  | zero =>
    intro k i hd hi hk
    obtain ⟨k, rfl⟩ : ∃ q, k = q + 1 := ⟨k - 1, by omega⟩
    refine ⟨-1, by rw [api_Size_56.l0, if_neg (by omega)], ?_⟩
    rw [List.drop_eq_nil_of_le (by omega)]
    simp
  | succ d ih =>
    intro k i hd hi hk
    obtain ⟨k, rfl⟩ : ∃ q, k = q + 1 := ⟨k - 1, by omega⟩
    have hlt : i < l.length := by omega
    rw [api_Size_56.l0, if_pos (by omega), if_pos (by omega), if_pos (by omega), rdT_at l i hlt, bad_k _ (by omega)]
    simp only [Option.bind_some]
    rw [List.drop_eq_getElem_cons hlt]
    cases hb : right l[i]
    · refine ⟨(i : Int), by simp, ?_⟩
      simp only [List.mem_cons, exists_eq_or_imp]
      exact ⟨fun _ => .inl hb, fun _ => by omega⟩
    · obtain ⟨r, hr, hq⟩ := ih k (i + 1) (by omega) (by omega) (by omega)
      refine ⟨r, ?_, ?_⟩
      · rw [if_neg (by decide), wrap_id (n := (i : Int) + 1) (by unfold I64; omega), show ((i : Int) + 1) = ((i + 1 : Nat) : Int) from by omega]
        exact hr
      · rw [hq]
        simp only [List.mem_cons, exists_eq_or_imp, hb]
        simp
theorem contains_k (l : List S70) (hl : l.length ≤ 9000000000000000000) {k : Nat} (hk : l.length + 2 ≤ k) : api_Size_51.f k l = some (l.any fun s => !right s) := by
  obtain ⟨r, hr, hq⟩ := index_loop l hl l.length k 0 (by omega) (by omega) (by omega)
  unfold api_Size_51.f api_Size_56.f
  rw [show ((0 : Int)) = ((0 : Nat) : Int) from rfl, hr]
  simp only [Option.bind_some]
  refine congrArg some ?_
  rw [Bool.eq_iff_iff, decide_eq_true_eq, List.any_eq_true]
  rw [List.drop_zero] at hq
  simp only [ge_iff_le]
  rw [show ((0 : Nat) : Int) = 0 from rfl, hq]
  simp
end Go.Proofs.Ythllpilgfipkpaa.Solve
