/- Which modules are right, as the program has it. No condition but numbers of 64 bits. -/
import Derived.Test.YtgngbbkaghmnpaaCF
import Derived.Test.YtgngbbkaghmnpaaQx5
namespace Go.Proofs.Ytgngbbkaghmnpaa.Chk
open Go.RowKit Go.Proofs.Ytgngbbkaghmnpaa.Q Go.Proofs.YtgngbbkaghmnpaaW.PrintWords Go.Proofs.YtgngbbkaghmnpaaW.PrintLast Go.Proofs.YtgngbbkaghmnpaaW.PrintMore

def has (op : Int) : Bool := op == 1 || op == 5 || op == 6 || op == 24 || op == 25 || op == 26 || op == 28
def insOk (c : S46) : Bool := decide (0 ≤ c.f0 ∧ c.f0 ≤ 29) && (has c.f0 || decide (c.f1 = 0))
def fnBnd (x : S42) : Bool := decide (0 ≤ x.f0 ∧ x.f0 ≤ 8 ∧ 0 ≤ x.f1 ∧ x.f1 ≤ 1 ∧ 0 ≤ x.f2 ∧ x.f2 ≤ 16 - x.f0 ∧ 1 ≤ x.f3.length ∧ x.f3.length ≤ 400)
def fnOk (x : S42) : Bool := fnBnd x && x.f3.all insOk
def modBnd (m : Int) (d : List Int) (l : List S42) : Bool := decide (0 ≤ m ∧ m ≤ 1024 ∧ (d.length : Int) ≤ m ∧ 1 ≤ l.length ∧ l.length ≤ 16)
def modOk (m : Int) (d : List Int) (l : List S42) : Bool := modBnd m d l && l.all fnOk
/-- Numbers of 64 bits, and rows that may be. -/
structure Mok (m : Int) (d : List Int) (l : List S42) : Prop where
  hm : I64 m
  hd : d.length ≤ 140737488351232
  hl : l.length ≤ 140737488351232
  hx : ∀ x ∈ l, okS42 x
theorem has_f (op : Int) {k : Nat} (hk : 8 ≤ k) : module_Has.f k op = some (has op) := by
  refine at_rounds (g := fun k => module_Has.f k op) (module_Has.mono op) hk ?_
  by_cases h : op = 1 ∨ op = 5 ∨ op = 6 ∨ op = 24 ∨ op = 25 ∨ op = 26 ∨ op = 28
  · rcases h with rfl | rfl | rfl | rfl | rfl | rfl | rfl <;> kernel_rfl
  · have h1 : ¬ op = 1 := by omega
    have h2 : ¬ op = 5 := by omega
    have h3 : ¬ op = 6 := by omega
    have h4 : ¬ op = 24 := by omega
    have h5 : ¬ op = 25 := by omega
    have h6 : ¬ op = 26 := by omega
    have h7 : ¬ op = 28 := by omega
    unfold module_Has.f slices_Contains_int_int.f slices_Index_int_int.f has
    simp [slices_Index_int_int.l0, rd, wrap64, h1, h2, h3, h4, h5, h6, h7]
theorem drop_all {α : Type} {p : α → Bool} {l : List α} {i : Nat} (h : i < l.length) : (l.drop i).all p = (p l[i] && (l.drop (i + 1)).all p) := by
  rw [List.drop_eq_getElem_cons h, List.all_cons]
theorem right_l1 {l : List S42} {n j : Int} {c : List S46} (hc : c.length ≤ 140737488351232) {b : Bool} (hb : Ev (fun k => module_right.l0 k l n (wrap64 (j + 1))) b) : ∀ (e i : Nat), c.length - i = e → i ≤ c.length →
    Ev (fun k => module_right.l1 k l n j c (c.length : Int) (i : Int)) ((c.drop i).all insOk && b) := by
  intro e
  induction e with
  | zero =>
    intro i he hi
    rw [List.drop_of_length_le (by omega)]
    refine Ev.step (f := fun k => module_right.l0 k l n (wrap64 (j + 1))) (fun k => ?_) (by simpa using hb)
    show module_right.l1 (k + 1) l n j c (c.length : Int) (i : Int) = _
    rw [module_right.l1, if_neg (by omega)]
  | succ e ih =>
    intro i he hi
    have hi' : i < c.length := by omega
    have hnext := ih (i + 1) (by omega) (by omega)
    rw [drop_all hi']
    have hw : wrap64 ((i : Int) + 1) = ((i + 1 : Nat) : Int) := by rw [wrap_id (by unfold I64; omega)]; omega
    obtain ⟨K, hK⟩ := hnext
    refine ⟨K + 9, fun k hk => ?_⟩
    obtain ⟨k, rfl⟩ : ∃ q, k = q + 1 := ⟨k - 1, by omega⟩
    have hKK : module_right.l1 k l n j c (c.length : Int) ((i + 1 : Nat) : Int) = _ := hK k (by omega)
    show module_right.l1 (k + 1) l n j c (c.length : Int) (i : Int) = _
    rw [module_right.l1, if_pos (by omega), if_pos (by omega), if_pos (by omega), rdI_at c i hi', hw, has_f _ (by omega)]
    rw [show insOk c[i] = (decide (0 ≤ c[i].f0 ∧ c[i].f0 ≤ 29) && (has c[i].f0 || decide (c[i].f1 = 0))) from rfl]
    simp only [Option.bind_some, hKK]
    by_cases h1 : c[i].f0 < 0
    · rw [if_pos h1, decide_eq_false (by omega)]
      simp
    · rw [if_neg h1]
      by_cases h2 : c[i].f0 > 29
      · rw [if_pos h2, decide_eq_false (by omega)]
        simp
      · rw [if_neg h2, decide_eq_true (show 0 ≤ c[i].f0 ∧ c[i].f0 ≤ 29 by omega)]
        cases has c[i].f0
        · simp only [Bool.false_eq_true, if_false, Bool.true_and, Bool.false_or]
          by_cases h3 : c[i].f1 = 0
          · rw [if_pos h3, decide_eq_true h3]
            simp
          · rw [if_neg h3, decide_eq_false h3]
            simp
        · simp
theorem drop_getT {l : List S42} {i : Nat} (h : i < l.length) : l[i] ∈ l := List.getElem_mem h
theorem right_l0 {l : List S42} (hl : l.length ≤ 140737488351232) (hx : ∀ x ∈ l, okS42 x) : ∀ (e i : Nat), l.length - i = e → i ≤ l.length →
    Ev (fun k => module_right.l0 k l (l.length : Int) (i : Int)) ((l.drop i).all fnOk) := by
  intro e
  induction e with
  | zero =>
    intro i he hi
    rw [List.drop_of_length_le (by omega)]
    refine Ev.step (f := fun _ => some true) (fun k => ?_) (Ev.now _)
    show module_right.l0 (k + 1) l (l.length : Int) (i : Int) = _
    rw [module_right.l0, if_neg (by omega)]
  | succ e ih =>
    intro i he hi
    have hi' : i < l.length := by omega
    have hnext := ih (i + 1) (by omega) (by omega)
    rw [drop_all hi']
    have hw : wrap64 ((i : Int) + 1) = ((i + 1 : Nat) : Int) := by rw [wrap_id (by unfold I64; omega)]; omega
    obtain ⟨o0, o1, o2, o3, _, o4⟩ := hx _ (List.getElem_mem hi')
    have i0 := i64_of o0
    have i1 := i64_of o1
    have i2 := i64_of o2
    have hr : ∀ k (g : Bool), module_right.j2 (k + 1) l (l.length : Int) (i : Int) g l[i].f0 l[i].f1 l[i].f2 l[i].f3 = if g = true then some false else module_right.l1 k l (l.length : Int) (i : Int) l[i].f3 (l[i].f3.length : Int) 0 := fun k g => by rw [module_right.j2]
    have hl1 := right_l1 (l := l) (n := (l.length : Int)) (j := (i : Int)) (c := l[i].f3) (by omega) (by rw [hw]; exact hnext) l[i].f3.length 0 (by omega) (by omega)
    rw [List.drop_zero] at hl1
    obtain ⟨K, hK⟩ := hl1
    refine ⟨K + 3, fun k hk => ?_⟩
    obtain ⟨k, rfl⟩ : ∃ q, k = q + 2 := ⟨k - 2, by omega⟩
    have hK' : module_right.l1 k l (l.length : Int) (i : Int) l[i].f3 (l[i].f3.length : Int) 0 = some (l[i].f3.all insOk && (l.drop (i + 1)).all fnOk) := hK k (by omega)
    show module_right.l0 (k + 2) l (l.length : Int) (i : Int) = _
    rw [module_right.l0, if_pos (by omega), if_pos (by omega), if_pos (by omega), rdT_at l i hi']
    simp only [hr]
    rw [hK', show fnOk l[i] = (fnBnd l[i] && l[i].f3.all insOk) from rfl]
    by_cases hbd : fnBnd l[i] = true
    · rw [hbd]
      unfold fnBnd at hbd
      have hb := of_decide_eq_true hbd
      have hw2 : wrap64 (16 - l[i].f0) = 16 - l[i].f0 := wrap_id (by unfold I64; omega)
      rw [hw2, if_neg (by omega), if_neg (by omega), if_neg (by omega), if_neg (by omega), if_neg (by omega), if_neg (by omega), if_neg (by omega), if_neg (by simp; omega)]
      simp
    · have hf : fnBnd l[i] = false := by simpa using hbd
      rw [hf]
      unfold fnBnd at hf
      have hb := of_decide_eq_false hf
      simp only [Bool.false_and, if_true]
      by_cases c0 : l[i].f0 < 0
      · rw [if_pos c0]
      · rw [if_neg c0]
        by_cases c1 : l[i].f0 > 8
        · rw [if_pos c1]
        · have hw2 : wrap64 (16 - l[i].f0) = 16 - l[i].f0 := wrap_id (by unfold I64; omega)
          rw [if_neg c1, hw2]
          repeat' split
          all_goals first | rfl | (exfalso; simp only [decide_eq_true_eq] at *; omega)
theorem right_ok {m : Int} {d : List Int} {l : List S42} (h : Mok m d l) : Ev (fun k => module_right.f k m d l) (modOk m d l) := by
  obtain ⟨K, hK⟩ := right_l0 h.hl h.hx l.length 0 (by omega) (by omega)
  rw [List.drop_zero] at hK
  refine ⟨K + 2, fun k hk => ?_⟩
  obtain ⟨k, rfl⟩ : ∃ q, k = q + 1 := ⟨k - 1, by omega⟩
  have hK' : module_right.l0 k l (l.length : Int) 0 = some (l.all fnOk) := hK k (by omega)
  have hj : ∀ g : Bool, module_right.j0 (k + 1) g m d l = if g = true then some false else some (l.all fnOk) := fun g => by rw [module_right.j0, hK']
  show module_right.f (k + 1) m d l = _
  unfold module_right.f modOk
  simp only [hj]
  by_cases hbd : modBnd m d l = true
  · rw [hbd]
    unfold modBnd at hbd
    have hb := of_decide_eq_true hbd
    rw [if_neg (by omega), if_neg (by omega), if_neg (by omega), if_neg (by omega), if_neg (by simp; omega)]
    simp
  · have hf : modBnd m d l = false := by simpa using hbd
    rw [hf]
    unfold modBnd at hf
    have hb := of_decide_eq_false hf
    simp only [Bool.false_and, if_true]
    repeat' split
    all_goals first | rfl | (exfalso; simp only [decide_eq_true_eq] at *; omega)
end Go.Proofs.Ytgngbbkaghmnpaa.Chk
