import Derived.Test.YtaklapcbbdcdpaaDoorPA
namespace Go.Proofs.YtaklapcbbdcdpaaDoor.Pt
open Go Go.RowKit Go.Proofs Go.Proofs.YtaklapcbbdcdpaaDoor.X
set_option linter.unusedVariables false
set_option linter.unusedSimpArgs false
noncomputable section
/-! The width of a rune, both ways -/
theorem cpos {α : Type} {p : Prop} {hd : Decidable p} {a b : α} (h : p) : cond (@decide p hd) a b = a := by rw [decide_eq_true h]; rfl
theorem cneg {α : Type} {p : Prop} {hd : Decidable p} {a b : α} (h : ¬ p) : cond (@decide p hd) a b = b := by rw [decide_eq_false h]; rfl
theorem loopN_succ {γ β : Type} (body : γ → (γ → Option β) → Option β) (k : Nat) (g : γ) : loopN body (k + 1) g = body g (loopN body k) := rfl
theorem wrapId {n : Int} (h0 : -9223372036854775808 ≤ n) (h1 : n < 9223372036854775808) : IntKind.i64.wrap n = n := by
  rw [IntKind.wrap_i64]; omega
def e78_0 (k : Nat) (l : List (Int × Int)) (n : Int) (g : ((List (Int × Int) × PUnit) × (PUnit × PUnit) × (Int × PUnit) × (Int × PUnit) × PUnit) × PUnit) (L : ((List (Int × Int) × PUnit) × (PUnit × PUnit) × (Int × PUnit) × (Int × PUnit) × PUnit) × PUnit →
  Option (((Int × PUnit) × PUnit) × PUnit)) : Option (((Int × PUnit) × PUnit) × PUnit) := bif decide (g.1.2.2.2.1.1 < g.1.2.2.1.1) then
  bif decide ((0 : Int) ≤ g.1.2.2.2.1.1 ∧ g.1.2.2.2.1.1 < (↑g.1.1.1.length : Int)) then
    (f77 k
          (((((gt S106 g.1.1.1 g.1.2.2.2.1.1.toNat).1, (gt S106 g.1.1.1 g.1.2.2.2.1.1.toNat).2), ()), ((), ()), ()),
            (n, ()), ())).bind
      fun v =>
      bif v.1.1.1 then some (((g.1.2.2.2.1.1, ()), ()), ())
      else L (((g.1.1.1, ()), ((), ()), (g.1.2.2.1.1, ()), (IntKind.i64.wrap (g.1.2.2.2.1.1 + (1 : Int)), ()), ()), ())
  else none
else some ((((-1 : Int), ()), ()), ())
theorem e78_eq (k : Nat) (n : Int) (l : List (Int × Int)) : f78 k (((l, ()), ((), ()), ()), (n, ()), ()) = loopN (e78_0 k l n) k (((l, ()), ((), ()), ((↑l.length : Int), ()), ((0 : Int), ()), ()), ()) := by kernel_rfl
theorem e73_eq (k : Nat) (n : Int) (l : List (Int × Int)) : f73 k (((n, ()), (l, ()), ()), ()) = (f76 k (((l, ()), ((), ()), ()), (n, ()), ())).bind fun v => some (((v.1.1.1, ()), ()), ()) := by kernel_rfl
theorem e64_eq (k : Nat) (n : Int) : f64 k (((n, ()), ()), ()) = (f73 k
      (((n, ()),
          ([((-2147483648 : Int), (31 : Int)), ((127 : Int), (159 : Int)), ((768 : Int), (879 : Int)),
              ((8203 : Int), (8207 : Int)), ((55296 : Int), (57343 : Int)), ((65024 : Int), (65039 : Int)),
              ((1114112 : Int), (2147483647 : Int))],
            ()),
          ()),
        ())).bind
  fun v => some (((v.1.1.1, ()), ()), ()) := by kernel_rfl
theorem e65_eq (k : Nat) (n : Int) : f65 k (((n, ()), ()), ()) = (f73 k
      (((n, ()),
          ([((4352 : Int), (4447 : Int)), ((11904 : Int), (12350 : Int)), ((12353 : Int), (42191 : Int)),
              ((44032 : Int), (55203 : Int)), ((63744 : Int), (64255 : Int)), ((65072 : Int), (65135 : Int)),
              ((65280 : Int), (65376 : Int)), ((65504 : Int), (65510 : Int)), ((127744 : Int), (128591 : Int)),
              ((129280 : Int), (129535 : Int)), ((131072 : Int), (262141 : Int))],
            ()),
          ()),
        ())).bind
  fun v => some (((v.1.1.1, ()), ()), ()) := by kernel_rfl
theorem e50_eq (k : Nat) (n : Int) : f50 k (((n, ()), ()), ()) = bif decide (n ≥ (32 : Int)) then
  bif decide (n < (127 : Int)) then some ((((1 : Int), ()), ()), ())
  else
    (f64 k (((n, ()), ()), ())).bind fun v =>
      bif v.1.1.1 then some ((((0 : Int), ()), ()), ())
      else
        (f65 k (((n, ()), ()), ())).bind fun v =>
          bif v.1.1.1 then some ((((2 : Int), ()), ()), ()) else some ((((1 : Int), ()), ()), ())
else
  (f64 k (((n, ()), ()), ())).bind fun v =>
    bif v.1.1.1 then some ((((0 : Int), ()), ()), ())
    else
      (f65 k (((n, ()), ()), ())).bind fun v =>
        bif v.1.1.1 then some ((((2 : Int), ()), ()), ()) else some ((((1 : Int), ()), ()), ()) := by kernel_rfl
theorem e77_eq (k : Nat) (a : Int) (b : Int) (n : Int) : f77 k ((((a, b), ()), ((), ()), ()), (n, ()), ()) = bif decide (n ≥ a) then some (((decide (n ≤ b), ()), ()), ()) else some (((false, ()), ()), ()) := by kernel_rfl
theorem e76_eq (k : Nat) (n : Int) (l : List (Int × Int)) : f76 k (((l, ()), ((), ()), ()), (n, ()), ()) = (f78 k (((l, ()), ((), ()), ()), (n, ()), ())).bind fun v => some (((decide (v.1.1.1 ≥ 0), ()), ()), ()) := by kernel_rfl
def inS (l : List (Int × Int)) (n : Int) : Bool := l.any fun s => decide (s.1 ≤ n ∧ n ≤ s.2)
theorem span_ok (k : Nat) (a b n : Int) : f77 k ((((a, b), ()), ((), ()), ()), (n, ()), ()) = some (((decide (a ≤ n ∧ n ≤ b), ()), ()), ()) := by
  rw [e77_eq]
  by_cases h : n ≥ a
  · rw [cpos h]
    by_cases h2 : n ≤ b
    · rw [decide_eq_true h2, decide_eq_true ⟨h, h2⟩]
    · rw [decide_eq_false h2, decide_eq_false (fun hh => h2 hh.2)]
  · rw [cneg h, decide_eq_false (fun hh => h hh.1)]
theorem any_ok (k : Nat) (n : Int) (l : List (Int × Int)) (hl : l.length ≤ 1000) (hk : l.length + 1 ≤ k) : ∃ r : Int, f78 k (((l, ()), ((), ()), ()), (n, ()), ()) = some (((r, ()), ()), ()) ∧ decide (r ≥ 0) = inS l n := by
  rw [e78_eq]
  have loop : ∀ (j k' i : Nat), i + j = l.length → j + 1 ≤ k' → ∃ r : Int, loopN (e78_0 k l n) k' (((l, ()), ((), ()), ((l.length : Int), ()), ((i : Int), ()), ()), ()) = some (((r, ()), ()), ()) ∧ decide (r ≥ 0) = inS (l.drop i) n := by
    intro j
    induction j with
    | zero =>
      intro k' i hi hk
      obtain ⟨k', rfl⟩ : ∃ k2, k' = k2 + 1 := ⟨k' - 1, by omega⟩
      simp only [loopN_succ, e78_0]
      rw [cneg (by omega)]
      refine ⟨-1, rfl, ?_⟩
      rw [List.drop_eq_nil_of_le (by omega)]; rfl
    | succ j ih =>
      intro k' i hi hk
      obtain ⟨k', rfl⟩ : ∃ k2, k' = k2 + 1 := ⟨k' - 1, by omega⟩
      have hlt : i < l.length := by omega
      have hg : gt S106 l i = l[i] := by simp [gt, hlt]
      simp only [loopN_succ, e78_0]
      rw [cpos (by omega), cpos (by omega), Int.toNat_natCast, hg, span_ok, Option.bind_some]
      simp only []
      obtain ⟨r, h1, h2⟩ := ih k' (i + 1) (by omega) (by omega)
      have hd : inS (l.drop i) n = (decide (l[i].1 ≤ n ∧ n ≤ l[i].2) || inS (l.drop (i + 1)) n) := by
        unfold inS; rw [List.drop_eq_getElem_cons hlt, List.any_cons]
      rw [hd]
      by_cases hs : l[i].1 ≤ n ∧ n ≤ l[i].2
      · rw [cpos hs]
        exact ⟨i, rfl, by rw [decide_eq_true hs, decide_eq_true (by omega)]; rfl⟩
      · rw [cneg hs, wrapId (n := (i : Int) + 1) (by omega) (by omega), show ((i : Int) + 1) = ((i + 1 : Nat) : Int) by omega, h1]
        exact ⟨r, rfl, by rw [h2, decide_eq_false hs]; rfl⟩
  obtain ⟨r, h1, h2⟩ := loop l.length k 0 (by omega) (by omega)
  exact ⟨r, h1, h2⟩
theorem insp_ok (k : Nat) (n : Int) (l : List (Int × Int)) (hl : l.length ≤ 1000) (hk : l.length + 1 ≤ k) : f73 k (((n, ()), (l, ()), ()), ()) = some (((inS l n, ()), ()), ()) := by
  obtain ⟨r, h1, h2⟩ := any_ok k n l hl hk
  rw [e73_eq, e76_eq, h1, Option.bind_some, Option.bind_some]
  simp only [h2]
def noneL : List (Int × Int) := [(-2147483648, 31), (127, 159), (768, 879), (8203, 8207), (55296, 57343), (65024, 65039), (1114112, 2147483647)]
def twoL : List (Int × Int) := [(0x1100, 0x115f), (0x2e80, 0x303e), (0x3041, 0xa4cf), (0xac00, 0xd7a3), (0xf900, 0xfaff), (0xfe30, 0xfe6f), (0xff00, 0xff60), (0xffe0, 0xffe6), (0x1f300, 0x1f64f), (0x1f900, 0x1f9ff), (0x20000, 0x3fffd)]
def width (n : Int) : Int := if 32 ≤ n ∧ n < 127 then 1 else if inS noneL n then 0 else if inS twoL n then 2 else 1
theorem none_ok (k : Nat) (n : Int) (hk : 20 ≤ k) : f64 k (((n, ()), ()), ()) = some (((inS noneL n, ()), ()), ()) := by
  rw [e64_eq]
  have := insp_ok k n noneL (by decide) (by simp [noneL]; omega)
  unfold noneL at this ⊢
  rw [this]; rfl
theorem two_ok (k : Nat) (n : Int) (hk : 20 ≤ k) : f65 k (((n, ()), ()), ()) = some (((inS twoL n, ()), ()), ()) := by
  rw [e65_eq]
  have := insp_ok k n twoL (by decide) (by simp [twoL]; omega)
  unfold twoL at this ⊢
  rw [this]; rfl
theorem width_ok (k : Nat) (n : Int) (hk : 20 ≤ k) : f50 k (((n, ()), ()), ()) = some (((width n, ()), ()), ()) := by
  rw [e50_eq, none_ok k n hk, two_ok k n hk]
  unfold width
  simp only [Option.bind_some]
  by_cases h : n ≥ 32
  · rw [cpos h]
    by_cases h2 : n < 127
    · rw [cpos h2, if_pos (by omega)]
    · rw [cneg h2, if_neg (by omega)]
      cases inS noneL n <;> cases inS twoL n <;> rfl
  · rw [cneg h, if_neg (by omega)]
    cases inS noneL n <;> cases inS twoL n <;> rfl
theorem e58_eq (k : Nat) (n : Int) : f58 k (((n, ()), ()), ()) = bif decide (n ≥ (0 : Int)) then
  bif decide (n ≤ (1114111 : Int)) then
    bif decide (n < (55296 : Int)) then some (((true, ()), ()), ())
    else some (((decide (n > (57343 : Int)), ()), ()), ())
  else some (((false, ()), ()), ())
else some (((false, ()), ()), ()) := by kernel_rfl
theorem e41_eq (k : Nat) (n : Int) : f41 k (((n, ()), ()), ()) = ((f58 k (((n, ()), ()), ())).bind fun v =>
      bif !v.1.1.1 then some (Sum.inl (((n, ()), (true, ()), ()), ()))
      else
        bif decide (n < (32 : Int)) then some (Sum.inl (((n, ()), (true, ()), ()), ()))
        else
          bif decide (n ≥ (127 : Int)) then
            bif decide (n ≤ (159 : Int)) then some (Sum.inl (((n, ()), (true, ()), ()), ()))
            else
              bif decide (n ≥ (768 : Int)) then
                bif decide (n ≤ (879 : Int)) then some (Sum.inl (((n, ()), (true, ()), ()), ()))
                else
                  bif decide (n ≥ (8203 : Int)) then
                    bif decide (n ≤ (8207 : Int)) then some (Sum.inl (((n, ()), (true, ()), ()), ()))
                    else
                      bif decide (n ≥ (65024 : Int)) then
                        some (Sum.inl (((n, ()), (decide (n ≤ (65039 : Int)), ()), ()), ()))
                      else some (Sum.inl (((n, ()), (false, ()), ()), ()))
                  else
                    bif decide (n ≥ (65024 : Int)) then
                      some (Sum.inl (((n, ()), (decide (n ≤ (65039 : Int)), ()), ()), ()))
                    else some (Sum.inl (((n, ()), (false, ()), ()), ()))
              else
                bif decide (n ≥ (8203 : Int)) then
                  bif decide (n ≤ (8207 : Int)) then some (Sum.inl (((n, ()), (true, ()), ()), ()))
                  else
                    bif decide (n ≥ (65024 : Int)) then
                      some (Sum.inl (((n, ()), (decide (n ≤ (65039 : Int)), ()), ()), ()))
                    else some (Sum.inl (((n, ()), (false, ()), ()), ()))
                else
                  bif decide (n ≥ (65024 : Int)) then
                    some (Sum.inl (((n, ()), (decide (n ≤ (65039 : Int)), ()), ()), ()))
                  else some (Sum.inl (((n, ()), (false, ()), ()), ()))
          else
            bif decide (n ≥ (768 : Int)) then
              bif decide (n ≤ (879 : Int)) then some (Sum.inl (((n, ()), (true, ()), ()), ()))
              else
                bif decide (n ≥ (8203 : Int)) then
                  bif decide (n ≤ (8207 : Int)) then some (Sum.inl (((n, ()), (true, ()), ()), ()))
                  else
                    bif decide (n ≥ (65024 : Int)) then
                      some (Sum.inl (((n, ()), (decide (n ≤ (65039 : Int)), ()), ()), ()))
                    else some (Sum.inl (((n, ()), (false, ()), ()), ()))
                else
                  bif decide (n ≥ (65024 : Int)) then
                    some (Sum.inl (((n, ()), (decide (n ≤ (65039 : Int)), ()), ()), ()))
                  else some (Sum.inl (((n, ()), (false, ()), ()), ()))
            else
              bif decide (n ≥ (8203 : Int)) then
                bif decide (n ≤ (8207 : Int)) then some (Sum.inl (((n, ()), (true, ()), ()), ()))
                else
                  bif decide (n ≥ (65024 : Int)) then
                    some (Sum.inl (((n, ()), (decide (n ≤ (65039 : Int)), ()), ()), ()))
                  else some (Sum.inl (((n, ()), (false, ()), ()), ()))
              else
                bif decide (n ≥ (65024 : Int)) then some (Sum.inl (((n, ()), (decide (n ≤ (65039 : Int)), ()), ()), ()))
                else some (Sum.inl (((n, ()), (false, ()), ()), ()))).bind
  fun v =>
  Sum.elim
    (fun q =>
      bif q.1.2.1.1 then some ((((0 : Int), ()), ()), ())
      else
        Option.bind
          (bif decide (q.1.1.1 ≥ (4352 : Int)) then
            bif decide (q.1.1.1 ≤ (4447 : Int)) then some (Sum.inl (((q.1.1.1, ()), (true, ()), ()), ()))
            else
              bif decide (q.1.1.1 ≥ (11904 : Int)) then
                bif decide (q.1.1.1 ≤ (12350 : Int)) then some (Sum.inl (((q.1.1.1, ()), (true, ()), ()), ()))
                else
                  bif decide (q.1.1.1 ≥ (12353 : Int)) then
                    bif decide (q.1.1.1 ≤ (42191 : Int)) then some (Sum.inl (((q.1.1.1, ()), (true, ()), ()), ()))
                    else
                      bif decide (q.1.1.1 ≥ (44032 : Int)) then
                        some (Sum.inl (((q.1.1.1, ()), (decide (q.1.1.1 ≤ (55203 : Int)), ()), ()), ()))
                      else some (Sum.inl (((q.1.1.1, ()), (false, ()), ()), ()))
                  else
                    bif decide (q.1.1.1 ≥ (44032 : Int)) then
                      some (Sum.inl (((q.1.1.1, ()), (decide (q.1.1.1 ≤ (55203 : Int)), ()), ()), ()))
                    else some (Sum.inl (((q.1.1.1, ()), (false, ()), ()), ()))
              else
                bif decide (q.1.1.1 ≥ (12353 : Int)) then
                  bif decide (q.1.1.1 ≤ (42191 : Int)) then some (Sum.inl (((q.1.1.1, ()), (true, ()), ()), ()))
                  else
                    bif decide (q.1.1.1 ≥ (44032 : Int)) then
                      some (Sum.inl (((q.1.1.1, ()), (decide (q.1.1.1 ≤ (55203 : Int)), ()), ()), ()))
                    else some (Sum.inl (((q.1.1.1, ()), (false, ()), ()), ()))
                else
                  bif decide (q.1.1.1 ≥ (44032 : Int)) then
                    some (Sum.inl (((q.1.1.1, ()), (decide (q.1.1.1 ≤ (55203 : Int)), ()), ()), ()))
                  else some (Sum.inl (((q.1.1.1, ()), (false, ()), ()), ()))
          else
            bif decide (q.1.1.1 ≥ (11904 : Int)) then
              bif decide (q.1.1.1 ≤ (12350 : Int)) then some (Sum.inl (((q.1.1.1, ()), (true, ()), ()), ()))
              else
                bif decide (q.1.1.1 ≥ (12353 : Int)) then
                  bif decide (q.1.1.1 ≤ (42191 : Int)) then some (Sum.inl (((q.1.1.1, ()), (true, ()), ()), ()))
                  else
                    bif decide (q.1.1.1 ≥ (44032 : Int)) then
                      some (Sum.inl (((q.1.1.1, ()), (decide (q.1.1.1 ≤ (55203 : Int)), ()), ()), ()))
                    else some (Sum.inl (((q.1.1.1, ()), (false, ()), ()), ()))
                else
                  bif decide (q.1.1.1 ≥ (44032 : Int)) then
                    some (Sum.inl (((q.1.1.1, ()), (decide (q.1.1.1 ≤ (55203 : Int)), ()), ()), ()))
                  else some (Sum.inl (((q.1.1.1, ()), (false, ()), ()), ()))
            else
              bif decide (q.1.1.1 ≥ (12353 : Int)) then
                bif decide (q.1.1.1 ≤ (42191 : Int)) then some (Sum.inl (((q.1.1.1, ()), (true, ()), ()), ()))
                else
                  bif decide (q.1.1.1 ≥ (44032 : Int)) then
                    some (Sum.inl (((q.1.1.1, ()), (decide (q.1.1.1 ≤ (55203 : Int)), ()), ()), ()))
                  else some (Sum.inl (((q.1.1.1, ()), (false, ()), ()), ()))
              else
                bif decide (q.1.1.1 ≥ (44032 : Int)) then
                  some (Sum.inl (((q.1.1.1, ()), (decide (q.1.1.1 ≤ (55203 : Int)), ()), ()), ()))
                else some (Sum.inl (((q.1.1.1, ()), (false, ()), ()), ())))
          fun v =>
          Sum.elim
            (fun q =>
              Option.bind
                (bif decide (q.1.1.1 ≥ (63744 : Int)) then
                  bif decide (q.1.1.1 ≤ (64255 : Int)) then
                    some (Sum.inl (((q.1.1.1, ()), (q.1.2.1.1, ()), (true, ()), ()), ()))
                  else
                    bif decide (q.1.1.1 ≥ (65072 : Int)) then
                      bif decide (q.1.1.1 ≤ (65135 : Int)) then
                        some (Sum.inl (((q.1.1.1, ()), (q.1.2.1.1, ()), (true, ()), ()), ()))
                      else
                        bif decide (q.1.1.1 ≥ (65280 : Int)) then
                          bif decide (q.1.1.1 ≤ (65376 : Int)) then
                            some (Sum.inl (((q.1.1.1, ()), (q.1.2.1.1, ()), (true, ()), ()), ()))
                          else
                            bif decide (q.1.1.1 ≥ (65504 : Int)) then
                              some
                                (Sum.inl
                                  (((q.1.1.1, ()), (q.1.2.1.1, ()), (decide (q.1.1.1 ≤ (65510 : Int)), ()), ()), ()))
                            else some (Sum.inl (((q.1.1.1, ()), (q.1.2.1.1, ()), (false, ()), ()), ()))
                        else
                          bif decide (q.1.1.1 ≥ (65504 : Int)) then
                            some
                              (Sum.inl
                                (((q.1.1.1, ()), (q.1.2.1.1, ()), (decide (q.1.1.1 ≤ (65510 : Int)), ()), ()), ()))
                          else some (Sum.inl (((q.1.1.1, ()), (q.1.2.1.1, ()), (false, ()), ()), ()))
                    else
                      bif decide (q.1.1.1 ≥ (65280 : Int)) then
                        bif decide (q.1.1.1 ≤ (65376 : Int)) then
                          some (Sum.inl (((q.1.1.1, ()), (q.1.2.1.1, ()), (true, ()), ()), ()))
                        else
                          bif decide (q.1.1.1 ≥ (65504 : Int)) then
                            some
                              (Sum.inl
                                (((q.1.1.1, ()), (q.1.2.1.1, ()), (decide (q.1.1.1 ≤ (65510 : Int)), ()), ()), ()))
                          else some (Sum.inl (((q.1.1.1, ()), (q.1.2.1.1, ()), (false, ()), ()), ()))
                      else
                        bif decide (q.1.1.1 ≥ (65504 : Int)) then
                          some
                            (Sum.inl (((q.1.1.1, ()), (q.1.2.1.1, ()), (decide (q.1.1.1 ≤ (65510 : Int)), ()), ()), ()))
                        else some (Sum.inl (((q.1.1.1, ()), (q.1.2.1.1, ()), (false, ()), ()), ()))
                else
                  bif decide (q.1.1.1 ≥ (65072 : Int)) then
                    bif decide (q.1.1.1 ≤ (65135 : Int)) then
                      some (Sum.inl (((q.1.1.1, ()), (q.1.2.1.1, ()), (true, ()), ()), ()))
                    else
                      bif decide (q.1.1.1 ≥ (65280 : Int)) then
                        bif decide (q.1.1.1 ≤ (65376 : Int)) then
                          some (Sum.inl (((q.1.1.1, ()), (q.1.2.1.1, ()), (true, ()), ()), ()))
                        else
                          bif decide (q.1.1.1 ≥ (65504 : Int)) then
                            some
                              (Sum.inl
                                (((q.1.1.1, ()), (q.1.2.1.1, ()), (decide (q.1.1.1 ≤ (65510 : Int)), ()), ()), ()))
                          else some (Sum.inl (((q.1.1.1, ()), (q.1.2.1.1, ()), (false, ()), ()), ()))
                      else
                        bif decide (q.1.1.1 ≥ (65504 : Int)) then
                          some
                            (Sum.inl (((q.1.1.1, ()), (q.1.2.1.1, ()), (decide (q.1.1.1 ≤ (65510 : Int)), ()), ()), ()))
                        else some (Sum.inl (((q.1.1.1, ()), (q.1.2.1.1, ()), (false, ()), ()), ()))
                  else
                    bif decide (q.1.1.1 ≥ (65280 : Int)) then
                      bif decide (q.1.1.1 ≤ (65376 : Int)) then
                        some (Sum.inl (((q.1.1.1, ()), (q.1.2.1.1, ()), (true, ()), ()), ()))
                      else
                        bif decide (q.1.1.1 ≥ (65504 : Int)) then
                          some
                            (Sum.inl (((q.1.1.1, ()), (q.1.2.1.1, ()), (decide (q.1.1.1 ≤ (65510 : Int)), ()), ()), ()))
                        else some (Sum.inl (((q.1.1.1, ()), (q.1.2.1.1, ()), (false, ()), ()), ()))
                    else
                      bif decide (q.1.1.1 ≥ (65504 : Int)) then
                        some
                          (Sum.inl (((q.1.1.1, ()), (q.1.2.1.1, ()), (decide (q.1.1.1 ≤ (65510 : Int)), ()), ()), ()))
                      else some (Sum.inl (((q.1.1.1, ()), (q.1.2.1.1, ()), (false, ()), ()), ())))
                fun v =>
                Sum.elim
                  (fun q =>
                    Option.bind
                      (bif decide (q.1.1.1 ≥ (127744 : Int)) then
                        bif decide (q.1.1.1 ≤ (128591 : Int)) then
                          some (Sum.inl (((q.1.2.1.1, ()), (q.1.2.2.1.1, ()), (true, ()), ()), ()))
                        else
                          bif decide (q.1.1.1 ≥ (129280 : Int)) then
                            bif decide (q.1.1.1 ≤ (129535 : Int)) then
                              some (Sum.inl (((q.1.2.1.1, ()), (q.1.2.2.1.1, ()), (true, ()), ()), ()))
                            else
                              bif decide (q.1.1.1 ≥ (131072 : Int)) then
                                some
                                  (Sum.inl
                                    (((q.1.2.1.1, ()), (q.1.2.2.1.1, ()), (decide (q.1.1.1 ≤ (262141 : Int)), ()), ()),
                                      ()))
                              else some (Sum.inl (((q.1.2.1.1, ()), (q.1.2.2.1.1, ()), (false, ()), ()), ()))
                          else
                            bif decide (q.1.1.1 ≥ (131072 : Int)) then
                              some
                                (Sum.inl
                                  (((q.1.2.1.1, ()), (q.1.2.2.1.1, ()), (decide (q.1.1.1 ≤ (262141 : Int)), ()), ()),
                                    ()))
                            else some (Sum.inl (((q.1.2.1.1, ()), (q.1.2.2.1.1, ()), (false, ()), ()), ()))
                      else
                        bif decide (q.1.1.1 ≥ (129280 : Int)) then
                          bif decide (q.1.1.1 ≤ (129535 : Int)) then
                            some (Sum.inl (((q.1.2.1.1, ()), (q.1.2.2.1.1, ()), (true, ()), ()), ()))
                          else
                            bif decide (q.1.1.1 ≥ (131072 : Int)) then
                              some
                                (Sum.inl
                                  (((q.1.2.1.1, ()), (q.1.2.2.1.1, ()), (decide (q.1.1.1 ≤ (262141 : Int)), ()), ()),
                                    ()))
                            else some (Sum.inl (((q.1.2.1.1, ()), (q.1.2.2.1.1, ()), (false, ()), ()), ()))
                        else
                          bif decide (q.1.1.1 ≥ (131072 : Int)) then
                            some
                              (Sum.inl
                                (((q.1.2.1.1, ()), (q.1.2.2.1.1, ()), (decide (q.1.1.1 ≤ (262141 : Int)), ()), ()), ()))
                          else some (Sum.inl (((q.1.2.1.1, ()), (q.1.2.2.1.1, ()), (false, ()), ()), ())))
                      fun v =>
                      Sum.elim
                        (fun q =>
                          Option.bind
                            (bif q.1.1.1 then some (Sum.inl (((true, ()), ()), ()))
                            else
                              bif q.1.2.1.1 then some (Sum.inl (((true, ()), ()), ()))
                              else some (Sum.inl (((q.1.2.2.1.1, ()), ()), ())))
                            fun v =>
                            Sum.elim
                              (fun q =>
                                bif q.1.1.1 then some ((((2 : Int), ()), ()), ()) else some ((((1 : Int), ()), ()), ()))
                              (fun q => some q) v)
                        (fun q => some q) v)
                  (fun q => some q) v)
            (fun q => some q) v)
    (fun q => some q) v := by kernel_rfl
theorem cor {α : Type} (a b : Bool) (x y : α) : cond (a || b) x y = cond a x (cond b x y) := by cases a <;> rfl
theorem cno {α : Type} (a : Bool) (x y : α) : cond (!a) x y = cond a y x := by cases a <;> rfl
theorem width_eq (n : Int) : width n = bif decide (32 ≤ n ∧ n < 127) then 1 else bif inS noneL n then 0 else bif inS twoL n then 2 else 1 := by
  unfold width
  by_cases h : 32 ≤ n ∧ n < 127
  · rw [if_pos h, cpos h]
  · rw [if_neg h, cneg h]
    cases inS noneL n <;> cases inS twoL n <;> rfl
theorem wref_ok (k : Nat) (n : Int) (h : 0 ≤ n ∧ n ≤ 0x10ffff) : f41 k (((n, ()), ()), ()) = some (((width n, ()), ()), ()) := by
  rw [e41_eq, e58_eq, width_eq]
  have hc : (0 ≤ n ∧ n < 32) ∨ (32 ≤ n ∧ n < 127) ∨ (127 ≤ n ∧ n < 160) ∨ (160 ≤ n ∧ n < 768) ∨ (768 ≤ n ∧ n < 880) ∨ (880 ≤ n ∧ n < 4352) ∨ (4352 ≤ n ∧ n < 4448) ∨ (4448 ≤ n ∧ n < 8203) ∨ (8203 ≤ n ∧ n < 8208) ∨ (8208 ≤ n ∧ n < 11904) ∨ (11904 ≤ n ∧ n < 12351) ∨ (12351 ≤ n ∧ n < 12353) ∨ (12353 ≤ n ∧ n < 42192) ∨ (42192 ≤ n ∧ n < 44032) ∨ (44032 ≤ n ∧ n < 55204) ∨ (55204 ≤ n ∧ n < 55296) ∨ (55296 ≤ n ∧ n < 57344) ∨ (57344 ≤ n ∧ n < 63744) ∨ (63744 ≤ n ∧ n < 64256) ∨ (64256 ≤ n ∧ n < 65024) ∨ (65024 ≤ n ∧ n < 65040) ∨ (65040 ≤ n ∧ n < 65072) ∨ (65072 ≤ n ∧ n < 65136) ∨ (65136 ≤ n ∧ n < 65280) ∨ (65280 ≤ n ∧ n < 65377) ∨ (65377 ≤ n ∧ n < 65504) ∨ (65504 ≤ n ∧ n < 65511) ∨ (65511 ≤ n ∧ n < 127744) ∨ (127744 ≤ n ∧ n < 128592) ∨ (128592 ≤ n ∧ n < 129280) ∨ (129280 ≤ n ∧ n < 129536) ∨ (129536 ≤ n ∧ n < 131072) ∨ (131072 ≤ n ∧ n < 262142) ∨ (262142 ≤ n ∧ n < 1114112) := by omega
  rcases hc with h1 | h1 | h1 | h1 | h1 | h1 | h1 | h1 | h1 | h1 | h1 | h1 | h1 | h1 | h1 | h1 | h1 | h1 | h1 | h1 | h1 | h1 | h1 | h1 | h1 | h1 | h1 | h1 | h1 | h1 | h1 | h1 | h1 | h1
  all_goals simp (disch := omega) only [cpos, cneg, cor, cno, inS, noneL, twoL, List.any_cons, List.any_nil, Option.bind_some, Sum.elim_inl, Sum.elim_inr, Bool.not_true, Bool.not_false, cond_true, cond_false]
theorem wref_all (k : Nat) (n : Int) (h : -2147483648 ≤ n ∧ n < 2147483648) : f41 k (((n, ()), ()), ()) = some (((width n, ()), ()), ()) := by
  by_cases h0 : 0 ≤ n ∧ n ≤ 0x10ffff
  · exact wref_ok k n h0
  · rw [e41_eq, e58_eq, width_eq]
    have hc : n < 0 ∨ (1114112 ≤ n) := by omega
    rcases hc with h1 | h1
    all_goals simp (disch := omega) only [cpos, cneg, cor, cno, inS, noneL, twoL, List.any_cons, List.any_nil, Option.bind_some, Sum.elim_inl, Sum.elim_inr, Bool.not_true, Bool.not_false, cond_true, cond_false]
end
end Go.Proofs.YtaklapcbbdcdpaaDoor.Pt
