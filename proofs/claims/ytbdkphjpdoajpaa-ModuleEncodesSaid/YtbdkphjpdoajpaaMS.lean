/- The program's reader does as the tree says: numbers, instructions, functions. Condition: bytes. -/
import Derived.Test.YtbdkphjpdoajpaaMR
import Derived.Test.YtbdkphjpdoajpaaQx8
namespace Go.Proofs.Ytbdkphjpdoajpaa.Mdl
open Go.RowKit Go.Proofs.Ytbdkphjpdoajpaa.Q Go.Proofs.YtbdkphjpdoajpaaW.PrintWords Go.Proofs.YtbdkphjpdoajpaaW.PrintLast

theorem num_bad (k : Nat) (u s p : Int) (b : List Int) : ∃ v, module_reader_number.l0 (k + 1) u s b p true = some (v, p, true) := by
  rw [module_reader_number.l0, if_pos rfl]
  exact ⟨_, rfl⟩
theorem j2_end {u c : Int} {i : Nat} {b : List Int} {p : Int} {bad : Bool} (k : Nat) (hc : c < 128) : ∃ v, module_reader_number.j2 (k + 1) u ((7 * i : Nat) : Int) c false b p bad = some (v, p, bad) := by
  rw [module_reader_number.j2, if_neg (by decide), if_pos (by omega), if_pos hc]
  exact ⟨_, rfl⟩
theorem num_is {b : List Int} (hB : Byt b) : ∀ (e i : Nat) (k p : Nat) (u : Int), i + e = 9 → 3 * e + 4 ≤ k → p ≤ b.length → 0 ≤ u → u < 2 ^ (7 * i) →
    ∃ r, module_reader_number.l0 k u ((7 * i : Nat) : Int) b (p : Int) false = some r ∧ Is (numT e (if i = 0 then 0 else 1) u (2 ^ (7 * i))) b p r := by
  intro e
  induction e with
  | zero =>
    intro i k p u hi hk hp u0 u1
    obtain ⟨k, rfl⟩ : ∃ q, k = q + 3 := ⟨k - 3, by omega⟩
    obtain rfl : i = 9 := by omega
    rw [module_reader_number.l0, if_neg (by decide), if_pos (by decide), module_reader_number.j1]
    rcases next_is hB hp 0 1 with ⟨a, h1, h2, h3, h4, h5⟩ | ⟨h1, h2⟩
    · rw [h1]
      simp only [Option.bind_some]
      by_cases c : a = 0
      · rw [if_pos c, if_pos (by decide), c, module_reader_number.j2, if_pos (by decide), if_pos (by decide), if_pos (by decide)]
        have hw : wrap64 (((p + 1 : Nat) : Int) - 1) = (p : Int) := by
          have := hB.n
          rw [wrap_id (by unfold I64; omega)]
          omega
        rw [hw]
        refine ⟨_, rfl, Or.inr ⟨_, p, rfl, ?_⟩⟩
        rw [h5]
        show (if (1 : Int) ≤ a ∧ a ≤ 1 then _ else (p, none)) = _
        rw [if_neg (by omega)]
      · rw [if_neg c, module_reader_number.j2, if_neg (by decide), if_pos (by decide), if_pos (by omega)]
        obtain rfl : a = 1 := by omega
        have hg := or_group (u := u) (c := 1) (i := 9) (by omega) u0 u1 (by omega) (by omega) (by decide)
        rw [hg, val_is (by omega) (by omega)]
        refine ⟨_, rfl, Or.inl ⟨_, p + 1, rfl, h2, ?_⟩⟩
        rw [h5]
        show (if (1 : Int) ≤ 1 ∧ (1 : Int) ≤ 1 then _ else (p, none)) = _
        rw [if_pos (by omega)]
        rfl
    · rw [h1]
      simp only [Option.bind_some]
      rw [if_pos trivial, if_pos (by decide)]
      obtain ⟨v, hv⟩ := j2_end (u := u) (c := 0) (i := 9) (b := b) (p := (p : Int)) (bad := true) k (by omega)
      refine ⟨_, hv, Or.inr ⟨v, p, rfl, ?_⟩⟩
      exact h2 1 1 (by omega) (by omega) _
  | succ e ih =>
    intro i k p u hi hk hp u0 u1
    obtain ⟨k, rfl⟩ : ∃ q, k = q + 3 := ⟨k - 3, by omega⟩
    have hn := hB.n
    have hp63 := pow63 (i := i) (by omega)
    have hpp : (0 : Int) < 2 ^ (7 * i) := Int.pow_pos (by decide)
    have hp56 : (2 : Int) ^ (7 * i) ≤ 72057594037927936 := by
      obtain rfl | rfl | rfl | rfl | rfl | rfl | rfl | rfl | rfl : i = 0 ∨ i = 1 ∨ i = 2 ∨ i = 3 ∨ i = 4 ∨ i = 5 ∨ i = 6 ∨ i = 7 ∨ i = 8 := by omega
      all_goals decide
    rw [module_reader_number.l0, if_neg (by decide), if_neg (by omega), module_reader_number.j1]
    have hgrp : ∀ c : Int, 0 ≤ c → c ≤ 255 → Go.bits .or .u64 u (shl .u64 (IntKind.u64.wrap (Go.bits .and .i64 c 127)) ((7 * i : Nat) : Int)) = u + c % 128 * 2 ^ (7 * i) ∧ 0 ≤ u + c % 128 * 2 ^ (7 * i) ∧ u + c % 128 * 2 ^ (7 * i) < 128 * 2 ^ (7 * i) := by
      intro c c0 c1
      have m0 : 0 ≤ c % 128 * 2 ^ (7 * i) := Int.mul_nonneg (by omega) (by omega)
      have m1 : c % 128 * 2 ^ (7 * i) ≤ 127 * 2 ^ (7 * i) := Int.mul_le_mul_of_nonneg_right (by omega) (by omega)
      exact ⟨or_group (by omega) u0 u1 c0 c1 (by omega), by omega, by omega⟩
    rcases next_is hB hp 0 255 with ⟨a, h1, h2, h3, h4, h5⟩ | ⟨h1, h2⟩
    · rw [h1]
      simp only [Option.bind_some]
      have hstep : ∀ (g : Bool), g = false → (if i = 0 then (0 : Int) else 1) ≤ a → ∃ r, module_reader_number.j2 (k + 1) u ((7 * i : Nat) : Int) a g b ((p + 1 : Nat) : Int) false = some r ∧ Is (numT (e + 1) (if i = 0 then 0 else 1) u (2 ^ (7 * i))) b p r := by
        intro g hg hlo
        subst hg
        obtain ⟨q1, q2, q3⟩ := hgrp a h4.1 h4.2
        rw [module_reader_number.j2, if_neg (by decide), if_pos (by omega), q1]
        by_cases c : a < 128
        · rw [if_pos c, val_is q2 (by omega)]
          refine ⟨_, rfl, Or.inl ⟨_, p + 1, rfl, h2, ?_⟩⟩
          rw [h5]
          show (if (if i = 0 then (0 : Int) else 1) ≤ a ∧ a ≤ 255 then run (if a < 128 then P.ret (unz (u + a * 2 ^ (7 * i))) else _) (b.drop (p + 1)) (p + 1) else (p, none)) = _
          rw [if_pos ⟨hlo, h4.2⟩, if_pos c, Int.emod_eq_of_lt h4.1 c]
          rfl
        · rw [if_neg c]
          have hw : wrap64 (((7 * i : Nat) : Int) + 7) = ((7 * (i + 1) : Nat) : Int) := by rw [wrap_id (by unfold I64; omega)]; omega
          have e2 : (2 : Int) ^ (7 * (i + 1)) = 2 ^ (7 * i) * 128 := by
            rw [Nat.mul_add, Int.pow_add]
            rfl
          rw [hw]
          clear hw
          obtain ⟨r, hr, hI⟩ := ih (i + 1) k (p + 1) (u + a % 128 * 2 ^ (7 * i)) (by omega) (by omega) (by omega) q2 (by rw [e2]; omega)
          refine ⟨r, hr, ?_⟩
          have er : run (numT (e + 1) (if i = 0 then 0 else 1) u (2 ^ (7 * i))) (b.drop p) p = run (numT e (if i + 1 = 0 then 0 else 1) (u + a % 128 * 2 ^ (7 * i)) (2 ^ (7 * (i + 1)))) (b.drop (p + 1)) (p + 1) := by
            rw [h5]
            show (if (if i = 0 then (0 : Int) else 1) ≤ a ∧ a ≤ 255 then run (if a < 128 then P.ret (unz (u + a * 2 ^ (7 * i))) else numT e 1 (u + (a - 128) * 2 ^ (7 * i)) (2 ^ (7 * i) * 128)) (b.drop (p + 1)) (p + 1) else (p, none)) = _
            rw [if_pos ⟨hlo, h4.2⟩, if_neg c, e2, show a % 128 = a - 128 by omega, if_neg (by omega)]
          unfold Is
          rw [er]
          exact hI
      by_cases c : a = 0
      · rw [if_pos c]
        by_cases ci : i = 0
        · rw [if_neg (by omega)]
          exact hstep _ rfl (by rw [if_pos ci]; omega)
        · rw [if_pos (by omega), c, module_reader_number.j2, if_pos (by decide), if_pos (by omega), if_pos (by decide)]
          have hw : wrap64 (((p + 1 : Nat) : Int) - 1) = (p : Int) := by
            rw [wrap_id (by unfold I64; omega)]
            omega
          rw [hw]
          clear hw
          refine ⟨_, rfl, Or.inr ⟨_, p, rfl, ?_⟩⟩
          rw [h5, if_neg ci]
          show (if (1 : Int) ≤ a ∧ a ≤ 255 then _ else (p, none)) = _
          rw [if_neg (by omega)]
      · rw [if_neg c]
        exact hstep _ rfl (by split <;> omega)
    · rw [h1]
      simp only [Option.bind_some]
      obtain ⟨v, hv⟩ := j2_end (u := u) (c := 0) (i := i) (b := b) (p := (p : Int)) (bad := true) k (by omega)
      have hrun : run (numT (e + 1) (if i = 0 then 0 else 1) u (2 ^ (7 * i))) (b.drop p) p = (p, none) := h2 _ 255 (by split <;> omega) (by omega) _
      rw [if_pos trivial]
      split
      · exact ⟨_, hv, Or.inr ⟨v, p, rfl, hrun⟩⟩
      · exact ⟨_, hv, Or.inr ⟨v, p, rfl, hrun⟩⟩
theorem number_is {b : List Int} (hB : Byt b) {k p : Nat} (hk : 40 ≤ k) (hp : p ≤ b.length) : ∃ r, module_reader_number.f k b (p : Int) false = some r ∧ Is (numT 9 0 0 1) b p r :=
  num_is hB 9 0 k p 0 rfl (by omega) hp (by omega) (by decide)
theorem number_bad {b : List Int} {k : Nat} {p : Int} (hk : 1 ≤ k) : ∃ v, module_reader_number.f k b p true = some (v, p, true) := by
  obtain ⟨k, rfl⟩ : ∃ q, k = q + 1 := ⟨k - 1, by omega⟩
  exact num_bad k 0 0 p b
/-- The instructions, when a byte couldn't be. -/
theorem loop_bad {b : List Int} {k : Nat} {n p a a' c : Int} {acc : List S41} (hk : 2 ≤ k) : module_reader_function.l0 k n b p true a a' c acc = some (a, a', c, acc, p, true) := by
  obtain ⟨k, rfl⟩ : ∃ q, k = q + 2 := ⟨k - 2, by omega⟩
  rw [module_reader_function.l0]
  split
  · rw [module_reader_function.j1, if_neg (by decide)]
  · rw [module_reader_function.j1, if_neg (by decide)]
/-- What a row of things answers. -/
def IsL (t : P (List S41)) (b : List Int) (p : Nat) (r : List S41 × Int × Bool) : Prop := Is t b p r
theorem ins_bind {β : Type} {b : List Int} {p q : Nat} {op : Int} (f : S41 → P β) (h : run (byteT 0 29) (b.drop p) p = (q, some (op, b.drop q))) :
    run (insT.bind f) (b.drop p) p = if has op = true then run ((numT 9 0 0 1).bind fun n => f ⟨op, n⟩) (b.drop q) q else run (f ⟨op, 0⟩) (b.drop q) q := by
  rw [run_bind]
  have e : run insT (b.drop p) p = run (if has op = true then (numT 9 0 0 1).bind fun n => .ret ⟨op, n⟩ else .ret ⟨op, 0⟩) (b.drop q) q := by
    unfold insT
    rw [run_bind, h]
  rw [e]
  by_cases hh : has op = true
  · rw [if_pos hh, if_pos hh, run_bind, run_bind]
    cases run (numT 9 0 0 1) (b.drop q) q with
    | mk q2 o =>
      cases o with
      | none => rfl
      | some z =>
        obtain ⟨z1, z2⟩ := z
        rfl
  · rw [if_neg hh, if_neg hh]
    rfl
theorem loop_is {b : List Int} (hB : Byt b) {a a' c : Int} : ∀ (n k p : Nat) (acc : List S41), n ≤ 100000 → 2 * n + 60 ≤ k → p ≤ b.length → acc.length + n ≤ 100000 →
    ∃ l q bad, module_reader_function.l0 k (n : Int) b (p : Int) false a a' c acc = some (a, a', c, l, q, bad) ∧ Is (repA insT n acc) b p (l, q, bad) := by
  intro n
  induction n with
  | zero =>
    intro k p acc hn hk hp hl
    obtain ⟨k, rfl⟩ : ∃ q, k = q + 2 := ⟨k - 2, by omega⟩
    rw [module_reader_function.l0, if_neg (by omega), module_reader_function.j1, if_neg (by decide)]
    exact ⟨_, _, _, rfl, Or.inl ⟨acc, p, rfl, hp, rfl⟩⟩
  | succ n ih =>
    intro k p acc hn hk hp hl
    obtain ⟨k, rfl⟩ : ∃ q, k = q + 2 := ⟨k - 2, by omega⟩
    have hw : wrap64 (((n + 1 : Nat) : Int) - 1) = (n : Int) := by
      rw [wrap_id (by unfold I64; omega)]
      omega
    rw [module_reader_function.l0, if_pos (by omega), module_reader_function.j1, if_pos (by decide), hw]
    clear hw
    obtain ⟨r, hr, hI, hbd⟩ := byte_is hB hp 0 29
    rw [hr]
    simp only [Option.bind_some]
    rw [has_f _ (by omega)]
    simp only [Option.bind_some]
    rcases hI with ⟨op, q, rfl, hq, hrun⟩ | ⟨v, q, rfl, hrun⟩
    · have hstep := ins_bind (fun x => repA insT n (acc ++ [x])) hrun
      by_cases hh : has op = true
      · rw [if_pos hh]
        obtain ⟨r2, hr2, hI2⟩ := number_is hB (k := k) (p := q) (by omega) hq
        rw [hr2]
        simp only [Option.bind_some]
        rw [if_pos (by omega)]
        rw [if_pos hh] at hstep
        rcases hI2 with ⟨v, q2, rfl, hq2, hrun2⟩ | ⟨v, q2, rfl, hrun2⟩
        · obtain ⟨l, q3, bad, h1, h2⟩ := ih k q2 (acc ++ [⟨op, v⟩]) (by omega) (by omega) hq2 (by simp only [List.length_append, List.length_singleton]; omega)
          refine ⟨l, q3, bad, h1, ?_⟩
          have e : run (repA insT (n + 1) acc) (b.drop p) p = run (repA insT n (acc ++ [⟨op, v⟩])) (b.drop q2) q2 := by
            show run (insT.bind fun x => repA insT n (acc ++ [x])) (b.drop p) p = _
            rw [hstep, run_bind, hrun2]
          unfold Is
          rw [e]
          exact h2
        · refine ⟨_, _, _, loop_bad (by omega), Or.inr ⟨_, q2, rfl, ?_⟩⟩
          show run (insT.bind fun x => repA insT n (acc ++ [x])) (b.drop p) p = _
          rw [hstep, run_bind, hrun2]
      · rw [if_neg hh, if_pos (by omega)]
        rw [if_neg hh] at hstep
        obtain ⟨l, q3, bad, h1, h2⟩ := ih k q (acc ++ [⟨op, 0⟩]) (by omega) (by omega) hq (by simp only [List.length_append, List.length_singleton]; omega)
        refine ⟨l, q3, bad, h1, ?_⟩
        have e : run (repA insT (n + 1) acc) (b.drop p) p = run (repA insT n (acc ++ [⟨op, 0⟩])) (b.drop q) q := hstep
        unfold Is
        rw [e]
        exact h2
    · have e : run (repA insT (n + 1) acc) (b.drop p) p = (q, none) := by
        show run (insT.bind fun x => repA insT n (acc ++ [x])) (b.drop p) p = _
        rw [run_bind]
        unfold insT
        rw [run_bind, hrun]
      by_cases hh : has v = true
      · rw [if_pos hh]
        obtain ⟨v2, hv2⟩ := number_bad (b := b) (k := k) (p := (q : Int)) (by omega)
        rw [hv2]
        simp only [Option.bind_some]
        rw [if_pos (by omega)]
        exact ⟨_, _, _, loop_bad (by omega), Or.inr ⟨_, q, rfl, e⟩⟩
      · rw [if_neg hh, if_pos (by omega)]
        exact ⟨_, _, _, loop_bad (by omega), Or.inr ⟨_, q, rfl, e⟩⟩
/-- A function. -/
theorem function_is {b : List Int} (hB : Byt b) {k p : Nat} (hk : 900 ≤ k) (hp : p ≤ b.length) :
    ∃ f0 f1 f2 l q bad, module_reader_function.f k b (p : Int) false = some (f0, f1, f2, l, q, bad) ∧ Is fnT b p ((⟨f0, f1, f2, l⟩ : S44), q, bad) := by
  unfold module_reader_function.f
  obtain ⟨r1, hr1, hI1, hb1⟩ := byte_is hB hp 0 8
  rw [hr1]
  simp only [Option.bind_some]
  rcases hI1 with ⟨a, q1, rfl, hq1, hrun1⟩ | ⟨v1, q1, rfl, hrun1⟩
  · have ha := hb1 rfl
    simp only at ha
    simp only
    have hw : wrap64 (16 - a) = 16 - a := wrap_id (by unfold I64; omega)
    rw [hw]
    clear hw
    obtain ⟨r2, hr2, hI2, hb2⟩ := byte_is hB hq1 0 1
    rw [hr2]
    simp only [Option.bind_some]
    rcases hI2 with ⟨a2, q2, rfl, hq2, hrun2⟩ | ⟨v2, q2, rfl, hrun2⟩
    · obtain ⟨r3, hr3, hI3, hb3⟩ := byte_is hB hq2 0 (16 - a)
      simp only
      rw [hr3]
      simp only [Option.bind_some]
      rcases hI3 with ⟨a3, q3, rfl, hq3, hrun3⟩ | ⟨v3, q3, rfl, hrun3⟩
      · obtain ⟨r4, hr4, hI4⟩ := two_is hB hq3 (lo := 1) (hi := 400) (by omega) (by omega) (by omega) (by omega)
        simp only
        rw [hr4]
        simp only [Option.bind_some]
        rcases hI4 with ⟨n, q4, rfl, hq4, hrun4⟩ | ⟨v4, q4, rfl, hrun4⟩
        · have hn : 1 ≤ n ∧ n ≤ 400 := by
            obtain ⟨zs, _, _, hacc⟩ := run_some _ _ _ hrun4
            exact ((acc_two (by omega) (by omega) _ _).1 hacc).1
          obtain ⟨l, q5, bad, h5, hI5⟩ := loop_is hB (a := a) (a' := a2) (c := a3) n.toNat k q4 [] (by omega) (by omega) hq4 (by simp; omega)
          rw [show ((n.toNat : Nat) : Int) = n by omega] at h5
          refine ⟨a, a2, a3, l, q5, bad, h5, ?_⟩
          have e : run fnT (b.drop p) p = run ((repA insT n.toNat []).bind fun l => .ret ⟨a, a2, a3, l⟩) (b.drop q4) q4 := by
            unfold fnT
            rw [run_bind, hrun1]
            simp only
            rw [run_bind, hrun2]
            simp only
            rw [run_bind, hrun3]
            simp only
            rw [run_bind, hrun4]
          unfold Is
          rw [e, run_bind]
          rcases hI5 with ⟨l', q6, h6, hq6, hrun6⟩ | ⟨l', q6, h6, hrun6⟩
          · simp only [Prod.mk.injEq] at h6
            obtain ⟨rfl, rfl, rfl⟩ := h6
            rw [hrun6]
            exact Or.inl ⟨_, q6, rfl, hq6, rfl⟩
          · simp only [Prod.mk.injEq] at h6
            obtain ⟨rfl, rfl, rfl⟩ := h6
            rw [hrun6]
            exact Or.inr ⟨_, q6, rfl, rfl⟩
        · rw [loop_bad (by omega)]
          refine ⟨_, _, _, _, _, _, rfl, Or.inr ⟨_, q4, rfl, ?_⟩⟩
          unfold fnT
          rw [run_bind, hrun1]
          simp only
          rw [run_bind, hrun2]
          simp only
          rw [run_bind, hrun3]
          simp only
          rw [run_bind, hrun4]
      · obtain ⟨v4, hv4⟩ := two_bad b (q3 : Int) 1 400
        simp only
        rw [hv4]
        simp only [Option.bind_some]
        rw [loop_bad (by omega)]
        refine ⟨_, _, _, _, _, _, rfl, Or.inr ⟨_, q3, rfl, ?_⟩⟩
        unfold fnT
        rw [run_bind, hrun1]
        simp only
        rw [run_bind, hrun2]
        simp only
        rw [run_bind, hrun3]
    · simp only [next_bad, Option.bind_some]
      obtain ⟨v4, hv4⟩ := two_bad b (q2 : Int) 1 400
      rw [hv4]
      simp only [Option.bind_some]
      rw [loop_bad (by omega)]
      refine ⟨_, _, _, _, _, _, rfl, Or.inr ⟨_, q2, rfl, ?_⟩⟩
      unfold fnT
      rw [run_bind, hrun1]
      simp only
      rw [run_bind, hrun2]
  · simp only [next_bad, Option.bind_some]
    obtain ⟨v4, hv4⟩ := two_bad b (q1 : Int) 1 400
    rw [hv4]
    simp only [Option.bind_some]
    rw [loop_bad (by omega)]
    refine ⟨_, _, _, _, _, _, rfl, Or.inr ⟨_, q1, rfl, ?_⟩⟩
    unfold fnT
    rw [run_bind, hrun1]
end Go.Proofs.Ytbdkphjpdoajpaa.Mdl
