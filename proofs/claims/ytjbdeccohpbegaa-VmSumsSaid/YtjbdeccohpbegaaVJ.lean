import Derived.Test.YtjbdeccohpbegaaVG
namespace Go.Proofs.Ytjbdeccohpbegaa.Vm
open Go Go.RowKit Go.Proofs Go.Proofs.Ytjbdeccohpbegaa.X
set_option linter.unusedVariables false
set_option linter.unusedSimpArgs false
noncomputable section
/-! Memory: what is read of it, put into it, taken from it -/
def ub (c : List Int) (i : Nat) : Int := gt (Sh.int .u8) c i
theorem e13_eq (k : Nat) (a : Int) (n : Int) (m : Int) (d : List Int) (l : Fs) (c : List Int) (fr : Fr) (asks : Bool) (call : Int) (args : List Int) (trap : Int) : f13 k ((((), ()), (a, ()), (n, ()), ()), ((m, d, l), (), (), (asks, call, args, trap), ()), c, fr, ()) = bif decide (n < (0 : Int)) then some ((([], ()), (false, ()), ()), ()) else bif decide (a < (0 : Int)) then some ((([], ()), (false, ()), ()), ()) else bif decide (a > (↑c.length : Int)) then some ((([], ()), (false, ()), ()), ()) else bif decide (n > IntKind.i64.wrap ((↑c.length : Int) - a)) then some ((([], ()), (false, ()), ()), ()) else bif decide ((0 : Int) ≤ a ∧ a ≤ IntKind.i64.wrap (a + n) ∧ IntKind.i64.wrap (a + n) ≤ IntKind.i64.wrap (a + n) ∧ IntKind.i64.wrap (a + n) ≤ (↑c.length : Int)) then Option.bind (bif ((([] : List Int).length + (List.take ((IntKind.i64.wrap (a + n)).toNat - a.toNat) (List.drop a.toNat c)).length) * (1 : Nat)).ble (140737488355328 : Nat) then some ((((), ()), ()), List.take ((IntKind.i64.wrap (a + n)).toNat - a.toNat) (List.drop a.toNat c), ()) else none) fun v => some (((v.2.1, ()), (true, ()), ()), ()) else none := by kernel_rfl
def e34_0 (g : ((List Int × Unit) × ((Nat × Nat) × Unit) × (Int × Unit) × (Int × Unit) × Unit) × ((Int × List Int × Fs) × Unit × Unit × (Bool × Int × List Int × Int) × Unit) × List Int × Fr × Unit) (L : ((List Int × Unit) × ((Nat × Nat) × Unit) × (Int × Unit) × (Int × Unit) × Unit) × ((Int × List Int × Fs) × Unit × Unit × (Bool × Int × List Int × Int) × Unit) × List Int × Fr × Unit → Option (Unit × ((Int × List Int × Fs) × Unit × Unit × (Bool × Int × List Int × Int) × Unit) × List Int × Fr × Unit)) : Option (Unit × ((Int × List Int × Fs) × Unit × Unit × (Bool × Int × List Int × Int) × Unit) × List Int × Fr × Unit) := bif decide (g.1.2.2.2.1.1 < g.1.2.2.1.1) then bif decide ((0 : Int) ≤ (1 : Int) ∧ (1 : Int) < (↑g.1.1.1.length : Int)) then bif decide ((0 : Int) ≤ IntKind.i64.wrap ((8 : Int) * g.1.2.2.2.1.1)) then bif decide ((0 : Int) ≤ g.1.2.2.2.1.1 ∧ g.1.2.2.2.1.1 < (↑g.1.2.1.1.2 : Int)) then L (((g.1.1.1, ()), ((g.1.2.1.1.1, g.1.2.1.1.2), ()), (g.1.2.2.1.1, ()), (IntKind.i64.wrap (g.1.2.2.2.1.1 + (1 : Int)), ()), ()), ((g.2.1.1.1, g.2.1.1.2.1, g.2.1.1.2.2), (), (), (g.2.1.2.2.2.1.1, g.2.1.2.2.2.1.2.1, g.2.1.2.2.2.1.2.2.1, g.2.1.2.2.2.1.2.2.2), ()), g.2.2.1.set (g.1.2.1.1.1 + g.1.2.2.2.1.1.toNat) (IntKind.u8.wrap (Int.fdiv (gt is g.1.1.1 (Int.toNat (1 : Int))) ((2 : Int) ^ min (IntKind.i64.wrap ((8 : Int) * g.1.2.2.2.1.1)).toNat IntKind.i64.bits))), g.2.2.2.1, ()) else none else none else none else some ((), ((g.2.1.1.1, g.2.1.1.2.1, g.2.1.1.2.2), (), (), (g.2.1.2.2.2.1.1, g.2.1.2.2.2.1.2.1, g.2.1.2.2.2.1.2.2.1, g.2.1.2.2.2.1.2.2.2), ()), g.2.2.1, g.2.2.2.1, ())
theorem e34_eq (k : Nat) (a : Int) (w : Int) (m : Int) (d : List Int) (l : Fs) (c : List Int) (fr : Fr) (asks : Bool) (call : Int) (args : List Int) (trap : Int) : f34 k ((((), ()), ((21 : Int), ()), ([a, w], ()), ()), ((m, d, l), (), (), (asks, call, args, trap), ()), c, fr, ()) = (f13 k ((((), ()), (a, ()), ((1 : Int), ()), ()), ((m, d, l), (), (), (asks, call, args, trap), ()), c, fr, ())).bind fun v => bif !v.1.2.1.1 then some ((), ((m, d, l), (), (), (asks, call, args, (2 : Int)), ()), c, fr, ()) else bif decide ((0 : Int) ≤ a ∧ a ≤ IntKind.i64.wrap (a + (1 : Int)) ∧ IntKind.i64.wrap (a + (1 : Int)) ≤ IntKind.i64.wrap (a + (1 : Int)) ∧ IntKind.i64.wrap (a + (1 : Int)) ≤ (↑c.length : Int)) then loopN e34_0 k ((([a, w], ()), ((Int.toNat (a), (IntKind.i64.wrap (a + (1 : Int))).toNat - Int.toNat (a)), ()), ((↑((IntKind.i64.wrap (a + (1 : Int))).toNat - Int.toNat (a)) : Int), ()), ((0 : Int), ()), ()), ((m, d, l), (), (), (asks, call, args, trap), ()), c, fr, ()) else none := by kernel_rfl
theorem e34b_eq (k : Nat) (a : Int) (w : Int) (m : Int) (d : List Int) (l : Fs) (c : List Int) (fr : Fr) (asks : Bool) (call : Int) (args : List Int) (trap : Int) : f34 k ((((), ()), ((23 : Int), ()), ([a, w], ()), ()), ((m, d, l), (), (), (asks, call, args, trap), ()), c, fr, ()) = (f13 k ((((), ()), (a, ()), ((8 : Int), ()), ()), ((m, d, l), (), (), (asks, call, args, trap), ()), c, fr, ())).bind fun v => bif !v.1.2.1.1 then some ((), ((m, d, l), (), (), (asks, call, args, (2 : Int)), ()), c, fr, ()) else bif decide ((0 : Int) ≤ a ∧ a ≤ IntKind.i64.wrap (a + (8 : Int)) ∧ IntKind.i64.wrap (a + (8 : Int)) ≤ IntKind.i64.wrap (a + (8 : Int)) ∧ IntKind.i64.wrap (a + (8 : Int)) ≤ (↑c.length : Int)) then loopN e34_0 k ((([a, w], ()), ((Int.toNat (a), (IntKind.i64.wrap (a + (8 : Int))).toNat - Int.toNat (a)), ()), ((↑((IntKind.i64.wrap (a + (8 : Int))).toNat - Int.toNat (a)) : Int), ()), ((0 : Int), ()), ()), ((m, d, l), (), (), (asks, call, args, trap), ()), c, fr, ()) else none := by kernel_rfl
def e34c_0 (k : Nat) (a : Int) (m : Int) (d : List Int) (l : Fs) (asks : Bool) (call : Int) (args : List Int) (trap : Int) (c : List Int) (fr : Fr) (g : ((Unit × Unit) × (Int × Unit) × ((Nat × Nat) × Unit) × (Int × Unit) × (Int × Unit) × Unit) × ((Int × List Int × Fs) × Unit × Unit × (Bool × Int × List Int × Int) × Unit) × List Int × Fr × Unit) (L : ((Unit × Unit) × (Int × Unit) × ((Nat × Nat) × Unit) × (Int × Unit) × (Int × Unit) × Unit) × ((Int × List Int × Fs) × Unit × Unit × (Bool × Int × List Int × Int) × Unit) × List Int × Fr × Unit → Option (Unit × ((Int × List Int × Fs) × Unit × Unit × (Bool × Int × List Int × Int) × Unit) × List Int × Fr × Unit)) : Option (Unit × ((Int × List Int × Fs) × Unit × Unit × (Bool × Int × List Int × Int) × Unit) × List Int × Fr × Unit) := bif decide (g.1.2.2.2.2.1.1 < g.1.2.2.2.1.1) then bif decide ((0 : Int) ≤ g.1.2.2.2.2.1.1 ∧ g.1.2.2.2.2.1.1 < (↑g.1.2.2.1.1.2 : Int)) then bif decide ((0 : Int) ≤ IntKind.i64.wrap ((8 : Int) * g.1.2.2.2.2.1.1)) then L ((((), ()), (IntKind.u64.wrap (↑(BitVec.ofInt IntKind.u64.bits g.1.2.1.1 ||| BitVec.ofInt IntKind.u64.bits (IntKind.u64.wrap (IntKind.u64.wrap (ub g.2.2.1 (g.1.2.2.1.1.1 + g.1.2.2.2.2.1.1.toNat)) * (2 : Int) ^ min (IntKind.i64.wrap ((8 : Int) * g.1.2.2.2.2.1.1)).toNat IntKind.u64.bits))).toNat : Int), ()), ((g.1.2.2.1.1.1, g.1.2.2.1.1.2), ()), (g.1.2.2.2.1.1, ()), (IntKind.i64.wrap (g.1.2.2.2.2.1.1 + (1 : Int)), ()), ()), ((g.2.1.1.1, g.2.1.1.2.1, g.2.1.1.2.2), (), (), (g.2.1.2.2.2.1.1, g.2.1.2.2.2.1.2.1, g.2.1.2.2.2.1.2.2.1, g.2.1.2.2.2.1.2.2.2), ()), g.2.2.1, g.2.2.2.1, ()) else none else none else (f24 k ((((), ()), ()), ((g.2.1.1.1, g.2.1.1.2.1, g.2.1.1.2.2), (), (), (g.2.1.2.2.2.1.1, g.2.1.2.2.2.1.2.1, g.2.1.2.2.2.1.2.2.1, g.2.1.2.2.2.1.2.2.2), ()), g.2.2.1, g.2.2.2.1, ())).bind fun v => (f25 k (((v.1.1.1, ()), (IntKind.i64.wrap g.1.2.1.1, ()), ()), g.2.2.2.1, ())).bind fun v => some ((), ((g.2.1.1.1, g.2.1.1.2.1, g.2.1.1.2.2), (), (), (g.2.1.2.2.2.1.1, g.2.1.2.2.2.1.2.1, g.2.1.2.2.2.1.2.2.1, g.2.1.2.2.2.1.2.2.2), ()), g.2.2.1, v.2.1, ())
theorem e34c_eq (k : Nat) (a : Int) (m : Int) (d : List Int) (l : Fs) (c : List Int) (fr : Fr) (asks : Bool) (call : Int) (args : List Int) (trap : Int) : f34 k ((((), ()), ((20 : Int), ()), ([a], ()), ()), ((m, d, l), (), (), (asks, call, args, trap), ()), c, fr, ()) = (f13 k ((((), ()), (a, ()), ((1 : Int), ()), ()), ((m, d, l), (), (), (asks, call, args, trap), ()), c, fr, ())).bind fun v => bif !v.1.2.1.1 then some ((), ((m, d, l), (), (), (asks, call, args, (2 : Int)), ()), c, fr, ()) else bif decide ((0 : Int) ≤ a ∧ a ≤ IntKind.i64.wrap (a + (1 : Int)) ∧ IntKind.i64.wrap (a + (1 : Int)) ≤ IntKind.i64.wrap (a + (1 : Int)) ∧ IntKind.i64.wrap (a + (1 : Int)) ≤ (↑c.length : Int)) then loopN (e34c_0 k a m d l asks call args trap c fr) k ((((), ()), ((0 : Int), ()), ((Int.toNat (a), (IntKind.i64.wrap (a + (1 : Int))).toNat - Int.toNat (a)), ()), ((↑((IntKind.i64.wrap (a + (1 : Int))).toNat - Int.toNat (a)) : Int), ()), ((0 : Int), ()), ()), ((m, d, l), (), (), (asks, call, args, trap), ()), c, fr, ()) else none := by kernel_rfl
theorem e34d_eq (k : Nat) (a : Int) (m : Int) (d : List Int) (l : Fs) (c : List Int) (fr : Fr) (asks : Bool) (call : Int) (args : List Int) (trap : Int) : f34 k ((((), ()), ((22 : Int), ()), ([a], ()), ()), ((m, d, l), (), (), (asks, call, args, trap), ()), c, fr, ()) = (f13 k ((((), ()), (a, ()), ((8 : Int), ()), ()), ((m, d, l), (), (), (asks, call, args, trap), ()), c, fr, ())).bind fun v => bif !v.1.2.1.1 then some ((), ((m, d, l), (), (), (asks, call, args, (2 : Int)), ()), c, fr, ()) else bif decide ((0 : Int) ≤ a ∧ a ≤ IntKind.i64.wrap (a + (8 : Int)) ∧ IntKind.i64.wrap (a + (8 : Int)) ≤ IntKind.i64.wrap (a + (8 : Int)) ∧ IntKind.i64.wrap (a + (8 : Int)) ≤ (↑c.length : Int)) then loopN (e34c_0 k a m d l asks call args trap c fr) k ((((), ()), ((0 : Int), ()), ((Int.toNat (a), (IntKind.i64.wrap (a + (8 : Int))).toNat - Int.toNat (a)), ()), ((↑((IntKind.i64.wrap (a + (8 : Int))).toNat - Int.toNat (a)) : Int), ()), ((0 : Int), ()), ()), ((m, d, l), (), (), (asks, call, args, trap), ()), c, fr, ()) else none := by kernel_rfl

theorem mem_in {K : Nat} {a n m : Int} {d : List Int} {l : Fs} {c : List Int} {fr : Fr} {asks : Bool} {call trap : Int} {args : List Int} (h0 : 0 ≤ a) (hn : 0 ≤ n) (h1 : a + n ≤ (c.length : Int)) (hc : c.length ≤ 2000) :
    f13 K ((((), ()), (a, ()), (n, ()), ()), MS m d l asks call args trap, c, fr, ()) = some (((List.take ((a + n).toNat - a.toNat) (List.drop a.toNat c), ()), (true, ()), ()), ()) := by
  refine (e13_eq K a n m d l c fr asks call args trap).trans ?_
  rw [cneg (by omega), cneg (by omega), cneg (by omega), wrapId (n := (c.length : Int) - a) (by omega) (by omega), cneg (by omega), wrapId (n := a + n) (by omega) (by omega), cpos (by omega), blt (by simp only [List.length_nil, List.length_take, List.length_drop]; omega), Option.bind_some]
theorem mem_out {K : Nat} {a n m : Int} {d : List Int} {l : Fs} {c : List Int} {fr : Fr} {asks : Bool} {call trap : Int} {args : List Int} (hn : 0 ≤ n) (h : ¬ (0 ≤ a ∧ a + n ≤ (c.length : Int))) (hc : c.length ≤ 2000) :
    f13 K ((((), ()), (a, ()), (n, ()), ()), MS m d l asks call args trap, c, fr, ()) = some ((([], ()), (false, ()), ()), ()) := by
  refine (e13_eq K a n m d l c fr asks call args trap).trans ?_
  rw [cneg (by omega)]
  by_cases h1 : a < 0
  · rw [cpos h1]
  · rw [cneg h1]
    by_cases h2 : a > (c.length : Int)
    · rw [cpos h2]
    · rw [cneg h2, wrapId (n := (c.length : Int) - a) (by omega) (by omega), cpos (by omega)]
def bt (v j : Int) : Int := IntKind.u8.wrap (v.fdiv ((2 : Int) ^ min (IntKind.i64.wrap (8 * j)).toNat IntKind.i64.bits))
theorem bt_at (v j e : Int) (he : (2 : Int) ^ min (IntKind.i64.wrap (8 * j)).toNat IntKind.i64.bits = e) (h : 0 < e) : bt v j = v / e % 256 := by
  rw [bt, he, Int.fdiv_eq_ediv_of_nonneg _ (by omega), IntKind.wrap_u8]
theorem bt_in (v j : Int) : 0 ≤ bt v j ∧ bt v j < 256 := by
  rw [bt, IntKind.wrap_u8]; omega
/-- a number's bytes, put into a memory one by one -/
def puts (c : List Int) (a : Nat) (v : Int) : Nat → List Int
  | 0 => c
  | j + 1 => (puts c a v j).set (a + j) (bt v j)
theorem puts_len (c : List Int) (a : Nat) (v : Int) (n : Nat) : (puts c a v n).length = c.length := by
  induction n with
  | zero => rfl
  | succ n ih => rw [puts, List.length_set, ih]
theorem ub_set {xs : List Int} {i j : Nat} {v : Int} (h : i < xs.length) : ub (xs.set i v) j = if j = i then v else ub xs j := by
  show (xs.set i v).getD j 0 = if j = i then v else xs.getD j 0
  rw [List.getD_eq_getElem?_getD, List.getD_eq_getElem?_getD, List.getElem?_set]
  by_cases hj : j = i
  · rw [if_pos hj, if_pos hj.symm, if_pos h]
    rfl
  · rw [if_neg hj, if_neg (fun e => hj e.symm)]
theorem ub_puts (c : List Int) (a : Nat) (v : Int) (i : Nat) : ∀ n, a + n ≤ c.length → ub (puts c a v n) i = if a ≤ i ∧ i < a + n then bt v ((i : Int) - a) else ub c i := by
  intro n
  induction n with
  | zero => intro h; rw [if_neg (by omega)]; rfl
  | succ n ih =>
    intro h
    rw [puts, ub_set (by rw [puts_len]; omega), ih (by omega)]
    by_cases h1 : i = a + n
    · rw [if_pos h1, if_pos (by omega)]
      congr 1
      omega
    · rw [if_neg h1]
      by_cases h2 : a ≤ i ∧ i < a + n
      · rw [if_pos h2, if_pos (by omega)]
      · rw [if_neg h2, if_neg (by omega)]
abbrev R34 (m : Int) (d : List Int) (l : Fs) (call : Int) (args : List Int) (t : Int) (c : List Int) (fr : Fr) : Option (Unit × ((Int × List Int × Fs) × Unit × Unit × (Bool × Int × List Int × Int) × Unit) × List Int × Fr × Unit) := some ((), MS m d l false call args t, c, fr, ())
theorem put_loop (a w : Int) (m : Int) (d : List Int) (l : Fs) (call : Int) (args : List Int) (t : Int) (fr : Fr) (A n : Nat) (hn : n ≤ 8) (c : List Int) : ∀ (e j k : Nat), j + e = n → e + 1 ≤ k →
    loopN e34_0 k ((([a, w], ()), ((A, n), ()), ((n : Int), ()), ((j : Int), ()), ()), MS m d l false call args t, puts c A w j, fr, ()) = R34 m d l call args t (puts c A w n) fr := by
  intro e
  induction e with
  | zero =>
    intro j k he hk
    obtain ⟨k, rfl⟩ : ∃ k2, k = k2 + 1 := ⟨k - 1, by omega⟩
    rw [loopN_succ, e34_0]
    simp only []
    rw [cneg (by omega), show j = n by omega]
  | succ e ih =>
    intro j k he hk
    obtain ⟨k, rfl⟩ : ∃ k2, k = k2 + 1 := ⟨k - 1, by omega⟩
    rw [loopN_succ, e34_0]
    simp only []
    rw [cpos (by omega), cpos (p := (0 : Int) ≤ 1 ∧ (1 : Int) < ([a, w].length : Int)) (by simp only [List.length_cons, List.length_nil]; omega), cpos (p := 0 ≤ IntKind.i64.wrap (8 * (j : Int))) (by rw [wrapId (by omega) (by omega)]; omega), cpos (p := 0 ≤ (j : Int) ∧ (j : Int) < (n : Int)) (by omega), wrapId (n := (j : Int) + 1) (by omega) (by omega), Int.toNat_natCast]
    have h := ih (j + 1) k (by omega) (by omega)
    rw [show ((j + 1 : Nat) : Int) = (j : Int) + 1 by omega] at h
    exact h
theorem store1 {K : Nat} (hK : 20 ≤ K) (a w m : Int) (d : List Int) (l : Fs) (c : List Int) (fr : Fr) (call : Int) (args : List Int) (hc : c.length ≤ 2000) :
    f34 K ((((), ()), ((21 : Int), ()), ([a, w], ()), ()), MS m d l false call args 0, c, fr, ()) = if 0 ≤ a ∧ a + 1 ≤ (c.length : Int) then R34 m d l call args 0 (puts c a.toNat w 1) fr else R34 m d l call args 2 c fr := by
  refine (e34_eq K a w m d l c fr false call args 0).trans ?_
  by_cases h : 0 ≤ a ∧ a + 1 ≤ (c.length : Int)
  · rw [if_pos h, mem_in h.1 (by decide) h.2 hc, Option.bind_some]
    simp only []
    rw [Bool.not_true, cond_false, wrapId (n := a + 1) (by omega) (by omega), cpos (by omega), show (a + 1).toNat - a.toNat = 1 by omega]
    exact put_loop a w m d l call args 0 fr a.toNat 1 (by decide) c 1 0 K (by omega) (by omega)
  · rw [if_neg h, mem_out (by decide) h hc, Option.bind_some]
    rfl
theorem store8 {K : Nat} (hK : 20 ≤ K) (a w m : Int) (d : List Int) (l : Fs) (c : List Int) (fr : Fr) (call : Int) (args : List Int) (hc : c.length ≤ 2000) :
    f34 K ((((), ()), ((23 : Int), ()), ([a, w], ()), ()), MS m d l false call args 0, c, fr, ()) = if 0 ≤ a ∧ a + 8 ≤ (c.length : Int) then R34 m d l call args 0 (puts c a.toNat w 8) fr else R34 m d l call args 2 c fr := by
  refine (e34b_eq K a w m d l c fr false call args 0).trans ?_
  by_cases h : 0 ≤ a ∧ a + 8 ≤ (c.length : Int)
  · rw [if_pos h, mem_in h.1 (by decide) h.2 hc, Option.bind_some]
    simp only []
    rw [Bool.not_true, cond_false, wrapId (n := a + 8) (by omega) (by omega), cpos (by omega), show (a + 8).toNat - a.toNat = 8 by omega]
    exact put_loop a w m d l call args 0 fr a.toNat 8 (by decide) c 8 0 K (by omega) (by omega)
  · rw [if_neg h, mem_out (by decide) h hc, Option.bind_some]
    rfl
end
end Go.Proofs.Ytjbdeccohpbegaa.Vm
