import Derived.Test.YtjbdeccohpbegaaVN
namespace Go.Proofs.Ytjbdeccohpbegaa.Vm
open Go Go.RowKit Go.Proofs Go.Proofs.Ytjbdeccohpbegaa.X
set_option linter.unusedVariables false
set_option linter.unusedSimpArgs false
noncomputable section
/-! The law VmSums: its two loops, the end -/
theorem mem_eq (d : List Int) (hd : d.length ≤ 200) : memOf 600 d = d ++ List.replicate (600 - d.length) 0 := by
  have h1 : (List.replicate (Int.toNat 600) (0 : Int)).length = 600 := List.length_replicate
  have h2 : d.length.min (List.replicate (Int.toNat 600) (0 : Int)).length = d.length := by rw [h1]; exact Nat.min_eq_left (by omega)
  show List.take 0 (List.replicate (Int.toNat 600) (0 : Int)) ++ List.take (d.length.min (List.replicate (Int.toNat 600) (0 : Int)).length) d ++ List.drop (0 + d.length.min (List.replicate (Int.toNat 600) (0 : Int)).length) (List.replicate (Int.toNat 600) (0 : Int)) = _
  rw [h2, List.take_zero, List.nil_append, List.take_length, Nat.zero_add, List.drop_replicate]
  rfl
theorem mem_len (d : List Int) (hd : d.length ≤ 200) : (memOf 600 d).length = 600 := by
  rw [mem_eq d hd, List.length_append, List.length_replicate]; omega
theorem mem_at (d : List Int) (hd : d.length ≤ 200) (i : Nat) (hi : i < d.length) : ub (memOf 600 d) i = ub d i := by
  rw [mem_eq d hd]
  show (d ++ List.replicate (600 - d.length) (0 : Int)).getD i 0 = d.getD i 0
  rw [List.getD_eq_getElem?_getD, List.getD_eq_getElem?_getD, List.getElem?_append_left hi]
theorem run_sums (k : Nat) (hk : 4000 ≤ k) (d : List Int) (hd : d.length ≤ 200) (hb : ∀ i, i < d.length → 0 ≤ ub d i ∧ ub d i < 256) (p v : Int) (hp : 300 ≤ p ∧ p ≤ 592) (hv : -9223372036854775808 ≤ v ∧ v < 9223372036854775808) :
    f16 (k + 60) ((((), ()), ((5000 : Int), ()), ()), MV (d.length : Int) p v ((d.length : Int) + 8), memOf 600 d, [(0, 0, [9, 9, 9], [])], ()) = some ((((1, 0, 4 + 15 * (d.length : Int) + 17, 0, []), ()), ()), MV (d.length : Int) p v ((d.length : Int) + 8), puts (puts (puts (memOf 600 d) (d.length : Int).toNat (SS d d.length) 8) p.toNat v 8) ((d.length : Int) + 8).toNat v 8, (), [], ()) := by
  rw [run_eq (k + 60) 5000 (by omega)]
  obtain ⟨F, hF⟩ : ∃ F, k + 60 = F + 1 + 17 + 15 * d.length + 4 := ⟨k + 60 - 22 - 15 * d.length, by omega⟩
  have hc := mem_len d hd
  have hcd := mem_at d hd
  generalize memOf 600 d = c at hc hcd ⊢
  suffices h : ∀ fuel, fuel = F + 1 + 17 + 15 * d.length + 4 → loopN (lp (k + 60)) fuel (GS 5000 (MV (d.length : Int) p v ((d.length : Int) + 8)) c [(0, 0, [9, 9, 9], [])] (0, 0, 0, 0, [])) = some ((((1, 0, 4 + 15 * (d.length : Int) + 17, 0, []), ()), ()), MV (d.length : Int) p v ((d.length : Int) + 8), puts (puts (puts c (d.length : Int).toNat (SS d d.length) 8) p.toNat v 8) ((d.length : Int) + 8).toNat v 8, (), [], ()) from h _ hF
  intro fuel hf
  subst hf
  show loopN (lp (k + 60)) (F + 1 + 17 + 15 * d.length + 3 + 1) _ = _
  rw [run_step (by decide) (v0 k (d.length : Int) p v ((d.length : Int) + 8) c 9 9 9 0 0)]
  show loopN (lp (k + 60)) (F + 1 + 17 + 15 * d.length + 2 + 1) _ = _
  rw [run_step (by decide) (v1 k (d.length : Int) p v ((d.length : Int) + 8) c 9 9 9 0 0)]
  show loopN (lp (k + 60)) (F + 1 + 17 + 15 * d.length + 1 + 1) _ = _
  rw [run_step (by decide) (v2 k (d.length : Int) p v ((d.length : Int) + 8) c 0 9 9 0 0)]
  show loopN (lp (k + 60)) (F + 1 + 17 + 15 * d.length + 0 + 1) _ = _
  rw [run_step (by decide) (v3 k (d.length : Int) p v ((d.length : Int) + 8) c 0 9 9 0 0)]
  refine (all_turns k d p v ((d.length : Int) + 8) c hc hd hb hcd d.length 0 4 (F + 1 + 17) (by omega) (by omega)).trans ?_
  exact last_turn k (d.length : Int) p v ((d.length : Int) + 8) c hc (SS d d.length) (4 + 15 * (d.length : Int)) (by omega) hp rfl hv (by omega) F
abbrev W1 (v : Int) (d : List Int) (M : (Int × List Int × Fs) × Unit × Unit × (Bool × Int × List Int × Int) × Unit) (c : List Int) (fr : Fr) (t : Int × Int × Int × Int × List Int) (acc i : Int) : ((Int × Unit) × (Int × Unit) × (Unit × Unit) × (Unit × Unit) × (Int × Unit) × (List Int × Unit) × (Int × Unit) × (Int × Unit) × Unit) × ((Int × List Int × Fs) × Unit × Unit × (Bool × Int × List Int × Int) × Unit) × List Int × Fr × ((Int × Int × Int × Int × List Int) × Unit) × Unit :=
  (((v, ()), ((d.length : Int), ()), ((), ()), ((), ()), (acc, ()), (d, ()), ((d.length : Int), ()), (i, ()), ()), M, c, fr, (t, ()), ())
theorem sum_loop (K : Nat) (d0 : List Int) (v0 a0 v : Int) (d : List Int) (hd : d.length ≤ 200) (hb : ∀ i, i < d.length → 0 ≤ ub d i ∧ ub d i < 256) (M : (Int × List Int × Fs) × Unit × Unit × (Bool × Int × List Int × Int) × Unit) (c : List Int) (fr : Fr) (t : Int × Int × Int × Int × List Int) (f : Nat) : ∀ (e i : Nat), i + e = d.length →
    loopN (e5_1 K d0 v0 a0) (f + 1 + e) (W1 v d M c fr t (SS d i) i) = loopN (e5_1 K d0 v0 a0) (f + 1) (W1 v d M c fr t (SS d d.length) (d.length : Int)) := by
  intro e
  induction e with
  | zero => intro i h; rw [show i = d.length by omega]
  | succ e ih =>
    intro i h
    have hbi := hb i (by omega)
    show loopN (e5_1 K d0 v0 a0) (f + 1 + e + 1) _ = _
    rw [loopN_succ, e5_1]
    simp only []
    rw [cpos (by omega), cpos (p := 0 ≤ (i : Int) ∧ (i : Int) < (d.length : Int)) (by omega), Int.toNat_natCast, wrapId (n := (i : Int) + 1) (by omega) (by omega), wrapId (n := ub d i) (by omega) (by omega)]
    have h := ih (i + 1) (by omega)
    rw [SS, show ((i + 1 : Nat) : Int) = (i : Int) + 1 by omega] at h
    exact h
abbrev W0 (v s : Int) (A B : List Int) (p q i : Int) : ((Int × Unit) × (Int × Unit) × (List Int × Unit) × (List Int × Unit) × (Int × Unit) × (Int × Unit) × (Int × Unit) × Unit) × Unit := (((v, ()), (s, ()), (A, ()), (B, ()), (p, ()), (q, ()), (i, ()), ()), ())
theorem wl5 {k : Nat} {v s p q x y : Int} (A B : List Int) (i i' : Int) (hi' : i - 1 = i') (hi : 0 ≤ i ∧ i ≤ 7) (hA : A.length = 8) (hB : B.length = 8) (hx : ub A i.toNat = x) (hy : ub B i.toNat = y) (hx2 : 0 ≤ x ∧ x < 256) (hy2 : 0 ≤ y ∧ y < 256) (hp : 0 ≤ p ∧ p < 72057594037927936) (hq : 0 ≤ q ∧ q < 72057594037927936) :
    loopN e5_0 (k + 1) (W0 v s A B p q i) = loopN e5_0 k (W0 v s A B (p * 256 + x) (q * 256 + y) i') := by
  subst hi'
  rw [loopN_succ, e5_0]
  simp only []
  rw [cpos hi.1, cpos (by omega), cpos (by omega), hx, hy, or8 p x hp hx2, or8 q y hq hy2, wrapId (by omega) (by omega)]
theorem back5 (k : Nat) (v s : Int) (hv : -9223372036854775808 ≤ v ∧ v < 9223372036854775808) (hs : -9223372036854775808 ≤ s ∧ s < 9223372036854775808) (A B : List Int) (hA : A.length = 8) (hB : B.length = 8) (gA : ∀ i : Nat, i < 8 → ub A i = bt s i) (gB : ∀ i : Nat, i < 8 → ub B i = bt v i) :
    loopN e5_0 (k + 60) (W0 v s A B 0 0 7) = some (((true, ()), ()), ()) := by
  have hs2 := bytes_of s hs
  have hv2 := bytes_of v hv
  have a0 := bt_in s 0
  have b0 := bt_in v 0
  have ga0 : ub A (Int.toNat 0) = bt s 0 := gA 0 (by decide)
  have gb0 : ub B (Int.toNat 0) = bt v 0 := gB 0 (by decide)
  have a1 := bt_in s 1
  have b1 := bt_in v 1
  have ga1 : ub A (Int.toNat 1) = bt s 1 := gA 1 (by decide)
  have gb1 : ub B (Int.toNat 1) = bt v 1 := gB 1 (by decide)
  have a2 := bt_in s 2
  have b2 := bt_in v 2
  have ga2 : ub A (Int.toNat 2) = bt s 2 := gA 2 (by decide)
  have gb2 : ub B (Int.toNat 2) = bt v 2 := gB 2 (by decide)
  have a3 := bt_in s 3
  have b3 := bt_in v 3
  have ga3 : ub A (Int.toNat 3) = bt s 3 := gA 3 (by decide)
  have gb3 : ub B (Int.toNat 3) = bt v 3 := gB 3 (by decide)
  have a4 := bt_in s 4
  have b4 := bt_in v 4
  have ga4 : ub A (Int.toNat 4) = bt s 4 := gA 4 (by decide)
  have gb4 : ub B (Int.toNat 4) = bt v 4 := gB 4 (by decide)
  have a5 := bt_in s 5
  have b5 := bt_in v 5
  have ga5 : ub A (Int.toNat 5) = bt s 5 := gA 5 (by decide)
  have gb5 : ub B (Int.toNat 5) = bt v 5 := gB 5 (by decide)
  have a6 := bt_in s 6
  have b6 := bt_in v 6
  have ga6 : ub A (Int.toNat 6) = bt s 6 := gA 6 (by decide)
  have gb6 : ub B (Int.toNat 6) = bt v 6 := gB 6 (by decide)
  have a7 := bt_in s 7
  have b7 := bt_in v 7
  have ga7 : ub A (Int.toNat 7) = bt s 7 := gA 7 (by decide)
  have gb7 : ub B (Int.toNat 7) = bt v 7 := gB 7 (by decide)
  generalize bt s 0 = x0 at hs2 a0 ga0
  generalize bt v 0 = y0 at hv2 b0 gb0
  generalize bt s 1 = x1 at hs2 a1 ga1
  generalize bt v 1 = y1 at hv2 b1 gb1
  generalize bt s 2 = x2 at hs2 a2 ga2
  generalize bt v 2 = y2 at hv2 b2 gb2
  generalize bt s 3 = x3 at hs2 a3 ga3
  generalize bt v 3 = y3 at hv2 b3 gb3
  generalize bt s 4 = x4 at hs2 a4 ga4
  generalize bt v 4 = y4 at hv2 b4 gb4
  generalize bt s 5 = x5 at hs2 a5 ga5
  generalize bt v 5 = y5 at hv2 b5 gb5
  generalize bt s 6 = x6 at hs2 a6 ga6
  generalize bt v 6 = y6 at hv2 b6 gb6
  generalize bt s 7 = x7 at hs2 a7 ga7
  generalize bt v 7 = y7 at hv2 b7 gb7
  have s7 : (0 : Int) * 256 + x7 = x7 := by omega
  have t7 : (0 : Int) * 256 + y7 = y7 := by omega
  show loopN e5_0 (k + 59 + 1) _ = _
  rw [wl5 A B 7 (6) (by decide) (by decide) hA hB ga7 gb7 a7 b7 (by omega) (by omega), s7, t7]
  show loopN e5_0 (k + 58 + 1) _ = _
  rw [wl5 A B 6 (5) (by decide) (by decide) hA hB ga6 gb6 a6 b6 (by omega) (by omega)]
  show loopN e5_0 (k + 57 + 1) _ = _
  rw [wl5 A B 5 (4) (by decide) (by decide) hA hB ga5 gb5 a5 b5 (by omega) (by omega)]
  show loopN e5_0 (k + 56 + 1) _ = _
  rw [wl5 A B 4 (3) (by decide) (by decide) hA hB ga4 gb4 a4 b4 (by omega) (by omega)]
  show loopN e5_0 (k + 55 + 1) _ = _
  rw [wl5 A B 3 (2) (by decide) (by decide) hA hB ga3 gb3 a3 b3 (by omega) (by omega)]
  show loopN e5_0 (k + 54 + 1) _ = _
  rw [wl5 A B 2 (1) (by decide) (by decide) hA hB ga2 gb2 a2 b2 (by omega) (by omega)]
  show loopN e5_0 (k + 53 + 1) _ = _
  rw [wl5 A B 1 (0) (by decide) (by decide) hA hB ga1 gb1 a1 b1 (by omega) (by omega)]
  show loopN e5_0 (k + 52 + 1) _ = _
  rw [wl5 A B 0 (-1) (by decide) (by decide) hA hB ga0 gb0 a0 b0 (by omega) (by omega)]
  show loopN e5_0 (k + 51 + 1) _ = _
  rw [loopN_succ, e5_0]
  simp only []
  rw [cneg (by decide), bpos hs2, cond_true, bpos hv2]
theorem ub_take (c : List Int) (a b i : Nat) (hi : i < b) : ub (List.take b (List.drop a c)) i = ub c (a + i) := by
  show (List.take b (List.drop a c)).getD i 0 = c.getD (a + i) 0
  rw [List.getD_eq_getElem?_getD, List.getD_eq_getElem?_getD, List.getElem?_take_of_lt hi, List.getElem?_drop]
theorem body_true (k : Nat) (hk : 4000 ≤ k) (d : List Int) (v at_ : Int) (hd : d.length ≤ 200) (hb : ∀ i, i < d.length → 0 ≤ ub d i ∧ ub d i < 256) (hv : -9223372036854775808 ≤ v ∧ v < 9223372036854775808) (ha : 0 ≤ at_ ∧ at_ < 256) :
    body5 (k + 60) d v at_ = some (((true, ()), ()), ()) := by
  rw [body5, wrapId (n := at_) (by omega) (by omega), wrapId (n := at_ + 300) (by omega) (by omega), wrapId (n := (d.length : Int) + 8) (by omega) (by omega)]
  repeat (first | rw [Option.bind_some] | rw [ins_eq])
  simp only []
  rw [mod_eq, Option.bind_some]
  simp only []
  rw [new1 (k + 60) (by omega) 600 d (cs (d.length : Int) (at_ + 300) v ((d.length : Int) + 8)) (by decide) (by simp only [List.length_cons, List.length_nil]; omega) (chkV k (by omega) d hd _ _ _ _), Option.bind_some]
  simp only []
  rw [nneg rfl, cond_false, beg_v, Option.bind_some]
  simp only []
  rw [nneg rfl, cond_false, run_sums k hk d hd hb (at_ + 300) v (by omega) hv, Option.bind_some]
  simp only []
  have hc := mem_len d hd
  generalize memOf 600 d = c at hc ⊢
  have hl1 : (puts c (d.length : Int).toNat (SS d d.length) 8).length = 600 := by rw [puts_len]; exact hc
  have hl2 : (puts (puts c (d.length : Int).toNat (SS d d.length) 8) (at_ + 300).toNat v 8).length = 600 := by rw [puts_len]; exact hl1
  have hl3 : (puts (puts (puts c (d.length : Int).toNat (SS d d.length) 8) (at_ + 300).toNat v 8) ((d.length : Int) + 8).toNat v 8).length = 600 := by rw [puts_len]; exact hl2
  have gA : ∀ i : Nat, i < 8 → ub (puts (puts (puts c (d.length : Int).toNat (SS d d.length) 8) (at_ + 300).toNat v 8) ((d.length : Int) + 8).toNat v 8) (d.length + i) = bt (SS d d.length) i := fun i hi => by
    rw [ub_puts (puts (puts c (d.length : Int).toNat (SS d d.length) 8) (at_ + 300).toNat v 8) ((d.length : Int) + 8).toNat v (d.length + i) 8 (by omega), if_neg (by omega), ub_puts (puts c (d.length : Int).toNat (SS d d.length) 8) (at_ + 300).toNat v (d.length + i) 8 (by omega), if_neg (by omega), ub_puts c (d.length : Int).toNat (SS d d.length) (d.length + i) 8 (by omega), if_pos (by omega), show ((d.length + i : Nat) : Int) - (((d.length : Int).toNat : Nat) : Int) = (i : Int) by omega]
  have gB : ∀ i : Nat, i < 8 → ub (puts (puts (puts c (d.length : Int).toNat (SS d d.length) 8) (at_ + 300).toNat v 8) ((d.length : Int) + 8).toNat v 8) (d.length + 8 + i) = bt v i := fun i hi => by
    rw [ub_puts (puts (puts c (d.length : Int).toNat (SS d d.length) 8) (at_ + 300).toNat v 8) ((d.length : Int) + 8).toNat v (d.length + 8 + i) 8 (by omega), if_pos (by omega), show ((d.length + 8 + i : Nat) : Int) - ((((d.length : Int) + 8).toNat : Nat) : Int) = (i : Int) by omega]
  generalize puts (puts (puts c (d.length : Int).toNat (SS d d.length) 8) (at_ + 300).toNat v 8) ((d.length : Int) + 8).toNat v 8 = c3 at hl3 gA gB ⊢
  obtain ⟨f, hf⟩ : ∃ f, k + 60 = f + 1 + d.length := ⟨k + 59 - d.length, by omega⟩
  suffices h : ∀ fuel, fuel = f + 1 + d.length → loopN (e5_1 (k + 60) d v at_) fuel (W1 v d (MV (d.length : Int) (at_ + 300) v ((d.length : Int) + 8)) c3 [] (1, 0, 4 + 15 * (d.length : Int) + 17, 0, []) 0 0) = some (((true, ()), ()), ()) from h _ hf
  intro fuel hfu
  subst hfu
  refine (sum_loop (k + 60) d v at_ v d hd hb (MV (d.length : Int) (at_ + 300) v ((d.length : Int) + 8)) c3 [] (1, 0, 4 + 15 * (d.length : Int) + 17, 0, []) f d.length 0 (by omega)).trans ?_
  rw [loopN_succ, e5_1]
  simp only []
  rw [cneg (by omega), mem_in (by omega) (by decide) (by omega) (by omega), Option.bind_some, wrapId (n := (d.length : Int) + 8) (by omega) (by omega), mem_in (by omega) (by decide) (by omega) (by omega), Option.bind_some]
  simp only []
  rw [nneg rfl, cond_false, Bool.not_true, cond_false, cond_false]
  have e1 : ((d.length : Int) + 8).toNat - (d.length : Int).toNat = 8 := by omega
  have e2 : ((d.length : Int) + 8 + 8).toNat - ((d.length : Int) + 8).toNat = 8 := by omega
  rw [e1, e2]
  have e3 : (d.length : Int).toNat = d.length := by omega
  have e4 : ((d.length : Int) + 8).toNat = d.length + 8 := by omega
  rw [e3, e4]
  exact back5 k v (SS d d.length) hv (SS_in d d.length) _ _ (by rw [List.length_take, List.length_drop]; omega) (by rw [List.length_take, List.length_drop]; omega) (fun i hi => by rw [ub_take _ _ _ _ hi]; exact gA i hi) (fun i hi => by rw [ub_take _ _ _ _ hi]; exact gB i hi)
theorem u8_of {n : Int} (h : (Lit.int .u8 n).wf = true) : 0 ≤ n ∧ n < 256 := by
  have h' : (decide (IntKind.u8.min ≤ n) && decide (n ≤ IntKind.u8.max)) = true := h
  rw [Bool.and_eq_true, decide_eq_true_eq, decide_eq_true_eq, show IntKind.u8.min = 0 from by decide, show IntKind.u8.max = 255 from by decide] at h'
  omega
theorem i64_of {n : Int} (h : (Lit.int .i64 n).wf = true) : -9223372036854775808 ≤ n ∧ n < 9223372036854775808 := by
  have h' : (decide (IntKind.i64.min ≤ n) && decide (n ≤ IntKind.i64.max)) = true := h
  rw [Bool.and_eq_true, decide_eq_true_eq, decide_eq_true_eq, show IntKind.i64.min = -9223372036854775808 from by decide, show IntKind.i64.max = 9223372036854775807 from by decide] at h'
  omega
theorem bytes_in (d : List Int) (h : ∀ x ∈ d, (Lit.int .u8 x).wf = true) (i : Nat) (hi : i < d.length) : 0 ≤ ub d i ∧ ub d i < 256 := by
  have e : ub d i = d[i] := by
    show d.getD i 0 = _
    rw [List.getD_eq_getElem?_getD, List.getElem?_eq_getElem hi]
    rfl
  rw [e]
  exact u8_of (h _ (List.getElem_mem hi))
theorem law_s (k : Nat) (hk : 4000 ≤ k) (d : List Int) (v at_ : Int) (hb : ∀ x ∈ d, (Lit.int .u8 x).wf = true) (hv : (Lit.int .i64 v).wf = true) (ha : (Lit.int .u8 at_).wf = true) :
    f5 (k + 60) (((d, ()), (v, ()), (at_, ()), ()), ()) = some (((true, ()), ()), ()) := by
  rw [e5_eq, alive, Option.bind_some]
  simp only []
  rw [Bool.not_true, cond_false]
  by_cases h : (d.length : Int) > 200
  · rw [cpos h, cpos (by omega)]
    have hm : ∀ x ∈ List.drop (Int.toNat 0) (List.take (Int.toNat 200) d), (Lit.int .u8 x).wf = true := fun x hx => hb x (List.mem_of_mem_take (List.mem_of_mem_drop hx))
    exact body_true k hk _ v at_ (by rw [List.length_drop, List.length_take]; show min 200 d.length - 0 ≤ 200; omega) (bytes_in _ hm) (i64_of hv) (u8_of ha)
  · rw [cneg h]
    exact body_true k hk d v at_ (by omega) (bytes_in d hb) (i64_of hv) (u8_of ha)
theorem law5 (k : Nat) : ∀ e ∈ [Fm.entry Try.prog F8 8 (f8 k), Fm.entry Try.prog F19 19 (f19 k), Fm.entry Try.prog F18 18 (f18 k), Fm.entry Try.prog F9 9 (f9 k), Fm.entry Try.prog F10 10 (f10 k), Fm.entry Try.prog F16 16 (f16 k), Fm.entry Try.prog F13 13 (f13 k)], EGood Try.prog e := goods_cons (g8 k) (goods_cons (g19 k) (goods_cons (g18 k) (goods_cons (g9 k) (goods_cons (g10 k) (goods_cons (g16 k) (goods_cons (g13 k) goods_nil))))))
theorem vmSums (d : List Int) (v at_ : Int) (hb : ∀ x ∈ d, (Lit.int .u8 x).wf = true) (_ : d.length * 1 ≤ 140737488351232) (hv : (Lit.int .i64 v).wf = true) (ha : (Lit.int .u8 at_).wf = true) : f5 (4000 + 60) (((d, ()), (v, ()), (at_, ()), ()), ()) = some (((true, ()), ()), ()) :=
  law_s 4000 (by decide) d v at_ hb hv ha
end
end Go.Proofs.Ytjbdeccohpbegaa.Vm
