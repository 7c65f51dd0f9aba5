import Derived.Test.YtjdbamenbgfcjaaDoorGP
namespace Go.Proofs.YtjdbamenbgfcjaaDoor.Gl
open Go Go.RowKit Go.Proofs Go.Proofs.YtjdbamenbgfcjaaDoor.X
set_option linter.unusedVariables false
set_option linter.unusedSimpArgs false
noncomputable section
/-! A whole rune's bytes are read as it, alone and behind each beginning of another one's -/
def f9b (k : Nat) : F9.pre.T → Option F9.post.T := runFn Tryd.prog ti [Fm.entry Tryd.prog F11 11 (f11 k), Fm.entry Tryd.prog F22 22 (f22 k), Fm.entry Tryd.prog F23 23 (f23 k), Fm.entry Tryd.prog F19b 19 (f19b k), Fm.entry Tryd.prog F12 12 (f12 k)] F9 Tryd.f9 k
theorem law9b (k : Nat) : ∀ e ∈ [Fm.entry Tryd.prog F11 11 (f11 k), Fm.entry Tryd.prog F22 22 (f22 k), Fm.entry Tryd.prog F23 23 (f23 k), Fm.entry Tryd.prog F19b 19 (f19b k), Fm.entry Tryd.prog F12 12 (f12 k)], EGood Tryd.prog e := (goods_cons (g11 k) (goods_cons (g22 k) (goods_cons (g23 k) (goods_cons (g19b k) (goods_cons (g12 k) goods_nil)))))
def nOf (n : Int) (c : List Int) : Int := (IntKind.i64.wrap (↑(BitVec.ofInt IntKind.i64.bits n &&& BitVec.ofInt IntKind.i64.bits (3 : Int)).toNat : Int)).tmod (↑c.length : Int)
def e9b_0 (g : ((List Int × Unit) × (Int × Unit) × (Int × Unit) × Unit) × Unit) (L : ((List Int × Unit) × (Int × Unit) × (Int × Unit) × Unit) × Unit → Option (((Bool × Unit) × Unit) × Unit)) : Option (((Bool × Unit) × Unit) × Unit) := bif decide (g.1.2.2.1.1 < g.1.2.1.1) then bif decide ((0 : Int) ≤ g.1.2.2.1.1 ∧ g.1.2.2.1.1 < (↑g.1.1.1.length : Int)) then bif gt (Sh.int IntKind.i32) g.1.1.1 g.1.2.2.1.1.toNat != (65533 : Int) then some (((false, ()), ()), ()) else L (((g.1.1.1, ()), (g.1.2.1.1, ()), (IntKind.i64.wrap (g.1.2.2.1.1 + (1 : Int)), ()), ()), ()) else none else some (((true, ()), ()), ())
theorem e9b_eq (k : Nat) (r : Int) (s : Int) (n : Int) : f9b k (((r, ()), (s, ()), (n, ()), ()), ()) = (f11 k ((), ())).bind fun v => bif !v.1.1.1 then some (((false, ()), ()), ()) else (f22 k (((r, ()), ()), ())).bind fun v_1 => bif !v_1.1.1.1 then (f23 k ((((55296 : Int), ()), ()), ())).bind fun v_2 => bif v_2.1.1.1 == (0 : Int) then (f22 k (((r, ()), ()), ())).bind fun v_3 => bif v_3.1.1.1 then some (((true, ()), ()), ()) else (f23 k (((r, ()), ()), ())).bind fun v => some (((v.1.1.1 == (0 : Int), ()), ()), ()) else some (((false, ()), ()), ()) else (f22 k (((s, ()), ()), ())).bind fun v_2 => bif !v_2.1.1.1 then (f23 k ((((55296 : Int), ()), ()), ())).bind fun v_3 => bif v_3.1.1.1 == (0 : Int) then (f22 k (((r, ()), ()), ())).bind fun v_4 => bif v_4.1.1.1 then some (((true, ()), ()), ()) else (f23 k (((r, ()), ()), ())).bind fun v => some (((v.1.1.1 == (0 : Int), ()), ()), ()) else some (((false, ()), ()), ()) else (f19b k ((([r], ()), ()), ())).bind fun v_3 => (f19b k ((([s], ()), ()), ())).bind fun v_4 => (f12 k (((v_3.2.1, ()), ()), ())).bind fun v_5 => bif (↑(List.length v_5.2.1) : Int) != (1 : Int) then some (((false, ()), ()), ()) else bif decide ((0 : Int) ≤ (0 : Int) ∧ (0 : Int) < (↑(List.length v_5.2.1) : Int)) then bif gt (Sh.int IntKind.i32) v_5.2.1 (Int.toNat (0 : Int)) != r then some (((false, ()), ()), ()) else bif decide ((↑(List.length v_3.2.1) : Int) < (1 : Int)) then some (((false, ()), ()), ()) else bif decide ((↑(List.length v_3.2.1) : Int) > (4 : Int)) then some (((false, ()), ()), ()) else bif decide ((↑(List.length v_4.2.1) : Int) ≠ (0 : Int)) then bif decide ((0 : Int) ≤ (0 : Int) ∧ ((0 : Int) ≤ nOf n v_4.2.1) ∧ ((nOf n v_4.2.1) ≤ nOf n v_4.2.1) ∧ (nOf n v_4.2.1) ≤ (↑(List.length v_4.2.1) : Int)) then bif ((([] : List Int).length + (List.take ((nOf n v_4.2.1).toNat - Int.toNat (0 : Int)) (List.drop (Int.toNat (0 : Int)) v_4.2.1)).length) * (1 : Nat)).ble (140737488355328 : Nat) then bif ((([] ++ List.take ((nOf n v_4.2.1).toNat - Int.toNat (0 : Int)) (List.drop (Int.toNat (0 : Int)) v_4.2.1)).length + List.length v_3.2.1) * (1 : Nat)).ble (140737488355328 : Nat) then (f12 k ((([] ++ List.take ((nOf n v_4.2.1).toNat - Int.toNat (0 : Int)) (List.drop (Int.toNat (0 : Int)) v_4.2.1) ++ v_3.2.1, ()), ()), ())).bind fun v => bif (↑(List.length v.2.1) : Int) != IntKind.i64.wrap ((nOf n v_4.2.1) + (1 : Int)) then some (((false, ()), ()), ()) else bif decide (((0 : Int) ≤ nOf n v_4.2.1) ∧ (nOf n v_4.2.1) < (↑(List.length v.2.1) : Int)) then bif gt (Sh.int IntKind.i32) v.2.1 (nOf n v_4.2.1).toNat != r then some (((false, ()), ()), ()) else bif decide ((0 : Int) ≤ (0 : Int) ∧ ((0 : Int) ≤ nOf n v_4.2.1) ∧ ((nOf n v_4.2.1) ≤ nOf n v_4.2.1) ∧ (nOf n v_4.2.1) ≤ (↑(List.length v.2.1) : Int)) then loopN e9b_0 k (((List.take ((nOf n v_4.2.1).toNat - Int.toNat (0 : Int)) (List.drop (Int.toNat (0 : Int)) v.2.1), ()), ((↑((nOf n v_4.2.1).toNat - Int.toNat (0 : Int)) : Int), ()), ((0 : Int), ()), ()), ()) else none else none else none else none else none else none else none := by kernel_rfl

theorem and3 (n : Int) : 0 ≤ IntKind.i64.wrap (↑(BitVec.ofInt IntKind.i64.bits n &&& BitVec.ofInt IntKind.i64.bits (3 : Int)).toNat : Int) ∧ IntKind.i64.wrap (↑(BitVec.ofInt IntKind.i64.bits n &&& BitVec.ofInt IntKind.i64.bits (3 : Int)).toNat : Int) ≤ 3 := by
  have h : (BitVec.ofInt IntKind.i64.bits n &&& BitVec.ofInt IntKind.i64.bits (3 : Int)).toNat ≤ 3 := by
    rw [BitVec.toNat_and, show (BitVec.ofInt IntKind.i64.bits (3 : Int)).toNat = 3 by decide]
    exact Nat.and_le_right
  rw [wrapId (by omega) (by omega)]
  omega
theorem nOf_is (n : Int) {c : List Int} (h : c.length ≠ 0) : ∃ m : Nat, nOf n c = (m : Int) ∧ m < c.length ∧ m ≤ 3 := by
  have := and3 n
  unfold nOf
  generalize IntKind.i64.wrap (↑(BitVec.ofInt IntKind.i64.bits n &&& BitVec.ofInt IntKind.i64.bits (3 : Int)).toNat : Int) = q at *
  obtain ⟨q, rfl⟩ := Int.eq_ofNat_of_zero_le this.1
  refine ⟨q % c.length, ?_, Nat.mod_lt _ (by omega), ?_⟩
  · rw [Int.tmod_eq_emod_of_nonneg this.1, Int.natCast_emod]
  · have := Nat.mod_le q c.length
    omega
/-! a beginning of a rune's bytes, and behind it another rune's -/
theorem encR_head {r : Int} (h : IsR r) (t : List Int) : (encR r ++ t).getD 0 0 < 128 ∨ 192 ≤ (encR r ++ t).getD 0 0 := by
  obtain ⟨h0, h1, h2⟩ := h
  unfold encR
  repeat' split
  all_goals
    simp only [List.cons_append, List.getD_cons_zero]
    omega
theorem dec_bad {b : List Int} (h : b.length ≠ 0) (hw : whole b = (0, 0)) : dec b = (65533, 1) := by
  unfold dec
  rw [if_neg h, hw, if_pos rfl]
theorem whole_cont {b : List Int} (h : b.length ≠ 0) (hc : 128 ≤ b.getD 0 0 ∧ b.getD 0 0 < 194) : whole b = (0, 0) := by
  unfold whole
  rw [if_neg h, if_neg (by omega), if_neg (by omega), if_neg (by omega), if_neg (by omega)]
theorem runes_bad {b : List Int} (h : b.length ≠ 0) (hw : whole b = (0, 0)) : runes b = 65533 :: runes (b.drop 1) := by
  rw [runes_step h, dec_bad h hw]; rfl
theorem runes_cont {x : Int} {b : List Int} (hc : 128 ≤ x ∧ x < 194) : runes (x :: b) = 65533 :: runes b := by
  rw [runes_bad (by simp) (whole_cont (by simp) (by rw [List.getD_cons_zero]; exact hc))]; rfl
/-- a beginning, told byte by byte -/
theorem runes_begin {s : Int} (hs : IsR s) {b : List Int} (hb : b.length ≠ 0) (hd : b.getD 0 0 < 128 ∨ 192 ≤ b.getD 0 0) : ∀ m : Nat, m < (encR s).length → runes ((encR s).take m ++ b) = List.replicate m 65533 ++ runes b := by
  intro m hm
  obtain ⟨h0, h1, h2⟩ := hs
  unfold encR at hm ⊢
  by_cases q1 : s < 128
  · rw [if_pos q1] at hm ⊢
    match m, hm with
    | 0, _ => rfl
  rw [if_neg q1] at hm ⊢
  obtain ⟨y, t, rfl⟩ : ∃ y t, b = y :: t := by cases b with
    | nil => exact absurd rfl hb
    | cons y t => exact ⟨y, t, rfl⟩
  rw [List.getD_cons_zero] at hd
  by_cases q2 : s < 2048
  · rw [if_pos q2] at hm ⊢
    match m, hm with
    | 0, _ => rfl
    | 1, _ =>
      show runes ((192 + s / 64) :: y :: t) = 65533 :: runes (y :: t)
      rw [runes_bad (by simp) (by
        unfold whole
        simp only [List.length_cons, List.getD_cons_zero, List.getD_cons_succ]
        rw [if_neg (by omega), if_neg (by omega), if_neg (by omega), if_neg (by omega), if_neg (by omega)])]; rfl
  rw [if_neg q2] at hm ⊢
  by_cases q3 : s < 65536
  · rw [if_pos q3] at hm ⊢
    have g1 := loOf_ge (224 + s / 4096)
    have g2 := hiOf_le (224 + s / 4096)
    match m, hm with
    | 0, _ => rfl
    | 1, _ =>
      show runes ((224 + s / 4096) :: y :: t) = 65533 :: runes (y :: t)
      rw [runes_bad (by simp) (by
        unfold whole
        simp only [List.length_cons, List.getD_cons_zero, List.getD_cons_succ]
        rw [if_neg (by omega), if_neg (by omega), if_neg (by omega), if_neg (by omega), if_neg (by omega)])]; rfl
    | 2, _ =>
      show runes ((224 + s / 4096) :: (128 + s / 64 % 64) :: y :: t) = 65533 :: 65533 :: runes (y :: t)
      rw [runes_bad (by simp) (by
        unfold whole
        simp only [List.length_cons, List.getD_cons_zero, List.getD_cons_succ]
        rw [if_neg (by omega), if_neg (by omega), if_neg (by omega), if_neg (by omega), if_neg (by omega)])]
      show 65533 :: runes ((128 + s / 64 % 64) :: y :: t) = _
      rw [runes_cont (by omega)]
  · rw [if_neg q3] at hm ⊢
    have g1 := loOf_ge (240 + s / 262144)
    have g2 := hiOf_le (240 + s / 262144)
    match m, hm with
    | 0, _ => rfl
    | 1, _ =>
      show runes ((240 + s / 262144) :: y :: t) = 65533 :: runes (y :: t)
      rw [runes_bad (by simp) (by
        unfold whole
        simp only [List.length_cons, List.getD_cons_zero, List.getD_cons_succ]
        rw [if_neg (by omega), if_neg (by omega), if_neg (by omega), if_neg (by omega), if_neg (by omega)])]; rfl
    | 2, _ =>
      show runes ((240 + s / 262144) :: (128 + s / 4096 % 64) :: y :: t) = 65533 :: 65533 :: runes (y :: t)
      rw [runes_bad (by simp) (by
        unfold whole
        simp only [List.length_cons, List.getD_cons_zero, List.getD_cons_succ]
        rw [if_neg (by omega), if_neg (by omega), if_neg (by omega), if_neg (by omega), if_neg (by omega)])]
      show 65533 :: runes ((128 + s / 4096 % 64) :: y :: t) = _
      rw [runes_cont (by omega)]
    | 3, _ =>
      show runes ((240 + s / 262144) :: (128 + s / 4096 % 64) :: (128 + s / 64 % 64) :: y :: t) = 65533 :: 65533 :: 65533 :: runes (y :: t)
      rw [runes_bad (by simp) (by
        unfold whole
        simp only [List.length_cons, List.getD_cons_zero, List.getD_cons_succ]
        rw [if_neg (by omega), if_neg (by omega), if_neg (by omega), if_neg (by omega), if_neg (by omega)])]
      show 65533 :: runes ((128 + s / 4096 % 64) :: (128 + s / 64 % 64) :: y :: t) = _
      rw [runes_cont (by omega), runes_cont (by omega)]
theorem e9b_loop (m : Nat) (hm : m ≤ 3) : ∀ (n i : Nat) (k : Nat), m - i ≤ n → m - i + 1 ≤ k →
    loopN e9b_0 k (((List.replicate m (65533 : Int), ()), ((m : Int), ()), ((i : Int), ()), ()), ()) = some (((true, ()), ()), ()) := by
  intro n
  induction n with
  | zero =>
    intro i k hn hk
    obtain ⟨k, rfl⟩ : ∃ k2, k = k2 + 1 := ⟨k - 1, by omega⟩
    rw [loopN_succ, e9b_0]
    simp only []
    rw [cneg (by omega)]
  | succ n ih =>
    intro i k hn hk
    obtain ⟨k, rfl⟩ : ∃ k2, k = k2 + 1 := ⟨k - 1, by omega⟩
    rw [loopN_succ, e9b_0]
    simp only []
    by_cases h0 : m ≤ i
    · rw [cneg (by omega)]
    · have hl : (List.replicate m (65533 : Int)).length = m := List.length_replicate
      have ci : (0 : Int) ≤ (i : Int) ∧ (i : Int) < ((List.replicate m (65533 : Int)).length : Int) := by rw [hl]; omega
      rw [cpos (by omega), cpos ci, show ((i : Int)).toNat = i from Int.toNat_natCast _, gt_at (by rw [hl]; omega), List.getElem_replicate, bne_self_eq_false, cond_false, wrapId (by omega) (by omega), show ((i : Int) + 1) = ((i + 1 : Nat) : Int) by omega]
      exact ih (i + 1) k (by omega) (by omega)
theorem glyphOnes (r s n : Int) (hr0 : (Lit.int .i32 r).wf = true) (hs0 : (Lit.int .i32 s).wf = true) (hn0 : (Lit.int .i64 n).wf = true) : f9b (20 + 20) (((r, ()), (s, ()), (n, ()), ()), ()) = some (((true, ()), ()), ()) := by
  have hr := i32_of hr0
  have hs := i32_of hs0
  rw [e9b_eq, alive, Option.bind_some]
  simp only [Bool.not_true, cond_false]
  rw [rune_ok, Option.bind_some]
  have hw0 : width 55296 = 0 := by decide
  have wz : ¬ IsR r → width r = 0 := by
    intro q
    have hr1 := hr.1
    have hr2 := hr.2
    have hin : inS noneL r = true := by
      unfold IsR at q
      simp only [inS, noneL, List.any_cons, List.any_nil, Bool.or_eq_true, decide_eq_true_eq]
      omega
    unfold IsR at q; unfold width; rw [if_neg (by omega), if_pos hin]
  by_cases q : IsR r
  case neg =>
    rw [decide_eq_false q]
    simp only [Bool.not_false, cond_true]
    rw [width_ok _ _ (by omega), Option.bind_some]
    simp only []
    rw [hw0, beq_self_eq_true, cond_true, Option.bind_some]
    simp only []
    rw [cond_false, width_ok _ _ (by omega), Option.bind_some, wz q]; rfl
  rw [decide_eq_true q]
  simp only [Bool.not_true, cond_false]
  rw [rune_ok, Option.bind_some]
  by_cases p : IsR s
  case neg =>
    rw [decide_eq_false p]
    simp only [Bool.not_false, cond_true]
    rw [width_ok _ _ (by omega), Option.bind_some]
    simp only []
    rw [hw0, beq_self_eq_true, cond_true, Option.bind_some]
    simp only []
    rw [cond_true]
  rw [decide_eq_true p]
  simp only [Bool.not_true, cond_false]
  rw [bytes_ok _ [r] (fun x hx => by rw [List.mem_singleton.1 hx]; exact hr) (by simp) (by simp), Option.bind_some, bytes_ok _ [s] (fun x hx => by rw [List.mem_singleton.1 hx]; exact hs) (by simp) (by simp), Option.bind_some]
  simp only []
  have er : enc [r] = encR r := by rw [enc, enc, fix_of q, List.append_nil]
  have es : enc [s] = encR s := by rw [enc, enc, fix_of p, List.append_nil]
  rw [er, es]
  have lr := @encR_len r
  have ls := @encR_len s
  have ur := encR_u8 q
  have us := encR_u8 p
  have r1 : runes (encR r) = [r] := by have := runes_enc1 q []; rwa [List.append_nil] at this
  rw [runes_ok _ _ ur (by omega) (by omega), Option.bind_some, r1]
  simp only []
  obtain ⟨m, hm, hm1, hm2⟩ := nOf_is n (c := encR s) (by omega)
  have hrb := runes_begin p (b := encR r) (by omega) (by have := encR_head q []; rwa [List.append_nil] at this) m hm1
  rw [r1] at hrb
  have htl : ((encR s).take m).length = m := by rw [List.length_take]; omega
  rw [hm]
  have et : List.take (((m : Nat) : Int).toNat - Int.toNat 0) (List.drop (Int.toNat 0) (encR s)) = (encR s).take m := by rw [show ((m : Int)).toNat = m from Int.toNat_natCast _]; rfl
  rw [et, List.nil_append]
  rw [show (([r].length : Int) != 1) = false from rfl, cond_false, cpos ⟨Int.le_refl _, by rw [List.length_singleton]; omega⟩, show gt (Sh.int IntKind.i32) [r] (Int.toNat 0) = r from rfl, bne_self_eq_false, cond_false, cneg (by omega), cneg (by omega), cpos (by omega), cpos (by omega),
    bl1 (n := ([] : List Int).length + ((encR s).take m).length) (by rw [List.length_nil]; omega), bl1 (n := ((encR s).take m).length + (encR r).length) (by omega)]
  rw [runes_ok _ ((encR s).take m ++ encR r) (fun x hx => by
    cases List.mem_append.1 hx with
    | inl h => exact us x (List.mem_of_mem_take h)
    | inr h => exact ur x h) (by rw [List.length_append]; omega) (by rw [List.length_append]; omega), Option.bind_some, hrb]
  simp only []
  have hl2 : (List.replicate m (65533 : Int) ++ [r]).length = m + 1 := by rw [List.length_append, List.length_replicate, List.length_singleton]
  rw [hl2, wrapId (n := (m : Int) + 1) (by omega) (by omega), show (((m + 1 : Nat) : Int) != (m : Int) + 1) = false by rw [show ((m + 1 : Nat) : Int) = (m : Int) + 1 by omega]; exact bne_self_eq_false _, cond_false, cpos (by omega), show ((m : Int)).toNat = m from Int.toNat_natCast _]
  rw [show gt (Sh.int IntKind.i32) (List.replicate m (65533 : Int) ++ [r]) m = r by simp [gt], bne_self_eq_false, cond_false, cpos (by omega)]
  rw [show List.take (m - Int.toNat 0) (List.drop (Int.toNat 0) (List.replicate m (65533 : Int) ++ [r])) = List.replicate m (65533 : Int) by
    show List.take m (List.replicate m (65533 : Int) ++ [r]) = _
    rw [List.take_left' List.length_replicate]]
  exact e9b_loop m hm2 m 0 _ (by omega) (by omega)
end
end Go.Proofs.YtjdbamenbgfcjaaDoor.Gl
