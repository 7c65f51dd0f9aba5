import Derived.Test.YtaklapcbbdcdpaaDoorPF
import Derived.Test.YtaklapcbbdcdpaaDoorPAl
namespace Go.Proofs.YtaklapcbbdcdpaaDoor.Pt
open Go Go.RowKit Go.Proofs Go.Proofs.YtaklapcbbdcdpaaDoor.X
set_option linter.unusedVariables false
set_option linter.unusedSimpArgs false
noncomputable section
/-! A blank screen; the law of right screens -/
theorem mulK (k : Nat) (a b : Int) : f56 k (((a, ()), (b, ()), ()), ()) = f56 0 (((a, ()), (b, ()), ()), ()) := by kernel_rfl
def mulIs (n : Nat) : Bool := match f56 0 ((((1 : Int), ()), ((n : Int), ()), ()), ()) with
  | some (((x, _), (y, _), _), _) => x == 0 && y == (n : Int)
  | none => false
theorem mul_all : (List.range 201).all mulIs = true := by kernel_rfl
theorem mul_ok (k n : Nat) (h : n ≤ 200) : f56 k ((((1 : Int), ()), ((n : Int), ()), ()), ()) = some ((((0 : Int), ()), ((n : Int), ()), ()), ()) := by
  rw [mulK]
  have h1 : mulIs n = true := List.all_eq_true.1 mul_all n (List.mem_range.2 (by omega))
  unfold mulIs at h1
  split at h1
  · rename_i x y e
    simp only [Bool.and_eq_true, beq_iff_eq] at h1
    rw [e, h1.1, h1.2]
  · cases h1
abbrev bl : Cel := (32, 0, 0, 0)
abbrev zr : Cel := (0, 0, 0, 0)
theorem rep_ok (k W : Nat) (h1 : 1 ≤ W) (h2 : W ≤ 200) (hk : 300 ≤ k) : f38 k ((([bl], ()), ((W : Int), ()), ()), ()) = some ((((), ()), ()), List.replicate W bl, ()) := by
  have loop : ∀ (n k' m : Nat), W - m ≤ n → 1 ≤ m → m ≤ W → n + 1 ≤ k' → loopN e38_0 k' ((((), ()), ((m : Int), ()), ()), List.replicate m bl ++ List.replicate (W - m) zr, ()) = some ((((), ()), ()), List.replicate W bl, ()) := by
    intro n
    induction n with
    | zero =>
      intro k' m hn h1 h2 hk
      obtain ⟨k', rfl⟩ : ∃ k2, k' = k2 + 1 := ⟨k' - 1, by omega⟩
      obtain rfl : m = W := by omega
      simp only [loopN_succ, e38_0]
      rw [cneg (by simp)]
      simp
    | succ n ih =>
      intro k' m hn h1 h2 hk
      obtain ⟨k', rfl⟩ : ∃ k2, k' = k2 + 1 := ⟨k' - 1, by omega⟩
      have hlen : (List.replicate m bl ++ List.replicate (W - m) zr).length = W := by simp; omega
      simp only [loopN_succ, e38_0]
      by_cases hm : m < W
      · rw [cpos (by rw [hlen]; omega), cpos (by rw [hlen]; omega), cpos (by rw [hlen]; omega)]
        have t0 : Int.toNat 0 = 0 := rfl
        have tk : List.take m (List.replicate m bl ++ List.replicate (W - m) zr) = List.replicate m bl := by simp
        simp only [tn0, t0, Nat.sub_zero, List.drop_zero, tk, hlen, List.length_replicate]
        generalize hq : m.min (W - m) = q
        have hq2 : q = min m (W - m) := hq.symm
        have hq1 : q ≤ m ∧ q ≤ W - m ∧ 1 ≤ q := by omega
        have td : List.take q (List.replicate m bl) = List.replicate q bl := by rw [List.take_replicate]; congr 1; omega
        have dd : List.drop (m + q) (List.replicate m bl ++ List.replicate (W - m) zr) = List.replicate (W - (m + q)) zr := by
          rw [List.drop_append, List.drop_of_length_le (by simp), List.nil_append, List.drop_replicate, List.length_replicate]
          congr 1; omega
        rw [td, dd, wrapId (n := (m : Int) + (q : Int)) (by omega) (by omega), show ((m : Int) + (q : Int)) = ((m + q : Nat) : Int) by omega, List.replicate_append_replicate]
        exact ih k' (m + q) (by omega) (by omega) (by omega) (by omega)
      · obtain rfl : m = W := by omega
        rw [cneg (by rw [hlen]; omega)]
        simp
  have w1 : IntKind.u64.wrap (([bl].length : Nat) : Int) = 1 := by decide
  have w2 : IntKind.u64.wrap (W : Int) = (W : Int) := by rw [IntKind.wrap_u64]; omega
  have w3 : IntKind.i64.wrap (W : Int) = (W : Int) := wrapId (by omega) (by omega)
  rw [e38_eq, cneg (by omega), w1, w2, mul_ok k W h2, Option.bind_some]
  show (bif decide ((0 : Int) > 0) then none else bif decide ((W : Int) > 9223372036854775807) then none else _) = _
  rw [cneg (by decide), cneg (by omega)]
  simp only [w3, tn0]
  have hb1 : (W * 32).ble 140737488355328 = true := ble_of (by omega)
  have hb2 : W.ble 1152921504606846976 = true := ble_of (by omega)
  rw [hb1, hb2, decide_eq_true (show (0 : Int) ≤ (W : Int) ∧ (W : Int) ≤ (W : Int) from ⟨by omega, Int.le_refl _⟩)]
  simp only [Bool.and_true, cond_true, List.length_replicate, List.take_zero, List.nil_append]
  have hm : [bl].length.min W = 1 := by show min 1 W = 1; omega
  rw [hm]
  have e : List.take 1 [bl] ++ List.drop (0 + 1) (List.replicate W zr) = List.replicate 1 bl ++ List.replicate (W - 1) zr := by simp
  rw [e]
  exact loop W k 1 (by omega) (by omega) h1 (by omega)
def cl (n : Int) : Int := imax 1 (imin n 200)
theorem cl_in (n : Int) : 1 ≤ cl n ∧ cl n ≤ 200 := by unfold cl imax imin; repeat' split <;> omega
theorem cl_is (n : Int) : imin (imax n 1) 200 = cl n := by unfold cl imax imin; repeat' split <;> omega
abbrev grid (W H : Nat) : List (List Cel) := List.replicate H (List.replicate W bl)
theorem set_last {α : Type} (xs : List α) (x y : α) : (xs ++ [x]).set xs.length y = xs ++ [y] := by simp
theorem blank_ok (k : Nat) (a b : Int) (hk : 300 ≤ k) : f114 k (((a, ()), (b, ()), ()), ()) = some ((((cl a, cl b, grid (cl a).toNat (cl b).toNat, 0, 0, true), ()), ()), ()) := by
  obtain ⟨a1, a2⟩ := cl_in a
  obtain ⟨b1, b2⟩ := cl_in b
  obtain ⟨W, hW⟩ : ∃ W : Nat, cl a = (W : Int) := ⟨(cl a).toNat, by omega⟩
  obtain ⟨H, hH⟩ : ∃ H : Nat, cl b = (H : Int) := ⟨(cl b).toNat, by omega⟩
  have loop : ∀ (j k' i : Nat), i + j = H → j + 1 ≤ k' → loopN (e114_0 k a b) k' ((((), ()), ((), ()), ((H : Int), ()), ((i : Int), ()), ()), ((0, 0, [], 0, 0, false), ()), ((W : Int), (H : Int), (), (0, 0, true), ()), grid W i, ()) = some (((((W : Int), (H : Int), grid W H, 0, 0, true), ()), ()), ()) := by
    intro j
    induction j with
    | zero =>
      intro k' i hi hk
      obtain ⟨k', rfl⟩ : ∃ k2, k' = k2 + 1 := ⟨k' - 1, by omega⟩
      simp only [loopN_succ, e114_0]
      rw [cneg (by omega), show i = H by omega]
    | succ j ih =>
      intro k' i hi hk'
      obtain ⟨k', rfl⟩ : ∃ k2, k' = k2 + 1 := ⟨k' - 1, by omega⟩
      simp only [loopN_succ, e114_0]
      rw [cpos (by omega), e39_eq, Option.bind_some]
      have hr := rep_ok k W (by omega) (by omega) hk
      rw [hr, Option.bind_some]
      have hb : (((grid W i).length + 1) * 24).ble 140737488355328 = true := ble_of (by simp; omega)
      rw [hb, cond_true, wrapId (n := (i : Int) + 1) (by omega) (by omega), show ((i : Int) + 1) = ((i + 1 : Nat) : Int) by omega]
      have hs : (grid W i ++ [S43.sl.dflt]).set (grid W i).length (List.replicate W bl) = grid W (i + 1) := by
        rw [set_last]
        exact (List.replicate_succ' (n := i) (a := List.replicate W bl)).symm
      have := ih k' (i + 1) (by omega) (by omega)
      rw [← hs] at this
      exact this
  rw [e114_eq, e37_eq, e37_eq]
  simp only [Option.bind_some]
  have c1 : imax 1 (imin a 200) = (W : Int) := hW
  have c2 : imax 1 (imin b 200) = (H : Int) := hH
  rw [c1, c2, hW, hH]
  exact loop H k 0 (by omega) (by omega)
theorem rr_blank : ∀ n : Nat, rr (List.replicate n bl) = true
  | 0 => rfl
  | n + 1 => by
    rw [List.replicate_succ, rr_cons]
    have h1 : width bl.1 = 1 := width32
    have h2 : sty bl.2 = true := by decide
    rw [h1, h2, if_neg (by decide), rr_blank n]
    rfl
theorem blank_wf (W H : Nat) : ∀ r ∈ grid W H, I64A r := by
  intro r hr c hc
  rw [List.eq_of_mem_replicate hr] at hc
  rw [List.eq_of_mem_replicate hc]
  exact ⟨by decide, by decide⟩
theorem blank_right (a b : Int) : rightB (cl a) (cl b) (grid (cl a).toNat (cl b).toNat) 0 0 = true := by
  obtain ⟨a1, a2⟩ := cl_in a
  obtain ⟨b1, b2⟩ := cl_in b
  unfold rightB
  rw [decide_eq_true (by simp; omega), Bool.true_and, List.all_eq_true]
  intro r hr
  rw [List.eq_of_mem_replicate hr]
  unfold rowA
  rw [rr_blank, decide_eq_true (by simp; omega)]; rfl
section law
variable (k : Nat) (a b : Int) (c : List (List Cel)) (d e : Int) (g : Bool) (h i : Int) (j : List (List Cel)) (l m : Int) (n : Bool) (o p : Int)
theorem law_end (hw : ∀ r ∈ c, I64A r) (hw2 : ∀ r ∈ j, I64A r) (hl : c.length ≤ 140737488355328) (hr : ∀ r ∈ c, r.length ≤ 140737488355328 ∧ r.length + 1 ≤ k) (hkc : c.length + 1 ≤ k) (hk : 300 ≤ k) (rows : List (List Cel)) (N y : Int) (k' : Nat) (hy : ¬ y < N) :
    e4_1 k a b c d e g h i j l m n o p ((((), ()), ((), ()), (rows, ()), (N, ()), (y, ()), ()), St a b c d e g, St h i j l m n, ()) (loopN (e4_1 k a b c d e g h i j l m n o p) k') = V1 true := by
  simp only [e4_1]
  rw [cneg hy, rightS_ok k a b c d e g hw hk, Option.bind_some, e12_eq, Option.bind_some, rightR_ok k a b c d e g hw hk, Option.bind_some]
  simp only [beq_self_eq_true, cond_true]
  rw [same2_ok k a b c d e g h i j l m n hl hr hkc]
  simp only [e12_eq, Option.bind_some]
  rw [e12_eq k h i j l m n]
  simp only [Option.bind_some]
  rw [same1_ok k a b c d e g h i j l m n hl hr hkc]
  simp only [Option.bind_some, beq_self_eq_true, cond_true]
  rw [same2_ok k a b c d e g a b c d e g hl hr hkc, Option.bind_some]
  simp
theorem law_cells (W : Nat) (L : (((Unit × Unit) × (Unit × Unit) × (List (List Cel) × Unit) × (Int × Unit) × (Int × Unit) × Unit) × ((Int × Int × List (List Cel) × Int × Int × Bool) × Unit) × ((Int × Int × List (List Cel) × Int × Int × Bool) × Unit) × Unit) → Option (((Bool × Unit) × Unit) × Unit)) (rows : List (List Cel)) (N y : Int) (hW : W ≤ 200) (hk : 300 ≤ k) :
    loopN (e4_0 L) k ((((), ()), ((), ()), (rows, ()), (N, ()), (y, ()), (List.replicate W bl, ()), ((W : Int), ()), ((0 : Int), ()), ()), St a b c d e g, St h i j l m n, ()) = L ((((), ()), ((), ()), (rows, ()), (N, ()), (IntKind.i64.wrap (y + 1), ()), ()), St a b c d e g, St h i j l m n, ()) := by
  have loop : ∀ (q k' x : Nat), x + q = W → q + 1 ≤ k' → loopN (e4_0 L) k' ((((), ()), ((), ()), (rows, ()), (N, ()), (y, ()), (List.replicate W bl, ()), ((W : Int), ()), ((x : Int), ()), ()), St a b c d e g, St h i j l m n, ()) = L ((((), ()), ((), ()), (rows, ()), (N, ()), (IntKind.i64.wrap (y + 1), ()), ()), St a b c d e g, St h i j l m n, ()) := by
    intro q
    induction q with
    | zero =>
      intro k' x hx hk
      obtain ⟨k', rfl⟩ : ∃ k2, k' = k2 + 1 := ⟨k' - 1, by omega⟩
      simp only [loopN_succ, e4_0]
      rw [cneg (by omega)]
    | succ q ih =>
      intro k' x hx hk
      obtain ⟨k', rfl⟩ : ∃ k2, k' = k2 + 1 := ⟨k' - 1, by omega⟩
      have hx2 : x < (List.replicate W bl).length := by simp; omega
      have g0 : gt S43 (List.replicate W bl) x = bl := by rw [gtx (s := S43) hx2]; simp
      simp only [loopN_succ, e4_0]
      rw [cpos (by omega), cpos (by simp; omega), tn0, g0, wrapId (n := (x : Int) + 1) (by omega) (by omega), show ((x : Int) + 1) = ((x + 1 : Nat) : Int) by omega]
      exact ih k' (x + 1) (by omega) (by omega)
  exact loop W k 0 (by omega) (by omega)
theorem law_right (hw : ∀ r ∈ c, I64A r) (hw2 : ∀ r ∈ j, I64A r) (hl : c.length ≤ 140737488355328) (hr : ∀ r ∈ c, r.length ≤ 140737488355328 ∧ r.length + 1 ≤ k) (hkc : c.length + 1 ≤ k) (hk : 300 ≤ k) :
    f4 k ((((a, b, c, d, e, g), ()), ((h, i, j, l, m, n), ()), (o, ()), (p, ()), ()), ()) = V1 true := by
  obtain ⟨a1, a2⟩ := cl_in o
  obtain ⟨b1, b2⟩ := cl_in p
  obtain ⟨W, hW⟩ : ∃ W : Nat, cl o = (W : Int) := ⟨(cl o).toNat, by omega⟩
  obtain ⟨H, hH⟩ : ∃ H : Nat, cl p = (H : Int) := ⟨(cl p).toNat, by omega⟩
  have loop : ∀ (q k' y : Nat), y + q = H → q + 1 ≤ k' → loopN (e4_1 k a b c d e g h i j l m n o p) k' ((((), ()), ((), ()), (grid W H, ()), ((H : Int), ()), ((y : Int), ()), ()), St a b c d e g, St h i j l m n, ()) = V1 true := by
    intro q
    induction q with
    | zero =>
      intro k' y hy hk'
      obtain ⟨k', rfl⟩ : ∃ k2, k' = k2 + 1 := ⟨k' - 1, by omega⟩
      rw [loopN_succ]
      exact law_end k a b c d e g h i j l m n o p hw hw2 hl hr hkc hk _ _ _ _ (by omega)
    | succ q ih =>
      intro k' y hy hk'
      obtain ⟨k', rfl⟩ : ∃ k2, k' = k2 + 1 := ⟨k' - 1, by omega⟩
      have hy2 : y < (grid W H).length := by simp; omega
      have g0 : gt S43.sl (grid W H) y = List.replicate W bl := by rw [gtx (s := S43.sl) hy2]; simp
      simp only [loopN_succ, e4_1]
      rw [cpos (by omega), cpos (by simp; omega), tn0, g0]
      have hlen : (List.length (List.replicate W bl) : Int) = (W : Int) := by simp
      rw [hlen]
      refine (law_cells k a b c d e g h i j l m n W (loopN (e4_1 k a b c d e g h i j l m n o p) k') (grid W H) H y (by omega) hk).trans ?_
      · rw [wrapId (n := (y : Int) + 1) (by omega) (by omega), show ((y : Int) + 1) = ((y + 1 : Nat) : Int) by omega]
        exact ih k' (y + 1) (by omega) (by omega)
  rw [e4_eq, al7, Option.bind_some, blank_ok k o p hk]
  simp only [Option.bind_some, Bool.not_true, cond_false]
  rw [rightS_ok k _ _ _ _ _ _ (blank_wf _ _) hk, blank_right, Option.bind_some]
  simp only [Bool.not_true, cond_false, cl_is, bne_self_eq_false]
  rw [hW, hH, Int.toNat_natCast, Int.toNat_natCast]
  have hlen : ((grid W H).length : Int) = (H : Int) := by simp
  rw [hlen]
  exact loop H k 0 (by omega) (by omega)
end law
end
end Go.Proofs.YtaklapcbbdcdpaaDoor.Pt
