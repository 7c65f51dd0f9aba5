import Derived.Test.YtjdbamenbgfcjaaDoorGT
namespace Go.Proofs.YtjdbamenbgfcjaaDoor.Gl
open Go Go.RowKit Go.Proofs Go.Proofs.YtjdbamenbgfcjaaDoor.X
set_option linter.unusedVariables false
set_option linter.unusedSimpArgs false
noncomputable section
/-! Bytes in pieces are read piece by piece as said -/
def e4_0 (g : ((List Int × Unit) × (Int × Unit) × (Int × Unit) × Unit) × Unit) (L : ((List Int × Unit) × (Int × Unit) × (Int × Unit) × Unit) × Unit → Option (((Bool × Unit) × Unit) × Unit)) : Option (((Bool × Unit) × Unit) × Unit) := bif decide (g.1.2.2.1.1 < g.1.2.1.1) then bif decide ((0 : Int) ≤ g.1.2.2.1.1 ∧ g.1.2.2.1.1 < (↑g.1.1.1.length : Int)) then bif gt (Sh.int IntKind.i32) g.1.1.1 g.1.2.2.1.1.toNat != (65533 : Int) then some (((false, ()), ()), ()) else L (((g.1.1.1, ()), (g.1.2.1.1, ()), (IntKind.i64.wrap (g.1.2.2.1.1 + (1 : Int)), ()), ()), ()) else none else some (((true, ()), ()), ())
def e4_1 (k : Nat) (b : List (List Int)) (g : ((Unit × Unit) × (Unit × Unit) × (List (List Int) × Unit) × (Int × Unit) × (Int × Unit) × Unit) × (List Int × Unit) × List Int × Unit) (L : ((Unit × Unit) × (Unit × Unit) × (List (List Int) × Unit) × (Int × Unit) × (Int × Unit) × Unit) × (List Int × Unit) × List Int × Unit → Option (((Bool × Unit) × Unit) × Unit)) : Option (((Bool × Unit) × Unit) × Unit) := bif decide (g.1.2.2.2.2.1.1 < g.1.2.2.2.1.1) then bif decide ((0 : Int) ≤ g.1.2.2.2.2.1.1 ∧ g.1.2.2.2.2.1.1 < (↑g.1.2.2.1.1.length : Int)) then bif ((([] : List Int).length + g.2.2.1.length) * (1 : Nat)).ble (140737488355328 : Nat) then bif ((([] ++ g.2.2.1).length + List.length (gt (Sh.int IntKind.u8).sl g.1.2.2.1.1 g.1.2.2.2.2.1.1.toNat)) * (1 : Nat)).ble (140737488355328 : Nat) then (f15 k ((([] ++ g.2.2.1 ++ gt (Sh.int IntKind.u8).sl g.1.2.2.1.1 g.1.2.2.2.2.1.1.toNat, ()), ()), ())).bind fun v => (f16 k ((((), ()), (gt (Sh.int IntKind.u8).sl g.1.2.2.1.1 g.1.2.2.2.2.1.1.toNat, ()), ()), (g.2.1.1, ()), ())).bind fun v_1 => (f13 k (((v_1.1.1.1, ()), (v.1.1.1, ()), ()), ())).bind fun v_2 => bif !v_2.1.1.1 then some (((false, ()), ()), ()) else (f17 k ((((), ()), ()), (v_1.2.1.1, ()), ())).bind fun v_3 => bif v_3.1.1.1 != (↑(List.length v.1.2.1.1) : Int) then some (((false, ()), ()), ()) else bif ((([] : List Int).length + List.length v.1.2.1.1) * (1 : Nat)).ble (140737488355328 : Nat) then L ((((), ()), ((), ()), (g.1.2.2.1.1, ()), (g.1.2.2.2.1.1, ()), (IntKind.i64.wrap (g.1.2.2.2.2.1.1 + (1 : Int)), ()), ()), (v_1.2.1.1, ()), [] ++ v.1.2.1.1, ()) else none else none else none else none else (f18 k ((((), ()), ()), (g.2.1.1, ()), ())).bind fun v => bif (↑(List.length v.1.1.1) : Int) != (↑g.2.2.1.length : Int) then some (((false, ()), ()), ()) else (f17 k ((((), ()), ()), (v.2.1.1, ()), ())).bind fun v_1 => bif v_1.1.1.1 != (0 : Int) then some (((false, ()), ()), ()) else (f18 k ((((), ()), ()), (v.2.1.1, ()), ())).bind fun v_2 => bif (↑(List.length v_2.1.1.1) : Int) != (0 : Int) then some (((false, ()), ()), ()) else loopN e4_0 k (((v.1.1.1, ()), ((↑(List.length v.1.1.1) : Int), ()), ((0 : Int), ()), ()), ())
theorem e4_eq (k : Nat) (b : List (List Int)) : f4 k (((b, ()), ()), ()) = (f11 k ((), ())).bind fun v => bif !v.1.1.1 then some (((false, ()), ()), ()) else loopN (e4_1 k b) k ((((), ()), ((), ()), (b, ()), ((↑b.length : Int), ()), ((0 : Int), ()), ()), ([], ()), [], ()) := by kernel_rfl
theorem e4_0_loop (m : Nat) (hm : m ≤ 3) : ∀ (n i : Nat) (k : Nat), m - i ≤ n → m - i + 1 ≤ k →
    loopN e4_0 k (((List.replicate m (65533 : Int), ()), ((m : Int), ()), ((i : Int), ()), ()), ()) = some (((true, ()), ()), ()) := by
  intro n
  induction n with
  | zero =>
    intro i k hn hk
    obtain ⟨k, rfl⟩ : ∃ k2, k = k2 + 1 := ⟨k - 1, by omega⟩
    rw [loopN_succ, e4_0]
    simp only []
    rw [cneg (by omega)]
  | succ n ih =>
    intro i k hn hk
    obtain ⟨k, rfl⟩ : ∃ k2, k = k2 + 1 := ⟨k - 1, by omega⟩
    rw [loopN_succ, e4_0]
    simp only []
    by_cases h0 : m ≤ i
    · rw [cneg (by omega)]
    · have hl : (List.replicate m (65533 : Int)).length = m := List.length_replicate
      have ci : (0 : Int) ≤ (i : Int) ∧ (i : Int) < ((List.replicate m (65533 : Int)).length : Int) := by rw [hl]; omega
      rw [cpos (by omega), cpos ci, show ((i : Int)).toNat = i from Int.toNat_natCast _, gt_at (by rw [hl]; omega), List.getElem_replicate, bne_self_eq_false, cond_false, wrapId (by omega) (by omega), show ((i : Int) + 1) = ((i + 1 : Nat) : Int) by omega]
      exact ih (i + 1) k (by omega) (by omega)
theorem gt_piece {F : List (List Int)} {i : Nat} (h : i < F.length) : gt (Sh.int IntKind.u8).sl F i = F[i] := by simp [gt, h]
theorem bl1a {α : Type} {l : List Int} {a b : α} (h : l.length ≤ 140737488355328) : cond (((([] : List Int).length + l.length) * 1).ble 140737488355328) a b = a := bl1 (by rw [List.length_nil]; omega)
theorem bl1b {α : Type} {l m : List Int} {a b : α} (h : l.length + m.length ≤ 140737488355328) : cond (((([] ++ l).length + m.length) * 1).ble 140737488355328) a b = a := bl1 (by rw [List.nil_append]; omega)
theorem e4_1_loop (K : Nat) (F F0 : List (List Int)) (hF : ∀ f ∈ F, (∀ x ∈ f, U8 x) ∧ f.length ≤ 1048576) (hFl : F.length ≤ 1048576) (hK : 2000000 ≤ K) : ∀ (n i : Nat) (q : List Int) (k : Nat), F.length - i ≤ n → F.length - i + 1 ≤ k → (∀ x ∈ q, U8 x) → q.length ≤ 3 →
    loopN (e4_1 (K + 20) F0) k ((((), ()), ((), ()), (F, ()), ((F.length : Int), ()), ((i : Int), ()), ()), (q, ()), q, ()) = some (((true, ()), ()), ()) := by
  intro n
  have fin : ∀ (i : Nat) (q : List Int) (k : Nat), F.length ≤ i → 1 ≤ k → q.length ≤ 3 → loopN (e4_1 (K + 20) F0) k ((((), ()), ((), ()), (F, ()), ((F.length : Int), ()), ((i : Int), ()), ()), (q, ()), q, ()) = some (((true, ()), ()), ()) := by
    intro i q k hi hk hq
    obtain ⟨k, rfl⟩ : ∃ k2, k = k2 + 1 := ⟨k - 1, by omega⟩
    rw [loopN_succ, e4_1]
    simp only []
    rw [cneg (by omega), rest_ok K q hq, Option.bind_some]
    simp only []
    rw [List.length_replicate, bne_self_eq_false, cond_false, e17_eq, Option.bind_some]
    simp only []
    rw [show ((([] : List Int).length : Int) != 0) = false from rfl, cond_false, rest_ok K [] (by simp), Option.bind_some]
    simp only []
    rw [show ((List.replicate ([] : List Int).length (65533 : Int)).length : Int) = 0 from rfl, bne_self_eq_false, cond_false]
    exact e4_0_loop q.length hq q.length 0 (K + 20) (by omega) (by omega)
  induction n with
  | zero => intro i q k hn hk hq hql; exact fin i q k (by omega) (by omega) hql
  | succ n ih =>
    intro i q k hn hk hq hql
    by_cases h0 : F.length ≤ i
    · exact fin i q k h0 (by omega) hql
    obtain ⟨k, rfl⟩ : ∃ k2, k = k2 + 1 := ⟨k - 1, by omega⟩
    have hlt : i < F.length := by omega
    obtain ⟨hu, hpl⟩ := hF _ (List.getElem_mem hlt)
    have hl := feed_len (q ++ F[i])
    have hap : (q ++ F[i]).length = q.length + F[i].length := List.length_append
    have hua : ∀ x ∈ q ++ F[i], U8 x := fun x hx => by
      cases List.mem_append.1 hx with
      | inl h => exact hq x h
      | inr h => exact hu x h
    rw [loopN_succ, e4_1]
    simp only []
    rw [cpos (by omega), cpos (by omega), show ((i : Int)).toNat = i from Int.toNat_natCast _, gt_piece hlt, bl1a (l := q) (by omega), bl1b (l := q) (m := F[i]) (by omega), List.nil_append, rfeed_ok (K + 20) _ hua (by omega) (by omega), Option.bind_some]
    simp only []
    rw [feed_ok (K + 20) q _ hq hu (by omega) (by omega), Option.bind_some]
    simp only []
    rw [same_ok (K + 20) _ _ (by omega) (by omega), Option.bind_some]
    simp only [decide_true, Bool.not_true, cond_false]
    rw [e17_eq, Option.bind_some]
    simp only []
    rw [bne_self_eq_false, cond_false, bl1a (l := (feed (q ++ F[i])).2) (by omega), List.nil_append, wrapId (by omega) (by omega), show ((i : Int) + 1) = ((i + 1 : Nat) : Int) by omega]
    exact ih (i + 1) _ k (by omega) (by omega) (feed_u8 hua) hl.2
theorem feeds_at (F : List (List Int)) (hF : ∀ f ∈ F, (∀ x ∈ f, U8 x) ∧ f.length ≤ 1048576) (hFl : F.length ≤ 1048576) (K : Nat) (hK : 2000000 ≤ K) (hK2 : F.length ≤ K) : f4 (K + 20) (((F, ()), ()), ()) = some (((true, ()), ()), ()) := by
  rw [e4_eq, alive, Option.bind_some]
  simp only [Bool.not_true, cond_false]
  exact e4_1_loop K F F hF hFl hK F.length 0 [] _ (by omega) (by omega) (fun x hx => by cases hx) (by simp)
theorem glyphFeeds (F : List (List Int)) (hF0 : ∀ f ∈ F, f.length ≤ maxLen ∧ f.length * Tryd.prog.bytesOf 5 ≤ reachBytes ∧ ∀ x ∈ f, (Lit.int .u8 x).wf = true) (hFl : F.length ≤ 1048576) (hr : ∀ f ∈ F, f.length ≤ 1048576) :
    f4 (F.length + 2000000 + 20) (((F, ()), ()), ()) = some (((true, ()), ()), ()) :=
  feeds_at F (fun f hf => ⟨fun x hx => u8_of ((hF0 f hf).2.2 x hx), hr f hf⟩) hFl _ (Nat.le_add_left _ _) (Nat.le_add_right _ _)
end
end Go.Proofs.YtjdbamenbgfcjaaDoor.Gl
