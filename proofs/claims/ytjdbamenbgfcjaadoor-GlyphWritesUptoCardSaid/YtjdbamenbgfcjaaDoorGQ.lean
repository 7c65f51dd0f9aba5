import Derived.Test.YtjdbamenbgfcjaaDoorGP
namespace Go.Proofs.YtjdbamenbgfcjaaDoor.Gl
open Go Go.RowKit Go.Proofs Go.Proofs.YtjdbamenbgfcjaaDoor.X
set_option linter.unusedVariables false
set_option linter.unusedSimpArgs false
noncomputable section
/-! Numbers are written as the document says, runes are read back -/
def f6b (k : Nat) : F6.pre.T → Option F6.post.T := runFn Tryd.prog ti [Fm.entry Tryd.prog F11 11 (f11 k), Fm.entry Tryd.prog F19b 19 (f19b k), Fm.entry Tryd.prog F21 21 (f21 k), Fm.entry Tryd.prog F20 20 (f20 k), Fm.entry Tryd.prog F12 12 (f12 k), Fm.entry Tryd.prog F22 22 (f22 k), Fm.entry Tryd.prog F13 13 (f13 k)] F6 Tryd.f6 k
theorem law6b (k : Nat) : ∀ e ∈ [Fm.entry Tryd.prog F11 11 (f11 k), Fm.entry Tryd.prog F19b 19 (f19b k), Fm.entry Tryd.prog F21 21 (f21 k), Fm.entry Tryd.prog F20 20 (f20 k), Fm.entry Tryd.prog F12 12 (f12 k), Fm.entry Tryd.prog F22 22 (f22 k), Fm.entry Tryd.prog F13 13 (f13 k)], EGood Tryd.prog e := (goods_cons (g11 k) (goods_cons (g19b k) (goods_cons (g21 k) (goods_cons (g20 k) (goods_cons (g12 k) (goods_cons (g22 k) (goods_cons (g13 k) goods_nil)))))))
def e6b_0 (k : Nat) (rs : List Int) (b : List Int) (g : ((List Int × Unit) × (List Int × Unit) × (List Int × Unit) × (Int × Unit) × (Int × Unit) × Unit) × Unit) (L : ((List Int × Unit) × (List Int × Unit) × (List Int × Unit) × (Int × Unit) × (Int × Unit) × Unit) × Unit → Option (((Bool × Unit) × Unit) × Unit)) : Option (((Bool × Unit) × Unit) × Unit) := bif decide (g.1.2.2.2.2.1.1 < g.1.2.2.2.1.1) then bif decide ((0 : Int) ≤ g.1.2.2.2.2.1.1 ∧ g.1.2.2.2.2.1.1 < (↑g.1.1.1.length : Int)) then (f22 k (((gt (Sh.int IntKind.i32) g.1.1.1 g.1.2.2.2.2.1.1.toNat, ()), ()), ())).bind fun v => bif v.1.1.1 then bif decide ((0 : Int) ≤ g.1.2.2.2.2.1.1 ∧ g.1.2.2.2.2.1.1 < (↑g.1.2.2.1.1.length : Int)) then bif decide ((0 : Int) ≤ g.1.2.2.2.2.1.1 ∧ g.1.2.2.2.2.1.1 < (↑g.1.1.1.length : Int)) then bif gt (Sh.int IntKind.i32) g.1.2.2.1.1 g.1.2.2.2.2.1.1.toNat != gt (Sh.int IntKind.i32) g.1.1.1 g.1.2.2.2.2.1.1.toNat then some (((false, ()), ()), ()) else bif decide ((0 : Int) ≤ g.1.2.2.2.2.1.1 ∧ g.1.2.2.2.2.1.1 < (↑g.1.1.1.length : Int)) then (f22 k (((gt (Sh.int IntKind.i32) g.1.1.1 g.1.2.2.2.2.1.1.toNat, ()), ()), ())).bind fun v => bif !v.1.1.1 then bif decide ((0 : Int) ≤ g.1.2.2.2.2.1.1 ∧ g.1.2.2.2.2.1.1 < (↑g.1.2.2.1.1.length : Int)) then bif gt (Sh.int IntKind.i32) g.1.2.2.1.1 g.1.2.2.2.2.1.1.toNat != (65533 : Int) then some (((false, ()), ()), ()) else L (((g.1.1.1, ()), (g.1.2.1.1, ()), (g.1.2.2.1.1, ()), (g.1.2.2.2.1.1, ()), (IntKind.i64.wrap (g.1.2.2.2.2.1.1 + (1 : Int)), ()), ()), ()) else none else L (((g.1.1.1, ()), (g.1.2.1.1, ()), (g.1.2.2.1.1, ()), (g.1.2.2.2.1.1, ()), (IntKind.i64.wrap (g.1.2.2.2.2.1.1 + (1 : Int)), ()), ()), ()) else none else none else none else bif decide ((0 : Int) ≤ g.1.2.2.2.2.1.1 ∧ g.1.2.2.2.2.1.1 < (↑g.1.1.1.length : Int)) then (f22 k (((gt (Sh.int IntKind.i32) g.1.1.1 g.1.2.2.2.2.1.1.toNat, ()), ()), ())).bind fun v => bif !v.1.1.1 then bif decide ((0 : Int) ≤ g.1.2.2.2.2.1.1 ∧ g.1.2.2.2.2.1.1 < (↑g.1.2.2.1.1.length : Int)) then bif gt (Sh.int IntKind.i32) g.1.2.2.1.1 g.1.2.2.2.2.1.1.toNat != (65533 : Int) then some (((false, ()), ()), ()) else L (((g.1.1.1, ()), (g.1.2.1.1, ()), (g.1.2.2.1.1, ()), (g.1.2.2.2.1.1, ()), (IntKind.i64.wrap (g.1.2.2.2.2.1.1 + (1 : Int)), ()), ()), ()) else none else L (((g.1.1.1, ()), (g.1.2.1.1, ()), (g.1.2.2.1.1, ()), (g.1.2.2.2.1.1, ()), (IntKind.i64.wrap (g.1.2.2.2.2.1.1 + (1 : Int)), ()), ()), ()) else none else none else (f12 k (((g.1.2.1.1, ()), ()), ())).bind fun v => (f19b k (((v.2.1, ()), ()), ())).bind fun v_1 => (f12 k (((v_1.2.1, ()), ()), ())).bind fun v_2 => (f13 k (((v_2.2.1, ()), (v.2.1, ()), ()), ())).bind fun v => some (((v.1.1.1, ()), ()), ())
theorem e6b_eq (k : Nat) (rs : List Int) (b : List Int) : f6b k (((rs, ()), (b, ()), ()), ()) = (f11 k ((), ())).bind fun v => bif !v.1.1.1 then some (((false, ()), ()), ()) else (f19b k (((rs, ()), ()), ())).bind fun v_1 => (f21 k (((rs, ()), ()), ())).bind fun v_2 => (f20 k (((v_1.2.1, ()), (v_2.1.1.1, ()), ()), ())).bind fun v_3 => bif !v_3.1.1.1 then some (((false, ()), ()), ()) else (f12 k (((v_1.2.1, ()), ()), ())).bind fun v => bif (↑(List.length v.2.1) : Int) != (↑rs.length : Int) then some (((false, ()), ()), ()) else loopN (e6b_0 k rs b) k (((rs, ()), (b, ()), (v.2.1, ()), ((↑rs.length : Int), ()), ((0 : Int), ()), ()), ()) := by kernel_rfl

theorem sameb_ok (k : Nat) (xs : List Int) (hl : xs.length ≤ 140737488351232) (hk : xs.length + 1 ≤ k) : f20 k (((xs, ()), (xs, ()), ()), ()) = some (((true, ()), ()), ()) := by
  have loop : ∀ (n i : Nat) (k : Nat), xs.length - i ≤ n → i ≤ xs.length → xs.length - i + 1 ≤ k → loopN e20_0 k (((xs, ()), (xs, ()), ((i : Int), ()), ()), ()) = some (((true, ()), ()), ()) := by
    intro n
    induction n with
    | zero =>
      intro i k hn hi hk
      obtain ⟨k, rfl⟩ : ∃ k2, k = k2 + 1 := ⟨k - 1, by omega⟩
      rw [loopN_succ, e20_0]
      simp only []
      rw [cneg (by omega)]
    | succ n ih =>
      intro i k hn hi hk
      obtain ⟨k, rfl⟩ : ∃ k2, k = k2 + 1 := ⟨k - 1, by omega⟩
      rw [loopN_succ, e20_0]
      simp only []
      by_cases h0 : xs.length ≤ i
      · rw [cneg (by omega)]
      · rw [cpos (by omega), cpos (by omega), cpos (by omega), bne_self_eq_false, cond_false, wrapId (by omega) (by omega), show ((i : Int) + 1) = ((i + 1 : Nat) : Int) by omega]
        exact ih (i + 1) k (by omega) (by omega) (by omega)
  rw [e20_eq, bne_self_eq_false, cond_false]
  exact loop xs.length 0 k (by omega) (by omega) (by omega)
theorem gt_map {rs : List Int} {i : Nat} (h : i < rs.length) (k : IntKind) : gt (Sh.int k) (rs.map fixR) i = fixR rs[i] := by simp [gt, h]
theorem e6b_loop (k0 : Nat) (rs b r0 b0 : List Int) (hb : ∀ x ∈ b, U8 x) (hrl : rs.length ≤ 1048576) (hbl : b.length ≤ 1048576) (hk0 : 4 * b.length + 20 ≤ k0) : ∀ (n i : Nat) (k : Nat), rs.length - i ≤ n → i ≤ rs.length → rs.length - i + 1 ≤ k →
    loopN (e6b_0 k0 r0 b0) k (((rs, ()), (b, ()), (rs.map fixR, ()), ((rs.length : Int), ()), ((i : Int), ()), ()), ()) = some (((true, ()), ()), ()) := by
  have hlm : (rs.map fixR).length = rs.length := List.length_map _
  have hr := runes_len _ b (Nat.le_refl _)
  have hir := runes_isR _ b (Nat.le_refl _) hb
  have her := enc_len (runes b)
  have fin : ∀ (i k : Nat), rs.length ≤ i → 1 ≤ k → loopN (e6b_0 k0 r0 b0) k (((rs, ()), (b, ()), (rs.map fixR, ()), ((rs.length : Int), ()), ((i : Int), ()), ()), ()) = some (((true, ()), ()), ()) := by
    intro i k hi hk
    obtain ⟨k, rfl⟩ : ∃ k2, k = k2 + 1 := ⟨k - 1, by omega⟩
    rw [loopN_succ, e6b_0]
    simp only []
    rw [cneg (by omega), runes_ok k0 b hb (by omega) (by omega), Option.bind_some]
    simp only []
    rw [bytes_ok k0 (runes b) (fun x hx => by have := hir x hx; unfold IsR at this; exact ⟨by omega, by omega⟩) (by omega) (by omega), Option.bind_some]
    simp only []
    rw [runes_ok k0 (enc (runes b)) (enc_u8 _) (by omega) (by omega), Option.bind_some, runes_enc, map_fix hir]
    simp only []
    rw [same_ok k0 _ _ (by omega) (by omega), Option.bind_some]
    simp only [decide_true]
  intro n
  induction n with
  | zero => intro i k hn hi hk; exact fin i k (by omega) (by omega)
  | succ n ih =>
    intro i k hn hi hk
    by_cases h0 : rs.length ≤ i
    · exact fin i k h0 (by omega)
    obtain ⟨k, rfl⟩ : ∃ k2, k = k2 + 1 := ⟨k - 1, by omega⟩
    have h1 : i < rs.length := by omega
    have next : loopN (e6b_0 k0 r0 b0) k (((rs, ()), (b, ()), (rs.map fixR, ()), ((rs.length : Int), ()), (IntKind.i64.wrap ((i : Int) + 1), ()), ()), ()) = some (((true, ()), ()), ()) := by
      rw [wrapId (by omega) (by omega), show ((i : Int) + 1) = ((i + 1 : Nat) : Int) by omega]
      exact ih (i + 1) k (by omega) (by omega) (by omega)
    rw [loopN_succ, e6b_0]
    simp only []
    have ci : (0 : Int) ≤ (i : Int) ∧ (i : Int) < (rs.length : Int) := by omega
    have cm : (0 : Int) ≤ (i : Int) ∧ (i : Int) < ((rs.map fixR).length : Int) := by omega
    rw [cpos (by omega), cpos ci, show ((i : Int)).toNat = i from Int.toNat_natCast _, gt_at h1, gt_map h1, rune_ok, Option.bind_some]
    simp only []
    by_cases q : IsR rs[i]
    · rw [decide_eq_true q, cond_true, cpos cm, cpos ci, fix_of q, bne_self_eq_false, cond_false, cpos ci, Option.bind_some]
      simp only [Bool.not_true, cond_false]
      exact next
    · rw [decide_eq_false q, cond_false, cpos ci, Option.bind_some]
      simp only [Bool.not_false, cond_true]
      rw [cpos cm, fix_not q, bne_self_eq_false, cond_false]
      exact next
theorem glyphWrites (rs b : List Int) (hr0 : ∀ x ∈ rs, (Lit.int .i32 x).wf = true) (hrl : rs.length ≤ 1048576) (hb0 : ∀ x ∈ b, (Lit.int .u8 x).wf = true) (hbl : b.length ≤ 1048576) :
    f6b (4 * rs.length + 4 * b.length + 20 + 20) (((rs, ()), (b, ()), ()), ()) = some (((true, ()), ()), ()) := by
  have hb : ∀ x ∈ b, U8 x := fun x hx => u8_of (hb0 x hx)
  have hr : ∀ x ∈ rs, I32 x := fun x hx => i32_of (hr0 x hx)
  have hen := enc_len rs
  rw [e6b_eq, alive, Option.bind_some]
  generalize hK : 4 * rs.length + 4 * b.length + 20 + 20 = K
  simp only [Bool.not_true, cond_false]
  rw [bytes_ok K rs hr (by omega) (by omega), Option.bind_some, rbytes_ok K rs (by omega) (by omega), Option.bind_some]
  simp only []
  rw [sameb_ok K _ (by omega) (by omega), Option.bind_some]
  simp only [Bool.not_true, cond_false]
  rw [runes_ok K (enc rs) (enc_u8 _) (by omega) (by omega), Option.bind_some, runes_enc]
  simp only []
  rw [show ((rs.map fixR).length : Int) = (rs.length : Int) by rw [List.length_map], bne_self_eq_false, cond_false]
  exact e6b_loop K rs b rs b hb hrl hbl (by omega) rs.length 0 K (by omega) (by omega) (by omega)
end
end Go.Proofs.YtjdbamenbgfcjaaDoor.Gl
