import Derived.Test.YtjdbamenbgfcjaaDoorGO
namespace Go.Proofs.YtjdbamenbgfcjaaDoor.Gl
open Go Go.RowKit Go.Proofs Go.Proofs.YtjdbamenbgfcjaaDoor.X
set_option linter.unusedVariables false
set_option linter.unusedSimpArgs false
noncomputable section
/-! What writes runes, and that runes are read back -/
/-! casement/glyph.Bytes, its answer a row of the call's own -/
abbrev F19b : Fm := ⟨0, ⟨[⟨0, false, [.deep (.sl (.int .i32))]⟩], []⟩, ⟨[⟨0, false, [.own 0 (.int .u8)]⟩], [.row 5 (.int .u8)]⟩, anF Tryd.f19 [⟨[⟨3, false, [.own 0 (.int .u8)]⟩, ⟨6, false, [.deep (.sl (.int .i32))]⟩, ⟨7, false, [.deep is]⟩, ⟨8, false, [.deep is]⟩], [.row 5 (.int .u8)]⟩]⟩
def f19b (k : Nat) : F19b.pre.T → Option F19b.post.T := runFn Tryd.prog ti [Fm.entry Tryd.prog F35 35 (f35 k)] F19b Tryd.f19 k
theorem g19b (k : Nat) : EGood Tryd.prog (Fm.entry Tryd.prog F19b 19 (f19b k)) := good tiok mixed (goods_cons (g35 k) goods_nil) Tryd.func19 (by kernel_rfl) (by kernel_rfl)
def e19b_0 (k : Nat) (b : List Int) (g : ((Unit × Unit) × (List Int × Unit) × (Int × Unit) × (Int × Unit) × Unit) × List Int × Unit) (L : ((Unit × Unit) × (List Int × Unit) × (Int × Unit) × (Int × Unit) × Unit) × List Int × Unit → Option (((Unit × Unit) × Unit) × List Int × Unit)) : Option (((Unit × Unit) × Unit) × List Int × Unit) := bif decide (g.1.2.2.2.1.1 < g.1.2.2.1.1) then bif decide ((0 : Int) ≤ g.1.2.2.2.1.1 ∧ g.1.2.2.2.1.1 < (↑g.1.2.1.1.length : Int)) then (f35 k ((((), ()), (gt (Sh.int IntKind.i32) g.1.2.1.1 g.1.2.2.2.1.1.toNat, ()), ()), g.2.1, ())).bind fun v => L ((((), ()), (g.1.2.1.1, ()), (g.1.2.2.1.1, ()), (IntKind.i64.wrap (g.1.2.2.2.1.1 + (1 : Int)), ()), ()), v.2.2.1, ()) else none else some ((((), ()), ()), g.2.1, ())
theorem e19b_eq (k : Nat) (b : List Int) : f19b k (((b, ()), ()), ()) = loopN (e19b_0 k b) k ((((), ()), (b, ()), ((↑b.length : Int), ()), ((0 : Int), ()), ()), [], ()) := by kernel_rfl
theorem rune_ok (k : Nat) (n : Int) : f22 k (((n, ()), ()), ()) = some (((decide (IsR n), ()), ()), ()) := by
  rw [e22_eq]
  by_cases h1 : n ≥ 0
  · by_cases h2 : n ≤ 1114111
    · by_cases h3 : n < 55296
      · rw [decide_eq_true (show IsR n from ⟨by omega, by omega, by omega⟩)]; simp (disch := omega) only [cpos, cneg, dpos, dneg, cond_true, cond_false]
      · by_cases h4 : n > 57343
        · rw [decide_eq_true (show IsR n from ⟨by omega, by omega, by omega⟩)]; simp (disch := omega) only [cpos, cneg, dpos, dneg, cond_true, cond_false]
        · rw [decide_eq_false (show ¬ IsR n by unfold IsR; omega)]; simp (disch := omega) only [cpos, cneg, dpos, dneg, cond_true, cond_false]
    · rw [decide_eq_false (show ¬ IsR n by unfold IsR; omega)]; simp (disch := omega) only [cpos, cneg, dpos, dneg, cond_true, cond_false]
  · rw [decide_eq_false (show ¬ IsR n by unfold IsR; omega)]; simp (disch := omega) only [cpos, cneg, dpos, dneg, cond_true, cond_false]
theorem fix_of {r : Int} (h : IsR r) : fixR r = r := if_pos h
theorem fix_not {r : Int} (h : ¬ IsR r) : fixR r = 65533 := if_neg h
theorem fix_isR (r : Int) : IsR (fixR r) := by
  unfold fixR
  split
  · assumption
  · decide
theorem encR_len {r : Int} : 1 ≤ (encR r).length ∧ (encR r).length ≤ 4 := by
  unfold encR
  split
  · simp
  · split
    · simp
    · split <;> simp
theorem enc_len : ∀ rs : List Int, (enc rs).length ≤ 4 * rs.length
  | [] => Nat.le_refl _
  | r :: rs => by
    have := enc_len rs
    have := @encR_len (fixR r)
    rw [enc, List.length_append, List.length_cons]; omega
theorem enc_app (a b : List Int) : enc (a ++ b) = enc a ++ enc b := by
  induction a with
  | nil => rfl
  | cons x a ih => rw [List.cons_append, enc, enc, ih, List.append_assoc]
theorem wrapU32 (n : Int) : IntKind.u32.wrap n = n % 4294967296 := by rw [IntKind.wrap_u32]
theorem wrapU8 {n : Int} (h : U8 n) : IntKind.u8.wrap n = n := by
  have := h.1
  have := h.2
  rw [IntKind.wrap_u8]; omega
theorem enc_bad : encR 65533 = [239, 191, 189] := by decide
theorem write_ok (k : Nat) (a : List Int) (r : Int) (hr : I32 r) (ha : a.length ≤ 140737488351232) :
    f35 k ((((), ()), (r, ()), ()), a, ()) = some ((((), ()), ()), (), a ++ encR (fixR r), ()) := by
  have hr1 := hr.1
  have hr2 := hr.2
  rw [e35_eq, e42_eq, wrapU32]
  by_cases h0 : 0 ≤ r ∧ r ≤ 127
  · rw [cpos (by omega), bl1 (n := a.length + [IntKind.u8.wrap r].length) (by rw [List.length_singleton]; omega), wrapU8 ⟨h0.1, by omega⟩, fix_of ⟨h0.1, by omega, by omega⟩]
    unfold encR
    rw [if_pos (by omega)]
  rw [cneg (by omega)]
  by_cases h1 : 0 ≤ r ∧ r ≤ 2047
  · rw [cpos (by omega), bw2_is ⟨h1.1, by omega⟩, bl1 (n := a.length + [192 + r / 64, 128 + r % 64].length) (by simp only [List.length_cons, List.length_nil]; omega), Option.bind_some, fix_of ⟨h1.1, by omega, by omega⟩]
    unfold encR
    rw [if_neg (by omega), if_pos (by omega)]
  rw [cneg (p := r % 4294967296 ≤ 2047) (by omega)]
  by_cases h2 : 0 ≤ r ∧ r < 55296
  · rw [cpos (by omega), bw3_is ⟨h2.1, by omega⟩, bl1 (n := a.length + [224 + r / 4096, 128 + r / 64 % 64, 128 + r % 64].length) (by simp only [List.length_cons, List.length_nil]; omega), Option.bind_some, fix_of ⟨h2.1, by omega, by omega⟩]
    unfold encR
    rw [if_neg (by omega), if_neg (by omega), if_pos (by omega)]
  rw [cneg (p := r % 4294967296 < 55296) (by omega)]
  have bad : ∀ {x : Int}, x = r → ¬ IsR x → (bif ((a.length + [(239 : Int), (191 : Int), (189 : Int)].length) * (1 : Nat)).ble (140737488355328 : Nat) then some ((((), ()), ()), (), a ++ [(239 : Int), (191 : Int), (189 : Int)], ()) else none : Option F42.post.T) = some ((((), ()), ()), (), a ++ encR (fixR r), ()) := by
    intro x hx hb
    subst hx
    rw [bl1 (n := a.length + [(239 : Int), (191 : Int), (189 : Int)].length) (by simp only [List.length_cons, List.length_nil]; omega), fix_not hb, enc_bad]
  by_cases h3 : 0 ≤ r ∧ r ≤ 57343
  · rw [cneg (p := 57343 < r % 4294967296) (by omega), cneg (p := r % 4294967296 > 65535) (by omega), bad rfl (by unfold IsR; omega), Option.bind_some]
  rw [cpos (p := 57343 < r % 4294967296) (by omega)]
  by_cases h4 : 0 ≤ r ∧ r ≤ 65535
  · rw [cpos (p := r % 4294967296 ≤ 65535) (by omega), bw3_is ⟨h4.1, by omega⟩, bl1 (n := a.length + [224 + r / 4096, 128 + r / 64 % 64, 128 + r % 64].length) (by simp only [List.length_cons, List.length_nil]; omega), Option.bind_some, fix_of ⟨h4.1, by omega, by omega⟩]
    unfold encR
    rw [if_neg (by omega), if_neg (by omega), if_pos (by omega)]
  rw [cneg (p := r % 4294967296 ≤ 65535) (by omega), cpos (p := r % 4294967296 > 65535) (by omega)]
  by_cases h5 : 0 ≤ r ∧ r ≤ 1114111
  · rw [cpos (p := r % 4294967296 ≤ 1114111) (by omega), bw4_is ⟨h5.1, by omega⟩, bl1 (n := a.length + [240 + r / 262144, 128 + r / 4096 % 64, 128 + r / 64 % 64, 128 + r % 64].length) (by simp only [List.length_cons, List.length_nil]; omega), Option.bind_some, fix_of ⟨h5.1, by omega, by omega⟩]
    unfold encR
    rw [if_neg (by omega), if_neg (by omega), if_neg (by omega)]
  rw [cneg (p := r % 4294967296 ≤ 1114111) (by omega), bad rfl (by unfold IsR; omega), Option.bind_some]
theorem enc_drop {rs : List Int} {i : Nat} (h : i < rs.length) : enc (rs.drop i) = encR (fixR rs[i]) ++ enc (rs.drop (i + 1)) := by
  rw [List.drop_eq_getElem_cons h, enc]
theorem e19b_loop (k0 : Nat) (rs b0 : List Int) (hx : ∀ x ∈ rs, I32 x) (hl : rs.length ≤ 35184372080000) : ∀ (n i : Nat) (a : List Int) (k : Nat), rs.length - i ≤ n → i ≤ rs.length → rs.length - i + 1 ≤ k → a.length ≤ 4 * i →
    loopN (e19b_0 k0 b0) k ((((), ()), (rs, ()), ((rs.length : Int), ()), ((i : Int), ()), ()), a, ()) = some ((((), ()), ()), a ++ enc (rs.drop i), ()) := by
  intro n
  induction n with
  | zero =>
    intro i a k hn hi hk ha
    obtain ⟨k, rfl⟩ : ∃ k2, k = k2 + 1 := ⟨k - 1, by omega⟩
    rw [loopN_succ, e19b_0]
    simp only []
    rw [cneg (by omega), List.drop_of_length_le (by omega), enc, List.append_nil]
  | succ n ih =>
    intro i a k hn hi hk ha
    obtain ⟨k, rfl⟩ : ∃ k2, k = k2 + 1 := ⟨k - 1, by omega⟩
    rw [loopN_succ, e19b_0]
    simp only []
    by_cases h0 : rs.length ≤ i
    · rw [cneg (by omega), List.drop_of_length_le h0, enc, List.append_nil]
    · have h1 : i < rs.length := by omega
      have hen := @encR_len (fixR rs[i])
      rw [cpos (by omega), cpos (by omega), show ((i : Int)).toNat = i from Int.toNat_natCast _, gt_at h1, write_ok k0 a _ (hx _ (List.getElem_mem h1)) (by omega), Option.bind_some]
      simp only []
      rw [wrapId (by omega) (by omega), show ((i : Int) + 1) = ((i + 1 : Nat) : Int) by omega]
      rw [ih (i + 1) _ k (by omega) (by omega) (by omega) (by rw [List.length_append]; omega), enc_drop h1, List.append_assoc]
theorem bytes_ok (k : Nat) (rs : List Int) (hx : ∀ x ∈ rs, I32 x) (hl : rs.length ≤ 35184372080000) (hk : rs.length + 1 ≤ k) : f19b k (((rs, ()), ()), ()) = some ((((), ()), ()), enc rs, ()) := by
  have h := e19b_loop k rs rs hx hl rs.length 0 [] k (by omega) (by omega) (by omega) (by simp)
  rw [List.drop_zero, List.nil_append] at h
  rw [e19b_eq]; exact h
theorem e21_loop (k0 : Nat) (rs b0 : List Int) (hl : rs.length ≤ 35184372080000) : ∀ (n i : Nat) (a : List Int) (k : Nat), rs.length - i ≤ n → i ≤ rs.length → rs.length - i + 1 ≤ k → a.length ≤ 4 * i →
    loopN (e21_0 k0 b0) k (((rs, ()), ((), ()), ((i : Int), ()), ()), a, ()) = some (((a ++ enc (rs.drop i), ()), ()), ()) := by
  intro n
  induction n with
  | zero =>
    intro i a k hn hi hk ha
    obtain ⟨k, rfl⟩ : ∃ k2, k = k2 + 1 := ⟨k - 1, by omega⟩
    rw [loopN_succ, e21_0]
    simp only []
    rw [cneg (by omega), List.drop_of_length_le (by omega), enc, List.append_nil]
  | succ n ih =>
    intro i a k hn hi hk ha
    obtain ⟨k, rfl⟩ : ∃ k2, k = k2 + 1 := ⟨k - 1, by omega⟩
    rw [loopN_succ, e21_0]
    simp only []
    by_cases h0 : rs.length ≤ i
    · rw [cneg (by omega), List.drop_of_length_le h0, enc, List.append_nil]
    · have h1 : i < rs.length := by omega
      rw [cpos (by omega), cpos (by omega), show ((i : Int)).toNat = i from Int.toNat_natCast _, gt_at h1, rune_ok, Option.bind_some]
      simp only []
      rw [enc_drop h1]
      generalize hR : rs[i] = r
      have fin : ∀ {y : List Int}, y = encR (fixR r) → loopN (e21_0 k0 b0) k (((rs, ()), ((), ()), (IntKind.i64.wrap ((i : Int) + 1), ()), ()), a ++ y, ()) = some (((a ++ (encR (fixR r) ++ enc (rs.drop (i + 1))), ()), ()), ()) := by
        intro y hy
        subst hy
        have hen := @encR_len (fixR r)
        rw [wrapId (by omega) (by omega), show ((i : Int) + 1) = ((i + 1 : Nat) : Int) by omega, ih (i + 1) _ k (by omega) (by omega) (by omega) (by rw [List.length_append]; omega), List.append_assoc]
      by_cases hi1 : IsR r
      · rw [decide_eq_true hi1, Bool.not_true, cond_false]
        have hb1 := hi1.1
        have hb2 := hi1.2.1
        by_cases q1 : r < 128
        · rw [cpos q1, bl1 (n := a.length + [IntKind.u8.wrap r].length) (by rw [List.length_singleton]; omega)]
          exact fin (by rw [fix_of hi1, wrapU8 ⟨hb1, by omega⟩]; unfold encR; rw [if_pos q1])
        rw [cneg q1]
        by_cases q2 : r < 2048
        · rw [cpos q2, by2_is ⟨hb1, q2⟩, bl1 (n := a.length + [192 + r / 64, 128 + r % 64].length) (by simp only [List.length_cons, List.length_nil]; omega)]
          exact fin (by rw [fix_of hi1]; unfold encR; rw [if_neg q1, if_pos q2])
        rw [cneg q2]
        by_cases q3 : r < 65536
        · rw [cpos q3, by3_is ⟨hb1, q3⟩, bl1 (n := a.length + [224 + r / 4096, 128 + r / 64 % 64, 128 + r % 64].length) (by simp only [List.length_cons, List.length_nil]; omega)]
          exact fin (by rw [fix_of hi1]; unfold encR; rw [if_neg q1, if_neg q2, if_pos q3])
        rw [cneg q3, by4_is ⟨hb1, by omega⟩, bl1 (n := a.length + [240 + r / 262144, 128 + r / 4096 % 64, 128 + r / 64 % 64, 128 + r % 64].length) (by simp only [List.length_cons, List.length_nil]; omega)]
        exact fin (by rw [fix_of hi1]; unfold encR; rw [if_neg q1, if_neg q2, if_neg q3])
      · rw [decide_eq_false hi1, Bool.not_false, cond_true, by3_is (r := 65533) (by omega), bl1 (n := a.length + [224 + (65533 : Int) / 4096, 128 + (65533 : Int) / 64 % 64, 128 + (65533 : Int) % 64].length) (by simp only [List.length_cons, List.length_nil]; omega)]
        exact fin (by rw [fix_not hi1, enc_bad]; decide)
theorem rbytes_ok (k : Nat) (rs : List Int) (hl : rs.length ≤ 35184372080000) (hk : rs.length + 1 ≤ k) : f21 k (((rs, ()), ()), ()) = some (((enc rs, ()), ()), ()) := by
  have h := e21_loop k rs rs hl rs.length 0 [] k (by omega) (by omega) (by omega) (by simp)
  rw [List.drop_zero, List.nil_append] at h
  rw [e21_eq]; exact h
/-! runes are read back -/
theorem whole_enc {r : Int} (h : IsR r) (t : List Int) : whole (encR r ++ t) = (((encR r).length : Int), r) := by
  obtain ⟨h0, h1, h2⟩ := h
  unfold encR
  by_cases q1 : r < 128
  · rw [if_pos q1]
    unfold whole
    simp only [List.cons_append, List.nil_append, List.length_cons, List.getD_cons_zero]
    rw [if_neg (by omega), if_pos q1]; rfl
  rw [if_neg q1]
  by_cases q2 : r < 2048
  · rw [if_pos q2]
    unfold whole
    simp only [List.cons_append, List.nil_append, List.length_cons, List.getD_cons_zero, List.getD_cons_succ]
    rw [if_neg (by omega), if_neg (by omega), if_pos (by omega), R2_is (by omega) (by omega)]
    exact Prod.ext rfl (by show (_ : Int) = _; omega)
  rw [if_neg q2]
  by_cases q3 : r < 65536
  · rw [if_pos q3]
    unfold whole
    simp only [List.cons_append, List.nil_append, List.length_cons, List.getD_cons_zero, List.getD_cons_succ]
    have hlo : loOf (224 + r / 4096) ≤ 128 + r / 64 % 64 := by unfold loOf; repeat' split <;> omega
    have hhi : 128 + r / 64 % 64 ≤ hiOf (224 + r / 4096) := by unfold hiOf; repeat' split <;> omega
    rw [if_neg (by omega), if_neg (by omega), if_neg (by omega), if_pos (by omega), R3_is (by omega) (by omega) (by omega)]
    exact Prod.ext rfl (by show (_ : Int) = _; omega)
  · rw [if_neg q3]
    unfold whole
    simp only [List.cons_append, List.nil_append, List.length_cons, List.getD_cons_zero, List.getD_cons_succ]
    have hlo : loOf (240 + r / 262144) ≤ 128 + r / 4096 % 64 := by unfold loOf; repeat' split <;> omega
    have hhi : 128 + r / 4096 % 64 ≤ hiOf (240 + r / 262144) := by unfold hiOf; repeat' split <;> omega
    rw [if_neg (by omega), if_neg (by omega), if_neg (by omega), if_neg (by omega), if_pos (by omega), R4_is (by omega) (by omega) (by omega) (by omega)]
    exact Prod.ext rfl (by show (_ : Int) = _; omega)
theorem dec_enc {r : Int} (h : IsR r) (t : List Int) : dec (encR r ++ t) = (r, ((encR r).length : Int)) := by
  have hl := @encR_len r
  unfold dec
  rw [whole_enc h, if_neg (by rw [List.length_append]; omega), if_neg (by simp only []; omega)]
theorem runes_enc1 {r : Int} (h : IsR r) (t : List Int) : runes (encR r ++ t) = r :: runes t := by
  have hl := @encR_len r
  rw [runes_step (by rw [List.length_append]; omega), dec_enc h, show (((encR r).length : Int)).toNat = (encR r).length from Int.toNat_natCast _, List.drop_left]
theorem runes_enc : ∀ rs : List Int, runes (enc rs) = rs.map fixR
  | [] => rfl
  | r :: rs => by rw [enc, runes_enc1 (fix_isR r), runes_enc rs, List.map_cons]
theorem loOf_ge (c : Int) : 128 ≤ loOf c := by unfold loOf; repeat' split <;> omega
theorem hiOf_le (c : Int) : hiOf c ≤ 191 := by unfold hiOf; repeat' split <;> omega
theorem whole_isR {b : List Int} (hb : ∀ x ∈ b, U8 x) (h : (whole b).1 ≠ 0) : IsR (whole b).2 := by
  unfold whole at h ⊢
  by_cases h0 : b.length = 0
  · rw [if_pos h0] at h; exact absurd rfl h
  have hc := getU8 hb (i := 0) (by omega)
  rw [if_neg h0] at h ⊢
  generalize b.getD 0 0 = c at *
  generalize b.getD 1 0 = d at *
  generalize b.getD 2 0 = e at *
  generalize b.getD 3 0 = f at *
  have g1 := loOf_ge c
  have g2 := hiOf_le c
  by_cases q1 : c < 128
  · rw [if_pos q1]; exact ⟨hc.1, by show c ≤ _; omega, .inl (by show c < _; omega)⟩
  rw [if_neg q1] at h ⊢
  split
  · rename_i q
    rw [R2_is (by omega) (by omega)]
    unfold IsR; omega
  rename_i q2
  rw [if_neg q2] at h
  split
  · rename_i q
    rw [R3_is (by omega) (by omega) (by omega)]
    have hlo : c = 224 → 160 ≤ d := fun hh => by have := q.2.2.2.1; rw [hh] at this; exact this
    have hhi : c = 237 → d ≤ 159 := fun hh => by have := q.2.2.2.2.1; rw [hh] at this; exact this
    unfold IsR; omega
  rename_i q3
  rw [if_neg q3] at h
  split
  · rename_i q
    rw [R4_is (by omega) (by omega) (by omega) (by omega)]
    have hlo : c = 240 → 144 ≤ d := fun hh => by have := q.2.2.2.1; rw [hh] at this; exact this
    have hhi : c = 244 → d ≤ 143 := fun hh => by have := q.2.2.2.2.1; rw [hh] at this; exact this
    unfold IsR; omega
  rename_i q4
  rw [if_neg q4] at h; exact absurd rfl h
theorem dec_isR {b : List Int} (hb : ∀ x ∈ b, U8 x) : IsR (dec b).1 := by
  unfold dec
  split
  · decide
  · split
    · decide
    · rename_i h
      exact whole_isR hb h
theorem runes_isR : ∀ (n : Nat) (b : List Int), b.length ≤ n → (∀ x ∈ b, U8 x) → ∀ r ∈ runes b, IsR r
  | 0, b, h, _, r, hr => by rw [List.length_eq_zero_iff.1 (by omega : b.length = 0), runes_nil] at hr; cases hr
  | n + 1, b, h, hb, r, hr => by
    by_cases h0 : b.length = 0
    · rw [List.length_eq_zero_iff.1 h0, runes_nil] at hr; cases hr
    · have := dec_n h0
      rw [runes_step h0] at hr
      cases List.mem_cons.1 hr with
      | inl e => subst e; exact dec_isR hb
      | inr hr => exact runes_isR n (b.drop (dec b).2.toNat) (by rw [List.length_drop]; omega) (u8_drop hb _) r hr
theorem map_fix {rs : List Int} (h : ∀ r ∈ rs, IsR r) : rs.map fixR = rs := by
  conv => rhs; rw [← List.map_id rs]
  exact List.map_congr_left fun r hr => fix_of (h r hr)
theorem encR_u8 {r : Int} (h : IsR r) : ∀ x ∈ encR r, U8 x := by
  obtain ⟨h0, h1, h2⟩ := h
  unfold encR U8
  intro x hx
  repeat' split at hx
  all_goals
    simp only [List.mem_cons, List.not_mem_nil, or_false] at hx
    omega
theorem enc_u8 : ∀ rs : List Int, ∀ x ∈ enc rs, U8 x
  | [], x, h => by cases h
  | r :: rs, x, h => by
    rw [enc] at h
    cases List.mem_append.1 h with
    | inl h => exact encR_u8 (fix_isR r) x h
    | inr h => exact enc_u8 rs x h
end
end Go.Proofs.YtjdbamenbgfcjaaDoor.Gl
