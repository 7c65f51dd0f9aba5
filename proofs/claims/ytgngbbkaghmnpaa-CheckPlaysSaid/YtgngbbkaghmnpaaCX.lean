/- The document's bytes of a module are those of the program. Condition: numbers of 64 bits, rows that may be. -/
import Derived.Test.YtgngbbkaghmnpaaCE
import Derived.Test.YtgngbbkaghmnpaaQx30
import Derived.Test.YtgngbbkaghmnpaaQx28
import Derived.Test.YtgngbbkaghmnpaaQx29
import Derived.Test.YtgngbbkaghmnpaaQx25
import Derived.Test.YtgngbbkaghmnpaaQx26
import Derived.Test.YtgngbbkaghmnpaaQx27
import Derived.Test.YtgngbbkaghmnpaaQx24
namespace Go.Proofs.Ytgngbbkaghmnpaa.Chk
open Go.RowKit Go.Proofs.Ytgngbbkaghmnpaa.Q Go.Proofs.YtgngbbkaghmnpaaW.PrintWords Go.Proofs.YtgngbbkaghmnpaaW.PrintLast

theorem rd_at {b : List Int} {p : Nat} (h : p < b.length) : rd b (p : Int) = b[p] := by
  unfold rd
  simp [List.getD, h]
theorem ins_ok (c : S46) : insOk c = true ↔ (0 ≤ c.f0 ∧ c.f0 ≤ 29) ∧ (has c.f0 = true ∨ c.f1 = 0) := by
  unfold insOk
  rw [Bool.and_eq_true, decide_eq_true_eq, Bool.or_eq_true, decide_eq_true_eq]
theorem has_ref (op : Int) : casementref12_Has.f op = some (has op) := by
  unfold casementref12_Has.f has
  by_cases h1 : op = 1
  · subst h1; rfl
  · rw [if_neg h1]
    by_cases h2 : op = 5
    · subst h2; rfl
    · rw [if_neg h2]
      by_cases h3 : op = 6
      · subst h3; rfl
      · rw [if_neg h3]
        by_cases h4 : op = 24
        · subst h4; rfl
        · rw [if_neg h4]
          by_cases h5 : op = 25
          · subst h5; rfl
          · rw [if_neg h5]
            by_cases h6 : op = 26
            · subst h6; rfl
            · rw [if_neg h6]
              simp [h1, h2, h3, h4, h5, h6]
theorem join_l0 {b : List Int} (hb : b.length ≤ 1000000) : ∀ (e i k : Nat) (a : List Int), b.length - i = e → i ≤ b.length → e + 1 ≤ k → a.length + e ≤ 100000000 → casementref12_join.l0 k a b (i : Int) = some (a ++ b.drop i) := by
  intro e
  induction e with
  | zero =>
    intro i k a he hi hk ha
    obtain ⟨k, rfl⟩ : ∃ q, k = q + 1 := ⟨k - 1, by omega⟩
    rw [casementref12_join.l0, if_neg (by omega), List.drop_of_length_le (by omega), List.append_nil]
  | succ e ih =>
    intro i k a he hi hk ha
    obtain ⟨k, rfl⟩ : ∃ q, k = q + 1 := ⟨k - 1, by omega⟩
    have h1 : i < b.length := by omega
    have hw : wrap64 ((i : Int) + 1) = ((i + 1 : Nat) : Int) := by
      rw [wrap_id (by unfold I64; omega)]
      omega
    rw [casementref12_join.l0, if_pos (by omega), if_pos (by omega), if_pos (by omega), rd_at h1, hw]
    clear hw
    rw [ih (i + 1) k _ (by omega) (by omega) (by omega) (by simp only [List.length_append, List.length_singleton]; omega), List.drop_eq_getElem_cons h1, List.append_assoc]
    rfl
theorem join_is {a b : List Int} (hb : b.length ≤ 1000000) (ha : a.length ≤ 10000000) {k : Nat} (hk : b.length + 1 ≤ k) : casementref12_join.f k a b = some (a ++ b) := by
  have := join_l0 hb b.length 0 k a (by omega) (by omega) hk (by omega)
  rw [List.drop_zero] at this
  exact this
theorem two_ref {n : Int} (h0 : 0 ≤ n) (h1 : n ≤ 65535) : casementref12_two.f n = some [n % 256, n / 256] := by
  unfold casementref12_two.f
  have hw : wrap64 (Int.tdiv n 256) = n / 256 := by
    rw [Int.tdiv_eq_ediv_of_nonneg h0, wrap_id (by unfold I64; omega)]
  rw [hw, Int.tmod_eq_emod_of_nonneg h0, show n % 256 % 256 = n % 256 by omega, show n / 256 % 256 = n / 256 by omega]
theorem rnum_loop : ∀ (e k : Nat) (u : Int) (a : List Int), 0 ≤ u → u < 128 ^ (e + 1) → u < 18446744073709551616 → e + 1 ≤ k → a.length + e < 1000000000 → casementref12_Number.l0 k u a = some (a ++ grp e u) := by
  intro e
  induction e with
  | zero =>
    intro k u a h0 h1 h2 hk ha
    obtain ⟨k, rfl⟩ : ∃ q, k = q + 1 := ⟨k - 1, by omega⟩
    rw [casementref12_Number.l0, if_neg (by omega), if_pos (by omega), grp, Int.emod_eq_of_lt h0 (by omega)]
  | succ e ih =>
    intro k u a h0 h1 h2 hk ha
    obtain ⟨k, rfl⟩ : ∃ q, k = q + 1 := ⟨k - 1, by omega⟩
    rw [casementref12_Number.l0]
    by_cases c : u < 128
    · rw [if_neg (by omega), if_pos (by omega), grp, if_pos c, Int.emod_eq_of_lt h0 (by omega)]
    · rw [if_pos (by omega), if_pos (by omega), Int.tmod_eq_emod_of_nonneg h0, Int.tdiv_eq_ediv_of_nonneg h0, wrap_u64, Int.emod_eq_of_lt (a := u / 128) (by omega) (by omega), ih k (u / 128) _ (by omega) (by rw [Int.pow_succ] at h1; omega) (by omega) (by omega) (by simp only [List.length_append, List.length_singleton]; omega), grp, if_neg c, List.append_assoc, show (u % 128 + 128) % 256 = u % 128 + 128 by omega]
      rfl
theorem num_ref {n : Int} (h : I64 n) {k : Nat} (hk : 20 ≤ k) : casementref12_Number.f k n = some (numB n) := by
  obtain ⟨k, rfl⟩ : ∃ q, k = q + 1 := ⟨k - 1, by omega⟩
  obtain ⟨_, h1, h2⟩ := zig_ok h
  have hloop := rnum_loop 9 k (zig n) [] h1 (by omega) h2 (by omega) (by simp)
  rw [List.nil_append] at hloop
  unfold I64 at h
  unfold casementref12_Number.f
  by_cases c : n < 0
  · rw [if_pos c]
    have w1 : wrap64 (n + 1) = n + 1 := wrap_id (by unfold I64; omega)
    have w2 : wrap64 (-(n + 1)) = -(n + 1) := wrap_id (by unfold I64; clear w1; omega)
    rw [w1, w2]
    clear w1 w2
    have e : IntKind.u64.wrap (IntKind.u64.wrap (IntKind.u64.wrap (-(n + 1)) * 2) + 1) = zig n := by
      simp only [wrap_u64]
      unfold zig
      rw [if_pos c]
      omega
    rw [e, casementref12_Number.j0]
    exact hloop
  · rw [if_neg c]
    have e : IntKind.u64.wrap (IntKind.u64.wrap n * 2) = zig n := by
      simp only [wrap_u64]
      unfold zig
      rw [if_neg c]
      omega
    rw [e, casementref12_Number.j0]
    exact hloop
section
variable {m : Int} {d : List Int} {l : List S42}
theorem rright_l1 {i : Int} {x : S42} (hc : x.f3.length ≤ 140737488351232) {b : Bool} {a0 a1 a2 : Int} (hb : Ev (fun k => casementref12_Right.l0 k (wrap64 (i + 1)) m d l) b) : ∀ (e j : Nat), x.f3.length - j = e → j ≤ x.f3.length →
    Ev (fun k => casementref12_Right.l1 k i (j : Int) m d l a0 a1 a2 x.f3) ((x.f3.drop j).all insOk && b) := by
  intro e
  induction e with
  | zero =>
    intro j he hj
    rw [List.drop_of_length_le (by omega)]
    refine Ev.step (f := fun k => casementref12_Right.l0 k (wrap64 (i + 1)) m d l) (fun k => ?_) (by simpa using hb)
    show casementref12_Right.l1 (k + 1) i (j : Int) m d l a0 a1 a2 x.f3 = _
    rw [casementref12_Right.l1, if_neg (by omega)]
  | succ e ih =>
    intro j he hj
    have hj' : j < x.f3.length := by omega
    rw [drop_all hj']
    have hw : wrap64 ((j : Int) + 1) = ((j + 1 : Nat) : Int) := by rw [wrap_id (by unfold I64; omega)]; omega
    obtain ⟨K, hK⟩ := ih (j + 1) (by omega) (by omega)
    refine ⟨K + 9, fun k hk => ?_⟩
    obtain ⟨k, rfl⟩ : ∃ q, k = q + 1 := ⟨k - 1, by omega⟩
    have hKK : casementref12_Right.l1 k i ((j + 1 : Nat) : Int) m d l a0 a1 a2 x.f3 = _ := hK k (by omega)
    show casementref12_Right.l1 (k + 1) i (j : Int) m d l a0 a1 a2 x.f3 = _
    rw [casementref12_Right.l1, if_pos (by omega), if_pos (by omega), rdI_at x.f3 j hj', hw, has_ref]
    rw [show insOk x.f3[j] = (decide (0 ≤ x.f3[j].f0 ∧ x.f3[j].f0 ≤ 29) && (has x.f3[j].f0 || decide (x.f3[j].f1 = 0))) from rfl]
    simp only [Option.bind_some, hKK]
    by_cases h1 : x.f3[j].f0 < 0
    · rw [if_pos h1, decide_eq_false (by omega)]
      simp
    · rw [if_neg h1]
      by_cases h2 : x.f3[j].f0 > 29
      · rw [if_pos h2, decide_eq_false (by omega)]
        simp
      · rw [if_neg h2, decide_eq_true (show 0 ≤ x.f3[j].f0 ∧ x.f3[j].f0 ≤ 29 by omega)]
        cases has x.f3[j].f0
        · simp only [Bool.false_eq_true, if_false, Bool.true_and, Bool.false_or]
          by_cases h3 : x.f3[j].f1 = 0
          · rw [if_pos h3, decide_eq_true h3]
            simp
          · rw [if_neg h3, decide_eq_false h3]
            simp
        · simp
theorem rright_l0 (hl : l.length ≤ 140737488351232) (hx : ∀ x ∈ l, okS42 x) : ∀ (e i : Nat), l.length - i = e → i ≤ l.length →
    Ev (fun k => casementref12_Right.l0 k (i : Int) m d l) ((l.drop i).all fnOk) := by
  intro e
  induction e with
  | zero =>
    intro i he hi
    rw [List.drop_of_length_le (by omega)]
    refine Ev.step (f := fun _ => some true) (fun k => ?_) (Ev.now _)
    show casementref12_Right.l0 (k + 1) (i : Int) m d l = _
    rw [casementref12_Right.l0, if_neg (by omega)]
  | succ e ih =>
    intro i he hi
    have hi' : i < l.length := by omega
    have hnext := ih (i + 1) (by omega) (by omega)
    rw [drop_all hi']
    have hw : wrap64 ((i : Int) + 1) = ((i + 1 : Nat) : Int) := by rw [wrap_id (by unfold I64; omega)]; omega
    obtain ⟨o0, o1, o2, o3, _, o4⟩ := hx _ (List.getElem_mem hi')
    have i0 := i64_of o0
    have i1 := i64_of o1
    have i2 := i64_of o2
    have hr : ∀ k (g : Bool), casementref12_Right.j2 (k + 1) (i : Int) g m d l l[i].f0 l[i].f1 l[i].f2 l[i].f3 = if g = true then some false else casementref12_Right.l1 k (i : Int) 0 m d l l[i].f0 l[i].f1 l[i].f2 l[i].f3 := fun k g => by rw [casementref12_Right.j2]
    have hl1 := rright_l1 (m := m) (d := d) (l := l) (i := (i : Int)) (x := l[i]) (a0 := l[i].f0) (a1 := l[i].f1) (a2 := l[i].f2) (by omega) (by rw [hw]; exact hnext) l[i].f3.length 0 (by omega) (by omega)
    rw [List.drop_zero] at hl1
    obtain ⟨K, hK⟩ := hl1
    refine ⟨K + 3, fun k hk => ?_⟩
    obtain ⟨k, rfl⟩ : ∃ q, k = q + 2 := ⟨k - 2, by omega⟩
    have hK' : casementref12_Right.l1 k (i : Int) 0 m d l l[i].f0 l[i].f1 l[i].f2 l[i].f3 = some (l[i].f3.all insOk && (l.drop (i + 1)).all fnOk) := hK k (by clear hw; omega)
    show casementref12_Right.l0 (k + 2) (i : Int) m d l = _
    rw [casementref12_Right.l0, if_pos (by clear hw; omega), if_pos (by clear hw; omega), rdT_at l i hi']
    clear hw
    simp only [hr]
    rw [hK', show fnOk l[i] = (fnBnd l[i] && l[i].f3.all insOk) from rfl]
    unfold I64 at i0 i1 i2
    by_cases hbd : fnBnd l[i] = true
    · rw [hbd]
      unfold fnBnd at hbd
      have hb := of_decide_eq_true hbd
      have hw2 : wrap64 (l[i].f0 + l[i].f2) = l[i].f0 + l[i].f2 := wrap_id (by unfold I64; omega)
      rw [hw2]
      clear hw2
      rw [if_neg (by omega), if_neg (by omega), if_neg (by omega), if_neg (by omega), if_neg (by omega), if_neg (by omega), if_neg (by omega), if_neg (by omega), if_neg (by simp; omega)]
      simp
    · have hf : fnBnd l[i] = false := by simpa using hbd
      rw [hf]
      unfold fnBnd at hf
      have hb := of_decide_eq_false hf
      simp only [Bool.false_and, if_true]
      by_cases c0 : l[i].f0 < 0
      · rw [if_pos c0]
      · rw [if_neg c0]
        by_cases c1 : l[i].f0 > 8
        · rw [if_pos c1]
        · rw [if_neg c1]
          by_cases c2 : l[i].f2 > 16
          · rw [if_pos c2]
            repeat' split
            all_goals rfl
          · by_cases c3 : l[i].f2 < 0
            · rw [if_pos c3]
              repeat' split
              all_goals rfl
            · have hw2 : wrap64 (l[i].f0 + l[i].f2) = l[i].f0 + l[i].f2 := wrap_id (by unfold I64; omega)
              rw [hw2]
              clear hw2
              repeat' split
              all_goals first | rfl | (exfalso; simp only [decide_eq_true_eq] at *; omega)
theorem rright_ok (h : Mok m d l) : Ev (fun k => casementref12_Right.f k m d l) (modOk m d l) := by
  obtain ⟨K, hK⟩ := rright_l0 (m := m) (d := d) h.hl h.hx l.length 0 (by omega) (by omega)
  rw [List.drop_zero] at hK
  refine ⟨K + 2, fun k hk => ?_⟩
  obtain ⟨k, rfl⟩ : ∃ q, k = q + 1 := ⟨k - 1, by omega⟩
  have hK' : casementref12_Right.l0 k 0 m d l = some (l.all fnOk) := hK k (by omega)
  have hj : ∀ g : Bool, casementref12_Right.j0 (k + 1) g m d l = if g = true then some false else some (l.all fnOk) := fun g => by rw [casementref12_Right.j0, hK']
  show casementref12_Right.f (k + 1) m d l = _
  unfold casementref12_Right.f modOk
  simp only [hj]
  by_cases hbd : modBnd m d l = true
  · rw [hbd]
    unfold modBnd at hbd
    have hb := of_decide_eq_true hbd
    rw [if_neg (by omega), if_neg (by omega), if_neg (by omega), if_neg (by omega), if_neg (by simp; omega)]
    simp
  · have hf : modBnd m d l = false := by simpa using hbd
    rw [hf]
    unfold modBnd at hf
    have hb := of_decide_eq_false hf
    simp only [Bool.false_and, if_true]
    repeat' split
    all_goals first | rfl | (exfalso; simp only [decide_eq_true_eq] at *; omega)
theorem renc_l1 {i : Int} {L : Nat} {F : List Int → List Int} {a0 a1 a2 : Int} (hL : L ≤ 9000000) (hf : ∀ acc : List Int, acc.length ≤ L → Ev (fun k => casementref12_Bytes.l0 k acc (wrap64 (i + 1)) m d l) (F acc)) {c : List S46} (hc : c.length ≤ 400) (ho : c.all insOk = true) (h64 : ∀ x ∈ c, okS46 x) : ∀ (e j : Nat) (acc : List Int), c.length - j = e → j ≤ c.length → acc.length + 11 * e ≤ L →
    Ev (fun k => casementref12_Bytes.l1 k acc i (j : Int) m d l a0 a1 a2 c) (F (acc ++ (c.drop j).flatMap insB)) := by
  intro e
  induction e with
  | zero =>
    intro j acc he hj ha
    rw [List.drop_of_length_le (by omega)]
    refine Ev.step (f := fun k => casementref12_Bytes.l0 k acc (wrap64 (i + 1)) m d l) (fun k => ?_) (by simpa using hf acc (by omega))
    show casementref12_Bytes.l1 (k + 1) acc i (j : Int) m d l a0 a1 a2 c = _
    rw [casementref12_Bytes.l1, if_neg (by omega)]
  | succ e ih =>
    intro j acc he hj ha
    have hj' : j < c.length := by omega
    have hin := List.all_eq_true.1 ho _ (List.getElem_mem hj')
    have hw : wrap64 ((j : Int) + 1) = ((j + 1 : Nat) : Int) := by rw [wrap_id (by unfold I64; omega)]; omega
    have h6 := i64_of (h64 _ (List.getElem_mem hj')).2
    have hlen := insB_len c[j]
    obtain ⟨K, hK⟩ := ih (j + 1) (acc ++ insB c[j]) (by omega) (by omega) (by simp only [List.length_append]; omega)
    rw [drop_flat hj', ← List.append_assoc]
    refine ⟨K + 40, fun k hk => ?_⟩
    obtain ⟨k, rfl⟩ : ∃ q, k = q + 1 := ⟨k - 1, by omega⟩
    show casementref12_Bytes.l1 (k + 1) acc i (j : Int) m d l a0 a1 a2 c = _
    rw [casementref12_Bytes.l1, if_pos (by omega), if_pos (by omega), if_pos (by omega)]
    simp only [Option.bind_some]
    rw [rdI_at c j hj', has_ref, hw]
    clear hw
    simp only [Option.bind_some]
    have h29 := ((ins_ok _).1 hin).1
    rw [show c[j].f0 % 256 = c[j].f0 by omega]
    have hKK := hK k (by omega)
    simp only at hKK
    unfold insB at hKK hlen
    cases hh : has c[j].f0 with
    | true =>
      rw [hh, if_pos rfl] at hKK hlen
      simp only [List.length_cons] at hlen
      rw [if_pos rfl, num_ref h6 (by omega)]
      simp only [Option.bind_some]
      rw [join_is (by omega) (by simp only [List.length_append, List.length_singleton]; omega) (by omega)]
      simp only [Option.bind_some]
      rw [List.append_assoc]
      unfold insB
      rw [hh, if_pos rfl]
      exact hKK
    | false =>
      rw [if_neg (by simp)]
      rw [hh, if_neg (by simp)] at hKK
      unfold insB
      rw [hh, if_neg (by simp)]
      exact hKK
theorem renc_l0 (hl : l.length ≤ 16) (ho : l.all fnOk = true) (h64 : ∀ x ∈ l, okS42 x) : ∀ (e i : Nat) (acc : List Int), l.length - i = e → i ≤ l.length → acc.length + 4405 * e ≤ 1000000 →
    Ev (fun k => casementref12_Bytes.l0 k acc (i : Int) m d l) (acc ++ (l.drop i).flatMap fnB) := by
  intro e
  induction e with
  | zero =>
    intro i acc he hi ha
    rw [List.drop_of_length_le (by omega)]
    refine Ev.step (f := fun _ => some acc) (fun k => ?_) (by simpa using Ev.now _)
    show casementref12_Bytes.l0 (k + 1) acc (i : Int) m d l = _
    rw [casementref12_Bytes.l0, if_neg (by omega)]
  | succ e ih =>
    intro i acc he hi ha
    have hi' : i < l.length := by omega
    obtain ⟨hb, hin⟩ := fn_bnd (List.all_eq_true.1 ho _ (List.getElem_mem hi'))
    have hx := h64 _ (List.getElem_mem hi')
    have hw : wrap64 ((i : Int) + 1) = ((i + 1 : Nat) : Int) := by rw [wrap_id (by unfold I64; omega)]; omega
    have hl1 := renc_l1 (m := m) (d := d) (l := l) (i := (i : Int)) (a0 := l[i].f0) (a1 := l[i].f1) (a2 := l[i].f2) (L := 1000000 - 4405 * e) (F := fun b => b ++ (l.drop (i + 1)).flatMap fnB) (by omega) (by
      intro b hb'
      rw [hw]
      exact ih (i + 1) b (by omega) (by omega) (by omega)) hb.2.2.2.2.2.2.2 hin hx.2.2.2.2.2 l[i].f3.length 0 (acc ++ [l[i].f0, l[i].f1, l[i].f2, (l[i].f3.length : Int) % 256, (l[i].f3.length : Int) / 256]) (by omega) (by omega) (by simp only [List.length_append, List.length_cons, List.length_nil]; omega)
    clear hw
    obtain ⟨K, hK⟩ := hl1
    rw [drop_flat hi', ← List.append_assoc]
    refine ⟨K + 5, fun k hk => ?_⟩
    obtain ⟨k, rfl⟩ : ∃ q, k = q + 1 := ⟨k - 1, by omega⟩
    show casementref12_Bytes.l0 (k + 1) acc (i : Int) m d l = _
    rw [casementref12_Bytes.l0, if_pos (by omega), if_pos (by omega)]
    simp only [Option.bind_some]
    rw [rdT_at l i hi', if_pos (by simp only [List.length_cons, List.length_nil]; omega), two_ref (by omega) (by omega)]
    simp only [Option.bind_some]
    rw [join_is (by simp) (by simp only [List.length_append, List.length_cons, List.length_nil]; omega) (by simp only [List.length_cons, List.length_nil]; omega)]
    simp only [Option.bind_some]
    rw [show l[i].f0 % 256 = l[i].f0 by omega, show l[i].f1 % 256 = l[i].f1 by omega, show l[i].f2 % 256 = l[i].f2 by omega]
    have hKK := hK k (by omega)
    rw [List.drop_zero] at hKK
    have e3 : acc ++ fnB l[i] = acc ++ [l[i].f0, l[i].f1, l[i].f2, (l[i].f3.length : Int) % 256, (l[i].f3.length : Int) / 256] ++ l[i].f3.flatMap insB := by
      unfold fnB
      rw [List.append_assoc]
    have e4 : acc ++ [l[i].f0, l[i].f1, l[i].f2] ++ [(l[i].f3.length : Int) % 256, (l[i].f3.length : Int) / 256] = acc ++ [l[i].f0, l[i].f1, l[i].f2, (l[i].f3.length : Int) % 256, (l[i].f3.length : Int) / 256] := by
      rw [List.append_assoc]
      rfl
    rw [e3, e4]
    exact hKK
theorem renc_ok (h : Mok m d l) : Ev (fun k => casementref12_Encode.f k m d l) (encR m d l) := by
  obtain ⟨K, hK⟩ := rright_ok h
  unfold encR
  by_cases hr : modOk m d l = true
  · rw [hr, if_pos rfl]
    rw [hr] at hK
    obtain ⟨hb, ho⟩ := mod_bnd hr
    obtain ⟨K2, hK2⟩ := renc_l0 (m := m) (d := d) hb.2.2.2.2 ho h.hx l.length 0 ([67, 83, 77, 1, m % 256, m / 256, (d.length : Int) % 256, (d.length : Int) / 256] ++ d ++ [(l.length : Int)]) (by omega) (by omega) (by simp only [List.length_append, List.length_cons, List.length_nil]; omega)
    rw [List.drop_zero] at hK2
    refine ⟨K + K2 + d.length + 10, fun k hk => ?_⟩
    have h1 := hK k (by omega)
    have h2 := hK2 k (by omega)
    simp only at h1 h2
    have hB : casementref12_Bytes.f k m d l = some (modB m d l) := by
      unfold casementref12_Bytes.f
      rw [two_ref (by omega) (by omega)]
      simp only [Option.bind_some]
      rw [join_is (by simp) (by simp) (by simp only [List.length_cons, List.length_nil]; omega)]
      simp only [Option.bind_some]
      rw [two_ref (by omega) (by omega)]
      simp only [Option.bind_some]
      rw [join_is (by simp) (by simp) (by simp only [List.length_cons, List.length_nil]; omega)]
      simp only [Option.bind_some]
      rw [join_is (by omega) (by simp) (by omega)]
      simp only [Option.bind_some]
      rw [if_pos (by simp only [List.length_append, List.length_cons, List.length_nil]; omega), show ((l.length : Int)) % 256 = (l.length : Int) by omega]
      exact h2
    show casementref12_Encode.f k m d l = _
    unfold casementref12_Encode.f fin
    rw [h1]
    simp only [Option.bind_some, if_true]
    rw [hB]
    simp only [Option.bind_some]
    split <;> rfl
  · have hf : modOk m d l = false := by simpa using hr
    rw [hf, if_neg (by simp)]
    rw [hf] at hK
    refine ⟨K, fun k hk => ?_⟩
    have h1 := hK k (by omega)
    simp only at h1
    show casementref12_Encode.f k m d l = _
    unfold casementref12_Encode.f
    rw [h1]
    simp
end
end Go.Proofs.Ytgngbbkaghmnpaa.Chk
