/- The bytes of a right module, as the program has them. No condition but numbers of 64 bits. -/
import Derived.Test.YtgngbbkaghmnpaaCD
import Derived.Test.YtgngbbkaghmnpaaQx7
import Derived.Laws.BitsLemmas
namespace Go.Proofs.Ytgngbbkaghmnpaa.Chk
open Go.RowKit Go.Proofs.Ytgngbbkaghmnpaa.Q Go.Proofs.YtgngbbkaghmnpaaW.PrintWords Go.Proofs.YtgngbbkaghmnpaaW.PrintLast Go.Proofs.YtgngbbkaghmnpaaW.PrintMore

theorem or128r : ∀ r : Fin 256, Go.bits .or .u8 (r.val : Int) 128 = (r.val : Int) % 128 + 128 := by decide +kernel
theorem or128 {u : Int} : Go.bits .or .u8 (u % 256) 128 = u % 128 + 128 := by
  have := or128r ⟨(u % 256).toNat, by omega⟩
  simp only at this
  rw [show (((u % 256).toNat : Nat) : Int) = u % 256 by omega] at this
  rw [this]
  omega
theorem wrap_u64 (n : Int) : IntKind.u64.wrap n = n % 18446744073709551616 := by simp [IntKind.wrap, IntKind.bits, IntKind.signed]
theorem xor_def (x y : Int) : Go.bits .xor .u64 x y = IntKind.u64.wrap ((BitVec.ofInt 64 x ^^^ BitVec.ofInt 64 y).toNat : Int) := rfl
theorem xor0 {x : Int} (h0 : 0 ≤ x) (h1 : x < 18446744073709551616) : Go.bits .xor .u64 x 0 = x := by
  obtain ⟨a, rfl⟩ := Int.eq_ofNat_of_zero_le h0
  rw [xor_def]
  have : (BitVec.ofInt 64 0) = 0#64 := by decide
  simp only [BitVec.ofInt_natCast, this, BitVec.xor_zero, BitVec.toNat_ofNat]
  rw [wrap_u64]
  omega
theorem xor1 {x : Int} (h0 : 0 ≤ x) (h1 : x < 18446744073709551616) : Go.bits .xor .u64 x 18446744073709551615 = 18446744073709551615 - x := by
  obtain ⟨a, rfl⟩ := Int.eq_ofNat_of_zero_le h0
  rw [xor_def]
  have : (BitVec.ofInt 64 18446744073709551615) = BitVec.allOnes 64 := by decide
  simp only [BitVec.ofInt_natCast, this, BitVec.xor_allOnes, BitVec.toNat_not, BitVec.toNat_ofNat]
  rw [wrap_u64]
  omega
/-- A number that is put so that it has few bits. -/
def zig (n : Int) : Int := if n < 0 then -(n + 1) * 2 + 1 else n * 2
/-- Groups of 7 bits. -/
def grp : Nat → Int → List Int
  | 0, u => [u]
  | e + 1, u => if u < 128 then [u] else (u % 128 + 128) :: grp e (u / 128)
def numB (n : Int) : List Int := grp 9 (zig n)
def insB (c : S46) : List Int := c.f0 :: (if has c.f0 then numB c.f1 else [])
def fnB (x : S42) : List Int := [x.f0, x.f1, x.f2, (x.f3.length : Int) % 256, (x.f3.length : Int) / 256] ++ x.f3.flatMap insB
def modB (m : Int) (d : List Int) (l : List S42) : List Int := [67, 83, 77, 1, m % 256, m / 256, (d.length : Int) % 256, (d.length : Int) / 256] ++ d ++ [(l.length : Int)] ++ l.flatMap fnB
theorem grp_len : ∀ (e : Nat) (u : Int), (grp e u).length ≤ e + 1 := by
  intro e
  induction e with
  | zero => intro u; simp [grp]
  | succ e ih =>
    intro u
    unfold grp
    split
    · simp
    · have := ih (u / 128)
      simp only [List.length_cons]
      omega
theorem insB_len (c : S46) : (insB c).length ≤ 11 := by
  unfold insB numB
  have := grp_len 9 (zig c.f1)
  split <;> simp only [List.length_cons, List.length_nil] <;> omega
theorem flat_len {α : Type} {g : α → List Int} {b : Nat} (h : ∀ x, (g x).length ≤ b) (l : List α) : (l.flatMap g).length ≤ b * l.length := by
  induction l with
  | nil => simp
  | cons x l ih =>
    simp only [List.flatMap_cons, List.length_append, List.length_cons, Nat.mul_add, Nat.mul_one]
    have := h x
    omega
theorem zig_ok {n : Int} (h : I64 n) : Go.bits .xor .u64 (IntKind.u64.wrap ((IntKind.u64.wrap n) * 2)) (IntKind.u64.wrap (n / 9223372036854775808)) = zig n ∧ 0 ≤ zig n ∧ zig n < 18446744073709551616 := by
  unfold I64 at h
  simp only [wrap_u64]
  by_cases c : n < 0
  · have e1 : (n / 9223372036854775808) % 18446744073709551616 = 18446744073709551615 := by omega
    rw [e1, xor1 (by omega) (by omega)]
    unfold zig
    rw [if_pos c]
    omega
  · have e1 : (n / 9223372036854775808) % 18446744073709551616 = 0 := by omega
    rw [e1, xor0 (by omega) (by omega)]
    unfold zig
    rw [if_neg c]
    omega
theorem num_loop : ∀ (e k : Nat) (u : Int) (acc : List Int), 0 ≤ u → u < 128 ^ (e + 1) → e + 1 ≤ k → acc.length + e < 1000000000 → module_appendNumber.l0 k acc u = some (acc ++ grp e u) := by
  intro e
  induction e with
  | zero =>
    intro k u acc h0 h1 hk ha
    obtain ⟨k, rfl⟩ : ∃ q, k = q + 1 := ⟨k - 1, by omega⟩
    rw [module_appendNumber.l0, if_neg (by omega), if_pos (by omega), grp, Int.emod_eq_of_lt h0 (by omega)]
  | succ e ih =>
    intro k u acc h0 h1 hk ha
    obtain ⟨k, rfl⟩ : ∃ q, k = q + 1 := ⟨k - 1, by omega⟩
    rw [module_appendNumber.l0]
    by_cases c : u < 128
    · rw [if_neg (by omega), if_pos (by omega), grp, if_pos c, Int.emod_eq_of_lt h0 (by omega)]
    · rw [if_pos (by omega), if_pos (by omega), or128, ih k (u / 128) _ (by omega) (by rw [Int.pow_succ] at h1; omega) (by omega) (by simp only [List.length_append, List.length_singleton]; omega), grp, if_neg c, List.append_assoc]
      rfl
theorem num_ok {n : Int} (h : I64 n) {k : Nat} (hk : 10 ≤ k) {acc : List Int} (ha : acc.length < 100000000) : module_appendNumber.f k acc n = some (acc ++ numB n) := by
  obtain ⟨h1, h2, h3⟩ := zig_ok h
  unfold module_appendNumber.f
  rw [h1]
  exact num_loop 9 k (zig n) acc h2 (by omega) (by omega) (by omega)
def fin (b : List Int) : List Int × Int := if (b.length : Int) > 4096 then ([], 2) else (b, 0)
theorem drop_flat {α : Type} {g : α → List Int} {l : List α} {i : Nat} (h : i < l.length) : (l.drop i).flatMap g = g l[i] ++ (l.drop (i + 1)).flatMap g := by
  rw [List.drop_eq_getElem_cons h, List.flatMap_cons]
theorem enc_l1 {l : List S42} {n j : Int} {L : Nat} {F : List Int → List Int × Int} (hL : L ≤ 10000000) (hf : ∀ acc : List Int, acc.length ≤ L → Ev (fun k => module_Encode.l0 k acc l n (wrap64 (j + 1))) (F acc)) {c : List S46} (hc : c.length ≤ 400) (ho : c.all insOk = true) (h64 : ∀ x ∈ c, okS46 x) : ∀ (e i : Nat) (acc : List Int), c.length - i = e → i ≤ c.length → acc.length + 11 * e ≤ L →
    Ev (fun k => module_Encode.l1 k acc l n j c (c.length : Int) (i : Int)) (F (acc ++ (c.drop i).flatMap insB)) := by
  intro e
  induction e with
  | zero =>
    intro i acc he hi ha
    rw [List.drop_of_length_le (by omega)]
    refine Ev.step (f := fun k => module_Encode.l0 k acc l n (wrap64 (j + 1))) (fun k => ?_) (by simpa using hf acc (by omega))
    show module_Encode.l1 (k + 1) acc l n j c (c.length : Int) (i : Int) = _
    rw [module_Encode.l1, if_neg (by omega)]
  | succ e ih =>
    intro i acc he hi ha
    have hi' : i < c.length := by omega
    have hin := List.all_eq_true.1 ho _ (List.getElem_mem hi')
    have hw : wrap64 ((i : Int) + 1) = ((i + 1 : Nat) : Int) := by rw [wrap_id (by unfold I64; omega)]; omega
    have h6 := i64_of (h64 _ (List.getElem_mem hi')).2
    have hlen := insB_len c[i]
    obtain ⟨K, hK⟩ := ih (i + 1) (acc ++ insB c[i]) (by omega) (by omega) (by simp only [List.length_append]; omega)
    rw [drop_flat hi', ← List.append_assoc]
    refine ⟨K + 20, fun k hk => ?_⟩
    obtain ⟨k, rfl⟩ : ∃ q, k = q + 1 := ⟨k - 1, by omega⟩
    show module_Encode.l1 (k + 1) acc l n j c (c.length : Int) (i : Int) = _
    rw [module_Encode.l1, if_pos (by omega), if_pos (by omega), if_pos (by omega), if_pos (by omega)]
    simp only [Option.bind_some]
    rw [rdI_at c i hi', has_f _ (by omega), hw]
    simp only [Option.bind_some]
    have h29 : 0 ≤ c[i].f0 ∧ c[i].f0 ≤ 29 := by
      unfold insOk at hin
      simp only [Bool.and_eq_true, decide_eq_true_eq] at hin
      exact hin.1
    rw [show c[i].f0 % 256 = c[i].f0 by omega]
    have hKK := hK k (by omega)
    simp only at hKK
    unfold insB at hKK
    cases hh : has c[i].f0 with
    | true =>
      rw [if_pos rfl, num_ok h6 (by omega) (by simp only [List.length_append, List.length_singleton]; omega)]
      simp only [Option.bind_some]
      rw [hh, if_pos rfl] at hKK
      rw [List.append_assoc]
      unfold insB
      rw [hh, if_pos rfl]
      exact hKK
    | false =>
      rw [if_neg (by simp)]
      rw [hh, if_neg (by simp)] at hKK
      unfold insB
      rw [hh, if_neg (by simp)]
      exact hKK
theorem fnB_len {x : S42} (h : x.f3.length ≤ 400) : (fnB x).length ≤ 4405 := by
  have := flat_len insB_len x.f3
  unfold fnB
  simp only [List.length_append, List.length_cons, List.length_nil]
  omega
theorem fn_bnd {x : S42} (h : fnOk x = true) : (0 ≤ x.f0 ∧ x.f0 ≤ 8 ∧ 0 ≤ x.f1 ∧ x.f1 ≤ 1 ∧ 0 ≤ x.f2 ∧ x.f2 ≤ 16 - x.f0 ∧ 1 ≤ x.f3.length ∧ x.f3.length ≤ 400) ∧ x.f3.all insOk = true := by
  unfold fnOk fnBnd at h
  rw [Bool.and_eq_true] at h
  exact ⟨of_decide_eq_true h.1, h.2⟩
theorem enc_l0 {l : List S42} (hl : l.length ≤ 16) (ho : l.all fnOk = true) (h64 : ∀ x ∈ l, okS42 x) : ∀ (e i : Nat) (acc : List Int), l.length - i = e → i ≤ l.length → acc.length + 4405 * e ≤ 1000000 →
    Ev (fun k => module_Encode.l0 k acc l (l.length : Int) (i : Int)) (fin (acc ++ (l.drop i).flatMap fnB)) := by
  intro e
  induction e with
  | zero =>
    intro i acc he hi ha
    rw [List.drop_of_length_le (by omega)]
    refine Ev.step (f := fun _ => some (fin acc)) (fun k => ?_) (by simpa using Ev.now _)
    show module_Encode.l0 (k + 1) acc l (l.length : Int) (i : Int) = _
    rw [module_Encode.l0, if_neg (by omega)]
    unfold fin
    split <;> rfl
  | succ e ih =>
    intro i acc he hi ha
    have hi' : i < l.length := by omega
    obtain ⟨hb, hin⟩ := fn_bnd (List.all_eq_true.1 ho _ (List.getElem_mem hi'))
    have hx := h64 _ (List.getElem_mem hi')
    have hw : wrap64 ((i : Int) + 1) = ((i + 1 : Nat) : Int) := by rw [wrap_id (by unfold I64; omega)]; omega
    have hl1 := enc_l1 (l := l) (n := (l.length : Int)) (j := (i : Int)) (L := 1000000 - 4405 * e) (F := fun b => fin (b ++ (l.drop (i + 1)).flatMap fnB)) (by omega) (by
      intro b hb'
      rw [hw]
      exact ih (i + 1) b (by omega) (by omega) (by omega)) hb.2.2.2.2.2.2.2 hin hx.2.2.2.2.2 l[i].f3.length 0 (acc ++ [l[i].f0, l[i].f1, l[i].f2, (l[i].f3.length : Int) % 256, (l[i].f3.length : Int) / 256]) (by omega) (by omega) (by simp only [List.length_append, List.length_cons, List.length_nil]; omega)
    obtain ⟨K, hK⟩ := hl1
    rw [drop_flat hi', ← List.append_assoc]
    refine ⟨K + 2, fun k hk => ?_⟩
    obtain ⟨k, rfl⟩ : ∃ q, k = q + 1 := ⟨k - 1, by omega⟩
    show module_Encode.l0 (k + 1) acc l (l.length : Int) (i : Int) = _
    rw [module_Encode.l0, if_pos (by omega), if_pos (by omega), if_pos (by omega)]
    simp only [Option.bind_some]
    rw [rdT_at l i hi', if_pos (by simp only [List.length_cons, List.length_nil]; omega)]
    rw [show l[i].f0 % 256 = l[i].f0 by omega, show l[i].f1 % 256 = l[i].f1 by omega, show l[i].f2 % 256 = l[i].f2 by omega, show ((l[i].f3.length : Int) / 256) % 256 = (l[i].f3.length : Int) / 256 by omega]
    have hKK := hK k (by omega)
    rw [List.drop_zero] at hKK
    have e3 : acc ++ fnB l[i] = acc ++ [l[i].f0, l[i].f1, l[i].f2, (l[i].f3.length : Int) % 256, (l[i].f3.length : Int) / 256] ++ l[i].f3.flatMap insB := by
      unfold fnB
      rw [List.append_assoc]
    rw [e3]
    exact hKK
/-- What the bytes of a module are. -/
def encR (m : Int) (d : List Int) (l : List S42) : List Int × Int := if modOk m d l then fin (modB m d l) else ([], 1)
theorem mod_bnd {m : Int} {d : List Int} {l : List S42} (h : modOk m d l = true) : (0 ≤ m ∧ m ≤ 1024 ∧ (d.length : Int) ≤ m ∧ 1 ≤ l.length ∧ l.length ≤ 16) ∧ l.all fnOk = true := by
  unfold modOk modBnd at h
  rw [Bool.and_eq_true] at h
  exact ⟨of_decide_eq_true h.1, h.2⟩
theorem enc_ok {m : Int} {d : List Int} {l : List S42} (h : Mok m d l) : Ev (fun k => module_Encode.f k m d l) (encR m d l) := by
  obtain ⟨K, hK⟩ := right_ok h
  unfold encR
  by_cases hr : modOk m d l = true
  · rw [hr, if_pos rfl]
    rw [hr] at hK
    obtain ⟨hb, ho⟩ := mod_bnd hr
    obtain ⟨K2, hK2⟩ := enc_l0 hb.2.2.2.2 ho h.hx l.length 0 ([67, 83, 77, 1, m % 256, m / 256, (d.length : Int) % 256, (d.length : Int) / 256] ++ d ++ [(l.length : Int)]) (by omega) (by omega) (by simp only [List.length_append, List.length_cons, List.length_nil]; omega)
    rw [List.drop_zero] at hK2
    refine ⟨K + K2, fun k hk => ?_⟩
    have h1 := hK k (by omega)
    have h2 := hK2 k (by omega)
    show module_Encode.f k m d l = _
    unfold module_Encode.f
    simp only at h1
    rw [h1]
    simp only [Option.bind_some, if_true]
    rw [if_pos (by simp only [List.length_cons, List.length_nil]; omega), if_pos (by simp only [List.length_append, List.length_cons, List.length_nil]; omega)]
    rw [show (m / 256) % 256 = m / 256 by omega, show ((d.length : Int) / 256) % 256 = (d.length : Int) / 256 by omega, show ((l.length : Int)) % 256 = (l.length : Int) by omega]
    exact h2
  · have hf : modOk m d l = false := by simpa using hr
    rw [hf, if_neg (by simp)]
    rw [hf] at hK
    refine ⟨K, fun k hk => ?_⟩
    have h1 := hK k (by omega)
    show module_Encode.f k m d l = _
    unfold module_Encode.f
    simp only at h1
    rw [h1]
    simp
end Go.Proofs.Ytgngbbkaghmnpaa.Chk
