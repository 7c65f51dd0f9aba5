/- What is decoded and encoded, told whole; the plain comparisons. Condition: numbers of 64 bits, bytes. -/
import Derived.Test.YtbdkphjpdoajpaaMT
import Derived.Test.YtbdkphjpdoajpaaQx13
import Derived.Test.YtbdkphjpdoajpaaQx20
namespace Go.Proofs.Ytbdkphjpdoajpaa.Mdl
open Go.RowKit Go.Proofs.Ytbdkphjpdoajpaa.Q Go.Proofs.YtbdkphjpdoajpaaW.PrintWords Go.Proofs.YtbdkphjpdoajpaaW.PrintLast

theorem alive_ok : casementlaw12_alive.f 300 = some true := by kernel_rfl
theorem alive_k {k : Nat} (hk : 300 ≤ k) : casementlaw12_alive.f k = some true := at_rounds casementlaw12_alive.mono hk alive_ok
theorem grp_byte : ∀ (e : Nat) (u : Int), 0 ≤ u → u < 128 ^ (e + 1) → ∀ v ∈ grp e u, 0 ≤ v ∧ v ≤ 255 := by
  intro e
  induction e with
  | zero =>
    intro u h0 h1 v hv
    unfold grp at hv
    rw [List.mem_singleton] at hv
    omega
  | succ e ih =>
    intro u h0 h1 v hv
    rw [grp] at hv
    split at hv
    · rw [List.mem_singleton] at hv
      omega
    · rw [List.mem_cons] at hv
      rcases hv with hv | hv
      · omega
      · exact ih (u / 128) (by omega) (by rw [Int.pow_succ] at h1; omega) v hv
theorem num_byte {n : Int} (h : I64 n) : ∀ v ∈ numB n, 0 ≤ v ∧ v ≤ 255 := by
  obtain ⟨_, h1, h2⟩ := zig_ok h
  exact grp_byte 9 (zig n) h1 (by omega)
theorem ins_byte {c : S41} (h : goodI c) : ∀ v ∈ insB c, 0 ≤ v ∧ v ≤ 255 := by
  intro v hv
  have h1 := (ins_ok c).1 h.1
  unfold insB at hv
  rw [List.mem_cons] at hv
  rcases hv with hv | hv
  · omega
  · split at hv
    · exact num_byte h.2 v hv
    · simp at hv
theorem fn_byte {x : S44} (h : goodF x) : ∀ v ∈ fnB x, 0 ≤ v ∧ v ≤ 255 := by
  intro v hv
  obtain ⟨h1, h2⟩ := (fn_ok x).1 h.1
  unfold fnB at hv
  simp only [List.mem_append, List.mem_cons, List.not_mem_nil, or_false, List.mem_flatMap] at hv
  rcases hv with (hv | hv | hv | hv | hv) | ⟨c, hc, hv⟩
  · omega
  · omega
  · omega
  · omega
  · omega
  · exact ins_byte ⟨h2 c hc, h.2 c hc⟩ v hv
theorem mod_byte {m : Int} {d : List Int} {l : List S44} (h : goodM m d l) : ∀ v ∈ modB m d l, 0 ≤ v ∧ v ≤ 255 := by
  intro v hv
  obtain ⟨h1, h2⟩ := (mod_ok m d l).1 h.1
  unfold modB at hv
  simp only [List.mem_append, List.mem_cons, List.not_mem_nil, or_false, List.mem_flatMap] at hv
  rcases hv with (((hv | hv | hv | hv | hv | hv | hv | hv) | hv) | hv) | ⟨x, hx, hv⟩
  · omega
  · omega
  · omega
  · omega
  · omega
  · omega
  · omega
  · omega
  · exact h.2.1 v hv
  · omega
  · exact fn_byte ⟨h2 x hx, h.2.2 x hx⟩ v hv
theorem mod_len (m : Int) (d : List Int) (l : List S44) : 0 < (modB m d l).length := by
  unfold modB
  simp only [List.length_append, List.length_cons, List.length_nil]
  omega
theorem byt_mod {m : Int} {d : List Int} {l : List S44} (h : goodM m d l) (hl : (modB m d l).length ≤ 4096) : Byt (modB m d l) := ⟨mod_byte h, by omega⟩
/-- What comes of a module, if it has bytes. -/
theorem enc_fine {m : Int} {d : List Int} {l : List S44} (hx : ∀ x ∈ l, okS44 x) (hd : ∀ v ∈ d, 0 ≤ v ∧ v ≤ 255) (h : (encR m d l).2 = 0) :
    encR m d l = (modB m d l, 0) ∧ goodM m d l ∧ (modB m d l).length ≤ 4096 := by
  unfold encR at h ⊢
  split at h
  · rename_i hr
    rw [if_pos hr]
    unfold fin at h ⊢
    split at h
    · simp at h
    · rename_i hl
      rw [if_neg hl]
      exact ⟨rfl, ⟨hr, hd, fun x hx' c hc => i64_of ((hx x hx').2.2.2.2.2 c hc).2⟩, by omega⟩
  · simp at h
theorem enc_good {m : Int} {d : List Int} {l : List S44} (h : goodM m d l) (hl : (modB m d l).length ≤ 4096) : encR m d l = (modB m d l, 0) := by
  unfold encR fin
  rw [if_pos h.1, if_neg (by omega)]
theorem mok_good {m : Int} {d : List Int} {l : List S44} (h : goodM m d l) : Mok m d l := by
  obtain ⟨h1, h2⟩ := (mod_ok m d l).1 h.1
  refine ⟨by unfold I64; omega, by omega, by omega, ?_⟩
  intro x hx
  obtain ⟨h3, h4⟩ := (fn_ok x).1 (h2 x hx)
  have w : ∀ v : Int, I64 v → (Lit.int .i64 v).wf = true := by
    intro v hv
    unfold I64 at hv
    simp only [Lit.wf, IntKind.min, IntKind.max, IntKind.signed, IntKind.bits, Bool.and_eq_true, decide_eq_true_eq, if_true]
    omega
  refine ⟨w _ (by unfold I64; omega), w _ (by unfold I64; omega), w _ (by unfold I64; omega), ?_, by omega, ?_⟩
  · have : maxLen = maxLen := rfl
    have h400 : 400 ≤ maxLen := by decide
    omega
  · intro c hc
    have h5 := (ins_ok c).1 (h4 c hc)
    exact ⟨w _ (by unfold I64; omega), w _ (h.2.2 x hx c hc)⟩
/-- What all bytes are. -/
theorem dec_some {b : List Int} (hB : Byt b) (hl : b.length ≤ 4096) {q : Nat} {v : M} (h : go decT b 0 = (q, some v)) : goodM v.1 v.2.1 v.2.2 ∧ b = modB v.1 v.2.1 v.2.2 := (acc_dec b v).1 (go_some h)
theorem dec_mod {m : Int} {d : List Int} {l : List S44} (h : goodM m d l) : acc decT (modB m d l) (m, d, l) := (acc_dec _ _).2 ⟨h, rfl⟩
/-- Bytes are compared one by one. -/
theorem same_l0 {a b : List Int} (hl : a.length = b.length) (hn : a.length ≤ 1000000000000) : ∀ (e k i : Nat), a.length - i = e → i ≤ a.length → e + 1 ≤ k →
    casementref01_SameBytes.l0 k a b (i : Int) = some (decide (a.drop i = b.drop i)) := by
  intro e
  induction e with
  | zero =>
    intro k i he hi hk
    obtain ⟨k, rfl⟩ : ∃ q, k = q + 1 := ⟨k - 1, by omega⟩
    rw [casementref01_SameBytes.l0, if_neg (by omega), List.drop_of_length_le (by omega), List.drop_of_length_le (by omega)]
    rfl
  | succ e ih =>
    intro k i he hi hk
    obtain ⟨k, rfl⟩ : ∃ q, k = q + 1 := ⟨k - 1, by omega⟩
    have ha : i < a.length := by omega
    have hb : i < b.length := by omega
    have hw : wrap64 ((i : Int) + 1) = ((i + 1 : Nat) : Int) := by
      rw [wrap_id (by unfold I64; omega)]
      omega
    rw [casementref01_SameBytes.l0, if_pos (by omega), if_pos (by omega), if_pos (by omega), rd_at ha, rd_at hb, hw]
    clear hw
    rw [List.drop_eq_getElem_cons ha, List.drop_eq_getElem_cons hb]
    by_cases c : a[i] = b[i]
    · rw [if_pos c, ih k (i + 1) (by omega) (by omega) (by omega)]
      congr 1
      rw [decide_eq_decide, c]
      exact ⟨fun h => by rw [h], fun h => (List.cons.inj h).2⟩
    · rw [if_neg c, decide_eq_false]
      intro h
      exact c (List.cons.inj h).1
theorem same_bytes {a b : List Int} (hn : a.length ≤ 1000000000000) {k : Nat} (hk : a.length + 1 ≤ k) : casementref01_SameBytes.f k a b = some (decide (a = b)) := by
  unfold casementref01_SameBytes.f
  by_cases c : (a.length : Int) = (b.length : Int)
  · rw [if_pos c]
    exact same_l0 (by omega) hn a.length k 0 (by omega) (by omega) hk
  · rw [if_neg c, decide_eq_false]
    rintro rfl
    exact c rfl
theorem and_small {x : Int} {m : Nat} (hm : m ≤ 100000) : ∃ v : Nat, Go.bits .and .i64 x (m : Int) = (v : Int) ∧ v ≤ m := by
  refine ⟨(BitVec.ofInt 64 x &&& BitVec.ofInt 64 (m : Int)).toNat, ?_, ?_⟩
  · have h : (BitVec.ofInt 64 x &&& BitVec.ofInt 64 (m : Int)).toNat ≤ m := by
      rw [BitVec.toNat_and, BitVec.ofInt_natCast, BitVec.toNat_ofNat, Nat.mod_eq_of_lt (by omega)]
      exact Nat.and_le_right
    have e : Go.bits .and .i64 x (m : Int) = IntKind.i64.wrap ((BitVec.ofInt 64 x &&& BitVec.ofInt 64 (m : Int)).toNat : Int) := rfl
    rw [e, IntKind.wrap_i64]
    omega
  · rw [BitVec.toNat_and, BitVec.ofInt_natCast, BitVec.toNat_ofNat, Nat.mod_eq_of_lt (by omega)]
    exact Nat.and_le_right
/-- A place of bytes, as the laws reckon it. -/
theorem place_is (x : Int) {n : Nat} (hn : 0 < n) : ∃ i : Nat, Int.tmod (Go.bits .and .i64 x 4095) (n : Int) = (i : Int) ∧ i < n := by
  obtain ⟨v, hv, _⟩ := and_small (x := x) (m := 4095) (by omega)
  refine ⟨v % n, ?_, Nat.mod_lt _ hn⟩
  rw [show Go.bits .and .i64 x 4095 = (v : Int) from hv, Int.tmod_eq_emod_of_nonneg (by omega)]
  rfl
theorem u8_of {a : Int} (h : (Lit.int .u8 a).wf = true) : 0 ≤ a ∧ a ≤ 255 := by
  simp only [Lit.wf, IntKind.min, IntKind.max, IntKind.signed, IntKind.bits, Bool.and_eq_true, decide_eq_true_eq, if_true] at h
  simp at h
  omega
end Go.Proofs.Ytbdkphjpdoajpaa.Mdl
