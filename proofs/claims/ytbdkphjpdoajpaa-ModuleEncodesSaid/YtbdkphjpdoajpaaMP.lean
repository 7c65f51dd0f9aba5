/- Readers of bytes as trees: what they read, and where they stop. No condition. -/
import Derived.Test.YtbdkphjpdoajpaaMF
namespace Go.Proofs.Ytbdkphjpdoajpaa.Mdl

/-- A reader of bytes: what it answers, or the bounds of the next byte and how it goes on behind it. -/
inductive P (α : Type) where
  | ret (a : α) : P α
  | need (lo hi : Int) (k : Int → P α) : P α
section
variable {α β : Type}
def P.bind : P α → (α → P β) → P β
  | .ret a, f => f a
  | .need lo hi k, f => .need lo hi (fun x => (k x).bind f)
def run : P α → List Int → Nat → Nat × Option (α × List Int)
  | .ret a, xs, p => (p, some (a, xs))
  | .need _ _ _, [], p => (p, none)
  | .need lo hi k, x :: xs, p => if lo ≤ x ∧ x ≤ hi then run (k x) xs (p + 1) else (p, none)
/-- All bytes are read, and this is the answer. -/
def acc : P α → List Int → α → Prop
  | .ret a, [], b => a = b
  | .ret _, _ :: _, _ => False
  | .need _ _ _, [], _ => False
  | .need lo hi k, x :: xs, b => (lo ≤ x ∧ x ≤ hi) ∧ acc (k x) xs b
theorem run_bind (t : P α) (f : α → P β) : ∀ (xs : List Int) (p : Nat), run (t.bind f) xs p = match run t xs p with
    | (q, some (a, ys)) => run (f a) ys q
    | (q, none) => (q, none) := by
  induction t with
  | ret a => intro xs p; rfl
  | need lo hi k ih =>
    intro xs p
    cases xs with
    | nil => rfl
    | cons x xs =>
      show (if lo ≤ x ∧ x ≤ hi then run ((k x).bind f) xs (p + 1) else (p, none)) = _
      by_cases c : lo ≤ x ∧ x ≤ hi
      · rw [if_pos c, ih x xs (p + 1)]
        simp only [run]
        rw [if_pos c]
      · rw [if_neg c]
        simp only [run]
        rw [if_neg c]
theorem run_some : ∀ (t : P α) (xs : List Int) (p : Nat) {q : Nat} {a : α} {ys : List Int}, run t xs p = (q, some (a, ys)) → ∃ zs, xs = zs ++ ys ∧ q = p + zs.length ∧ acc t zs a := by
  intro t
  induction t with
  | ret a =>
    intro xs p q b ys h
    simp only [run, Prod.mk.injEq, Option.some.injEq] at h
    obtain ⟨h1, h2, h3⟩ := h
    exact ⟨[], by simp [h3], by simp [h1], h2⟩
  | need lo hi k ih =>
    intro xs p q b ys h
    cases xs with
    | nil => simp [run] at h
    | cons x xs =>
      simp only [run] at h
      by_cases c : lo ≤ x ∧ x ≤ hi
      · rw [if_pos c] at h
        obtain ⟨zs, h1, h2, h3⟩ := ih x xs (p + 1) h
        exact ⟨x :: zs, by rw [h1]; rfl, by rw [h2, List.length_cons]; omega, ⟨c, h3⟩⟩
      · rw [if_neg c] at h
        simp at h
theorem run_none : ∀ (t : P α) (xs : List Int) (p : Nat) {q : Nat}, run t xs p = (q, none) → p ≤ q ∧ q ≤ p + xs.length := by
  intro t
  induction t with
  | ret a => intro xs p q h; simp [run] at h
  | need lo hi k ih =>
    intro xs p q h
    cases xs with
    | nil =>
      simp only [run, Prod.mk.injEq] at h
      simp only [List.length_nil]
      omega
    | cons x xs =>
      simp only [run] at h
      simp only [List.length_cons]
      by_cases c : lo ≤ x ∧ x ≤ hi
      · rw [if_pos c] at h
        have := ih x xs (p + 1) h
        omega
      · rw [if_neg c] at h
        simp only [Prod.mk.injEq] at h
        omega
theorem run_acc : ∀ (t : P α) (zs : List Int) {a : α} (ys : List Int) (p : Nat), acc t zs a → run t (zs ++ ys) p = (p + zs.length, some (a, ys)) := by
  intro t
  induction t with
  | ret a =>
    intro zs b ys p h
    cases zs with
    | nil =>
      have h' : a = b := h
      simp [run, h']
    | cons z zs => exact h.elim
  | need lo hi k ih =>
    intro zs b ys p h
    cases zs with
    | nil => exact h.elim
    | cons z zs =>
      obtain ⟨h1, h2⟩ := h
      show (if lo ≤ z ∧ z ≤ hi then run (k z) (zs ++ ys) (p + 1) else (p, none)) = _
      rw [if_pos h1, ih z zs ys (p + 1) h2, List.length_cons]
      congr 1
      omega
theorem acc_bind : ∀ (t : P α) (f : α → P β) (xs : List Int) (b : β), acc (t.bind f) xs b ↔ ∃ ys zs a, xs = ys ++ zs ∧ acc t ys a ∧ acc (f a) zs b := by
  intro t f
  induction t with
  | ret a =>
    intro xs b
    constructor
    · intro h; exact ⟨[], xs, a, rfl, rfl, h⟩
    · rintro ⟨ys, zs, a', rfl, h1, h2⟩
      cases ys with
      | nil =>
        have h1' : a = a' := h1
        subst h1'
        exact h2
      | cons y ys => exact h1.elim
  | need lo hi k ih =>
    intro xs b
    cases xs with
    | nil =>
      constructor
      · intro h; exact h.elim
      · rintro ⟨ys, zs, a', h, h1, h2⟩
        cases ys with
        | nil => exact h1.elim
        | cons y ys => simp at h
    | cons x xs =>
      constructor
      · rintro ⟨h1, h2⟩
        obtain ⟨ys, zs, a, h3, h4, h5⟩ := (ih x xs b).1 h2
        exact ⟨x :: ys, zs, a, by rw [h3]; rfl, ⟨h1, h4⟩, h5⟩
      · rintro ⟨ys, zs, a, h, h1, h2⟩
        cases ys with
        | nil => exact h1.elim
        | cons y ys =>
          simp only [List.cons_append, List.cons.injEq] at h
          obtain ⟨rfl, rfl⟩ := h
          exact ⟨h1.1, (ih x _ b).2 ⟨ys, zs, a, rfl, h1.2, h2⟩⟩
/-- All bytes read, or the place that can't be. -/
def go (t : P α) (xs : List Int) (p : Nat) : Nat × Option α := match run t xs p with
  | (q, some (a, [])) => (q, some a)
  | (q, some (_, _ :: _)) => (q, none)
  | (q, none) => (q, none)
theorem go_acc {t : P α} {xs : List Int} {a : α} (p : Nat) (h : acc t xs a) : go t xs p = (p + xs.length, some a) := by
  have := run_acc t xs [] p h
  rw [List.append_nil] at this
  unfold go
  rw [this]
theorem go_some {t : P α} {xs : List Int} {p q : Nat} {a : α} (h : go t xs p = (q, some a)) : acc t xs a := by
  unfold go at h
  split at h
  · rename_i q' a' hr
    simp only [Prod.mk.injEq, Option.some.injEq] at h
    obtain ⟨zs, h1, h2, h3⟩ := run_some t xs p hr
    rw [List.append_nil] at h1
    rw [h1, ← h.2]
    exact h3
  · simp at h
  · simp at h
theorem go_none {t : P α} {xs : List Int} {p q : Nat} (h : go t xs p = (q, none)) : p ≤ q ∧ q ≤ p + xs.length := by
  unfold go at h
  split at h
  · simp at h
  · rename_i q' a' y ys hr
    simp only [Prod.mk.injEq] at h
    obtain ⟨zs, h1, h2, h3⟩ := run_some t xs p hr
    rw [h1]
    simp only [List.length_append, List.length_cons]
    omega
  · rename_i q' hr
    simp only [Prod.mk.injEq] at h
    have := run_none t xs p hr
    omega
theorem go_need (lo hi : Int) (k : Int → P α) (x : Int) (xs : List Int) (p : Nat) : go (.need lo hi k) (x :: xs) p = if lo ≤ x ∧ x ≤ hi then go (k x) xs (p + 1) else (p, none) := by
  unfold go
  show (match (if lo ≤ x ∧ x ≤ hi then run (k x) xs (p + 1) else (p, none)) with
    | (q, some (a, [])) => (q, some a)
    | (q, some (_, _ :: _)) => (q, none)
    | (q, none) => (q, none)) = _
  by_cases c : lo ≤ x ∧ x ≤ hi
  · rw [if_pos c, if_pos c]
  · rw [if_neg c, if_neg c]
theorem go_take : ∀ (t : P α) (xs : List Int) {a : α} (n p : Nat), acc t xs a → n < xs.length → go t (xs.take n) p = (p + n, none) := by
  intro t
  induction t with
  | ret a =>
    intro xs b n p h hn
    cases xs with
    | nil => simp at hn
    | cons x xs => exact h.elim
  | need lo hi k ih =>
    intro xs b n p h hn
    cases xs with
    | nil => simp at hn
    | cons x xs =>
      cases n with
      | zero => rfl
      | succ n =>
        rw [List.take_succ_cons, go_need, if_pos h.1, ih x xs n (p + 1) h.2 (by simpa using hn)]
        congr 1
        omega
theorem go_more : ∀ (t : P α) (xs : List Int) {a : α} (y : Int) (p : Nat), acc t xs a → go t (xs ++ [y]) p = (p + xs.length, none) := by
  intro t xs a y p h
  unfold go
  rw [run_acc t xs [y] p h]
theorem go_turn : ∀ (t : P α) (xs : List Int) {a : α} (i p q : Nat) (y : Int), acc t xs a → i < xs.length → go t (xs.set i y) p = (q, none) → p + i ≤ q := by
  intro t
  induction t with
  | ret a =>
    intro xs b i p q y h hn
    cases xs with
    | nil => simp at hn
    | cons x xs => exact h.elim
  | need lo hi k ih =>
    intro xs b i p q y h hn hg
    cases xs with
    | nil => simp at hn
    | cons x xs =>
      cases i with
      | zero => have := (go_none hg).1; omega
      | succ i =>
        rw [List.set_cons_succ, go_need, if_pos h.1] at hg
        have := ih x xs i (p + 1) q y h.2 (by simpa using hn) hg
        omega
/-- As often as said, one behind the other. -/
def repA (t : P α) : Nat → List α → P (List α)
  | 0, l => .ret l
  | n + 1, l => t.bind fun a => repA t n (l ++ [a])
theorem acc_repA {t : P α} {good : α → Prop} {enc : α → List Int} (ht : ∀ xs a, acc t xs a ↔ good a ∧ xs = enc a) : ∀ (n : Nat) (l0 : List α) (xs : List Int) (l : List α),
    acc (repA t n l0) xs l ↔ ∃ l', l = l0 ++ l' ∧ l'.length = n ∧ (∀ a ∈ l', good a) ∧ xs = l'.flatMap enc := by
  intro n
  induction n with
  | zero =>
    intro l0 xs l
    constructor
    · intro h
      cases xs with
      | nil =>
        have h' : l0 = l := h
        exact ⟨[], by simp [h'], rfl, by simp, by simp⟩
      | cons x xs => exact h.elim
    · rintro ⟨l', rfl, h1, h2, rfl⟩
      obtain rfl : l' = [] := List.length_eq_zero_iff.1 h1
      show l0 = l0 ++ []
      simp
  | succ n ih =>
    intro l0 xs l
    rw [show repA t (n + 1) l0 = t.bind fun a => repA t n (l0 ++ [a]) from rfl, acc_bind]
    constructor
    · rintro ⟨ys, zs, a, rfl, h1, h2⟩
      obtain ⟨g, rfl⟩ := (ht _ _).1 h1
      obtain ⟨l', rfl, h3, h4, rfl⟩ := (ih _ _ _).1 h2
      refine ⟨a :: l', by simp, by simp [h3], ?_, by simp⟩
      intro b hb
      rcases List.mem_cons.1 hb with rfl | hb
      · exact g
      · exact h4 b hb
    · rintro ⟨l', rfl, h1, h2, rfl⟩
      cases l' with
      | nil => simp at h1
      | cons a l' =>
        exact ⟨enc a, l'.flatMap enc, a, by simp, (ht _ _).2 ⟨h2 a (by simp), rfl⟩, (ih _ _ _).2 ⟨l', by simp, by simpa using h1, fun b hb => h2 b (by simp [hb]), rfl⟩⟩
/-- One byte. -/
def byteT (lo hi : Int) : P Int := .need lo hi .ret
theorem acc_byte {lo hi : Int} (xs : List Int) (v : Int) : acc (byteT lo hi) xs v ↔ (lo ≤ v ∧ v ≤ hi) ∧ xs = [v] := by
  constructor
  · intro h
    cases xs with
    | nil => exact h.elim
    | cons x xs =>
      obtain ⟨h1, h2⟩ := h
      cases xs with
      | nil =>
        have h2' : x = v := h2
        subst h2'
        exact ⟨h1, rfl⟩
      | cons y ys => exact h2.elim
  · rintro ⟨h1, rfl⟩
    exact ⟨h1, rfl⟩
theorem acc_ret (a : α) (xs : List Int) (b : α) : acc (.ret a) xs b ↔ xs = [] ∧ a = b := by
  constructor
  · intro h
    cases xs with
    | nil => exact ⟨rfl, h⟩
    | cons x xs => exact h.elim
  · rintro ⟨rfl, h⟩
    exact h
end
/-- Two bytes. -/
def twoT (lo hi : Int) : P Int := (byteT 0 (min hi 255)).bind fun a => (byteT (if a < lo then 1 else 0) ((hi - a) / 256)).bind fun b => .ret (a + 256 * b)
theorem acc_two {lo hi : Int} (h0 : 0 ≤ lo) (h1 : lo ≤ 1) (xs : List Int) (v : Int) : acc (twoT lo hi) xs v ↔ (lo ≤ v ∧ v ≤ hi) ∧ xs = [v % 256, v / 256] := by
  unfold twoT
  simp only [acc_bind, acc_byte, acc_ret]
  constructor
  · rintro ⟨ys, zs, a, rfl, ⟨h2, rfl⟩, ys', zs', b, rfl, ⟨h3, rfl⟩, rfl, rfl⟩
    split at h3
    · refine ⟨by omega, ?_⟩
      rw [show (a + 256 * b) % 256 = a by omega, show (a + 256 * b) / 256 = b by omega]
      rfl
    · refine ⟨by omega, ?_⟩
      rw [show (a + 256 * b) % 256 = a by omega, show (a + 256 * b) / 256 = b by omega]
      rfl
  · rintro ⟨h2, rfl⟩
    refine ⟨[v % 256], [v / 256], v % 256, rfl, ⟨by omega, rfl⟩, [v / 256], [], v / 256, rfl, ⟨?_, rfl⟩, rfl, by omega⟩
    split <;> omega
end Go.Proofs.Ytbdkphjpdoajpaa.Mdl
