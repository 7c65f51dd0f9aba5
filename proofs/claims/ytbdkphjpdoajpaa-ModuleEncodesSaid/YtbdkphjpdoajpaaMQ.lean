/- The language of a module's reader is the bytes of right modules. No condition. -/
import Derived.Test.YtbdkphjpdoajpaaMP
import Derived.Test.YtbdkphjpdoajpaaME
namespace Go.Proofs.Ytbdkphjpdoajpaa.Mdl
open Go.RowKit Go.Proofs.Ytbdkphjpdoajpaa.Q Go.Proofs.YtbdkphjpdoajpaaW.PrintWords Go.Proofs.YtbdkphjpdoajpaaW.PrintLast

def unz (u : Int) : Int := if u % 2 = 0 then u / 2 else -(u / 2) - 1
theorem unz_zig {n : Int} : unz (zig n) = n := by
  unfold zig unz
  split <;> split <;> omega
theorem zig_unz {u : Int} (h : 0 ≤ u) : zig (unz u) = u := by
  unfold zig unz
  split <;> split <;> omega
theorem unz_i64 {u : Int} (h : 0 ≤ u) (h1 : u < 18446744073709551616) : I64 (unz u) := by
  unfold unz I64
  split <;> omega
/-- The bound of a number in so many groups and one: the last has one bit. -/
def bnd : Nat → Int
  | 0 => 2
  | e + 1 => 128 * bnd e
theorem bnd_ge : ∀ e, 2 ≤ bnd e := by
  intro e
  induction e with
  | zero => exact Int.le_refl _
  | succ e ih =>
    unfold bnd
    omega
/-- A number in groups of 7 bits. -/
def numT : Nat → Int → Int → Int → P Int
  | 0, _, u, m => .need 1 1 (fun c => .ret (unz (u + c * m)))
  | e + 1, lo, u, m => .need lo 255 (fun c => if c < 128 then .ret (unz (u + c * m)) else numT e 1 (u + (c - 128) * m) (m * 128))
theorem mul_step (y w m : Int) : (y + 128 * w) * m = y * m + w * (m * 128) := by
  rw [Int.add_mul, Int.mul_comm 128 w, Int.mul_assoc, Int.mul_comm 128 m]
theorem acc_num : ∀ (e : Nat) (lo u m : Int) (xs : List Int) (v : Int), 0 ≤ lo → lo ≤ 1 → (e = 0 → lo = 1) →
    (acc (numT e lo u m) xs v ↔ ∃ w, lo ≤ w ∧ w < bnd e ∧ xs = grp e w ∧ v = unz (u + w * m)) := by
  intro e
  induction e with
  | zero =>
    intro lo u m xs v h0 h1 h2
    have hl := h2 rfl
    subst hl
    constructor
    · intro h
      cases xs with
      | nil => exact h.elim
      | cons x xs =>
        obtain ⟨h3, h4⟩ := h
        rw [acc_ret] at h4
        obtain ⟨rfl, h4⟩ := h4
        exact ⟨x, h3.1, by unfold bnd; omega, rfl, h4.symm⟩
    · rintro ⟨w, h3, h4, rfl, rfl⟩
      unfold bnd at h4
      exact ⟨⟨h3, by omega⟩, rfl⟩
  | succ e ih =>
    intro lo u m xs v h0 h1 h2
    have hb := bnd_ge e
    constructor
    · intro h
      cases xs with
      | nil => exact h.elim
      | cons x xs =>
        obtain ⟨h3, h4⟩ := h
        dsimp only at h4
        by_cases c : x < 128
        · rw [if_pos c, acc_ret] at h4
          obtain ⟨rfl, h4⟩ := h4
          refine ⟨x, h3.1, by unfold bnd; omega, ?_, h4.symm⟩
          unfold grp
          rw [if_pos c]
        · rw [if_neg c] at h4
          obtain ⟨w, h5, h6, rfl, h7⟩ := (ih 1 _ _ xs v (by omega) (by omega) (fun _ => rfl)).1 h4
          refine ⟨(x - 128) + 128 * w, by omega, by unfold bnd; omega, ?_, ?_⟩
          · rw [grp, if_neg (by omega), show ((x - 128) + 128 * w) % 128 + 128 = x by omega, show ((x - 128) + 128 * w) / 128 = w by omega]
          · rw [h7, mul_step, Int.add_assoc]
    · rintro ⟨w, h3, h4, rfl, rfl⟩
      unfold bnd at h4
      unfold grp
      by_cases c : w < 128
      · rw [if_pos c]
        refine ⟨⟨h3, by omega⟩, ?_⟩
        dsimp only
        rw [if_pos c]
        rfl
      · rw [if_neg c]
        refine ⟨⟨by omega, by omega⟩, ?_⟩
        dsimp only
        rw [if_neg (by omega)]
        refine (ih 1 _ _ _ _ (by omega) (by omega) (fun _ => rfl)).2 ⟨w / 128, by omega, by omega, rfl, ?_⟩
        rw [Int.add_assoc, ← mul_step, show w % 128 + 128 - 128 + 128 * (w / 128) = w by omega]
theorem acc_numB (xs : List Int) (v : Int) : acc (numT 9 0 0 1) xs v ↔ I64 v ∧ xs = numB v := by
  rw [acc_num 9 0 0 1 xs v (by omega) (by omega) (by omega)]
  have hb : bnd 9 = 18446744073709551616 := rfl
  rw [hb]
  constructor
  · rintro ⟨w, h0, h1, rfl, rfl⟩
    rw [Int.mul_one, Int.zero_add]
    refine ⟨unz_i64 h0 h1, ?_⟩
    unfold numB
    rw [zig_unz h0]
  · rintro ⟨h, rfl⟩
    obtain ⟨_, h1, h2⟩ := zig_ok h
    exact ⟨zig v, h1, h2, rfl, by rw [Int.mul_one, Int.zero_add, unz_zig]⟩
/-- An instruction. -/
def insT : P S41 := (byteT 0 29).bind fun op => if has op = true then (numT 9 0 0 1).bind fun n => .ret ⟨op, n⟩ else .ret ⟨op, 0⟩
def goodI (c : S41) : Prop := insOk c = true ∧ I64 c.f1
theorem ins_ok (c : S41) : insOk c = true ↔ (0 ≤ c.f0 ∧ c.f0 ≤ 29) ∧ (has c.f0 = true ∨ c.f1 = 0) := by
  unfold insOk
  rw [Bool.and_eq_true, decide_eq_true_eq, Bool.or_eq_true, decide_eq_true_eq]
theorem acc_ins (xs : List Int) (c : S41) : acc insT xs c ↔ goodI c ∧ xs = insB c := by
  unfold insT goodI insB
  rw [acc_bind, ins_ok]
  constructor
  · rintro ⟨ys, zs, op, rfl, h1, h2⟩
    obtain ⟨hop, rfl⟩ := (acc_byte ys op).1 h1
    by_cases hh : has op = true
    · rw [if_pos hh, acc_bind] at h2
      obtain ⟨ys', zs', n, rfl, h3, h4⟩ := h2
      obtain ⟨hn, rfl⟩ := (acc_numB ys' n).1 h3
      obtain ⟨rfl, rfl⟩ := (acc_ret _ _ _).1 h4
      exact ⟨⟨⟨hop, Or.inl hh⟩, hn⟩, by simp [hh]⟩
    · rw [if_neg hh] at h2
      obtain ⟨rfl, rfl⟩ := (acc_ret _ _ _).1 h2
      exact ⟨⟨⟨hop, Or.inr rfl⟩, show I64 0 by unfold I64; omega⟩, by simp [hh]⟩
  · rintro ⟨⟨⟨hop, hn⟩, h64⟩, rfl⟩
    by_cases hh : has c.f0 = true
    · refine ⟨[c.f0], numB c.f1, c.f0, by simp [hh], (acc_byte _ _).2 ⟨hop, rfl⟩, ?_⟩
      rw [if_pos hh, acc_bind]
      exact ⟨numB c.f1, [], c.f1, by simp, (acc_numB _ _).2 ⟨h64, rfl⟩, (acc_ret _ _ _).2 ⟨rfl, rfl⟩⟩
    · refine ⟨[c.f0], [], c.f0, by simp [hh], (acc_byte _ _).2 ⟨hop, rfl⟩, ?_⟩
      rw [if_neg hh]
      refine (acc_ret _ _ _).2 ⟨rfl, ?_⟩
      rcases hn with hn | hn
      · exact absurd hn hh
      · cases c
        simp only at hn
        rw [hn]
/-- A function. -/
def fnT : P S44 := (byteT 0 8).bind fun a => (byteT 0 1).bind fun b => (byteT 0 (16 - a)).bind fun c => (twoT 1 400).bind fun n => (repA insT n.toNat []).bind fun l => .ret ⟨a, b, c, l⟩
def goodF (x : S44) : Prop := fnOk x = true ∧ ∀ c ∈ x.f3, I64 c.f1
theorem fn_ok (x : S44) : fnOk x = true ↔ (0 ≤ x.f0 ∧ x.f0 ≤ 8 ∧ 0 ≤ x.f1 ∧ x.f1 ≤ 1 ∧ 0 ≤ x.f2 ∧ x.f2 ≤ 16 - x.f0 ∧ 1 ≤ x.f3.length ∧ x.f3.length ≤ 400) ∧ ∀ c ∈ x.f3, insOk c = true := by
  unfold fnOk fnBnd
  rw [Bool.and_eq_true, decide_eq_true_eq, List.all_eq_true]
theorem acc_fn (xs : List Int) (x : S44) : acc fnT xs x ↔ goodF x ∧ xs = fnB x := by
  unfold fnT goodF
  rw [fn_ok]
  simp only [acc_bind, acc_ret]
  constructor
  · rintro ⟨y1, z1, a, rfl, h1, y2, z2, b, rfl, h2, y3, z3, c, rfl, h3, y4, z4, n, rfl, h4, y5, z5, l, rfl, h5, rfl, rfl⟩
    obtain ⟨ha, rfl⟩ := (acc_byte _ _).1 h1
    obtain ⟨hb, rfl⟩ := (acc_byte _ _).1 h2
    obtain ⟨hc, rfl⟩ := (acc_byte _ _).1 h3
    obtain ⟨hn, rfl⟩ := (acc_two (by omega) (by omega) _ _).1 h4
    obtain ⟨l', rfl, hl, hg, rfl⟩ := (acc_repA (good := goodI) (enc := insB) acc_ins _ _ _ _).1 h5
    have hln : (l.length : Int) = n := by omega
    refine ⟨⟨⟨⟨ha.1, ha.2, hb.1, hb.2, hc.1, hc.2, show 1 ≤ l.length by omega, show l.length ≤ 400 by omega⟩, fun c hc => (hg c hc).1⟩, fun c hc => (hg c hc).2⟩, ?_⟩
    unfold fnB
    simp only
    rw [hln]
    simp
  · rintro ⟨⟨⟨⟨a0, a1, b0, b1, c0, c1, n0, n1⟩, hi⟩, h64⟩, rfl⟩
    obtain ⟨f0, f1, f2, f3⟩ := x
    simp only at *
    refine ⟨[f0], _, f0, rfl, (acc_byte _ _).2 ⟨⟨a0, a1⟩, rfl⟩, [f1], _, f1, rfl, (acc_byte _ _).2 ⟨⟨b0, b1⟩, rfl⟩, [f2], _, f2, rfl, (acc_byte _ _).2 ⟨⟨c0, c1⟩, rfl⟩, [(f3.length : Int) % 256, (f3.length : Int) / 256], _, (f3.length : Int), rfl, (acc_two (by omega) (by omega) _ _).2 ⟨⟨by omega, by omega⟩, rfl⟩, f3.flatMap insB, [], f3, by simp [fnB], ?_, rfl, rfl⟩
    exact (acc_repA (good := goodI) (enc := insB) acc_ins _ _ _ _).2 ⟨f3, by simp, by simp, fun c hc => ⟨hi c hc, h64 c hc⟩, rfl⟩
/-- A module. -/
def decT : P (Int × List Int × List S44) := (byteT 67 67).bind fun _ => (byteT 83 83).bind fun _ => (byteT 77 77).bind fun _ => (byteT 1 1).bind fun _ => (twoT 0 1024).bind fun m => (twoT 0 m).bind fun n => (repA (byteT 0 255) n.toNat []).bind fun d => (byteT 1 16).bind fun k => (repA fnT k.toNat []).bind fun l => .ret (m, d, l)
def goodM (m : Int) (d : List Int) (l : List S44) : Prop := modOk m d l = true ∧ (∀ v ∈ d, 0 ≤ v ∧ v ≤ 255) ∧ ∀ x ∈ l, ∀ c ∈ x.f3, I64 c.f1
theorem mod_ok (m : Int) (d : List Int) (l : List S44) : modOk m d l = true ↔ (0 ≤ m ∧ m ≤ 1024 ∧ (d.length : Int) ≤ m ∧ 1 ≤ l.length ∧ l.length ≤ 16) ∧ ∀ x ∈ l, fnOk x = true := by
  unfold modOk modBnd
  rw [Bool.and_eq_true, decide_eq_true_eq, List.all_eq_true]
theorem flat_one (d : List Int) : d.flatMap (fun v => [v]) = d := by
  induction d with
  | nil => rfl
  | cons x d ih => rw [List.flatMap_cons, ih]; rfl
theorem acc_dec (xs : List Int) (v : Int × List Int × List S44) : acc decT xs v ↔ goodM v.1 v.2.1 v.2.2 ∧ xs = modB v.1 v.2.1 v.2.2 := by
  unfold decT goodM
  rw [mod_ok]
  simp only [acc_bind, acc_ret]
  constructor
  · rintro ⟨x1, w1, b1, rfl, h1, x2, w2, b2, rfl, h2, x3, w3, b3, rfl, h3, x4, w4, b4, rfl, h4, x5, w5, m, rfl, h5, x6, w6, n, rfl, h6, x7, w7, d, rfl, h7, x8, w8, k, rfl, h8, x9, w9, l, rfl, h9, rfl, rfl⟩
    obtain ⟨c1, rfl⟩ := (acc_byte _ _).1 h1
    obtain ⟨c2, rfl⟩ := (acc_byte _ _).1 h2
    obtain ⟨c3, rfl⟩ := (acc_byte _ _).1 h3
    obtain ⟨c4, rfl⟩ := (acc_byte _ _).1 h4
    obtain rfl : b1 = 67 := by omega
    obtain rfl : b2 = 83 := by omega
    obtain rfl : b3 = 77 := by omega
    obtain rfl : b4 = 1 := by omega
    obtain ⟨hm, rfl⟩ := (acc_two (by omega) (by omega) _ _).1 h5
    obtain ⟨hn, rfl⟩ := (acc_two (by omega) (by omega) _ _).1 h6
    obtain ⟨d', rfl, hd, hg, rfl⟩ := (acc_repA (good := fun v => 0 ≤ v ∧ v ≤ 255) (enc := fun v => [v]) (fun xs a => acc_byte xs a) _ _ _ _).1 h7
    obtain ⟨hk, rfl⟩ := (acc_byte _ _).1 h8
    obtain ⟨l', rfl, hl, hf, rfl⟩ := (acc_repA (good := goodF) (enc := fnB) acc_fn _ _ _ _).1 h9
    have hdn : (d.length : Int) = n := by omega
    dsimp only
    have hlk : (l.length : Int) = k := by omega
    refine ⟨⟨⟨⟨by omega, by omega, by omega, by omega, by omega⟩, fun x hx => (hf x hx).1⟩, hg, fun x hx => (hf x hx).2⟩, ?_⟩
    unfold modB
    rw [hdn, hlk, flat_one]
    simp
  · obtain ⟨m, d, l⟩ := v
    simp only
    rintro ⟨⟨⟨⟨m0, m1, d1, l0, l1⟩, hf⟩, hd, h64⟩, rfl⟩
    refine ⟨[67], _, 67, rfl, (acc_byte _ _).2 ⟨by omega, rfl⟩, [83], _, 83, rfl, (acc_byte _ _).2 ⟨by omega, rfl⟩, [77], _, 77, rfl, (acc_byte _ _).2 ⟨by omega, rfl⟩, [1], _, 1, rfl, (acc_byte _ _).2 ⟨by omega, rfl⟩, [m % 256, m / 256], _, m, rfl, (acc_two (by omega) (by omega) _ _).2 ⟨⟨m0, m1⟩, rfl⟩, [(d.length : Int) % 256, (d.length : Int) / 256], d ++ ([(l.length : Int)] ++ l.flatMap fnB), (d.length : Int), ?_, (acc_two (by omega) (by omega) _ _).2 ⟨⟨by omega, d1⟩, rfl⟩, d, [(l.length : Int)] ++ l.flatMap fnB, d, rfl, ?_, [(l.length : Int)], l.flatMap fnB, (l.length : Int), rfl, (acc_byte _ _).2 ⟨⟨by omega, by omega⟩, rfl⟩, l.flatMap fnB, [], l, by simp, ?_, rfl, rfl⟩
    · simp
    · exact (acc_repA (good := fun v => 0 ≤ v ∧ v ≤ 255) (enc := fun v => [v]) (fun xs a => acc_byte xs a) _ _ _ _).2 ⟨d, by simp, by simp, hd, (flat_one d).symm⟩
    · exact (acc_repA (good := goodF) (enc := fnB) acc_fn _ _ _ _).2 ⟨l, by simp, by simp, fun x hx => ⟨hf x hx, h64 x hx⟩, rfl⟩
end Go.Proofs.Ytbdkphjpdoajpaa.Mdl
