/- Every number is written in as few groups as may be, and read back: ModuleNumbers answers true for every number. No condition. -/
import Derived.Test.YtbdkphjpdoajpaaMU
import Derived.Test.YtbdkphjpdoajpaaQx33
namespace Go.Proofs.Ytbdkphjpdoajpaa.Pure
open Go.RowKit Go.Proofs.Ytbdkphjpdoajpaa.Q Go.Proofs.YtbdkphjpdoajpaaW.PrintWords Go.Proofs.YtbdkphjpdoajpaaW.PrintLast Go.Proofs.Ytbdkphjpdoajpaa.Mdl

/-- The module of one push. -/
def one (n : Int) : List S44 := [⟨0, 0, 0, [⟨1, n⟩]⟩]
theorem one_good {n : Int} (h : I64 n) : goodM 0 [] (one n) := by
  refine ⟨rfl, by simp, ?_⟩
  intro x hx c hc
  unfold one at hx
  rw [List.mem_singleton] at hx
  subst hx
  simp only [List.mem_singleton] at hc
  subst hc
  exact h
theorem one_bytes (n : Int) : modB 0 [] (one n) = 67 :: 83 :: 77 :: 1 :: 0 :: 0 :: 0 :: 0 :: 1 :: 0 :: 0 :: 0 :: 1 :: 0 :: 1 :: numB n := by
  unfold modB one fnB insB
  simp [has]
theorem run_stop {α β : Type} {t : P α} {f : α → P β} {xs : List Int} {p q : Nat} (h : run t xs p = (q, none)) : run (t.bind f) xs p = (q, none) := by
  rw [run_bind, h]
set_option maxRecDepth 100000 in
theorem pre_go (t : List Int) : go decT (67 :: 83 :: 77 :: 1 :: 0 :: 0 :: 0 :: 0 :: 1 :: 0 :: 0 :: 0 :: 1 :: 0 :: 1 :: t) 0 = go (((((numT 9 0 0 1).bind fun n => P.ret (⟨1, n⟩ : S41)).bind fun a => repA insT 0 ([] ++ [a])).bind fun l => P.ret (⟨0, 0, 0, l⟩ : S44)).bind (fun a => repA fnT 0 ([] ++ [a])) |>.bind fun l => P.ret ((0 : Int), ([] : List Int), l)) t 15 := by
  rfl
/-- The last group: it is below 128; the tenth is 1. -/
theorem grp_last : ∀ (e : Nat) (u : Int), 0 ≤ u → (e = 0 → 1 ≤ u) → u < bnd e → ∃ ys z, grp e u = ys ++ [z] ∧ (0 ≤ z ∧ z < 128) ∧ ys.length ≤ e ∧ (ys.length = e → z = 1) := by
  intro e
  induction e with
  | zero =>
    intro u h0 h1 h2
    unfold bnd at h2
    exact ⟨[], u, rfl, by omega, by simp, fun _ => by have := h1 rfl; omega⟩
  | succ e ih =>
    intro u h0 h1 h2
    unfold bnd at h2
    rw [grp]
    by_cases c : u < 128
    · rw [if_pos c]
      exact ⟨[], u, rfl, by omega, by simp, fun h => by simp at h⟩
    · rw [if_neg c]
      obtain ⟨ys, z, h3, h4, h5, h6⟩ := ih (u / 128) (by omega) (fun _ => by omega) (by omega)
      exact ⟨(u % 128 + 128) :: ys, z, by rw [h3]; rfl, h4, by simp only [List.length_cons]; omega, fun h => h6 (by simpa using h)⟩
/-- A group more, of 0, is told at its place. -/
theorem num_more : ∀ (e : Nat) (lo u m w : Int) (p : Nat) (ys : List Int) (z : Int), 0 ≤ lo → lo ≤ 1 → 0 ≤ w → w < bnd e → grp e w = ys ++ [z] → ys.length < e →
    run (numT e lo u m) (ys ++ [z + 128, 0]) p = (p + ys.length + 1, none) := by
  intro e
  induction e with
  | zero => intro lo u m w p ys z _ _ _ _ _ h; omega
  | succ e ih =>
    intro lo u m w p ys z l0 l1 w0 w1 hg hl
    unfold bnd at w1
    rw [grp] at hg
    by_cases c : w < 128
    · rw [if_pos c] at hg
      cases ys with
      | nil =>
        simp only [List.nil_append, List.cons.injEq, and_true] at hg
        subst hg
        show (if lo ≤ w + 128 ∧ w + 128 ≤ 255 then run (if w + 128 < 128 then P.ret (unz (u + (w + 128) * m)) else numT e 1 (u + (w + 128 - 128) * m) (m * 128)) [0] (p + 1) else (p, none)) = _
        rw [if_pos (by omega), if_neg (by omega)]
        cases e with
        | zero => rfl
        | succ e => rfl
      | cons y ys =>
        have := congrArg List.length hg
        simp at this
    · rw [if_neg c] at hg
      cases ys with
      | nil =>
        have h2 : grp e (w / 128) = [] := by
          simp only [List.nil_append, List.cons.injEq] at hg
          exact hg.2
        exfalso
        cases e with
        | zero => simp [grp] at h2
        | succ e =>
          rw [grp] at h2
          split at h2 <;> simp at h2
      | cons y ys =>
        simp only [List.cons_append, List.cons.injEq] at hg
        obtain ⟨rfl, hg⟩ := hg
        show (if lo ≤ w % 128 + 128 ∧ w % 128 + 128 ≤ 255 then run (if w % 128 + 128 < 128 then P.ret (unz (u + (w % 128 + 128) * m)) else numT e 1 (u + (w % 128 + 128 - 128) * m) (m * 128)) (ys ++ [z + 128, 0]) (p + 1) else (p, none)) = _
        rw [if_pos (by omega), if_neg (by omega), ih 1 _ _ (w / 128) (p + 1) ys z (by omega) (by omega) (by omega) (by omega) hg (by simpa using hl)]
        simp only [List.length_cons, Prod.mk.injEq, and_true]
        omega
theorem grp_pos : ∀ (e : Nat) (u : Int), 1 ≤ (grp e u).length := by
  intro e u
  cases e with
  | zero => simp [grp]
  | succ e =>
    rw [grp]
    split <;> simp
/-- The groups are counted. -/
theorem count_is {n : Int} {b : List Int} {G : Nat} {R : Option Bool} {K : Nat} (hG : G ≤ 1000) (hend : ∀ k, K ≤ k → casementlaw12_ModuleNumbers.l0 k n b (G : Int) 0 = R) : ∀ (e k g : Nat) (u : Int), 0 ≤ u → u < 128 ^ (e + 1) → g + (grp e u).length = G + 1 → K + e + 1 ≤ k → casementlaw12_ModuleNumbers.l0 k n b (g : Int) (u / 128) = R := by
  intro e
  induction e with
  | zero =>
    intro k g u h0 h1 hg hk
    rw [show u / 128 = 0 by omega]
    simp only [grp, List.length_singleton] at hg
    obtain rfl : g = G := by omega
    exact hend k (by omega)
  | succ e ih =>
    intro k g u h0 h1 hg hk
    rw [grp] at hg
    by_cases c : u < 128
    · rw [if_pos c] at hg
      simp only [List.length_singleton] at hg
      obtain rfl : g = G := by omega
      rw [show u / 128 = 0 by omega]
      exact hend k (by omega)
    · rw [if_neg c, List.length_cons] at hg
      obtain ⟨k, rfl⟩ : ∃ q, k = q + 1 := ⟨k - 1, by omega⟩
      have hp := grp_pos e (u / 128)
      have hw : wrap64 ((g : Int) + 1) = ((g + 1 : Nat) : Int) := by
        rw [wrap_id (by unfold I64; omega)]
        omega
      rw [casementlaw12_ModuleNumbers.l0, if_pos (by omega), hw]
      clear hw
      exact ih k (g + 1) (u / 128) (by omega) (by rw [Int.pow_succ] at h1; omega) (by omega) (by omega)
theorem xor_comm_ (x y : Int) : Go.bits .xor .u64 x y = Go.bits .xor .u64 y x := by
  rw [xor_def, xor_def, BitVec.xor_comm]
theorem rd_last (xs : List Int) (z : Int) : rd (xs ++ [z]) ((xs.length : Nat) : Int) = z := by simp [rd, List.getD]
theorem set_last (xs : List Int) (z v : Int) : (xs ++ [z]).set xs.length v = xs ++ [v] := by simp
theorem ModuleNumbers : casementlaw12_ModuleNumbers.Pure := by
  intro n hn
  have h64 := i64_of hn
  have hg := one_good h64
  obtain ⟨hz, z0, z1⟩ := zig_ok h64
  obtain ⟨ys, z, hyz, hz2, hyl, hten⟩ := grp_last 9 (zig n) z0 (by omega) (by rw [show bnd 9 = 18446744073709551616 from rfl]; omega)
  have hnb : numB n = ys ++ [z] := hyz
  have hbytes : modB 0 [] (one n) = [67, 83, 77, 1, 0, 0, 0, 0, 1, 0, 0, 0, 1, 0, 1] ++ ys ++ [z] := by
    rw [one_bytes, hnb]
    simp
  have hlen : (modB 0 [] (one n)).length = 16 + ys.length := by
    rw [hbytes]
    simp only [List.length_append, List.length_cons, List.length_nil]
    omega
  have hl : (modB 0 [] (one n)).length ≤ 4096 := by omega
  have hby := byt_mod hg hl
  obtain ⟨K, hK⟩ := enc_ok (mok_good hg)
  rw [enc_good hg hl] at hK
  generalize hB : modB 0 [] (one n) = B at *
  have hlast : rd B ((15 + ys.length : Nat) : Int) = z := by
    rw [hbytes, show ((15 + ys.length : Nat) : Int) = ((([67, 83, 77, 1, 0, 0, 0, 0, 1, 0, 0, 0, 1, 0, 1] ++ ys : List Int).length : Nat) : Int) by simp only [List.length_append, List.length_cons, List.length_nil]]
    exact rd_last _ z
  have h14 : rd B 14 = 1 := by
    rw [hbytes]
    rfl
  have hdec : ∀ k, 4000 ≤ k → module_Decode.f k B = some (0, [], one n, 0, 0) := by
    intro k hk
    have := go_acc 0 (dec_mod hg)
    rw [hB] at this
    rw [dec_short hby hl hk, this]
    rfl
  have w1 : PLift (wrap64 ((B.length : Int) - 1) = ((15 + ys.length : Nat) : Int)) := ⟨by
    rw [wrap_id (by unfold I64; omega)]
    omega⟩
  have hj3 : ∀ k, 5000 ≤ k → casementlaw12_ModuleNumbers.j3 k B ((ys.length + 1 : Nat) : Int) false = some true := by
    intro k hk
    obtain ⟨k, rfl⟩ : ∃ q, k = q + 1 := ⟨k - 1, by omega⟩
    rw [casementlaw12_ModuleNumbers.j3, if_neg (by decide)]
    by_cases c : ys.length = 9
    · rw [if_pos (by omega), w1.down, if_pos (by omega), if_pos (by omega), hlast, hten c]
      rfl
    · rw [if_neg (by omega)]
      simp only [Option.bind_some, List.nil_append, List.length_nil]
      rw [if_pos (by omega), w1.down, if_pos (by omega), if_pos (by omega), hlast, if_pos (by rw [List.length_set]; omega), show ((15 + ys.length : Nat) : Int).toNat = 15 + ys.length by omega, show (z + 128) % 256 = z + 128 by omega]
      have hset : B.set (15 + ys.length) (z + 128) ++ [0] = 67 :: 83 :: 77 :: 1 :: 0 :: 0 :: 0 :: 0 :: 1 :: 0 :: 0 :: 0 :: 1 :: 0 :: 1 :: (ys ++ [z + 128, 0]) := by
        rw [hbytes, show 15 + ys.length = ([67, 83, 77, 1, 0, 0, 0, 0, 1, 0, 0, 0, 1, 0, 1] ++ ys : List Int).length by simp only [List.length_append, List.length_cons, List.length_nil], set_last]
        simp
      have hB2 : Byt (B.set (15 + ys.length) (z + 128) ++ [0]) := ⟨fun v hv => by
        rw [List.mem_append, List.mem_singleton] at hv
        rcases hv with hv | hv
        · rcases List.mem_or_eq_of_mem_set hv with h | h
          · exact hby.v v h
          · omega
        · omega, by simp only [List.length_append, List.length_set, List.length_singleton]; omega⟩
      have hrun := num_more 9 0 0 1 (zig n) 15 ys z (by omega) (by omega) z0 (by rw [show bnd 9 = 18446744073709551616 from rfl]; omega) hyz (by omega)
      have hgo : go decT (B.set (15 + ys.length) (z + 128) ++ [0]) 0 = (15 + ys.length + 1, none) := by
        rw [hset, pre_go]
        exact go_stop (run_stop (run_stop (run_stop (run_stop hrun))))
      rw [dec_short hB2 (by simp only [List.length_append, List.length_set, List.length_singleton]; omega) (by omega), hgo]
      simp only [out, Option.bind_some, if_true]
      congr 1
      rw [beq_iff_eq]
      omega
  have hend : ∀ k, 5002 ≤ k → casementlaw12_ModuleNumbers.l0 k n B ((ys.length + 1 : Nat) : Int) 0 = some true := by
    intro k hk
    obtain ⟨k, rfl⟩ : ∃ q, k = q + 2 := ⟨k - 2, by omega⟩
    have w2 : wrap64 (15 + ((ys.length + 1 : Nat) : Int)) = (B.length : Int) := by
      rw [wrap_id (by unfold I64; omega)]
      omega
    rw [casementlaw12_ModuleNumbers.l0, if_neg (by omega), w2, if_pos rfl]
    clear w2
    rw [if_pos (by omega), h14, if_pos rfl, w1.down, if_pos (by omega), if_pos (by omega), hlast, decide_eq_false (by omega), casementlaw12_ModuleNumbers.j2, if_neg (by decide), hdec k (by omega)]
    simp only [Option.bind_some, if_true]
    rw [if_pos (by show (0 : Int) < ((1 : Nat) : Int); omega), if_pos (by show (0 : Int) < ((1 : Nat) : Int); omega)]
    have e : ((rd_T41 ((rd_T44 (one n) 0).f3) 0).f1 != n) = false := by
      simp [one, rd_T41, rd_T44]
    rw [e]
    exact hj3 k (by omega)
  refine ⟨K + 6000, ?_⟩
  have q1 := hK (K + 6000) (by omega)
  simp only at q1
  unfold casementlaw12_ModuleNumbers.f
  rw [alive_k (by omega)]
  simp only [Option.bind_some, if_true]
  rw [show ([(⟨0, 0, 0, [(⟨1, n⟩ : S41)]⟩ : S44)] : List S44) = one n from rfl, q1]
  simp only [Option.bind_some, if_true]
  have hcnt : casementlaw12_ModuleNumbers.j0 (K + 6000) n B (zig n) = some true := by
    rw [casementlaw12_ModuleNumbers.j0]
    have := count_is (n := n) (b := B) (G := ys.length + 1) (by omega) hend 9 (K + 5999) 1 (zig n) z0 (by omega) (by rw [hyz]; simp only [List.length_append, List.length_singleton]; omega) (by omega)
    exact this
  have hw := h64
  unfold I64 at hw
  by_cases c : n < 0
  · rw [if_pos c]
    have e : Go.bits .xor .u64 18446744073709551615 (IntKind.u64.wrap (IntKind.u64.wrap n * 2)) = zig n := by
      simp only [wrap_u64]
      rw [xor_comm_, xor1 (by omega) (by omega)]
      unfold zig
      rw [if_pos c]
      omega
    rw [e]
    exact hcnt
  · rw [if_neg c]
    have e : IntKind.u64.wrap (IntKind.u64.wrap n * 2) = zig n := by
      simp only [wrap_u64]
      unfold zig
      rw [if_neg c]
      omega
    rw [e]
    exact hcnt
end Go.Proofs.Ytbdkphjpdoajpaa.Pure
