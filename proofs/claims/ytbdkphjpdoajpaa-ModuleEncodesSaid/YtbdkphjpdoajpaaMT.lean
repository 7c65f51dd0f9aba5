/- All bytes are read as the tree says: the module, or the place of the first byte that can't be. Condition: bytes. -/
import Derived.Test.YtbdkphjpdoajpaaMS
import Derived.Test.YtbdkphjpdoajpaaQx9
namespace Go.Proofs.Ytbdkphjpdoajpaa.Mdl
open Go.RowKit Go.Proofs.Ytbdkphjpdoajpaa.Q Go.Proofs.YtbdkphjpdoajpaaW.PrintWords Go.Proofs.YtbdkphjpdoajpaaW.PrintLast

abbrev M := Int × List Int × List S44
def out : Nat × Option M → Int × List Int × List S44 × Int × Int
  | (_, some v) => (v.1, v.2.1, v.2.2, 0, 0)
  | (q, none) => (0, [], [], 120, (q : Int))
theorem bind_assoc {α β γ : Type} (t : P α) (f : α → P β) (g : β → P γ) : (t.bind f).bind g = t.bind fun a => (f a).bind g := by
  induction t with
  | ret a => rfl
  | need lo hi k ih =>
    show P.need lo hi (fun x => ((k x).bind f).bind g) = P.need lo hi (fun x => (k x).bind fun a => (f a).bind g)
    congr 1
    funext x
    exact ih x
theorem go_bind {α β : Type} {t : P α} {f : α → P β} {xs : List Int} {p q : Nat} {a : α} {ys : List Int} (h : run t xs p = (q, some (a, ys))) : go (t.bind f) xs p = go (f a) ys q := by
  unfold go
  rw [run_bind, h]
theorem go_stop {α β : Type} {t : P α} {f : α → P β} {xs : List Int} {p q : Nat} (h : run t xs p = (q, none)) : go (t.bind f) xs p = (q, none) := by
  unfold go
  rw [run_bind, h]
section
variable {b : List Int}
theorem l2_bad {k : Nat} {n p m : Int} {d : List Int} {l : List S44} (hk : 1 ≤ k) : module_Decode.l2 k b n b p true m d l = some (0, [], [], 120, p) := by
  obtain ⟨k, rfl⟩ : ∃ q, k = q + 1 := ⟨k - 1, by omega⟩
  rw [module_Decode.l2]
  split
  · rfl
  · rfl
theorem l2_is (hB : Byt b) {m : Int} {d : List Int} : ∀ (n k p : Nat) (l : List S44), n ≤ 1000 → n + 905 ≤ k → p ≤ b.length → l.length + n ≤ 1000 →
    module_Decode.l2 k b (n : Int) b (p : Int) false m d l = some (out (go ((repA fnT n l).bind fun l => .ret (m, d, l)) (b.drop p) p)) := by
  intro n
  induction n with
  | zero =>
    intro k p l hn hk hp hl
    obtain ⟨k, rfl⟩ : ∃ q, k = q + 1 := ⟨k - 1, by omega⟩
    rw [module_Decode.l2, if_neg (by omega), if_neg (by decide)]
    by_cases c : p < b.length
    · rw [if_pos (by omega), drop_at c]
      rfl
    · rw [if_neg (by omega), List.drop_of_length_le (by omega)]
      rfl
  | succ n ih =>
    intro k p l hn hk hp hl
    obtain ⟨k, rfl⟩ : ∃ q, k = q + 1 := ⟨k - 1, by omega⟩
    have hw : wrap64 (((n + 1 : Nat) : Int) - 1) = (n : Int) := by
      rw [wrap_id (by unfold I64; omega)]
      omega
    rw [module_Decode.l2, if_pos (by omega), if_neg (by decide), hw]
    clear hw
    obtain ⟨f0, f1, f2, fl, q, bad, h1, h2⟩ := function_is hB (k := k) (p := p) (by omega) hp
    rw [h1]
    simp only [Option.bind_some]
    rw [if_pos (by omega), show repA fnT (n + 1) l = fnT.bind fun a => repA fnT n (l ++ [a]) from rfl, bind_assoc]
    rcases h2 with ⟨x, q2, h3, hq2, hrun⟩ | ⟨x, q2, h3, hrun⟩
    · simp only [Prod.mk.injEq] at h3
      obtain ⟨rfl, rfl, rfl⟩ := h3
      rw [go_bind hrun]
      exact ih k q2 _ (by omega) (by omega) hq2 (by simp only [List.length_append, List.length_singleton]; omega)
    · simp only [Prod.mk.injEq] at h3
      obtain ⟨rfl, rfl, rfl⟩ := h3
      rw [go_stop hrun, l2_bad (by omega)]
      rfl
theorem j2_bad {k : Nat} {p m : Int} {d : List Int} (hk : 2 ≤ k) : module_Decode.j2 k b b p true m d = some (0, [], [], 120, p) := by
  obtain ⟨k, rfl⟩ : ∃ q, k = q + 1 := ⟨k - 1, by omega⟩
  rw [module_Decode.j2, next_bad]
  simp only [Option.bind_some]
  exact l2_bad (by omega)
theorem l1_bad {k : Nat} {n p m : Int} {d : List Int} (hk : 3 ≤ k) : module_Decode.l1 k b n b p true m d = some (0, [], [], 120, p) := by
  obtain ⟨k, rfl⟩ : ∃ q, k = q + 1 := ⟨k - 1, by omega⟩
  rw [module_Decode.l1]
  split
  · rw [if_pos rfl]
    exact j2_bad (by omega)
  · exact j2_bad (by omega)
theorem l1_is (hB : Byt b) {m : Int} : ∀ (n k p : Nat) (d : List Int), n ≤ 2000 → n + 1000 ≤ k → p ≤ b.length → d.length + n ≤ 2000 →
    module_Decode.l1 k b (n : Int) b (p : Int) false m d = some (out (go ((repA (byteT 0 255) n d).bind fun d => (byteT 1 16).bind fun k => (repA fnT k.toNat []).bind fun l => .ret (m, d, l)) (b.drop p) p)) := by
  intro n
  induction n with
  | zero =>
    intro k p d hn hk hp hl
    obtain ⟨k, rfl⟩ : ∃ q, k = q + 2 := ⟨k - 2, by omega⟩
    rw [module_Decode.l1, if_neg (by omega), module_Decode.j2, show (repA (byteT 0 255) 0 d).bind (fun d => (byteT 1 16).bind fun k => (repA fnT k.toNat []).bind fun l => P.ret (m, d, l)) = (byteT 1 16).bind fun k => (repA fnT k.toNat []).bind fun l => P.ret (m, d, l) from rfl]
    obtain ⟨r, hr, hI, hbd⟩ := byte_is hB hp 1 16
    rw [hr]
    simp only [Option.bind_some]
    rcases hI with ⟨n, q, rfl, hq, hrun⟩ | ⟨v, q, rfl, hrun⟩
    · have hn := hbd rfl
      simp only at hn
      have := l2_is hB (m := m) (d := d) n.toNat k q [] (by omega) (by omega) hq (by simp; omega)
      rw [show ((n.toNat : Nat) : Int) = n by omega] at this
      rw [go_bind hrun]
      exact this
    · rw [go_stop hrun]
      exact l2_bad (by omega)
  | succ n ih =>
    intro k p d hn hk hp hl
    obtain ⟨k, rfl⟩ : ∃ q, k = q + 1 := ⟨k - 1, by omega⟩
    have hw : wrap64 (((n + 1 : Nat) : Int) - 1) = (n : Int) := by
      rw [wrap_id (by unfold I64; omega)]
      omega
    rw [module_Decode.l1, if_pos (by omega), if_neg (by decide), hw]
    clear hw
    obtain ⟨r, hr, hI, hbd⟩ := byte_is hB hp 0 255
    rw [hr]
    simp only [Option.bind_some]
    rw [if_pos (by omega), show repA (byteT 0 255) (n + 1) d = (byteT 0 255).bind fun a => repA (byteT 0 255) n (d ++ [a]) from rfl, bind_assoc]
    rcases hI with ⟨v, q, rfl, hq, hrun⟩ | ⟨v, q, rfl, hrun⟩
    · have hv := hbd rfl
      simp only at hv
      rw [go_bind hrun]
      simp only
      rw [show v % 256 = v by omega]
      exact ih k q _ (by omega) (by omega) hq (by simp only [List.length_append, List.length_singleton]; omega)
    · rw [go_stop hrun]
      exact l1_bad (by omega)
/-- Behind the four signs. -/
def restT : P M := (twoT 0 1024).bind fun m => (twoT 0 m).bind fun n => (repA (byteT 0 255) n.toNat []).bind fun d => (byteT 1 16).bind fun k => (repA fnT k.toNat []).bind fun l => .ret (m, d, l)
theorem l0_bad : ∀ (e k i : Nat) (p : Int), 4 - i = e → i ≤ 4 → e + 5 ≤ k → module_Decode.l0 k b [67, 83, 77, 1] 4 (i : Int) b p true = some (0, [], [], 120, p) := by
  intro e
  induction e with
  | zero =>
    intro k i p he hi hk
    obtain ⟨k, rfl⟩ : ∃ q, k = q + 1 := ⟨k - 1, by omega⟩
    obtain ⟨v, hv⟩ := two_bad b p 0 1024
    rw [module_Decode.l0, if_neg (by omega), hv]
    simp only [Option.bind_some]
    obtain ⟨v2, hv2⟩ := two_bad b p 0 v
    rw [hv2]
    simp only [Option.bind_some]
    exact l1_bad (by omega)
  | succ e ih =>
    intro k i p he hi hk
    obtain ⟨k, rfl⟩ : ∃ q, k = q + 1 := ⟨k - 1, by omega⟩
    have hw : wrap64 ((i : Int) + 1) = ((i + 1 : Nat) : Int) := by
      rw [wrap_id (by unfold I64; omega)]
      omega
    rw [module_Decode.l0, if_pos (by omega), if_pos (by omega), if_pos (by simp only [List.length_cons, List.length_nil]; omega), next_bad, hw]
    simp only [Option.bind_some]
    exact ih k (i + 1) p (by omega) (by omega) (by omega)
theorem l0_end (hB : Byt b) {k p : Nat} (hk : 3000 ≤ k) (hp : p ≤ b.length) : module_Decode.l0 k b [67, 83, 77, 1] 4 4 b (p : Int) false = some (out (go restT (b.drop p) p)) := by
  obtain ⟨k, rfl⟩ : ∃ q, k = q + 1 := ⟨k - 1, by omega⟩
  rw [module_Decode.l0, if_neg (by omega)]
  unfold restT
  obtain ⟨r, hr, hI⟩ := two_is hB hp (lo := 0) (hi := 1024) (by omega) (by omega) (by omega) (by omega)
  rw [hr]
  simp only [Option.bind_some]
  rcases hI with ⟨m, q, rfl, hq, hrun⟩ | ⟨v, q, rfl, hrun⟩
  · have hm : 0 ≤ m ∧ m ≤ 1024 := by
      obtain ⟨zs, _, _, hacc⟩ := run_some _ _ _ hrun
      exact ((acc_two (by omega) (by omega) _ _).1 hacc).1
    rw [go_bind hrun]
    obtain ⟨r2, hr2, hI2⟩ := two_is hB hq (lo := 0) (hi := m) (by omega) (by omega) hm.1 hm.2
    simp only
    rw [hr2]
    simp only [Option.bind_some]
    rcases hI2 with ⟨n, q2, rfl, hq2, hrun2⟩ | ⟨v, q2, rfl, hrun2⟩
    · have hn : 0 ≤ n ∧ n ≤ m := by
        obtain ⟨zs, _, _, hacc⟩ := run_some _ _ _ hrun2
        exact ((acc_two (by omega) (by omega) _ _).1 hacc).1
      rw [go_bind hrun2]
      have := l1_is hB (m := m) n.toNat k q2 [] (by omega) (by omega) hq2 (by simp; omega)
      rw [show ((n.toNat : Nat) : Int) = n by omega] at this
      exact this
    · rw [go_stop hrun2]
      exact l1_bad (by omega)
  · rw [go_stop hrun]
    simp only
    obtain ⟨v2, hv2⟩ := two_bad b (q : Int) 0 v
    rw [hv2]
    simp only [Option.bind_some]
    exact l1_bad (by omega)
theorem l0_step (hB : Byt b) {t : P M} {k p i : Nat} {s : Int} (hi : i < 4) (hs : rd [67, 83, 77, 1] (i : Int) = s) (hk : 20 ≤ k) (hp : p ≤ b.length)
    (hn : ∀ q : Nat, q ≤ b.length → module_Decode.l0 k b [67, 83, 77, 1] 4 ((i + 1 : Nat) : Int) b (q : Int) false = some (out (go t (b.drop q) q))) :
    module_Decode.l0 (k + 1) b [67, 83, 77, 1] 4 (i : Int) b (p : Int) false = some (out (go ((byteT s s).bind fun _ => t) (b.drop p) p)) := by
  have hw : wrap64 ((i : Int) + 1) = ((i + 1 : Nat) : Int) := by
    rw [wrap_id (by unfold I64; omega)]
    omega
  rw [module_Decode.l0, if_pos (by omega), if_pos (by omega), if_pos (by simp only [List.length_cons, List.length_nil]; omega), hs, hw]
  clear hw
  obtain ⟨r, hr, hI, _⟩ := byte_is hB hp s s
  rw [hr]
  simp only [Option.bind_some]
  rcases hI with ⟨v, q, rfl, hq, hrun⟩ | ⟨v, q, rfl, hrun⟩
  · rw [go_bind hrun]
    exact hn q hq
  · rw [go_stop hrun]
    exact l0_bad (4 - (i + 1)) k (i + 1) (q : Int) rfl (by omega) (by omega)
/-- Decode. -/
theorem dec_short (hB : Byt b) (hl : b.length ≤ 4096) {k : Nat} (hk : 4000 ≤ k) : module_Decode.f k b = some (out (go decT b 0)) := by
  obtain ⟨k, rfl⟩ : ∃ q, k = q + 4 := ⟨k - 4, by omega⟩
  unfold module_Decode.f
  rw [if_neg (by omega)]
  simp only [Option.bind_some]
  have h4 : ∀ q : Nat, q ≤ b.length → module_Decode.l0 k b [67, 83, 77, 1] 4 4 b (q : Int) false = some (out (go restT (b.drop q) q)) := fun q hq => l0_end hB (by omega) hq
  have h3 : ∀ q : Nat, q ≤ b.length → module_Decode.l0 (k + 1) b [67, 83, 77, 1] 4 3 b (q : Int) false = some (out (go ((byteT 1 1).bind fun _ => restT) (b.drop q) q)) := fun q hq => l0_step hB (i := 3) (by omega) rfl (by omega) hq h4
  have h2 : ∀ q : Nat, q ≤ b.length → module_Decode.l0 (k + 2) b [67, 83, 77, 1] 4 2 b (q : Int) false = some (out (go ((byteT 77 77).bind fun _ => (byteT 1 1).bind fun _ => restT) (b.drop q) q)) := fun q hq => l0_step hB (i := 2) (by omega) rfl (by omega) hq h3
  have h1 : ∀ q : Nat, q ≤ b.length → module_Decode.l0 (k + 3) b [67, 83, 77, 1] 4 1 b (q : Int) false = some (out (go ((byteT 83 83).bind fun _ => (byteT 77 77).bind fun _ => (byteT 1 1).bind fun _ => restT) (b.drop q) q)) := fun q hq => l0_step hB (i := 1) (by omega) rfl (by omega) hq h2
  exact l0_step hB (i := 0) (p := 0) (by omega) rfl (by omega) (by omega) h1
theorem dec_long (hl : 4096 < b.length) (k : Nat) : module_Decode.f k b = some (0, [], [], 2, 0) := by
  unfold module_Decode.f
  rw [if_pos (by omega)]
end
end Go.Proofs.Ytbdkphjpdoajpaa.Mdl
