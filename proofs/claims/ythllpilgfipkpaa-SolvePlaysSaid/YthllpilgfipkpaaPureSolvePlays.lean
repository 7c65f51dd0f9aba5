/- Any total is shared out among any sizes, or not, as said: SolvePlays answers true for every total and sizes. No condition. -/
import Derived.Test.YthllpilgfipkpaaQx15
import Derived.Test.YthllpilgfipkpaaSG
namespace Go.Proofs.Ythllpilgfipkpaa.Pure
open Go.RowKit Go.Proofs.Ythllpilgfipkpaa.Q Go.Proofs.YthllpilgfipkpaaW.PrintWords Go.Proofs.YthllpilgfipkpaaW.PrintLast Go.Proofs.Ythllpilgfipkpaa.Solve

theorem same_loop (x : List Int) (hx : x.length ≤ 16) : ∀ (d k i : Nat), x.length - i = d → i ≤ x.length → d + 1 ≤ k → casementref01_SameInts.l0 k x x (i : Int) = some true := by
  intro d
  induction d with
  | zero =>
    intro k i hd hi hk
    obtain ⟨k, rfl⟩ : ∃ q, k = q + 1 := ⟨k - 1, by omega⟩
    rw [casementref01_SameInts.l0, if_neg (by omega)]
  | succ d ih =>
    intro k i hd hi hk
    obtain ⟨k, rfl⟩ : ∃ q, k = q + 1 := ⟨k - 1, by omega⟩
    rw [casementref01_SameInts.l0, if_pos (by omega), if_pos (by omega), if_pos (by omega), if_pos rfl, wrap_id (n := (i : Int) + 1) (by unfold I64; omega), show ((i : Int) + 1) = ((i + 1 : Nat) : Int) from by omega]
    exact ih k (i + 1) (by omega) (by omega) (by omega)
theorem same_k (x : List Int) (hx : x.length ≤ 16) {k : Nat} (hk : 20 ≤ k) : casementref01_SameInts.f k x x = some true := by
  unfold casementref01_SameInts.f
  rw [if_pos rfl]
  exact same_loop x hx x.length k 0 (by omega) (by omega) (by omega)
section
variable {T : Int} {l : List S70} {x : List Int} {e : Int}
theorem plays_l1 (hx : x.length ≤ 16) (hl : l.length ≤ 9000000000000000000) (hs : ∀ k, 100 + l.length ≤ k → solve_Share.f k T l = some (x, e)) : ∀ (d k i : Nat) (y : List Int), x.length - i = d → i ≤ x.length → y.length = x.length → d + l.length + 200 ≤ k →
    casementlaw09_SolvePlays.l1 k T l y x (x.length : Int) (i : Int) = some true := by
  intro d
  induction d with
  | zero =>
    intro k i y hd hi hy hk
    obtain ⟨k, rfl⟩ : ∃ q, k = q + 1 := ⟨k - 1, by omega⟩
    rw [casementlaw09_SolvePlays.l1, if_neg (by omega), hs k (by omega)]
    simp only [Option.bind_some]
    rw [same_k x hx (by omega)]
    rfl
  | succ d ih =>
    intro k i y hd hi hy hk
    obtain ⟨k, rfl⟩ : ∃ q, k = q + 1 := ⟨k - 1, by omega⟩
    rw [casementlaw09_SolvePlays.l1, if_pos (by omega), if_pos (by omega), if_pos (by omega), wrap_id (n := (i : Int) + 1) (by unfold I64; omega), show ((i : Int) + 1) = ((i + 1 : Nat) : Int) from by omega]
    exact ih k (i + 1) _ (by omega) (by omega) (by simpa using hy) (by omega)
theorem plays_l0 (hx : x.length ≤ 16) (hl : l.length ≤ 9000000000000000000) (hs : ∀ k, 100 + l.length ≤ k → solve_Share.f k T l = some (x, e)) : ∀ (d k i : Nat), l.length - i = d → i ≤ l.length → d + l.length + 300 ≤ k →
    casementlaw09_SolvePlays.l0 k T l x x l (l.length : Int) (i : Int) = some true := by
  intro d
  induction d with
  | zero =>
    intro k i hd hi hk
    obtain ⟨k, rfl⟩ : ∃ q, k = q + 1 := ⟨k - 1, by omega⟩
    rw [casementlaw09_SolvePlays.l0, if_neg (by omega)]
    exact plays_l1 hx hl hs x.length k 0 x (by omega) (by omega) rfl (by omega)
  | succ d ih =>
    intro k i hd hi hk
    obtain ⟨k, rfl⟩ : ∃ q, k = q + 1 := ⟨k - 1, by omega⟩
    have hlt : i < l.length := by omega
    have hnext := ih k (i + 1) (by omega) (by omega) (by omega)
    rw [casementlaw09_SolvePlays.l0, if_pos (by omega), if_pos (by omega), if_pos (by omega), rdT_at l i hlt, check_k _ (by omega), refRight_eq, wrap_id (n := (i : Int) + 1) (by unfold I64; omega), show ((i : Int) + 1) = ((i + 1 : Nat) : Int) from by omega]
    simp only [Option.bind_some]
    cases right l[i]
    · exact hnext
    · exact hnext
end

theorem SolvePlays : casementlaw09_SolvePlays.Pure := by
  intro T l wT _ hb _
  have hl : l.length ≤ 9000000000000000000 := by omega
  have hmain : ∃ x e, x.length ≤ 16 ∧ (∀ k, 100 + l.length ≤ k → solve_Share.f k T l = some (x, e)) ∧ Evt (fun k => casementref09_Share.f k T l) (x, e) := by
    by_cases he : shareErr T l = 0
    · obtain ⟨hr, hn, h0, h1, h2⟩ := share_zero he
      exact ⟨_, _, by rw [tab_len]; exact hn, fun k hk => share_ok hr hn h0 h1 h2 (by omega), refShare_ok hr hn h0 h1 h2⟩
    · exact ⟨_, _, by simp, fun k hk => share_err hl he (by omega), refShare_err hl he⟩
  obtain ⟨x, e, hx, hs, K, hK⟩ := hmain
  obtain ⟨K2, hK2⟩ := refLeast_evt (l := l) (min l.length 16) 0 (by omega) (by omega)
  refine ⟨K + K2 + l.length + l.length + 401, ?_⟩
  obtain ⟨k, hk⟩ : ∃ k, k = K + K2 + l.length + l.length + 401 := ⟨_, rfl⟩
  rw [← hk]
  have hle : casementref09_Least.f k l = some (sumN (lwL l) (min l.length 16)) := hK2 k (by omega)
  unfold casementlaw09_SolvePlays.f
  rw [alive_k (by omega)]
  simp only [Option.bind_some, if_true]
  have h1 := hK k (by omega)
  (try simp only at h1)
  rw [hs k (by omega), h1]
  simp only [Option.bind_some, if_true]
  rw [same_k x hx (by omega)]
  simp only [Option.bind_some, if_true]
  rw [least_k l (by omega), hle]
  simp only [Option.bind_some]
  obtain ⟨q, rfl⟩ : ∃ q, k = q + 1 := ⟨k - 1, by omega⟩
  rw [show (sumN (lwL l) (min l.length 16) != sumN (lwL l) (min l.length 16)) = false from by simp, casementlaw09_SolvePlays.j0, if_neg (by decide)]
  exact plays_l0 hx hl hs l.length q 0 (by omega) (by omega) (by omega)
end Go.Proofs.Ythllpilgfipkpaa.Pure
