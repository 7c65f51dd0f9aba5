/- The heights that the program finds are right, or there are none. Condition: the function's instructions may be. -/
import Derived.Test.YtgngbbkaghmnpaaCB
import Derived.Test.YtgngbbkaghmnpaaQx13
namespace Go.Proofs.Ytgngbbkaghmnpaa.Chk
open Go.RowKit Go.Proofs.Ytgngbbkaghmnpaa.Q Go.Proofs.YtgngbbkaghmnpaaW.PrintWords Go.Proofs.YtgngbbkaghmnpaaW.PrintLast Go.Proofs.YtgngbbkaghmnpaaW.PrintMore

/-- What is known of a function's instructions. -/
structure Fits (m : Int) (d : List Int) (l : List S42) (f : Int) (c : List S46) (T P : Int → Int) (ret : Int → Prop) (nx : Int → List Int) : Prop where
  f0 : 0 ≤ f
  f1 : f < (l.length : Int)
  code : (rd_T42 l f).f3 = c
  n0 : 0 < (c.length : Int)
  n1 : (c.length : Int) ≤ 400
  tk : ∀ i, 0 ≤ i → i < (c.length : Int) → 0 ≤ T i ∧ T i ≤ 8
  pt : ∀ i, 0 ≤ i → i < (c.length : Int) → 0 ≤ P i ∧ P i ≤ 8
  two : ∀ i, 0 ≤ i → i < (c.length : Int) → (nx i).length ≤ 2
  nr : ∀ i, 0 ≤ i → i < (c.length : Int) → ∀ t ∈ nx i, 0 ≤ t ∧ t ≤ (c.length : Int)
  rt : ∀ i, 0 ≤ i → i < (c.length : Int) → (ret i ↔ (rd_T46 c i).f0 = 27)
  eff : ∀ i, 0 ≤ i → i < (c.length : Int) → ∃ b, ∀ k, 6 ≤ k → check_Effect.f k m d l f (rd_T46 c i).f0 (rd_T46 c i).f1 = some (T i, P i, b)
  nxt : ∀ i, 0 ≤ i → i < (c.length : Int) → ∀ k, 1 ≤ k → check_next.f k i (rd_T46 c i).f0 (rd_T46 c i).f1 = some (nx i)
theorem Fits.hx {m : Int} {d : List Int} {l : List S42} {f : Int} {c : List S46} {T P : Int → Int} {ret : Int → Prop} {nx : Int → List Int} (h : Fits m d l f c T P ret nx) : ∀ i, 0 ≤ i → i < (c.length : Int) → ∀ t ∈ nx i, 0 ≤ t := fun i a b t ht => (h.nr i a b t ht).1
theorem Fits.hP {m : Int} {d : List Int} {l : List S42} {f : Int} {c : List S46} {T P : Int → Int} {ret : Int → Prop} {nx : Int → List Int} (h : Fits m d l f c T P ret nx) : ∀ i, 0 ≤ i → i < (c.length : Int) → 0 ≤ P i := fun i a b => (h.pt i a b).1
section
variable {m : Int} {d : List Int} {l : List S42} {f : Int} {c : List S46} {T P : Int → Int} {ret : Int → Prop} {nx : Int → List Int}
/-- What is right of all places, but one, while the places behind it are gone through. -/
structure Wk (c : List S46) (T P : Int → Int) (ret : Int → Prop) (nx : Int → List Int) (out todo : List Int) (skip : Int → Prop) : Prop where
  inv : Inv (c.length : Int) (T) (P) (nx) out
  td : ∀ t ∈ todo, 0 ≤ t ∧ t < (c.length : Int) ∧ 0 ≤ rd out t
  done : ∀ i, 0 ≤ i → i < (c.length : Int) → 0 ≤ rd out i → i ∉ todo → ¬ skip i → Done (c.length : Int) (T) (P) (ret) (nx) out i
theorem rd_mem {xs : List Int} {i : Int} (h0 : 0 ≤ i) (h1 : i < (xs.length : Int)) : rd xs i ∈ xs := by
  unfold rd
  have h : i.toNat < xs.length := by omega
  simp [List.getD, h]
theorem l2_ok (hO : Fits m d l f c T P ret nx) {at_ hh : Int} (a0 : 0 ≤ at_) (a1 : at_ < (c.length : Int)) (hb : ¬ Bad (T) (P) (ret) at_ hh) (hh1 : hh ≤ 64) : ∀ (e : Nat) (k j : Nat) (out todo : List Int), (nx at_).length - j = e → j ≤ (nx at_).length → 2 * e + 1 ≤ k →
    Wk c T P ret nx out todo (fun i => i = at_) → rd out at_ = hh → 0 ≤ hh → (∀ q : Int, 0 ≤ q → q < (j : Int) → rd (nx at_) q < (c.length : Int) ∧ rd out (rd (nx at_) q) = hh - T at_ + P at_) → todo.length + holes out ≤ 1000 →
    (check_heights.l2 k f c out todo (P at_) (hh - T at_) (nx at_) ((nx at_).length : Int) (j : Int) m d l = some ([], false) ∧ (∀ S, ¬ Sol (c.length : Int) T P ret nx S)) ∨
    ∃ k' out' todo', check_heights.l2 k f c out todo (P at_) (hh - T at_) (nx at_) ((nx at_).length : Int) (j : Int) m d l = check_heights.l1 k' f c out' todo' m d l ∧ k = k' + 2 * e + 1 ∧
      Wk c T P ret nx out' todo' (fun _ => False) ∧ todo'.length + holes out' = todo.length + holes out := by
  intro e
  induction e with
  | zero =>
    intro k j out todo he hj hk hW hat hh0 hq hsz
    obtain ⟨k, rfl⟩ : ∃ q, k = q + 1 := ⟨k - 1, by omega⟩
    right
    refine ⟨k, out, todo, ?_, by omega, ⟨hW.inv, hW.td, ?_⟩, rfl⟩
    · rw [check_heights.l2, if_neg (by omega)]
    · intro i i0 i1 hi ht _
      by_cases q : i = at_
      · subst q
        refine ⟨by rw [hat]; exact hb, ?_⟩
        intro t ht2
        obtain ⟨p, hp, rfl⟩ := List.getElem_of_mem ht2
        have := hq (p : Int) (by omega) (by omega)
        rw [hat]
        simpa [rd, List.getD, hp] using this
      · exact hW.done i i0 i1 hi ht q
  | succ e ih =>
    intro k j out todo he hj hk hW hat hh0 hq hsz
    obtain ⟨k, rfl⟩ : ∃ q, k = q + 2 := ⟨k - 2, by omega⟩
    have hlen := hW.inv.len
    have hn1 := hO.n1
    have htk := hO.tk at_ a0 a1
    have hpt := hO.pt at_ a0 a1
    have hm : rd (nx at_) (j : Int) ∈ nx at_ := rd_mem (by omega) (by omega)
    have hr := hO.nr at_ a0 a1 _ hm
    have hb1 : 0 ≤ hh - T at_ := by
      rcases Int.lt_or_le (hh - T at_) 0 with q | q
      · exact absurd (Or.inl q) hb
      · exact q
    have hb2 : hh - T at_ + P at_ ≤ 64 := by
      rcases Int.lt_or_le 64 (hh - T at_ + P at_) with q | q
      · exact absurd (Or.inr (Or.inl q)) hb
      · exact q
    have hw : PLift (wrap64 (hh - T at_ + P at_) = hh - T at_ + P at_) := ⟨wrap_id (by unfold I64; omega)⟩
    have hj1 : PLift (wrap64 ((j : Int) + 1) = ((j + 1 : Nat) : Int)) := ⟨by
      have h2 := hO.two at_ a0 a1
      rw [wrap_id (by unfold I64; omega)]
      omega⟩
    have hrc : Rch (c.length : Int) (T) (P) (nx) at_ hh := by
      have := hW.inv.rch at_ a0 a1 (by omega)
      rwa [hat] at this
    rw [check_heights.l2, if_pos (by omega), if_pos (by omega), if_pos (by omega)]
    by_cases c1 : rd (nx at_) (j : Int) = (c.length : Int)
    · left
      rw [if_pos c1, check_heights.j4, if_pos rfl]
      exact ⟨rfl, no_sol hO.n0 hO.hP hO.hx hrc (Or.inr ⟨_, hm, Or.inl (by omega)⟩)⟩
    · rw [if_neg c1, if_pos hr.1, if_pos (by omega)]
      by_cases c2 : rd out (rd (nx at_) (j : Int)) ≥ 0
      · rw [if_pos c2, hw.down]
        by_cases c3 : rd out (rd (nx at_) (j : Int)) = hh - T at_ + P at_
        · rw [check_heights.j4, if_neg (by simp [c3]), if_pos hr.1, if_pos (by omega), if_neg (by omega), hj1.down]
          have := ih k (j + 1) out todo (by omega) (by omega) (by omega) hW hat hh0 (by
            intro q q0 q1
            by_cases z : q = (j : Int)
            · subst z
              exact ⟨by omega, c3⟩
            · exact hq q q0 (by omega)) hsz
          rcases this with h | ⟨k', out', todo', h1, h2, h3, h4⟩
          · exact Or.inl h
          · exact Or.inr ⟨k', out', todo', h1, by omega, h3, h4⟩
        · left
          rw [check_heights.j4, if_pos (by simpa using c3)]
          exact ⟨rfl, no_sol hO.n0 hO.hP hO.hx hrc (Or.inr ⟨_, hm, Or.inr ⟨_, hW.inv.rch _ hr.1 (by omega) c2, c3⟩⟩)⟩
      · rw [if_neg c2, check_heights.j4, if_neg (by simp), if_pos hr.1, if_pos (by omega), if_pos (by omega), if_pos (by omega), hj1.down, hw.down]
        have hne : rd out (rd (nx at_) (j : Int)) < 0 := by omega
        have hold : ∀ i, 0 ≤ i → 0 ≤ rd out i → rd (out.set (rd (nx at_) (j : Int)).toNat (hh - T at_ + P at_)) i = rd out i := by
          intro i i0 hi
          rw [rd_set hr.1 (by omega) i0, if_neg (by intro q; rw [q] at hi; omega)]
        have hsame : rd (out.set (rd (nx at_) (j : Int)).toNat (hh - T at_ + P at_)) (rd (nx at_) (j : Int)) = hh - T at_ + P at_ := by
          rw [rd_set hr.1 (by omega) hr.1, if_pos rfl]
        have hhol := holes_set (xs := out) hr.1 (by omega) hne (v := hh - T at_ + P at_) (by omega)
        have hW' : Wk c T P ret nx (out.set (rd (nx at_) (j : Int)).toNat (hh - T at_ + P at_)) (todo ++ [rd (nx at_) (j : Int)]) (fun i => i = at_) := by
          refine ⟨hW.inv.put hr.1 (by omega) hne (by omega) hb2 (Rch.step hrc hm), ?_, ?_⟩
          · intro t ht
            rw [List.mem_append, List.mem_singleton] at ht
            rcases ht with ht | ht
            · obtain ⟨x, y, z⟩ := hW.td t ht
              exact ⟨x, y, by rw [hold t x z]; exact z⟩
            · rw [ht, hsame]
              exact ⟨hr.1, by omega, by omega⟩
          · intro i i0 i1 hi ht hs
            rw [List.mem_append, List.mem_singleton] at ht
            have hit : i ≠ rd (nx at_) (j : Int) := fun q => ht (Or.inr q)
            have e : rd (out.set (rd (nx at_) (j : Int)).toNat (hh - T at_ + P at_)) i = rd out i := by
              rw [rd_set hr.1 (by omega) i0, if_neg hit]
            rw [e] at hi
            exact Done.put hlen hO.hP hO.hx hr.1 (by omega) hne i0 i1 hi (hW.done i i0 i1 hi (fun q => ht (Or.inl q)) hs)
        have := ih k (j + 1) _ _ (by omega) (by omega) (by omega) hW' (by rw [hold at_ a0 (by omega)]; exact hat) hh0 (by
            intro q q0 q1
            by_cases z : q = (j : Int)
            · subst z
              exact ⟨by omega, hsame⟩
            · have := hq q q0 (by omega)
              have hq1 : rd (nx at_) q ∈ nx at_ := rd_mem q0 (by omega)
              have hq2 := hO.nr at_ a0 a1 _ hq1
              exact ⟨this.1, by rw [hold _ hq2.1 (by omega)]; exact this.2⟩) (by simp only [List.length_append, List.length_singleton]; omega)
        rcases this with h | ⟨k', out', todo', h1, h2, h3, h4⟩
        · exact Or.inl h
        · refine Or.inr ⟨k', out', todo', h1, by omega, h3, ?_⟩
          simp only [List.length_append, List.length_singleton] at h4
          omega
theorem l1_ok (hO : Fits m d l f c T P ret nx) : ∀ (e : Nat) (k : Nat) (out todo : List Int), todo.length + holes out ≤ e → 8 * e + 20 ≤ k → e ≤ 1000 → Wk c T P ret nx out todo (fun _ => False) →
    ∃ r, check_heights.l1 k f c out todo m d l = some r ∧ Spec (c.length : Int) T P ret nx r := by
  intro e
  induction e with
  | zero =>
    intro k out todo he hk _ hW
    obtain ⟨k, rfl⟩ : ∃ q, k = q + 1 := ⟨k - 1, by omega⟩
    obtain rfl : todo = [] := List.length_eq_zero_iff.1 (by omega)
    rw [check_heights.l1, if_neg (by simp)]
    exact ⟨_, rfl, Or.inl ⟨rfl, ⟨hW.inv.len, hW.inv.zero, fun i a b c => hW.done i a b c (by simp) (by simp)⟩, hW.inv⟩⟩
  | succ e ih =>
    intro k out todo he hk hee hW
    obtain ⟨k, rfl⟩ : ∃ q, k = q + 2 := ⟨k - 2, by omega⟩
    have hlen := hW.inv.len
    have hn1 := hO.n1
    rcases List.eq_nil_or_concat todo with rfl | ⟨init, a, rfl⟩
    · rw [check_heights.l1, if_neg (by simp)]
      exact ⟨_, rfl, Or.inl ⟨rfl, ⟨hW.inv.len, hW.inv.zero, fun i a b c => hW.done i a b c (by simp) (by simp)⟩, hW.inv⟩⟩
    · rw [List.concat_eq_append] at *
      obtain ⟨a0, a1, a2⟩ := hW.td a (by simp)
      have hlow := hW.inv.low a a0 a1
      have htk := hO.tk a a0 a1
      have hpt := hO.pt a a0 a1
      have hl1 : (((init ++ [a]).length : Nat) : Int) = (init.length : Int) + 1 := by simp
      have e1 : PLift (wrap64 ((((init ++ [a]).length : Nat) : Int) - 1) = (init.length : Int)) := ⟨by
        rw [hl1, wrap_id (by unfold I64; simp only [List.length_append, List.length_singleton] at he; omega)]
        omega⟩
      have e2 : (init ++ [a]).take ((init.length : Int)).toNat = init := by simp
      have e3 : rd (init ++ [a]) (init.length : Int) = a := by simp [rd, List.getD]
      obtain ⟨bb, hE⟩ := hO.eff a a0 a1
      have hw1 : PLift (wrap64 (rd out a - T a) = rd out a - T a) := ⟨wrap_id (by unfold I64; omega)⟩
      have hw2 : PLift (wrap64 (rd out a - T a + P a) = rd out a - T a + P a) := ⟨wrap_id (by unfold I64; omega)⟩
      have hrc := hW.inv.rch a a0 a1 a2
      rw [check_heights.l1, hl1, if_pos (by omega), ← hl1, e1.down, if_pos (by omega), if_pos (by omega), if_pos (by omega), e2, e3]
      simp only [Option.bind_some]
      rw [if_pos a0, if_pos a1, hE (k + 1) (by omega)]
      simp only [Option.bind_some]
      rw [if_pos (by omega), hw1.down, hw2.down]
      by_cases hb : Bad (T) (P) (ret) a (rd out a)
      · refine ⟨([], false), ?_, Or.inr ⟨rfl, no_sol hO.n0 hO.hP hO.hx hrc (Or.inl hb)⟩⟩
        by_cases b1 : rd out a - T a < 0
        · rw [if_pos b1, check_heights.j2, if_pos rfl]
        · rw [if_neg b1]
          by_cases b2 : rd out a - T a + P a > 64
          · rw [if_pos b2, check_heights.j2, if_pos rfl]
          · rw [if_neg b2]
            rcases hb with hb | hb | ⟨hb, hc⟩
            · exact absurd hb b1
            · exact absurd hb b2
            · rw [if_pos ((hO.rt a a0 a1).1 hb), check_heights.j2, if_pos (by simpa using hc)]
      · have b1 : ¬ rd out a - T a < 0 := fun q => hb (Or.inl q)
        have b2 : ¬ rd out a - T a + P a > 64 := fun q => hb (Or.inr (Or.inl q))
        rw [if_neg b1, if_neg b2]
        have hj : ∀ (g : Bool), g = false → check_heights.j2 (k + 1) f c out init a (P a) (rd out a - T a) g m d l = check_heights.l2 k f c out init (P a) (rd out a - T a) (nx a) ((nx a).length : Int) ((0 : Nat) : Int) m d l := by
          intro g hg
          subst hg
          rw [check_heights.j2, if_neg (by simp), if_pos a0, if_pos a1, hO.nxt a a0 a1 _ (by omega)]
          rfl
        have hgo : (if (rd_T46 c a).f0 = 27 then check_heights.j2 (k + 1) f c out init a (P a) (rd out a - T a) ((rd out a - T a) != 0) m d l else check_heights.j2 (k + 1) f c out init a (P a) (rd out a - T a) false m d l) = check_heights.l2 k f c out init (P a) (rd out a - T a) (nx a) ((nx a).length : Int) ((0 : Nat) : Int) m d l := by
          split
          · rename_i q
            apply hj
            have : ¬ (rd out a - T a ≠ 0) := fun z => hb (Or.inr (Or.inr ⟨(hO.rt a a0 a1).2 q, z⟩))
            simp only [bne_eq_false_iff_eq]
            omega
          · exact hj _ rfl
        rw [hgo]
        have h2 := hO.two a a0 a1
        have hsz : init.length + 1 + holes out ≤ e + 1 := by simpa using he
        have := l2_ok hO a0 a1 hb hlow.2 ((nx a).length) k 0 out init (by omega) (by omega) (by omega) ⟨hW.inv, fun t ht => hW.td t (by simp [ht]), fun i i0 i1 hi ht hs => hW.done i i0 i1 hi (by simp [ht, hs]) (by simp)⟩ rfl a2 (by intro q q0 q1; omega) (by omega)
        rcases this with ⟨h, hs⟩ | ⟨k', out', todo', h1, h3, h4, h5⟩
        · exact ⟨_, h, Or.inr ⟨rfl, hs⟩⟩
        · rw [h1]
          exact ih k' out' todo' (by omega) (by omega) (by omega) h4
theorem l0_ok : ∀ (e k i : Nat) (xs : List Int), xs.length - i = e → i ≤ xs.length → xs.length ≤ 400 → 0 < xs.length → e + 1 ≤ k → (∀ j : Int, 0 ≤ j → j < (i : Int) → rd xs j = -1) →
    ∃ k' ys, check_heights.l0 k f c xs (xs.length : Int) (i : Int) m d l = check_heights.l1 k' f c (ys.set 0 0) [0] m d l ∧ k = k' + e + 1 ∧ ys.length = xs.length ∧ ∀ j : Int, 0 ≤ j → j < (xs.length : Int) → rd ys j = -1 := by
  intro e
  induction e with
  | zero =>
    intro k i xs he hi hn h0 hk hx
    obtain ⟨k, rfl⟩ : ∃ q, k = q + 1 := ⟨k - 1, by omega⟩
    refine ⟨k, xs, ?_, rfl, rfl, fun j a b => hx j a (by omega)⟩
    rw [check_heights.l0, if_neg (by omega), if_pos (by omega)]
    rfl
  | succ e ih =>
    intro k i xs he hi hn h0 hk hx
    obtain ⟨k, rfl⟩ : ∃ q, k = q + 1 := ⟨k - 1, by omega⟩
    rw [check_heights.l0, if_pos (by omega), if_pos (by omega), if_pos (by omega), wrap_id (by unfold I64; omega), show (i : Int) + 1 = ((i + 1 : Nat) : Int) from by omega]
    have hl : (xs.set ((i : Int)).toNat (-1)).length = xs.length := by simp
    have := ih k (i + 1) (xs.set ((i : Int)).toNat (-1)) (by omega) (by omega) (by omega) (by omega) (by omega) (by
      intro j j0 j1
      rw [rd_set (by omega) (by omega) j0]
      split
      · rfl
      · exact hx j j0 (by omega))
    rw [hl] at this
    obtain ⟨k', ys, h1, h2, h3, h4⟩ := this
    exact ⟨k', ys, h1, by omega, h3, h4⟩
/-- What is found of heights is right. -/
theorem heights_ok (hO : Fits m d l f c T P ret nx) {k : Nat} (hk : 8 * c.length + c.length + 100 ≤ k) : ∃ r, check_heights.f k m d l f = some r ∧ Spec (c.length : Int) T P ret nx r := by
  have n0 := hO.n0
  have n1 := hO.n1
  unfold check_heights.f
  rw [if_pos hO.f0, if_pos hO.f1, hO.code]
  rw [if_pos (by omega), if_pos (by omega)]
  simp only [Option.bind_some]
  obtain ⟨k', ys, h1, h2, h3, h4⟩ := l0_ok (m := m) (d := d) (l := l) (f := f) (c := c) c.length k 0 (List.replicate ((c.length : Int)).toNat (0 : Int)) (by simp) (by omega) (by simp; omega) (by simp; omega) (by omega) (by intro j a b; omega)
  have h1' : check_heights.l0 k f c (List.replicate ((c.length : Int)).toNat (0 : Int)) ((List.replicate ((c.length : Int)).toNat (0 : Int)).length : Int) 0 m d l = check_heights.l1 k' f c (ys.set 0 0) [0] m d l := h1
  rw [h1']
  have hl : ys.length = c.length := by rw [h3]; simp
  have e0 : ∀ j : Int, 0 ≤ j → j < (c.length : Int) → rd (ys.set 0 0) j = if j = 0 then 0 else -1 := by
    intro j j0 j1
    have := rd_set (xs := ys) (i := 0) (v := 0) (j := j) (by omega) (by omega) j0
    rw [show ((0 : Int)).toNat = 0 from rfl] at this
    rw [this]
    split
    · rfl
    · exact h4 j j0 (by simp; omega)
  have hc : holes (ys.set 0 0) ≤ (ys.set 0 0).length := List.countP_le_length
  have hls : (ys.set 0 0).length = c.length := by simp [hl]
  refine l1_ok hO (1 + c.length) k' (ys.set 0 0) [0] (by simp only [List.length_singleton]; omega) (by omega) (by omega) ⟨⟨by omega, by rw [e0 0 (by omega) (by omega)]; rfl, ?_, ?_⟩, ?_, ?_⟩
  · intro i i0 i1
    rw [e0 i i0 i1]
    split <;> omega
  · intro i i0 i1
    rw [e0 i i0 i1]
    split
    · rename_i q; intro _; rw [q]; exact Rch.zero
    · intro q; omega
  · intro t ht
    simp only [List.mem_singleton] at ht
    subst ht
    rw [e0 0 (by omega) (by omega)]
    exact ⟨by omega, by omega, by simp⟩
  · intro i i0 i1 hi ht _
    rw [e0 i i0 i1] at hi
    simp only [List.mem_singleton] at ht
    rw [if_neg ht] at hi
    omega
end
def code (l : List S42) (f : Int) : List S46 := (rd_T42 l f).f3
def nxl (i : Int) (c : S46) : List Int := if c.f0 = 27 ∨ c.f0 = 29 then [] else if c.f0 = 24 then [c.f1] else if c.f0 = 25 then [c.f1, i + 1] else [i + 1]
def nx (l : List S42) (f i : Int) : List Int := nxl i (rd_T46 (code l f) i)
def Tk (l : List S42) (f i : Int) : Int := (eT l f (rd_T46 (code l f) i).f0 (rd_T46 (code l f) i).f1).1
def Pt (l : List S42) (f i : Int) : Int := (eT l f (rd_T46 (code l f) i).f0 (rd_T46 (code l f) i).f1).2.1
def isRet (l : List S42) (f i : Int) : Prop := (rd_T46 (code l f) i).f0 = 27
structure Fine (l : List S42) (f : Int) : Prop where
  f0 : 0 ≤ f
  f1 : f < (l.length : Int)
  n0 : 0 < ((code l f).length : Int)
  n1 : ((code l f).length : Int) ≤ 400
  tk : ∀ i, 0 ≤ i → i < ((code l f).length : Int) → 0 ≤ Tk l f i ∧ Tk l f i ≤ 8
  pt : ∀ i, 0 ≤ i → i < ((code l f).length : Int) → 0 ≤ Pt l f i ∧ Pt l f i ≤ 8
  jm : ∀ i, 0 ≤ i → i < ((code l f).length : Int) → (rd_T46 (code l f) i).f0 = 24 ∨ (rd_T46 (code l f) i).f0 = 25 → 0 ≤ (rd_T46 (code l f) i).f1 ∧ (rd_T46 (code l f) i).f1 < ((code l f).length : Int)
section
variable {l : List S42} {f : Int}
theorem Fine.nx (h : Fine l f) : ∀ i, 0 ≤ i → i < ((code l f).length : Int) → ∀ t ∈ nx l f i, 0 ≤ t ∧ t ≤ ((code l f).length : Int) := by
  intro i i0 i1 t ht
  have hj := h.jm i i0 i1
  unfold Chk.nx nxl at ht
  split at ht
  · simp at ht
  · split at ht
    · rename_i a b
      have := hj (Or.inl b)
      simp only [List.mem_singleton] at ht
      omega
    · split at ht
      · rename_i a b c
        have := hj (Or.inr c)
        simp only [List.mem_cons, List.not_mem_nil, or_false] at ht
        omega
      · simp only [List.mem_singleton] at ht
        omega
theorem next_is {k : Nat} {i : Int} {c : S46} (hk : 1 ≤ k) (hi : I64 (i + 1)) : check_next.f k i c.f0 c.f1 = some (nxl i c) := by
  obtain ⟨k, rfl⟩ : ∃ q, k = q + 1 := ⟨k - 1, by omega⟩
  unfold check_next.f
  by_cases a : c.f0 = 27
  · rw [if_pos a, check_next.j0, if_pos (by simp [a]), nxl, if_pos (Or.inl a)]
  · rw [if_neg a, check_next.j0]
    by_cases b : c.f0 = 29
    · rw [if_pos (by simp [b]), nxl, if_pos (Or.inr b)]
    · rw [if_neg (by simp [b]), nxl, if_neg (show ¬ (c.f0 = 27 ∨ c.f0 = 29) by omega), wrap_id hi]
      by_cases c4 : c.f0 = 24
      · rw [if_pos c4, if_pos c4]
      · rw [if_neg c4, if_neg c4]
        by_cases c5 : c.f0 = 25
        · rw [if_pos c5, if_pos c5]
        · rw [if_neg c5, if_neg c5]
theorem Fine.fits {m : Int} {d : List Int} (h : Fine l f) : Fits m d l f (code l f) (Tk l f) (Pt l f) (isRet l f) (Chk.nx l f) := by
  have n1 := h.n1
  refine ⟨h.f0, h.f1, rfl, h.n0, h.n1, h.tk, h.pt, ?_, h.nx, fun i _ _ => Iff.rfl, ?_, ?_⟩
  · intro i _ _
    unfold Chk.nx nxl
    repeat' split
    all_goals simp
  · intro i _ _
    exact ⟨_, fun k hk => eff_tab h.f0 h.f1 hk⟩
  · intro i i0 i1 k hk
    exact next_is hk (by unfold I64; omega)
end
end Go.Proofs.Ytgngbbkaghmnpaa.Chk
