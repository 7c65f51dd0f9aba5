/- What is decoded is encoded as the same bytes, and spoiled it changes nothing: ModuleBack answers true for all bytes. No condition. -/
import Derived.Test.YtbdkphjpdoajpaaMU
import Derived.Test.YtbdkphjpdoajpaaQx30
namespace Go.Proofs.Ytbdkphjpdoajpaa.Pure
open Go.RowKit Go.Proofs.Ytbdkphjpdoajpaa.Q Go.Proofs.YtbdkphjpdoajpaaW.PrintWords Go.Proofs.YtbdkphjpdoajpaaW.PrintLast Go.Proofs.Ytbdkphjpdoajpaa.Mdl

theorem rdT_mem {l : List S44} {i : Nat} (h : i < l.length) : rd_T44 l (i : Int) ∈ l := by
  rw [rdT_at l i h]
  exact List.getElem_mem h
section
variable {b : List Int} {m : Int}
/-- The functions' first ops are spoiled: nothing stops it. -/
theorem l1_spoil {d : List Int} {n : Nat} (hn : n ≤ 1000) {R : Option Bool} {K : Nat} (hR : ∀ k, K ≤ k → ((module_Decode.f k b).bind fun bt508 => (module_Encode.f k bt508.1 bt508.2.1 bt508.2.2.1).bind fun bt519 => (if bt508.2.2.2.1 = 0 then (if bt519.2 = 0 then ((casementref01_SameBytes.f k bt519.1 b).bind fun t523 => (some t523)) else (some false)) else (some false))) = R) :
    ∀ (e i k : Nat) (l : List S44), n - i = e → i ≤ n → l.length = n → (∀ x ∈ l, 0 < x.f3.length) → K + e + 1 ≤ k →
    casementlaw12_ModuleBack.l1 k b (n : Int) (i : Int) m d l = R := by
  intro e
  induction e with
  | zero =>
    intro i k l he hi hl hx hk
    obtain ⟨k, rfl⟩ : ∃ q, k = q + 1 := ⟨k - 1, by omega⟩
    rw [casementlaw12_ModuleBack.l1, if_neg (by omega)]
    exact hR k (by omega)
  | succ e ih =>
    intro i k l he hi hl hx hk
    obtain ⟨k, rfl⟩ : ∃ q, k = q + 1 := ⟨k - 1, by omega⟩
    have hi' : i < l.length := by omega
    have h0 := hx _ (rdT_mem hi')
    have hw : wrap64 ((i : Int) + 1) = ((i + 1 : Nat) : Int) := by
      rw [wrap_id (by unfold I64; omega)]
      omega
    rw [casementlaw12_ModuleBack.l1, if_pos (by omega), if_pos (by omega), if_pos (by omega), if_pos (by omega), hw]
    clear hw
    refine ih (i + 1) k _ (by omega) (by omega) (by rw [List.length_set]; exact hl) ?_ (by omega)
    intro x hx'
    rcases List.mem_or_eq_of_mem_set hx' with h | h
    · exact hx x h
    · rw [h]
      simpa using h0
theorem l0_spoil {n : Nat} (hn : n ≤ 5000) {R : Option Bool} {K : Nat} {l : List S44} (hR : ∀ (k : Nat) (d : List Int), K ≤ k → casementlaw12_ModuleBack.l1 k b (l.length : Int) 0 m d l = R) :
    ∀ (e i k : Nat) (d : List Int), n - i = e → i ≤ n → d.length = n → K + e + 1 ≤ k →
    casementlaw12_ModuleBack.l0 k b (n : Int) (i : Int) m d l = R := by
  intro e
  induction e with
  | zero =>
    intro i k d he hi hd hk
    obtain ⟨k, rfl⟩ : ∃ q, k = q + 1 := ⟨k - 1, by omega⟩
    rw [casementlaw12_ModuleBack.l0, if_neg (by omega)]
    exact hR k d (by omega)
  | succ e ih =>
    intro i k d he hi hd hk
    obtain ⟨k, rfl⟩ : ∃ q, k = q + 1 := ⟨k - 1, by omega⟩
    have hw : wrap64 ((i : Int) + 1) = ((i + 1 : Nat) : Int) := by
      rw [wrap_id (by unfold I64; omega)]
      omega
    rw [casementlaw12_ModuleBack.l0, if_pos (by omega), if_pos (by omega), if_pos (by omega), hw]
    clear hw
    exact ih (i + 1) k _ (by omega) (by omega) (by rw [List.length_set]; exact hd) (by omega)
end
theorem ModuleBack : casementlaw12_ModuleBack.Pure := by
  intro b _ hb hv
  have hb8 : ∀ v ∈ b, 0 ≤ v ∧ v ≤ 255 := fun v h => u8_of (hv v h)
  by_cases c : b.length ≤ 4096
  · have hB : Byt b := ⟨hb8, by omega⟩
    cases hgo : go decT b 0 with
    | mk q o =>
      cases o with
      | none =>
        refine ⟨5000, ?_⟩
        unfold casementlaw12_ModuleBack.f
        rw [alive_k (by omega)]
        simp only [Option.bind_some, if_true]
        rw [dec_short hB c (by omega), hgo]
        have hq := go_none hgo
        simp only [out, Option.bind_some]
        rw [if_neg (by decide), if_pos (by omega), if_pos (by omega)]
        rfl
      | some v =>
        obtain ⟨m, d, l⟩ := v
        obtain ⟨hg, hbm⟩ := dec_some hB c hgo
        simp only at hg hbm
        have hlm : (modB m d l).length ≤ 4096 := by rw [← hbm]; exact c
        obtain ⟨K, hK⟩ := enc_ok (mok_good hg)
        rw [enc_good hg hlm, ← hbm] at hK
        obtain ⟨h1, h2⟩ := (mod_ok m d l).1 hg.1
        have hend : ∀ k, K + 5000 ≤ k → ((module_Decode.f k b).bind fun bt508 => (module_Encode.f k bt508.1 bt508.2.1 bt508.2.2.1).bind fun bt519 => (if bt508.2.2.2.1 = 0 then (if bt519.2 = 0 then ((casementref01_SameBytes.f k bt519.1 b).bind fun t523 => (some t523)) else (some false)) else (some false))) = some true := by
          intro k hk
          have q1 := hK k (by omega)
          simp only at q1
          rw [dec_short hB c (by omega), hgo]
          simp only [out, Option.bind_some]
          rw [q1]
          simp only [Option.bind_some, if_true]
          rw [same_bytes (by omega) (by omega)]
          simp
        have hl1 : ∀ (k : Nat) (d' : List Int), K + 5000 + l.length + 1 ≤ k → casementlaw12_ModuleBack.l1 k b (l.length : Int) 0 m d' l = some true := fun k d' hk => l1_spoil (n := l.length) (by omega) hend l.length 0 k l (by omega) (by omega) rfl (fun x hx => by have := ((fn_ok x).1 (h2 x hx)).1; omega) (by omega)
        refine ⟨K + 5000 + l.length + 1 + d.length + 3, ?_⟩
        have hl0 := l0_spoil (n := d.length) (by omega) hl1 d.length 0 (K + 5000 + l.length + 1 + d.length + 2) d (by omega) (by omega) rfl (by omega)
        have q1 := hK (K + 5000 + l.length + 1 + d.length + 3) (by omega)
        simp only at q1
        unfold casementlaw12_ModuleBack.f
        rw [alive_k (by omega)]
        simp only [Option.bind_some, if_true]
        rw [dec_short hB c (by omega), hgo]
        simp only [out, Option.bind_some, if_true]
        rw [q1]
        simp only [Option.bind_some, if_true]
        rw [same_bytes (by omega) (by omega)]
        simp only [Option.bind_some, decide_true, Bool.not_true]
        rw [casementlaw12_ModuleBack.j0, if_neg (by decide)]
        exact hl0
  · refine ⟨5000, ?_⟩
    unfold casementlaw12_ModuleBack.f
    rw [alive_k (by omega)]
    simp only [Option.bind_some, if_true]
    rw [dec_long (by omega)]
    simp only [Option.bind_some]
    rw [if_neg (by decide), if_pos (by decide), if_pos (by omega)]
    rfl
end Go.Proofs.Ytbdkphjpdoajpaa.Pure
