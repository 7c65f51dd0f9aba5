/- Every module has the bytes, or none, that are said, and decoded they are it: ModuleEncodes answers true for every module. No condition. -/
import Derived.Test.YtbdkphjpdoajpaaMX
import Derived.Test.YtbdkphjpdoajpaaQx29
namespace Go.Proofs.Ytbdkphjpdoajpaa.Pure
open Go.RowKit Go.Proofs.Ytbdkphjpdoajpaa.Q Go.Proofs.YtbdkphjpdoajpaaW.PrintWords Go.Proofs.YtbdkphjpdoajpaaW.PrintLast Go.Proofs.Ytbdkphjpdoajpaa.Mdl

theorem ModuleEncodes : casementlaw12_ModuleEncodes.Pure := by
  intro m d l hm _ hd hdv _ hl hx
  have hM : Mok m d l := ⟨i64_of hm, by omega, by omega, hx⟩
  have hd8 : ∀ v ∈ d, 0 ≤ v ∧ v ≤ 255 := fun v hv => u8_of (hdv v hv)
  obtain ⟨K, hK⟩ := enc_ok hM
  obtain ⟨K1, hK1⟩ := renc_ok hM
  by_cases c : (encR m d l).2 = 0
  · obtain ⟨he, hg, hlen⟩ := enc_fine hx hd8 c
    rw [he] at hK hK1
    obtain ⟨h1, h2⟩ := (mod_ok m d l).1 hg.1
    obtain ⟨r, ⟨K2, hK2⟩, hr⟩ := same_is (m := m) (m' := m) (d := d) (d' := d) (l := l) (l' := l) (by omega) (by omega) (fun x hx => by have := ((fn_ok x).1 (h2 x hx)).1; omega)
    refine ⟨K + K1 + K2 + 5001, ?_⟩
    have q1 := hK (K + K1 + K2 + 5001) (by omega)
    have q2 := hK1 (K + K1 + K2 + 5001) (by omega)
    have q3 := hK2 (K + K1 + K2 + 5000) (by omega)
    simp only at q1 q2
    unfold casementlaw12_ModuleEncodes.f
    rw [alive_k (by omega)]
    simp only [Option.bind_some, if_true]
    rw [q1, q2]
    simp only [Option.bind_some, if_true]
    rw [same_bytes (by omega) (by omega)]
    simp only [Option.bind_some, decide_true, Bool.not_true]
    rw [casementlaw12_ModuleEncodes.j0, if_neg (by decide), if_pos rfl, dec_short (byt_mod hg hlen) hlen (by omega), go_acc 0 (dec_mod hg)]
    simp only [out, Option.bind_some, if_true]
    rw [q3, hr.2 ⟨rfl, rfl, rfl⟩]
    rfl
  · refine ⟨K + K1 + 5001, ?_⟩
    have q1 := hK (K + K1 + 5001) (by omega)
    have q2 := hK1 (K + K1 + 5001) (by omega)
    simp only at q1 q2
    have hnil : (encR m d l).1 = [] := by
      unfold encR fin at c ⊢
      by_cases h1 : modOk m d l = true
      · rw [if_pos h1] at c ⊢
        by_cases h2 : ((modB m d l).length : Int) > 4096
        · rw [if_pos h2]
        · rw [if_neg h2] at c
          simp at c
      · rw [if_neg h1]
    unfold casementlaw12_ModuleEncodes.f
    rw [alive_k (by omega)]
    simp only [Option.bind_some, if_true]
    rw [q1, q2]
    simp only [Option.bind_some, if_true]
    rw [same_bytes (by rw [hnil]; simp) (by rw [hnil]; simp)]
    simp only [Option.bind_some, decide_true, Bool.not_true]
    rw [casementlaw12_ModuleEncodes.j0, if_neg (by decide), if_neg c, hnil]
    rfl
end Go.Proofs.Ytbdkphjpdoajpaa.Pure
