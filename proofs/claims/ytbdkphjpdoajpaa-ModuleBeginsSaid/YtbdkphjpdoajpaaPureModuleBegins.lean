/- Each proper beginning of a module's bytes is told at its length, and so are the bytes with one more: ModuleBegins answers true for every module. No condition. -/
import Derived.Test.YtbdkphjpdoajpaaMU
import Derived.Test.YtbdkphjpdoajpaaQx31
namespace Go.Proofs.Ytbdkphjpdoajpaa.Pure
open Go.RowKit Go.Proofs.Ytbdkphjpdoajpaa.Q Go.Proofs.YtbdkphjpdoajpaaW.PrintWords Go.Proofs.YtbdkphjpdoajpaaW.PrintLast Go.Proofs.Ytbdkphjpdoajpaa.Mdl

theorem ModuleBegins : casementlaw12_ModuleBegins.Pure := by
  intro m d l at_ more hm _ hd hdv _ hl hx _ hmore
  have hM : Mok m d l := ⟨i64_of hm, by omega, by omega, hx⟩
  have hd8 : ∀ v ∈ d, 0 ≤ v ∧ v ≤ 255 := fun v hv => u8_of (hdv v hv)
  obtain ⟨K, hK⟩ := enc_ok hM
  refine ⟨K + 5000, ?_⟩
  have q1 := hK (K + 5000) (by omega)
  simp only at q1
  unfold casementlaw12_ModuleBegins.f
  rw [alive_k (by omega)]
  simp only [Option.bind_some, if_true]
  rw [q1]
  simp only [Option.bind_some]
  by_cases c : (encR m d l).2 = 0
  · obtain ⟨he, hg, hlen⟩ := enc_fine hx hd8 c
    rw [he]
    simp only [if_true]
    have hpos := mod_len m d l
    obtain ⟨i, hi, hi2⟩ := place_is at_ hpos
    have hacc := dec_mod hg
    have hby := byt_mod hg hlen
    rw [hi, if_neg (by omega), if_pos (by omega), if_pos (by omega), show ((i : Int)).toNat = i by omega]
    have hB1 : Byt ((modB m d l).take i) := ⟨fun v hv => hby.v v (List.mem_of_mem_take hv), by simp only [List.length_take]; omega⟩
    rw [dec_short hB1 (by simp only [List.length_take]; omega) (by omega), go_take _ _ i 0 hacc hi2]
    simp only [out, Option.bind_some, Nat.zero_add, if_true]
    rw [casementlaw12_ModuleBegins.j0, if_neg (by decide)]
    by_cases c2 : ((modB m d l).length : Int) ≥ 4096
    · rw [if_pos c2]
    · have hm8 := u8_of hmore
      rw [if_neg c2]
      simp only [Option.bind_some, List.nil_append]
      rw [if_pos (by simp only [List.length_nil]; omega), if_pos (by omega)]
      have hB2 : Byt (modB m d l ++ [more]) := ⟨fun v hv => by
        rw [List.mem_append, List.mem_singleton] at hv
        rcases hv with hv | hv
        · exact hby.v v hv
        · omega, by simp only [List.length_append, List.length_singleton]; omega⟩
      rw [dec_short hB2 (by simp only [List.length_append, List.length_singleton]; omega) (by omega), go_more _ _ more 0 hacc]
      simp [out]
  · rw [if_neg c]
end Go.Proofs.Ytbdkphjpdoajpaa.Pure
