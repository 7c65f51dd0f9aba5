/- A byte of a module's bytes that is turned is told at its place or behind it, or makes another module: ModuleTurns answers true for every module. No condition. -/
import Derived.Test.YtbdkphjpdoajpaaMV
import Derived.Test.YtbdkphjpdoajpaaQx32
namespace Go.Proofs.Ytbdkphjpdoajpaa.Pure
open Go.RowKit Go.Proofs.Ytbdkphjpdoajpaa.Q Go.Proofs.YtbdkphjpdoajpaaW.PrintWords Go.Proofs.YtbdkphjpdoajpaaW.PrintLast Go.Proofs.Ytbdkphjpdoajpaa.Mdl

theorem ModuleTurns : casementlaw12_ModuleTurns.Pure := by
  intro m d l at_ tb hm _ hd hdv _ hl hx _ htb
  have hM : Mok m d l := ⟨i64_of hm, by omega, by omega, hx⟩
  have hd8 : ∀ v ∈ d, 0 ≤ v ∧ v ≤ 255 := fun v hv => u8_of (hdv v hv)
  have ht := u8_of htb
  obtain ⟨K, hK⟩ := enc_ok hM
  by_cases c : (encR m d l).2 = 0
  · obtain ⟨he, hg, hlen⟩ := enc_fine hx hd8 c
    rw [he] at hK
    have hpos := mod_len m d l
    obtain ⟨i, hi, hi2⟩ := place_is at_ hpos
    have hacc := dec_mod hg
    have hby := byt_mod hg hlen
    have hB : Byt ((modB m d l).set i tb) := ⟨fun v hv => by
      rcases List.mem_or_eq_of_mem_set hv with h | h
      · exact hby.v v h
      · omega, by rw [List.length_set]; omega⟩
    have hBl : ((modB m d l).set i tb).length ≤ 4096 := by rw [List.length_set]; exact hlen
    cases hgo : go decT ((modB m d l).set i tb) 0 with
    | mk q o =>
      cases o with
      | none =>
        have hq := go_turn _ _ i 0 q tb hacc hi2 hgo
        refine ⟨K + 5000, ?_⟩
        have q1 := hK (K + 5000) (by omega)
        simp only at q1
        unfold casementlaw12_ModuleTurns.f
        rw [alive_k (by omega)]
        simp only [Option.bind_some, if_true]
        rw [q1]
        simp only [Option.bind_some, if_true, List.nil_append, List.length_nil]
        rw [if_neg (by omega), if_pos (by omega), hi, if_pos (by omega), if_pos (by omega), show ((i : Int)).toNat = i by omega, dec_short hB hBl (by omega), hgo]
        simp only [out, Option.bind_some]
        rw [if_pos (by omega), rd_at hi2]
        by_cases ce : tb = (modB m d l)[i]
        · exfalso
          have e : (modB m d l).set i tb = modB m d l := by rw [ce]; exact List.set_getElem_self hi2
          rw [e, go_acc 0 hacc] at hgo
          simp at hgo
        · rw [if_neg ce, if_neg (by decide), if_pos trivial]
          congr 1
          exact decide_eq_true (by omega)
      | some v =>
        obtain ⟨m', d', l'⟩ := v
        obtain ⟨hg', hbm⟩ := dec_some hB hBl hgo
        simp only at hg' hbm
        obtain ⟨h1, h2⟩ := (mod_ok m' d' l').1 hg'.1
        obtain ⟨r, ⟨K2, hK2⟩, hr⟩ := same_is (m := m') (m' := m) (d := d') (d' := d) (l := l') (l' := l) (by omega) (by omega) (fun x hx => by have := ((fn_ok x).1 (h2 x hx)).1; omega)
        refine ⟨K + K2 + 5000, ?_⟩
        have q1 := hK (K + K2 + 5000) (by omega)
        have q2 := hK2 (K + K2 + 5000) (by omega)
        simp only at q1
        unfold casementlaw12_ModuleTurns.f
        rw [alive_k (by omega)]
        simp only [Option.bind_some, if_true]
        rw [q1]
        simp only [Option.bind_some, if_true, List.nil_append, List.length_nil]
        rw [if_neg (by omega), if_pos (by omega), hi, if_pos (by omega), if_pos (by omega), show ((i : Int)).toNat = i by omega, dec_short hB hBl (by omega), hgo]
        simp only [out, Option.bind_some]
        rw [if_pos (by omega), rd_at hi2, q2]
        simp only [Option.bind_some, if_true]
        by_cases ce : tb = (modB m d l)[i]
        · rw [if_pos ce]
          have e : (modB m d l).set i tb = modB m d l := by rw [ce]; exact List.set_getElem_self hi2
          rw [e, go_acc 0 hacc] at hgo
          simp only [Prod.mk.injEq, Option.some.injEq] at hgo
          obtain ⟨_, rfl, rfl, rfl⟩ := hgo
          rw [hr.2 ⟨rfl, rfl, rfl⟩]
        · rw [if_neg ce]
          cases r with
          | false => rfl
          | true =>
            exfalso
            obtain ⟨rfl, rfl, rfl⟩ := hr.1 rfl
            apply ce
            have h4 : ((modB m' d' l').set i tb)[i]? = (modB m' d' l')[i]? := by rw [hbm]
            rw [List.getElem?_set_self hi2, List.getElem?_eq_getElem hi2] at h4
            exact Option.some.inj h4
  · refine ⟨K + 5000, ?_⟩
    have q1 := hK (K + 5000) (by omega)
    simp only at q1
    unfold casementlaw12_ModuleTurns.f
    rw [alive_k (by omega)]
    simp only [Option.bind_some, if_true]
    rw [q1]
    simp only [Option.bind_some]
    rw [if_neg c]
end Go.Proofs.Ytbdkphjpdoajpaa.Pure
