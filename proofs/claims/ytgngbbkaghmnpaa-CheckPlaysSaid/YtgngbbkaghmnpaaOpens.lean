/- An argument that can be read as data is a value of the print's kinds: every whole number, bool, string, slice and struct, to the bottom. Conditions: none beyond the reading's own. -/
import Derived.Test.YtgngbbkaghmnpaaV
import Derived.WalkKit
import Derived.ProofKit
import Derived.OpenShut
import Derived.ShutString
import Derived.ChangeOld
import Derived.Below
import Derived.SizedLaws
import Derived.Deep.Slices
import Derived.Deep.Fields
import Derived.ChangeSame
namespace Go.Proofs.Ytgngbbkaghmnpaa.Opens
open Go.RowKit Go.Proofs.YtgngbbkaghmnpaaW.PrintWords Go.ChangeShapes Go.WideShapes
section
variable {H : Type} {enc : TypeId × Value → H} {P : Program} {w : World}

/-- Whatever reads as a datum of type t (no part of it larger than the reach) is a value of the kind d that is right. -/
def Opn (enc : TypeId × Value → H) (P : Program) (w : World) (t : TypeId) {α : Type} (d : Kd α) (ok : α → Prop) : Prop :=
  ∀ (fuel : Nat) (cs : List Value) (x : DataW H × List MemPlace), DataW.trod enc P w 0 (fun _ => true) true fuel t cs = some x → (∀ n ∈ x.1.weights P t, n ≤ reachBytes) → ∃ a, d.K w a cs ∧ ok a

theorem Opn.int {t : TypeId} {k : IntKind} (ht : P.underlying t = some (.int k)) : Opn enc P w t (Kd.int k) (fun a => (Lit.int k a).wf = true) := by
  intro fuel cs x h _
  obtain ⟨n, rfl, _, hn⟩ := DataW.trod_int ht h
  exact ⟨n, rfl, hn⟩

theorem Opn.bool {t : TypeId} (ht : P.underlying t = some .bool) : Opn enc P w t Kd.bool (fun _ => True) := by
  intro fuel cs x h _
  obtain ⟨b, rfl, _⟩ := DataW.trod_bool ht h
  exact ⟨b, rfl, trivial⟩

theorem Opn.string {t : TypeId} (ht : P.underlying t = some .string) : Opn enc P w t Kd.string (fun s => s.size ≤ reachBytes) := by
  intro fuel cs x h hw
  obtain ⟨s, rfl, rfl, _⟩ := DataW.trod_string ht h
  exact ⟨s, rfl, by simpa [DataW.weights] using hw⟩

theorem weights_all {e : TypeId} : ∀ {ds : List (DataW H)} {d : DataW H} {n : Nat}, d ∈ ds → n ∈ d.weights P e → n ∈ DataW.weightsAll P e ds
  | d0 :: ds, d, n, hd, hn => by
    simp only [DataW.weightsAll, List.mem_append]
    rcases List.mem_cons.1 hd with rfl | hd
    · exact .inl hn
    · exact .inr (weights_all hd hn)

theorem choose_list {α : Type} (R : Nat → α → Prop) : ∀ n, (∀ i, i < n → ∃ a, R i a) → ∃ l : List α, l.length = n ∧ ∀ i a, l[i]? = some a → R i a
  | 0, _ => ⟨[], rfl, by simp⟩
  | n + 1, h => by
    obtain ⟨l, hl, hr⟩ := choose_list R n (fun i hi => h i (by omega))
    obtain ⟨a, ha⟩ := h n (by omega)
    refine ⟨l ++ [a], by simp [hl], fun i b hb => ?_⟩
    by_cases hi : i < n
    · rw [List.getElem?_append_left (by omega)] at hb
      exact hr i b hb
    · by_cases hin : i = n
      · subst hin
        rw [List.getElem?_append_right (by omega), hl] at hb
        simp at hb
        exact hb ▸ ha
      · rw [List.getElem?_eq_none (by simp; omega)] at hb
        cases hb

theorem Opn.slice {t e : TypeId} {α : Type} {d : Kd α} {ok : α → Prop} (ht : P.underlying t = some (.slice e)) (hC : P.cellsOf e = d.sz) (hk : Opn enc P w e d ok) :
    Opn enc P w t (Kd.slice e d) (fun l => l.length ≤ maxLen ∧ l.length * P.bytesOf e ≤ reachBytes ∧ ∀ a ∈ l, ok a) := by
  intro fuel cs x h hw
  rcases Go.Deep.open_slice ht h with ⟨rfl, rfl⟩ | ⟨a, len, cap, m, n, D, Pl, rfl, hb, hl, hm, hmm, rfl, hi⟩
  · exact ⟨[], ⟨none, 0, rfl, by simp, rfl, by simp, fun h => by simp at h⟩, by simp, by simp, by simp⟩
  · have hmc : m = cap := by simpa using hmm
    have hch : ∀ i, i < len → ∃ p : α, ok p ∧ ∃ cs', cs'.length = d.sz ∧ d.K w p cs' ∧ ∀ j u, cs'[j]? = some u → w.cell? (a.add (i * d.sz + j)) = some u := by
      intro i hil
      obtain ⟨cs', hc, hr⟩ := hi i (by omega)
      obtain ⟨p, hp, ho⟩ := hk n cs' _ hr (fun q hq => hw q (by
        simp only [DataW.weights, ht, List.mem_cons, List.mem_append]
        exact .inr (.inl (weights_all (List.mem_map.2 ⟨i, by simpa using hil, rfl⟩) hq))))
      obtain ⟨_, hcl, hat⟩ := World.cells?_some hc
      refine ⟨p, ho, cs', by rw [hcl, hC], hp, fun j u hu => ?_⟩
      have hj : j < P.cellsOf e := by
        have := (List.getElem?_eq_some_iff.1 hu).1
        omega
      rw [← hC, ← Go.Deep.add_add, hat j hj, hu]
    obtain ⟨l, hll, hR⟩ := choose_list _ len hch
    refine ⟨l, ⟨some a, cap, by rw [hll], by omega, rfl, ?_, fun _ => ⟨a, rfl, fun j p hp => (hR j p hp).2⟩⟩, ?_, ?_, fun p hp => ?_⟩
    · have : maxLen = 9223372036854775807 := rfl
      omega
    · omega
    · have hq := hw ((((List.range len).map D).length + ((List.range (m - len)).map fun j => D (len + j)).length) * P.bytesOf e) (by simp [DataW.weights, ht])
      refine Nat.le_trans (Nat.mul_le_mul_right _ ?_) hq
      simp only [List.length_map, List.length_range]
      omega
    · obtain ⟨i, hip⟩ := List.mem_iff_getElem?.1 hp
      exact (hR i p hip).1

/-- The fields of a struct, from one on. -/
def FOp (enc : TypeId × Value → H) (P : Program) (w : World) (total : Nat) (fs : List Field) (off : Nat) {β : Type} (d : Kd β) (ok : β → Prop) : Prop :=
  ∀ (n : Nat) (cs : List Value) (xs : List (DataW H × List MemPlace)), cs.length = total → xs.length = fs.length →
    (∀ (i : Nat) (f : Field), fs[i]? = some f → DataW.trod enc P w 0 (fun _ => true) true n f.type ((cs.drop f.offset).take (P.cellsOf f.type)) = xs[i]?) →
    (∀ m ∈ DataW.weightsEach P (fs.map (·.type)) (xs.map (·.1)), m ≤ reachBytes) → ∃ a, d.K w a (cs.drop off) ∧ ok a

theorem FOp.last {total off : Nat} {f : Field} {β : Type} {d : Kd β} {ok : β → Prop} (ho : f.offset = off) (hs : P.cellsOf f.type = d.sz) (ht : off + d.sz = total) (h : Opn enc P w f.type d ok) : FOp enc P w total [f] off d ok := by
  intro n cs xs hl hx hf hw
  match xs, hx with
  | [x], _ =>
    have h1 := hf 0 f rfl
    obtain ⟨a, ha, hk⟩ := h n _ x h1 (fun m hm => hw m (by simp [DataW.weightsEach, hm]))
    refine ⟨a, ?_, hk⟩
    have e : (cs.drop f.offset).take (P.cellsOf f.type) = cs.drop off := by
      rw [ho, hs]
      exact List.take_of_length_le (by rw [List.length_drop]; omega)
    rw [e] at ha
    exact ha

theorem FOp.cons {total off : Nat} {f : Field} {fs : List Field} {α β : Type} {d : Kd α} {d' : Kd β} {ok : α → Prop} {ok' : β → Prop} (ho : f.offset = off) (hs : P.cellsOf f.type = d.sz) (h : Opn enc P w f.type d ok) (hr : FOp enc P w total fs (off + d.sz) d' ok') :
    FOp enc P w total (f :: fs) off (Kd.pair d d') (fun x => ok x.1 ∧ ok' x.2) := by
  intro n cs xs hl hx hf hw
  match xs, hx with
  | x :: xs, hx =>
    have h1 := hf 0 f rfl
    obtain ⟨a, ha, hk⟩ := h n _ x h1 (fun m hm => hw m (by simp [DataW.weightsEach, hm]))
    obtain ⟨b, hb, hk'⟩ := hr n cs xs hl (by simpa using hx) (fun i g hg => by have := hf (i + 1) g (by simpa using hg); simpa using this) (fun m hm => hw m (by simp only [List.map_cons, DataW.weightsEach, List.mem_append]; exact .inr hm))
    refine ⟨(a, b), ⟨(cs.drop off).take d.sz, cs.drop (off + d.sz), ?_, by rw [ho, hs] at ha; exact ha, hb⟩, hk, hk'⟩
    rw [← List.drop_drop, List.take_append_drop]

theorem Opn.struct {t : TypeId} {fs : Array Field} {β : Type} {d : Kd β} {ok : β → Prop} (ht : P.underlying t = some (.struct fs)) (h : FOp enc P w (P.cellsOf t) fs.toList 0 d ok) : Opn enc P w t d ok := by
  intro fuel cs x hx hw
  obtain ⟨xs, n, _, rfl, hl, hlen, hf⟩ := DataW.trod_struct ht hx
  obtain ⟨a, ha, hk⟩ := h n cs xs hl (by simpa using hlen) (fun i f hif => hf i f (by simpa using hif)) (fun m hm => hw m (by simp only [DataW.weights, ht]; exact hm))
  exact ⟨a, by simpa using ha, hk⟩

theorem Opn.iso {t : TypeId} {α β : Type} {d : Kd α} {ok : α → Prop} {f : β → α} (g : α → β) (hg : ∀ a, f (g a) = a) {ok' : β → Prop} (hok : ∀ a, ok a → ok' (g a)) (h : Opn enc P w t d ok) : Opn enc P w t (Kd.iso d f) ok' := by
  intro fuel cs x hx hw
  obtain ⟨a, ha, hk⟩ := h fuel cs x hx hw
  exact ⟨g a, by show d.K w (f (g a)) cs; rw [hg]; exact ha, hok a hk⟩

theorem Opn.mono {t : TypeId} {α : Type} {d : Kd α} {ok ok' : α → Prop} (hok : ∀ a, ok a → ok' a) (h : Opn enc P w t d ok) : Opn enc P w t d ok' := by
  intro fuel cs x hx hw
  obtain ⟨a, ha, hk⟩ := h fuel cs x hx hw
  exact ⟨a, ha, hok a hk⟩

/-- An argument of a row, opened. -/
theorem Opn.arg {ts : List TypeId} {ds : List (DataW H)} {j : Nat} {t : TypeId} {v : Value} {dd : DataW H} {ps : List MemPlace} {α : Type} {d : Kd α} {ok : α → Prop} (h : Opn enc P w t d ok)
    (hsz : (DataW.weightsEach P ts ds).all (· ≤ reachBytes) = true) (ht : ts[j]? = some t) (hd : ds[j]? = some dd) (hT : DataW.Trod enc P w 0 (fun _ => true) true t v dd ps) : ∃ a, d.K w a v.cells.toList ∧ ok a := by
  obtain ⟨fuel, hf⟩ := hT
  exact h fuel _ _ hf (fun n hn => by simpa using List.all_eq_true.1 hsz n (DataW.weights_mem_each ht hd n hn))
end
end Go.Proofs.Ytgngbbkaghmnpaa.Opens
