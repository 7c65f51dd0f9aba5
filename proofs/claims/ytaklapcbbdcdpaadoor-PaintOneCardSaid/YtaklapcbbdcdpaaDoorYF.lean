import Derived.Test.YtaklapcbbdcdpaaDoorYE
import Derived.Below
import Derived.WalkKit
import Derived.ProofKit
import Derived.OpenShut
import Derived.ShutString
import Derived.ChangeOld
import Derived.SizedLaws
import Derived.Deep.Slices
import Derived.Deep.Fields
import Derived.ChangeSame
namespace Go.Proofs.YtaklapcbbdcdpaaDoor.X
open Go Go.RowKit
set_option linter.unusedVariables false
set_option linter.unusedSimpArgs false
/-! A function's form, as an entry for those who call it; and the law at the end -/
theorem callRun0_nat {F : Fm} {f : F.pre.T → Option F.post.T} {β : Type} (args : List AV) (H : Heap) (K : KO β) : callRun0 F f args H K = (callRun0 F f args H K0).bind (go K) := by
  unfold callRun0
  split
  · split
    · rw [Option.bind_assoc]; rfl
    · rfl
  · rfl
theorem callRun_nat {F : Fm} {f : F.pre.T → Option F.post.T} {β : Type} (args : List AV) (H : Heap) (K : KO β) : callRun F f args H K = (callRun F f args H K0).bind (go K) := by
  unfold callRun
  rw [callRun0_nat, callRun0_nat (K := fun v U N => K0 v (callU F H ++ U) N), Option.bind_assoc]
  rfl
structure EGood (P : Program) (e : Entry P) : Prop where
  ok : EOk P e
  nat : ENat e
theorem enters {P : Program} {f : FuncId} {fn : Func} (hf : P.funcs[f]? = some fn) (hname : (fn.name == "runtime.NumGoroutine") = false) (hb : fn.body.isSome = true) (args : Array Value) (w : World) : (callFunc f args).run P w = .ok (.enter f args) w := by
  have h1 : fn.name ≠ "runtime.NumGoroutine" := by simpa using hname
  obtain ⟨c, hc⟩ := Option.isSome_iff_exists.1 hb
  simp [callFunc, hf, h1, hc]
theorem good {P : Program} {ti : TI} {tb : List (Entry P)} (hT : TIok P ti) (hM : P.follows .mixedOrders = true) (hE : ∀ e ∈ tb, EGood P e) {F : Fm} {fn : Func} {nf : Nat} {k : Nat} (hfn : P.funcs[nf]? = some fn)
    (hname : (fn.name == "runtime.NumGoroutine") = false) (hb : fn.body.isSome = true) : EGood P (Fm.entry P F nf (runFn P ti tb F fn k)) :=
  ⟨⟨fun args w => enters hfn hname hb args w, fun args H K r Z ρ w cargs h hR hargs => call_ok hT (fun e he => (hE e he).ok) (fun e he => (hE e he).nat) hM F k hfn args H K r Z ρ w cargs h hR hargs⟩,
    ⟨fun args H K => callRun_nat args H K⟩⟩
/-- an entry that answers less, and what it answers the same -/
theorem good_le {P : Program} {F : Fm} {nf : Nat} {f f' : F.pre.T → Option F.post.T} (h : EGood P (Fm.entry P F nf f)) (hle : ∀ g r, f' g = some r → f g = some r) : EGood P (Fm.entry P F nf f') := by
  refine ⟨⟨h.ok.enter, fun args H K r Z ρ w cargs hr hR ha => ?_⟩, ⟨fun args H K => callRun_nat args H K⟩⟩
  refine h.ok.ok args H K r Z ρ w cargs ?_ hR ha
  show callRun F f args H K = some r
  have hr : callRun F f' args H K = some r := hr
  unfold callRun at hr ⊢
  generalize hK : (fun v U N => K v (callU F H ++ U) N) = K1 at hr ⊢
  unfold callRun0 at hr ⊢
  split at hr
  case isFalse => cases hr
  rename_i hc
  rw [if_pos hc]
  split at hr
  case h_2 => cases hr
  rename_i g H1 B hd
  obtain ⟨q, h1, h2⟩ := Option.bind_eq_some_iff.1 hr
  simp only [hd, hle _ _ h1, Option.bind_some]
  exact h2
theorem goods_nil {P : Program} : ∀ e ∈ ([] : List (Entry P)), EGood P e := fun e he => by cases he
theorem goods_cons {P : Program} {x : Entry P} {tb : List (Entry P)} (h : EGood P x) (hs : ∀ e ∈ tb, EGood P e) : ∀ e ∈ x :: tb, EGood P e := fun e he => by
  rcases List.mem_cons.1 he with rfl | he
  · exact h
  · exact hs e he
abbrev lawF (rs : List Root) (an : An) : Fm := ⟨0, ⟨rs, []⟩, ⟨[⟨0, false, [.deep .bool]⟩], []⟩, an⟩
/-- a law that answers a bool, of arguments that are read alone -/
theorem law_ok {P : Program} {ti : TI} {tb : List (Entry P)} (hT : TIok P ti) (hM : P.follows .mixedOrders = true) (hE : ∀ e ∈ tb, EGood P e) {rs : List Root} {an : An} {fn : Func} {nf : Nat} {k : Nat} (hfn : P.funcs[nf]? = some fn)
    {g : RL.T rs} {b : Bool} (h : runFn P ti tb (lawF rs an) fn k (g, ()) = some (((b, ()), ()), ())) {w : World} {args : Array Value}
    (hv : ∀ t, VA (fun _ => False) [] (fun _ => none) w ((RL.enc rs g).get t) (args.getD t undef)) (hsz : args.size = rs.length) (hgl : Glob (fun _ => False) [] (fun _ => none) w) :
    Calls P nf args w (fun e w' => e = .returned (.bool b) ∧ Below w.heap.size w w') := by
  have hR : Rel (fun _ => False) [] (fun _ => none) w :=
    ⟨fun l => by simp [Heap.at, Holds], fun l l' p p' k h1 => by simp [Heap.at, AO.isLive] at h1, fun l p k h1 => by simp [Heap.at, AO.isLive] at h1, fun k hk => hk.elim, fun k hk => hk.elim, hgl⟩
  refine (runFn_ok hT (fun e he => (hE e he).ok) (fun e he => (hE e he).nat) hM hfn h (Z := fun _ => False) (ρ := fun _ => none) (w := w) (args := args) hR hv hsz).mono fun e w' hpost => ?_
  obtain ⟨vs, rfl, hl, _, ρs, hs, _, _, hva⟩ := hpost
  have hl1 : vs.length = 1 := hl
  match vs, hl1 with
  | [v], _ =>
    have h0 := hva 0
    have h1 : VA (fun _ => False) ([] : Heap) ρs w' (.v (.one (.lit (.bool b)))) v := h0
    obtain ⟨rfl, _⟩ := h1
    refine ⟨rfl, hs.os, hs.tape, hs.output, hs.size, fun k hk => hs.keep k hk ?_⟩
    rintro ⟨l, p, hl, _⟩
    simp [OL.enc, Heap.at, AO.isLive] at hl
/-! What is read of an argument -/
section
open Go.ChangeShapes Go.WideShapes
variable {H : Type} {enc : TypeId × Value → H} {P : Program} {w : World}
abbrev low (w : World) : Nat → Prop := fun k => k < w.heap.size
def Opx (enc : TypeId × Value → H) (P : Program) (w : World) (t : TypeId) (s : Sh) (ok : s.T → Prop) : Prop :=
  ∀ (fuel : Nat) (cs : List Value) (x : DataW H × List MemPlace), DataW.trod enc P w 0 (fun _ => true) true fuel t cs = some x → (∀ n ∈ x.1.weights P t, n ≤ reachBytes) → ∃ a : s.T, LR (R1 w (low w)) (s.dv a) cs ∧ ok a
theorem Opx.int {t : TypeId} {k : IntKind} (ht : P.underlying t = some (.int k)) : Opx enc P w t (.int k) (fun a => (Lit.int k a).wf = true) := by
  intro fuel cs x h _
  obtain ⟨n, rfl, _, hn⟩ := DataW.trod_int ht h
  exact ⟨n, ⟨.lit rfl, trivial⟩, hn⟩
theorem Opx.bool {t : TypeId} (ht : P.underlying t = some .bool) : Opx enc P w t .bool (fun _ => True) := by
  intro fuel cs x h _
  obtain ⟨b, rfl, _⟩ := DataW.trod_bool ht h
  exact ⟨b, ⟨.lit rfl, trivial⟩, trivial⟩
theorem Opx.string {t : TypeId} (ht : P.underlying t = some .string) : Opx enc P w t .str (fun s => s.size ≤ reachBytes) := by
  intro fuel cs x h hw
  obtain ⟨s, rfl, rfl, _⟩ := DataW.trod_string ht h
  exact ⟨s, ⟨.lit rfl, trivial⟩, by simpa [DataW.weights] using hw⟩
theorem weights_all {e : TypeId} : ∀ {ds : List (DataW H)} {d : DataW H} {n : Nat}, d ∈ ds → n ∈ d.weights P e → n ∈ DataW.weightsAll P e ds
  | d0 :: ds, d, n, hd, hn => by
    simp only [DataW.weightsAll, List.mem_append]
    rcases List.mem_cons.1 hd with rfl | hd
    · exact .inl hn
    · exact .inr (weights_all hd hn)
theorem choose_list {α : Type} (R : Nat → α → Prop) : ∀ n, (∀ i, i < n → ∃ a, R i a) → ∃ l : List α, l.length = n ∧ ∀ i a, l[i]? = some a → R i a
  | 0, _ => ⟨[], rfl, by simp⟩
  | n + 1, h => by
    obtain ⟨l, hl, hr⟩ := choose_list R n (fun i hi => h i (by omega))
    obtain ⟨a, ha⟩ := h n (by omega)
    refine ⟨l ++ [a], by simp [hl], fun i b hb => ?_⟩
    by_cases hi : i < n
    · rw [List.getElem?_append_left (by omega)] at hb
      exact hr i b hb
    · by_cases hin : i = n
      · subst hin
        rw [List.getElem?_append_right (by omega), hl] at hb
        simp at hb
        exact hb ▸ ha
      · rw [List.getElem?_eq_none (by simp; omega)] at hb
        cases hb
theorem LR_flat {α : Type} {s : Sh} {R : DV → Value → Prop} : ∀ (l : List (s.T × List Value)), (∀ p ∈ l, LR R (s.dv p.1) p.2) → LR R ((l.map (·.1)).flatMap s.dv) (l.flatMap (·.2))
  | [], _ => trivial
  | p :: l, h => by
    simp only [List.map_cons, List.flatMap_cons]
    exact (h p (by simp)).append (LR_flat (α := α) l fun q hq => h q (by simp [hq]))
theorem flat_got {α : Type} {sz : Nat} : ∀ (l : List (α × List Value)), (∀ p ∈ l, p.2.length = sz) → ∀ (j : Nat) v, (l.flatMap (·.2))[j]? = some v → ∃ i p r, l[i]? = some p ∧ p.2[r]? = some v ∧ j = i * sz + r
  | [], _, j, v, h => by simp at h
  | p :: l, hl, j, v, h => by
    rw [List.flatMap_cons] at h
    have hp := hl p (by simp)
    rcases Nat.lt_or_ge j p.2.length with hj | hj
    · rw [List.getElem?_append_left hj] at h
      exact ⟨0, p, j, rfl, h, by omega⟩
    · rw [List.getElem?_append_right hj] at h
      obtain ⟨i, q, r, h1, h2, h3⟩   := flat_got l (fun q hq => hl q (by simp [hq])) _ v h
      refine ⟨i + 1, q, r, by simpa using h1, h2, ?_⟩
      rw [Nat.succ_mul]; omega
theorem cell_lt {w : World} {a : Addr} {n : Nat} {v : Value} (h : w.cell? (a.add n) = some v) : a.block < w.heap.size := by
  unfold World.cell? at h
  rw [add_block] at h
  rcases Nat.lt_or_ge a.block w.heap.size with h1 | h1
  · exact h1
  · rw [Array.getElem?_eq_none h1] at h; simp at h
theorem Opx.slice {t e : TypeId} {s : Sh} {ok : s.T → Prop} (ht : P.underlying t = some (.slice e)) (hC : P.cellsOf e = s.sz) (hk : Opx enc P w e s ok) :
    Opx enc P w t (.sl s) (fun l => l.length ≤ maxLen ∧ l.length * P.bytesOf e ≤ reachBytes ∧ ∀ a ∈ l, ok a) := by
  intro fuel cs x h hw
  rcases Go.Deep.open_slice ht h with ⟨rfl, rfl⟩ | ⟨a, len, cap, m, n, D, Pl, rfl, hb, hl, hm, hmm, rfl, hi⟩
  · exact ⟨[], ⟨.nil (Nat.le_refl _), trivial⟩, by simp, by simp, by simp⟩
  · have hmc : m = cap := by simpa using hmm
    have hch : ∀ i, i < len → ∃ p : s.T × List Value, ok p.1 ∧ p.2.length = s.sz ∧ LR (R1 w (low w)) (s.dv p.1) p.2 ∧ ∀ j u, p.2[j]? = some u → w.cell? (a.add (i * s.sz + j)) = some u := by
      intro i hil
      obtain ⟨cs', hc, hr⟩ := hi i (by omega)
      obtain ⟨p, hp, ho⟩ := hk n cs' _ hr (fun q hq => hw q (by
        simp only [DataW.weights, ht, List.mem_cons, List.mem_append]
        exact .inr (.inl (weights_all (List.mem_map.2 ⟨i, by simpa using hil, rfl⟩) hq))))
      obtain ⟨_, hcl, hat⟩ := World.cells?_some hc
      refine ⟨(p, cs'), ho, by rw [hcl, hC], hp, fun j u hu => ?_⟩
      have hj : j < P.cellsOf e := by
        have := (List.getElem?_eq_some_iff.1 hu).1
        simp only at this
        omega
      rw [← hC, ← Go.Deep.add_add, hat j hj]; exact hu
    obtain ⟨l, hll, hR⟩ := choose_list _ len hch
    have hmem : ∀ p ∈ l, ok p.1 ∧ p.2.length = s.sz ∧ LR (R1 w (low w)) (s.dv p.1) p.2 := fun p hp => by
      obtain ⟨i, hip⟩ := List.mem_iff_getElem?.1 hp
      exact ⟨(hR i p hip).1, (hR i p hip).2.1, (hR i p hip).2.2.1⟩
    have hLR := LR_flat (α := Unit) (s := s) (R := R1 w (low w)) l fun p hp => (hmem p hp).2.2
    have hcl := hLR.length
    refine ⟨l.map (·.1), ⟨?_, trivial⟩, ?_, ?_, fun p hp => ?_⟩
    · show R1 w (low w) (.sl (l.map (·.1)).length ((l.map (·.1)).flatMap s.dv)) (.slice (some a) len cap)
      rw [show (l.map (·.1)).length = len by simpa using hll]
      by_cases h0 : (l.map (·.1)).flatMap s.dv = []
      · rw [h0]; exact .nil (by omega)
      · have hcell : ∀ j v, (l.flatMap (·.2))[j]? = some v → w.cell? (a.add j) = some v := fun j v hj => by
          obtain ⟨i, p, r, h1, h2, rfl⟩   := flat_got l (fun p hp => (hmem p hp).2.1) j v hj
          exact (hR i p h1).2.2.2 r v h2
        refine .sl (l.flatMap (·.2)) (by omega) hcl.symm ?_ hcell fun j d v hd hv => hLR.get hd hv
        obtain ⟨v0, hv0⟩ : ∃ v, (l.flatMap (·.2))[0]? = some v := by
          have : 0 < (l.flatMap (·.2)).length := by
            rw [← hcl]; exact List.length_pos_iff.2 h0
          exact ⟨_, List.getElem?_eq_getElem this⟩
        have := hcell 0 v0 hv0
        exact cell_lt this
    · simp; have : maxLen = 9223372036854775807 := rfl; omega
    · have hq := hw ((((List.range len).map D).length + ((List.range (m - len)).map fun j => D (len + j)).length) * P.bytesOf e) (by simp [DataW.weights, ht])
      refine Nat.le_trans (Nat.mul_le_mul_right _ ?_) hq
      simp only [List.length_map, List.length_range]
      omega
    · obtain ⟨q, hq, rfl⟩ := List.mem_map.1 hp
      exact (hmem q hq).1
/-- the fields of a struct, from one on -/
def FOx (enc : TypeId × Value → H) (P : Program) (w : World) (total : Nat) (fs : List Field) (off : Nat) (s : Sh) (ok : s.T → Prop) : Prop :=
  ∀ (n : Nat) (cs : List Value) (xs : List (DataW H × List MemPlace)), cs.length = total → xs.length = fs.length →
    (∀ (i : Nat) (f : Field), fs[i]? = some f → DataW.trod enc P w 0 (fun _ => true) true n f.type ((cs.drop f.offset).take (P.cellsOf f.type)) = xs[i]?) →
    (∀ m ∈ DataW.weightsEach P (fs.map (·.type)) (xs.map (·.1)), m ≤ reachBytes) → ∃ a : s.T, LR (R1 w (low w)) (s.dv a) (cs.drop off) ∧ ok a
theorem FOx.last {total off : Nat} {f : Field} {s : Sh} {ok : s.T → Prop} (ho : f.offset = off) (hs : P.cellsOf f.type = s.sz) (ht : off + s.sz = total) (h : Opx enc P w f.type s ok) : FOx enc P w total [f] off s ok := by
  intro n cs xs hl hx hf hw
  match xs, hx with
  | [x], _ =>
    have h1 := hf 0 f rfl
    obtain ⟨a, ha, hk⟩ := h n _ x h1 (fun m hm => hw m (by simp [DataW.weightsEach, hm]))
    refine ⟨a, ?_, hk⟩
    have e : (cs.drop f.offset).take (P.cellsOf f.type) = cs.drop off := by
      rw [ho, hs]
      exact List.take_of_length_le (by rw [List.length_drop]; omega)
    rw [e] at ha
    exact ha
theorem FOx.cons {total off : Nat} {f : Field} {fs : List Field} {s s' : Sh} {ok : s.T → Prop} {ok' : s'.T → Prop} (ho : f.offset = off) (hs : P.cellsOf f.type = s.sz) (h : Opx enc P w f.type s ok) (hr : FOx enc P w total fs (off + s.sz) s' ok') :
    FOx enc P w total (f :: fs) off (.pair s s') (fun x => ok x.1 ∧ ok' x.2) := by
  intro n cs xs hl hx hf hw
  match xs, hx with
  | x :: xs, hx =>
    have h1 := hf 0 f rfl
    obtain ⟨a, ha, hk⟩ := h n _ x h1 (fun m hm => hw m (by simp [DataW.weightsEach, hm]))
    obtain ⟨b, hb, hk'⟩ := hr n cs xs hl (by simpa using hx) (fun i g hg => by have := hf (i + 1) g (by simpa using hg); simpa using this) (fun m hm => hw m (by simp only [List.map_cons, DataW.weightsEach, List.mem_append]; exact .inr hm))
    refine ⟨(a, b), ?_, hk, hk'⟩
    rw [ho, hs] at ha
    have := ha.append hb
    rwa [← List.drop_drop, List.take_append_drop] at this
theorem Opx.struct {t : TypeId} {fs : Array Field} {s : Sh} {ok : s.T → Prop} (ht : P.underlying t = some (.struct fs)) (h : FOx enc P w (P.cellsOf t) fs.toList 0 s ok) : Opx enc P w t s ok := by
  intro fuel cs x hx hw
  obtain ⟨xs, n, _, rfl, hl, hlen, hf⟩ := DataW.trod_struct ht hx
  obtain ⟨a, ha, hk⟩ := h n cs xs hl (by simpa using hlen) (fun i f hif => hf i f (by simpa using hif)) (fun m hm => hw m (by simp only [DataW.weights, ht]; exact hm))
  exact ⟨a, by simpa using ha, hk⟩
/-- an argument of a row, opened -/
theorem Opx.arg {ts : List TypeId} {ds : List (DataW H)} {j : Nat} {t : TypeId} {v : Value} {dd : DataW H} {ps : List MemPlace} {s : Sh} {ok : s.T → Prop} (h : Opx enc P w t s ok)
    (hsz : (DataW.weightsEach P ts ds).all (· ≤ reachBytes) = true) (ht : ts[j]? = some t) (hd : ds[j]? = some dd) (hT : DataW.Trod enc P w 0 (fun _ => true) true t v dd ps) : ∃ a : s.T, LR (R1 w (low w)) (s.dv a) v.cells.toList ∧ ok a := by
  obtain ⟨fuel, hf⟩ := hT
  exact h fuel _ _ hf (fun n hn => by simpa using List.all_eq_true.1 hsz n (DataW.weights_mem_each ht hd n hn))
theorem agg_arg {w : World} {s : Sh} {x : s.T} {v : Value} (hne : s.sz ≠ 1) (h : LR (R1 w (low w)) (s.dv x) v.cells.toList) : VA (fun _ => False) [] (fun _ => none) w (.v (.agg (s.avs x))) v := by
  have hl := h.length
  rw [dv_len] at hl
  have h2 : LR (R1 w (A (fun _ => False) [] (fun _ => none) w)) (s.dv x) v.cells.toList := LR.imp (fun d u hr => hr.mono (fun _ _ => rfl) fun k hk => ⟨hk, fun ⟨l, p, h, _⟩ => by simp [Heap.at, AO.isLive] at h, fun hf => hf⟩) h
  cases v with
  | agg cs => exact ⟨cs, rfl, V1_of_R1 s x _ h2⟩
  | _ => exact absurd hl hne
theorem vsl_arg {s : Sh} {xs : List s.T} {v : Value} (hv : v.cells.toList = [v]) (h : LR (R1 w (low w)) ((Sh.sl s).dv xs) v.cells.toList) : VA (fun _ => False) [] (fun _ => none) w (.v (.one (.vsl s xs))) v := by
  rw [hv] at h
  exact h.1.mono (fun _ _ => rfl) fun k hk => ⟨hk, fun ⟨l, p, h, _⟩ => by simp [Heap.at, AO.isLive] at h, fun hf => hf⟩
end
end Go.Proofs.YtaklapcbbdcdpaaDoor.X
