import Derived.Test.YtaklapcbbdcdpaaDoorXF
namespace Go.Proofs.YtaklapcbbdcdpaaDoor.X
open Go Go.RowKit
set_option linter.unusedVariables false
set_option linter.unusedSimpArgs false
section
variable {P : Program} {X : Ctx P} (hT : TIok P X.ti) {β : Type} {Z : Nat → Prop} {H : Heap} {ρ : Rho} {w w' : World} {o : Oper} {a : Act} {K : KO β} {r : β} {ts : TS}

theorem VA_ofVal (v : Value) : VA Z H ρ w (ofVal v) v := by
  generalize hx : ofVal v = x
  unfold ofVal at hx
  split at hx
  · rename_i cs
    split at hx
    · rename_i h
      subst hx
      refine ⟨cs, rfl, LR_lits _ ?_⟩
      exact fun u hu => List.all_eq_true.1 h u hu
    · subst hx; trivial
  · subst hx; trivial
  · rename_i f as bs
    split at hx
    · rename_i h1 h2
      subst hx
      have e1 : as = #[] := by apply Array.ext'; simpa using h1
      have e2 : bs = #[] := by apply Array.ext'; simpa using h2
      rw [e1, e2]; exact ⟨#[], rfl, trivial⟩
    · subst hx; exact ⟨rfl, rfl⟩
  · rename_i h1 h2 h3
    subst hx
    refine ⟨rfl, ?_⟩
    cases v <;> first | rfl | (exact absurd rfl (h1 _)) | (exact absurd rfl (h2 _))
theorem ev_ok (hR : Rel Z H ρ w) (ht : TRel Z H ρ w ts a) (x : Operand) : VA Z H ρ w (ev ts x) (a.eval x) := by
  cases x with
  | tmp t => exact ht t
  | const v => exact VA_ofVal v
  | global g =>
    simp only [ev]
    cases hg : globAt globs g with
    | some x => exact hR.gl g x hg
    | none => exact ⟨rfl, rfl⟩
  | func f => exact ⟨#[], rfl, trivial⟩
theorem V2_mk2 {ag : Bool} {cs : List C1} {v : AV} {us : List Value} (h : mk2 ag cs = some v) (hl : LR (V1 Z H ρ w) cs us) : VA Z H ρ w v (if ag then .agg us.toArray else us.headD undef) := by
  unfold mk2 at h
  split at h
  · simp only [Option.some.injEq] at h; subst h
    exact ⟨us.toArray, rfl, by simpa using hl⟩
  · simp only [Option.some.injEq] at h; subst h
    obtain ⟨u, rfl, hu⟩ := LR.one_inv hl
    exact hu
  · cases h
include hT
theorem isAgg_run {t : TypeId} {tr : TR} (h : X.ti t = some tr) (w : World) : (isAgg t).run P w = .ok (isAggD tr.d) w := by
  simp only [isAgg, Sem.run_bind, run_underlying (hT.und t tr h), Result.andThen_ok]
  cases tr.d <;> rfl
theorem size_run {t : TypeId} {tr : TR} (h : X.ti t = some tr) (w : World) : (sizeOf t).run P w = .ok tr.size w := by
  obtain ⟨i, z, h1, h2, _⟩ := hT.info t tr h
  simp [sizeOf, typeInfo, h1, h2]
theorem zero_run {t : TypeId} {tr : TR} (h : X.ti t = some tr) (w : World) : ∃ z, (zeroValue t).run P w = .ok z w ∧ z.cells.toList = tr.zero := by
  obtain ⟨i, z, h1, h2, h3, h4, h5, _⟩ := hT.info t tr h
  exact ⟨z, by simp [zeroValue, typeInfo, h1, h4], h5⟩
theorem loadVar_run {t : TypeId} {tr : TR} (h : X.ti t = some tr) {ad : Addr} {us : List Value} (hl : Lies w ad us) (hn : us.length = if isAggD tr.d then tr.size else 1) :
    (loadVar t ad).run P w = .ok (if isAggD tr.d then .agg us.toArray else us.headD undef) w := by
  unfold loadVar
  simp only [Sem.run_bind, isAgg_run hT h, Result.andThen_ok]
  cases hg : isAggD tr.d with
  | true =>
    simp only [hg, if_true] at hn
    simp only [if_true, Sem.run_bind, size_run hT h, Result.andThen_ok, ← hn, run_loadCells_list w ad us hl.cell, Sem.run_pure]
  | false =>
    simp only [hg, Bool.false_eq_true, if_false] at hn
    match us, hn with
    | [u], _ =>
      have := hl.cell 0 u rfl
      simp only [Addr.add, if_true] at this
      simp [this]
theorem opLoadC_ok (hR : Rel Z H ρ w) (ht : TRel Z H ρ w ts a) {t : TypeId} {x : Operand} (ho : o.op = .load t x) (h : opLoadC X ts H t x K = some r) : SndQ (P := P) Z H ρ w o a K r := by
  unfold opLoadC at h
  have hx := ev_ok hR ht x
  split at h
  · rename_i tr c h1 h2
    split at h
    · rename_i cs hc
      split at h
      · rename_i v hm
        rw [h2] at hx
        obtain ⟨ad, us, hv, hl, hn, _, hL⟩ := cellsAt_ok hR hc hx
        refine SndQ.of hR h ?_ (V2_mk2 hm hL)
        simp only [execOp, ho, Instr.loadAt, Sem.run_bind, Sem.run_pure, hv, Instr.sureAddr, Result.andThen_ok, loadVar_run hT h1 hl hn]
      · cases h
    · cases h
  · cases h
omit hT in
theorem iff'_ok {c : Bool} {x : Option β} (h : iff' c x = some r) : c = true ∧ x = some r := by
  cases c with
  | true => exact ⟨rfl, h⟩
  | false => cases h
omit hT in
theorem arrInts_ok : ∀ (cs : List C1) {k : IntKind} {ns : List Int}, arrInts cs = some (k, ns) → cs = ns.map fun n => .lit (.int k n)
  | [], _, _, h => by cases h
  | [c], k, ns, h => by
    cases c with
    | lit v => cases v <;> first | (cases h; done) | (simp only [arrInts, Option.some.injEq, Prod.mk.injEq] at h; obtain ⟨rfl, rfl⟩ := h; rfl)
    | _ => cases h
  | c :: d :: cs, k, ns, h => by
    cases c with
    | lit v =>
      cases v with
      | int k1 n =>
        simp only [arrInts] at h
        split at h
        case h_2 => cases h
        rename_i k' ns' h1
        split at h
        case isFalse => cases h
        rename_i hk
        simp only [Option.some.injEq, Prod.mk.injEq] at h
        obtain ⟨rfl, rfl⟩ := h
        subst hk
        rw [arrInts_ok (d :: cs) h1]; rfl
      | _ => cases h
    | _ => cases h
omit hT in
theorem arrAt_ok {c : C1} {k : IntKind} {ns : List Int} {off : Nat} (h : arrAt X H c = some (k, ns, off)) (ho : off < ns.length) : cellsAt H c 1 = some [.lit (.int k (ns.getD off 0))] := by
  unfold arrAt at h
  split at h
  case h_2 => cases h
  rename_i l off'
  split at h
  case h_2 => cases h
  rename_i e cs hat
  split at h
  case h_2 => cases h
  split at h
  case h_2 => cases h
  split at h
  case h_2 => cases h
  rename_i hi
  simp only [Option.some.injEq, Prod.mk.injEq] at h
  obtain ⟨rfl, rfl, rfl⟩ := h
  have hcs := arrInts_ok cs hi
  rename_i k0 ns0
  have hcut : cut cs off' 1 = [C1.lit (.int k0 (ns0.getD off' 0))] := by
    unfold cut
    rw [hcs, ← List.map_drop, ← List.map_take, List.drop_eq_getElem_cons ho, List.getD_eq_getElem?_getD, List.getElem?_eq_getElem ho]
    rfl
  simp only [cellsAt, hat]
  rw [hcut]
  rfl
theorem opLoad_ok (hR : Rel Z H ρ w) (ht : TRel Z H ρ w ts a) {t : TypeId} {x : Operand} (ho : o.op = .load t x) (h : opLoad X ts H t x K = some r) : SndQ (P := P) Z H ρ w o a K r := by
  unfold opLoad at h
  split at h
  case h_2 => cases h
  rename_i tr c h1 h2
  split at h
  · rename_i k ns off hg ha
    obtain ⟨hb, hK⟩ := iff'_ok h
    simp only [decide_eq_true_eq] at hb
    refine opLoadC_ok hT hR ht ho ?_
    unfold opLoadC
    rw [h1, h2]
    simp only [hg, Bool.false_eq_true, if_false, arrAt_ok ha hb, mk2]
    exact hK
  · exact opLoadC_ok hT hR ht ho h
omit hT in
theorem addOff_ok {c c' : C1} {n : Nat} {v : Value} (h : addOff c n = some c') (hv : V1 Z H ρ w c v) (hnn : notNil H c = true) : ∃ ad, v = .pointer (some ad) ∧ V1 Z H ρ w c' (.pointer (some (ad.add n))) := by
  unfold addOff at h
  split at h
  · rename_i l o' n'
    simp only [Option.some.injEq] at h; subst h
    obtain ⟨h1, h2, h3⟩ := hv
    obtain ⟨p, hp, rfl⟩ := h3 (by simpa [notNil] using hnn)
    refine ⟨_, rfl, h1, rfl, fun _ => ⟨p, hp, by rw [add_off]⟩⟩
  · rename_i l sz i o' n'
    simp only [Option.some.injEq] at h; subst h
    obtain ⟨h1, ⟨ad, rfl⟩, h3⟩ := hv
    refine ⟨ad, rfl, h1, ⟨_, rfl⟩, fun z n hd => ?_⟩
    obtain ⟨g1, g2, p, hp, g3⟩ := h3 z n hd
    simp only [Value.pointer.injEq, Option.some.injEq] at g3
    subst g3
    exact ⟨g1, g2, p, hp, by rw [add_off, Nat.add_assoc]⟩
  · rename_i s xs i o' n'
    simp only [Option.some.injEq] at h; subst h
    obtain ⟨h1, ad, m, cap, h2, rfl⟩ := hv
    exact ⟨_, rfl, h1, ad, m, cap, h2, by rw [add_add, Nat.add_assoc]⟩
  · cases h

omit hT in
theorem fieldOff_ok {fs : Array Field} {f off n : Nat} {ag : Bool} (h : fieldOff X.ti fs f = some (off, n, ag)) : ∃ fl tr, fs[f]? = some fl ∧ X.ti fl.type = some tr ∧ fl.offset = off ∧ tr.size = n ∧ isAggD tr.d = ag := by
  unfold fieldOff at h
  split at h
  · rename_i fl h1
    split at h
    · rename_i tr h2
      simp only [Option.some.injEq, Prod.mk.injEq] at h
      exact ⟨fl, tr, h1, h2, h.1, h.2.1, h.2.2⟩
    · cases h
  · cases h
theorem opFieldAddr_ok (hR : Rel Z H ρ w) (ht : TRel Z H ρ w ts a) {s : TypeId} {x : Operand} {f : Nat} (ho : o.op = .fieldAddr s x f) (h : opFieldAddr X ts H s x f K = some r) : SndQ (P := P) Z H ρ w o a K r := by
  unfold opFieldAddr at h
  have hx := ev_ok hR ht x
  split at h
  · rename_i tr c h1 h2
    split at h
    · rename_i fs hd
      split at h
      · rename_i off size ag hf
        split at h
        · rename_i hb
          simp only [Bool.and_eq_true, decide_eq_true_eq] at hb
          split at h
          · rename_i c' hc
            rw [h2] at hx
            obtain ⟨ad, hv, hv'⟩ := addOff_ok hc hx hb.2
            obtain ⟨fl, tf, g1, g2, g3, g4, g5⟩ := fieldOff_ok hf
            refine SndQ.of hR h (cv := .pointer (some (ad.add off))) ?_ hv'
            have hu := hT.und s tr h1
            rw [hd] at hu
            have hz : ¬ tf.size = 0 := by omega
            simp only [execOp, ho, Instr.fieldAt, Sem.run_bind, run_underlying hu, Result.andThen_ok, g1, hv, Instr.sureAddr, Sem.run_pure, fieldPlace, size_run hT g2, Sem.run_ite, hz, if_false, g3]
          · cases h
        · cases h
      · cases h
    · cases h
  · cases h
theorem part_run {t : TypeId} {tr : TR} (h : X.ti t = some tr) {us : Array Value} {off : Nat} {cs : List Value} (hc : cs = (us.toList.drop off).take (if isAggD tr.d then tr.size else 1)) (hn : cs.length = if isAggD tr.d then tr.size else 1) :
    (part t us off).run P w = .ok (if isAggD tr.d then .agg cs.toArray else cs.headD undef) w := by
  unfold part
  simp only [Sem.run_bind, isAgg_run hT h, Result.andThen_ok]
  cases hg : isAggD tr.d with
  | true =>
    simp only [hg, if_true] at hn hc
    simp only [if_true, Sem.run_bind, size_run hT h, Result.andThen_ok, Sem.run_pure]
    congr 2
    apply Array.ext'
    rw [hc]
    simp [List.take_drop, Nat.add_comm]
  | false =>
    simp only [hg, Bool.false_eq_true, if_false] at hn hc
    simp only [Bool.false_eq_true, if_false]
    match cs, hn with
    | [u], _ =>
      have : us[off]? = some u := by
        have := (cut_get us.toList off 1 0 u (by rw [← hc]; rfl)).1
        simpa using this
      simp [this]
omit hT in
theorem cutN_ok {cs : List C1} {o n : Nat} {q : List C1} (h : cutN cs o n = some q) : q = cut cs o n ∧ (cut cs o n).length = n := by
  unfold cutN at h
  split at h
  · rename_i hn
    simp only [Option.some.injEq] at h
    exact ⟨h.symm, by simpa using hn⟩
  · cases h
theorem opField_ok (hR : Rel Z H ρ w) (ht : TRel Z H ρ w ts a) {s : TypeId} {x : Operand} {f : Nat} (ho : o.op = .field s x f) (h : opField X ts H s x f K = some r) : SndQ (P := P) Z H ρ w o a K r := by
  unfold opField at h
  have hx := ev_ok hR ht x
  split at h
  · rename_i tr cs h1 h2
    split at h
    · rename_i fs hd
      split at h
      · rename_i off size ag hf
        obtain ⟨fl, tf, g1, g2, g3, g4, g5⟩ := fieldOff_ok hf
        subst g4 g5
        split at h
        · rename_i cs' hcut
          obtain ⟨rfl, hn⟩ := cutN_ok hcut
          split at h
          · rename_i v hm
            rw [h2] at hx
            obtain ⟨us, hv, hl⟩ := hx
            have hl2 := (hl.drop off).take (if isAggD tf.d then tf.size else 1)
            refine SndQ.of hR h ?_ (V2_mk2 hm hl2)
            have hu := hT.und s tr h1
            rw [hd] at hu
            have hn2 := hl2.length.symm.trans hn
            simp only [execOp, ho, Instr.field, Sem.run_bind, run_underlying hu, Result.andThen_ok, g1, hv, asAgg, Sem.run_pure, g3, part_run hT g2 rfl hn2]
          · cases h
        · cases h
      · cases h
    · cases h
  · cases h
omit hT in
theorem asI_ok {x : AV} {n : Int} {v : Value} (h : asI x = some n) (hv : VA Z H ρ w x v) : ∃ k, v = .int k n := by
  unfold asI at h
  split at h
  · rename_i k m
    simp only [Option.some.injEq] at h; subst h
    exact ⟨k, (hv : v = _ ∧ _).1⟩
  · cases h
theorem indexAt_run {t e : TypeId} {tr te : TR} (h1 : X.ti t = some tr) (hd : tr.d = .slice e) (h2 : X.ti e = some te) {ad : Addr} {len cap : Nat} {k : IntKind} {i : Int} (h0 : 0 ≤ i) (hi : i < (len : Int)) :
    (Instr.indexAt t (.slice (some ad) len cap) (.int k i)).run P w = .ok (.pointer (some (ad.add (i.toNat * te.size)))) w := by
  have hu := hT.und t tr h1
  rw [hd] at hu
  simp [Instr.indexAt, asIntOf, run_underlying hu, size_run hT h2, h0, hi]
theorem opIndexAddr_ok (hR : Rel Z H ρ w) (ht : TRel Z H ρ w ts a) {t : TypeId} {x ix : Operand} (ho : o.op = .indexAddr t x ix) (h : opIndexAddr X ts H t x ix K = some r) : SndQ (P := P) Z H ρ w o a K r := by
  unfold opIndexAddr at h
  have hx := ev_ok hR ht x
  have hi := ev_ok hR ht ix
  split at h
  · rename_i tr c i h1 h2 h3
    obtain ⟨k, hk⟩ := asI_ok h3 hi
    rw [h2] at hx
    split at h
    · rename_i e hd
      split at h
      · rename_i te he
        have key : ∀ {ad : Addr} {len cap : Nat} {c' : C1}, a.eval x = .slice (some ad) len cap → 0 ≤ i → i < (len : Int) → K (.one c') [] [] = some r → V1 Z H ρ w c' (.pointer (some (ad.add (i.toNat * te.size)))) → SndQ (P := P) Z H ρ w o a K r := by
          intro ad len cap c' hv g0 g1 hK hV
          refine SndQ.of hR hK ?_ hV
          simp only [execOp, ho, Sem.run_bind, hv, hk, indexAt_run hT h1 hd he g0 g1, Result.andThen_ok, Sem.run_pure]
        split at h
        · rename_i l sz
          split at h
          · rename_i hsz
            simp only [beq_iff_eq] at hsz
            split at h
            · rename_i z1 n1 hdm
              obtain ⟨hb, hK⟩ := iff'_ok h
              simp only [decide_eq_true_eq] at hb
              obtain ⟨g1, g2, g3⟩ := hx
              obtain ⟨rfl, hs⟩ := g3 _ _ hdm
              rcases hs with ⟨p, cap, hp, hv, hc1, hc2⟩ | ⟨h0, _⟩
              · refine key hv hb.1 hb.2 hK ⟨g1, ⟨_, rfl⟩, fun z2 n2 hd2 => ?_⟩
                rw [hdm] at hd2
                cases hd2
                exact ⟨by omega, rfl, p, hp, by rw [add_off, hsz]; simp⟩
              · omega
            · cases h
          · cases h
        · rename_i l sz off len
          split at h
          · rename_i hsz
            simp only [beq_iff_eq] at hsz
            split at h
            · rename_i d1 hdm
              obtain ⟨z1, n1⟩ := d1
              obtain ⟨hb, hK⟩ := iff'_ok h
              simp only [decide_eq_true_eq] at hb
              obtain ⟨g1, g2, g3⟩ := hx
              obtain ⟨rfl, hle, hs⟩ := g3 _ _ hdm
              rcases hs with ⟨p, cap, hp, hv, hc1, hc2⟩ | ⟨h0, _⟩
              · refine key hv hb.1 hb.2 hK ⟨g1, ⟨_, rfl⟩, fun z2 n2 hd2 => ?_⟩
                rw [hdm] at hd2
                cases hd2
                exact ⟨by omega, rfl, p, hp, by rw [add_off, hsz, Nat.add_mul]; simp [Nat.add_assoc]⟩
              · omega
            · cases h
          · cases h
        · rename_i s xs
          split at h
          · rename_i hsz
            simp only [beq_iff_eq, Bool.and_eq_true, decide_eq_true_eq] at hsz
            obtain ⟨hsz, hpos⟩ := hsz
            obtain ⟨hb, hK⟩ := iff'_ok h
            simp only [decide_eq_true_eq] at hb
            have hx' : R1 w (A Z H ρ w) _ _ := hx
            obtain ⟨a', cap, us, hv, hn, hL, hA⟩ := hx'.sl_inv
            cases a' with
            | some ad =>
              refine key hv hb.1 hb.2 hK ⟨by omega, ad, xs.length, cap, hv ▸ hx', by rw [hsz]; simp⟩
            | none =>
              have : us = [] := by rcases hA with h | ⟨_, h, _⟩ <;> first | exact h | cases h
              subst this
              have h0 := hL.length
              rw [flat_len (dv_len s)] at h0
              rcases Nat.mul_eq_zero.mp h0 with h | h <;> omega
          · cases h
        · cases h
      · cases h
    · rename_i n e hd
      split at h
      case h_3 => cases h
      case h_2 =>
        rename_i te s xs i0 he
        split at h
        case isFalse => cases h
        rename_i hs
        simp only [Bool.and_eq_true, beq_iff_eq, Nat.ble_eq] at hs
        obtain ⟨hb, hK⟩ := iff'_ok h
        simp only [decide_eq_true_eq] at hb
        obtain ⟨g1, ad, m, cap, g2, hv⟩ := hx
        have hu := hT.und t tr h1
        rw [hd] at hu
        have hi2 : 0 ≤ i ∧ i < (n : Int) := hb
        refine SndQ.of hR hK (cv := .pointer (some ((ad.add (i0 * s.sz + 0)).add (i.toNat * te.size)))) ?_ ⟨by omega, ad, m, cap, g2, by rw [add_add, hs.1, Nat.add_mul]; simp⟩
        simp [execOp, ho, hv, hk, Instr.indexAt, asIntOf, run_underlying hu, Instr.sureAddr, size_run hT he, hi2]
      rename_i te l off he
      split at h
      case isFalse => cases h
      rename_i hlive
      obtain ⟨hb, hK⟩ := iff'_ok h
      simp only [decide_eq_true_eq] at hb
      obtain ⟨g1, g2, g3⟩ := hx
      obtain ⟨p, hp, hv⟩ := g3 hlive
      have hu := hT.und t tr h1
      rw [hd] at hu
      refine SndQ.of hR hK (cv := .pointer (some ((⟨p.b, off, none⟩ : Addr).add (i.toNat * te.size)))) ?_ ⟨g1, rfl, fun _ => ⟨p, hp, by rw [add_off]⟩⟩
      have hi2 : 0 ≤ i ∧ i < (n : Int) := hb
      simp [execOp, ho, hv, hk, Instr.indexAt, asIntOf, run_underlying hu, Instr.sureAddr, size_run hT he, hi2]
    · cases h
  · cases h
end
end Go.Proofs.YtaklapcbbdcdpaaDoor.X
