import Derived.Test.YtaklapcbbdcdpaaDoorXJ
namespace Go.Proofs.YtaklapcbbdcdpaaDoor.X
open Go Go.RowKit
set_option linter.unusedVariables false
set_option linter.unusedSimpArgs false
section
variable {P : Program} {X : Ctx P} {β : Type} {Z : Nat → Prop} {H : Heap} {ρ : Rho} {w w' : World} {o : Oper} {a : Act} {K : KO β} {r : β} {ts : TS}
theorem firstCells_ok {size m mc : Nat} {xa : Option Addr} {news : List Value} (hl : news.length = m * size) (hn : news = [] ∨ ∃ b, xa = some b ∧ Lies w b news) : (Builtin.firstCells size m (.slice xa m mc)).run P w = .ok news.toArray w := by
  cases xa with
  | none =>
    rcases hn with rfl | ⟨b, hb, _⟩
    · exact run_firstCells_none w size m m mc
    · cases hb
  | some b =>
    refine run_firstCells_some w size m b m mc news hl ?_
    rcases hn with rfl | ⟨b', hb, hL⟩
    · intro j v hj; simp at hj
    · cases hb; exact hL.cell
theorem newsOf_ok (hR : Rel Z H ρ w) {c : C1} {v : Value} {s : Sh} {ys : List s.T} (h : newsOf H s c = some ys) (hv : V1 Z H ρ w c v) :
    ∃ ad cap us, v = .slice ad ys.length cap ∧ ys.length ≤ cap ∧ LR (R1 w (A Z H ρ w)) (ys.flatMap s.dv) us ∧ (us = [] ∨ ∃ b, ad = some b ∧ Lies w b us) := by
  unfold newsOf at h
  split at h
  · rename_i hn
    simp only [Option.some.injEq] at h; subst h
    unfold isNilSl at hn
    split at hn
    · exact ⟨none, 0, [], (hv : v = _ ∧ _).1, Nat.le_refl _, by simp [LR], .inl rfl⟩
    · cases hn
  · split at h
    · rename_i s' zs hz
      split at h
      · rename_i hs
        subst hs
        simp only [Option.some.injEq, castL] at h; subst h
        exact elemsOf_ok hR hz hv
      · cases h
    · cases h
theorem grown_drew_alloc (w : World) (o : Obj) : w.grownBy (w.drew.alloc o) none := ⟨rfl, rfl, rfl, by simp, fun k hk _ => heap_alloc_old w.drew o k hk⟩
theorem grown_refl (w : World) : w.grownBy w none := ⟨rfl, rfl, rfl, Nat.le_refl _, fun _ _ _ => rfl⟩
variable (hT : TIok P X.ti)
include hT
theorem append_stays {t e : TypeId} {tr te : TR} (h1 : X.ti t = some tr) (hd : tr.d = .slice e) (h2 : X.ti e = some te) {sa xa : Option Addr} {n cap m mc : Nat} {news : List Value} {ty : TypeId}
    (hl : news.length = m * te.size) (hn : news = [] ∨ ∃ b, xa = some b ∧ Lies w b news) (hroom : n + m ≤ cap) {w' : World}
    (hst : ∀ b, sa = some b → (storeCells (b.add (n * te.size)) news).run P w = .ok () w') (h0 : sa = none → w' = w) :
    (Builtin.append_ #[t, t] ty #[.slice sa n cap, .slice xa m mc]).run P w = .ok (.slice sa (n + m) cap) w' := by
  have hu := hT.und t tr h1
  rw [hd] at hu
  have hf := firstCells_ok (P := P) (w := w) (mc := mc) hl hn
  cases sa with
  | some b => simp [Builtin.append_, run_underlying hu, size_run hT h2, Builtin.lenOf, hroom, hf, hst b rfl]
  | none => rw [h0 rfl]; simp [Builtin.append_, run_underlying hu, size_run hT h2, Builtin.lenOf, hroom, hf]
theorem append_grows {t e : TypeId} {tr te : TR} (h1 : X.ti t = some tr) (hd : tr.d = .slice e) (h2 : X.ti e = some te) {sa xa : Option Addr} {n cap m mc : Nat} {olds news : List Value} {ty : TypeId}
    (hlo : olds.length = n * te.size) (ho : olds = [] ∨ ∃ b, sa = some b ∧ Lies w b olds) (hl : news.length = m * te.size) (hn : news = [] ∨ ∃ b, xa = some b ∧ Lies w b news)
    (hb : (n + m) * te.bytes ≤ 140737488355328) (hb0 : 0 < te.bytes) (hgrow : cap < n + m) :
    ∃ C z, n + m ≤ C ∧ C ≤ maxLen ∧ z.size = (C - (n + m)) * te.size ∧ (Builtin.append_ #[t, t] ty #[.slice sa n cap, .slice xa m mc]).run P w =
      .ok (.slice (some ⟨w.heap.size, 0, none⟩) (n + m) C) (w.drew.alloc (.cells (olds.toArray ++ news.toArray ++ z) e)) := by
  have hu := hT.und t tr h1
  rw [hd] at hu
  obtain ⟨i, zv, g1, g2, g3, g4, g5, g6, g7⟩ := hT.info e te h2
  have hnm : n + m ≤ 140737488355328 := Nat.le_trans (Nat.le_mul_of_pos_right _ hb0) hb
  have lies_drew : ∀ {ad : Option Addr} {us : List Value}, (us = [] ∨ ∃ b, ad = some b ∧ Lies w b us) → (us = [] ∨ ∃ b, ad = some b ∧ Lies w.drew b us) :=
    fun h => h.imp id fun ⟨b, hb, hL⟩ => ⟨b, hb, ⟨fun j v hj => by simpa using hL.cell j v hj⟩⟩
  have hf := firstCells_ok (P := P) (w := w.drew) (mc := mc) hl (lies_drew hn)
  have hfo := firstCells_ok (P := P) (w := w.drew) (mc := cap) hlo (lies_drew ho)
  have h48 : ¬ (281474976710656 < Builtin.nextslicecap (n + m) cap * i.bytes) := by
    have := growslice_fits (bytes := i.bytes) hgrow (by rw [g3]; exact hb)
    omega
  have h63' : ¬ (9223372036854775807 < ((n : Int) + (m : Int))) := by omega
  have hn1 : ¬ (n + m ≤ cap) := by omega
  refine ⟨grownCap w (n + m) cap e, Builtin.zeroCells zv.cells (grownCap w (n + m) cap e - (n + m)), grownCap_ge w _ _ _, grownCap_le_maxLen w _ _ _ (by simp only [maxLen]; omega), ?_, ?_⟩
  · rw [size_zeroCells, ← Array.length_toList, g5, g6]
  · simp [Builtin.append_, run_underlying hu, sizeOf, typeInfo, zeroValue, g1, g2, g4, Builtin.lenOf, hn1, h63', h48, Question.forced, hf, hfo, newRow, grownCap]
    congr 2
    apply Array.ext'
    simp

theorem opAppend_ok (hR : Rel Z H ρ w) (ht : TRel Z H ρ w ts a) {t : TypeId} {s x : Operand} {args : Array Operand} {tys : Array TypeId} (ho : o.op = .call { callee := .builtin .append, args := args, argTypes := tys }) (ha : args.toList = [s, x]) (hty : tys.toList = [t, t])
    (h : opAppend X ts H t s x K = some r) : Snd (P := P) X.ro Z H ρ w o a K r := by
  unfold opAppend at h
  have hs := ev_ok hR ht s
  have hx := ev_ok hR ht x
  have hargs : args = #[s, x] := by apply Array.ext'; simpa using ha
  have htys : tys = #[t, t] := by apply Array.ext'; simpa using hty
  subst hargs htys
  split at h
  case h_2 => cases h
  rename_i tr cs cx h1 h2 h3
  rw [h2] at hs
  rw [h3] at hx
  split at h
  case h_2 => cases h
  rename_i e hd
  split at h
  case h_2 => cases h
  rename_i te he
  split at h
  case h_2 => cases h
  rename_i os U ns holds hnews
  split at h
  case isFalse => cases h
  rename_i hc
  simp only [Bool.and_eq_true, beq_iff_eq, decide_eq_true_eq] at hc
  obtain ⟨⟨hsz, hpos⟩, hbpos⟩ := hc
  obtain ⟨hb, hK⟩ := iff'_ok h
  have hb' : (os.length + ns.length) * te.bytes ≤ 140737488355328 := Nat.le_of_ble_eq_true hb
  obtain ⟨xa, mc, nus, hxv, hmc, hnL, hnA⟩ := newsOf_ok hR hnews hx
  have hnl : nus.length = ns.length * te.size := by rw [← hnL.length, flat_len (dv_len te.sh), hsz]
  have hnone := R1_all_one hnL
  -- the run, where it stays
  have run : ∀ {sv cv : Value} {w' : World}, a.eval s = sv → (Builtin.append_ #[t, t] o.type #[sv, .slice xa ns.length mc]).run P w = .ok cv w' → (execOp a.eval o).run P w = .ok (.value cv) w' := by
    intro sv cv w' hsv hr
    simp only [execOp, ho, resolve, invoke, builtin, Sem.run_bind, Sem.run_pure, Result.andThen_ok, List.map_toArray, List.map_cons, List.map_nil, hsv, hxv, hr]
  -- a new block
  have grow : ∀ {H1 : Heap} {sa : Option Addr} {cap : Nat} {ous : List Value}, Rel Z H1 ρ w → Ext H ρ w H1 ρ w → H1 = H.upd U → a.eval s = .slice sa os.length cap → LR (R1 w (A Z H ρ w)) (os.flatMap te.sh.dv) ous → (ous = [] ∨ ∃ b, sa = some b ∧ Lies w b ous) → cap < os.length + ns.length → H1.length = H.length →
      StepTo P o a w (OK Z H ρ w (.one (.own H.length te.sh.sz)) U [.row e te.sh (os ++ ns)]) := by
    intro H1 sa cap ous hR1 e1 hH1 hsv hoL hoA hgr hlen
    have hol : ous.length = os.length * te.size := by rw [← hoL.length, flat_len (dv_len te.sh), hsz]
    obtain ⟨C, z, hC1, hC2, hz, hrun⟩ := append_grows (w := w) (ty := o.type) (mc := mc) hT h1 hd he hol hoA hnl hnA hb' hbpos hgr
    refine StepTo.value (run hsv hrun) ?_
    have g := grown_drew_alloc w (.cells (ous.toArray ++ nus.toArray ++ z) e)
    have hq : ∀ p, (some ((Pl.new w.heap.size 0 (C)) : Pl)) = some p → w.heap.size ≤ p.b ∧ ∀ k, ¬ p.inn k := fun p hp => by cases hp; exact ⟨Nat.le_refl _, fun _ h => h⟩
    have e2 := Ext.new (H := H1) (ρ := ρ) (.row e te.sh (os ++ ns)) (some (Pl.new w.heap.size 0 C)) g hq
    have := OK.new (v := .one (.own H.length te.sh.sz)) (cv := .slice (some ⟨w.heap.size, 0, none⟩) (os.length + ns.length) C) (n := .row e te.sh (os ++ ns)) hR1 g hq ?_ ?_
    · rw [hH1] at this e1
      have := OK.before (V := []) (U := U) e1 this
      simpa using this
    · refine .inr ⟨_, _, ous ++ nus, put_same _ _ _, heap_alloc_new w.drew _, ?_, by simp; omega, hC2, fun j v hj => ?_, ?_⟩
      · simp [hz, hol, hnl, hsz]
        have : C * te.size = os.length * te.size + ns.length * te.size + (C - (os.length + ns.length)) * te.size := by
          rw [← Nat.add_mul, ← Nat.add_mul]; congr 1; omega
        omega
      · simp only [Nat.zero_add]
        rw [← Array.getElem?_toList]
        simp only [Array.toList_append]
        rw [List.getElem?_append_left (by simpa using (List.getElem?_eq_some_iff.1 hj).1)]
        exact hj
      · rw [List.flatMap_append]
        exact ((hoL.append hnL).imp fun _ _ h => e2.R1 (e1.R1 h))
    · refine ⟨by simp [hlen], rfl, fun z3 n3 hat => ?_⟩
      rw [← hlen, at_new] at hat
      cases hat
      exact ⟨rfl, .inl ⟨_, C, by rw [← hlen]; exact put_same _ _ _, by simp, by simpa using hC1, by simp⟩⟩
  unfold oldsOf at holds
  split at holds
  · rename_i hnil
    simp only [Option.some.injEq, Prod.mk.injEq] at holds
    obtain ⟨rfl, rfl⟩ := holds
    unfold isNilSl at hnil
    split at hnil
    case h_2 => cases hnil
    have hsv := (hs : a.eval s = _ ∧ _).1
    refine ⟨_, _, _, hK, by simp, ?_⟩
    rcases Nat.eq_zero_or_pos ns.length with h0 | h0
    · have hst := append_stays (w := w) (ty := o.type) (n := 0) (cap := 0) (sa := none) (mc := mc) hT h1 hd he hnl hnA (by omega) (w' := w) (by simp) (fun _ => rfl)
      rw [h0] at hst run
      refine StepTo.value (run hsv hst) ?_
      obtain rfl := List.eq_nil_of_length_eq_zero h0
      refine OK.new (q := none) hR (grown_refl w) (by simp) (.inl ⟨rfl, put_same _ _ _⟩) ⟨by simp, rfl, fun z3 n3 hat => ?_⟩
      rw [at_new] at hat
      cases hat
      exact ⟨rfl, .inr ⟨rfl, none, rfl⟩⟩
    · exact grow hR (Ext.refl _ _ _) rfl hsv (ous := []) (by simp [LR]) (.inl rfl) (by simpa using h0) rfl
  · rename_i hnn
    split at holds
    case h_2 => cases holds
    rename_i l hl
    split at holds
    case isFalse => cases holds
    rename_i hro
    simp only [decide_eq_true_eq] at hro
    split at holds
    case h_2 => cases holds
    rename_i e' s' xs hat
    split at holds
    case isFalse => cases holds
    rename_i hee
    simp only [beq_iff_eq] at hee
    subst hee
    split at holds
    case h_2 => cases holds
    rename_i ys hys
    simp only [Option.some.injEq, Prod.mk.injEq] at holds
    obtain ⟨rfl, rfl⟩ := holds
    obtain ⟨sa, cap, ous, hsv, hcap, hoL, hoA⟩ := newsOf_ok hR hys hs
    have hlive : (H.at l).isLive = true := by rw [hat]; rfl
    refine ⟨_, _, _, hK, by simpa using hro, ?_⟩
    rcases Nat.lt_or_ge cap (ys.length + ns.length) with hgr | hroom
    · exact grow (hR.kill l) (ext_kill l) rfl hsv hoL hoA hgr (by simp)
    · -- it stays
      -- where the row lies
      have key : ∃ off, s' = te.sh ∧ SlAt ρ l te.sh.sz off ys.length (.slice sa ys.length cap) := by
        unfold newsOf at hys
        rw [if_neg hnn] at hys
        cases cs with
        | own l' z =>
          simp only [rowOf, Option.some.injEq] at hl; subst hl
          simp only [elemsOf, hat] at hys
          split at hys
          · rename_i hh
            subst hh
            simp only [Option.some.injEq, castL] at hys; subst hys
            obtain ⟨g1, g2, g3⟩ := hs
            obtain ⟨hz, hsl⟩ := g3 _ _ (dim_row hat)
            rw [hsv, hz] at hsl
            exact ⟨0, rfl, hsl⟩
          · cases hys
        | sl l' z off len =>
          simp only [rowOf, Option.some.injEq] at hl; subst hl
          simp only [elemsOf, hat] at hys
          split at hys
          · rename_i hh
            subst hh
            simp only [Option.some.injEq, castL] at hys; subst hys
            obtain ⟨g1, g2, g3⟩ := hs
            obtain ⟨hz, hle, hsl⟩ := g3 _ _ (dim_row hat)
            rw [hsv, hz] at hsl
            have : ((xs.drop off).take len).length = len := by simp; omega
            rw [this] at hsl ⊢
            exact ⟨off, rfl, hsl⟩
          · cases hys
        | any => simp [rowOf] at hl
        | lit u => simp [rowOf] at hl
        | ptr l z => simp [rowOf] at hl
        | ep l z i m => simp [rowOf] at hl
        | vp l z i m => simp [rowOf] at hl
        | vsl l z => simp [rowOf] at hl
        | fn f as => simp [rowOf] at hl
      obtain ⟨off, rfl, hsl⟩ := key
      rcases hsl with ⟨p, cap', hp, hv, hc1, hc2⟩ | ⟨h0, ad, hv⟩
      · simp only [Value.slice.injEq] at hv
        obtain ⟨rfl, _, rfl⟩ := hv
        have hho := hR.obj l
        rw [hat] at hho
        rcases hho with ⟨_, hn2⟩ | ⟨q, cur, us, hq, hw, hfit, hxc, hcm, hcells, hxL⟩
        · rw [hp] at hn2; cases hn2
        rw [hp] at hq; cases hq
        have hol : ous.length = ys.length * te.size := by rw [← hoL.length, flat_len (dv_len te.sh), hsz]
        have hoLies : ous = [] ∨ Lies w ⟨p.b, p.base + off * te.sh.sz, none⟩ ous := by
          rcases hoA with h | ⟨b, hb, hL⟩
          · exact .inl h
          · cases hb; exact .inr hL
        have hmul : (off + (ys.length + ns.length)) * te.sh.sz ≤ p.cap * te.sh.sz := Nat.mul_le_mul_right _ (by omega)
        rw [Nat.add_mul, Nat.add_mul, hsz] at hmul
        rw [hsz] at hfit
        have hoff : off * te.sh.sz = off * te.size := by rw [hsz]
        have hst := run_storeCells_at P p.b (p.base + off * te.sh.sz + ys.length * te.size) e' nus 0 cur w hw (by rw [hnl, hsz]; omega) hnone
        simp only [Nat.add_zero] at hst
        have hrun := append_stays (w := w) (ty := o.type) (mc := mc) (n := ys.length) (cap := cap) (sa := some ⟨p.b, p.base + off * te.sh.sz, none⟩) hT h1 hd he hnl hnA hroom (fun b hb => by cases hb; rw [add_off]; exact hst) (by simp)
        refine StepTo.value (run hsv hrun) ?_
        have mv := Rel.move (w' := w.setRow p.b (cur.toList.take (p.base + off * te.sh.sz + ys.length * te.size) ++ nus ++ cur.toList.drop (p.base + off * te.sh.sz + ys.length * te.size + nus.length)).toArray) hR (q := Pl.new p.b (p.base + off * te.sh.sz) (p.cap - off)) (n := .row e' te.sh (ys ++ ns)) hlive hp rfl (fun _ h => h.elim) (fun k hk => setRow_other w _ _ _ hk) rfl rfl rfl (by simp)
        obtain ⟨f1, f2⟩ := mv (by
          intro ex
          have hcs : (cur.toList.take (p.base + off * te.sh.sz + ys.length * te.size) ++ nus ++ cur.toList.drop (p.base + off * te.sh.sz + ys.length * te.size + nus.length)).length = cur.size := by
            simp; omega
          refine .inr ⟨_, _, ous ++ nus, put_same _ _ _, setRow_heap w _ _ _ _ _ hw, ?_, by simp; omega, by simp only; omega, fun j v hj => ?_, ?_⟩
          · simp only [List.size_toArray, hcs]
            rw [Nat.sub_mul, hsz]
            have : off * te.size ≤ p.cap * te.size := Nat.mul_le_mul_right _ (by omega)
            omega
          · simp only [List.getElem?_toArray]
            rcases Nat.lt_or_ge j ous.length with hj1 | hj1
            · rw [List.getElem?_append_left hj1] at hj
              rw [List.append_assoc, List.getElem?_append_left (by simp; omega), List.getElem?_take, if_pos (by omega), Array.getElem?_toList]
              rcases hoLies with rfl | hL
              · simp at hj1
              · have := hL.cell j v hj
                rw [add_off, cell_at w p.b _ cur e' (0, 0) hw] at this
                exact this
            · rw [List.getElem?_append_right hj1] at hj
              have hjl := (List.getElem?_eq_some_iff.1 hj).1
              have hlt : (cur.toList.take (p.base + off * te.sh.sz + ys.length * te.size)).length = p.base + off * te.sh.sz + ys.length * te.size := by simp; omega
              rw [List.append_assoc, List.getElem?_append_right (by omega), hlt, List.getElem?_append_left (by omega)]
              rw [← hj]; congr 1; omega
          · rw [List.flatMap_append]
            exact ((hoL.append hnL).imp fun _ _ h => ex.R1 h))
        · refine ⟨_, ⟨by simp [Heap.upd], rfl, fun z3 n3 hat3 => ?_⟩, f1, f2, fun l2 hl2 hv2 => ⟨put_lt ρ _ _ (at_lt hv2), fun p2 k hp2 hf => setRow_other w _ _ _ fun e => hl2 (l, .dead) (by simp) (hR.inj l l2 p p2 p.b hlive hv2 hp hp2 (.inl rfl) (by subst e; exact hf))⟩⟩
          have hat4 : Heap.at (H.set l .dead ++ [AO.row e' te.sh (ys ++ ns)]) H.length = .row e' te.sh (ys ++ ns) := by
            have := at_new (H := H.set l .dead) (o := AO.row e' te.sh (ys ++ ns)); rwa [List.length_set] at this
          rw [show Heap.at ((H.upd [(l, .dead)]) ++ [AO.row e' te.sh (ys ++ ns)]) H.length = _ from hat4] at hat3
          cases hat3
          exact ⟨rfl, .inl ⟨_, cap, put_same _ _ _, by simp, by simpa using hroom, by simp; omega⟩⟩
      · simp only [Value.slice.injEq] at hv
        obtain ⟨rfl, _, rfl⟩ := hv
        have hn0 : ns.length = 0 := by omega
        obtain rfl := List.eq_nil_of_length_eq_zero hn0
        obtain rfl := List.eq_nil_of_length_eq_zero h0
        obtain rfl := List.eq_nil_of_length_eq_zero (show nus.length = 0 by rw [hnl]; simp)
        have hrun := append_stays (w := w) (ty := o.type) (n := 0) (cap := 0) (m := 0) (sa := sa) hT h1 hd he (news := []) (by simp) (.inl rfl) (by omega) (w' := w) (fun b hb => by simp [storeCells]) (fun _ => rfl) (xa := xa) (mc := mc)
        refine StepTo.value (run hsv hrun) ?_
        have hok := OK.new (n := .row e' te.sh ([] ++ [])) (v := .one (.own H.length te.sh.sz)) (cv := .slice sa 0 0) (q := none) (hR.kill l) (grown_refl w) (by simp) (.inl ⟨rfl, put_same _ _ _⟩) ⟨by simp, rfl, fun z3 n3 hat3 => ?_⟩
        · have := OK.before (V := []) (U := [(l, .dead)]) (ext_kill l) hok
          simpa using this
        · have hat4 : Heap.at (H.set l .dead ++ [AO.row e' te.sh ([] ++ [])]) H.length = .row e' te.sh ([] ++ []) := by
            have := at_new (H := H.set l .dead) (o := AO.row e' te.sh ([] ++ [])); rwa [List.length_set] at this
          rw [hat4] at hat3
          cases hat3
          exact ⟨rfl, .inr ⟨rfl, sa, rfl⟩⟩
end
end Go.Proofs.YtaklapcbbdcdpaaDoor.X
