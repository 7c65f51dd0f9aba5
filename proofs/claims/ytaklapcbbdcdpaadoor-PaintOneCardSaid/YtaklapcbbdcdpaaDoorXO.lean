import Derived.Test.YtaklapcbbdcdpaaDoorXCp
import Derived.Laws.StructEq
import Derived.Laws.BytesString
namespace Go.Proofs.YtaklapcbbdcdpaaDoor.X
open Go Go.RowKit
set_option linter.unusedVariables false
set_option linter.unusedSimpArgs false
theorem two_of {α β : Type} {f : α → β} {l : List α} {u v : β} (h : l.map f = [u, v]) : ∃ x y, l = [x, y] ∧ f x = u ∧ f y = v := by
  match l, h with
  | [x, y], h => simp at h; exact ⟨x, y, rfl, h.1, h.2⟩
  | [], h => simp at h
  | [x], h => simp at h
  | x :: y :: z :: l, h => simp at h
section
variable {P : Program} {X : Ctx P} {β : Type} {Z : Nat → Prop} {H : Heap} {ρ : Rho} {w w' : World} {o : Oper} {a : Act} {K : KO β} {r : β} {ts : TS}
variable (hR : Rel Z H ρ w) (ht : TRel Z H ρ w ts a)
include hR ht
theorem opDiv_ok {op : BinOp} {t t' : TypeId} {x y : Operand} (ho : o.op = .binOp op t x y t') (hop : op = .quo ∨ op = .rem) (h : opDiv op (ev ts x) (ev ts y) K = some r) : SndQ (P := P) Z H ρ w o a K r := by
  unfold opDiv at h
  have hx := ev_ok hR ht x
  have hy := ev_ok hR ht y
  split at h
  case h_2 => cases h
  rename_i k m k' n h1 h2
  rw [h1] at hx
  rw [h2] at hy
  have hx' := (hx : a.eval x = _ ∧ _).1
  have hy' := (hy : a.eval y = _ ∧ _).1
  split at h
  case isFalse => cases h
  rename_i hk
  subst hk
  obtain ⟨hb, hK⟩ := iff'_ok h
  simp only [ne_eq, decide_eq_true_eq] at hb
  refine SndQ.of hR hK ?_ ⟨rfl, rfl⟩
  rcases hop with rfl | rfl
  · simp [execOp, ho, hx', hy', eqGuard, binOp, Op.intDiv, hb]
  · simp [execOp, ho, hx', hy', eqGuard, binOp, Op.intDiv, hb]
theorem opShift_ok {op : BinOp} {t t' : TypeId} {x y : Operand} (ho : o.op = .binOp op t x y t') (hop : op = .shl ∨ op = .shr) (h : opShift op (ev ts x) (ev ts y) K = some r) : SndQ (P := P) Z H ρ w o a K r := by
  unfold opShift at h
  have hx := ev_ok hR ht x
  have hy := ev_ok hR ht y
  split at h
  case h_2 => cases h
  rename_i k m k' n h1 h2
  rw [h1] at hx
  rw [h2] at hy
  have hx' := (hx : a.eval x = _ ∧ _).1
  have hy' := (hy : a.eval y = _ ∧ _).1
  obtain ⟨hb, hK⟩ := iff'_ok h
  simp only [decide_eq_true_eq] at hb
  have hb' : ¬ n < 0 := by omega
  refine SndQ.of hR hK ?_ ⟨rfl, rfl⟩
  rcases hop with rfl | rfl
  · simp [execOp, ho, hx', hy', eqGuard, binOp, Op.shift, hb']
  · simp [execOp, ho, hx', hy', eqGuard, binOp, Op.shift, hb']
theorem pure_ok {s : Sem Value} {v : Value} (hs : pureRun P s = some v) (hK : K (ofVal v) [] [] = some r) (he : execOp a.eval o = (do pure (.value (← s)))) : SndQ (P := P) Z H ρ w o a K r := by
  have _ := ht
  refine SndQ.of hR hK (cv := v) ?_ (VA_ofVal v)
  rw [he]
  simp [pureRun_ok s v hs w]
theorem nil_false {t e : TypeId} {ad : Addr} (hu : P.underlying t = some (.pointer e)) : (Op.equal t (.pointer (some ad)) (.pointer none)).run P w = .ok false w := by
  have _ := hR
  have _ := ht
  unfold Op.equal
  have : Op.maxDepth = (Op.maxDepth - 1) + 1 := by decide
  rw [this]
  simp only [Op.equalIn, Sem.run_bind, run_underlying hu, Result.andThen_ok, Sem.run_pure]
theorem opNil_ok (hT : TIok P X.ti) {op : BinOp} {t t' : TypeId} {x y : Operand} (ho : o.op = .binOp op t x y t') (h : opNil X ts H op t x y K = some r) : SndQ (P := P) Z H ρ w o a K r := by
  unfold opNil at h
  split at h
  case h_2 => cases h
  rename_i tr htr
  split at h
  case h_2 => cases h
  rename_i e he
  split at h
  case isFalse => cases h
  rename_i hc
  simp only [Bool.and_eq_true] at hc
  have hx := ev_ok hR ht x
  have hy := ev_ok hR ht y
  obtain ⟨h1, h2⟩ := hc
  unfold livePtr at h1
  split at h1
  case h_2 => cases h1
  rename_i l off hl
  unfold isNilP at h2
  split at h2
  case h_2 => cases h2
  rename_i hn
  rw [hl] at hx
  rw [hn] at hy
  obtain ⟨_, _, h3⟩ := hx
  obtain ⟨p, _, hv⟩ := h3 h1
  have hy' : a.eval y = .pointer none := (hy : _ ∧ _).1
  have hu := hT.und t tr htr
  rw [he] at hu
  split at h
  · refine SndQ.of hR h (cv := .bool false) ?_ ⟨rfl, rfl⟩
    simp [execOp, ho, hv, hy', eqGuard, binOp, nil_false hR ht hu]
  · refine SndQ.of hR h (cv := .bool true) ?_ ⟨rfl, rfl⟩
    simp [execOp, ho, hv, hy', eqGuard, binOp, nil_false hR ht hu]
  · cases h
omit hR ht in
theorem partV_ok (hT : TIok P X.ti) {t : TypeId} {o : Nat} {xs : Array Value} {v : Value} (h : partV X.ti t o xs.toList = some v) (w : World) : (part t xs o).run P w = .ok v w := by
  unfold partV at h
  split at h
  case h_2 => cases h
  rename_i tr htr
  simp only [Option.ite_none_right_eq_some, Option.some.injEq] at h
  obtain ⟨hl, h⟩ := h
  rw [← h]
  exact part_run hT htr rfl (eq_of_beq hl)
omit hR ht in
theorem eqFs_ok (hT : TIok P X.ti) {rec : TypeId → Value → Value → Option Bool} {d : Nat} {xs ys : Array Value} (hr : ∀ t a b c (w : World), rec t a b = some c → (Op.equalIn d t a b).run P w = .ok c w) :
    ∀ (fs : List Field) (c : Bool) (w : World), eqFs X.ti rec xs.toList ys.toList fs = some c → (Op.eqFields d xs ys fs).run P w = .ok c w
  | [], c, w, h => by
    simp only [eqFs, Option.some.injEq] at h
    subst h; rfl
  | f :: fs, c, w, h => by
    simp only [eqFs] at h
    split at h
    · rename_i hn
      have hn' : ¬ f.name ≠ "_" := by simpa using hn
      simp only [Op.eqFields, if_neg hn']
      exact eqFs_ok hT hr fs c w h
    · rename_i hn
      have hn' : f.name ≠ "_" := by simpa using hn
      split at h
      case h_2 => cases h
      rename_i a b ha hb
      split at h
      case h_2 => cases h
      rename_i c1 c2 h1 h2
      simp only [Option.some.injEq] at h
      subst h
      simp only [Op.eqFields, if_pos hn', Sem.run_bind, partV_ok hT ha, partV_ok hT hb, Result.andThen_ok, hr _ _ _ _ _ h1]
      cases c1
      · rfl
      · simpa using eqFs_ok hT hr fs c2 w h2
omit hR ht in
theorem eqV_ok (hT : TIok P X.ti) : ∀ (n m : Nat) (t : TypeId) (x y : Value) (c : Bool) (w : World), n ≤ m → eqV P X.ti n t x y = some c → (Op.equalIn m t x y).run P w = .ok c w
  | 0, _, _, _, _, _, _, _, h => by cases h
  | n + 1, 0, _, _, _, _, _, hm, _ => by omega
  | n + 1, m + 1, t, x, y, c, w, hm, h => by
    simp only [eqV] at h
    split at h
    case h_1 => cases h
    rename_i tr htr
    have hu := hT.und t tr htr
    split at h
    · rename_i hd
      rw [hd] at hu
      split at h
      case isFalse => cases h
      rename_i hk
      subst hk
      simp only [Option.some.injEq] at h
      subst h
      exact run_equalIn_int w m t _ _ _ _ hu
    · rename_i hd
      rw [hd] at hu
      simp only [Option.some.injEq] at h
      subst h
      exact run_equalIn_bool' w m t _ _ hu
    · rename_i hd
      rw [hd] at hu
      simp only [Option.some.injEq] at h
      subst h
      rw [run_equalIn_string w m t _ _ hu, beq_toListBytes]
    · rename_i fs xs ys hd
      rw [hd] at hu
      split at h
      case isTrue => cases h
      rename_i hs
      have hf : P.fieldsOf t = fs := by simp [Program.fieldsOf, hu]
      rw [run_equalIn_agg w m t xs ys (by rw [hf]; exact hu) (by simpa using hs), hf]
      exact eqFs_ok hT (fun t a b c w hr => eqV_ok hT n m t a b c w (by omega) hr) fs.toList c w h
    · cases h
theorem opEqS_ok (hT : TIok P X.ti) {op : BinOp} {t t' : TypeId} {x y : Operand} {xs ys : Array Value} (ho : o.op = .binOp op t x y t') (hu : asVal (ev ts x) = some (.agg xs)) (hv : asVal (ev ts y) = some (.agg ys)) (h : opEqS X op t xs ys K = some r) : SndQ (P := P) Z H ρ w o a K r := by
  unfold opEqS at h
  split at h
  case isTrue => cases h
  rename_i hg
  split at h
  case h_2 => cases h
  rename_i c hc
  have h1 := asVal_ok hu (ev_ok hR ht x)
  have h2 := asVal_ok hv (ev_ok hR ht y)
  have h3 : P.eqGuardType P.depth t = false := by simpa using hg
  split at h
  · refine SndQ.of hR h (cv := .bool c) ?_ ⟨rfl, rfl⟩
    simp only [execOp, ho, h1, h2, Sem.run_bind, run_eqGuard_agg w _ t x y xs ys h3, Result.andThen_ok, run_eql_struct, eqV_ok hT 8 10000 t _ _ c w (by omega) hc, Sem.run_pure]
  · refine SndQ.of hR h (cv := .bool (!c)) ?_ ⟨rfl, rfl⟩
    simp only [execOp, ho, h1, h2, Sem.run_bind, run_eqGuard_agg w _ t x y xs ys h3, Result.andThen_ok, run_neq_struct, eqV_ok hT 8 10000 t _ _ c w (by omega) hc, Sem.run_pure]
  · cases h
theorem opB2S_ok (hT : TIok P X.ti) {s d : TypeId} {x : Operand} (ho : o.op = .convert s d x) (h : opB2S X ts H s d x K = some r) : SndQ (P := P) Z H ρ w o a K r := by
  unfold opB2S at h
  split at h
  case h_2 => cases h
  rename_i tr tr' c h1 h2 h3
  split at h
  case h_2 => cases h
  rename_i e hd hd'
  split at h
  case h_2 => cases h
  rename_i te he
  split at h
  case h_2 => cases h
  rename_i xs hde hn
  have hx := ev_ok hR ht x
  rw [h3] at hx
  obtain ⟨ad, cap, us, hv, hle, hL, hA⟩ := newsOf_ok hR hn hx
  have hu := hT.und s tr h1
  rw [hd] at hu
  have hu' := hT.und d tr' h2
  rw [hd'] at hu'
  have hue := hT.und e te he
  rw [hde] at hue
  have hus : us = xs.map (Value.int .u8) := by
    have : ∀ (l : List Int) (vs : List Value), LR (R1 w (A Z H ρ w)) (List.flatMap (Sh.int .u8).dv l) vs → vs = l.map (Value.int .u8) := by
      intro l
      induction l with
      | nil => intro vs hl; exact LR.nil_inv hl
      | cons n l ih =>
        intro vs hl
        obtain ⟨b, bs, rfl, g1, g2⟩ := LR.cons_inv (hl : LR _ (DV.lit (.int .u8 n) :: _) vs)
        rw [ih bs g2]
        cases g1; rfl
    exact this xs us hL
  refine SndQ.of hR h (cv := .string (bstr xs)) ?_ ⟨rfl, rfl⟩
  have hrun : (Conv.bytesToString (.slice ad xs.length cap)).run P w = .ok (.string (bstr xs)) w := by
    cases ad with
    | none =>
      have : us = [] := by rcases hA with h | ⟨b, h, _⟩ <;> first | exact h | cases h
      rw [this] at hus
      have hxs : xs = [] := by cases xs <;> first | rfl | cases hus
      subst hxs
      simp [Conv.bytesToString, bstr]
    | some b =>
      refine run_bytesToString w b xs.length cap xs ?_
      rcases hA with h0 | ⟨b', hb, hl⟩
      · rw [h0] at hus
        have hxs : xs = [] := by cases xs <;> first | rfl | cases hus
        subst hxs
        have := run_loadCells_list (P := P) w b ([] : List Value) (fun j v hj => by simp at hj)
        simpa using this
      · cases hb
        have := run_loadCells_list (P := P) w b us hl.cell
        rw [hus] at this
        simpa using this
  simp only [execOp, ho, hv, Sem.run_bind, run_convert_bytes_string w s d e ad xs.length cap hu hue hu', hrun, Result.andThen_ok, Sem.run_pure]
theorem opPure_ok (hT : TIok P X.ti) (h : opPure X ts H o K = some r) : SndQ (P := P) Z H ρ w o a K r := by
  unfold opPure at h
  split at h
  · rename_i op t x y t' ho
    split at h
    · exact opDiv_ok hR ht ho (.inl rfl) h
    · exact opDiv_ok hR ht ho (.inr rfl) h
    · exact opShift_ok hR ht ho (.inl rfl) h
    · exact opShift_ok hR ht ho (.inr rfl) h
    · split at h
      case h_3 => exact opNil_ok hR ht hT ho h
      case h_1 => rename_i hu hv; exact opEqS_ok hR ht hT ho hu hv h
      rename_i u v _ hu hv
      split at h
      case h_2 => cases h
      rename_i z hz
      refine pure_ok hR ht hz h ?_
      simp only [execOp, ho, asVal_ok hu (ev_ok hR ht x), asVal_ok hv (ev_ok hR ht y)]
  · rename_i op t x ho
    split at h
    case h_2 => cases h
    rename_i u hu
    split at h
    case h_2 => cases h
    rename_i z hz
    refine pure_ok hR ht hz h ?_
    simp only [execOp, ho, asVal_ok hu (ev_ok hR ht x)]
  · rename_i s d x ho
    split at h
    case h_2 => exact opB2S_ok hR ht hT ho h
    rename_i u hu
    split at h
    case h_2 => cases h
    rename_i z hz
    refine pure_ok hR ht hz h ?_
    simp only [execOp, ho, asVal_ok hu (ev_ok hR ht x)]
  · cases h
omit ht in
theorem lenT_ok {d : TypeDesc} {c : C1} {n : Int} {v : Value} (h : lenT H d c = some n) (hv : V1 Z H ρ w c v) : (d = .string ∧ ∃ s, v = .string s ∧ n = (s.size : Int)) ∨ (∃ e, d = .slice e ∧ ∃ ad m cap, v = .slice ad m cap ∧ n = (m : Int)) := by
  unfold lenT at h
  split at h
  · split at h
    · simp only [Option.some.injEq] at h
      exact .inl ⟨rfl, _, (hv : v = _ ∧ _).1, h.symm⟩
    · cases h
  · rename_i e
    split at h
    · cases h
    · rename_i c hc
      rcases lenOf_ok hR h hv with ⟨ad, m, cap, h1, h2, _, _⟩ | ⟨s, h1, _⟩ | ⟨ad, m, cap, _, h1, h2⟩
      · exact .inr ⟨e, rfl, ad, m, cap, h1, h2⟩
      · exact absurd h1 (hc s)
      · exact .inr ⟨e, rfl, ad, m, cap, h1, h2⟩
  · cases h
variable (hT : TIok P X.ti)
include hT
theorem opBuiltinQ_ok {b : Builtin} {args : Array Operand} {tys : Array TypeId} (hb : b ≠ .append) (hb2 : b ≠ .copy) (ho : o.op = .call { callee := .builtin b, args := args, argTypes := tys }) (h : opBuiltin X ts H o b args tys K = some r) : SndQ (P := P) Z H ρ w o a K r := by
  unfold opBuiltin at h
  split at h
  · split at h
    case h_2 => cases h
    rename_i x t ha hty
    have hargs : args = #[x] := by apply Array.ext'; simpa using ha
    have htys : tys = #[t] := by apply Array.ext'; simpa using hty
    subst hargs htys
    have hx := ev_ok hR ht x
    split at h
    case h_2 => cases h
    rename_i tr c h1 h2
    rw [h2] at hx
    split at h
    case h_2 => cases h
    rename_i n hn
    have hu := hT.und t tr h1
    refine SndQ.of hR h (cv := .int .i64 n) ?_ ⟨rfl, rfl⟩
    rcases lenT_ok hR hn hx with ⟨hd, s, hv, rfl⟩ | ⟨e, hd, ad, m, cap, hv, rfl⟩
    · rw [hd] at hu
      simp [execOp, ho, resolve, invoke, builtin, Builtin.len_, run_underlying hu, hv, goInt]
    · rw [hd] at hu
      simp [execOp, ho, resolve, invoke, builtin, Builtin.len_, run_underlying hu, hv, goInt]
  · exact absurd rfl hb
  · exact absurd rfl hb2
  · split at h
    case h_2 => cases h
    rename_i u v ha
    split at h
    case h_2 => cases h
    rename_i z hz
    obtain ⟨x, y, rfl, hx, hy⟩ : ∃ x y, args = #[x, y] ∧ asVal (ev ts x) = some u ∧ asVal (ev ts y) = some v := by
      obtain ⟨x, y, hl, h1, h2⟩ := two_of ha
      exact ⟨x, y, by apply Array.ext'; simpa using hl, h1, h2⟩
    refine SndQ.of hR h (cv := z) ?_ (VA_ofVal z)
    have := pureRun_ok _ _ hz w
    simp [execOp, ho, resolve, invoke, builtin, Builtin.max_, asVal_ok hx (ev_ok hR ht x), asVal_ok hy (ev_ok hR ht y), this]
  · split at h
    case h_2 => cases h
    rename_i u v ha
    split at h
    case h_2 => cases h
    rename_i z hz
    obtain ⟨x, y, rfl, hx, hy⟩ : ∃ x y, args = #[x, y] ∧ asVal (ev ts x) = some u ∧ asVal (ev ts y) = some v := by
      obtain ⟨x, y, hl, h1, h2⟩ := two_of ha
      exact ⟨x, y, by apply Array.ext'; simpa using hl, h1, h2⟩
    refine SndQ.of hR h (cv := z) ?_ (VA_ofVal z)
    have := pureRun_ok _ _ hz w
    simp [execOp, ho, resolve, invoke, builtin, Builtin.min_, asVal_ok hx (ev_ok hR ht x), asVal_ok hy (ev_ok hR ht y), this]
  · cases h
theorem opAppendB_ok {args : Array Operand} {tys : Array TypeId} (ho : o.op = .call { callee := .builtin .append, args := args, argTypes := tys }) (h : opBuiltin X ts H o .append args tys K = some r) : Snd (P := P) X.ro Z H ρ w o a K r := by
  unfold opBuiltin at h
  dsimp only at h
  split at h
  case h_2 => cases h
  rename_i s x t t' ha hty
  split at h
  case isFalse => cases h
  rename_i htt
  simp only [beq_iff_eq] at htt
  subst htt
  exact opAppend_ok hT hR ht ho ha hty h
theorem opCopyB_ok {args : Array Operand} {tys : Array TypeId} (ho : o.op = .call { callee := .builtin .copy, args := args, argTypes := tys }) (h : opBuiltin X ts H o .copy args tys K = some r) : Snd (P := P) X.ro Z H ρ w o a K r := by
  unfold opBuiltin at h
  dsimp only at h
  split at h
  case h_2 => cases h
  rename_i s x t t' ha hty
  exact opCopy_ok hT hR ht ho ha hty h
omit hT in
theorem find_ok {tb : List (Entry P)} (hE : ∀ e ∈ tb, EOk P e) {f : FuncId} {e : Entry P} (h : find tb f = some e) : EOk P e ∧ e.f = f := by
  have _ := hR
  have _ := ht
  induction tb with
  | nil => cases h
  | cons x l ih =>
    simp only [find] at h
    split at h
    · rename_i hf
      simp only [Option.some.injEq] at h; subst h
      exact ⟨hE _ (by simp), by simpa using hf⟩
    · exact ih (fun e he => hE e (by simp [he])) h
omit hT in
theorem args_rel (l : List Operand) : LR (VA Z H ρ w) (l.map (ev ts)) (l.map a.eval) := by
  induction l with
  | nil => trivial
  | cons x l ih => exact ⟨ev_ok hR ht x, ih⟩
omit hT in
theorem opCall_ok (hE : ∀ e ∈ X.tb, EOk P e) {f : Operand} {args : Array Operand} {tys : Array TypeId} (ho : o.op = .call { callee := .value f, args := args, argTypes := tys }) (h : opCall X ts H f args K = some r) : Snd (P := P) X.ro Z H ρ w o a K r := by
  unfold opCall at h
  have hf := ev_ok hR ht f
  split at h
  case h_2 => cases h
  rename_i g caps h1
  rw [h1] at hf
  obtain ⟨us, hfv, hcl⟩ := hf
  split at h
  case h_2 => cases h
  rename_i e he
  obtain ⟨hk, rfl⟩ := find_ok hR ht hE he
  have hcaps : LR (VA Z H ρ w) (caps.map AV.one) us.toList := by
    refine LR.of_map_left (hcl.imp fun c v hv => ?_)
    cases c with
    | fn f cs => exact hv.elim
    | any => exact hv
    | lit u => exact hv
    | ptr l off => exact hv
    | ep l sz i o => exact hv
    | vp s xs i o => exact hv
    | own l sz => exact hv
    | sl l sz off len => exact hv
    | vsl s xs => exact hv
  have hargs : LR (VA Z H ρ w) (args.toList.map (ev ts) ++ caps.map .one) (args.map a.eval ++ us).toList := by
    rw [Array.toList_append, Array.toList_map]
    exact (args_rel hR ht args.toList).append hcaps
  obtain ⟨v, U, N, hK, hc⟩ := hk.ok _ _ _ _ Z _ _ _ h hR hargs
  split at hK
  case isFalse => cases hK
  rename_i hU
  refine ⟨v, U, N, hK, fun u hu => by simpa using List.all_eq_true.1 hU u hu, fun next Q hn => ?_⟩
  have hrun : (execOp a.eval o).run P w = .ok (.enter e.f (args.map a.eval ++ us)) w := by
    simp [execOp, ho, resolve, Deferred.ofValue, invoke, hfv, hk.enter]
  unfold Oper.wp
  rw [hrun, Oper.upon_enter]
  refine hc.mono fun e' w' hr => ?_
  obtain ⟨cv, rfl, hok⟩ := hr
  exact hn cv w' hok
theorem capsOf_ok : ∀ (l : List Operand) (cs : List C1), capsOf ts l = some cs → LR (V0 Z H ρ w) cs (l.map a.eval)
  | [], cs, h => by
    have _ := hR
    have _ := hT
    simp only [capsOf, Option.some.injEq] at h; subst h; trivial
  | x :: l, cs, h => by
    simp only [capsOf] at h
    split at h
    case h_2 => cases h
    rename_i c cs' h1 h2
    split at h
    case isFalse => cases h
    rename_i hp
    simp only [Option.some.injEq] at h; subst h
    have hx := ev_ok hR ht x
    rw [h1] at hx
    exact ⟨V1_iff0 hx (fun f cs e => by rw [e] at hp; cases hp), capsOf_ok l cs' h2⟩
theorem zero_one {t : TypeId} {tr : TR} (h : X.ti t = some tr) : (tr.zero.map C1.lit).all storable = true := by
  have _ := hR
  have _ := ht
  have _ := hT
  rw [List.all_map, List.all_eq_true]; intro x _; rfl
theorem newObj_ok {e : TypeId} {vs : Array Value} {cs : List C1} (hL : LR (V1 Z H ρ w) cs vs.toList) (hs : cs.all storable = true) :
    OK Z H ρ w (.one (.ptr H.length 0)) [] [.cells e cs] (.pointer (some ⟨w.heap.size, 0, none⟩)) (w.alloc (.cells vs e)) := by
  have _ := ht
  have _ := hT
  have g := World.grownBy_alloc w (.cells vs e) none
  have hq : ∀ p, (some ((Pl.new w.heap.size 0 (0)) : Pl)) = some p → w.heap.size ≤ p.b ∧ ∀ k, ¬ p.inn k := fun p hp => by cases hp; exact ⟨Nat.le_refl _, fun _ h => h⟩
  have ex := Ext.new (H := H) (ρ := ρ) (.cells e cs) (some (Pl.new w.heap.size 0 0)) g hq
  exact OK.new hR g hq ⟨_, vs, put_same _ _ _, heap_alloc_new w _, hL.imp fun _ _ => ex.V1, hs⟩ ⟨by simp, rfl, fun _ => ⟨_, put_same _ _ _, rfl⟩⟩
theorem notNil_ok {c : C1} {v : Value} (h : notNil H c = true) (hv : V1 Z H ρ w c v) : (∃ ad, v = .pointer (some ad)) ∨ ∃ f us, v = .func (.func f) #[] us := by
  have _ := hR
  have _ := ht
  have _ := hT
  cases c with
  | lit u =>
    obtain ⟨rfl, _⟩ := hv
    unfold notNil at h
    split at h <;> first | (cases h; done) | skip
    all_goals first | (rename_i hh; cases hh; exact .inl ⟨_, rfl⟩) | (rename_i hh; cases hh; done)
  | ptr l off =>
    obtain ⟨p, _, rfl⟩ := hv.2.2 h
    exact .inl ⟨_, rfl⟩
  | ep l z i m => exact .inl hv.2.1
  | vp l z i m => obtain ⟨_, ad, n, cap, _, rfl⟩ := hv; exact .inl ⟨_, rfl⟩
  | fn f as => obtain ⟨us, rfl, _⟩ := hv; exact .inr ⟨f, us, rfl⟩
  | any => cases h
  | own l z => cases h
  | sl l z m n => cases h
  | vsl l z => cases h
theorem still_ok (hs : isEvent o.op = false) (h : opEval X ts H o K = some r) : SndQ (P := P) Z H ρ w o a K r := by
  unfold opEval at h
  split at h
  · rename_i x ho
    exact SndQ.of hR h (cv := a.eval x) (by simp [execOp, ho]) (ev_ok hR ht x)
  · rename_i x ho
    exact SndQ.of hR h (cv := a.eval x) (by simp [execOp, ho]) (ev_ok hR ht x)
  · rename_i c x y ho
    have hc := ev_ok hR ht c
    split at h
    case h_2 => cases h
    rename_i t h1
    rw [h1] at hc
    have hcv := (hc : a.eval c = _ ∧ _).1
    have hrun : (execOp a.eval o).run P w = .ok (.value (if t then a.eval x else a.eval y)) w := by
      simp [execOp, ho, asBool, hcv]
    split at h
    · rename_i u v h2 h3
      have hx := ev_ok hR ht x
      have hy := ev_ok hR ht y
      rw [h2] at hx
      rw [h3] at hy
      have hx' := (hx : a.eval x = _ ∧ _).1
      have hy' := (hy : a.eval y = _ ∧ _).1
      refine SndQ.of hR h hrun ⟨?_, rfl⟩
      rw [hx', hy']
      cases t <;> rfl
    · cases t with
      | true => exact SndQ.of hR h hrun (by simpa using ev_ok hR ht x)
      | false => exact SndQ.of hR h hrun (by simpa using ev_ok hR ht y)
  · rename_i e ho
    rw [ho] at hs; cases hs
  · rename_i e x ho
    rw [ho] at hs; cases hs
  · rename_i t ps ho
    exact opBuild_ok hT hR ht ho h
  · rename_i t n ps ho
    rw [ho] at hs; cases hs
  · rename_i t x ho
    exact opLoad_ok hT hR ht ho h
  · rename_i t x y ho
    rw [ho] at hs; cases hs
  · rename_i x ho
    have hx := ev_ok hR ht x
    split at h
    case h_2 => cases h
    rename_i c h1
    split at h
    case isFalse => cases h
    rename_i hn
    rw [h1] at hx
    refine SndQ.of hR h (cv := a.eval x) ?_ hx
    rcases notNil_ok hR ht hT hn hx with ⟨ad, hv⟩ | ⟨f, us, hv⟩
    · simp [execOp, ho, hv]
    · simp [execOp, ho, hv]
  · rename_i s x f ho
    exact opFieldAddr_ok hT hR ht ho h
  · rename_i s x f ho
    exact opField_ok hT hR ht ho h
  · rename_i t x i ho
    exact opIndexAddr_ok hT hR ht ho h
  · rename_i t x i ho
    exact opIndex_ok hT hR ht ho h
  · rename_i t x lo hi mx ho
    exact opSlice_ok hT hR ht ho h
  · rename_i t n c ho
    rw [ho] at hs; cases hs
  · rename_i f first caps ho
    split at h
    case h_2 => cases h
    rename_i cs hfst hcaps
    have e1 : first = #[] := by apply Array.ext'; simpa using hfst
    subst e1
    refine SndQ.of hR h (cv := .func (.func f) #[] (caps.map a.eval)) ?_ ⟨_, rfl, ?_⟩
    · simp [execOp, ho, Instr.makeFunc]
    · rw [Array.toList_map]; exact capsOf_ok hR ht hT _ _ hcaps
  · rename_i x i ho
    have hx := ev_ok hR ht x
    split at h
    case h_2 => cases h
    rename_i vs h1
    rw [h1] at hx
    split at h
    case h_2 => cases h
    rename_i v h2
    obtain ⟨us, hv, hl⟩ := hx
    have hlt : i < us.toList.length := by rw [← hl.length]; exact (List.getElem?_eq_some_iff.1 h2).1
    have hu : us.toList[i]? = some us.toList[i] := List.getElem?_eq_getElem hlt
    refine SndQ.of hR h (cv := us.toList[i]) ?_ (hl.get h2 hu)
    have hu' : us[i]? = some us.toList[i] := by rw [← Array.getElem?_toList]; exact hu
    simp only [execOp, ho, hv, Instr.extract, hu', Sem.run_bind, Sem.run_pure, Result.andThen_ok]
  · rename_i b args tys ho
    exact opBuiltinQ_ok hR ht hT (fun hb => by subst hb; rw [ho] at hs; cases hs) (fun hb => by subst hb; rw [ho] at hs; cases hs) ho h
  · rename_i f args tys ho
    rw [ho] at hs; cases hs
  · exact opPure_ok hR ht hT h
/-- every operation -/
theorem opEval_ok (hE : ∀ e ∈ X.tb, EOk P e) (h : opEval X ts H o K = some r) : Snd (P := P) X.ro Z H ρ w o a K r := by
  cases hs : isEvent o.op with
  | false => exact (still_ok hR ht hT hs h).snd hR
  | true =>
    have h0 := h
    unfold opEval at h
    split at h
    · exact (by rename_i ho; rw [ho] at hs; cases hs)
    · exact (by rename_i ho; rw [ho] at hs; cases hs)
    · exact (by rename_i ho; rw [ho] at hs; cases hs)
    · rename_i e ho
      split at h
      case h_2 => cases h
      rename_i tr h1
      obtain ⟨z, hz, hz2⟩ := zero_run hT h1 w
      obtain ⟨i, z', _, _, _, _, _, _, g7⟩ := hT.info e tr h1
      refine ⟨_, _, _, h, by simp, StepTo.value (cv := .pointer (some ⟨w.heap.size, 0, none⟩)) (w' := w.alloc (.cells z.cells e)) ?_ (newObj_ok hR ht hT (by rw [hz2]; exact LR_lits _ g7) (zero_one hR ht hT h1))⟩
      simp [execOp, ho, Instr.alloc, hz, newVar, newRow]
    · rename_i e x ho
      have hx := ev_ok hR ht x
      split at h
      case h_2 => cases h
      rename_i tr v h1 h2
      split at h
      case isFalse => cases h
      rename_i hs
      rw [h2] at hx
      refine ⟨_, _, _, h, by simp, StepTo.value (cv := .pointer (some ⟨w.heap.size, 0, none⟩)) (w' := w.alloc (.cells (a.eval x).cells e)) ?_ (newObj_ok hR ht hT (cells_ok hs hx) hs)⟩
      simp [execOp, ho, Instr.box, newVar, newRow]
    · exact (by rename_i ho; rw [ho] at hs; cases hs)
    · rename_i t n ps ho
      exact opBuildSlice_ok hT hR ht ho h
    · exact (by rename_i ho; rw [ho] at hs; cases hs)
    · rename_i t x y ho
      exact opStore_ok hT hR ht ho h
    · exact (by rename_i ho; rw [ho] at hs; cases hs)
    · exact (by rename_i ho; rw [ho] at hs; cases hs)
    · exact (by rename_i ho; rw [ho] at hs; cases hs)
    · exact (by rename_i ho; rw [ho] at hs; cases hs)
    · exact (by rename_i ho; rw [ho] at hs; cases hs)
    · exact (by rename_i ho; rw [ho] at hs; cases hs)
    · rename_i t n c ho
      exact opMake_ok hT hR ht ho h
    · exact (by rename_i ho; rw [ho] at hs; cases hs)
    · exact (by rename_i ho; rw [ho] at hs; cases hs)
    · rename_i b args tys ho
      rw [ho] at hs
      cases b <;> first | (cases hs; done) | exact opAppendB_ok hR ht hT ho h | exact opCopyB_ok hR ht hT ho h
    · rename_i f args tys ho
      exact opCall_ok hR ht hE ho h
    · rename_i hh
      exact ((opPure_ok hR ht hT h).snd hR)
end
end Go.Proofs.YtaklapcbbdcdpaaDoor.X
