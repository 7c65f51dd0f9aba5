import Derived.Test.YtaklapcbbdcdpaaDoorXN
import Derived.Laws.CopyRow
import Derived.Laws.IdiomCopy
namespace Go.Proofs.YtaklapcbbdcdpaaDoor.X
open Go Go.RowKit
set_option linter.unusedVariables false
set_option linter.unusedSimpArgs false
/-! 'copy' into a row of the call's own, its elements one cell wide -/
theorem list_set_at {α : Type} : ∀ {H : List α} {l : Nat} {o : α}, H[l]? = some o → H.set l o = H
  | [], _, _, h => by simp at h
  | x :: r, 0, o, h => by simp at h; simp [h]
  | x :: r, l + 1, o, h => by simp at h; simp only [List.set_cons_succ]; rw [list_set_at h]
section
variable {P : Program} {X : Ctx P} {β : Type} {Z : Nat → Prop} {H : Heap} {ρ : Rho} {w w' : World} {o : Oper} {a : Act} {K : KO β} {r : β} {ts : TS}
theorem at_some {H : Heap} {l : Nat} (h : (H.at l).isLive = true) : H[l]? = some (H.at l) := by
  have := at_lt h
  rw [Heap.at, List.getD_eq_getElem?_getD, List.getElem?_eq_getElem this]; rfl
theorem run_copy_none_sz (w : World) (dT sT ty elem : TypeId) (d a : Option Addr) (dLen dCap sLen sCap sz : Nat) (hu : P.underlying dT = some (.slice elem)) (hs : (P.info? elem).map (·.size) = some sz) (hn : Nat.min sLen dLen = 0) :
    (Builtin.copy_ #[dT, sT] ty #[.slice d dLen dCap, .slice a sLen sCap]).run P w = .ok (goInt 0) w := by
  cases hq : P.info? elem with
  | none => simp [hq] at hs
  | some i =>
    have hl : ∀ (x : Addr), (loadCells x 0).run P w = .ok #[] w := fun x => by simpa using run_loadCells_list (P := P) w x [] (by simp)
    cases d <;> cases a <;> simp [Builtin.copy_, run_underlying hu, Builtin.lenOf, Builtin.firstCells, sizeOf, typeInfo, hq, hn, storeCells, hl]
theorem run_copy_row_sz (w : World) (dT sT ty elem : TypeId) (g o dLen dCap : Nat) (a : Addr) (sLen sCap sz n : Nat) (cur : Array Value) (t : TypeId) (cs : List Value)
    (hu : P.underlying dT = some (.slice elem)) (hs : (P.info? elem).map (·.size) = some sz)
    (hg : w.heap[g]? = some (.cells cur t (0, 0))) (hnn : Nat.min sLen dLen = n) (hn : cs.length = n * sz)
    (hsrc : ∀ j v, cs[j]? = some v → w.cell? (a.add j) = some v) (hfit : o + cs.length ≤ cur.size) (h1 : ∀ v ∈ cs, v.oneCell' = true) :
    (Builtin.copy_ #[dT, sT] ty #[.slice (some ⟨g, o, none⟩) dLen dCap, .slice (some a) sLen sCap]).run P w =
      .ok (goInt n) (w.setRow g (cur.toList.take o ++ cs ++ cur.toList.drop (o + cs.length)).toArray) := by
  have hl := run_loadCells_list (P := P) w a cs hsrc
  have hst := run_storeCells_at P g o t cs 0 cur w hg (by simpa using hfit) h1
  cases hq : P.info? elem with
  | none => simp [hq] at hs
  | some i =>
    have hi : i.size = sz := by simpa [hq] using hs
    simp [Builtin.copy_, run_underlying hu, Builtin.lenOf, Builtin.firstCells, sizeOf, typeInfo, hq, hi, hnn, ← hn, hl, hst]
theorem partOf_ok (hR : Rel Z H ρ w) {c : C1} {v : Value} {l off len : Nat} {e : TypeId} {s : Sh} {xs : List s.T} (h : partOf H c = some (l, off, len)) (hat : H.at l = .row e s xs) (hv : V1 Z H ρ w c v) :
    ∃ da cap, v = .slice da len cap ∧ off + len ≤ xs.length ∧ ((∃ p, ρ l = some p ∧ da = some ⟨p.b, p.base + off * s.sz, none⟩) ∨ len = 0) := by
  cases c with
  | own k z =>
    simp only [partOf] at h
    split at h
    case h_2 => cases h
    rename_i e2 s2 xs2 h2
    simp only [Option.some.injEq, Prod.mk.injEq] at h
    obtain ⟨rfl, rfl, rfl⟩ := h
    rw [hat] at h2; cases h2
    obtain ⟨g1, g2, g3⟩ := hv
    obtain ⟨rfl, hq⟩ := g3 _ _ (dim_row hat)
    rcases hq with ⟨p, cap, hp, rfl, _, _⟩ | ⟨h0, ad, rfl⟩
    · exact ⟨_, cap, rfl, by omega, .inl ⟨p, hp, by rw [Nat.zero_mul]⟩⟩
    · rw [h0]; exact ⟨ad, 0, rfl, by omega, .inr rfl⟩
  | sl k z of ln =>
    simp only [partOf, Option.some.injEq, Prod.mk.injEq] at h
    obtain ⟨rfl, rfl, rfl⟩ := h
    obtain ⟨g1, g2, g3⟩ := hv
    obtain ⟨rfl, hle, hq⟩ := g3 _ _ (dim_row hat)
    rcases hq with ⟨p, cap, hp, rfl, _, _⟩ | ⟨h0, ad, rfl⟩
    · exact ⟨_, cap, rfl, hle, .inl ⟨p, hp, rfl⟩⟩
    · rw [h0]; exact ⟨ad, 0, rfl, by omega, .inr rfl⟩
  | any => cases h
  | lit u => cases h
  | ptr l o => cases h
  | ep l z i o => cases h
  | vp s xs i o => cases h
  | vsl s xs => cases h
  | fn f cs => cases h
variable (hT : TIok P X.ti)
include hT
theorem opCopy_ok (hR : Rel Z H ρ w) (ht : TRel Z H ρ w ts a) {t t' : TypeId} {d x : Operand} {args : Array Operand} {tys : Array TypeId} (ho : o.op = .call { callee := .builtin .copy, args := args, argTypes := tys }) (ha : args.toList = [d, x]) (hty : tys.toList = [t, t'])
    (h : opCopy X ts H t d x K = some r) : Snd (P := P) X.ro Z H ρ w o a K r := by
  unfold opCopy at h
  have hx := ev_ok hR ht d
  have hy := ev_ok hR ht x
  have hargs : args = #[d, x] := by apply Array.ext'; simpa using ha
  have htys : tys = #[t, t'] := by apply Array.ext'; simpa using hty
  subst hargs htys
  split at h
  case h_2 => cases h
  rename_i tr cd cx h1 h2 h3
  rw [h2] at hx
  rw [h3] at hy
  split at h
  case h_2 => cases h
  rename_i e l off len hd hpart
  split at h
  case h_2 => cases h
  rename_i te e' s xs he hat
  split at h
  case h_2 => cases h
  rename_i ys hnews
  split at h
  case isFalse => cases h
  rename_i hc
  simp only [Bool.and_eq_true, beq_iff_eq, decide_eq_true_eq] at hc
  obtain ⟨⟨hsz, hpz⟩, hro⟩ := hc
  rw [← hsz] at hpz
  obtain ⟨xa, mc, us, hyv, hmc, hL, hA⟩ := newsOf_ok hR hnews hy
  obtain ⟨da, dcap, hxv, hle, hp⟩ := partOf_ok hR hpart hat hx
  have hun : us.length = ys.length * s.sz := by rw [← hL.length, flat_len (dv_len s)]
  have hone := R1_all_one hL
  have hlive : (H.at l).isLive = true := by rw [hat]; rfl
  obtain ⟨i, z, g1, g2, _⟩ := hT.info e te he
  have hu := hT.und t tr h1
  rw [hd] at hu
  have hsi : (P.info? e).map (·.size) = some s.sz := by rw [g1, Option.map_some, g2, hsz]
  have run : ∀ {w' : World} {n : Nat}, (Builtin.copy_ #[t, t'] o.type #[.slice da len dcap, .slice xa ys.length mc]).run P w = .ok (goInt n) w' → (execOp a.eval o).run P w = .ok (.value (.int .i64 (n : Int))) w' := by
    intro w' n hr
    simp only [execOp, ho, resolve, invoke, builtin, Sem.run_bind, Sem.run_pure, Result.andThen_ok, List.map_toArray, List.map_cons, List.map_nil, hxv, hyv, hr]
    rfl
  generalize hn : Nat.min ys.length len = n at h
  have hn1 : n ≤ ys.length := by rw [← hn]; exact Nat.min_le_left _ _
  have hn2 : n ≤ len := by rw [← hn]; exact Nat.min_le_right _ _
  rcases Nat.eq_zero_or_pos n with h0 | hpos
  · subst h0
    have hr := run (run_copy_none_sz (P := P) w t t' o.type e da xa len dcap ys.length mc s.sz hu hsi hn)
    have ex : xs.take off ++ ys.take 0 ++ xs.drop (off + 0) = xs := by simp
    rw [ex] at h
    have eH : H.upd [(l, .row e' s xs)] ++ [] = H := by
      simp only [Heap.upd, List.append_nil]
      exact list_set_at (by rw [at_some hlive, hat])
    refine ⟨_, _, _, h, by simpa using hro, StepTo.value hr ?_⟩
    exact ⟨ρ, by rw [eH]; exact ⟨rfl, rfl⟩, by rw [eH]; exact hR, by rw [eH]; exact Ext.refl _ _ _, fun _ _ _ => ⟨rfl, fun _ _ _ _ => rfl⟩⟩
  · rcases hp with ⟨p, hp, rfl⟩ | hlen
    case inr => omega
    have hnz : 0 < n * s.sz := Nat.mul_pos hpos hpz
    have hnz1 : n * s.sz ≤ ys.length * s.sz := Nat.mul_le_mul_right _ hn1
    have hfz : off * s.sz + n * s.sz ≤ xs.length * s.sz := by rw [← Nat.add_mul]; exact Nat.mul_le_mul_right _ (by omega)
    rcases hA with rfl | ⟨b, rfl, hLie⟩
    · simp at hun; omega
    have hho := hR.obj l
    rw [hat] at hho
    rcases hho with ⟨hnil, _⟩ | ⟨q, cur, us0, hq, hw, hfit, hxc, hcm, hcells, hL0⟩
    · subst hnil; simp at hle; omega
    rw [hp] at hq; cases hq
    have hun0 : us0.length = xs.length * s.sz := by rw [← hL0.length, flat_len (dv_len s)]
    have hcapz : xs.length * s.sz ≤ p.cap * s.sz := Nat.mul_le_mul_right _ hxc
    have hcl : (us.take (n * s.sz)).length = n * s.sz := by simp; omega
    generalize hN : n * s.sz = N at *
    generalize hO : off * s.sz = O at *
    have hr := run (n := n) (by
      have := run_copy_row_sz (P := P) w t t' o.type e p.b (p.base + O) len dcap b ys.length mc s.sz n cur e' (us.take N) hu hsi hw hn (by rw [hcl, hN])
        (fun j v hj => hLie.cell j v (by rw [List.getElem?_take] at hj; split at hj <;> first | exact hj | cases hj)) (by rw [hcl]; omega) (fun v hv => hone v (List.mem_of_mem_take hv))
      rw [hcl] at this
      exact this)
    refine ⟨_, _, _, h, by simpa using hro, StepTo.value hr ?_⟩
    have hxl : (xs.take off ++ ys.take n ++ xs.drop (off + n)).length = xs.length := by simp; omega
    have hk : ∀ d, (AO.row e' s (xs.take off ++ ys.take n ++ xs.drop (off + n))).dim = some d → (H.at l).dim = some d := fun d h => by
      rw [hat]; simpa only [AO.dim, hxl] using h
    have ex := ext_set (H := H) (ρ := ρ) (w := w) (w' := w.setRow p.b (cur.toList.take (p.base + O) ++ us.take N ++ cur.toList.drop (p.base + O + N)).toArray) (.row e' s (xs.take off ++ ys.take n ++ xs.drop (off + n))) hlive hp (fun k hk => setRow_other w _ _ _ hk) rfl rfl rfl (by simp) hk
    have hcn : (cur.toList.take (p.base + O) ++ us.take N ++ cur.toList.drop (p.base + O + N)).length = cur.size := by simp; omega
    have hrel := Rel.set hR (.row e' s (xs.take off ++ ys.take n ++ xs.drop (off + n))) hlive hp (fun k hk => setRow_other w _ _ _ hk) rfl rfl rfl (by simp) hk (w' := w.setRow p.b (cur.toList.take (p.base + O) ++ us.take N ++ cur.toList.drop (p.base + O + N)).toArray)
      (.inr ⟨p, _, us0.take O ++ us.take N ++ us0.drop (O + N), hp, setRow_heap w _ _ _ _ _ hw, by simp only [List.size_toArray, hcn]; exact hfit, by rw [hxl]; exact hxc, hcm, ?_, ?_⟩)
    · have e0 : H.upd [(l, .row e' s (xs.take off ++ ys.take n ++ xs.drop (off + n)))] ++ [] = H.set l (.row e' s (xs.take off ++ ys.take n ++ xs.drop (off + n))) := by simp [Heap.upd]
      exact ⟨ρ, by rw [e0]; exact ⟨rfl, rfl⟩, by rw [e0]; exact hrel, by rw [e0]; exact ex, fun l2 hl2 hv2 => ⟨rfl, fun p2 k hp2 hf => setRow_other w _ _ _ fun e => hl2 (l, _) (List.mem_singleton.2 rfl) (hR.inj l l2 p p2 p.b hlive hv2 hp hp2 (.inl rfl) (by subst e; exact hf))⟩⟩
    · intro j u hj
      simp only [List.getElem?_toArray]
      have hb1 : (us0.take O).length = O := by simp; omega
      have hb2 : (cur.toList.take (p.base + O)).length = p.base + O := by simp; omega
      rw [List.append_assoc] at hj ⊢
      rcases Nat.lt_or_ge j O with c1 | c1
      · rw [List.getElem?_append_left (by omega), List.getElem?_take, if_pos c1] at hj
        rw [List.getElem?_append_left (by omega), List.getElem?_take, if_pos (by omega), Array.getElem?_toList]
        exact hcells j u hj
      · rw [List.getElem?_append_right (by omega), hb1] at hj
        rw [List.getElem?_append_right (by omega), hb2]
        have e0 : p.base + j - (p.base + O) = j - O := by omega
        rw [e0]
        rcases Nat.lt_or_ge (j - O) N with c2 | c2
        · rw [List.getElem?_append_left (by omega)] at hj ⊢
          exact hj
        · rw [List.getElem?_append_right (by omega), List.getElem?_drop, hcl] at hj
          rw [List.getElem?_append_right (by omega), List.getElem?_drop, Array.getElem?_toList, hcl]
          have := hcells _ u hj
          rw [← this]; congr 1; omega
    · have f1 := flat_take (f := s.dv) (dv_len s) xs off
      have f2 := flat_take (f := s.dv) (dv_len s) ys n
      have f3 := flat_drop (f := s.dv) (dv_len s) xs (off + n)
      rw [Nat.add_mul] at f3
      rw [hO] at f1 f3
      rw [hN] at f2 f3
      rw [List.flatMap_append, List.flatMap_append, ← f1, ← f2, ← f3]
      exact (((hL0.take O).append (hL.take N)).append (hL0.drop (O + N))).imp fun _ _ => ex.R1
end
end Go.Proofs.YtaklapcbbdcdpaaDoor.X
