import Derived.Test.YtjbdeccohpbegaaVG
namespace Go.Proofs.Ytjbdeccohpbegaa.Vm
open Go Go.RowKit Go.Proofs Go.Proofs.Ytjbdeccohpbegaa.X
set_option linter.unusedVariables false
set_option linter.unusedSimpArgs false
noncomputable section
/-! VmEnds and VmParts, as the evaluator runs them -/
abbrev F12 : Fm := ⟨0, ⟨[⟨0, false, [.deep (.sl is)]⟩, ⟨1, false, [.deep (.sl is)]⟩], []⟩, ⟨[⟨0, false, [.deep .bool]⟩], []⟩, anF Try.f12 [⟨[⟨0, false, [.deep (.sl is)]⟩, ⟨1, false, [.deep (.sl is)]⟩, ⟨5, false, [.deep is]⟩], []⟩]⟩
def f12 (k : Nat) : F12.pre.T → Option F12.post.T := runFn Try.prog ti [] F12 Try.f12 k
theorem g12 (k : Nat) : EGood Try.prog (Fm.entry Try.prog F12 12 (f12 k)) := good tiok mixed goods_nil Try.func12 (by kernel_rfl) (by kernel_rfl)
abbrev F14 : Fm := ⟨0, ⟨[⟨0, false, [.deep (.sl (.int .u8))]⟩, ⟨1, false, [.deep (.sl (.int .u8))]⟩], []⟩, ⟨[⟨0, false, [.deep .bool]⟩], []⟩, anF Try.f14 [⟨[⟨0, false, [.deep (.sl (.int .u8))]⟩, ⟨1, false, [.deep (.sl (.int .u8))]⟩, ⟨5, false, [.deep is]⟩], []⟩]⟩
def f14 (k : Nat) : F14.pre.T → Option F14.post.T := runFn Try.prog ti [] F14 Try.f14 k
theorem g14 (k : Nat) : EGood Try.prog (Fm.entry Try.prog F14 14 (f14 k)) := good tiok mixed goods_nil Try.func14 (by kernel_rfl) (by kernel_rfl)
abbrev F109 : Fm := ⟨0, ⟨[⟨0, true, [.deep S25]⟩], []⟩, ⟨[⟨0, false, [.nil]⟩, ⟨1, false, [.deep is]⟩], []⟩, .nil⟩
def f109 (k : Nat) : F109.pre.T → Option F109.post.T := runFn Try.prog ti [Fm.entry Try.prog F20 20 (f20 k), Fm.entry Try.prog F21 21 c21] F109 Try.f9 k
theorem g109 (k : Nat) : EGood Try.prog (Fm.entry Try.prog F109 9 (f109 k)) := good tiok mixed (goods_cons (g20 k) (goods_cons h21 goods_nil)) Try.func9 (by kernel_rfl) (by kernel_rfl)
abbrev F4 : Fm := ⟨0, ⟨[⟨0, true, [.deep S25]⟩, ⟨1, false, [.deep is]⟩, ⟨2, false, [.deep is]⟩], []⟩, ⟨[⟨0, false, [.deep .bool]⟩], []⟩, anF Try.f4 [⟨[⟨1, false, [.deep is]⟩, ⟨2, false, [.deep is]⟩, ⟨7, false, [.ptr 0]⟩, ⟨9, false, [.deep is]⟩], [Mc 1 2, RB, NF]⟩]⟩
def f4 (k : Nat) : F4.pre.T → Option F4.post.T := runFn Try.prog ti [Fm.entry Try.prog F8 8 (f8 k), Fm.entry Try.prog F9 9 (f9 k), Fm.entry Try.prog F16 16 (f16 k), Fm.entry Try.prog F15 15 (f15 k), Fm.entry Try.prog F17 17 (f17 k), Fm.entry Try.prog F10 10 (f10 k), Fm.entry Try.prog F12 12 (f12 k)] F4 Try.f4 k
theorem g4 (k : Nat) : EGood Try.prog (Fm.entry Try.prog F4 4 (f4 k)) := good tiok mixed (goods_cons (g8 k) (goods_cons (g9 k) (goods_cons (g16 k) (goods_cons (g15 k) (goods_cons (g17 k) (goods_cons (g10 k) (goods_cons (g12 k) goods_nil))))))) Try.func4 (by kernel_rfl) (by kernel_rfl)
abbrev F104 : Fm := ⟨0, ⟨[⟨0, true, [.deep S25]⟩, ⟨1, false, [.deep is]⟩, ⟨2, false, [.deep is]⟩], []⟩, ⟨[⟨0, false, [.deep .bool]⟩], []⟩, .nil⟩
def f104 (k : Nat) : F104.pre.T → Option F104.post.T := runFn Try.prog ti [Fm.entry Try.prog F8 8 (f8 k), Fm.entry Try.prog F109 9 (f109 k), Fm.entry Try.prog F16 16 (f16 k), Fm.entry Try.prog F15 15 (f15 k), Fm.entry Try.prog F17 17 (f17 k), Fm.entry Try.prog F10 10 (f10 k), Fm.entry Try.prog F12 12 (f12 k)] F104 Try.f4 k
theorem g104 (k : Nat) : EGood Try.prog (Fm.entry Try.prog F104 4 (f104 k)) := good tiok mixed (goods_cons (g8 k) (goods_cons (g109 k) (goods_cons (g16 k) (goods_cons (g15 k) (goods_cons (g17 k) (goods_cons (g10 k) (goods_cons (g12 k) goods_nil))))))) Try.func4 (by kernel_rfl) (by kernel_rfl)
abbrev F11 : Fm := ⟨0, ⟨[⟨0, false, [.ptr 0]⟩, ⟨1, false, [.deep (.sl is)]⟩], [Mc 1 2, RB, NF]⟩, ⟨[⟨0, true, [.deep S35]⟩, ⟨1, false, [.deep .bool]⟩], [Mc 1 3, RB, .gone, NF]⟩, anF Try.f11 [⟨[⟨0, false, [.ptr 0]⟩, ⟨1, false, [.deep (.sl is)]⟩, ⟨4, false, [.ptr 4]⟩, ⟨6, false, [.deep is]⟩, ⟨7, false, [.deep is]⟩], [Mc 1 3, RB, .gone, NF, .cells 35 [.deep S35]]⟩]⟩
def f11 (k : Nat) : F11.pre.T → Option F11.post.T := runFn Try.prog ti [Fm.entry Try.prog F16 16 (f16 k)] F11 Try.f11 k
theorem g11 (k : Nat) : EGood Try.prog (Fm.entry Try.prog F11 11 (f11 k)) := good tiok mixed (goods_cons (g16 k) goods_nil) Try.func11 (by kernel_rfl) (by kernel_rfl)
abbrev F3 : Fm := ⟨0, ⟨[⟨0, true, [.deep S25]⟩, ⟨1, false, [.deep (.sl is)]⟩, ⟨2, false, [.deep (.sl is)]⟩], []⟩, ⟨[⟨0, false, [.deep .bool]⟩], []⟩, anF Try.f3 [⟨[⟨1, false, [.deep (.sl is)]⟩, ⟨2, false, [.deep (.sl is)]⟩, ⟨3, false, [.ptr 0]⟩, ⟨7, false, [.ptr 1]⟩, ⟨9, false, [.ptr 4]⟩, ⟨11, false, [.deep is]⟩], [.cells 25 [.deep S25], Mc 2 3, RB, NF, Mc 5 6, RB, NF]⟩, ⟨[⟨1, false, [.deep (.sl is)]⟩, ⟨2, false, [.deep (.sl is)]⟩, ⟨3, false, [.ptr 0]⟩, ⟨7, false, [.ptr 1]⟩, ⟨9, false, [.ptr 4]⟩, ⟨11, false, [.deep is]⟩, ⟨12, false, [.deep is]⟩], [.cells 25 [.deep S25], Mc 2 3, RB, NF, Mc 5 6, RB, NF]⟩]⟩
def f3 (k : Nat) : F3.pre.T → Option F3.post.T := runFn Try.prog ti [Fm.entry Try.prog F8 8 (f8 k), Fm.entry Try.prog F9 9 (f9 k), Fm.entry Try.prog F10 10 (f10 k), Fm.entry Try.prog F11 11 (f11 k), Fm.entry Try.prog F12 12 (f12 k), Fm.entry Try.prog F13 13 (f13 k), Fm.entry Try.prog F14 14 (f14 k), Fm.entry Try.prog F15 15 (f15 k)] F3 Try.f3 k
theorem g3 (k : Nat) : EGood Try.prog (Fm.entry Try.prog F3 3 (f3 k)) := good tiok mixed (goods_cons (g8 k) (goods_cons (g9 k) (goods_cons (g10 k) (goods_cons (g11 k) (goods_cons (g12 k) (goods_cons (g13 k) (goods_cons (g14 k) (goods_cons (g15 k) goods_nil)))))))) Try.func3 (by kernel_rfl) (by kernel_rfl)
abbrev F103 : Fm := ⟨0, ⟨[⟨0, true, [.deep S25]⟩, ⟨1, false, [.deep (.sl is)]⟩, ⟨2, false, [.deep (.sl is)]⟩], []⟩, ⟨[⟨0, false, [.deep .bool]⟩], []⟩, .nil⟩
def f103 (k : Nat) : F103.pre.T → Option F103.post.T := runFn Try.prog ti [Fm.entry Try.prog F8 8 (f8 k), Fm.entry Try.prog F109 9 (f109 k), Fm.entry Try.prog F10 10 (f10 k), Fm.entry Try.prog F11 11 (f11 k), Fm.entry Try.prog F12 12 (f12 k), Fm.entry Try.prog F13 13 (f13 k), Fm.entry Try.prog F14 14 (f14 k), Fm.entry Try.prog F15 15 (f15 k)] F103 Try.f3 k
theorem g103 (k : Nat) : EGood Try.prog (Fm.entry Try.prog F103 3 (f103 k)) := good tiok mixed (goods_cons (g8 k) (goods_cons (g109 k) (goods_cons (g10 k) (goods_cons (g11 k) (goods_cons (g12 k) (goods_cons (g13 k) (goods_cons (g14 k) (goods_cons (g15 k) goods_nil)))))))) Try.func3 (by kernel_rfl) (by kernel_rfl)
/-! Heights are sound: each instruction's height leads to its followers' -/
structure Ext (n : Nat) (out out2 : List Int) (todo todo2 : List Int) : Prop where
  keep : ∀ i, i < n → 0 ≤ ia out i → ia out2 i = ia out i
  new : ∀ i, i < n → 0 ≤ ia out2 i → 0 ≤ ia out i ∨ (i : Int) ∈ todo2
  sub : ∀ t ∈ todo, t ∈ todo2
theorem Ext.refl (n : Nat) (out todo : List Int) : Ext n out out todo todo := ⟨fun _ _ _ => rfl, fun _ _ h => .inl h, fun _ h => h⟩
theorem in22 (L1 : T21 → V21) (m : Int) (d : List Int) (l : Fs) (f : Int) (c : List (Int × Int)) (n : Nat) (hn : c.length = n) (hn1 : n ≤ 400) (p h : Int) (hp : 0 ≤ p ∧ p ≤ 8) (hh : 0 ≤ h ∧ h + p ≤ 64) (nx : List Int) (hx2 : nx.length ≤ 2) (hx : ∀ j, j < nx.length → 0 ≤ ia nx j ∧ ia nx j ≤ (n : Int)) :
    ∀ (q j k : Nat) (out todo : List Int), nx.length - j ≤ q → q + 1 ≤ k → WF n out todo → todo.length + holes out ≤ 1000 →
      loopN (e30_0 L1) k (B21 m d l f c p h nx (nx.length : Int) (j : Int) out todo) = R21 false [] ∨
      ∃ out2 todo2, loopN (e30_0 L1) k (B21 m d l f c p h nx (nx.length : Int) (j : Int) out todo) = L1 (A21 m d l f c out2 todo2) ∧
        WF n out2 todo2 ∧ todo2.length + holes out2 = todo.length + holes out ∧ Ext n out out2 todo todo2 ∧ ∀ i, j ≤ i → i < nx.length → ia nx i < (n : Int) ∧ ia out2 (ia nx i).toNat = h + p := by
  intro q
  induction q with
  | zero =>
    intro j k out todo hq hk hW hs
    obtain ⟨k, rfl⟩ : ∃ k2, k = k2 + 1 := ⟨k - 1, by omega⟩
    rw [loopN_succ, e30_0]
    simp only []
    rw [cneg (by omega)]
    exact .inr ⟨out, todo, rfl, hW, rfl, Ext.refl _ _ _, fun i h1 h2 => by omega⟩
  | succ q ih =>
    intro j k out todo hq hk hW hs
    obtain ⟨k, rfl⟩ : ∃ k2, k = k2 + 1 := ⟨k - 1, by omega⟩
    have hlen := hW.len
    rw [loopN_succ, e30_0]
    simp only []
    by_cases hj : (j : Int) < (nx.length : Int)
    · rw [cpos hj, cpos (p := 0 ≤ (j : Int) ∧ (j : Int) < (nx.length : Int)) (by omega), Int.toNat_natCast]
      obtain ⟨t0, t1⟩ := hx j (by omega)
      obtain ⟨t, ht⟩ : ∃ t : Nat, ia nx j = (t : Int) := ⟨(ia nx j).toNat, by omega⟩
      rw [ht, Int.toNat_natCast]
      by_cases c1 : (t : Int) = (c.length : Int)
      · rw [bpos c1]; exact .inl rfl
      · have htn : t < n := by omega
        rw [bneg c1, cond_false, cpos (p := 0 ≤ (t : Int) ∧ (t : Int) < (out.length : Int)) (by omega), wrapId (n := h + p) (by omega) (by omega), wrapId (n := (j : Int) + 1) (by omega) (by omega)]
        by_cases c2 : ia out t ≥ 0
        · rw [cpos c2, cpos (p := 0 ≤ (t : Int) ∧ (t : Int) < (out.length : Int)) (by omega)]
          by_cases c3 : ia out t = h + p
          · rw [nneg c3, cond_false, cpos (p := 0 ≤ (t : Int) ∧ (t : Int) < (out.length : Int)) (by omega), cneg (by omega)]
            have := ih (j + 1) k out todo (by omega) (by omega) hW hs
            rw [show ((j + 1 : Nat) : Int) = (j : Int) + 1 by omega] at this
            rcases this with g | ⟨o2, t2, g1, g2, g3, g4, g5⟩
            · exact .inl g
            · refine .inr ⟨o2, t2, g1, g2, g3, g4, fun i h1 h2 => ?_⟩
              by_cases e : i = j
              · subst e
                rw [ht, Int.toNat_natCast]
                exact ⟨by omega, by rw [g4.keep t htn c2, c3]⟩
              · exact g5 i (by omega) h2
          · rw [npos c3]; exact .inl rfl
        · rw [cneg c2, cpos (p := 0 ≤ (t : Int) ∧ (t : Int) < (out.length : Int)) (by omega), cpos (show ia out t < 0 by omega),
            cpos (p := 0 ≤ (t : Int) ∧ (t : Int) < (out.length : Int)) (by omega), blt (by simp only [List.length_singleton]; omega)]
          have hho := holes_set (v := h + p) (xs := out) (i := t) (by omega) (by omega) (by omega)
          have := ih (j + 1) k (out.set t (h + p)) (todo ++ [(t : Int)]) (by omega) (by omega) (hW.put htn (by omega) (by omega)) (by rw [List.length_append, List.length_singleton]; omega)
          rw [show ((j + 1 : Nat) : Int) = (j : Int) + 1 by omega] at this
          rcases this with g | ⟨o2, t2, g1, g2, g3, g4, g5⟩
          · exact .inl g
          · have hset : ∀ i, ia (out.set t (h + p)) i = if i = t then h + p else ia out i := fun i => ia_set (by omega)
            refine .inr ⟨o2, t2, g1, g2, by rw [List.length_append, List.length_singleton] at g3; omega, ⟨fun i hi h0 => ?_, fun i hi h0 => ?_, fun x hx => g4.sub x (by simp [hx])⟩, fun i h1 h2 => ?_⟩
            · have hit : i ≠ t := fun e => by subst e; omega
              have := g4.keep i hi (by rw [hset, if_neg hit]; exact h0)
              rw [this, hset, if_neg hit]
            · rcases g4.new i hi h0 with g | g
              · rw [hset] at g
                by_cases hit : i = t
                · subst hit; exact .inr (g4.sub _ (by simp))
                · rw [if_neg hit] at g; exact .inl g
              · exact .inr g
            · by_cases e : i = j
              · subst e
                rw [ht, Int.toNat_natCast]
                have := g4.keep t htn (by rw [hset, if_pos rfl]; omega)
                rw [hset, if_pos rfl] at this
                exact ⟨by omega, this⟩
              · exact g5 i (by omega) h2
    · rw [cneg hj]
      exact .inr ⟨out, todo, rfl, hW, rfl, Ext.refl _ _ _, fun i h1 h2 => by omega⟩
abbrev E40 (k : Nat) (i : Int) (c : Int × Int) : Option F40.post.T := f40 k (((i, ()), ((c.1, c.2), ()), ()), ())
abbrev r40 (nx : List Int) : Option F40.post.T := some ((((), ()), ()), nx, ())
/-- an instruction whose height leads to its followers' -/
def Leads (k0 : Nat) (m : Int) (d : List Int) (l : Fs) (f : Int) (c : List (Int × Int)) (n : Nat) (out : List Int) (i : Nat) : Prop :=
  ∃ T P b nx, E31 k0 m d l f (ca c i) = r31 T P b ∧ E40 k0 (i : Int) (ca c i) = r40 nx ∧ 0 ≤ ia out i - T ∧ ia out i - T + P ≤ 64 ∧
    ((ca c i).1 = 27 → ia out i = T) ∧ ∀ j, j < nx.length → 0 ≤ ia nx j ∧ ia nx j < (n : Int) ∧ ia out (ia nx j).toNat = ia out i - T + P
theorem Leads.mono {k0 : Nat} {m : Int} {d : List Int} {l : Fs} {f : Int} {c : List (Int × Int)} {n : Nat} {out out2 todo todo2 : List Int} {i : Nat} (hi : i < n) (hlo : 0 ≤ ia out i) (h : Leads k0 m d l f c n out i) (hP : ∀ T P b, E31 k0 m d l f (ca c i) = r31 T P b → 0 ≤ P) (hE : Ext n out out2 todo todo2) : Leads k0 m d l f c n out2 i := by
  obtain ⟨T, P, b, nx, g1, g2, g3, g4, g5, g6⟩ := h
  have e := hE.keep i hi hlo
  refine ⟨T, P, b, nx, g1, g2, by rw [e]; exact g3, by rw [e]; exact g4, by rw [e]; exact g5, fun j hj => ?_⟩
  obtain ⟨a1, a2, a3⟩ := g6 j hj
  have := hP T P b g1
  refine ⟨a1, a2, ?_⟩
  rw [hE.keep _ (by omega) (by omega), a3, e]
set_option maxHeartbeats 1000000 in
theorem out22 {k0 : Nat} (hk0 : 10 ≤ k0) {m : Int} {d : List Int} {l : Fs} {f : Int} {c : List (Int × Int)} {n : Nat} (hP : Pre k0 m m d d l l f c c n 0) (m0 : Int) (d0 : List Int) (l0 : Fs) :
    ∀ (q k : Nat) (out todo : List Int), todo.length + holes out ≤ q → q + 1 ≤ k → q ≤ 1000 → WF n out todo → (∀ i, i < n → 0 ≤ ia out i → (i : Int) ∈ todo ∨ Leads k0 m d l f c n out i) →
      ∃ b r, loopN (e30_1 k0 m0 d0 l0) k (A21 m d l f c out todo) = R21 b r ∧ (b = true → WF n r [] ∧ (∀ i, i < n → 0 ≤ ia out i → ia r i = ia out i) ∧ ∀ i, i < n → 0 ≤ ia r i → Leads k0 m d l f c n r i) := by
  intro q
  induction q with
  | zero =>
    intro k out todo hq hk hq2 hW hI
    obtain ⟨k, rfl⟩ : ∃ k2, k = k2 + 1 := ⟨k - 1, by omega⟩
    rw [loopN_succ, e30_1]
    simp only []
    rw [cneg (by omega)]
    have : todo = [] := List.length_eq_zero_iff.1 (by omega)
    subst this
    exact ⟨true, out, rfl, fun _ => ⟨hW, fun _ _ _ => rfl, fun i hi h0 => (hI i hi h0).resolve_left (by simp)⟩⟩
  | succ q ih =>
    intro k out todo hq hk hq2 hW hI
    obtain ⟨k, rfl⟩ : ∃ k2, k = k2 + 1 := ⟨k - 1, by omega⟩
    have hlen := hW.len
    have hn0 := hP.n0
    have hcl := hP.hc
    rw [loopN_succ, e30_1]
    simp only []
    rcases List.eq_nil_or_concat todo with rfl | ⟨init, a, rfl⟩
    · rw [cneg (by simp)]
      exact ⟨true, out, rfl, fun _ => ⟨hW, fun _ _ _ => rfl, fun i hi h0 => (hI i hi h0).resolve_left (by simp)⟩⟩
    · rw [List.concat_eq_append] at *
      obtain ⟨a0, a1, a2⟩ := hW.td a (by simp)
      obtain ⟨t, rfl⟩ : ∃ t : Nat, a = (t : Int) := ⟨a.toNat, by omega⟩
      rw [Int.toNat_natCast] at a2
      have htn : t < n := by omega
      have hl1 : (((init ++ [(t : Int)]).length : Nat) : Int) = (init.length : Int) + 1 := by simp
      have hil : init.length ≤ 1000 := by simp only [List.length_append, List.length_singleton] at hq; omega
      have e1 : IntKind.i64.wrap ((((init ++ [(t : Int)]).length : Nat) : Int) - 1) = (init.length : Int) := by rw [hl1, wrapId (by omega) (by omega)]; omega
      have e3 : ia (init ++ [(t : Int)]) init.length = (t : Int) := by
        unfold ia gt
        rw [List.getD_eq_getElem?_getD, List.getElem?_append_right (Nat.le_refl _)]; simp
      have e2 : List.take (init.length - Int.toNat 0) (init ++ [(t : Int)]) = init := by simp
      have hlo := hW.lo t htn
      obtain ⟨T, P, eb, hE1, -, hT, hPb⟩ := hP.eff t htn
      obtain ⟨nx, hN, hx2, hx⟩ := next_tot k0 (t : Int) (n : Int) (ca c t) (by omega) (by omega) (by omega) (hP.jmp t htn)
      have hE1' : f31 k0 ((((m, d, l), ()), (f, ()), (((ca c t).1, (ca c t).2), ()), ()), ()) = r31 T P eb := hE1
      simp only [e1, Int.toNat_natCast, e3, e2, hE1', hN, Option.bind_some]
      rw [cpos (show (((init ++ [(t : Int)]).length : Nat) : Int) > 0 by omega), cpos (show (0 : Int) ≤ (init.length : Int) ∧ (init.length : Int) < (((init ++ [(t : Int)]).length : Nat) : Int) by omega),
        cpos (show (0 : Int) ≤ 0 ∧ (0 : Int) ≤ (init.length : Int) ∧ (init.length : Int) ≤ (init.length : Int) ∧ (init.length : Int) ≤ (((init ++ [(t : Int)]).length : Nat) : Int) by omega),
        cpos (show (0 : Int) ≤ (t : Int) ∧ (t : Int) < (c.length : Int) by omega), cpos (show (0 : Int) ≤ (t : Int) ∧ (t : Int) < (out.length : Int) by omega)]
      rw [wrapId (n := ia out t - T) (by omega) (by omega), wrapId (n := ia out t - T + P) (by omega) (by omega)]
      have no : ∀ {X : V21}, X = R21 false [] → ∃ b r, X = R21 b r ∧ (b = true → WF n r [] ∧ (∀ i, i < n → 0 ≤ ia out i → ia r i = ia out i) ∧ ∀ i, i < n → 0 ≤ ia r i → Leads k0 m d l f c n r i) := fun h => ⟨false, [], h, fun q => by cases q⟩
      by_cases b1 : ia out t - T < 0
      · rw [cpos b1]; exact no rfl
      rw [cneg b1]
      by_cases b2 : ia out t - T + P > 64
      · rw [cpos b2]; exact no rfl
      rw [cneg b2, cpos (show (0 : Int) ≤ (t : Int) ∧ (t : Int) < (c.length : Int) by omega)]
      have hgo : ((ca c t).1 = 27 → ia out t = T) → ∃ b r, loopN (e30_0 (loopN (e30_1 k0 m0 d0 l0) k)) k0 (B21 m d l f c P (ia out t - T) nx (nx.length : Int) 0 out init) = R21 b r ∧ (b = true → WF n r [] ∧ (∀ i, i < n → 0 ≤ ia out i → ia r i = ia out i) ∧ ∀ i, i < n → 0 ≤ ia r i → Leads k0 m d l f c n r i) := fun h27 => by
        rcases in22 (loopN (e30_1 k0 m0 d0 l0) k) m d l f c n hcl hn0.2 P (ia out t - T) hPb ⟨by omega, by omega⟩ nx hx2 hx 2 0 k0 out init (by omega) (by omega) ⟨hW.len, hW.lo, fun t2 h2 => hW.td t2 (by simp [h2])⟩ (by simp only [List.length_append, List.length_singleton] at hq; omega) with g | ⟨o2, t2, g1, g3, g4, g5, g6⟩
        · exact no g
        · obtain ⟨b, r, q1, q2⟩ := ih k o2 t2 (by simp only [List.length_append, List.length_singleton] at hq; omega) (by omega) (by omega) g3 (fun i hi h0 => by
            rcases g5.new i hi h0 with h1 | h1
            · by_cases hit : i = t
              · subst hit
                refine .inr ⟨T, P, eb, nx, hE1, hN, ?_, ?_, ?_, fun j hj => ?_⟩
                · rw [g5.keep i hi h1]; omega
                · rw [g5.keep i hi h1]; omega
                · rw [g5.keep i hi h1]; exact h27
                · obtain ⟨u1, u2⟩ := g6 j (Nat.zero_le _) hj
                  exact ⟨(hx j hj).1, u1, by rw [u2, g5.keep i hi h1]⟩
              · rcases hI i hi h1 with h2 | h2
                · simp only [List.mem_append, List.mem_singleton] at h2
                  rcases h2 with h2 | h2
                  · exact .inl (g5.sub _ h2)
                  · omega
                · refine .inr (h2.mono hi h1 (fun T' P' b' he => ?_) g5)
                  obtain ⟨T2, P2, b2, v1, -, -, v2⟩ := hP.eff i hi
                  rw [v1] at he
                  simp [r31] at he
                  omega
            · exact .inl h1)
          refine ⟨b, r, g1.trans q1, fun hb => ?_⟩
          obtain ⟨w1, w2, w3⟩ := q2 hb
          exact ⟨w1, fun i hi h0 => by rw [w2 i hi (by rw [g5.keep i hi h0]; exact h0), g5.keep i hi h0], w3⟩
      cases h27 : ((ca c t).1 == (27 : Int)) with
      | true =>
        rw [cond_true]
        by_cases hz : ia out t - T = 0
        · rw [nneg hz, cond_false, cpos (show (0 : Int) ≤ (t : Int) ∧ (t : Int) < (c.length : Int) by omega)]
          exact hgo fun _ => by omega
        · rw [npos hz]; exact no rfl
      | false =>
        rw [cond_false, cpos (show (0 : Int) ≤ (t : Int) ∧ (t : Int) < (c.length : Int) by omega)]
        exact hgo fun h => by rw [h] at h27; simp at h27
/-- heights that are as they should be -/
structure Hts (k : Nat) (m : Int) (d : List Int) (l : Fs) (f : Int) (c : List (Int × Int)) (r : List Int) : Prop where
  w : WF c.length r []
  z : ia r 0 = 0
  go : ∀ i, i < c.length → 0 ≤ ia r i → Leads k m d l f c c.length r i
theorem heights_ok {k : Nat} (hk : 2000 ≤ k) {m : Int} {d : List Int} {l : Fs} (hf : ∀ i, i < l.length → FnOk (fa l i)) {f : Int} (h0 : 0 ≤ f) (h1 : f < (l.length : Int)) {r : List Int}
    (hok : ∀ p, p < (fa l f.toNat).2.2.2.length → OkI k m d l f (fa l f.toNat).1 (fa l f.toNat).2.2.1 ((fa l f.toNat).2.2.2.length : Int) (ca (fa l f.toNat).2.2.2 p))
    (h : f30 k ((((m, d, l), ()), (f, ()), ()), ()) = R21 true r) : Hts k m d l f (fa l f.toNat).2.2.2 r := by
  have hP := pre_of (m' := m) (d' := d) (e := 0) (like_refl l) hf h0 h1 rfl (fun _ _ => rfl) hok
  generalize hc : (fa l f.toNat).2.2.2 = c at *
  have g3 := hP.n0
  rw [heights_at k m d l f h0 h1 c hc (by omega) (by omega)] at h
  have hset : ∀ i, i < c.length → ia ((List.replicate c.length (-1 : Int)).set 0 0) i = if i = 0 then 0 else -1 := fun i hi => by
    rw [ia_set (by simp; omega)]
    split
    · rfl
    · rw [ia_get (by simp; omega)]; simp
  obtain ⟨b, r2, q1, q2⟩ := out22 (by omega) hP m d l 401 k ((List.replicate c.length (-1 : Int)).set 0 0) [0] (by
      have : holes ((List.replicate c.length (-1 : Int)).set 0 0) ≤ ((List.replicate c.length (-1 : Int)).set 0 0).length := List.countP_le_length
      rw [List.length_set, List.length_replicate] at this
      simp only [List.length_singleton]; omega) (by omega) (by omega) ⟨by simp, fun i hi => by rw [hset i hi]; split <;> omega, fun t ht => by
        simp only [List.mem_singleton] at ht
        subst ht
        refine ⟨by omega, by omega, ?_⟩
        rw [Int.toNat_zero, hset 0 (by omega), if_pos rfl]; exact Int.le_refl _⟩ (fun i hi h0 => by
        rw [hset i hi] at h0
        split at h0
        · rename_i e; subst e; exact .inl (by simp)
        · omega)
  rw [q1] at h
  simp only [Option.some.injEq, Prod.mk.injEq, and_true, true_and] at h
  obtain ⟨rfl, rfl⟩ := h
  obtain ⟨w1, w2, w3⟩ := q2 rfl
  refine ⟨w1, ?_, w3⟩
  rw [w2 0 (by omega) (by rw [hset 0 (by omega), if_pos rfl]; exact Int.le_refl _), hset 0 (by omega), if_pos rfl]
/-! Memory: what is read of it, put into it, taken from it -/
def ub (c : List Int) (i : Nat) : Int := gt (Sh.int .u8) c i
theorem e13_eq (k : Nat) (a : Int) (n : Int) (m : Int) (d : List Int) (l : Fs) (c : List Int) (fr : Fr) (asks : Bool) (call : Int) (args : List Int) (trap : Int) : f13 k ((((), ()), (a, ()), (n, ()), ()), ((m, d, l), (), (), (asks, call, args, trap), ()), c, fr, ()) = bif decide (n < (0 : Int)) then some ((([], ()), (false, ()), ()), ()) else bif decide (a < (0 : Int)) then some ((([], ()), (false, ()), ()), ()) else bif decide (a > (↑c.length : Int)) then some ((([], ()), (false, ()), ()), ()) else bif decide (n > IntKind.i64.wrap ((↑c.length : Int) - a)) then some ((([], ()), (false, ()), ()), ()) else bif decide ((0 : Int) ≤ a ∧ a ≤ IntKind.i64.wrap (a + n) ∧ IntKind.i64.wrap (a + n) ≤ IntKind.i64.wrap (a + n) ∧ IntKind.i64.wrap (a + n) ≤ (↑c.length : Int)) then Option.bind (bif ((([] : List Int).length + (List.take ((IntKind.i64.wrap (a + n)).toNat - a.toNat) (List.drop a.toNat c)).length) * (1 : Nat)).ble (140737488355328 : Nat) then some ((((), ()), ()), List.take ((IntKind.i64.wrap (a + n)).toNat - a.toNat) (List.drop a.toNat c), ()) else none) fun v => some (((v.2.1, ()), (true, ()), ()), ()) else none := by kernel_rfl
def e34_0 (g : ((List Int × Unit) × ((Nat × Nat) × Unit) × (Int × Unit) × (Int × Unit) × Unit) × ((Int × List Int × Fs) × Unit × Unit × (Bool × Int × List Int × Int) × Unit) × List Int × Fr × Unit) (L : ((List Int × Unit) × ((Nat × Nat) × Unit) × (Int × Unit) × (Int × Unit) × Unit) × ((Int × List Int × Fs) × Unit × Unit × (Bool × Int × List Int × Int) × Unit) × List Int × Fr × Unit → Option (Unit × ((Int × List Int × Fs) × Unit × Unit × (Bool × Int × List Int × Int) × Unit) × List Int × Fr × Unit)) : Option (Unit × ((Int × List Int × Fs) × Unit × Unit × (Bool × Int × List Int × Int) × Unit) × List Int × Fr × Unit) := bif decide (g.1.2.2.2.1.1 < g.1.2.2.1.1) then bif decide ((0 : Int) ≤ (1 : Int) ∧ (1 : Int) < (↑g.1.1.1.length : Int)) then bif decide ((0 : Int) ≤ IntKind.i64.wrap ((8 : Int) * g.1.2.2.2.1.1)) then bif decide ((0 : Int) ≤ g.1.2.2.2.1.1 ∧ g.1.2.2.2.1.1 < (↑g.1.2.1.1.2 : Int)) then L (((g.1.1.1, ()), ((g.1.2.1.1.1, g.1.2.1.1.2), ()), (g.1.2.2.1.1, ()), (IntKind.i64.wrap (g.1.2.2.2.1.1 + (1 : Int)), ()), ()), ((g.2.1.1.1, g.2.1.1.2.1, g.2.1.1.2.2), (), (), (g.2.1.2.2.2.1.1, g.2.1.2.2.2.1.2.1, g.2.1.2.2.2.1.2.2.1, g.2.1.2.2.2.1.2.2.2), ()), g.2.2.1.set (g.1.2.1.1.1 + g.1.2.2.2.1.1.toNat) (IntKind.u8.wrap (Int.fdiv (gt is g.1.1.1 (Int.toNat (1 : Int))) ((2 : Int) ^ min (IntKind.i64.wrap ((8 : Int) * g.1.2.2.2.1.1)).toNat IntKind.i64.bits))), g.2.2.2.1, ()) else none else none else none else some ((), ((g.2.1.1.1, g.2.1.1.2.1, g.2.1.1.2.2), (), (), (g.2.1.2.2.2.1.1, g.2.1.2.2.2.1.2.1, g.2.1.2.2.2.1.2.2.1, g.2.1.2.2.2.1.2.2.2), ()), g.2.2.1, g.2.2.2.1, ())
theorem e34_eq (k : Nat) (a : Int) (w : Int) (m : Int) (d : List Int) (l : Fs) (c : List Int) (fr : Fr) (asks : Bool) (call : Int) (args : List Int) (trap : Int) : f34 k ((((), ()), ((21 : Int), ()), ([a, w], ()), ()), ((m, d, l), (), (), (asks, call, args, trap), ()), c, fr, ()) = (f13 k ((((), ()), (a, ()), ((1 : Int), ()), ()), ((m, d, l), (), (), (asks, call, args, trap), ()), c, fr, ())).bind fun v => bif !v.1.2.1.1 then some ((), ((m, d, l), (), (), (asks, call, args, (2 : Int)), ()), c, fr, ()) else bif decide ((0 : Int) ≤ a ∧ a ≤ IntKind.i64.wrap (a + (1 : Int)) ∧ IntKind.i64.wrap (a + (1 : Int)) ≤ IntKind.i64.wrap (a + (1 : Int)) ∧ IntKind.i64.wrap (a + (1 : Int)) ≤ (↑c.length : Int)) then loopN e34_0 k ((([a, w], ()), ((Int.toNat (a), (IntKind.i64.wrap (a + (1 : Int))).toNat - Int.toNat (a)), ()), ((↑((IntKind.i64.wrap (a + (1 : Int))).toNat - Int.toNat (a)) : Int), ()), ((0 : Int), ()), ()), ((m, d, l), (), (), (asks, call, args, trap), ()), c, fr, ()) else none := by kernel_rfl
theorem e34b_eq (k : Nat) (a : Int) (w : Int) (m : Int) (d : List Int) (l : Fs) (c : List Int) (fr : Fr) (asks : Bool) (call : Int) (args : List Int) (trap : Int) : f34 k ((((), ()), ((23 : Int), ()), ([a, w], ()), ()), ((m, d, l), (), (), (asks, call, args, trap), ()), c, fr, ()) = (f13 k ((((), ()), (a, ()), ((8 : Int), ()), ()), ((m, d, l), (), (), (asks, call, args, trap), ()), c, fr, ())).bind fun v => bif !v.1.2.1.1 then some ((), ((m, d, l), (), (), (asks, call, args, (2 : Int)), ()), c, fr, ()) else bif decide ((0 : Int) ≤ a ∧ a ≤ IntKind.i64.wrap (a + (8 : Int)) ∧ IntKind.i64.wrap (a + (8 : Int)) ≤ IntKind.i64.wrap (a + (8 : Int)) ∧ IntKind.i64.wrap (a + (8 : Int)) ≤ (↑c.length : Int)) then loopN e34_0 k ((([a, w], ()), ((Int.toNat (a), (IntKind.i64.wrap (a + (8 : Int))).toNat - Int.toNat (a)), ()), ((↑((IntKind.i64.wrap (a + (8 : Int))).toNat - Int.toNat (a)) : Int), ()), ((0 : Int), ()), ()), ((m, d, l), (), (), (asks, call, args, trap), ()), c, fr, ()) else none := by kernel_rfl
def e34c_0 (k : Nat) (a : Int) (m : Int) (d : List Int) (l : Fs) (asks : Bool) (call : Int) (args : List Int) (trap : Int) (c : List Int) (fr : Fr) (g : ((Unit × Unit) × (Int × Unit) × ((Nat × Nat) × Unit) × (Int × Unit) × (Int × Unit) × Unit) × ((Int × List Int × Fs) × Unit × Unit × (Bool × Int × List Int × Int) × Unit) × List Int × Fr × Unit) (L : ((Unit × Unit) × (Int × Unit) × ((Nat × Nat) × Unit) × (Int × Unit) × (Int × Unit) × Unit) × ((Int × List Int × Fs) × Unit × Unit × (Bool × Int × List Int × Int) × Unit) × List Int × Fr × Unit → Option (Unit × ((Int × List Int × Fs) × Unit × Unit × (Bool × Int × List Int × Int) × Unit) × List Int × Fr × Unit)) : Option (Unit × ((Int × List Int × Fs) × Unit × Unit × (Bool × Int × List Int × Int) × Unit) × List Int × Fr × Unit) := bif decide (g.1.2.2.2.2.1.1 < g.1.2.2.2.1.1) then bif decide ((0 : Int) ≤ g.1.2.2.2.2.1.1 ∧ g.1.2.2.2.2.1.1 < (↑g.1.2.2.1.1.2 : Int)) then bif decide ((0 : Int) ≤ IntKind.i64.wrap ((8 : Int) * g.1.2.2.2.2.1.1)) then L ((((), ()), (IntKind.u64.wrap (↑(BitVec.ofInt IntKind.u64.bits g.1.2.1.1 ||| BitVec.ofInt IntKind.u64.bits (IntKind.u64.wrap (IntKind.u64.wrap (ub g.2.2.1 (g.1.2.2.1.1.1 + g.1.2.2.2.2.1.1.toNat)) * (2 : Int) ^ min (IntKind.i64.wrap ((8 : Int) * g.1.2.2.2.2.1.1)).toNat IntKind.u64.bits))).toNat : Int), ()), ((g.1.2.2.1.1.1, g.1.2.2.1.1.2), ()), (g.1.2.2.2.1.1, ()), (IntKind.i64.wrap (g.1.2.2.2.2.1.1 + (1 : Int)), ()), ()), ((g.2.1.1.1, g.2.1.1.2.1, g.2.1.1.2.2), (), (), (g.2.1.2.2.2.1.1, g.2.1.2.2.2.1.2.1, g.2.1.2.2.2.1.2.2.1, g.2.1.2.2.2.1.2.2.2), ()), g.2.2.1, g.2.2.2.1, ()) else none else none else (f24 k ((((), ()), ()), ((g.2.1.1.1, g.2.1.1.2.1, g.2.1.1.2.2), (), (), (g.2.1.2.2.2.1.1, g.2.1.2.2.2.1.2.1, g.2.1.2.2.2.1.2.2.1, g.2.1.2.2.2.1.2.2.2), ()), g.2.2.1, g.2.2.2.1, ())).bind fun v => (f25 k (((v.1.1.1, ()), (IntKind.i64.wrap g.1.2.1.1, ()), ()), g.2.2.2.1, ())).bind fun v => some ((), ((g.2.1.1.1, g.2.1.1.2.1, g.2.1.1.2.2), (), (), (g.2.1.2.2.2.1.1, g.2.1.2.2.2.1.2.1, g.2.1.2.2.2.1.2.2.1, g.2.1.2.2.2.1.2.2.2), ()), g.2.2.1, v.2.1, ())
theorem e34c_eq (k : Nat) (a : Int) (m : Int) (d : List Int) (l : Fs) (c : List Int) (fr : Fr) (asks : Bool) (call : Int) (args : List Int) (trap : Int) : f34 k ((((), ()), ((20 : Int), ()), ([a], ()), ()), ((m, d, l), (), (), (asks, call, args, trap), ()), c, fr, ()) = (f13 k ((((), ()), (a, ()), ((1 : Int), ()), ()), ((m, d, l), (), (), (asks, call, args, trap), ()), c, fr, ())).bind fun v => bif !v.1.2.1.1 then some ((), ((m, d, l), (), (), (asks, call, args, (2 : Int)), ()), c, fr, ()) else bif decide ((0 : Int) ≤ a ∧ a ≤ IntKind.i64.wrap (a + (1 : Int)) ∧ IntKind.i64.wrap (a + (1 : Int)) ≤ IntKind.i64.wrap (a + (1 : Int)) ∧ IntKind.i64.wrap (a + (1 : Int)) ≤ (↑c.length : Int)) then loopN (e34c_0 k a m d l asks call args trap c fr) k ((((), ()), ((0 : Int), ()), ((Int.toNat (a), (IntKind.i64.wrap (a + (1 : Int))).toNat - Int.toNat (a)), ()), ((↑((IntKind.i64.wrap (a + (1 : Int))).toNat - Int.toNat (a)) : Int), ()), ((0 : Int), ()), ()), ((m, d, l), (), (), (asks, call, args, trap), ()), c, fr, ()) else none := by kernel_rfl
theorem e34d_eq (k : Nat) (a : Int) (m : Int) (d : List Int) (l : Fs) (c : List Int) (fr : Fr) (asks : Bool) (call : Int) (args : List Int) (trap : Int) : f34 k ((((), ()), ((22 : Int), ()), ([a], ()), ()), ((m, d, l), (), (), (asks, call, args, trap), ()), c, fr, ()) = (f13 k ((((), ()), (a, ()), ((8 : Int), ()), ()), ((m, d, l), (), (), (asks, call, args, trap), ()), c, fr, ())).bind fun v => bif !v.1.2.1.1 then some ((), ((m, d, l), (), (), (asks, call, args, (2 : Int)), ()), c, fr, ()) else bif decide ((0 : Int) ≤ a ∧ a ≤ IntKind.i64.wrap (a + (8 : Int)) ∧ IntKind.i64.wrap (a + (8 : Int)) ≤ IntKind.i64.wrap (a + (8 : Int)) ∧ IntKind.i64.wrap (a + (8 : Int)) ≤ (↑c.length : Int)) then loopN (e34c_0 k a m d l asks call args trap c fr) k ((((), ()), ((0 : Int), ()), ((Int.toNat (a), (IntKind.i64.wrap (a + (8 : Int))).toNat - Int.toNat (a)), ()), ((↑((IntKind.i64.wrap (a + (8 : Int))).toNat - Int.toNat (a)) : Int), ()), ((0 : Int), ()), ()), ((m, d, l), (), (), (asks, call, args, trap), ()), c, fr, ()) else none := by kernel_rfl

theorem mem_in {K : Nat} {a n m : Int} {d : List Int} {l : Fs} {c : List Int} {fr : Fr} {asks : Bool} {call trap : Int} {args : List Int} (h0 : 0 ≤ a) (hn : 0 ≤ n) (h1 : a + n ≤ (c.length : Int)) (hc : c.length ≤ 2000) :
    f13 K ((((), ()), (a, ()), (n, ()), ()), MS m d l asks call args trap, c, fr, ()) = some (((List.take ((a + n).toNat - a.toNat) (List.drop a.toNat c), ()), (true, ()), ()), ()) := by
  refine (e13_eq K a n m d l c fr asks call args trap).trans ?_
  rw [cneg (by omega), cneg (by omega), cneg (by omega), wrapId (n := (c.length : Int) - a) (by omega) (by omega), cneg (by omega), wrapId (n := a + n) (by omega) (by omega), cpos (by omega), blt (by simp only [List.length_nil, List.length_take, List.length_drop]; omega), Option.bind_some]
theorem mem_out {K : Nat} {a n m : Int} {d : List Int} {l : Fs} {c : List Int} {fr : Fr} {asks : Bool} {call trap : Int} {args : List Int} (hn : 0 ≤ n) (h : ¬ (0 ≤ a ∧ a + n ≤ (c.length : Int))) (hc : c.length ≤ 2000) :
    f13 K ((((), ()), (a, ()), (n, ()), ()), MS m d l asks call args trap, c, fr, ()) = some ((([], ()), (false, ()), ()), ()) := by
  refine (e13_eq K a n m d l c fr asks call args trap).trans ?_
  rw [cneg (by omega)]
  by_cases h1 : a < 0
  · rw [cpos h1]
  · rw [cneg h1]
    by_cases h2 : a > (c.length : Int)
    · rw [cpos h2]
    · rw [cneg h2, wrapId (n := (c.length : Int) - a) (by omega) (by omega), cpos (by omega)]
def bt (v j : Int) : Int := IntKind.u8.wrap (v.fdiv ((2 : Int) ^ min (IntKind.i64.wrap (8 * j)).toNat IntKind.i64.bits))
theorem bt_at (v j e : Int) (he : (2 : Int) ^ min (IntKind.i64.wrap (8 * j)).toNat IntKind.i64.bits = e) (h : 0 < e) : bt v j = v / e % 256 := by
  rw [bt, he, Int.fdiv_eq_ediv_of_nonneg _ (by omega), IntKind.wrap_u8]
theorem bt_in (v j : Int) : 0 ≤ bt v j ∧ bt v j < 256 := by
  rw [bt, IntKind.wrap_u8]; omega
/-- a number's bytes, put into a memory one by one -/
def puts (c : List Int) (a : Nat) (v : Int) : Nat → List Int
  | 0 => c
  | j + 1 => (puts c a v j).set (a + j) (bt v j)
theorem puts_len (c : List Int) (a : Nat) (v : Int) (n : Nat) : (puts c a v n).length = c.length := by
  induction n with
  | zero => rfl
  | succ n ih => rw [puts, List.length_set, ih]
theorem ub_set {xs : List Int} {i j : Nat} {v : Int} (h : i < xs.length) : ub (xs.set i v) j = if j = i then v else ub xs j := by
  show (xs.set i v).getD j 0 = if j = i then v else xs.getD j 0
  rw [List.getD_eq_getElem?_getD, List.getD_eq_getElem?_getD, List.getElem?_set]
  by_cases hj : j = i
  · rw [if_pos hj, if_pos hj.symm, if_pos h]
    rfl
  · rw [if_neg hj, if_neg (fun e => hj e.symm)]
theorem ub_puts (c : List Int) (a : Nat) (v : Int) (i : Nat) : ∀ n, a + n ≤ c.length → ub (puts c a v n) i = if a ≤ i ∧ i < a + n then bt v ((i : Int) - a) else ub c i := by
  intro n
  induction n with
  | zero => intro h; rw [if_neg (by omega)]; rfl
  | succ n ih =>
    intro h
    rw [puts, ub_set (by rw [puts_len]; omega), ih (by omega)]
    by_cases h1 : i = a + n
    · rw [if_pos h1, if_pos (by omega)]
      congr 1
      omega
    · rw [if_neg h1]
      by_cases h2 : a ≤ i ∧ i < a + n
      · rw [if_pos h2, if_pos (by omega)]
      · rw [if_neg h2, if_neg (by omega)]
abbrev R34 (m : Int) (d : List Int) (l : Fs) (call : Int) (args : List Int) (t : Int) (c : List Int) (fr : Fr) : Option (Unit × ((Int × List Int × Fs) × Unit × Unit × (Bool × Int × List Int × Int) × Unit) × List Int × Fr × Unit) := some ((), MS m d l false call args t, c, fr, ())
theorem put_loop (a w : Int) (m : Int) (d : List Int) (l : Fs) (call : Int) (args : List Int) (t : Int) (fr : Fr) (A n : Nat) (hn : n ≤ 8) (c : List Int) : ∀ (e j k : Nat), j + e = n → e + 1 ≤ k →
    loopN e34_0 k ((([a, w], ()), ((A, n), ()), ((n : Int), ()), ((j : Int), ()), ()), MS m d l false call args t, puts c A w j, fr, ()) = R34 m d l call args t (puts c A w n) fr := by
  intro e
  induction e with
  | zero =>
    intro j k he hk
    obtain ⟨k, rfl⟩ : ∃ k2, k = k2 + 1 := ⟨k - 1, by omega⟩
    rw [loopN_succ, e34_0]
    simp only []
    rw [cneg (by omega), show j = n by omega]
  | succ e ih =>
    intro j k he hk
    obtain ⟨k, rfl⟩ : ∃ k2, k = k2 + 1 := ⟨k - 1, by omega⟩
    rw [loopN_succ, e34_0]
    simp only []
    rw [cpos (by omega), cpos (p := (0 : Int) ≤ 1 ∧ (1 : Int) < ([a, w].length : Int)) (by simp only [List.length_cons, List.length_nil]; omega), cpos (p := 0 ≤ IntKind.i64.wrap (8 * (j : Int))) (by rw [wrapId (by omega) (by omega)]; omega), cpos (p := 0 ≤ (j : Int) ∧ (j : Int) < (n : Int)) (by omega), wrapId (n := (j : Int) + 1) (by omega) (by omega), Int.toNat_natCast]
    have h := ih (j + 1) k (by omega) (by omega)
    rw [show ((j + 1 : Nat) : Int) = (j : Int) + 1 by omega] at h
    exact h
theorem store1 {K : Nat} (hK : 20 ≤ K) (a w m : Int) (d : List Int) (l : Fs) (c : List Int) (fr : Fr) (call : Int) (args : List Int) (hc : c.length ≤ 2000) :
    f34 K ((((), ()), ((21 : Int), ()), ([a, w], ()), ()), MS m d l false call args 0, c, fr, ()) = if 0 ≤ a ∧ a + 1 ≤ (c.length : Int) then R34 m d l call args 0 (puts c a.toNat w 1) fr else R34 m d l call args 2 c fr := by
  refine (e34_eq K a w m d l c fr false call args 0).trans ?_
  by_cases h : 0 ≤ a ∧ a + 1 ≤ (c.length : Int)
  · rw [if_pos h, mem_in h.1 (by decide) h.2 hc, Option.bind_some]
    simp only []
    rw [Bool.not_true, cond_false, wrapId (n := a + 1) (by omega) (by omega), cpos (by omega), show (a + 1).toNat - a.toNat = 1 by omega]
    exact put_loop a w m d l call args 0 fr a.toNat 1 (by decide) c 1 0 K (by omega) (by omega)
  · rw [if_neg h, mem_out (by decide) h hc, Option.bind_some]
    rfl
theorem store8 {K : Nat} (hK : 20 ≤ K) (a w m : Int) (d : List Int) (l : Fs) (c : List Int) (fr : Fr) (call : Int) (args : List Int) (hc : c.length ≤ 2000) :
    f34 K ((((), ()), ((23 : Int), ()), ([a, w], ()), ()), MS m d l false call args 0, c, fr, ()) = if 0 ≤ a ∧ a + 8 ≤ (c.length : Int) then R34 m d l call args 0 (puts c a.toNat w 8) fr else R34 m d l call args 2 c fr := by
  refine (e34b_eq K a w m d l c fr false call args 0).trans ?_
  by_cases h : 0 ≤ a ∧ a + 8 ≤ (c.length : Int)
  · rw [if_pos h, mem_in h.1 (by decide) h.2 hc, Option.bind_some]
    simp only []
    rw [Bool.not_true, cond_false, wrapId (n := a + 8) (by omega) (by omega), cpos (by omega), show (a + 8).toNat - a.toNat = 8 by omega]
    exact put_loop a w m d l call args 0 fr a.toNat 8 (by decide) c 8 0 K (by omega) (by omega)
  · rw [if_neg h, mem_out (by decide) h hc, Option.bind_some]
    rfl
/-! The machine's functions, in any state -/
def sf (fr : Fr) (i : Nat) : Int × Int × List Int × List Int := gt SF fr i
theorem s10_eq (k : Nat) (a : Int) (b : Int) (e : Int) (m : Int) (d : List Int) (l : Fs) (c : List Int) (fr : Fr) (asks : Bool) (call : Int) (args : List Int) (trap : Int) : f10 k ((((), ()), (a, ()), (b, ()), (e, ()), ()), ((m, d, l), (), (), (asks, call, args, trap), ()), c, fr, ()) = (f17 k ((((), ()), ()), ((m, d, l), (), (), (asks, call, args, trap), ()), c, fr, ())).bind fun v => bif v.1.1.1 then some ((((1 : Int), ()), ()), ((m, d, l), (), (), (asks, call, args, trap), ()), c, (), List.take (List.length fr) fr, ()) else bif trap != (0 : Int) then some ((((1 : Int), ()), ()), ((m, d, l), (), (), (asks, call, args, trap), ()), c, (), List.take (List.length fr) fr, ()) else (f22 k ((((), ()), ((0 : Int), ()), ([a, b, e], ()), ()), ((m, d, l), (), (), (asks, call, args, trap), ()), c, fr, ())).bind fun v => some ((((0 : Int), ()), ()), ((v.2.1.1.1, v.2.1.1.2.1, v.2.1.1.2.2), (), (), (v.2.1.2.2.2.1.1, v.2.1.2.2.2.1.2.1, v.2.1.2.2.2.1.2.2.1, v.2.1.2.2.2.1.2.2.2), ()), v.2.2.1, (), v.2.2.2.2.1, ()) := by kernel_rfl
theorem s15_eq (k : Nat) (v : Int) (m : Int) (d : List Int) (l : Fs) (c : List Int) (fr : Fr) (asks : Bool) (call : Int) (args : List Int) (trap : Int) : f15 k ((((), ()), (v, ()), ()), ((m, d, l), (), (), (asks, call, args, trap), ()), c, fr, ()) = bif !asks then some ((((1 : Int), ()), ()), ((m, d, l), (), (), (asks, call, args, trap), ()), c, fr, ()) else (f24 k ((((), ()), ()), ((m, d, l), (), (), (false, call, args, trap), ()), c, fr, ())).bind fun v_1 => (f25 k (((v_1.1.1.1, ()), (v, ()), ()), fr, ())).bind fun v => some ((((0 : Int), ()), ()), ((m, d, l), (), (), (false, call, args, trap), ()), c, v.2.1, ()) := by kernel_rfl
theorem s17_eq (k : Nat) (m : Int) (d : List Int) (l : Fs) (c : List Int) (fr : Fr) (asks : Bool) (call : Int) (args : List Int) (trap : Int) : f17 k ((((), ()), ()), ((m, d, l), (), (), (asks, call, args, trap), ()), c, fr, ()) = bif trap == (0 : Int) then some (((decide ((↑(List.length fr) : Int) > (0 : Int)), ()), ()), ()) else some (((false, ()), ()), ()) := by kernel_rfl
theorem s22_eq (k : Nat) (f : Int) (a : List Int) (m : Int) (d : List Int) (l : Fs) (c : List Int) (fr : Fr) (asks : Bool) (call : Int) (args : List Int) (trap : Int) : f22 k ((((), ()), (f, ()), (a, ()), ()), ((m, d, l), (), (), (asks, call, args, trap), ()), c, fr, ()) = bif decide ((0 : Int) ≤ f ∧ f < (↑(List.length l) : Int)) then bif decide ((0 : Int) ≤ IntKind.i64.wrap ((fa l f.toNat).1 + (fa l f.toNat).2.2.1) ∧ IntKind.i64.wrap ((fa l f.toNat).1 + (fa l f.toNat).2.2.1) ≤ IntKind.i64.wrap ((fa l f.toNat).1 + (fa l f.toNat).2.2.1)) && (((IntKind.i64.wrap ((fa l f.toNat).1 + (fa l f.toNat).2.2.1)).toNat * (8 : Nat)).ble (140737488355328 : Nat) && (IntKind.i64.wrap ((fa l f.toNat).1 + (fa l f.toNat).2.2.1)).toNat.ble (1152921504606846976 : Nat)) then bif ((List.length fr + (1 : Nat)) * (64 : Nat)).ble (140737488355328 : Nat) then some ((), ((m, d, l), (), (), (asks, call, args, trap), ()), c, (), (fr ++ [((0 : Int), (0 : Int), ([] : List Int), ([] : List Int))]).set (List.length fr) (f, (0 : Int), List.take (0 : Nat) (List.replicate (IntKind.i64.wrap ((fa l f.toNat).1 + (fa l f.toNat).2.2.1)).toNat (0 : Int)) ++ List.take (a.length.min (List.replicate (IntKind.i64.wrap ((fa l f.toNat).1 + (fa l f.toNat).2.2.1)).toNat (0 : Int)).length) a ++ List.drop ((0 : Nat) + a.length.min (List.replicate (IntKind.i64.wrap ((fa l f.toNat).1 + (fa l f.toNat).2.2.1)).toNat (0 : Int)).length) (List.replicate (IntKind.i64.wrap ((fa l f.toNat).1 + (fa l f.toNat).2.2.1)).toNat (0 : Int)), []), ()) else none else none else none := by kernel_rfl
theorem s24_eq (k : Nat) (m : Int) (d : List Int) (l : Fs) (c : List Int) (fr : Fr) (asks : Bool) (call : Int) (args : List Int) (trap : Int) : f24 k ((((), ()), ()), ((m, d, l), (), (), (asks, call, args, trap), ()), c, fr, ()) = bif decide ((0 : Int) ≤ IntKind.i64.wrap ((↑(List.length fr) : Int) - (1 : Int)) ∧ IntKind.i64.wrap ((↑(List.length fr) : Int) - (1 : Int)) < (↑(List.length fr) : Int)) then some ((((IntKind.i64.wrap ((↑(List.length fr) : Int) - (1 : Int))).toNat, ()), ()), ()) else none := by kernel_rfl
theorem s25_eq (k : Nat) (i : Nat) (n : Int) (fr : Fr) : f25 k (((i, ()), (n, ()), ()), fr, ()) = bif decide (i = i) then bif ((List.length (sf fr i).2.2.2 + [n].length) * (8 : Nat)).ble (140737488355328 : Nat) then bif decide (i = i) then some ((), List.set fr i ((sf fr i).1, (sf fr i).2.1, (sf fr i).2.2.1, (sf fr i).2.2.2 ++ [n]), ()) else none else none else none := by kernel_rfl
theorem s26_eq (k : Nat) (m : Int) (d : List Int) (l : Fs) (c : List Int) (fr : Fr) (asks : Bool) (call : Int) (args : List Int) (trap : Int) : f26 k ((((), ()), ()), ((m, d, l), (), (), (asks, call, args, trap), ()), c, fr, ()) = (f24 k ((((), ()), ()), ((m, d, l), (), (), (asks, call, args, trap), ()), c, fr, ())).bind fun v => bif decide (v.1.1.1 = v.1.1.1) then bif decide ((0 : Int) ≤ (sf fr v.1.1.1).1 ∧ (sf fr v.1.1.1).1 < (↑(List.length l) : Int)) then bif decide (v.1.1.1 = v.1.1.1) then bif decide ((0 : Int) ≤ (sf fr v.1.1.1).2.1 ∧ (sf fr v.1.1.1).2.1 < (↑(List.length (fa l (Int.toNat (sf fr v.1.1.1).1)).2.2.2) : Int)) then bif decide (v.1.1.1 = v.1.1.1) then bif decide (v.1.1.1 = v.1.1.1) then bif decide (v.1.1.1 = v.1.1.1) then (f31 k ((((m, d, l), ()), ((sf fr v.1.1.1).1, ()), (((ca (fa l (Int.toNat (sf fr v.1.1.1).1)).2.2.2 (Int.toNat (sf fr v.1.1.1).2.1)).1, (ca (fa l (Int.toNat (sf fr v.1.1.1).1)).2.2.2 (Int.toNat (sf fr v.1.1.1).2.1)).2), ()), ()), ())).bind fun v_1 => (f32 k (((v.1.1.1, ()), (v_1.1.1.1, ()), ()), List.set fr v.1.1.1 ((sf fr v.1.1.1).1, IntKind.i64.wrap ((sf fr v.1.1.1).2.1 + (1 : Int)), (sf fr v.1.1.1).2.2.1, (sf fr v.1.1.1).2.2.2), ())).bind fun v_2 => bif decide ((ca (fa l (Int.toNat (sf fr v.1.1.1).1)).2.2.2 (Int.toNat (sf fr v.1.1.1).2.1)).1 ≥ (7 : Int)) then bif decide ((ca (fa l (Int.toNat (sf fr v.1.1.1).1)).2.2.2 (Int.toNat (sf fr v.1.1.1).2.1)).1 ≤ (18 : Int)) then bif decide ((0 : Int) ≤ (0 : Int) ∧ (0 : Int) < (↑(List.length v_2.1.1.1) : Int)) then bif decide ((0 : Int) ≤ (1 : Int) ∧ (1 : Int) < (↑(List.length v_2.1.1.1) : Int)) then (f33 k ((((), ()), ((ca (fa l (Int.toNat (sf fr v.1.1.1).1)).2.2.2 (Int.toNat (sf fr v.1.1.1).2.1)).1, ()), (ia v_2.1.1.1 (Int.toNat (0 : Int)), ()), (ia v_2.1.1.1 (Int.toNat (1 : Int)), ()), ()), ((m, d, l), (), (), (asks, call, args, trap), ()), c, v_2.2.1, ())).bind fun v => some ((), ((v.2.1.1.1, v.2.1.1.2.1, v.2.1.1.2.2), (), (), (v.2.1.2.2.2.1.1, v.2.1.2.2.2.1.2.1, v.2.1.2.2.2.1.2.2.1, v.2.1.2.2.2.1.2.2.2), ()), v.2.2.1, (), List.take (List.length v.2.2.2.1) v.2.2.2.1, ()) else none else none else bif decide ((ca (fa l (Int.toNat (sf fr v.1.1.1).1)).2.2.2 (Int.toNat (sf fr v.1.1.1).2.1)).1 ≥ (20 : Int)) then bif decide ((ca (fa l (Int.toNat (sf fr v.1.1.1).1)).2.2.2 (Int.toNat (sf fr v.1.1.1).2.1)).1 ≤ (23 : Int)) then (f34 k ((((), ()), ((ca (fa l (Int.toNat (sf fr v.1.1.1).1)).2.2.2 (Int.toNat (sf fr v.1.1.1).2.1)).1, ()), (v_2.1.1.1, ()), ()), ((m, d, l), (), (), (asks, call, args, trap), ()), c, v_2.2.1, ())).bind fun v => some ((), ((v.2.1.1.1, v.2.1.1.2.1, v.2.1.1.2.2), (), (), (v.2.1.2.2.2.1.1, v.2.1.2.2.2.1.2.1, v.2.1.2.2.2.1.2.2.1, v.2.1.2.2.2.1.2.2.2), ()), v.2.2.1, (), List.take (List.length v.2.2.2.1) v.2.2.2.1, ()) else bif decide ((ca (fa l (Int.toNat (sf fr v.1.1.1).1)).2.2.2 (Int.toNat (sf fr v.1.1.1).2.1)).1 ≥ (24 : Int)) then (f35 k ((((), ()), (((ca (fa l (Int.toNat (sf fr v.1.1.1).1)).2.2.2 (Int.toNat (sf fr v.1.1.1).2.1)).1, (ca (fa l (Int.toNat (sf fr v.1.1.1).1)).2.2.2 (Int.toNat (sf fr v.1.1.1).2.1)).2), ()), (v_2.1.1.1, ()), ()), ((m, d, l), (), (), (asks, call, args, trap), ()), c, v_2.2.1, ())).bind fun v => some ((), ((v.2.1.1.1, v.2.1.1.2.1, v.2.1.1.2.2), (), (), (v.2.1.2.2.2.1.1, v.2.1.2.2.2.1.2.1, v.2.1.2.2.2.1.2.2.1, v.2.1.2.2.2.1.2.2.2), ()), v.2.2.1, (), v.2.2.2.2.1, ()) else (f36 k ((((), ()), (((ca (fa l (Int.toNat (sf fr v.1.1.1).1)).2.2.2 (Int.toNat (sf fr v.1.1.1).2.1)).1, (ca (fa l (Int.toNat (sf fr v.1.1.1).1)).2.2.2 (Int.toNat (sf fr v.1.1.1).2.1)).2), ()), (v_2.1.1.1, ()), ()), ((m, d, l), (), (), (asks, call, args, trap), ()), c, v_2.2.1, ())).bind fun v => some ((), ((v.2.1.1.1, v.2.1.1.2.1, v.2.1.1.2.2), (), (), (v.2.1.2.2.2.1.1, v.2.1.2.2.2.1.2.1, v.2.1.2.2.2.1.2.2.1, v.2.1.2.2.2.1.2.2.2), ()), v.2.2.1, (), List.take (List.length v.2.2.2.1) v.2.2.2.1, ()) else bif decide ((ca (fa l (Int.toNat (sf fr v.1.1.1).1)).2.2.2 (Int.toNat (sf fr v.1.1.1).2.1)).1 ≥ (24 : Int)) then (f35 k ((((), ()), (((ca (fa l (Int.toNat (sf fr v.1.1.1).1)).2.2.2 (Int.toNat (sf fr v.1.1.1).2.1)).1, (ca (fa l (Int.toNat (sf fr v.1.1.1).1)).2.2.2 (Int.toNat (sf fr v.1.1.1).2.1)).2), ()), (v_2.1.1.1, ()), ()), ((m, d, l), (), (), (asks, call, args, trap), ()), c, v_2.2.1, ())).bind fun v => some ((), ((v.2.1.1.1, v.2.1.1.2.1, v.2.1.1.2.2), (), (), (v.2.1.2.2.2.1.1, v.2.1.2.2.2.1.2.1, v.2.1.2.2.2.1.2.2.1, v.2.1.2.2.2.1.2.2.2), ()), v.2.2.1, (), v.2.2.2.2.1, ()) else (f36 k ((((), ()), (((ca (fa l (Int.toNat (sf fr v.1.1.1).1)).2.2.2 (Int.toNat (sf fr v.1.1.1).2.1)).1, (ca (fa l (Int.toNat (sf fr v.1.1.1).1)).2.2.2 (Int.toNat (sf fr v.1.1.1).2.1)).2), ()), (v_2.1.1.1, ()), ()), ((m, d, l), (), (), (asks, call, args, trap), ()), c, v_2.2.1, ())).bind fun v => some ((), ((v.2.1.1.1, v.2.1.1.2.1, v.2.1.1.2.2), (), (), (v.2.1.2.2.2.1.1, v.2.1.2.2.2.1.2.1, v.2.1.2.2.2.1.2.2.1, v.2.1.2.2.2.1.2.2.2), ()), v.2.2.1, (), List.take (List.length v.2.2.2.1) v.2.2.2.1, ()) else bif decide ((ca (fa l (Int.toNat (sf fr v.1.1.1).1)).2.2.2 (Int.toNat (sf fr v.1.1.1).2.1)).1 ≥ (20 : Int)) then bif decide ((ca (fa l (Int.toNat (sf fr v.1.1.1).1)).2.2.2 (Int.toNat (sf fr v.1.1.1).2.1)).1 ≤ (23 : Int)) then (f34 k ((((), ()), ((ca (fa l (Int.toNat (sf fr v.1.1.1).1)).2.2.2 (Int.toNat (sf fr v.1.1.1).2.1)).1, ()), (v_2.1.1.1, ()), ()), ((m, d, l), (), (), (asks, call, args, trap), ()), c, v_2.2.1, ())).bind fun v => some ((), ((v.2.1.1.1, v.2.1.1.2.1, v.2.1.1.2.2), (), (), (v.2.1.2.2.2.1.1, v.2.1.2.2.2.1.2.1, v.2.1.2.2.2.1.2.2.1, v.2.1.2.2.2.1.2.2.2), ()), v.2.2.1, (), List.take (List.length v.2.2.2.1) v.2.2.2.1, ()) else bif decide ((ca (fa l (Int.toNat (sf fr v.1.1.1).1)).2.2.2 (Int.toNat (sf fr v.1.1.1).2.1)).1 ≥ (24 : Int)) then (f35 k ((((), ()), (((ca (fa l (Int.toNat (sf fr v.1.1.1).1)).2.2.2 (Int.toNat (sf fr v.1.1.1).2.1)).1, (ca (fa l (Int.toNat (sf fr v.1.1.1).1)).2.2.2 (Int.toNat (sf fr v.1.1.1).2.1)).2), ()), (v_2.1.1.1, ()), ()), ((m, d, l), (), (), (asks, call, args, trap), ()), c, v_2.2.1, ())).bind fun v => some ((), ((v.2.1.1.1, v.2.1.1.2.1, v.2.1.1.2.2), (), (), (v.2.1.2.2.2.1.1, v.2.1.2.2.2.1.2.1, v.2.1.2.2.2.1.2.2.1, v.2.1.2.2.2.1.2.2.2), ()), v.2.2.1, (), v.2.2.2.2.1, ()) else (f36 k ((((), ()), (((ca (fa l (Int.toNat (sf fr v.1.1.1).1)).2.2.2 (Int.toNat (sf fr v.1.1.1).2.1)).1, (ca (fa l (Int.toNat (sf fr v.1.1.1).1)).2.2.2 (Int.toNat (sf fr v.1.1.1).2.1)).2), ()), (v_2.1.1.1, ()), ()), ((m, d, l), (), (), (asks, call, args, trap), ()), c, v_2.2.1, ())).bind fun v => some ((), ((v.2.1.1.1, v.2.1.1.2.1, v.2.1.1.2.2), (), (), (v.2.1.2.2.2.1.1, v.2.1.2.2.2.1.2.1, v.2.1.2.2.2.1.2.2.1, v.2.1.2.2.2.1.2.2.2), ()), v.2.2.1, (), List.take (List.length v.2.2.2.1) v.2.2.2.1, ()) else bif decide ((ca (fa l (Int.toNat (sf fr v.1.1.1).1)).2.2.2 (Int.toNat (sf fr v.1.1.1).2.1)).1 ≥ (24 : Int)) then (f35 k ((((), ()), (((ca (fa l (Int.toNat (sf fr v.1.1.1).1)).2.2.2 (Int.toNat (sf fr v.1.1.1).2.1)).1, (ca (fa l (Int.toNat (sf fr v.1.1.1).1)).2.2.2 (Int.toNat (sf fr v.1.1.1).2.1)).2), ()), (v_2.1.1.1, ()), ()), ((m, d, l), (), (), (asks, call, args, trap), ()), c, v_2.2.1, ())).bind fun v => some ((), ((v.2.1.1.1, v.2.1.1.2.1, v.2.1.1.2.2), (), (), (v.2.1.2.2.2.1.1, v.2.1.2.2.2.1.2.1, v.2.1.2.2.2.1.2.2.1, v.2.1.2.2.2.1.2.2.2), ()), v.2.2.1, (), v.2.2.2.2.1, ()) else (f36 k ((((), ()), (((ca (fa l (Int.toNat (sf fr v.1.1.1).1)).2.2.2 (Int.toNat (sf fr v.1.1.1).2.1)).1, (ca (fa l (Int.toNat (sf fr v.1.1.1).1)).2.2.2 (Int.toNat (sf fr v.1.1.1).2.1)).2), ()), (v_2.1.1.1, ()), ()), ((m, d, l), (), (), (asks, call, args, trap), ()), c, v_2.2.1, ())).bind fun v => some ((), ((v.2.1.1.1, v.2.1.1.2.1, v.2.1.1.2.2), (), (), (v.2.1.2.2.2.1.1, v.2.1.2.2.2.1.2.1, v.2.1.2.2.2.1.2.2.1, v.2.1.2.2.2.1.2.2.2), ()), v.2.2.1, (), List.take (List.length v.2.2.2.1) v.2.2.2.1, ()) else none else none else none else none else none else none else none := by kernel_rfl
theorem s32_eq (k : Nat) (i : Nat) (n : Int) (fr : Fr) : f32 k (((i, ()), (n, ()), ()), fr, ()) = bif decide (i = i) then bif decide (i = i) then bif decide ((0 : Int) ≤ IntKind.i64.wrap ((↑(List.length (sf fr i).2.2.2) : Int) - n) ∧ IntKind.i64.wrap ((↑(List.length (sf fr i).2.2.2) : Int) - n) ≤ (↑(List.length (sf fr i).2.2.2) : Int) ∧ (↑(List.length (sf fr i).2.2.2) : Int) ≤ (↑(List.length (sf fr i).2.2.2) : Int) ∧ (↑(List.length (sf fr i).2.2.2) : Int) ≤ (↑(List.length (sf fr i).2.2.2) : Int)) then Option.bind (bif ((([] : List Int).length + (List.take ((↑(List.length (sf fr i).2.2.2) : Int).toNat - (IntKind.i64.wrap ((↑(List.length (sf fr i).2.2.2) : Int) - n)).toNat) (List.drop (IntKind.i64.wrap ((↑(List.length (sf fr i).2.2.2) : Int) - n)).toNat (sf fr i).2.2.2)).length) * (8 : Nat)).ble (140737488355328 : Nat) then some ((((), ()), ()), List.take ((↑(List.length (sf fr i).2.2.2) : Int).toNat - (IntKind.i64.wrap ((↑(List.length (sf fr i).2.2.2) : Int) - n)).toNat) (List.drop (IntKind.i64.wrap ((↑(List.length (sf fr i).2.2.2) : Int) - n)).toNat (sf fr i).2.2.2), ()) else none) fun v => bif decide (i = i) then bif decide ((0 : Int) ≤ (0 : Int) ∧ (0 : Int) ≤ IntKind.i64.wrap ((↑(List.length (sf fr i).2.2.2) : Int) - n) ∧ IntKind.i64.wrap ((↑(List.length (sf fr i).2.2.2) : Int) - n) ≤ IntKind.i64.wrap ((↑(List.length (sf fr i).2.2.2) : Int) - n) ∧ IntKind.i64.wrap ((↑(List.length (sf fr i).2.2.2) : Int) - n) ≤ (↑(List.length (sf fr i).2.2.2) : Int)) then bif decide (i = i) then some (((v.2.1, ()), ()), List.set fr i ((sf fr i).1, (sf fr i).2.1, (sf fr i).2.2.1, List.take ((IntKind.i64.wrap ((↑(List.length (sf fr i).2.2.2) : Int) - n)).toNat - Int.toNat (0 : Int)) (sf fr i).2.2.2), ()) else none else none else none else none else none else none := by kernel_rfl
theorem s35_eq (k : Nat) (o : Int) (n : Int) (v : List Int) (m : Int) (d : List Int) (l : Fs) (c : List Int) (fr : Fr) (asks : Bool) (call : Int) (args : List Int) (trap : Int) : f35 k ((((), ()), ((o, n), ()), (v, ()), ()), ((m, d, l), (), (), (asks, call, args, trap), ()), c, fr, ()) = (f24 k ((((), ()), ()), ((m, d, l), (), (), (asks, call, args, trap), ()), c, fr, ())).bind fun v_1 => bif o == (25 : Int) then bif decide ((0 : Int) ≤ (0 : Int) ∧ (0 : Int) < (↑v.length : Int)) then bif ia v (Int.toNat (0 : Int)) == (0 : Int) then some ((), ((m, d, l), (), (), (asks, call, args, trap), ()), c, (), List.take (List.length fr) fr, ()) else bif decide (v_1.1.1.1 = v_1.1.1.1) then some ((), ((m, d, l), (), (), (asks, call, args, trap), ()), c, (), List.take (List.set fr v_1.1.1.1 ((sf fr v_1.1.1.1).1, n, (sf fr v_1.1.1.1).2.2.1, (sf fr v_1.1.1.1).2.2.2)).length (List.set fr v_1.1.1.1 ((sf fr v_1.1.1.1).1, n, (sf fr v_1.1.1.1).2.2.1, (sf fr v_1.1.1.1).2.2.2)), ()) else none else none else bif o == (24 : Int) then bif decide (v_1.1.1.1 = v_1.1.1.1) then some ((), ((m, d, l), (), (), (asks, call, args, trap), ()), c, (), List.take (List.set fr v_1.1.1.1 ((sf fr v_1.1.1.1).1, n, (sf fr v_1.1.1.1).2.2.1, (sf fr v_1.1.1.1).2.2.2)).length (List.set fr v_1.1.1.1 ((sf fr v_1.1.1.1).1, n, (sf fr v_1.1.1.1).2.2.1, (sf fr v_1.1.1.1).2.2.2)), ()) else none else bif o == (26 : Int) then bif (↑(List.length fr) : Int) == (16 : Int) then some ((), ((m, d, l), (), (), (asks, call, args, (3 : Int)), ()), c, (), List.take (List.length fr) fr, ()) else (f22 k ((((), ()), (n, ()), (v, ()), ()), ((m, d, l), (), (), (asks, call, args, trap), ()), c, fr, ())).bind fun v => some ((), ((v.2.1.1.1, v.2.1.1.2.1, v.2.1.1.2.2), (), (), (v.2.1.2.2.2.1.1, v.2.1.2.2.2.1.2.1, v.2.1.2.2.2.1.2.2.1, v.2.1.2.2.2.1.2.2.2), ()), v.2.2.1, (), v.2.2.2.2.1, ()) else bif o == (27 : Int) then bif decide ((0 : Int) ≤ (0 : Int) ∧ (0 : Int) ≤ IntKind.i64.wrap ((↑(List.length fr) : Int) - (1 : Int)) ∧ IntKind.i64.wrap ((↑(List.length fr) : Int) - (1 : Int)) ≤ IntKind.i64.wrap ((↑(List.length fr) : Int) - (1 : Int)) ∧ IntKind.i64.wrap ((↑(List.length fr) : Int) - (1 : Int)) ≤ (↑(List.length fr) : Int)) then bif decide ((↑((IntKind.i64.wrap ((↑(List.length fr) : Int) - (1 : Int))).toNat - Int.toNat (0 : Int)) : Int) > (0 : Int)) then (f24 k ((((), ()), ()), ((m, d, l), (), (), (asks, call, args, trap), ()), c, List.take ((IntKind.i64.wrap ((↑(List.length fr) : Int) - (1 : Int))).toNat - Int.toNat (0 : Int)) fr, ())).bind fun v_2 => (f24 k ((((), ()), ()), ((m, d, l), (), (), (asks, call, args, trap), ()), c, List.take ((IntKind.i64.wrap ((↑(List.length fr) : Int) - (1 : Int))).toNat - Int.toNat (0 : Int)) fr, ())).bind fun v_3 => bif decide (v_3.1.1.1 = v_3.1.1.1) then bif ((List.length (sf (List.take ((IntKind.i64.wrap ((↑(List.length fr) : Int) - (1 : Int))).toNat - Int.toNat (0 : Int)) fr) v_3.1.1.1).2.2.2 + v.length) * (8 : Nat)).ble (140737488355328 : Nat) then bif decide (v_3.1.1.1 = v_2.1.1.1) then some ((), ((m, d, l), (), (), (asks, call, args, trap), ()), c, (), (List.take ((IntKind.i64.wrap ((↑(List.length fr) : Int) - (1 : Int))).toNat - Int.toNat (0 : Int)) fr).set v_3.1.1.1 ((sf (List.take ((IntKind.i64.wrap ((↑(List.length fr) : Int) - (1 : Int))).toNat - Int.toNat (0 : Int)) fr) v_3.1.1.1).1, (sf (List.take ((IntKind.i64.wrap ((↑(List.length fr) : Int) - (1 : Int))).toNat - Int.toNat (0 : Int)) fr) v_3.1.1.1).2.1, (sf (List.take ((IntKind.i64.wrap ((↑(List.length fr) : Int) - (1 : Int))).toNat - Int.toNat (0 : Int)) fr) v_3.1.1.1).2.2.1, (sf (List.take ((IntKind.i64.wrap ((↑(List.length fr) : Int) - (1 : Int))).toNat - Int.toNat (0 : Int)) fr) v_3.1.1.1).2.2.2 ++ v), ()) else none else none else none else some ((), ((m, d, l), (), (), (asks, call, args, trap), ()), c, (), List.take ((IntKind.i64.wrap ((↑(List.length fr) : Int) - (1 : Int))).toNat - Int.toNat (0 : Int)) fr, ()) else none else bif o == (28 : Int) then some ((), ((m, d, l), (), (), (true, n, v, trap), ()), c, (), List.take (List.length fr) fr, ()) else bif o == (29 : Int) then some ((), ((m, d, l), (), (), (asks, call, args, (4 : Int)), ()), c, (), List.take (List.length fr) fr, ()) else some ((), ((m, d, l), (), (), (asks, call, args, trap), ()), c, (), List.take (List.length fr) fr, ()) := by kernel_rfl
theorem s36_eq (k : Nat) (o : Int) (n : Int) (v : List Int) (m : Int) (d : List Int) (l : Fs) (c : List Int) (fr : Fr) (asks : Bool) (call : Int) (args : List Int) (trap : Int) : f36 k ((((), ()), ((o, n), ()), (v, ()), ()), ((m, d, l), (), (), (asks, call, args, trap), ()), c, fr, ()) = (f24 k ((((), ()), ()), ((m, d, l), (), (), (asks, call, args, trap), ()), c, fr, ())).bind fun v_1 => bif o == (1 : Int) then (f25 k (((v_1.1.1.1, ()), (n, ()), ()), fr, ())).bind fun v => some ((), ((m, d, l), (), (), (asks, call, args, trap), ()), c, v.2.1, ()) else bif o == (3 : Int) then bif decide ((0 : Int) ≤ (0 : Int) ∧ (0 : Int) < (↑v.length : Int)) then (f25 k (((v_1.1.1.1, ()), (ia v (Int.toNat (0 : Int)), ()), ()), fr, ())).bind fun v_2 => bif decide ((0 : Int) ≤ (0 : Int) ∧ (0 : Int) < (↑v.length : Int)) then (f25 k (((v_1.1.1.1, ()), (ia v (Int.toNat (0 : Int)), ()), ()), v_2.2.1, ())).bind fun v => some ((), ((m, d, l), (), (), (asks, call, args, trap), ()), c, v.2.1, ()) else none else none else bif o == (4 : Int) then bif decide ((0 : Int) ≤ (1 : Int) ∧ (1 : Int) < (↑v.length : Int)) then (f25 k (((v_1.1.1.1, ()), (ia v (Int.toNat (1 : Int)), ()), ()), fr, ())).bind fun v_2 => bif decide ((0 : Int) ≤ (0 : Int) ∧ (0 : Int) < (↑v.length : Int)) then (f25 k (((v_1.1.1.1, ()), (ia v (Int.toNat (0 : Int)), ()), ()), v_2.2.1, ())).bind fun v => some ((), ((m, d, l), (), (), (asks, call, args, trap), ()), c, v.2.1, ()) else none else none else bif o == (5 : Int) then bif decide (v_1.1.1.1 = v_1.1.1.1) then bif decide ((0 : Int) ≤ n ∧ n < (↑(List.length (sf fr v_1.1.1.1).2.2.1) : Int)) then (f25 k (((v_1.1.1.1, ()), (ia (sf fr v_1.1.1.1).2.2.1 n.toNat, ()), ()), List.set fr v_1.1.1.1 ((sf fr v_1.1.1.1).1, (sf fr v_1.1.1.1).2.1, (sf fr v_1.1.1.1).2.2.1, (sf fr v_1.1.1.1).2.2.2), ())).bind fun v => some ((), ((m, d, l), (), (), (asks, call, args, trap), ()), c, v.2.1, ()) else none else none else bif o == (6 : Int) then bif decide (v_1.1.1.1 = v_1.1.1.1) then bif decide ((0 : Int) ≤ (0 : Int) ∧ (0 : Int) < (↑v.length : Int)) then bif decide ((0 : Int) ≤ n ∧ n < (↑(List.length (sf fr v_1.1.1.1).2.2.1) : Int)) then some ((), ((m, d, l), (), (), (asks, call, args, trap), ()), c, List.set fr v_1.1.1.1 ((sf fr v_1.1.1.1).1, (sf fr v_1.1.1.1).2.1, List.set (sf fr v_1.1.1.1).2.2.1 n.toNat (ia v (Int.toNat (0 : Int))), (sf fr v_1.1.1.1).2.2.2), ()) else none else none else none else bif o == (19 : Int) then bif decide ((0 : Int) ≤ (0 : Int) ∧ (0 : Int) < (↑v.length : Int)) then (f25 k (((v_1.1.1.1, ()), (bif ia v (Int.toNat (0 : Int)) == (0 : Int) then (1 : Int) else (0 : Int), ()), ()), fr, ())).bind fun v => some ((), ((m, d, l), (), (), (asks, call, args, trap), ()), c, v.2.1, ()) else none else some ((), ((m, d, l), (), (), (asks, call, args, trap), ()), c, fr, ()) := by kernel_rfl
theorem b7_eq (k : Nat) (x : Int) (y : Int) (m : Int) (d : List Int) (l : Fs) (c : List Int) (fr : Fr) (asks : Bool) (call : Int) (args : List Int) (trap : Int) : f33 k ((((), ()), ((7 : Int), ()), (x, ()), (y, ()), ()), ((m, d, l), (), (), (asks, call, args, trap), ()), c, fr, ()) = (f24 k ((((), ()), ()), ((m, d, l), (), (), (asks, call, args, trap), ()), c, fr, ())).bind fun v => (f25 k (((v.1.1.1, ()), (IntKind.i64.wrap (x + y), ()), ()), fr, ())).bind fun v => some ((), ((m, d, l), (), (), (asks, call, args, trap), ()), c, v.2.1, ()) := by kernel_rfl
theorem b8_eq (k : Nat) (x : Int) (y : Int) (m : Int) (d : List Int) (l : Fs) (c : List Int) (fr : Fr) (asks : Bool) (call : Int) (args : List Int) (trap : Int) : f33 k ((((), ()), ((8 : Int), ()), (x, ()), (y, ()), ()), ((m, d, l), (), (), (asks, call, args, trap), ()), c, fr, ()) = (f24 k ((((), ()), ()), ((m, d, l), (), (), (asks, call, args, trap), ()), c, fr, ())).bind fun v => (f25 k (((v.1.1.1, ()), (IntKind.i64.wrap (x - y), ()), ()), fr, ())).bind fun v => some ((), ((m, d, l), (), (), (asks, call, args, trap), ()), c, v.2.1, ()) := by kernel_rfl
theorem b9_eq (k : Nat) (x : Int) (y : Int) (m : Int) (d : List Int) (l : Fs) (c : List Int) (fr : Fr) (asks : Bool) (call : Int) (args : List Int) (trap : Int) : f33 k ((((), ()), ((9 : Int), ()), (x, ()), (y, ()), ()), ((m, d, l), (), (), (asks, call, args, trap), ()), c, fr, ()) = (f24 k ((((), ()), ()), ((m, d, l), (), (), (asks, call, args, trap), ()), c, fr, ())).bind fun v => (f25 k (((v.1.1.1, ()), (IntKind.i64.wrap (x * y), ()), ()), fr, ())).bind fun v => some ((), ((m, d, l), (), (), (asks, call, args, trap), ()), c, v.2.1, ()) := by kernel_rfl
theorem b10_eq (k : Nat) (x : Int) (y : Int) (m : Int) (d : List Int) (l : Fs) (c : List Int) (fr : Fr) (asks : Bool) (call : Int) (args : List Int) (trap : Int) : f33 k ((((), ()), ((10 : Int), ()), (x, ()), (y, ()), ()), ((m, d, l), (), (), (asks, call, args, trap), ()), c, fr, ()) = bif y == (0 : Int) then some ((), ((m, d, l), (), (), (asks, call, args, (1 : Int)), ()), c, fr, ()) else (f24 k ((((), ()), ()), ((m, d, l), (), (), (asks, call, args, trap), ()), c, fr, ())).bind fun v => bif decide (y ≠ (0 : Int)) then (f25 k (((v.1.1.1, ()), (IntKind.i64.wrap (x.tdiv y), ()), ()), fr, ())).bind fun v => some ((), ((m, d, l), (), (), (asks, call, args, trap), ()), c, v.2.1, ()) else none := by kernel_rfl
theorem b11_eq (k : Nat) (x : Int) (y : Int) (m : Int) (d : List Int) (l : Fs) (c : List Int) (fr : Fr) (asks : Bool) (call : Int) (args : List Int) (trap : Int) : f33 k ((((), ()), ((11 : Int), ()), (x, ()), (y, ()), ()), ((m, d, l), (), (), (asks, call, args, trap), ()), c, fr, ()) = bif y == (0 : Int) then some ((), ((m, d, l), (), (), (asks, call, args, (1 : Int)), ()), c, fr, ()) else (f24 k ((((), ()), ()), ((m, d, l), (), (), (asks, call, args, trap), ()), c, fr, ())).bind fun v => bif decide (y ≠ (0 : Int)) then (f25 k (((v.1.1.1, ()), (x.tmod y, ()), ()), fr, ())).bind fun v => some ((), ((m, d, l), (), (), (asks, call, args, trap), ()), c, v.2.1, ()) else none := by kernel_rfl
theorem b12_eq (k : Nat) (x : Int) (y : Int) (m : Int) (d : List Int) (l : Fs) (c : List Int) (fr : Fr) (asks : Bool) (call : Int) (args : List Int) (trap : Int) : f33 k ((((), ()), ((12 : Int), ()), (x, ()), (y, ()), ()), ((m, d, l), (), (), (asks, call, args, trap), ()), c, fr, ()) = (f24 k ((((), ()), ()), ((m, d, l), (), (), (asks, call, args, trap), ()), c, fr, ())).bind fun v => (f25 k (((v.1.1.1, ()), (IntKind.i64.wrap (↑(BitVec.ofInt IntKind.i64.bits x &&& BitVec.ofInt IntKind.i64.bits y).toNat : Int), ()), ()), fr, ())).bind fun v => some ((), ((m, d, l), (), (), (asks, call, args, trap), ()), c, v.2.1, ()) := by kernel_rfl
theorem b13_eq (k : Nat) (x : Int) (y : Int) (m : Int) (d : List Int) (l : Fs) (c : List Int) (fr : Fr) (asks : Bool) (call : Int) (args : List Int) (trap : Int) : f33 k ((((), ()), ((13 : Int), ()), (x, ()), (y, ()), ()), ((m, d, l), (), (), (asks, call, args, trap), ()), c, fr, ()) = (f24 k ((((), ()), ()), ((m, d, l), (), (), (asks, call, args, trap), ()), c, fr, ())).bind fun v => (f25 k (((v.1.1.1, ()), (IntKind.i64.wrap (↑(BitVec.ofInt IntKind.i64.bits x ||| BitVec.ofInt IntKind.i64.bits y).toNat : Int), ()), ()), fr, ())).bind fun v => some ((), ((m, d, l), (), (), (asks, call, args, trap), ()), c, v.2.1, ()) := by kernel_rfl
theorem b14_eq (k : Nat) (x : Int) (y : Int) (m : Int) (d : List Int) (l : Fs) (c : List Int) (fr : Fr) (asks : Bool) (call : Int) (args : List Int) (trap : Int) : f33 k ((((), ()), ((14 : Int), ()), (x, ()), (y, ()), ()), ((m, d, l), (), (), (asks, call, args, trap), ()), c, fr, ()) = (f24 k ((((), ()), ()), ((m, d, l), (), (), (asks, call, args, trap), ()), c, fr, ())).bind fun v => (f25 k (((v.1.1.1, ()), (IntKind.i64.wrap (↑(BitVec.ofInt IntKind.i64.bits x ^^^ BitVec.ofInt IntKind.i64.bits y).toNat : Int), ()), ()), fr, ())).bind fun v => some ((), ((m, d, l), (), (), (asks, call, args, trap), ()), c, v.2.1, ()) := by kernel_rfl
theorem b15_eq (k : Nat) (x : Int) (y : Int) (m : Int) (d : List Int) (l : Fs) (c : List Int) (fr : Fr) (asks : Bool) (call : Int) (args : List Int) (trap : Int) : f33 k ((((), ()), ((15 : Int), ()), (x, ()), (y, ()), ()), ((m, d, l), (), (), (asks, call, args, trap), ()), c, fr, ()) = (f24 k ((((), ()), ()), ((m, d, l), (), (), (asks, call, args, trap), ()), c, fr, ())).bind fun v => bif decide ((0 : Int) ≤ IntKind.u64.wrap (IntKind.i64.wrap (↑(BitVec.ofInt IntKind.i64.bits y &&& BitVec.ofInt IntKind.i64.bits (63 : Int)).toNat : Int))) then (f25 k (((v.1.1.1, ()), (IntKind.i64.wrap (x * (2 : Int) ^ min (IntKind.u64.wrap (IntKind.i64.wrap (↑(BitVec.ofInt IntKind.i64.bits y &&& BitVec.ofInt IntKind.i64.bits (63 : Int)).toNat : Int))).toNat IntKind.i64.bits), ()), ()), fr, ())).bind fun v => some ((), ((m, d, l), (), (), (asks, call, args, trap), ()), c, v.2.1, ()) else none := by kernel_rfl
theorem b16_eq (k : Nat) (x : Int) (y : Int) (m : Int) (d : List Int) (l : Fs) (c : List Int) (fr : Fr) (asks : Bool) (call : Int) (args : List Int) (trap : Int) : f33 k ((((), ()), ((16 : Int), ()), (x, ()), (y, ()), ()), ((m, d, l), (), (), (asks, call, args, trap), ()), c, fr, ()) = (f24 k ((((), ()), ()), ((m, d, l), (), (), (asks, call, args, trap), ()), c, fr, ())).bind fun v => bif decide ((0 : Int) ≤ IntKind.u64.wrap (IntKind.i64.wrap (↑(BitVec.ofInt IntKind.i64.bits y &&& BitVec.ofInt IntKind.i64.bits (63 : Int)).toNat : Int))) then (f25 k (((v.1.1.1, ()), (x.fdiv ((2 : Int) ^ min (IntKind.u64.wrap (IntKind.i64.wrap (↑(BitVec.ofInt IntKind.i64.bits y &&& BitVec.ofInt IntKind.i64.bits (63 : Int)).toNat : Int))).toNat IntKind.i64.bits), ()), ()), fr, ())).bind fun v => some ((), ((m, d, l), (), (), (asks, call, args, trap), ()), c, v.2.1, ()) else none := by kernel_rfl
theorem b17_eq (k : Nat) (x : Int) (y : Int) (m : Int) (d : List Int) (l : Fs) (c : List Int) (fr : Fr) (asks : Bool) (call : Int) (args : List Int) (trap : Int) : f33 k ((((), ()), ((17 : Int), ()), (x, ()), (y, ()), ()), ((m, d, l), (), (), (asks, call, args, trap), ()), c, fr, ()) = (f24 k ((((), ()), ()), ((m, d, l), (), (), (asks, call, args, trap), ()), c, fr, ())).bind fun v => (f25 k (((v.1.1.1, ()), (bif x == y then (1 : Int) else (0 : Int), ()), ()), fr, ())).bind fun v => some ((), ((m, d, l), (), (), (asks, call, args, trap), ()), c, v.2.1, ()) := by kernel_rfl
theorem b18_eq (k : Nat) (x : Int) (y : Int) (m : Int) (d : List Int) (l : Fs) (c : List Int) (fr : Fr) (asks : Bool) (call : Int) (args : List Int) (trap : Int) : f33 k ((((), ()), ((18 : Int), ()), (x, ()), (y, ()), ()), ((m, d, l), (), (), (asks, call, args, trap), ()), c, fr, ()) = (f24 k ((((), ()), ()), ((m, d, l), (), (), (asks, call, args, trap), ()), c, fr, ())).bind fun v => (f25 k (((v.1.1.1, ()), (bif decide (x < y) then (1 : Int) else (0 : Int), ()), ()), fr, ())).bind fun v => some ((), ((m, d, l), (), (), (asks, call, args, trap), ()), c, v.2.1, ()) := by kernel_rfl

/-! A sound machine's step comes to a sound machine -/
abbrev Frm : Type := Int × Int × List Int × List Int
theorem sf_last (rest : Fr) (F : Frm) : sf (rest ++ [F]) rest.length = F := by
  show (rest ++ [F]).getD rest.length _ = F
  rw [List.getD_eq_getElem?_getD, List.getElem?_append_right (Nat.le_refl _)]; simp
theorem sf_front (rest : Fr) (F : Frm) {i : Nat} (h : i < rest.length) : sf (rest ++ [F]) i = sf rest i := by
  show (rest ++ [F]).getD i _ = rest.getD i _
  rw [List.getD_eq_getElem?_getD, List.getD_eq_getElem?_getD, List.getElem?_append_left h]
theorem set_last (rest : Fr) (F G : Frm) : List.set (rest ++ [F]) rest.length G = rest ++ [G] := by
  rw [List.set_append_right _ _ (Nat.le_refl _), Nat.sub_self]; rfl
theorem idx_last (rest : Fr) (F : Frm) (h : rest.length ≤ 100) : IntKind.i64.wrap ((((rest ++ [F]).length : Nat) : Int) - 1) = (rest.length : Int) := by
  rw [List.length_append, List.length_singleton, wrapId (by omega) (by omega)]; omega
theorem top_of (K : Nat) (m : Int) (d : List Int) (l : Fs) (asks : Bool) (call : Int) (args : List Int) (trap : Int) (c : List Int) (rest : Fr) (F : Frm) (h : rest.length ≤ 100) :
    f24 K ((((), ()), ()), MS m d l asks call args trap, c, rest ++ [F], ()) = some (((rest.length, ()), ()), ()) := by
  refine (s24_eq K m d l c (rest ++ [F]) asks call args trap).trans ?_
  rw [idx_last rest F h, cpos (by rw [List.length_append, List.length_singleton]; omega), Int.toNat_natCast]
theorem push_of (K : Nat) (rest : Fr) (f a v : Int) (lo s : List Int) (hs : s.length ≤ 1000) :
    f25 K (((rest.length, ()), (v, ()), ()), rest ++ [(f, a, lo, s)], ()) = some ((), rest ++ [(f, a, lo, s ++ [v])], ()) := by
  refine (s25_eq K rest.length v (rest ++ [(f, a, lo, s)])).trans ?_
  rw [sf_last, cpos rfl, blt (by simp only [List.length_cons, List.length_nil]; omega), cpos rfl, set_last]
theorem take_of (K : Nat) (rest : Fr) (f a T : Int) (lo s : List Int) (hs : s.length ≤ 1000) (hT : 0 ≤ T ∧ T ≤ (s.length : Int)) :
    f32 K (((rest.length, ()), (T, ()), ()), rest ++ [(f, a, lo, s)], ()) = some (((s.drop (s.length - T.toNat), ()), ()), rest ++ [(f, a, lo, s.take (s.length - T.toNat))], ()) := by
  refine (s32_eq K rest.length T (rest ++ [(f, a, lo, s)])).trans ?_
  rw [sf_last]
  simp only [decide_true, cond_true]
  rw [wrapId (n := (s.length : Int) - T) (by omega) (by omega), cpos (by omega), blt (by simp only [List.length_nil, List.length_take, List.length_drop]; omega), Option.bind_some]
  rw [cpos (by omega), set_last, Int.toNat_natCast, Int.toNat_zero, Nat.sub_zero, show ((s.length : Int) - T).toNat = s.length - T.toNat by omega, List.take_of_length_le (by rw [List.length_drop]; omega)]

theorem bin_of (K : Nat) (o : Int) (ho : 7 ≤ o ∧ o ≤ 18) (x y m : Int) (d : List Int) (l : Fs) (call : Int) (args c : List Int) (rest : Fr) (f a : Int) (lo s : List Int) (hr : rest.length ≤ 100) (hs : s.length ≤ 1000) :
    f33 K ((((), ()), (o, ()), (x, ()), (y, ()), ()), MS m d l false call args 0, c, rest ++ [(f, a, lo, s)], ()) = R34 m d l call args 1 c (rest ++ [(f, a, lo, s)]) ∨
    ∃ z, f33 K ((((), ()), (o, ()), (x, ()), (y, ()), ()), MS m d l false call args 0, c, rest ++ [(f, a, lo, s)], ()) = R34 m d l call args 0 c (rest ++ [(f, a, lo, s ++ [z])]) := by
  have sh : 0 ≤ IntKind.u64.wrap (IntKind.i64.wrap (↑(BitVec.ofInt IntKind.i64.bits y &&& BitVec.ofInt IntKind.i64.bits (63 : Int)).toNat : Int)) := by rw [IntKind.wrap_u64]; omega
  have tp := top_of K m d l false call args 0 c rest (f, a, lo, s) hr
  have ps := fun v => push_of K rest f a v lo s hs
  rcases (show o = 7 ∨ o = 8 ∨ o = 9 ∨ o = 10 ∨ o = 11 ∨ o = 12 ∨ o = 13 ∨ o = 14 ∨ o = 15 ∨ o = 16 ∨ o = 17 ∨ o = 18 by omega) with rfl | rfl | rfl | rfl | rfl | rfl | rfl | rfl | rfl | rfl | rfl | rfl
  · exact .inr ⟨_, (b7_eq K x y m d l c _ false call args 0).trans (by rw [tp, Option.bind_some]; simp only []; rw [ps, Option.bind_some])⟩
  · exact .inr ⟨_, (b8_eq K x y m d l c _ false call args 0).trans (by rw [tp, Option.bind_some]; simp only []; rw [ps, Option.bind_some])⟩
  · exact .inr ⟨_, (b9_eq K x y m d l c _ false call args 0).trans (by rw [tp, Option.bind_some]; simp only []; rw [ps, Option.bind_some])⟩
  · by_cases h : y = 0
    · exact .inl ((b10_eq K x y m d l c _ false call args 0).trans (by rw [bpos h, cond_true]))
    · exact .inr ⟨_, (b10_eq K x y m d l c _ false call args 0).trans (by rw [bneg h, cond_false, tp, Option.bind_some]; simp only []; rw [cpos h, ps, Option.bind_some])⟩
  · by_cases h : y = 0
    · exact .inl ((b11_eq K x y m d l c _ false call args 0).trans (by rw [bpos h, cond_true]))
    · exact .inr ⟨_, (b11_eq K x y m d l c _ false call args 0).trans (by rw [bneg h, cond_false, tp, Option.bind_some]; simp only []; rw [cpos h, ps, Option.bind_some])⟩
  · exact .inr ⟨_, (b12_eq K x y m d l c _ false call args 0).trans (by rw [tp, Option.bind_some]; simp only []; rw [ps, Option.bind_some])⟩
  · exact .inr ⟨_, (b13_eq K x y m d l c _ false call args 0).trans (by rw [tp, Option.bind_some]; simp only []; rw [ps, Option.bind_some])⟩
  · exact .inr ⟨_, (b14_eq K x y m d l c _ false call args 0).trans (by rw [tp, Option.bind_some]; simp only []; rw [ps, Option.bind_some])⟩
  · exact .inr ⟨_, (b15_eq K x y m d l c _ false call args 0).trans (by rw [tp, Option.bind_some]; simp only []; rw [cpos sh, ps, Option.bind_some])⟩
  · exact .inr ⟨_, (b16_eq K x y m d l c _ false call args 0).trans (by rw [tp, Option.bind_some]; simp only []; rw [cpos sh, ps, Option.bind_some])⟩
  · exact .inr ⟨_, (b17_eq K x y m d l c _ false call args 0).trans (by rw [tp, Option.bind_some]; simp only []; rw [ps, Option.bind_some])⟩
  · exact .inr ⟨_, (b18_eq K x y m d l c _ false call args 0).trans (by rw [tp, Option.bind_some]; simp only []; rw [ps, Option.bind_some])⟩
theorem load_any (K : Nat) (m : Int) (d : List Int) (l : Fs) (call : Int) (args : List Int) (t : Int) (rest : Fr) (hr : rest.length ≤ 100) (f at_ : Int) (lo s : List Int) (hs : s.length ≤ 1000) (A n : Nat) (hn : n ≤ 8) (c : List Int) (P : Nat × Int × Int × List Int × Fs × Bool × Int × List Int × Int × List Int × Fr) : ∀ (e j k : Nat) (u : Int), j + e = n → e + 1 ≤ k →
    ∃ z, loopN (e34c_0 K P.2.1 P.2.2.1 P.2.2.2.1 P.2.2.2.2.1 P.2.2.2.2.2.1 P.2.2.2.2.2.2.1 P.2.2.2.2.2.2.2.1 P.2.2.2.2.2.2.2.2.1 P.2.2.2.2.2.2.2.2.2.1 P.2.2.2.2.2.2.2.2.2.2) k ((((), ()), (u, ()), ((A, n), ()), ((n : Int), ()), ((j : Int), ()), ()), MS m d l false call args t, c, rest ++ [(f, at_, lo, s)], ()) = R34 m d l call args t c (rest ++ [(f, at_, lo, s ++ [z])]) := by
  intro e
  induction e with
  | zero =>
    intro j k u he hk
    obtain ⟨k, rfl⟩ : ∃ k2, k = k2 + 1 := ⟨k - 1, by omega⟩
    rw [loopN_succ, e34c_0]
    simp only []
    rw [cneg (by omega), top_of K m d l false call args t c rest _ hr, Option.bind_some]
    simp only []
    rw [push_of K rest _ _ _ _ _ hs, Option.bind_some]
    exact ⟨_, rfl⟩
  | succ e ih =>
    intro j k u he hk
    obtain ⟨k, rfl⟩ : ∃ k2, k = k2 + 1 := ⟨k - 1, by omega⟩
    rw [loopN_succ, e34c_0]
    simp only []
    rw [cpos (by omega), cpos (p := 0 ≤ (j : Int) ∧ (j : Int) < (n : Int)) (by omega), cpos (p := 0 ≤ IntKind.i64.wrap (8 * (j : Int))) (by rw [wrapId (by omega) (by omega)]; omega), wrapId (n := (j : Int) + 1) (by omega) (by omega)]
    obtain ⟨z, h⟩ := ih (j + 1) k _ (by omega) (by omega)
    rw [show ((j + 1 : Nat) : Int) = (j : Int) + 1 by omega] at h
    exact ⟨z, h⟩
theorem load_of {K : Nat} (hK : 20 ≤ K) (o : Int) (ho : o = 20 ∨ o = 22) (b m : Int) (d : List Int) (l : Fs) (call : Int) (args c : List Int) (rest : Fr) (hr : rest.length ≤ 100) (f a : Int) (lo s : List Int) (hs : s.length ≤ 1000) (hc : c.length ≤ 2000) :
    f34 K ((((), ()), (o, ()), ([b], ()), ()), MS m d l false call args 0, c, rest ++ [(f, a, lo, s)], ()) = R34 m d l call args 2 c (rest ++ [(f, a, lo, s)]) ∨
    ∃ z, f34 K ((((), ()), (o, ()), ([b], ()), ()), MS m d l false call args 0, c, rest ++ [(f, a, lo, s)], ()) = R34 m d l call args 0 c (rest ++ [(f, a, lo, s ++ [z])]) := by
  rcases ho with rfl | rfl
  · by_cases h : 0 ≤ b ∧ b + 1 ≤ (c.length : Int)
    · right
      obtain ⟨z, hz⟩ := load_any K m d l call args 0 rest hr f a lo s hs b.toNat 1 (by decide) c (0, b, m, d, l, false, call, args, 0, c, rest ++ [(f, a, lo, s)]) 1 0 K 0 (by omega) (by omega)
      refine ⟨z, (e34c_eq K b m d l c (rest ++ [(f, a, lo, s)]) false call args 0).trans ?_⟩
      rw [mem_in h.1 (by decide) h.2 hc, Option.bind_some]
      simp only []
      rw [Bool.not_true, cond_false, wrapId (n := b + 1) (by omega) (by omega), cpos (by omega), show (b + 1).toNat - b.toNat = 1 by omega]
      exact hz
    · left
      refine (e34c_eq K b m d l c (rest ++ [(f, a, lo, s)]) false call args 0).trans ?_
      rw [mem_out (by decide) h hc, Option.bind_some]
      rfl
  · by_cases h : 0 ≤ b ∧ b + 8 ≤ (c.length : Int)
    · right
      obtain ⟨z, hz⟩ := load_any K m d l call args 0 rest hr f a lo s hs b.toNat 8 (by decide) c (0, b, m, d, l, false, call, args, 0, c, rest ++ [(f, a, lo, s)]) 8 0 K 0 (by omega) (by omega)
      refine ⟨z, (e34d_eq K b m d l c (rest ++ [(f, a, lo, s)]) false call args 0).trans ?_⟩
      rw [mem_in h.1 (by decide) h.2 hc, Option.bind_some]
      simp only []
      rw [Bool.not_true, cond_false, wrapId (n := b + 8) (by omega) (by omega), cpos (by omega), show (b + 8).toNat - b.toNat = 8 by omega]
      exact hz
    · left
      refine (e34d_eq K b m d l c (rest ++ [(f, a, lo, s)]) false call args 0).trans ?_
      rw [mem_out (by decide) h hc, Option.bind_some]
      rfl
/-- a function's locals at its beginning -/
def loc (n : Nat) (a : List Int) : List Int := List.take (0 : Nat) (List.replicate n (0 : Int)) ++ List.take (a.length.min (List.replicate n (0 : Int)).length) a ++ List.drop ((0 : Nat) + a.length.min (List.replicate n (0 : Int)).length) (List.replicate n (0 : Int))
theorem loc_len (n : Nat) (a : List Int) : (loc n a).length = n := by
  unfold loc
  have : a.length.min n ≤ n := Nat.min_le_right _ _
  have h2 : a.length.min n ≤ a.length := Nat.min_le_left _ _
  simp only [List.take_zero, List.nil_append, List.length_append, List.length_take, List.length_drop, List.length_replicate, Nat.zero_add]
  omega
theorem enter_of {K : Nat} (f : Int) (a : List Int) (m : Int) (d : List Int) (l : Fs) (asks : Bool) (call : Int) (args : List Int) (trap : Int) (c : List Int) (fr : Fr) (hn : fr.length ≤ 1000) (h0 : 0 ≤ f) (h1 : f < (l.length : Int)) (hF : FnOk (fa l f.toNat)) :
    f22 K ((((), ()), (f, ()), (a, ()), ()), MS m d l asks call args trap, c, fr, ()) = some ((), MS m d l asks call args trap, c, (), fr ++ [(f, 0, loc ((fa l f.toNat).1 + (fa l f.toNat).2.2.1).toNat a, [])], ()) := by
  have hp := hF.p
  have hv := hF.v
  refine (s22_eq K f a m d l c fr asks call args trap).trans ?_
  rw [cpos ⟨h0, h1⟩, wrapId (n := (fa l f.toNat).1 + (fa l f.toNat).2.2.1) (by omega) (by omega), decide_eq_true (show (0 : Int) ≤ (fa l f.toNat).1 + (fa l f.toNat).2.2.1 ∧ (fa l f.toNat).1 + (fa l f.toNat).2.2.1 ≤ (fa l f.toNat).1 + (fa l f.toNat).2.2.1 by omega), Nat.ble_eq_true_of_le (by omega), Nat.ble_eq_true_of_le (by omega), Bool.and_self, Bool.and_self, cond_true, blt (by omega), set_last]
  rfl
/-! What a sound machine is, and its step -/
def hg (hs : Int → List Int) (F : Frm) : Int := ia (hs F.1) F.2.1.toNat
structure FI (l : Fs) (F : Frm) : Prop where
  f : 0 ≤ F.1 ∧ F.1 < (l.length : Int)
  a : 0 ≤ F.2.1 ∧ F.2.1 < ((fa l F.1.toNat).2.2.2.length : Int)
  lo : (F.2.2.1.length : Int) = (fa l F.1.toNat).1 + (fa l F.1.toNat).2.2.1
def resOf (l : Fs) (F : Frm) : Int := (fa l F.1.toNat).2.1
def Waits (l : Fs) (hs : Int → List Int) (fr : Fr) : Prop := ∀ i, i + 1 < fr.length → FI l (sf fr i) ∧ hg hs (sf fr i) = ((sf fr i).2.2.2.length : Int) + resOf l (sf fr (i + 1))
structure Mach (K : Nat) (m : Int) (l : Fs) (hs : Int → List Int) : Prop where
  mm : 0 ≤ m ∧ m ≤ 1024
  nl : 1 ≤ l.length ∧ l.length ≤ 16
  f : ∀ i, i < l.length → FnOk (fa l i)
  ok : ∀ g : Int, 0 ≤ g → g < (l.length : Int) → ∀ p, p < (fa l g.toNat).2.2.2.length → OkI K m [] l g (fa l g.toNat).1 (fa l g.toNat).2.2.1 ((fa l g.toNat).2.2.2.length : Int) (ca (fa l g.toNat).2.2.2 p)
  ht : ∀ g : Int, 0 ≤ g → g < (l.length : Int) → Hts K m [] l g (fa l g.toNat).2.2.2 (hs g)
  p0 : (fa l 0).1 = 3
structure Inv (m : Int) (l : Fs) (hs : Int → List Int) (asks : Bool) (args : List Int) (trap : Int) (c : List Int) (fr : Fr) : Prop where
  mem : (c.length : Int) = m
  al : args.length ≤ 8
  tr : 0 ≤ trap ∧ trap ≤ 4
  at_ : asks = true → trap = 0
  ne : trap ≠ 0 ∨ asks = true → fr ≠ []
  n : fr.length ≤ 16
  w : Waits l hs fr
  top : trap = 0 → ∀ rest F, fr = rest ++ [F] → FI l F ∧ hg hs F = (F.2.2.2.length : Int) + (if asks then 1 else 0)
theorem Waits.swap {l : Fs} {hs : Int → List Int} {rest : Fr} {F G : Frm} (h : Waits l hs (rest ++ [F])) (e : G.1 = F.1) : Waits l hs (rest ++ [G]) := by
  intro i hi
  rw [List.length_append, List.length_singleton] at hi
  have h1 := h i (by rw [List.length_append, List.length_singleton]; exact hi)
  rw [sf_front rest F (by omega)] at h1
  rw [sf_front rest G (by omega)]
  refine ⟨h1.1, h1.2.trans ?_⟩
  by_cases hl : i + 1 = rest.length
  · rw [hl, sf_last, sf_last, resOf, resOf, e]
  · rw [sf_front rest F (by omega), sf_front rest G (by omega)]
theorem Waits.push {l : Fs} {hs : Int → List Int} {rest : Fr} {F G : Frm} (h : Waits l hs (rest ++ [F])) (hF : FI l F) (hh : hg hs F = (F.2.2.2.length : Int) + resOf l G) : Waits l hs ((rest ++ [F]) ++ [G]) := by
  intro i hi
  have hl : (rest ++ [F]).length = rest.length + 1 := by simp
  rw [List.length_append, List.length_singleton, hl] at hi
  rw [sf_front (rest ++ [F]) G (by rw [hl]; omega)]
  by_cases e : i = rest.length
  · rw [e, sf_last, show rest.length + 1 = (rest ++ [F]).length from hl.symm, sf_last]
    exact ⟨hF, hh⟩
  · rw [sf_front (rest ++ [F]) G (by rw [hl]; omega)]
    exact h i (by rw [hl]; omega)
theorem Waits.pop {l : Fs} {hs : Int → List Int} {rest : Fr} {F G : Frm} (h : Waits l hs ((rest ++ [F]) ++ [G])) : FI l F ∧ hg hs F = (F.2.2.2.length : Int) + resOf l G ∧ Waits l hs (rest ++ [F]) := by
  have hl : (rest ++ [F]).length = rest.length + 1 := by simp
  have h1 := h rest.length (by rw [List.length_append, List.length_singleton, hl]; omega)
  rw [sf_front (rest ++ [F]) G (by rw [hl]; omega), sf_last, show rest.length + 1 = (rest ++ [F]).length from hl.symm, sf_last] at h1
  refine ⟨h1.1, h1.2, fun i hi => ?_⟩
  rw [hl] at hi
  have h2 := h i (by rw [List.length_append, List.length_singleton, hl]; omega)
  rw [sf_front (rest ++ [F]) G (by rw [hl]; omega), sf_front (rest ++ [F]) G (by rw [hl]; omega)] at h2
  exact h2
theorem waits_one (l : Fs) (hs : Int → List Int) (F : Frm) : Waits l hs [F] := fun i hi => by simp at hi
theorem last_inj {α : Type} {r r' : List α} {a a' : α} (h : r ++ [a] = r' ++ [a']) : r = r' ∧ a = a' := by
  have := List.append_inj' h rfl
  exact ⟨this.1, by simpa using this.2⟩
/-- a sound machine that goes on -/
theorem Inv.go {m : Int} {l : Fs} {hs : Int → List Int} {args : List Int} {c : List Int} {rest : Fr} {F : Frm} (hc : (c.length : Int) = m) (ha : args.length ≤ 8) (hn : rest.length < 16) (hw : Waits l hs (rest ++ [F])) (hF : FI l F) (hh : hg hs F = (F.2.2.2.length : Int)) : Inv m l hs false args 0 c (rest ++ [F]) :=
  ⟨hc, ha, by decide, fun _ => rfl, fun _ => by simp, by simp; omega, hw, fun _ r G e => by
    obtain ⟨rfl, rfl⟩ := last_inj e
    exact ⟨hF, by simpa using hh⟩⟩
theorem Inv.trap {m : Int} {l : Fs} {hs : Int → List Int} {args : List Int} {c : List Int} {rest : Fr} {F : Frm} {t : Int} (hc : (c.length : Int) = m) (ha : args.length ≤ 8) (hn : rest.length < 16) (hw : Waits l hs (rest ++ [F])) (ht : 1 ≤ t ∧ t ≤ 4) : Inv m l hs false args t c (rest ++ [F]) :=
  ⟨hc, ha, by omega, fun h => (by cases h), fun _ => by simp, by simp; omega, hw, fun h => by omega⟩
theorem Inv.asks {m : Int} {l : Fs} {hs : Int → List Int} {args : List Int} {c : List Int} {rest : Fr} {F : Frm} (hc : (c.length : Int) = m) (ha : args.length ≤ 8) (hn : rest.length < 16) (hw : Waits l hs (rest ++ [F])) (hF : FI l F) (hh : hg hs F = (F.2.2.2.length : Int) + 1) : Inv m l hs true args 0 c (rest ++ [F]) :=
  ⟨hc, ha, by decide, fun _ => rfl, fun _ => by simp, by simp; omega, hw, fun _ r G e => by
    obtain ⟨rfl, rfl⟩ := last_inj e
    exact ⟨hF, by simpa using hh⟩⟩
theorem Inv.done {m : Int} {l : Fs} {hs : Int → List Int} {args : List Int} {c : List Int} (hc : (c.length : Int) = m) (ha : args.length ≤ 8) : Inv m l hs false args 0 c [] :=
  ⟨hc, ha, by decide, fun _ => rfl, fun h => by simp at h, by simp, fun i hi => by simp at hi, fun _ r G e => by simp at e⟩
/-- what each instruction takes and puts -/
theorem eff_at (K : Nat) (m : Int) (d : List Int) (l : Fs) (f : Int) (h0 : 0 ≤ f) (h1 : f < (l.length : Int)) (op n T P : Int) (b : Bool) (h : E31 K m d l f (op, n) = r31 T P b) :
    ((op = 0 ∨ op = 24 ∨ op = 29) → T = 0 ∧ P = 0) ∧ ((op = 1 ∨ op = 5) → T = 0 ∧ P = 1) ∧ ((op = 2 ∨ op = 6 ∨ op = 25) → T = 1 ∧ P = 0) ∧ (op = 3 → T = 1 ∧ P = 2) ∧ (op = 4 → T = 2 ∧ P = 2) ∧ ((op = 19 ∨ op = 20 ∨ op = 22) → T = 1 ∧ P = 1) ∧ ((op = 21 ∨ op = 23) → T = 2 ∧ P = 0) ∧
    (op = 27 → T = (fa l f.toNat).2.1 ∧ P = 0) ∧ (op = 26 → b = true → 0 ≤ n ∧ n < (l.length : Int) ∧ T = (fa l n.toNat).1 ∧ P = (fa l n.toNat).2.1) ∧ (op = 28 → b = true → P = 1) ∧ (7 ≤ op ∧ op ≤ 18 → T = 2 ∧ P = 1) := by
  have h' : f31 K ((((m, d, l), ()), (f, ()), ((op, n), ()), ()), ()) = r31 T P b := h
  rw [e31_eq, e41_eq, cpos (show f ≥ 0 from h0), Option.bind_some] at h'
  simp only [] at h'
  rw [decide_eq_true h1, Bool.not_true, cond_false] at h'
  have go : ∀ {o : Int} {T' P' : Int} {b' : Bool}, op = o → (o = op → r31 T' P' b' = r31 T P b) → T = T' ∧ P = P' ∧ b = b' := fun e k => by
    have := k e.symm
    simp only [r31, Option.some.injEq, Prod.mk.injEq, and_true] at this
    exact ⟨this.1.symm, this.2.1.symm, this.2.2.symm⟩
  refine ⟨?_, ?_, ?_, ?_, ?_, ?_, ?_, ?_, ?_, ?_, ?_⟩
  · rintro (rfl | rfl | rfl) <;> obtain ⟨a, b, _⟩ := go rfl (fun _ => h') <;> exact ⟨a, b⟩
  · rintro (rfl | rfl) <;> obtain ⟨a, b, _⟩ := go rfl (fun _ => h') <;> exact ⟨a, b⟩
  · rintro (rfl | rfl | rfl) <;> obtain ⟨a, b, _⟩ := go rfl (fun _ => h') <;> exact ⟨a, b⟩
  · rintro rfl; obtain ⟨a, b, _⟩ := go rfl (fun _ => h'); exact ⟨a, b⟩
  · rintro rfl; obtain ⟨a, b, _⟩ := go rfl (fun _ => h'); exact ⟨a, b⟩
  · rintro (rfl | rfl | rfl) <;> obtain ⟨a, b, _⟩ := go rfl (fun _ => h') <;> exact ⟨a, b⟩
  · rintro (rfl | rfl) <;> obtain ⟨a, b, _⟩ := go rfl (fun _ => h') <;> exact ⟨a, b⟩
  · rintro rfl
    have h2 : (bif decide ((0 : Int) ≤ f ∧ f < (l.length : Int)) then r31 (fa l f.toNat).2.1 0 true else none) = r31 T P b := h'
    rw [cpos ⟨h0, h1⟩] at h2
    obtain ⟨a, b, _⟩ := go rfl (fun _ => h2); exact ⟨a, b⟩
  · rintro rfl hb
    have h2 : ((f41 K ((((m, d, l), ()), (n, ()), ()), ())).bind fun v => bif v.1.1.1 then bif decide ((0 : Int) ≤ n ∧ n < (↑l.length : Int)) then bif decide ((0 : Int) ≤ n ∧ n < (↑l.length : Int)) then r31 (fa l n.toNat).1 (fa l n.toNat).2.1 true else none else none else r31 0 0 false) = r31 T P b := h'
    rw [e41_eq] at h2
    by_cases n0 : n ≥ 0
    · rw [cpos n0, Option.bind_some] at h2
      simp only [] at h2
      by_cases n1 : n < (l.length : Int)
      · rw [decide_eq_true n1, cond_true, cpos ⟨n0, n1⟩, cpos ⟨n0, n1⟩] at h2
        obtain ⟨a, b, _⟩ := go rfl (fun _ => h2); exact ⟨n0, n1, a, b⟩
      · rw [decide_eq_false n1, cond_false] at h2
        obtain ⟨_, _, e⟩ := go rfl (fun _ => h2); rw [hb] at e; cases e
    · rw [cneg n0, Option.bind_some] at h2
      obtain ⟨_, _, e⟩ := go rfl (fun _ => h2); rw [hb] at e; cases e
  · rintro rfl hb
    have h2 : ((f42 K (((n, ()), ()), ())).bind fun v => bif decide (v.1.1.1 ≥ (0 : Int)) then r31 v.1.1.1 1 true else r31 0 0 false) = r31 T P b := h'
    obtain ⟨v, hv, _⟩ := host_tot K n
    rw [hv, Option.bind_some] at h2
    simp only [] at h2
    by_cases v0 : v ≥ 0
    · rw [cpos v0] at h2
      obtain ⟨_, b, _⟩ := go rfl (fun _ => h2); exact b
    · rw [cneg v0] at h2
      obtain ⟨_, _, e⟩ := go rfl (fun _ => h2); rw [hb] at e; cases e
  · rintro ⟨a, b⟩
    rcases (show op = 7 ∨ op = 8 ∨ op = 9 ∨ op = 10 ∨ op = 11 ∨ op = 12 ∨ op = 13 ∨ op = 14 ∨ op = 15 ∨ op = 16 ∨ op = 17 ∨ op = 18 by omega) with rfl | rfl | rfl | rfl | rfl | rfl | rfl | rfl | rfl | rfl | rfl | rfl <;>
      obtain ⟨a, b, _⟩ := go rfl (fun _ => h') <;> exact ⟨a, b⟩
theorem next_at (K : Nat) (i : Int) (op n : Int) (nx : List Int) (hi : 0 ≤ i ∧ i ≤ 1000) (h : E40 K i (op, n) = r40 nx) :
    (op = 24 → nx = [n]) ∧ (op = 25 → nx = [n, i + 1]) ∧ (op ≠ 24 → op ≠ 25 → op ≠ 27 → op ≠ 29 → nx = [i + 1]) := by
  have h' : f40 K (((i, ()), ((op, n), ()), ()), ()) = r40 nx := h
  rw [e40_eq, wrapId (by omega) (by omega)] at h'
  have go : ∀ {ny : List Int}, r40 ny = r40 nx → nx = ny := fun e => by
    simp only [r40, Option.some.injEq, Prod.mk.injEq, and_true, true_and] at e
    exact e.symm
  refine ⟨?_, ?_, ?_⟩
  · rintro rfl; exact go h'
  · rintro rfl; exact go h'
  · intro a b c e
    rw [bneg c, cond_false, bneg e, cond_false, bneg a, cond_false, bneg b, cond_false] at h'
    exact go h'
/-! A step of a sound machine -/
abbrev MT : Type := (Int × List Int × Fs) × Unit × Unit × (Bool × Int × List Int × Int) × Unit
abbrev postA (v : Unit × MT × List Int × Fr × Unit) : Option (Unit × MT × List Int × Unit × Fr × Unit) := some ((), ((v.2.1.1.1, v.2.1.1.2.1, v.2.1.1.2.2), (), (), (v.2.1.2.2.2.1.1, v.2.1.2.2.2.1.2.1, v.2.1.2.2.2.1.2.2.1, v.2.1.2.2.2.1.2.2.2), ()), v.2.2.1, (), List.take (List.length v.2.2.2.1) v.2.2.2.1, ())
abbrev postB (v : Unit × MT × List Int × Unit × Fr × Unit) : Option (Unit × MT × List Int × Unit × Fr × Unit) := some ((), ((v.2.1.1.1, v.2.1.1.2.1, v.2.1.1.2.2), (), (), (v.2.1.2.2.2.1.1, v.2.1.2.2.2.1.2.1, v.2.1.2.2.2.1.2.2.1, v.2.1.2.2.2.1.2.2.2), ()), v.2.2.1, (), v.2.2.2.2.1, ())
abbrev R26 (m : Int) (l : Fs) (asks : Bool) (call : Int) (args : List Int) (t : Int) (c : List Int) (fr : Fr) : Option (Unit × MT × List Int × Unit × Fr × Unit) := some ((), MS m [] l asks call args t, c, (), fr, ())
theorem post_a {m : Int} {l : Fs} {call t : Int} {args c : List Int} {fr : Fr} {X : Option (Unit × MT × List Int × Fr × Unit)} (h : X = R34 m [] l call args t c fr) : X.bind postA = R26 m l false call args t c fr := by
  rw [h, Option.bind_some, postA]
  simp only [List.take_length]
section
variable {K : Nat} {m : Int} {l : Fs} {call : Int} {args c : List Int} {rest : Fr} {f a : Int} {lo s : List Int} {T P : Int} {b : Bool} {op n : Int}
  (hr : rest.length ≤ 100) (hs : s.length ≤ 1000) (hf : 0 ≤ f ∧ f < (l.length : Int)) (ha : 0 ≤ a ∧ a < ((fa l f.toNat).2.2.2.length : Int)) (hn : (fa l f.toNat).2.2.2.length ≤ 400)
  (hi : ca (fa l f.toNat).2.2.2 a.toNat = (op, n)) (hE : E31 K m [] l f (op, n) = r31 T P b) (hT : 0 ≤ T ∧ T ≤ (s.length : Int))
include hr hs hf ha hn hi hE hT
theorem st_bin (ho : 7 ≤ op ∧ op ≤ 18) (hv : 2 ≤ (s.drop (s.length - T.toNat)).length) : f26 K ((((), ()), ()), MS m [] l false call args 0, c, rest ++ [(f, a, lo, s)], ()) =
    (f33 K ((((), ()), (op, ()), (ia (s.drop (s.length - T.toNat)) 0, ()), (ia (s.drop (s.length - T.toNat)) 1, ()), ()), MS m [] l false call args 0, c, rest ++ [(f, a + 1, lo, s.take (s.length - T.toNat))], ())).bind postA := by
  have hE' : f31 K ((((m, [], l), ()), (f, ()), ((op, n), ()), ()), ()) = r31 T P b := hE
  refine (s26_eq K m [] l c (rest ++ [(f, a, lo, s)]) false call args 0).trans ?_
  rw [top_of K m [] l false call args 0 c rest (f, a, lo, s) hr, Option.bind_some]
  simp only [sf_last, set_last, decide_true, cond_true, hi]
  rw [cpos hf, cpos ha, wrapId (n := a + 1) (by omega) (by omega), hE', Option.bind_some]
  simp only []
  rw [take_of K rest f (a + 1) T lo s hs hT, Option.bind_some]
  simp only []
  rw [cpos (show op ≥ 7 from ho.1), cpos ho.2, cpos (by omega), cpos (by omega)]
  rfl
theorem st_touch (ho : 20 ≤ op ∧ op ≤ 23) : f26 K ((((), ()), ()), MS m [] l false call args 0, c, rest ++ [(f, a, lo, s)], ()) =
    (f34 K ((((), ()), (op, ()), (s.drop (s.length - T.toNat), ()), ()), MS m [] l false call args 0, c, rest ++ [(f, a + 1, lo, s.take (s.length - T.toNat))], ())).bind postA := by
  have hE' : f31 K ((((m, [], l), ()), (f, ()), ((op, n), ()), ()), ()) = r31 T P b := hE
  refine (s26_eq K m [] l c (rest ++ [(f, a, lo, s)]) false call args 0).trans ?_
  rw [top_of K m [] l false call args 0 c rest (f, a, lo, s) hr, Option.bind_some]
  simp only [sf_last, set_last, decide_true, cond_true, hi]
  rw [cpos hf, cpos ha, wrapId (n := a + 1) (by omega) (by omega), hE', Option.bind_some]
  simp only []
  rw [take_of K rest f (a + 1) T lo s hs hT, Option.bind_some]
  simp only []
  rw [cpos (show op ≥ 7 by omega), cneg (show ¬ op ≤ 18 by omega), cpos (show op ≥ 20 from ho.1), cpos ho.2]
theorem st_flow (ho : 24 ≤ op) : f26 K ((((), ()), ()), MS m [] l false call args 0, c, rest ++ [(f, a, lo, s)], ()) =
    (f35 K ((((), ()), ((op, n), ()), (s.drop (s.length - T.toNat), ()), ()), MS m [] l false call args 0, c, rest ++ [(f, a + 1, lo, s.take (s.length - T.toNat))], ())).bind postB := by
  have hE' : f31 K ((((m, [], l), ()), (f, ()), ((op, n), ()), ()), ()) = r31 T P b := hE
  refine (s26_eq K m [] l c (rest ++ [(f, a, lo, s)]) false call args 0).trans ?_
  rw [top_of K m [] l false call args 0 c rest (f, a, lo, s) hr, Option.bind_some]
  simp only [sf_last, set_last, decide_true, cond_true, hi]
  rw [cpos hf, cpos ha, wrapId (n := a + 1) (by omega) (by omega), hE', Option.bind_some]
  simp only []
  rw [take_of K rest f (a + 1) T lo s hs hT, Option.bind_some]
  simp only []
  rw [cpos (show op ≥ 7 by omega), cneg (show ¬ op ≤ 18 by omega), cpos (show op ≥ 20 by omega), cneg (show ¬ op ≤ 23 by omega), cpos (show op ≥ 24 from ho)]
theorem st_plain (ho : op ≤ 6 ∨ op = 19) : f26 K ((((), ()), ()), MS m [] l false call args 0, c, rest ++ [(f, a, lo, s)], ()) =
    (f36 K ((((), ()), ((op, n), ()), (s.drop (s.length - T.toNat), ()), ()), MS m [] l false call args 0, c, rest ++ [(f, a + 1, lo, s.take (s.length - T.toNat))], ())).bind postA := by
  have hE' : f31 K ((((m, [], l), ()), (f, ()), ((op, n), ()), ()), ()) = r31 T P b := hE
  refine (s26_eq K m [] l c (rest ++ [(f, a, lo, s)]) false call args 0).trans ?_
  rw [top_of K m [] l false call args 0 c rest (f, a, lo, s) hr, Option.bind_some]
  simp only [sf_last, set_last, decide_true, cond_true, hi]
  rw [cpos hf, cpos ha, wrapId (n := a + 1) (by omega) (by omega), hE', Option.bind_some]
  simp only []
  rw [take_of K rest f (a + 1) T lo s hs hT, Option.bind_some]
  simp only []
  rcases ho with ho | rfl
  · rw [cneg (show ¬ op ≥ 7 by omega), cneg (show ¬ op ≥ 20 by omega), cneg (show ¬ op ≥ 24 by omega)]
  · rw [cpos (show (19 : Int) ≥ 7 by decide), cneg (show ¬ (19 : Int) ≤ 18 by decide), cneg (show ¬ (19 : Int) ≥ 20 by decide), cneg (show ¬ (19 : Int) ≥ 24 by decide)]
end
theorem plain_of (K : Nat) (op n T P m : Int) (d : List Int) (l : Fs) (call : Int) (args c : List Int) (rest : Fr) (f a : Int) (lo s v : List Int) (hr : rest.length ≤ 100) (hs : s.length ≤ 900) (hv : (v.length : Int) = T)
    (ho : 0 ≤ op ∧ op ≤ 6 ∨ op = 19) (e0 : op = 0 → P = 0) (e1 : (op = 1 ∨ op = 5) → P = 1) (e2 : (op = 2 ∨ op = 6) → T = 1 ∧ P = 0) (e3 : op = 3 → T = 1 ∧ P = 2) (e4 : op = 4 → T = 2 ∧ P = 2) (e19 : op = 19 → T = 1 ∧ P = 1) (hl : (op = 5 ∨ op = 6) → 0 ≤ n ∧ n < (lo.length : Int)) :
    ∃ lo' w, f36 K ((((), ()), ((op, n), ()), (v, ()), ()), MS m d l false call args 0, c, rest ++ [(f, a, lo, s)], ()) = R34 m d l call args 0 c (rest ++ [(f, a, lo', s ++ w)]) ∧ lo'.length = lo.length ∧ (w.length : Int) = P := by
  have tp := top_of K m d l false call args 0 c rest (f, a, lo, s) hr
  have ps := fun s' v (h : s'.length ≤ 1000) => push_of K rest f a v lo s' h
  rw [s36_eq, tp, Option.bind_some]
  simp only [sf_last, set_last, decide_true, cond_true]
  rcases (show op = 0 ∨ op = 1 ∨ op = 2 ∨ op = 3 ∨ op = 4 ∨ op = 5 ∨ op = 6 ∨ op = 19 by omega) with rfl | rfl | rfl | rfl | rfl | rfl | rfl | rfl
  · exact ⟨lo, [], by rw [List.append_nil]; rfl, rfl, (e0 rfl).symm⟩
  · rw [bpos rfl, cond_true, ps s n (by omega), Option.bind_some]
    exact ⟨lo, [n], rfl, rfl, (e1 (.inl rfl)).symm⟩
  · exact ⟨lo, [], by rw [List.append_nil]; rfl, rfl, (e2 (.inl rfl)).2.symm⟩
  · have h3 := e3 rfl
    rw [bneg (by decide), cond_false, bpos rfl, cond_true, cpos (by omega), ps s _ (by omega), Option.bind_some]
    simp only []
    rw [cpos (by omega), ps (s ++ [_]) _ (by rw [List.length_append, List.length_singleton]; omega), Option.bind_some]
    exact ⟨lo, [_, _], by rw [List.append_assoc]; rfl, rfl, h3.2.symm⟩
  · have h3 := e4 rfl
    rw [bneg (by decide), cond_false, bneg (by decide), cond_false, bpos rfl, cond_true, cpos (by omega), ps s _ (by omega), Option.bind_some]
    simp only []
    rw [cpos (by omega), ps (s ++ [_]) _ (by rw [List.length_append, List.length_singleton]; omega), Option.bind_some]
    exact ⟨lo, [_, _], by rw [List.append_assoc]; rfl, rfl, h3.2.symm⟩
  · rw [bneg (by decide), cond_false, bneg (by decide), cond_false, bneg (by decide), cond_false, bpos rfl, cond_true, cpos (hl (.inl rfl)), ps s _ (by omega), Option.bind_some]
    exact ⟨lo, [_], rfl, rfl, (e1 (.inr rfl)).symm⟩
  · have h3 := e2 (.inr rfl)
    rw [bneg (by decide), cond_false, bneg (by decide), cond_false, bneg (by decide), cond_false, bneg (by decide), cond_false, bpos rfl, cond_true, cpos (by omega), cpos (hl (.inr rfl))]
    exact ⟨_, [], by rw [List.append_nil], List.length_set, h3.2.symm⟩
  · have h3 := e19 rfl
    rw [bneg (by decide), cond_false, bneg (by decide), cond_false, bneg (by decide), cond_false, bneg (by decide), cond_false, bneg (by decide), cond_false, bpos rfl, cond_true, cpos (by omega), ps s _ (by omega), Option.bind_some]
    exact ⟨lo, [_], rfl, rfl, h3.2.symm⟩
/-! No step of a sound machine fails -/
theorem FI.of {l : Fs} {hs : Int → List Int} {f a : Int} {lo s : List Int} (hF : FI l (f, a, lo, s)) {a' : Int} {lo' s' : List Int} (h0 : 0 ≤ a') (h1 : a' < ((fa l f.toNat).2.2.2.length : Int)) (hl : lo'.length = lo.length) : FI l (f, a', lo', s') :=
  ⟨hF.f, ⟨h0, h1⟩, by show (lo'.length : Int) = _; rw [hl]; exact hF.lo⟩
theorem len1 {v : List Int} (h : v.length = 1) : ∃ x, v = [x] := by
  match v, h with
  | [x], _ => exact ⟨x, rfl⟩
theorem len2 {v : List Int} (h : v.length = 2) : ∃ x y, v = [x, y] := by
  match v, h with
  | [x, y], _ => exact ⟨x, y, rfl⟩
set_option maxHeartbeats 1600000 in
theorem step_ok {K : Nat} (hK : 2000 ≤ K) {m : Int} {l : Fs} {hs : Int → List Int} (hM : Mach K m l hs) {call : Int} {args c : List Int} {rest : Fr} {F : Frm} (hI : Inv m l hs false args 0 c (rest ++ [F])) :
    ∃ as' ca' ar' tr' c' fr', f26 K ((((), ()), ()), MS m [] l false call args 0, c, rest ++ [F], ()) = R26 m l as' ca' ar' tr' c' fr' ∧ Inv m l hs as' ar' tr' c' fr' := by
  obtain ⟨f, a, lo, s⟩ := F
  obtain ⟨hF, hh⟩ := hI.top rfl rest (f, a, lo, s) rfl
  have hlen := hI.n
  rw [List.length_append, List.length_singleton] at hlen
  have hm := hI.mem
  have hal := hI.al
  have hmm := hM.mm
  have hc : c.length ≤ 2000 := by omega
  have hr : rest.length ≤ 100 := by omega
  have hf : 0 ≤ f ∧ f < (l.length : Int) := hF.f
  have ha : 0 ≤ a ∧ a < ((fa l f.toNat).2.2.2.length : Int) := hF.a
  have hlo : (lo.length : Int) = (fa l f.toNat).1 + (fa l f.toNat).2.2.1 := hF.lo
  have hFn := hM.f f.toNat (by omega)
  have hn := hFn.n.2
  have hH := hM.ht f hf.1 hf.2
  have hh' : ia (hs f) a.toNat = (s.length : Int) := by
    have : hg hs (f, a, lo, s) = (s.length : Int) + 0 := hh
    rw [Int.add_zero] at this; exact this
  obtain ⟨T, P, b, nx, hE, hN, t1, t2, t27, hnx⟩ := hH.go a.toNat (by omega) (by omega)
  have hlo64 := (hH.w.lo a.toNat (by omega)).2
  rw [Int.toNat_of_nonneg ha.1] at hN
  have hop := hFn.c a.toNat (by omega)
  have hok := hM.ok f hf.1 hf.2 a.toNat (by omega)
  obtain ⟨T2, P2, b2, hE2, hT2, hP2⟩ := eff_tot K m [] l hM.f f hf.1 hf.2 (ca (fa l f.toNat).2.2.2 a.toNat)
  rw [hE] at hE2
  simp only [r31, Option.some.injEq, Prod.mk.injEq, and_true] at hE2
  obtain ⟨rfl, rfl, rfl⟩ := hE2
  rcases hi : ca (fa l f.toNat).2.2.2 a.toNat with ⟨op, n⟩
  rw [hi] at hE hN t27 hop hok
  obtain ⟨f0, f1, f2, f3, f4, f5, f6, f7, f8, f9, f10⟩ := eff_at K m [] l f hf.1 hf.2 op n T P b hE
  obtain ⟨n1, n2, n3⟩ := next_at K a op n nx (by omega) hN
  have hop' : 0 ≤ op ∧ op ≤ 29 := hop
  rw [hh'] at t1 t2 t27 hnx
  have hsl : s.length ≤ 64 := by omega
  have hT : 0 ≤ T ∧ T ≤ (s.length : Int) := by omega
  have hv : (s.drop (s.length - T.toNat)).length = T.toNat := by rw [List.length_drop]; omega
  have hs1 : (s.take (s.length - T.toNat)).length = s.length - T.toNat := by rw [List.length_take]; omega
  have hw1 : ∀ a' lo' s', Waits l hs (rest ++ [(f, a', lo', s')]) := fun a' lo' s' => hI.w.swap rfl
  have ontop : ∀ {j : Nat} {a' : Int} {lo' s' : List Int}, j < nx.length → ia nx j = a' → lo'.length = lo.length → FI l (f, a', lo', s') ∧ hg hs (f, a', lo', s') = (s.length : Int) - T + P := by
    intro j a' lo' s' hj e hl
    obtain ⟨u1, u2, u3⟩ := hnx j hj
    rw [e] at u1 u2 u3
    exact ⟨hF.of (hs := hs) u1 u2 hl, u3⟩
  have ongo : ∀ {as' : List Int} {c' : List Int} {j : Nat} {a' : Int} {lo' s' : List Int}, as'.length ≤ 8 → (c'.length : Int) = m → j < nx.length → ia nx j = a' → lo'.length = lo.length → (s'.length : Int) = (s.length : Int) - T + P → Inv m l hs false as' 0 c' (rest ++ [(f, a', lo', s')]) := by
    intro as' c' j a' lo' s' h1 h2 h3 h4 h5 h6
    obtain ⟨u1, u2⟩ := ontop (s' := s') h3 h4 h5
    exact Inv.go h2 h1 (by omega) (hw1 _ _ _) u1 (u2.trans h6.symm)
  have ontrap : ∀ {t : Int} {a' : Int} {lo' s' : List Int}, 1 ≤ t ∧ t ≤ 4 → Inv m l hs false args t c (rest ++ [(f, a', lo', s')]) := fun ht => Inv.trap hm hal (by omega) (hw1 _ _ _) ht
  by_cases o1 : op ≤ 6 ∨ op = 19
  · -- the stack and the locals alone
    rw [st_plain hr (by omega) hf ha hn hi hE hT o1]
    obtain ⟨lo', w, g1, g2, g3⟩ := plain_of K op n T P m [] l call args c rest f (a + 1) lo (s.take (s.length - T.toNat)) (s.drop (s.length - T.toNat)) hr (by omega) (by omega) (by omega) (fun e => (f0 (.inl e)).2) (fun e => (f1 e).2) (fun e => f2 (by omega)) f3 f4 (fun e => f5 (.inl e))
      (fun e => by
        have := hok.g e
        have hp := hFn.p
        have hvv := hFn.v
        rw [wrapId (by omega) (by omega)] at this
        have h2 : 0 ≤ n ∧ n < (fa l f.toNat).1 + (fa l f.toNat).2.2.1 := this
        omega)
    rw [post_a g1]
    have hnx1 := n3 (by omega) (by omega) (by omega) (by omega)
    exact ⟨_, _, _, _, _, _, rfl, ongo (j := 0) hal hm (by rw [hnx1]; simp) (by rw [hnx1]; rfl) g2 (by rw [List.length_append]; omega)⟩
  by_cases o2 : op ≤ 18
  · -- two numbers
    have h10 := f10 (by omega)
    rw [st_bin hr (by omega) hf ha hn hi hE hT (by omega) (by omega)]
    have hnx1 := n3 (by omega) (by omega) (by omega) (by omega)
    rcases bin_of K op (by omega) (ia (s.drop (s.length - T.toNat)) 0) (ia (s.drop (s.length - T.toNat)) 1) m [] l call args c rest f (a + 1) lo (s.take (s.length - T.toNat)) hr (by omega) with g | ⟨z, g⟩
    · rw [post_a g]
      exact ⟨_, _, _, _, _, _, rfl, ontrap (by decide)⟩
    · rw [post_a g]
      exact ⟨_, _, _, _, _, _, rfl, ongo (j := 0) hal hm (by rw [hnx1]; simp) (by rw [hnx1]; rfl) rfl (by rw [List.length_append, List.length_singleton]; omega)⟩
  by_cases o3 : op ≤ 23
  · -- the memory
    have hnx1 := n3 (by omega) (by omega) (by omega) (by omega)
    rw [st_touch hr (by omega) hf ha hn hi hE hT (by omega)]
    by_cases o4 : op = 20 ∨ op = 22
    · have h5 := f5 (by omega)
      obtain ⟨x, hx⟩ := len1 (v := s.drop (s.length - T.toNat)) (by omega)
      rw [hx]
      rcases load_of (K := K) (by omega) op o4 x m [] l call args c rest hr f (a + 1) lo (s.take (s.length - T.toNat)) (by omega) hc with g | ⟨z, g⟩
      · rw [post_a g]
        exact ⟨_, _, _, _, _, _, rfl, ontrap (by decide)⟩
      · rw [post_a g]
        exact ⟨_, _, _, _, _, _, rfl, ongo (j := 0) hal hm (by rw [hnx1]; simp) (by rw [hnx1]; rfl) rfl (by rw [List.length_append, List.length_singleton]; omega)⟩
    · have h6 := f6 (by omega)
      obtain ⟨x, y, hx⟩ := len2 (v := s.drop (s.length - T.toNat)) (by omega)
      rw [hx]
      rcases (show op = 21 ∨ op = 23 by omega) with rfl | rfl
      · have g := store1 (K := K) (by omega) x y m [] l c (rest ++ [(f, a + 1, lo, s.take (s.length - T.toNat))]) call args hc
        by_cases hb : 0 ≤ x ∧ x + 1 ≤ (c.length : Int)
        · rw [if_pos hb] at g
          rw [post_a g]
          exact ⟨_, _, _, _, _, _, rfl, ongo (j := 0) hal (by rw [puts_len]; exact hm) (by rw [hnx1]; simp) (by rw [hnx1]; rfl) rfl (by omega)⟩
        · rw [if_neg hb] at g
          rw [post_a g]
          exact ⟨_, _, _, _, _, _, rfl, ontrap (by decide)⟩
      · have g := store8 (K := K) (by omega) x y m [] l c (rest ++ [(f, a + 1, lo, s.take (s.length - T.toNat))]) call args hc
        by_cases hb : 0 ≤ x ∧ x + 8 ≤ (c.length : Int)
        · rw [if_pos hb] at g
          rw [post_a g]
          exact ⟨_, _, _, _, _, _, rfl, ongo (j := 0) hal (by rw [puts_len]; exact hm) (by rw [hnx1]; simp) (by rw [hnx1]; rfl) rfl (by omega)⟩
        · rw [if_neg hb] at g
          rw [post_a g]
          exact ⟨_, _, _, _, _, _, rfl, ontrap (by decide)⟩
  · -- elsewhere
    rw [st_flow hr (by omega) hf ha hn hi hE hT (by omega)]
    generalize hvv : s.drop (s.length - T.toNat) = v at *
    generalize hss : s.take (s.length - T.toNat) = s1 at *
    have tp := top_of K m [] l false call args 0 c rest (f, a + 1, lo, s1) hr
    rw [s35_eq, tp, Option.bind_some]
    simp only [sf_last, set_last, decide_true, cond_true, List.take_length]
    rcases (show op = 24 ∨ op = 25 ∨ op = 26 ∨ op = 27 ∨ op = 28 ∨ op = 29 by omega) with rfl | rfl | rfl | rfl | rfl | rfl
    · have h0 := f0 (by omega)
      have hx := n1 rfl
      exact ⟨_, _, _, _, _, _, rfl, ongo (j := 0) hal hm (by rw [hx]; simp) (by rw [hx]; rfl) rfl (by omega)⟩
    · have h2 := f2 (by omega)
      have hx := n2 rfl
      rw [bpos rfl, cond_true, cpos (by omega)]
      cases (ia v (Int.toNat 0) == 0) with
      | true => exact ⟨_, _, _, _, _, _, rfl, ongo (j := 1) hal hm (by rw [hx]; simp) (by rw [hx]; rfl) rfl (by omega)⟩
      | false => exact ⟨_, _, _, _, _, _, rfl, ongo (j := 0) hal hm (by rw [hx]; simp) (by rw [hx]; rfl) rfl (by omega)⟩
    · have hb : b = true := by
        obtain ⟨T3, Q3, e3⟩ := hok.e (.inl rfl)
        rw [hE] at e3
        simp only [r31, Option.some.injEq, Prod.mk.injEq, and_true] at e3
        exact e3.2.2
      obtain ⟨k0, k1, k2, k3⟩ := f8 rfl hb
      have hx := n3 (by decide) (by decide) (by decide) (by decide)
      rw [bneg (by decide), cond_false, bneg (by decide), cond_false, bpos rfl, cond_true]
      by_cases h16 : rest.length = 15
      · rw [bpos (show (((rest ++ [(f, a + 1, lo, s1)]).length : Nat) : Int) = 16 by rw [List.length_append, List.length_singleton]; omega), cond_true]
        exact ⟨_, _, _, _, _, _, rfl, ontrap (t := 3) (by decide)⟩
      · rw [bneg (show ¬ (((rest ++ [(f, a + 1, lo, s1)]).length : Nat) : Int) = 16 by rw [List.length_append, List.length_singleton]; omega), cond_false, enter_of n v m [] l false call args 0 c (rest ++ [(f, a + 1, lo, s1)]) (by rw [List.length_append, List.length_singleton]; omega) k0 k1 (hM.f n.toNat (by omega)), Option.bind_some]
        obtain ⟨u1, u2⟩ := ontop (j := 0) (a' := a + 1) (lo' := lo) (s' := s1) (by rw [hx]; simp) (by rw [hx]; rfl) rfl
        have hFn2 := hM.f n.toNat (by omega)
        have hp2 := hFn2.p
        have hv2 := hFn2.v
        have hn2 := hFn2.n
        refine ⟨_, _, _, _, _, _, rfl, Inv.go hm hal (by rw [List.length_append, List.length_singleton]; omega) (Waits.push (hw1 _ _ _) u1 ?_) ⟨⟨k0, k1⟩, ⟨Int.le_refl _, by show (0 : Int) < ((fa l n.toNat).2.2.2.length : Int); omega⟩, ?_⟩ ?_⟩
        · rw [u2]
          show _ = (s1.length : Int) + (fa l n.toNat).2.1
          omega
        · show ((loc _ v).length : Int) = _
          rw [loc_len]
          show _ = (fa l n.toNat).1 + (fa l n.toNat).2.2.1
          omega
        · show ia (hs n) 0 = 0
          exact (hM.ht n k0 k1).z
    · have h7 := f7 rfl
      have h27 := t27 rfl
      have hr0 := hFn.r
      have hs0 : s1 = [] := List.length_eq_zero_iff.1 (by omega)
      rw [bneg (by decide), cond_false, bneg (by decide), cond_false, bneg (by decide), cond_false, bpos rfl, cond_true, idx_last rest _ hr, Int.toNat_natCast, Int.toNat_zero, Nat.sub_zero,
        cpos (by rw [List.length_append, List.length_singleton]; omega), show List.take rest.length (rest ++ [(f, a + 1, lo, s1)]) = rest from by simp]
      rcases List.eq_nil_or_concat rest with rfl | ⟨r2, E, rfl⟩
      · rw [cneg (by simp)]
        exact ⟨_, _, _, _, _, _, rfl, Inv.done hm hal⟩
      · rw [List.concat_eq_append] at *
        have hrl : (r2 ++ [E]).length = r2.length + 1 := by simp
        obtain ⟨ef, ea, el, es⟩ := E
        obtain ⟨w1, w2, w3⟩ := Waits.pop hI.w
        have hes : (ia (hs ef) ea.toNat) = (es.length : Int) + (fa l f.toNat).2.1 := w2
        have heh := (hM.ht ef w1.f.1 w1.f.2).w.lo ea.toNat (by have : 0 ≤ ea ∧ ea < ((fa l ef.toNat).2.2.2.length : Int) := w1.a; omega)
        rw [cpos (by rw [hrl]; omega), top_of K m [] l false call args 0 c r2 (ef, ea, el, es) (by omega), Option.bind_some, Option.bind_some]
        simp only [sf_last, set_last, decide_true, cond_true]
        rw [blt (by omega)]
        refine ⟨_, _, _, _, _, _, rfl, Inv.go hm hal (by omega) (w3.swap rfl) ⟨w1.f, w1.a, w1.lo⟩ ?_⟩
        show ia (hs ef) ea.toNat = ((es ++ v).length : Int)
        rw [List.length_append]
        omega
    · have hb : b = true := by
        obtain ⟨T3, Q3, e3⟩ := hok.e (.inr rfl)
        rw [hE] at e3
        simp only [r31, Option.some.injEq, Prod.mk.injEq, and_true] at e3
        exact e3.2.2
      have hp1 := f9 rfl hb
      have hx := n3 (by decide) (by decide) (by decide) (by decide)
      obtain ⟨u1, u2⟩ := ontop (j := 0) (a' := a + 1) (lo' := lo) (s' := s1) (by rw [hx]; simp) (by rw [hx]; rfl) rfl
      refine ⟨_, _, _, _, _, _, rfl, Inv.asks hm (show v.length ≤ 8 by omega) (by omega) (hw1 _ _ _) u1 ?_⟩
      rw [u2]
      show _ = (s1.length : Int) + 1
      omega
    · exact ⟨_, _, _, _, _, _, rfl, ontrap (t := 4) (by decide)⟩
/-! New of a module without a flaw; runs -/
theorem fa_take (l : Fs) (i : Nat) (h : i < l.length) : l.take i ++ [fa l i] = l.take (i + 1) := by
  have e : fa l i = l[i] := by
    show l.getD i _ = _
    rw [List.getD_eq_getElem?_getD, List.getElem?_eq_getElem h]; rfl
  rw [e]; exact List.take_append_getElem h
theorem new_loop (k0 : Nat) (m0 m : Int) (d0 : List Int) (l0 l : Fs) (hf : ∀ i, i < l.length → FnOk (fa l i)) (hl : l.length ≤ 16) (mem : List Int) : ∀ (e i k : Nat), i + e = l.length → e + 1 ≤ k →
    loopN (e9_0 k0 m0 d0 l0) k ((((), ()), (l, ()), ((l.length : Int), ()), ((i : Int), ()), ()), (m, [], (), (), (), (false, (0 : Int), [], (0 : Int)), ()), mem, [], l.take i, ()) = some ((((), ()), ((0 : Int), ()), ()), ((m, [], l), (), (), (false, (0 : Int), [], (0 : Int)), ()), mem, [], ()) := by
  intro e
  induction e with
  | zero =>
    intro i k he hk
    obtain ⟨k, rfl⟩ : ∃ k2, k = k2 + 1 := ⟨k - 1, by omega⟩
    rw [loopN_succ, e9_0]
    simp only []
    rw [cneg (by omega), List.take_of_length_le (by omega)]
  | succ e ih =>
    intro i k he hk
    obtain ⟨k, rfl⟩ : ∃ k2, k = k2 + 1 := ⟨k - 1, by omega⟩
    rw [loopN_succ, e9_0]
    simp only []
    have hn := (hf i (by omega)).n
    rw [cpos (by omega), cpos (p := 0 ≤ (i : Int) ∧ (i : Int) < (l.length : Int)) (by omega), Int.toNat_natCast, blt (by simp only [List.length_nil]; omega), Option.bind_some]
    simp only []
    rw [blt (by simp only [List.length_cons, List.length_nil, List.length_take]; omega), wrapId (by omega) (by omega)]
    have h := ih (i + 1) k (by omega) (by omega)
    rw [show ((i + 1 : Nat) : Int) = (i : Int) + 1 by omega, ← fa_take l i (by omega)] at h
    exact h
theorem mem_len (m : Int) (d : List Int) (h : 0 ≤ m) : ((memOf m d).length : Int) = m := by
  have : d.length.min m.toNat ≤ m.toNat := Nat.min_le_right _ _
  have h2 : d.length.min m.toNat ≤ d.length := Nat.min_le_left _ _
  simp only [memOf, List.take_zero, List.nil_append, List.length_append, List.length_take, List.length_drop, List.length_replicate, Nat.zero_add]
  omega
abbrev V9r (m : Int) (l : Fs) (mem : List Int) : Option (((Unit × Unit) × (Int × Unit) × Unit) × MT × List Int × Fr × Unit) := some ((((), ()), ((0 : Int), ()), ()), MS m [] l false 0 [] 0, mem, [], ())
theorem e109_eq (K : Nat) (m : Int) (d : List Int) (l : Fs) : f109 K ((((m, d, l), ()), ()), ()) = (f20 K ((((m, d, l), ()), ()), ())).bind fun v => bif !(v.1.1.1.1 == (0 : Int) && (v.1.1.1.2.1 == (0 : Int) && (v.1.1.1.2.2 == (0 : Int) && true))) then some ((((), ()), ((130 : Int), ()), ()), ()) else bif decide ((0 : Int) ≤ m ∧ m ≤ m) && ((m.toNat * (1 : Nat)).ble (140737488355328 : Nat) && m.toNat.ble (1152921504606846976 : Nat)) then none else none := by kernel_rfl
theorem new_tot {K : Nat} (hK : 2000 ≤ K) (m : Int) (d : List Int) (l : Fs) :
    (f9 K ((((m, d, l), ()), ()), ()) = V9r m l (memOf m d) ∧ Good K m d l) ∨ (∃ e : Int, e ≠ 0 ∧ f109 K ((((m, d, l), ()), ()), ()) = some ((((), ()), ((130 : Int), ()), ()), ())) := by
  obtain ⟨a, b, c, g1, g2⟩ := check_tot K hK m d l
  by_cases hc : c = 0
  · obtain ⟨rfl, rfl, hG⟩ := g2 hc
    subst hc
    left
    refine ⟨?_, hG⟩
    have hm := hG.ok.mm
    rw [e9_eq, g1, Option.bind_some]
    simp only []
    rw [show decide ((0 : Int) ≤ m ∧ m ≤ m) = true from by simp; omega, show (m.toNat * (1 : Nat)).ble (140737488355328 : Nat) = true from Nat.ble_eq_true_of_le (by omega), show m.toNat.ble (1152921504606846976 : Nat) = true from Nat.ble_eq_true_of_le (by omega)]
    simp only [beq_self_eq_true, Bool.and_self, Bool.not_true, cond_false, cond_true]
    have h := new_loop K m m d l l hG.ok.f hG.ok.n.2 (memOf m d) l.length 0 K (by omega) (by have := hG.ok.n; omega)
    exact h
  · right
    refine ⟨c, hc, ?_⟩
    rw [e109_eq, g1, Option.bind_some]
    simp only []
    rw [bneg hc]
    simp
theorem mach_of {K : Nat} (hK : 2000 ≤ K) {m : Int} {d : List Int} {l : Fs} (hG : Good K m d l) : ∃ hs, Mach K m l hs := by
  have hE : ∀ f c, E31 K m [] l f c = E31 K m d l f c := fun f c => eff_like (like_refl l) K m m d [] f c
  have hH : ∀ g : Int, ∃ r, 0 ≤ g → g < (l.length : Int) → Hts K m [] l g (fa l g.toNat).2.2.2 r := fun g => by
    by_cases hg : 0 ≤ g ∧ g < (l.length : Int)
    · obtain ⟨q1, r, q2⟩ := hG.f g.toNat (by omega)
      rw [Int.toNat_of_nonneg hg.1] at q1 q2
      have h := heights_ok hK hG.ok.f hg.1 hg.2 q1 q2
      refine ⟨r, fun _ _ => ⟨h.w, h.z, fun i hi h0 => ?_⟩⟩
      obtain ⟨T, P, b, nx, u1, u2⟩ := h.go i hi h0
      exact ⟨T, P, b, nx, (hE _ _).trans u1, u2⟩
    · exact ⟨[], fun a b => absurd ⟨a, b⟩ hg⟩
  refine ⟨fun g => (hH g).choose, hG.ok.mm, hG.ok.n, hG.ok.f, fun g g0 g1 p hp => ?_, fun g g0 g1 => (hH g).choose_spec g0 g1, hG.p⟩
  obtain ⟨q1, _⟩ := hG.f g.toNat (by omega)
  rw [Int.toNat_of_nonneg g0] at q1
  have h := q1 p hp
  refine ⟨h.g, h.j, fun e => ?_⟩
  obtain ⟨T, Q, u⟩ := h.e e
  exact ⟨T, Q, (hE _ _).trans u⟩
/-- a machine's state beside its module -/
structure St where
  ak : Bool
  ca : Int
  ar : List Int
  tr : Int
  c : List Int
  fr : Fr
abbrev SInv (m : Int) (l : Fs) (hs : Int → List Int) (S : St) : Prop := Inv m l hs S.ak S.ar S.tr S.c S.fr
abbrev R26s (m : Int) (l : Fs) (S : St) : Option (Unit × MT × List Int × Unit × Fr × Unit) := R26 m l S.ak S.ca S.ar S.tr S.c S.fr
def halted (S : St) : Prop := S.tr ≠ 0 ∨ S.ak = true ∨ S.fr = []
instance (S : St) : Decidable (halted S) := by unfold halted; exact inferInstance
def stp (K : Nat) (m : Int) (l : Fs) (S : St) : St := match f26 K ((((), ()), ()), MS m [] l false S.ca S.ar 0, S.c, S.fr, ()) with
  | some r => ⟨r.2.1.2.2.2.1.1, r.2.1.2.2.2.1.2.1, r.2.1.2.2.2.1.2.2.1, r.2.1.2.2.2.1.2.2.2, r.2.2.1, r.2.2.2.2.1⟩
  | none => S
theorem stp_ok {K : Nat} (hK : 2000 ≤ K) {m : Int} {l : Fs} {hs : Int → List Int} (hM : Mach K m l hs) {S : St} (hI : SInv m l hs S) (hh : ¬ halted S) :
    f26 K ((((), ()), ()), MS m [] l false S.ca S.ar 0, S.c, S.fr, ()) = R26s m l (stp K m l S) ∧ SInv m l hs (stp K m l S) := by
  obtain ⟨ak, ca, ar, tr, c, fr⟩ := S
  have h1 : tr = 0 := by by_cases h : tr = 0 <;> simp_all [halted]
  have h2 : ak = false := by cases ak <;> simp_all [halted]
  subst h1 h2
  rcases List.eq_nil_or_concat fr with rfl | ⟨rest, F, rfl⟩
  · simp [halted] at hh
  · rw [List.concat_eq_append] at *
    obtain ⟨a1, a2, a3, a4, a5, a6, g, hI'⟩ := step_ok hK hM (call := ca) hI
    have e : stp K m l ⟨false, ca, ar, 0, c, rest ++ [F]⟩ = ⟨a1, a2, a3, a4, a5, a6⟩ := by
      unfold stp
      simp only []
      rw [g]
    rw [e]
    exact ⟨g, hI'⟩
def runP (K : Nat) (m : Int) (l : Fs) : Nat → St → Nat × St
  | 0, S => (0, S)
  | n + 1, S => if halted S then (0, S) else ((runP K m l n (stp K m l S)).1 + 1, (runP K m l n (stp K m l S)).2)
theorem runP_halted {K : Nat} {m : Int} {l : Fs} {S : St} (h : halted S) (n : Nat) : runP K m l n S = (0, S) := by
  cases n with
  | zero => rfl
  | succ n => rw [runP, if_pos h]
theorem runP_le (K : Nat) (m : Int) (l : Fs) : ∀ (n : Nat) (S : St), (runP K m l n S).1 ≤ n := by
  intro n
  induction n with
  | zero => intro S; exact Nat.le_refl _
  | succ n ih =>
    intro S
    rw [runP]
    split
    · exact Nat.zero_le _
    · exact Nat.succ_le_succ (ih _)
theorem runP_full (K : Nat) (m : Int) (l : Fs) : ∀ (n : Nat) (S : St), ¬ halted (runP K m l n S).2 → (runP K m l n S).1 = n := by
  intro n
  induction n with
  | zero => intro S _; rfl
  | succ n ih =>
    intro S
    rw [runP]
    split
    · rename_i h; intro h2; exact absurd h h2
    · intro h2; exact congrArg (· + 1) (ih _ h2)
theorem runP_inv {K : Nat} (hK : 2000 ≤ K) {m : Int} {l : Fs} {hs : Int → List Int} (hM : Mach K m l hs) : ∀ (n : Nat) (S : St), SInv m l hs S → SInv m l hs (runP K m l n S).2 := by
  intro n
  induction n with
  | zero => intro S h; exact h
  | succ n ih =>
    intro S h
    rw [runP]
    split
    · exact h
    · rename_i hh; exact ih _ (stp_ok hK hM h hh).2
/-- two ways along one road: whoever has come to its end is there -/
theorem runP_meet (K : Nat) (m : Int) (l : Fs) : ∀ (n n' : Nat) (S : St), halted (runP K m l n S).2 → halted (runP K m l n' S).2 → (runP K m l n S).2 = (runP K m l n' S).2 := by
  intro n
  induction n with
  | zero => intro n' S h _; rw [runP_halted (S := S) h n']; rfl
  | succ n ih =>
    intro n' S h h'
    by_cases hh : halted S
    · rw [runP_halted hh, runP_halted hh]
    · cases n' with
      | zero => exact absurd h' hh
      | succ n' =>
        rw [runP, if_neg hh] at h ⊢
        rw [runP, if_neg hh] at h' ⊢
        exact ih n' _ h h'
theorem runP_add (K : Nat) (m : Int) (l : Fs) : ∀ (n n' : Nat) (S : St), ¬ halted (runP K m l n S).2 → (runP K m l n' (runP K m l n S).2).2 = (runP K m l (n + n') S).2 := by
  intro n
  induction n with
  | zero => intro n' S h; rw [Nat.zero_add]; rfl
  | succ n ih =>
    intro n' S h
    by_cases hh : halted S
    · rw [runP_halted hh] at h; exact absurd hh h
    · rw [runP, if_neg hh] at h ⊢
      rw [show n + 1 + n' = (n + n') + 1 by omega, runP, if_neg hh]
      exact ih n' _ h
abbrev Tld : Type := Int × Int × Int × Int × List Int
/-- what a run tells at its end -/
def tell (S : St) (u : Nat) : Tld := if S.tr ≠ 0 then (4, S.tr, (u : Int), 0, []) else if S.ak = true then (3, 0, (u : Int), S.ca, S.ar) else if S.fr = [] then (1, 0, (u : Int), 0, []) else (2, 0, (u : Int), 0, [])
abbrev R16 (m : Int) (l : Fs) (t : Tld) (S : St) : Option (((Tld × Unit) × Unit) × MT × List Int × Unit × Fr × Unit) := some (((t, ()), ()), MS m [] l S.ak S.ca S.ar S.tr, S.c, (), S.fr, ())
theorem run_loop {K : Nat} (hK : 2000 ≤ K) {m : Int} {l : Fs} {hs : Int → List Int} (hM : Mach K m l hs) (n : Nat) (hn : n ≤ 5000) : ∀ (j u k : Nat) (S : St), u + j = n → j + 1 ≤ k → SInv m l hs S →
    loopN (lp K) k (GS (n : Int) (MS m [] l S.ak S.ca S.ar S.tr) S.c S.fr (0, 0, (u : Int), 0, [])) = R16 m l (tell (runP K m l j S).2 (u + (runP K m l j S).1)) (runP K m l j S).2 := by
  intro j
  induction j with
  | zero =>
    intro u k S hu hk hI
    obtain ⟨k, rfl⟩ : ∃ k2, k = k2 + 1 := ⟨k - 1, by omega⟩
    obtain ⟨ak, ca, ar, tr, c, fr⟩ := S
    show _ = R16 m l (tell ⟨ak, ca, ar, tr, c, fr⟩ u) _
    have hal : ar.length ≤ 8 := hI.al
    rw [loopN_succ]
    show e16_0 K 0 0 [] [] false 0 [] 0 [] [] _ _ = _
    rw [e16_0]
    simp only []
    by_cases h1 : tr = 0
    · subst h1
      rw [bpos rfl, cond_true]
      cases ak with
      | true =>
        rw [Bool.not_true, cond_false, nneg rfl, cond_false, cond_true, blt (by simp only [List.length_nil]; omega), Option.bind_some]
        rfl
      | false =>
        rw [Bool.not_false, cond_true]
        cases fr with
        | nil => rw [cneg (by simp), nneg rfl, cond_false, cond_false, bpos (by simp), cond_true]; rfl
        | cons f fr => rw [cpos (by simp only [List.length_cons]; omega), cneg (by omega), nneg rfl, cond_false, cond_false, bneg (by simp only [List.length_cons]; omega), cond_false]; rfl
    · rw [bneg h1, cond_false, npos h1, cond_true]
      unfold tell
      simp only []
      rw [if_pos h1]
      rfl
  | succ j ih =>
    intro u k S hu hk hI
    obtain ⟨k, rfl⟩ : ∃ k2, k = k2 + 1 := ⟨k - 1, by omega⟩
    by_cases hh : halted S
    · rw [runP_halted hh]
      obtain ⟨ak, ca, ar, tr, c, fr⟩ := S
      show _ = R16 m l (tell ⟨ak, ca, ar, tr, c, fr⟩ u) _
      have hal : ar.length ≤ 8 := hI.al
      rw [loopN_succ]
      show e16_0 K 0 0 [] [] false 0 [] 0 [] [] _ _ = _
      rw [e16_0]
      simp only []
      by_cases h1 : tr = 0
      · subst h1
        rw [bpos rfl, cond_true]
        cases ak with
        | true =>
          rw [Bool.not_true, cond_false, nneg rfl, cond_false, cond_true, blt (by simp only [List.length_nil]; omega), Option.bind_some]
          rfl
        | false =>
          have hfr : fr = [] := by simpa [halted] using hh
          subst hfr
          rw [Bool.not_false, cond_true, cneg (by simp), nneg rfl, cond_false, cond_false, bpos (by simp), cond_true]; rfl
      · rw [bneg h1, cond_false, npos h1, cond_true]
        unfold tell
        simp only []
        rw [if_pos h1]
    · obtain ⟨g, hI'⟩ := stp_ok hK hM hI hh
      rw [runP, if_neg hh]
      have h := ih (u + 1) k (stp K m l S) (by omega) (by omega) hI'
      obtain ⟨ak, ca, ar, tr, c, fr⟩ := S
      have h1 : tr = 0 := by by_cases h : tr = 0 <;> simp_all [halted]
      have h2 : ak = false := by cases ak <;> simp_all [halted]
      subst h1 h2
      cases fr with
      | nil => simp [halted] at hh
      | cons f fr =>
        rw [run_step (by omega) g, show (u : Int) + 1 = ((u + 1 : Nat) : Int) by omega, h]
        simp only []
        rw [show u + 1 + (runP K m l j (stp K m l ⟨false, ca, ar, 0, c, f :: fr⟩)).1 = u + ((runP K m l j (stp K m l ⟨false, ca, ar, 0, c, f :: fr⟩)).1 + 1) by omega]
/-- as much fuel as a run may have -/
def fuelN (n : Int) : Nat := (imin (imax n 0) 5000).toNat
theorem fuelN_eq (n : Int) : imin (imax n 0) 5000 = (fuelN n : Int) ∧ fuelN n ≤ 5000 := by
  unfold fuelN imin imax
  split <;> split <;> omega
/-- what a call of Run tells, and what it leaves -/
def told (K : Nat) (m : Int) (l : Fs) (n : Int) (S : St) : Tld := if S.fr = [] then (0, 0, 0, 0, []) else tell (runP K m l (fuelN n) S).2 (runP K m l (fuelN n) S).1
def left (K : Nat) (m : Int) (l : Fs) (n : Int) (S : St) : St := if S.fr = [] then S else (runP K m l (fuelN n) S).2
theorem bneg_nil {fr : Fr} (h : fr = []) : ((fr.length : Int) == 0) = true := by rw [h]; rfl
theorem run_tot {K : Nat} (hK : 6000 ≤ K) {m : Int} {l : Fs} {hs : Int → List Int} (hM : Mach K m l hs) (n : Int) (S : St) (hI : SInv m l hs S) :
    f16 K ((((), ()), (n, ()), ()), MS m [] l S.ak S.ca S.ar S.tr, S.c, S.fr, ()) = R16 m l (told K m l n S) (left K m l n S) := by
  refine (e16_eq K n m [] l S.c S.fr S.ak S.ca S.ar S.tr).trans ?_
  obtain ⟨f1, f2⟩ := fuelN_eq n
  unfold told left
  by_cases h : S.fr = []
  · rw [if_pos h, if_pos h, bneg_nil h, cond_true, List.take_length]
  · have hl : S.fr.length ≠ 0 := fun e => h (List.length_eq_zero_iff.1 e)
    rw [if_neg h, if_neg h, bneg (by omega), cond_false, List.take_length, f1]
    have := run_loop (K := K) (by omega) hM (fuelN n) f2 (fuelN n) 0 K S (by omega) (by omega) hI
    rw [Nat.zero_add] at this
    exact this
theorem left_inv {K : Nat} (hK : 2000 ≤ K) {m : Int} {l : Fs} {hs : Int → List Int} (hM : Mach K m l hs) (n : Int) (S : St) (hI : SInv m l hs S) : SInv m l hs (left K m l n S) := by
  unfold left
  split
  · exact hI
  · exact runP_inv hK hM _ _ hI
/-! Begin, Busy, Reply of a sound machine; what is told -/
theorem busy_of (K : Nat) (m : Int) (l : Fs) (S : St) : f17 K ((((), ()), ()), MS m [] l S.ak S.ca S.ar S.tr, S.c, S.fr, ()) = some (((decide (S.tr = 0 ∧ S.fr ≠ []), ()), ()), ()) := by
  refine (s17_eq K m [] l S.c S.fr S.ak S.ca S.ar S.tr).trans ?_
  by_cases h : S.tr = 0
  · rw [bpos h, cond_true]
    by_cases h2 : S.fr = []
    · rw [decide_eq_false (by rw [h2]; simp), decide_eq_false (by simp [h2])]
    · rw [decide_eq_true (by have : S.fr.length ≠ 0 := fun e => h2 (List.length_eq_zero_iff.1 e); omega), decide_eq_true ⟨h, h2⟩]
  · rw [bneg h, cond_false, decide_eq_false (fun e => h e.1)]
abbrev R10 (m : Int) (l : Fs) (e : Int) (S : St) : Option (((Int × Unit) × Unit) × MT × List Int × Unit × Fr × Unit) := some (((e, ()), ()), MS m [] l S.ak S.ca S.ar S.tr, S.c, (), S.fr, ())
abbrev R15 (m : Int) (l : Fs) (e : Int) (S : St) : Option (((Int × Unit) × Unit) × MT × List Int × Fr × Unit) := some (((e, ()), ()), MS m [] l S.ak S.ca S.ar S.tr, S.c, S.fr, ())
def begS (l : Fs) (S : St) (a b e : Int) : St := ⟨S.ak, S.ca, S.ar, S.tr, S.c, [(0, 0, loc ((fa l 0).1 + (fa l 0).2.2.1).toNat [a, b, e], [])]⟩
theorem begS_go {l : Fs} {S : St} {a b e : Int} (h1 : S.tr = 0) (h2 : S.ak = false) : ¬ halted (begS l S a b e) := by
  unfold halted begS
  simp [h1, h2]
theorem beg_ok {K : Nat} {m : Int} {l : Fs} {hs : Int → List Int} (hM : Mach K m l hs) {S : St} (hI : SInv m l hs S) (h1 : S.tr = 0) (h2 : S.fr = []) (a b e : Int) :
    f10 K ((((), ()), (a, ()), (b, ()), (e, ()), ()), MS m [] l S.ak S.ca S.ar S.tr, S.c, S.fr, ()) = R10 m l 0 (begS l S a b e) ∧ SInv m l hs (begS l S a b e) ∧ ¬ halted (begS l S a b e) := by
  have hk : S.ak = false := by
    cases hk : S.ak with
    | false => rfl
    | true => exact absurd h2 (hI.ne (.inr hk))
  have hb := busy_of K m l S
  rw [decide_eq_false (fun e => e.2 h2)] at hb
  have hnl := hM.nl
  have hF := hM.f 0 (by omega)
  have he := enter_of (K := K) 0 [a, b, e] m [] l S.ak S.ca S.ar S.tr S.c S.fr (by rw [h2]; simp) (by decide) (by omega) hF
  refine ⟨(s10_eq K a b e m [] l S.c S.fr S.ak S.ca S.ar S.tr).trans ?_, ?_, begS_go h1 hk⟩
  · rw [hb, Option.bind_some]
    simp only []
    rw [cond_false, nneg h1, cond_false, he, Option.bind_some]
    simp only [h2]
    rfl
  · have hp := hF.p
    have hv := hF.v
    have hn := hF.n
    have := Inv.go (rest := []) (F := (0, 0, loc ((fa l 0).1 + (fa l 0).2.2.1).toNat [a, b, e], [])) (hs := hs) (l := l) (args := S.ar) hI.mem hI.al (by decide) (waits_one _ _ _) ⟨⟨Int.le_refl _, by show (0 : Int) < (l.length : Int); omega⟩, ⟨Int.le_refl _, by show (0 : Int) < ((fa l 0).2.2.2.length : Int); omega⟩, by
      show ((loc _ _).length : Int) = (fa l 0).1 + (fa l 0).2.2.1
      rw [loc_len]; omega⟩ (show ia (hs 0) 0 = 0 from (hM.ht 0 (by decide) (by omega)).z)
    show Inv m l hs S.ak S.ar S.tr S.c _
    rw [hk, h1]
    exact this
theorem beg_no {K : Nat} {m : Int} {l : Fs} {S : St} (h : ¬ (S.tr = 0 ∧ S.fr = [])) (a b e : Int) :
    f10 K ((((), ()), (a, ()), (b, ()), (e, ()), ()), MS m [] l S.ak S.ca S.ar S.tr, S.c, S.fr, ()) = R10 m l 1 S := by
  have hb := busy_of K m l S
  refine (s10_eq K a b e m [] l S.c S.fr S.ak S.ca S.ar S.tr).trans ?_
  rw [hb, Option.bind_some]
  simp only []
  by_cases h1 : S.tr = 0
  · rw [decide_eq_true ⟨h1, fun e => h ⟨h1, e⟩⟩, cond_true, List.take_length]
  · rw [decide_eq_false (fun e => h1 e.1), cond_false, npos h1, cond_true, List.take_length]
theorem rep_no {K : Nat} {m : Int} {l : Fs} {S : St} (h : S.ak = false) (v : Int) : f15 K ((((), ()), (v, ()), ()), MS m [] l S.ak S.ca S.ar S.tr, S.c, S.fr, ()) = R15 m l 1 S := by
  obtain ⟨ak, ca, ar, tr, c, fr⟩ := S
  obtain rfl : ak = false := h
  exact s15_eq K v m [] l c fr false ca ar tr
theorem rep_ok {K : Nat} {m : Int} {l : Fs} {hs : Int → List Int} (hM : Mach K m l hs) {S : St} (hI : SInv m l hs S) (h : S.ak = true) (v : Int) : ∃ S', f15 K ((((), ()), (v, ()), ()), MS m [] l S.ak S.ca S.ar S.tr, S.c, S.fr, ()) = R15 m l 0 S' ∧ SInv m l hs S' ∧ S'.ak = false ∧ ¬ halted S' := by
  obtain ⟨ak, ca, ar, tr, c, fr⟩ := S
  obtain rfl : ak = true := h
  obtain rfl : tr = 0 := hI.at_ rfl
  rcases List.eq_nil_or_concat fr with rfl | ⟨rest, F, rfl⟩
  · exact absurd rfl (hI.ne (.inr rfl))
  · rw [List.concat_eq_append] at *
    obtain ⟨f, a, lo, s⟩ := F
    have hlen : (rest ++ [(f, a, lo, s)]).length ≤ 16 := hI.n
    rw [List.length_append, List.length_singleton] at hlen
    obtain ⟨u1, u2⟩ := hI.top rfl rest (f, a, lo, s) rfl
    have u2' : ia (hs f) a.toNat = (s.length : Int) + 1 := u2
    have ua : 0 ≤ a ∧ a < ((fa l f.toNat).2.2.2.length : Int) := u1.a
    have hlo := ((hM.ht f u1.f.1 u1.f.2).w.lo a.toNat (by omega)).2
    refine ⟨⟨false, ca, ar, 0, c, rest ++ [(f, a, lo, s ++ [v])]⟩, (s15_eq K v m [] l c (rest ++ [(f, a, lo, s)]) true ca ar 0).trans ?_, Inv.go hI.mem hI.al (by omega) (hI.w.swap rfl) ⟨u1.f, u1.a, u1.lo⟩ ?_, rfl, by simp [halted]⟩
    · rw [Bool.not_true, cond_false, top_of K m [] l false ca ar 0 c rest (f, a, lo, s) (by omega), Option.bind_some]
      simp only []
      rw [push_of K rest f a v lo s (by omega), Option.bind_some]
    · show ia (hs f) a.toNat = ((s ++ [v]).length : Int)
      rw [List.length_append, List.length_singleton]; omega
theorem told_go {K : Nat} {m : Int} {l : Fs} {n : Int} {S : St} (h : S.fr ≠ []) : told K m l n S = tell (runP K m l (fuelN n) S).2 (runP K m l (fuelN n) S).1 := if_neg h
theorem left_go {K : Nat} {m : Int} {l : Fs} {n : Int} {S : St} (h : S.fr ≠ []) : left K m l n S = (runP K m l (fuelN n) S).2 := if_neg h
theorem told_0 {K : Nat} {m : Int} {l : Fs} {S : St} (h : S.fr ≠ []) : told K m l 0 S = tell S 0 := told_go h
theorem left_0 {K : Nat} {m : Int} {l : Fs} {S : St} : left K m l 0 S = S := by unfold left; split <;> rfl
theorem told_halted {K : Nat} {m : Int} {l : Fs} {n : Int} {S : St} (h : S.fr ≠ []) (hh : halted S) : told K m l n S = tell S 0 := by rw [told_go h, runP_halted hh]
theorem left_halted {K : Nat} {m : Int} {l : Fs} {n : Int} {S : St} (hh : halted S) : left K m l n S = S := by
  unfold left; split
  · rfl
  · rw [runP_halted hh]
theorem tell_dead {S : St} {u : Nat} (h : S.tr ≠ 0) : tell S u = (4, S.tr, (u : Int), 0, []) := if_pos h
theorem tell_asks {S : St} {u : Nat} (h : S.tr = 0) (h2 : S.ak = true) : tell S u = (3, 0, (u : Int), S.ca, S.ar) := by
  unfold tell; rw [if_neg (by simp [h]), if_pos h2]
theorem tell_done {S : St} {u : Nat} (h : S.tr = 0) (h2 : S.ak = false) (h3 : S.fr = []) : tell S u = (1, 0, (u : Int), 0, []) := by
  unfold tell; rw [if_neg (by simp [h]), if_neg (by simp [h2]), if_pos h3]
theorem tell_fuel {S : St} {u : Nat} (h : S.tr = 0) (h2 : S.ak = false) (h3 : S.fr ≠ []) : tell S u = (2, 0, (u : Int), 0, []) := by
  unfold tell; rw [if_neg (by simp [h]), if_neg (by simp [h2]), if_neg h3]
end
end Go.Proofs.Ytjbdeccohpbegaa.Vm
