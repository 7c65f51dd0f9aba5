import Derived.Test.YtaklapcbbdcdpaaDoorXB
namespace Go.Proofs.YtaklapcbbdcdpaaDoor.X
open Go Go.RowKit
set_option linter.unusedVariables false
set_option linter.unusedSimpArgs false

def LR {α β : Type} (R : α → β → Prop) : List α → List β → Prop
  | [], [] => True
  | a :: as, b :: bs => R a b ∧ LR R as bs
  | _, _ => False
theorem LR.imp {α β : Type} {R S : α → β → Prop} (h : ∀ a b, R a b → S a b) : ∀ {as : List α} {bs : List β}, LR R as bs → LR S as bs
  | [], [], _ => trivial
  | _ :: _, _ :: _, hr => ⟨h _ _ hr.1, LR.imp h hr.2⟩
  | [], _ :: _, hr => hr.elim
  | _ :: _, [], hr => hr.elim
theorem LR.imp_mem {α β : Type} {R S : α → β → Prop} : ∀ {as : List α} {bs : List β}, (∀ a ∈ as, ∀ b, R a b → S a b) → LR R as bs → LR S as bs
  | [], [], _, _ => trivial
  | a :: as, b :: bs, h, hr => ⟨h a (by simp) b hr.1, LR.imp_mem (fun a ha b => h a (by simp [ha]) b) hr.2⟩
  | [], _ :: _, _, hr => hr.elim
  | _ :: _, [], _, hr => hr.elim
theorem LR.length {α β : Type} {R : α → β → Prop} : ∀ {as : List α} {bs : List β}, LR R as bs → as.length = bs.length
  | [], [], _ => rfl
  | _ :: _, _ :: _, h => by simp [LR.length h.2]
  | [], _ :: _, hr => hr.elim
  | _ :: _, [], hr => hr.elim
theorem LR.get {α β : Type} {R : α → β → Prop} : ∀ {as : List α} {bs : List β}, LR R as bs → ∀ {i : Nat} {a : α} {b : β}, as[i]? = some a → bs[i]? = some b → R a b
  | a :: as, b :: bs, h, 0, _, _, ha, hb => by simp at ha hb; subst ha; subst hb; exact h.1
  | a :: as, b :: bs, h, i + 1, _, _, ha, hb => LR.get h.2 (by simpa using ha) (by simpa using hb)
  | [], [], _, _, _, _, ha, _ => by simp at ha
  | [], _ :: _, hr, _, _, _, _, _ => hr.elim
  | _ :: _, [], hr, _, _, _, _, _ => hr.elim
theorem LR.of_get {α β : Type} {R : α → β → Prop} : ∀ {as : List α} {bs : List β}, as.length = bs.length → (∀ (i : Nat) a b, as[i]? = some a → bs[i]? = some b → R a b) → LR R as bs
  | [], [], _, _ => trivial
  | a :: as, b :: bs, hl, h => ⟨h 0 a b rfl rfl, LR.of_get (by simpa using hl) fun i x y hx hy => h (i + 1) x y (by simpa using hx) (by simpa using hy)⟩
  | [], _ :: _, hl, _ => by simp at hl
  | _ :: _, [], hl, _ => by simp at hl
theorem LR.append {α β : Type} {R : α → β → Prop} : ∀ {as : List α} {bs : List β} {cs : List α} {ds : List β}, LR R as bs → LR R cs ds → LR R (as ++ cs) (bs ++ ds)
  | [], [], _, _, _, h => h
  | _ :: _, _ :: _, _, _, h, h' => ⟨h.1, LR.append h.2 h'⟩
  | [], _ :: _, _, _, hr, _ => hr.elim
  | _ :: _, [], _, _, hr, _ => hr.elim
theorem LR.drop {α β : Type} {R : α → β → Prop} : ∀ {as : List α} {bs : List β} (n : Nat), LR R as bs → LR R (as.drop n) (bs.drop n)
  | _, _, 0, h => h
  | [], [], n + 1, h => by simpa using h
  | _ :: _, _ :: _, n + 1, h => by simpa using LR.drop n h.2
  | [], _ :: _, _ + 1, hr => hr.elim
  | _ :: _, [], _ + 1, hr => hr.elim
theorem LR.take {α β : Type} {R : α → β → Prop} : ∀ {as : List α} {bs : List β} (n : Nat), LR R as bs → LR R (as.take n) (bs.take n)
  | _, _, 0, h => by simp [LR]
  | [], [], n + 1, h => by simpa using h
  | _ :: _, _ :: _, n + 1, h => by simpa using ⟨h.1, LR.take n h.2⟩
  | [], _ :: _, _ + 1, hr => hr.elim
  | _ :: _, [], _ + 1, hr => hr.elim
theorem LR.split {α β : Type} {R : α → β → Prop} : ∀ {as cs : List α} {bs : List β}, LR R (as ++ cs) bs → ∃ b1 b2, bs = b1 ++ b2 ∧ LR R as b1 ∧ LR R cs b2
  | [], _, bs, h => ⟨[], bs, rfl, trivial, h⟩
  | a :: as, cs, b :: bs, h => by
    obtain ⟨b1, b2, rfl, h1, h2⟩ := LR.split (as := as) h.2
    exact ⟨b :: b1, b2, rfl, ⟨h.1, h1⟩, h2⟩
  | _ :: _, _, [], h => h.elim
theorem LR.map_left {α β γ : Type} {R : α → β → Prop} {f : γ → α} : ∀ {as : List γ} {bs : List β}, LR R (as.map f) bs → LR (fun a b => R (f a) b) as bs
  | [], [], _ => trivial
  | _ :: _, _ :: _, h => ⟨h.1, LR.map_left h.2⟩
  | [], _ :: _, hr => hr.elim
  | _ :: _, [], hr => hr.elim
theorem LR.of_map_left {α β γ : Type} {R : α → β → Prop} {f : γ → α} : ∀ {as : List γ} {bs : List β}, LR (fun a b => R (f a) b) as bs → LR R (as.map f) bs
  | [], [], _ => trivial
  | _ :: _, _ :: _, h => ⟨h.1, LR.of_map_left h.2⟩
  | [], _ :: _, hr => hr.elim
  | _ :: _, [], hr => hr.elim

/-- a place in memory: the block, its first cell, how many elements it bears -/
structure Pl where
  b : Nat
  base : Nat
  cap : Nat
  /-- the blocks of its elements' own slices -/
  inn : Nat → Prop
def Pl.foot (p : Pl) (k : Nat) : Prop := p.b = k ∨ p.inn k
def Pl.core (p : Pl) : Nat × Nat × Nat := (p.b, p.base, p.cap)
abbrev Rho := Nat → Option Pl
def cor (ρ : Rho) (l : Nat) : Option (Nat × Nat × Nat) := (ρ l).map Pl.core
theorem cor_some {ρ ρ' : Rho} {l l' : Nat} {p : Pl} (h : cor ρ' l' = cor ρ l) (hp : ρ l = some p) : ∃ p', ρ' l' = some p' ∧ p'.b = p.b ∧ p'.base = p.base ∧ p'.cap = p.cap := by
  unfold cor at h
  rw [hp] at h
  cases hq : ρ' l' with
  | none => rw [hq] at h; cases h
  | some p' =>
    rw [hq] at h
    simp only [Option.map_some, Option.some.injEq, Pl.core, Prod.mk.injEq] at h
    exact ⟨p', rfl, h.1, h.2.1, h.2.2⟩
theorem cor_none {ρ ρ' : Rho} {l l' : Nat} (h : cor ρ' l' = cor ρ l) (hp : ρ l = none) : ρ' l' = none := by
  unfold cor at h
  rw [hp] at h
  cases hq : ρ' l' with
  | none => rfl
  | some p' => rw [hq] at h; cases h
theorem cor_of {ρ ρ' : Rho} {l l' : Nat} (h : ρ' l' = ρ l) : cor ρ' l' = cor ρ l := by unfold cor; rw [h]

/-- what is read at a value, through memory that stays -/
inductive R1 (w : World) (A : Nat → Prop) : DV → Value → Prop
  | lit {v : Value} (h : v.oneCell' = true) : R1 w A (.lit v) v
  | nil {n : Nat} {a : Option Addr} {cap : Nat} (h : n ≤ cap) : R1 w A (.sl n []) (.slice a n cap)
  | sl {n : Nat} {cs : List DV} {ad : Addr} {cap : Nat} (u : List Value) (h : n ≤ cap) (hl : u.length = cs.length) (hA : A ad.block)
      (hu : ∀ j v, u[j]? = some v → w.cell? (ad.add j) = some v) (hr : ∀ (j : Nat) d v, cs[j]? = some d → u[j]? = some v → R1 w A d v) : R1 w A (.sl n cs) (.slice (some ad) n cap)
theorem add_block (a : Addr) (n : Nat) : (a.add n).block = a.block := by unfold Addr.add; split <;> rfl
theorem R1.mono {w w' : World} {A A' : Nat → Prop} (hw : ∀ k, A k → w'.heap[k]? = w.heap[k]?) (hA : ∀ k, A k → A' k) {d : DV} {v : Value} (h : R1 w A d v) : R1 w' A' d v := by
  induction h with
  | lit h => exact .lit h
  | nil h => exact .nil h
  | sl u h hl hAd hu hr ih =>
    refine .sl u h hl (hA _ hAd) (fun j v hj => ?_) ih
    rw [World.cell?_of_block (w := w) (by rw [add_block]; exact hw _ hAd)]
    exact hu j v hj
theorem R1.one {w : World} {A : Nat → Prop} {d : DV} {v : Value} (h : R1 w A d v) : v.oneCell' = true := by
  cases h <;> first | assumption | rfl

def own (H : Heap) (ρ : Rho) (k : Nat) : Prop := ∃ l p, (H.at l).isLive = true ∧ ρ l = some p ∧ p.foot k
/-- Z: blocks of others that nothing here leads to -/
def A (Z : Nat → Prop) (H : Heap) (ρ : Rho) (w : World) (k : Nat) : Prop := k < w.heap.size ∧ ¬ own H ρ k ∧ ¬ Z k
def SlQ (q : Option Pl) (sz off len : Nat) (v : Value) : Prop :=
  (∃ p cap, q = some p ∧ v = .slice (some ⟨p.b, p.base + off * sz, none⟩) len cap ∧ len ≤ cap ∧ off + cap ≤ p.cap) ∨ (len = 0 ∧ ∃ a, v = .slice a 0 0)
def SlAt (ρ : Rho) (l sz off len : Nat) (v : Value) : Prop := SlQ (ρ l) sz off len v
theorem SlAt.cor {ρ ρ' : Rho} {l l' sz off len : Nat} {v : Value} (h : cor ρ' l' = cor ρ l) (hs : SlAt ρ l sz off len v) : SlAt ρ' l' sz off len v := by
  rcases hs with ⟨p, cap, h1, h2, h3, h4⟩ | hs
  · obtain ⟨p', g1, g2, g3, g4⟩ := cor_some h h1
    exact .inl ⟨p', cap, g1, by rw [g2, g3]; exact h2, h3, by rw [g4]; exact h4⟩
  · exact .inr hs
theorem ptr_cor {ρ ρ' : Rho} {l l' : Nat} {f : Nat → Nat → Value} {v : Value} (h : X.cor ρ' l' = X.cor ρ l) (hs : ∃ p, ρ l = some p ∧ v = f p.b p.base) : ∃ p, ρ' l' = some p ∧ v = f p.b p.base := by
  obtain ⟨p, h1, h2⟩ := hs
  obtain ⟨p', g1, g2, g3, g4⟩ := cor_some h h1
  exact ⟨p', g1, by rw [g2, g3]; exact h2⟩
def V0 (Z : Nat → Prop) (H : Heap) (ρ : Rho) (w : World) : C1 → Value → Prop
  | .any, _ => True
  | .lit u, v => v = u ∧ u.oneCell' = true
  | .ptr l off, v => l < H.length ∧ v.oneCell' = true ∧ ((H.at l).isLive = true → ∃ p, ρ l = some p ∧ v = .pointer (some ⟨p.b, off, none⟩))
  | .ep l sz i o, v => l < H.length ∧ (∃ ad, v = .pointer (some ad)) ∧ ∀ z n, (H.at l).dim = some (z, n) → i < n ∧ sz = z ∧ ∃ p, ρ l = some p ∧ v = .pointer (some ⟨p.b, p.base + i * sz + o, none⟩)
  | .vp s xs i o, v => i < xs.length ∧ ∃ ad n cap, R1 w (A Z H ρ w) (.sl xs.length (xs.flatMap s.dv)) (.slice (some ad) n cap) ∧ v = .pointer (some (ad.add (i * s.sz + o)))
  | .own l sz, v => l < H.length ∧ v.oneCell' = true ∧ ∀ z n, (H.at l).dim = some (z, n) → sz = z ∧ SlAt ρ l sz 0 n v
  | .sl l sz off len, v => l < H.length ∧ v.oneCell' = true ∧ ∀ z n, (H.at l).dim = some (z, n) → sz = z ∧ off + len ≤ n ∧ SlAt ρ l sz off len v
  | .vsl s xs, v => R1 w (A Z H ρ w) (.sl xs.length (xs.flatMap s.dv)) v
  | .fn _ _, _ => False
def V1 (Z : Nat → Prop) (H : Heap) (ρ : Rho) (w : World) : C1 → Value → Prop
  | .fn f cs, v => ∃ us : Array Value, v = .func (.func f) #[] us ∧ LR (V0 Z H ρ w) cs us.toList
  | c, v => V0 Z H ρ w c v
def V2 (Z : Nat → Prop) (H : Heap) (ρ : Rho) (w : World) : A2 → Value → Prop
  | .one c, v => V1 Z H ρ w c v
  | .agg cs, v => ∃ us : Array Value, v = .agg us ∧ LR (V1 Z H ρ w) cs us.toList
def VA (Z : Nat → Prop) (H : Heap) (ρ : Rho) (w : World) : AV → Value → Prop
  | .v a, v => V2 Z H ρ w a v
  | .tup as, v => ∃ us : Array Value, v = .tuple us ∧ LR (V2 Z H ρ w) as us.toList
/-- a row at a place -/
def RowQ (w : World) (A : Nat → Prop) (e : TypeId) (s : Sh) (xs : List s.T) (q : Option Pl) : Prop :=
  (xs = [] ∧ q = none) ∨ ∃ p cur us, q = some p ∧ w.heap[p.b]? = some (.cells cur e (0, 0)) ∧ p.base + p.cap * s.sz ≤ cur.size ∧ xs.length ≤ p.cap ∧ p.cap ≤ maxLen ∧
      (∀ (j : Nat) v, us[j]? = some v → cur[p.base + j]? = some v) ∧ LR (R1 w A) (xs.flatMap s.dv) us
/-- an element with slices of its own: its cells, and where these lie -/
inductive NE (w : World) (A : Nat → Prop) : (es : List TypeId) → (s : Sh) → s.T → List Value → List (Option Pl) → Prop
  | unit : NE w A [] .unit () [] []
  | int {k : IntKind} {n : Int} : NE w A [] (.int k) n [.int k n] []
  | bool {b : Bool} : NE w A [] .bool b [.bool b] []
  | str {b : ByteArray} : NE w A [] .str b [.string b] []
  | inn {e : TypeId} {s : Sh} {ys : List s.T} {v : Value} {q : Option Pl} (h1 : SlQ q s.sz 0 ys.length v) (h2 : RowQ w A e s ys q) (h3 : ∀ p, q = some p → ∀ k, ¬ p.inn k) : NE w A [e] (.sl s) ys [v] [q]
  | pair {ea eb : List TypeId} {a b : Sh} {x : a.T × b.T} {ua ub : List Value} {pa pb : List (Option Pl)} (h1 : NE w A ea a x.1 ua pa) (h2 : NE w A eb b x.2 ub pb) : NE w A (ea ++ eb) (.pair a b) x (ua ++ ub) (pa ++ pb)
/-- the places of the elements' own slices: all apart -/
structure PD (p : Pl) (pss : List (List (Option Pl))) : Prop where
  foot : ∀ (i : Nat) ps q, pss[i]? = some ps → some q ∈ ps → p.inn q.b
  apart : ∀ (i i' : Nat) ps ps' (m m' : Nat) q q', pss[i]? = some ps → pss[i']? = some ps' → ps[m]? = some (some q) → ps'[m']? = some (some q') → q.b = q'.b → i = i' ∧ m = m'
structure Nest (w : World) (A : Nat → Prop) (V : C1 → Value → Prop) (e : TypeId) (es : List TypeId) (s : Sh) (xs : List s.T) (op : Option (Nat × List C1)) (p : Pl) (cur : Array Value) (uss : List (List Value)) (pss : List (List (Option Pl))) : Prop where
  at_ : w.heap[p.b]? = some (.cells cur e (0, 0))
  size : p.base + p.cap * s.sz ≤ cur.size
  len : xs.length ≤ p.cap
  cap : p.cap ≤ maxLen
  ul : uss.length = xs.length
  pl : pss.length = xs.length
  us : ∀ i us, uss[i]? = some us → us.length = s.sz ∧ ∀ (j : Nat) v, us[j]? = some v → cur[p.base + i * s.sz + j]? = some v
  el : ∀ i x us ps, xs[i]? = some x → uss[i]? = some us → pss[i]? = some ps → (∀ cs, op ≠ some (i, cs)) → NE w A es s x us ps
  op : ∀ i cs, op = some (i, cs) → i < xs.length ∧ cs.all storable = true ∧ ∀ us ps, uss[i]? = some us → pss[i]? = some ps → ps = [] ∧ LR V cs us
  pd : PD p pss
def Holds (Z : Nat → Prop) (H : Heap) (ρ : Rho) (w : World) (l : Nat) : AO → Prop
  | .dead => True
  | .cells e cs => ∃ p vs, ρ l = some p ∧ w.heap[p.b]? = some (.cells vs e (0, 0)) ∧ LR (V1 Z H ρ w) cs vs.toList ∧ cs.all storable = true
  | .row e s xs => (xs = [] ∧ ρ l = none) ∨ ∃ p cur us, ρ l = some p ∧ w.heap[p.b]? = some (.cells cur e (0, 0)) ∧ p.base + p.cap * s.sz ≤ cur.size ∧ xs.length ≤ p.cap ∧ p.cap ≤ maxLen ∧
      (∀ (j : Nat) v, us[j]? = some v → cur[p.base + j]? = some v) ∧ LR (R1 w (A Z H ρ w)) (xs.flatMap s.dv) us
  | .nest e es s xs op => (xs = [] ∧ op = none ∧ ρ l = none) ∨ ∃ p cur uss pss, ρ l = some p ∧ Nest w (A Z H ρ w) (V1 Z H ρ w) e es s xs op p cur uss pss
/-- the package variables read as they were laid -/
def Glob (Z : Nat → Prop) (H : Heap) (ρ : Rho) (w : World) : Prop := ∀ g x, globAt globs g = some x → V0 Z H ρ w (.vp x.1 x.2 0 0) (.pointer (some ⟨g, 0, none⟩))
structure Rel (Z : Nat → Prop) (H : Heap) (ρ : Rho) (w : World) : Prop where
  obj : ∀ l, Holds Z H ρ w l (H.at l)
  inj : ∀ l l' p p' k, (H.at l).isLive = true → (H.at l').isLive = true → ρ l = some p → ρ l' = some p' → p.foot k → p'.foot k → l = l'
  inn : ∀ l p k, (H.at l).isLive = true → ρ l = some p → p.inn k → k ≠ p.b ∧ k < w.heap.size
  zlt : ∀ k, Z k → k < w.heap.size
  dis : ∀ k, Z k → ¬ own H ρ k
  gl : Glob Z H ρ w
def TRel (Z : Nat → Prop) (H : Heap) (ρ : Rho) (w : World) (ts : TS) (a : Act) : Prop := ∀ t, VA Z H ρ w (ts.get t) (a.tmps.getD t undef)
structure Ext (H : Heap) (ρ : Rho) (w : World) (H' : Heap) (ρ' : Rho) (w' : World) : Prop where
  os : w'.os = w.os
  tape : w'.tape = w.tape
  output : w'.output = w.output
  size : w.heap.size ≤ w'.heap.size
  keep : ∀ k, k < w.heap.size → ¬ own H ρ k → w'.heap[k]? = w.heap[k]?
  own : ∀ k, own H' ρ' k → own H ρ k ∨ w.heap.size ≤ k
  len : H.length ≤ H'.length
  rho : ∀ l, l < H.length → cor ρ' l = cor ρ l
  live : ∀ l, l < H.length → (H'.at l).isLive = true → (H.at l).isLive = true
  row : ∀ l, l < H.length → ∀ d, (H'.at l).dim = some d → (H.at l).dim = some d
theorem dim_row {H : Heap} {l : Nat} {e : TypeId} {s : Sh} {xs : List s.T} (h : H.at l = .row e s xs) : (H.at l).dim = some (s.sz, xs.length) := by rw [h]; rfl
theorem dim_nest {H : Heap} {l : Nat} {e : TypeId} {es : List TypeId} {s : Sh} {xs : List s.T} {op : Option (Nat × List C1)} (h : H.at l = .nest e es s xs op) : (H.at l).dim = some (s.sz, xs.length) := by rw [h]; rfl
theorem dim_live {o : AO} {d : Nat × Nat} (h : o.dim = some d) : o.isLive = true := by cases o <;> first | rfl | cases h

theorem at_lt {H : Heap} {l : Nat} (h : (H.at l).isLive = true) : l < H.length := by
  unfold Heap.at at h
  rcases Nat.lt_or_ge l H.length with h' | h'
  · exact h'
  · rw [List.getD_eq_getElem?_getD, List.getElem?_eq_none h'] at h; simp [AO.isLive] at h
theorem Rel.lt {Z : Nat → Prop} {H : Heap} {ρ : Rho} {w : World} (h : Rel Z H ρ w) {l : Nat} {p : Pl} (hl : (H.at l).isLive = true) (hp : ρ l = some p) : p.b < w.heap.size := by
  have ho := h.obj l
  cases hc : H.at l with
  | dead => simp [hc, AO.isLive] at hl
  | cells e cs =>
    rw [hc] at ho; obtain ⟨q, vs, hq, hw, _⟩ := ho
    rw [hp] at hq; cases hq
    exact (Array.getElem?_eq_some_iff.1 hw).1
  | row e s xs =>
    rw [hc] at ho
    rcases ho with ⟨_, hn⟩ | ⟨q, cur, us, hq, hw, _⟩
    · rw [hp] at hn; cases hn
    · rw [hp] at hq; cases hq
      exact (Array.getElem?_eq_some_iff.1 hw).1
  | nest e es s xs op =>
    rw [hc] at ho
    rcases ho with ⟨_, _, hn⟩ | ⟨q, cur, us, pss, hq, hw⟩
    · rw [hp] at hn; cases hn
    · rw [hp] at hq; cases hq
      exact (Array.getElem?_eq_some_iff.1 hw.at_).1
theorem Rel.foot_lt {Z : Nat → Prop} {H : Heap} {ρ : Rho} {w : World} (h : Rel Z H ρ w) {l : Nat} {p : Pl} {k : Nat} (hl : (H.at l).isLive = true) (hp : ρ l = some p) (hk : p.foot k) : k < w.heap.size := by
  rcases hk with rfl | hk
  · exact h.lt hl hp
  · exact (h.inn l p k hl hp hk).2
theorem Rel.own_lt {Z : Nat → Prop} {H : Heap} {ρ : Rho} {w : World} (h : Rel Z H ρ w) {k : Nat} (hk : own H ρ k) : k < w.heap.size := by
  obtain ⟨l, p, hl, hp, hk⟩ := hk; exact h.foot_lt hl hp hk
theorem Rel.injb {Z : Nat → Prop} {H : Heap} {ρ : Rho} {w : World} (h : Rel Z H ρ w) (l l' : Nat) (p p' : Pl) (hl : (H.at l).isLive = true) (hl' : (H.at l').isLive = true) (hp : ρ l = some p) (hp' : ρ l' = some p') (hb : p.b = p'.b) : l = l' :=
  h.inj l l' p p' p.b hl hl' hp hp' (.inl rfl) (.inl hb.symm)
section mono
variable {Z : Nat → Prop} {H H' : Heap} {ρ ρ' : Rho} {w w' : World}
theorem Ext.A (e : Ext H ρ w H' ρ' w') {k : Nat} (h : A Z H ρ w k) : A Z H' ρ' w' k :=
  ⟨Nat.lt_of_lt_of_le h.1 e.size, fun hk => (e.own k hk).elim h.2.1 (fun hs => absurd h.1 (by omega)), h.2.2⟩
theorem Ext.R1 (e : Ext H ρ w H' ρ' w') {d : DV} {v : Value} (h : R1 w (X.A Z H ρ w) d v) : R1 w' (X.A Z H' ρ' w') d v :=
  h.mono (fun k hk => e.keep k hk.1 hk.2.1) fun k hk => e.A hk
theorem Ext.V0 (e : Ext H ρ w H' ρ' w') {c : C1} {v : Value} (h : V0 Z H ρ w c v) : V0 Z H' ρ' w' c v := by
  cases c with
  | any => trivial
  | lit u => exact h
  | ptr l off =>
    obtain ⟨h1, h2, h3⟩ := h
    exact ⟨Nat.lt_of_lt_of_le h1 e.len, h2, fun hl => ptr_cor (f := fun b _ => .pointer (some ⟨b, off, none⟩)) (e.rho l h1) (h3 (e.live l h1 hl))⟩
  | ep l sz i o =>
    obtain ⟨h1, h2, h3⟩ := h
    refine ⟨Nat.lt_of_lt_of_le h1 e.len, h2, fun z n hd => ?_⟩
    obtain ⟨g1, g2, g3⟩ := h3 z n (e.row l h1 _ hd)
    exact ⟨g1, g2, ptr_cor (f := fun b base => .pointer (some ⟨b, base + i * sz + o, none⟩)) (e.rho l h1) g3⟩
  | vp s xs i o =>
    obtain ⟨h1, ad, n, cap, h2, h3⟩ := h
    exact ⟨h1, ad, n, cap, e.R1 h2, h3⟩
  | own l sz =>
    obtain ⟨h1, h2, h3⟩ := h
    refine ⟨Nat.lt_of_lt_of_le h1 e.len, h2, fun z n hd => ?_⟩
    obtain ⟨g1, g2⟩ := h3 z n (e.row l h1 _ hd)
    exact ⟨g1, g2.cor (e.rho l h1)⟩
  | sl l sz off len =>
    obtain ⟨h1, h2, h3⟩ := h
    refine ⟨Nat.lt_of_lt_of_le h1 e.len, h2, fun z n hd => ?_⟩
    obtain ⟨g1, g2, g3⟩ := h3 z n (e.row l h1 _ hd)
    exact ⟨g1, g2, g3.cor (e.rho l h1)⟩
  | vsl s xs => exact e.R1 h
  | fn f cs => exact h
theorem Ext.V1 (e : Ext H ρ w H' ρ' w') {c : C1} {v : Value} (h : V1 Z H ρ w c v) : V1 Z H' ρ' w' c v := by
  cases c with
  | fn f cs => obtain ⟨us, h1, h2⟩ := h; exact ⟨us, h1, h2.imp fun _ _ => e.V0⟩
  | any => trivial
  | lit u => exact e.V0 (Z := Z) (c := .lit u) h
  | ptr l off => exact e.V0 (Z := Z) (c := .ptr l off) h
  | ep l sz i o => exact e.V0 (Z := Z) (c := .ep l sz i o) h
  | vp s xs i o => exact e.V0 (Z := Z) (c := .vp s xs i o) h
  | own l sz => exact e.V0 (Z := Z) (c := .own l sz) h
  | sl l sz off len => exact e.V0 (Z := Z) (c := .sl l sz off len) h
  | vsl s xs => exact e.V0 (Z := Z) (c := .vsl s xs) h
theorem Ext.V2 (e : Ext H ρ w H' ρ' w') {a : A2} {v : Value} (h : V2 Z H ρ w a v) : V2 Z H' ρ' w' a v := by
  cases a with
  | one c => exact e.V1 h
  | agg cs => obtain ⟨us, h1, h2⟩ := h; exact ⟨us, h1, h2.imp fun _ _ => e.V1⟩
theorem Ext.VA (e : Ext H ρ w H' ρ' w') {a : AV} {v : Value} (h : VA Z H ρ w a v) : VA Z H' ρ' w' a v := by
  cases a with
  | v a => exact e.V2 h
  | tup as => obtain ⟨us, h1, h2⟩ := h; exact ⟨us, h1, h2.imp fun _ _ => e.V2⟩
theorem Ext.TRel (e : Ext H ρ w H' ρ' w') {ts : TS} {a : Act} (h : TRel Z H ρ w ts a) : TRel Z H' ρ' w' ts a := fun t => e.VA (h t)
theorem Ext.refl (H : Heap) (ρ : Rho) (w : World) : Ext H ρ w H ρ w :=
  ⟨rfl, rfl, rfl, Nat.le_refl _, fun _ _ _ => rfl, fun _ h => .inl h, Nat.le_refl _, fun _ _ => rfl, fun _ _ h => h, fun _ _ _ h => h⟩
theorem Ext.trans {H'' : Heap} {ρ'' : Rho} {w'' : World} (e : Ext H ρ w H' ρ' w') (f : Ext H' ρ' w' H'' ρ'' w'') : Ext H ρ w H'' ρ'' w'' := by
  refine ⟨f.os.trans e.os, f.tape.trans e.tape, f.output.trans e.output, Nat.le_trans e.size f.size, fun k hk hn => ?_, fun k hk => ?_, Nat.le_trans e.len f.len, fun l hl => ?_, fun l hl hv => ?_, fun l hl d hr => ?_⟩
  · rw [f.keep k (Nat.lt_of_lt_of_le hk e.size) (fun ho => (e.own k ho).elim hn (by omega))]
    exact e.keep k hk hn
  · rcases f.own k hk with h | h
    · exact e.own k h
    · exact .inr (Nat.le_trans e.size h)
  · rw [f.rho l (Nat.lt_of_lt_of_le hl e.len), e.rho l hl]
  · exact e.live l hl (f.live l (Nat.lt_of_lt_of_le hl e.len) hv)
  · exact e.row l hl d (f.row l (Nat.lt_of_lt_of_le hl e.len) d hr)
/-- what stands holds on -/
theorem RowQ.mono {A A' : Nat → Prop} {e : TypeId} {s : Sh} {xs : List s.T} {q : Option Pl} (h : RowQ w A e s xs q) (hA : ∀ d v, R1 w A d v → R1 w' A' d v) (hb : ∀ p, q = some p → w'.heap[p.b]? = w.heap[p.b]?) : RowQ w' A' e s xs q := by
  rcases h with h | ⟨p, cur, us, h1, h2, h3, h4, h5, h6, h7⟩
  · exact .inl h
  · exact .inr ⟨p, cur, us, h1, (hb p h1).trans h2, h3, h4, h5, h6, h7.imp hA⟩
theorem NE.mono {A A' : Nat → Prop} (hA : ∀ d v, R1 w A d v → R1 w' A' d v) {es : List TypeId} {s : Sh} {x : s.T} {us : List Value} {ps : List (Option Pl)} (h : NE w A es s x us ps) (hb : ∀ q, some q ∈ ps → w'.heap[q.b]? = w.heap[q.b]?) : NE w' A' es s x us ps := by
  induction h with
  | unit => exact .unit
  | int => exact .int
  | bool => exact .bool
  | str => exact .str
  | inn h1 h2 h3 => exact .inn h1 (h2.mono hA fun p hp => hb p (by simp [hp])) h3
  | pair h1 h2 ih1 ih2 => exact .pair (ih1 fun q hq => hb q (by simp [hq])) (ih2 fun q hq => hb q (by simp [hq]))
theorem Nest.mono {A A' : Nat → Prop} {V V' : C1 → Value → Prop} {e : TypeId} {es : List TypeId} {s : Sh} {xs : List s.T} {op : Option (Nat × List C1)} {p : Pl} {cur : Array Value} {uss : List (List Value)} {pss : List (List (Option Pl))}
    (h : Nest w A V e es s xs op p cur uss pss) (hA : ∀ d v, R1 w A d v → R1 w' A' d v) (hV : ∀ i cs, op = some (i, cs) → ∀ c ∈ cs, ∀ v, V c v → V' c v) (hb : ∀ k, p.foot k → w'.heap[k]? = w.heap[k]?) : Nest w' A' V' e es s xs op p cur uss pss where
  at_ := (hb _ (.inl rfl)).trans h.at_
  size := h.size
  len := h.len
  cap := h.cap
  ul := h.ul
  pl := h.pl
  us := h.us
  el := fun i x us ps h1 h2 h3 h4 => (h.el i x us ps h1 h2 h3 h4).mono hA fun q hq => hb _ (.inr (h.pd.foot i ps q h3 hq))
  op := fun i cs hop => by
    obtain ⟨g1, g2, g3⟩ := h.op i cs hop
    exact ⟨g1, g2, fun us ps h1 h2 => ⟨(g3 us ps h1 h2).1, LR.imp_mem (fun c hc v hv => hV i cs hop c hc v hv) (g3 us ps h1 h2).2⟩⟩
  pd := h.pd
theorem Holds.ext (e : Ext H ρ w H' ρ' w') {l : Nat} {o : AO} (hρ : ρ' l = ρ l) (h : Holds Z H ρ w l o) (hb : ∀ p k, ρ l = some p → p.foot k → w'.heap[k]? = w.heap[k]?) : Holds Z H' ρ' w' l o := by
  cases o with
  | dead => trivial
  | cells E cs =>
    obtain ⟨p, vs, h1, h2, h3, h4⟩ := h
    exact ⟨p, vs, hρ.trans h1, (hb p _ h1 (.inl rfl)).trans h2, h3.imp fun _ _ => e.V1, h4⟩
  | row E s xs =>
    rcases h with ⟨h1, h2⟩ | ⟨p, cur, us, h1, h2, h3, h4, h5, h6, h7⟩
    · exact .inl ⟨h1, hρ.trans h2⟩
    · exact .inr ⟨p, cur, us, hρ.trans h1, (hb p _ h1 (.inl rfl)).trans h2, h3, h4, h5, h6, h7.imp fun _ _ => e.R1⟩
  | nest E es s xs op =>
    rcases h with ⟨h1, h2, h3⟩ | ⟨p, cur, uss, pss, h1, h2⟩
    · exact .inl ⟨h1, h2, hρ.trans h3⟩
    · exact .inr ⟨p, cur, uss, pss, hρ.trans h1, h2.mono (fun _ _ => e.R1) (fun _ _ _ _ _ _ => e.V1) fun k hk => hb p k h1 hk⟩
theorem Rel.step (h : Rel Z H ρ w) (e : Ext H ρ w H' ρ' w')
    (ho : ∀ l, (H'.at l).isLive = true → (l < H.length ∧ H'.at l = H.at l ∧ ρ' l = ρ l ∧ ∀ p k, ρ l = some p → p.foot k → w'.heap[k]? = w.heap[k]?) ∨ (Holds Z H' ρ' w' l (H'.at l) ∧ ∀ p k, ρ' l = some p → p.inn k → k ≠ p.b ∧ k < w'.heap.size))
    (hi : ∀ l l' p p' k, (¬ (l < H.length ∧ ρ' l = ρ l)) → (H'.at l).isLive = true → (H'.at l').isLive = true → ρ' l = some p → ρ' l' = some p' → p.foot k → p'.foot k → l = l') : Rel Z H' ρ' w' := by
  refine ⟨fun l => ?_, fun l l' p p' k hl hl' hp hp' hb hb' => ?_, fun l p k hl hp hk => ?_, fun k hk => Nat.lt_of_lt_of_le (h.zlt k hk) e.size, fun k hk ho' => (e.own k ho').elim (h.dis k hk) (fun hs => absurd (h.zlt k hk) (by omega)), fun g x hg => e.V0 (h.gl g x hg)⟩
  · cases hv : (H'.at l).isLive with
    | false => cases hc : H'.at l <;> first | trivial | (simp [hc, AO.isLive] at hv)
    | true =>
      rcases ho l hv with ⟨h1, h2, h3, h4⟩ | ⟨h', _⟩
      · rw [h2]; exact (h.obj l).ext e h3 h4
      · exact h'
  · by_cases h1 : l < H.length ∧ ρ' l = ρ l
    · by_cases h2 : l' < H.length ∧ ρ' l' = ρ l'
      · exact h.inj l l' p p' k (e.live l h1.1 hl) (e.live l' h2.1 hl') (h1.2 ▸ hp) (h2.2 ▸ hp') hb hb'
      · exact (hi l' l p' p k h2 hl' hl hp' hp hb' hb).symm
    · exact hi l l' p p' k h1 hl hl' hp hp' hb hb'
  · rcases ho l hl with ⟨h1, h2, h3, _⟩ | ⟨_, h'⟩
    · obtain ⟨g1, g2⟩ := h.inn l p k (h2 ▸ hl) (h3 ▸ hp) hk
      exact ⟨g1, Nat.lt_of_lt_of_le g2 e.size⟩
    · exact h' p k hp hk
end mono
end Go.Proofs.YtaklapcbbdcdpaaDoor.X
