import Derived.Test.YtaklapcbbdcdpaaDoorXA
namespace Go.Proofs.YtaklapcbbdcdpaaDoor.X
open Go Go.RowKit
set_option linter.unusedVariables false
noncomputable section

/-! What a state is made of: the form that a loop's head, a call and a return have -/
inductive VS where
  | deep (s : Sh)
  | ptr (j : Nat)
  | own (j : Nat) (s : Sh)
  | part (j : Nat) (s : Sh)
  | fn (f : FuncId) (js : List Nat)
  | ep (j z : Nat)
  | nil
  | fni (f : FuncId) (k : IntKind)
  | num (k : IntKind) (n : Int)
@[reducible] def VS.T : VS → Type
  | .deep s => s.T
  | .ptr _ => Unit
  | .own _ _ => Unit
  | .part _ _ => Nat × Nat
  | .fn _ _ => Unit
  | .ep _ _ => Nat
  | .nil => Unit
  | .fni _ _ => Int
  | .num _ _ => Unit
@[reducible] def VL.T : List VS → Type
  | [] => Unit
  | v :: r => v.T × VL.T r
inductive OS where
  | gone
  | cells (e : TypeId) (vs : List VS)
  | row (e : TypeId) (s : Sh)
  | nest (e : TypeId) (es : List TypeId) (s : Sh)
@[reducible] def OS.T : OS → Type
  | .gone => Unit
  | .cells _ vs => VL.T vs
  | .row _ s => List s.T
  | .nest _ _ s => List s.T
@[reducible] def OL.T : List OS → Type
  | [] => Unit
  | o :: r => o.T × OL.T r
structure Root where
  t : Tmp
  agg : Bool
  vs : List VS
@[reducible] def RL.T : List Root → Type
  | [] => Unit
  | r :: rs => VL.T r.vs × RL.T rs
structure Sig where
  roots : List Root
  objs : List OS
@[reducible] def Sig.T (g : Sig) : Type := RL.T g.roots × OL.T g.objs

def VS.enc : (v : VS) → v.T → List C1
  | .deep s, x => s.avs x
  | .ptr j, _ => [.ptr j 0]
  | .own j s, _ => [.own j s.sz]
  | .part j s, x => [.sl j s.sz x.1 x.2]
  | .fn f js, _ => [.fn f (js.map fun j => .ptr j 0)]
  | .ep j z, x => [.ep j z x 0]
  | .nil, _ => [.lit (.pointer none)]
  | .fni f k, n => [.fn f [.lit (.int k n)]]
  | .num k n, _ => [.lit (.int k n)]
def VL.enc : (vs : List VS) → VL.T vs → List C1
  | [], _ => []
  | v :: r, x => v.enc x.1 ++ VL.enc r x.2
def OS.enc : (o : OS) → o.T → AO
  | .gone, _ => .dead
  | .cells e vs, x => .cells e (VL.enc vs x)
  | .row e s, x => .row e s x
  | .nest e es s, x => .nest e es s x none
def OL.enc : (os : List OS) → OL.T os → Heap
  | [], _ => []
  | o :: r, x => o.enc x.1 :: OL.enc r x.2
def mkA (agg : Bool) (cs : List C1) : A2 := match agg, cs with
  | false, [c] => .one c
  | _, cs => .agg cs
def RL.enc : (rs : List Root) → RL.T rs → TS
  | [], _ => []
  | r :: rs, x => (r.t, .v (mkA r.agg (VL.enc r.vs x.1))) :: RL.enc rs x.2

/-- which place of the form is which place of the heap -/
abbrev Bnd := List (Nat × Nat)
def Bnd.get : Bnd → Nat → Option Nat
  | [], _ => none
  | (j, l) :: r, i => if j == i then some l else Bnd.get r i
def Bnd.has : Bnd → Nat → Bool
  | [], _ => false
  | (_, l) :: r, i => (l == i) || Bnd.has r i
/-- 'ro': below it places stand for themselves; 'kp': below it a place is bound to itself alone -/
def bnd (ro kp : Nat) (B : Bnd) (j l : Nat) : Option Bnd :=
  if decide (j < ro) then (if j == l then some B else none)
  else if decide (l < ro) then none
  else if decide (j < kp) && (j != l) then none
  else match B.get j with
    | some l' => if l' == l then some B else none
    | none => if B.has l then none else some ((j, l) :: B)
def bnds (ro kp : Nat) (B : Bnd) : List Nat → List C1 → Option Bnd
  | [], [] => some B
  | j :: js, .ptr l 0 :: cs => (match bnd ro kp B j l with
    | some B' => bnds ro kp B' js cs
    | none => none)
  | _, _ => none
def VS.dec (ro kp : Nat) : (v : VS) → List C1 → Bnd → Option (v.T × List C1 × Bnd)
  | .deep s, cs, B => (match s.dec cs with
    | some (x, r) => some (x, r, B)
    | none => none)
  | .ptr j, .ptr l 0 :: cs, B => (match bnd ro kp B j l with
    | some B' => some ((), cs, B')
    | none => none)
  | .own j s, .own l z :: cs, B => if z == s.sz then (match bnd ro kp B j l with
    | some B' => some ((), cs, B')
    | none => none) else none
  | .part j s, .sl l z o n :: cs, B => if z == s.sz then (match bnd ro kp B j l with
    | some B' => some ((o, n), cs, B')
    | none => none) else none
  | .fn f js, .fn f' as :: cs, B => if f == f' then (match bnds ro kp B js as with
    | some B' => some ((), cs, B')
    | none => none) else none
  | .ep j z, .ep l z' i 0 :: cs, B => if z' == z then (match bnd ro kp B j l with
    | some B' => some (i, cs, B')
    | none => none) else none
  | .nil, .lit (.pointer none) :: cs, B => some ((), cs, B)
  | .fni f k, .fn f' [.lit (.int k' n)] :: cs, B => if f == f' && decide (k = k') then some (n, cs, B) else none
  | .num k n, .lit (.int k' n') :: cs, B => if decide (k = k') && decide (n = n') then some ((), cs, B) else none
  | _, _, _ => none
def VL.dec (ro kp : Nat) : (vs : List VS) → List C1 → Bnd → Option (VL.T vs × Bnd)
  | [], [], B => some ((), B)
  | [], _ :: _, _ => none
  | v :: r, cs, B => (match v.dec ro kp cs B with
    | some (x, cs', B') => (match VL.dec ro kp r cs' B' with
      | some (y, B'') => some ((x, y), B'')
      | none => none)
    | none => none)
/-- a form's slices of the call's own: nil becomes a row without elements; what is only read is let go -/
def frz (H : Heap) (objs : List OS) (ro : Nat) : List VS → List C1 → List C1 × Heap
  | [], cs => (cs, H)
  | .deep s :: r, cs =>
    if (freeze H (cs.take s.sz)).2.all (fun u => decide (ro ≤ u.1)) then
      ((freeze H (cs.take s.sz)).1 ++ (frz (H.upd (freeze H (cs.take s.sz)).2) objs ro r (cs.drop s.sz)).1, (frz (H.upd (freeze H (cs.take s.sz)).2) objs ro r (cs.drop s.sz)).2)
    else ([], H)
  | .own j s :: r, c :: cs => if isNilSl c then (match objs[j - ro]? with
    | some (.row e _) => (.own H.length s.sz :: (frz (H ++ [.row e s []]) objs ro r cs).1, (frz (H ++ [.row e s []]) objs ro r cs).2)
    | some (.nest e es _) => (.own H.length s.sz :: (frz (H ++ [.nest e es s [] none]) objs ro r cs).1, (frz (H ++ [.nest e es s [] none]) objs ro r cs).2)
    | _ => ([], H)) else (c :: (frz H objs ro r cs).1, (frz H objs ro r cs).2)
  | _ :: r, c :: cs => (c :: (frz H objs ro r cs).1, (frz H objs ro r cs).2)
  | _ :: _, [] => ([], H)
def A2.of (agg : Bool) : A2 → Option (List C1)
  | .one c => if agg then none else some [c]
  | .agg cs => if agg then some cs else none
def RL.dec (objs : List OS) (ro kp : Nat) : (rs : List Root) → TS → Heap → Bnd → Option (RL.T rs × Heap × Bnd)
  | [], _, H, B => some ((), H, B)
  | r :: rs, ts, H, B => (match ts.get r.t with
    | .v a => (match a.of r.agg with
      | some cs =>
        (match (if (frz H objs ro r.vs cs).1.length == cs.length then VL.dec ro kp r.vs (frz H objs ro r.vs cs).1 B else none) with
        | some (x, B') => (match RL.dec objs ro kp rs ts (frz H objs ro r.vs cs).2 B' with
          | some (y, H'', B'') => some ((x, y), H'', B'')
          | none => none)
        | none => none)
      | none => none)
    | _ => none)
def OL.dec (objs : List OS) (ro kp : Nat) : (os : List OS) → Nat → Heap → Bnd → Option (OL.T os × Heap × Bnd)
  | [], _, H, B => some ((), H, B)
  | .gone :: os, j, H, B => (match OL.dec objs ro kp os (j + 1) H B with
    | some (y, H'', B'') => some (((), y), H'', B'')
    | none => none)
  | .cells e vs :: os, j, H, B => (match B.get j with
    | some l => (match H.at l with
      | .cells e' cs => if e' == e then
          (match (if (frz H objs ro vs cs).1.length == cs.length then VL.dec ro kp vs (frz H objs ro vs cs).1 B else none) with
          | some (x, B') => (match OL.dec objs ro kp os (j + 1) (frz H objs ro vs cs).2 B' with
            | some (y, H'', B'') => some ((x, y), H'', B'')
            | none => none)
          | none => none) else none
      | _ => none)
    | none => none)
  | .row e s :: os, j, H, B => (match B.get j with
    | some l => (match H.at l with
      | .row e' s' xs => if h : s' = s then (if e' == e then
          (match OL.dec objs ro kp os (j + 1) H B with
          | some (y, H'', B'') => some ((h ▸ xs, y), H'', B'')
          | none => none) else none) else none
      | _ => none)
    | none => none)
  | .nest e es s :: os, j, H, B => (match B.get j with
    | some l => (match H.at l with
      | .nest e' es' s' xs none => if h : s' = s then (if e' == e && es' == es then
          (match OL.dec objs ro kp os (j + 1) H B with
          | some (y, H'', B'') => some ((h ▸ xs, y), H'', B'')
          | none => none) else none) else none
      | _ => none)
    | none => none)
def selfs : Nat → Nat → Bnd
  | _, 0 => []
  | ro, n + 1 => (ro + n, ro + n) :: selfs ro n
/-- what has been read stands still -/
def stillOk (H : Heap) (B : Bnd) : List OS → Nat → Bool
  | [], _ => true
  | .gone :: os, j => stillOk H B os (j + 1)
  | _ :: os, j => (match B.get j with
    | some l => (H.at l).isLive
    | none => false) && stillOk H B os (j + 1)
/-- a state in the form: what it holds, the heap, the places -/
def Sig.dec (g : Sig) (ro kp : Nat) (ts : TS) (H : Heap) : Option (g.T × Heap × Bnd) :=
  if decide (kp ≤ ro + g.objs.length) then
    match RL.dec g.objs ro kp g.roots ts H (selfs ro (kp - ro)) with
    | some (x, H', B) => (match OL.dec g.objs ro kp g.objs ro H' B with
      | some (y, H'', B') => if stillOk H'' B' g.objs ro && B'.all (fun p => decide (p.1 < ro + g.objs.length)) then some ((x, y), H'', B') else none
      | none => none)
    | none => none
  else none
/-- an own row that came in and that the form lets go: it goes on as a new one -/
def isGone : Option OS → Bool
  | some .gone => true
  | _ => false
def AO.isRow : AO → Bool
  | .row _ _ _ => true
  | _ => false
def rehome (ro kp : Nat) (objs : List OS) : List Root → TS → Heap → TS × Heap
  | [], ts, H => (ts, H)
  | r :: rs, ts, H => (match r.vs, ts.get r.t with
    | [.own _ _], .v (.one (.own l z)) => if decide (ro ≤ l) && decide (l < kp) && isGone objs[l - ro]? && (H.at l).isRow then rehome ro kp objs rs ((r.t, .one (.own H.length z)) :: ts) (H.set l .dead ++ [H.at l]) else rehome ro kp objs rs ts H
    | [.own _ _], .v (.one (.sl l z off n)) => (match H.at l with
      | .row e s xs => if decide (ro ≤ l) && off == 0 then rehome ro kp objs rs ((r.t, .one (.own H.length z)) :: ts) (H.set l .dead ++ [.row e s (xs.take n)]) else rehome ro kp objs rs ts H
      | _ => rehome ro kp objs rs ts H)
    | _, _ => rehome ro kp objs rs ts H)
/-- the same, in the cells of objects -/
def homeC (ro kp : Nat) (objs : List OS) (H : Heap) (j c : Nat) : Heap := match H.at j with
  | .cells e cs => (match cs[c]? with
    | some (.own l z) => if decide (ro ≤ j) && decide (ro ≤ l) && decide (l < kp) && isGone objs[l - ro]? then (match (H.at l).dim with
      | some (_, n) => (match (H.at l).cutTo n with
        | some o => (H.set l .dead).set j (.cells e (cs.set c (.own H.length z))) ++ [o]
        | none => H)
      | none => H) else H
    | _ => H)
  | _ => H
def homeJ (ro kp : Nat) (objs : List OS) (j : Nat) : Nat → Heap → Heap
  | 0, H => H
  | c + 1, H => homeJ ro kp objs j c (homeC ro kp objs H j c)
def homeN (ro kp : Nat) (objs : List OS) : Nat → Heap → Heap
  | 0, H => H
  | j + 1, H => homeN ro kp objs j (homeJ ro kp objs j (H.at j).cs.length H)
def tidyH (ro kp : Nat) (objs : List OS) (H : Heap) : Heap := homeN ro kp objs H.length (trimAll ro (closeAll ro H))
def Sig.deh (g : Sig) (ro kp : Nat) (ts : TS) (H : Heap) : Option (g.T × Heap × Bnd) := g.dec ro kp (rehome ro kp g.objs g.roots ts (tidyH ro kp g.objs H)).1 (rehome ro kp g.objs g.roots ts (tidyH ro kp g.objs H)).2

/-! The run of a function's code -/
inductive An where
  | nil
  | node (a b : An)
  | loop (g : Sig) (a : An)
  | cut (g : Sig) (a b : An)
  | unr (m : Nat) (a : An)
def An.l : An → An
  | .node a _ => a
  | .cut _ a _ => a
  | .loop _ a => a
  | .unr _ a => a
  | .nil => .nil
def An.r : An → An
  | .node _ b => b
  | .cut _ _ b => b
  | _ => .nil
abbrev KE (β : Type) := Ex → TS → Heap → Option β
section
variable {P : Program} (X : Ctx P) (R : Heap) (N : Nat)
def loopN {γ : Type} {β : Type} (body : γ → (γ → Option β) → Option β) (k : Nat) : γ → Option β :=
  Nat.rec (motive := fun _ => γ → Option β) (fun _ => none) (fun _ ih g => body g ih) k
/-- a loop that is run turn by turn, as often as may be -/
def unrN {β : Type} (body : (TS → Heap → Option β) → TS → Heap → Option β) (m : Nat) : TS → Heap → Option β :=
  Nat.rec (motive := fun _ => TS → Heap → Option β) (fun _ _ => none) (fun _ ih => body ih) m
/-- a condition that has been told is known -/
def learn (ts : TS) (c : Operand) (b : Bool) : TS := match c with
  | .tmp t => (t, .one (.lit (.bool b))) :: ts
  | _ => ts
noncomputable def exec (k : Nat) : Code → An → (β : Type) → TS → Heap → KE β → Option β
  | .skip, _, _, ts, H, K => K .normal ts H
  | .region _ ops dr, _, _, ts, H, K => bif dr then prepG X ops.toList ts (prepR X.ro ts ops.toList H) fun H1 => drawSym X ops N ts H1 fun ts' H' => K .normal ts' H' else opsRun X ops N ops.toList ts H fun ts' H' => K .normal ts' H'
  | .seq a b, an, β, ts, H, K => (match an with
    | .cut g x y =>
      (exec k a x (g.T ⊕ β) ts H fun e ts' H' => match e with
        | .normal => (match g.deh X.ro X.kp ts' H' with
          | some (q, _, _) => some (.inl q)
          | none => none)
        | e => (K e ts' H').map .inr).bind fun
        | .inl q => exec k b y β (RL.enc g.roots q.1) (R ++ OL.enc g.objs q.2) K
        | .inr r => some r
    | an => exec k a an.l β ts H fun e ts' H' => match e with
      | .normal => exec k b an.r β ts' H' K
      | e => K e ts' H')
  | .cond c a b, an, β, ts, H, K => (match ev ts c with
    | .v (.one (.lit (.bool t))) => bif t then exec k a an.l β (learn ts c true) H K else exec k b an.r β (learn ts c false) H K
    | _ => none)
  | .block id a, an, β, ts, H, K => exec k a an β ts H fun e ts' H' => match e with
    | .exit i => if i == id then K .normal ts' H' else K (.exit i) ts' H'
    | e => K e ts' H'
  | .loop a, an, β, ts, H, K => (match an with
    | .loop g x => (match g.deh X.ro X.kp ts H with
      | some (q, _, _) => loopN (fun q ih => exec k a x β (RL.enc g.roots q.1) (R ++ OL.enc g.objs q.2) fun e ts' H' => match e with
          | .normal => (match g.deh X.ro X.kp ts' H' with
            | some (q', _, _) => ih q'
            | none => none)
          | e => K e ts' H') k q
      | none => none)
    | .unr m x => unrN (fun ih ts H => exec k a x β ts H fun e ts' H' => match e with
      | .normal => ih ts' H'
      | e => K e ts' H') m ts H
    | _ => none)
  | .exit id, _, _, ts, H, K => K (.exit id) ts H
  | .ret, _, _, ts, H, K => K .ret ts H
  | _, _, _, _, _, _ => none
end
/-- what a function answers -/
def resTS (ti : TI) (ts : TS) (H : Heap) : Nat → List ResultVar → Option TS
  | _, [] => some []
  | i, .tmp t :: r => (match resTS ti ts H (i + 1) r with
    | some q => some ((i, ts.get t) :: q)
    | none => none)
  | i, .cell a t :: r => (match ts.get a, ti t with
    | .v (.one c), some tr => (match cellsAt H c (if isAggD tr.d then tr.size else 1) with
      | some cs => (match mk2 (isAggD tr.d) cs, resTS ti ts H (i + 1) r with
        | some v, some q => some ((i, v) :: q)
        | _, _ => none)
      | none => none)
    | _, _ => none)
/-- a function's form: what comes in (its objects: first those that are only read), what goes out -/
structure Fm where
  ro : Nat
  pre : Sig
  post : Sig
  an : An
def VS.low (ro : Nat) : VS → Bool
  | .deep _ => true
  | .ptr j => decide (j < ro)
  | .own j _ => decide (j < ro)
  | .part j _ => decide (j < ro)
  | .fn _ js => js.all fun j => decide (j < ro)
  | .ep j _ => decide (j < ro)
  | .nil => true
  | .fni _ _ => true
  | .num _ _ => true
def OS.low (ro : Nat) : OS → Bool
  | .cells _ vs => vs.all (VS.low ro)
  | _ => true
/-- a form that fits its function -/
def Fm.fits (F : Fm) (fn : Func) : Bool :=
  decide (F.ro ≤ F.pre.objs.length) && (F.pre.objs.take F.ro).all (OS.low F.ro) && (F.post.roots.map (·.t) == List.range fn.results.size) && (F.pre.roots.map (·.t) == List.range F.pre.roots.length) && decide (F.pre.roots.length ≤ fn.ntmps)
noncomputable def runFn (P : Program) (ti : TI) (tb : List (Entry P)) (F : Fm) (fn : Func) (k : Nat) (g : F.pre.T) : Option F.post.T :=
  match fn.body with
  | some c => if F.fits fn then
    exec (⟨ti, tb, F.ro, F.pre.objs.length⟩ : Ctx P) ((OL.enc F.pre.objs g.2).take F.ro) fn.ntmps k c F.an F.post.T (RL.enc F.pre.roots g.1) (OL.enc F.pre.objs g.2) fun e ts' H' => match e with
      | .exit _ => none
      | _ => (match resTS ti ts' (tidyH F.ro F.pre.objs.length F.post.objs H') 0 fn.results.toList with
        | some rs => (match F.post.dec F.ro F.pre.objs.length rs (tidyH F.ro F.pre.objs.length F.post.objs H') with
          | some (q, _, _) => some q
          | none => none)
        | none => none)
    else none
  | none => none

/-! A call, for those who know what it answers -/
def C1.ren (σ : Nat → Nat) : C1 → C1
  | .ptr l o => .ptr (σ l) o
  | .ep l z i o => .ep (σ l) z i o
  | .own l z => .own (σ l) z
  | .sl l z o n => .sl (σ l) z o n
  | .fn f cs => .fn f (cs.map fun c => match c with
    | .ptr l o => .ptr (σ l) o
    | c => c)
  | c => c
def AO.ren (σ : Nat → Nat) : AO → AO
  | .cells e cs => .cells e (cs.map (C1.ren σ))
  | o => o
def A2.ren (σ : Nat → Nat) : A2 → A2
  | .one c => .one (c.ren σ)
  | .agg cs => .agg (cs.map (C1.ren σ))
def Sh.flat : Sh → Bool
  | .sl _ => false
  | .rs _ => false
  | .pair a b => a.flat && b.flat
  | _ => true
def VS.flat : VS → Bool
  | .deep s => s.flat
  | _ => true
def OS.flat : OS → Bool
  | .gone => true
  | .cells _ vs => vs.all VS.flat
  | .row _ s => s.flat
  | .nest _ _ _ => false
def Sig.flat (g : Sig) : Bool := g.roots.all (fun r => r.vs.all VS.flat) && g.objs.all OS.flat
def enumTS : Nat → List AV → TS
  | _, [] => []
  | i, v :: r => (i, v) :: enumTS (i + 1) r
def answers (σ : Nat → Nat) : TS → List A2
  | [] => []
  | (_, .v a) :: r => a.ren σ :: answers σ r
  | _ :: r => answers σ r
def answer : List A2 → AV
  | [a] => .v a
  | as => .tup as
/-- the rows that have ended -/
def ended (H1 : Heap) : Nat → Heap → Upd
  | _, [] => []
  | i, o :: r => match o, H1.at i with
    | .dead, _ => ended H1 (i + 1) r
    | _, .dead => (i, .dead) :: ended H1 (i + 1) r
    | _, _ => ended H1 (i + 1) r
/-- the objects that may have been written -/
def writes (B : Bnd) (σ : Nat → Nat) : Nat → Heap → Upd
  | _, [] => []
  | j, o :: r => match B.get j with
    | some l => (l, o.ren σ) :: writes B σ (j + 1) r
    | none => writes B σ (j + 1) r
def callσ (n m : Nat) (B : Bnd) (j : Nat) : Nat := if j < n then (B.get j).getD 0 else m + (j - n)
def VS.refs : VS → List Nat
  | .deep _ => []
  | .ptr j => [j]
  | .own j _ => [j]
  | .part j _ => [j]
  | .fn _ js => js
  | .ep j _ => [j]
  | .nil => []
  | .fni _ _ => []
  | .num _ _ => []
def OS.refs : OS → List Nat
  | .cells _ vs => vs.flatMap VS.refs
  | _ => []
def OS.here : OS → Bool
  | .gone => false
  | _ => true
/-- what a form's answer leads to is there -/
def Fm.callOk (F : Fm) : Bool :=
  decide (F.ro ≤ F.pre.objs.length) && F.pre.objs.all OS.here &&
  ((F.post.roots.flatMap fun r => r.vs.flatMap VS.refs) ++ F.post.objs.flatMap OS.refs).all (fun j => if j < F.ro then true else match F.post.objs[j - F.ro]? with
    | some o => o.here
    | none => false)
def OS.isNest : OS → Bool
  | .nest _ _ _ => true
  | _ => false
def callRun0 (F : Fm) (f : F.pre.T → Option F.post.T) {β : Type} (args : List AV) (H : Heap) (K : KO β) : Option β :=
  if F.callOk && (F.pre.roots.length == args.length) then
    match F.pre.dec 0 0 (enumTS 0 args) H with
    | some (g, H1, B) => (f g).bind fun q =>
      K (answer (answers (callσ F.pre.objs.length H1.length B) (RL.enc F.post.roots q.1)))
        ((if F.post.flat then [] else ended H1 0 H) ++ (writes B (callσ F.pre.objs.length H1.length B) F.ro ((OL.enc F.post.objs q.2).take (F.pre.objs.length - F.ro))).filter (fun u => decide (u.1 < H.length)))
        ((Heap.upd H1 (writes B (callσ F.pre.objs.length H1.length B) F.ro ((OL.enc F.post.objs q.2).take (F.pre.objs.length - F.ro)))).drop H.length ++
          (((OL.enc F.post.objs q.2).drop (F.pre.objs.length - F.ro)).map (AO.ren (callσ F.pre.objs.length H1.length B))))
    | none => none
  else none
/-- what lies open is closed first, where the form asks for it -/
def callU (F : Fm) (H : Heap) : Upd := if F.pre.objs.any OS.isNest then closesU H.length H else []
def callRun (F : Fm) (f : F.pre.T → Option F.post.T) {β : Type} (args : List AV) (H : Heap) (K : KO β) : Option β :=
  callRun0 F f args (H.upd (callU F H)) fun v U N => K v (callU F H ++ U) N
def Fm.entry (P : Program) (F : Fm) (n : FuncId) (f : F.pre.T → Option F.post.T) : Entry P := ⟨n, F.post.objs.isEmpty && F.ro == F.pre.objs.length && (F.post.flat || F.pre.flat), fun args H K => callRun F f args H K⟩
end
end Go.Proofs.YtaklapcbbdcdpaaDoor.X
