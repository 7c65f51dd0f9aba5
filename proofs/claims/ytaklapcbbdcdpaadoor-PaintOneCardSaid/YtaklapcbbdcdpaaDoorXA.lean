import Derived.Test.YtaklapcbbdcdpaaDoorXGl
namespace Go.Proofs.YtaklapcbbdcdpaaDoor.X
open Go Go.RowKit
set_option linter.unusedVariables false
noncomputable section

/-- the element of a list, or what stands for none -/
def gt (s : Sh) (xs : List s.T) (i : Nat) : s.T := xs.getD i s.dflt
/-- a string's byte -/
def bt (s : ByteArray) (i : Int) : Int := ((s.data.getD i.toNat 0).toNat : Int)

/-- one cell, as the run knows it -/
inductive C1 where
  | any
  | lit (v : Value)
  | ptr (l off : Nat)
  | ep (l sz i o : Nat)
  | vp (s : Sh) (xs : List s.T) (i o : Nat)
  | own (l sz : Nat)
  | sl (l sz off len : Nat)
  | vsl (s : Sh) (xs : List s.T)
  | fn (f : FuncId) (caps : List C1)
def Sh.avs : (s : Sh) → s.T → List C1
  | .unit, _ => []
  | .int k, n => [.lit (.int k n)]
  | .bool, b => [.lit (.bool b)]
  | .str, b => [.lit (.string b)]
  | .sl s, xs => [.vsl s xs]
  | .pair a b, x => a.avs x.1 ++ b.avs x.2
  | .rs r, xs => [.vsl (body r) (xs.map (out r))]
/-- back from cells -/
def Sh.dec : (s : Sh) → List C1 → Option (s.T × List C1)
  | .unit, cs => some ((), cs)
  | .int k, .lit (.int k' n) :: cs => if k = k' then some (n, cs) else none
  | .bool, .lit (.bool b) :: cs => some (b, cs)
  | .str, .lit (.string b) :: cs => some (b, cs)
  | .sl s, .vsl s' xs :: cs => if h : s' = s then some (h ▸ xs, cs) else none
  | .sl _, .lit (.slice none 0 0) :: cs => some ([], cs)
  | .rs r, .vsl s' xs :: cs => if h : s' = body r then some ((h ▸ xs : List (body r).T).map (inn r), cs) else none
  | .rs _, .lit (.slice none 0 0) :: cs => some ([], cs)
  | .pair a b, cs => match a.dec cs with
    | some (x, r) => (match b.dec r with
      | some (y, r') => some ((x, y), r')
      | none => none)
    | none => none
  | _, _ => none

inductive A2 where
  | one (c : C1)
  | agg (cs : List C1)
def A2.cells : A2 → List C1
  | .one c => [c]
  | .agg cs => cs
inductive AV where
  | v (a : A2)
  | tup (vs : List A2)
abbrev AV.one (c : C1) : AV := .v (.one c)
abbrev AV.agg (cs : List C1) : AV := .v (.agg cs)

/-- what lies in a block of the call's own -/
inductive AO where
  | dead
  | cells (e : TypeId) (cs : List C1)
  | row (e : TypeId) (s : Sh) (xs : List s.T)
  /-- a row whose elements have slices of their own (of elements 'es'); one of them may lie open -/
  | nest (e : TypeId) (es : List TypeId) (s : Sh) (xs : List s.T) (op : Option (Nat × List C1))
/-- how large its elements are, and how many there are -/
def AO.dim : AO → Option (Nat × Nat)
  | .row _ s xs => some (s.sz, xs.length)
  | .nest _ _ s xs _ => some (s.sz, xs.length)
  | _ => none
/-- the cells that it shows -/
def AO.cs : AO → List C1
  | .cells _ cs => cs
  | .nest _ _ _ _ (some (_, cs)) => cs
  | _ => []
def AO.isLive : AO → Bool
  | .dead => false
  | _ => true
abbrev Heap := List AO
def Heap.at (H : Heap) (l : Nat) : AO := H.getD l .dead
abbrev TS := List (Nat × AV)
def TS.get : TS → Nat → AV
  | [], _ => .one .any
  | (u, v) :: r, t => if u == t then v else TS.get r t

structure TR where
  d : TypeDesc
  size : Nat
  bytes : Nat
  zero : List Value
  sh : Sh
abbrev TI := TypeId → Option TR
def isAggD : TypeDesc → Bool
  | .struct _ | .array _ _ => true
  | _ => false

def ofVal : Value → AV
  | .agg cs => if cs.toList.all (·.oneCell') then .agg (cs.toList.map .lit) else .one .any
  | .tuple _ => .one .any
  | .func (.func f) as bs => (match as.toList, bs.toList with
    | [], [] => .one (.fn f [])
    | _, _ => .one (.lit (.func (.func f) as bs)))
  | v => .one (.lit v)
def globAt : List (Nat × (s : Sh) × List s.T) → Nat → Option ((s : Sh) × List s.T)
  | [], _ => none
  | (n, x) :: r, g => if n == g then some x else globAt r g
def ev (ts : TS) : Operand → AV
  | .tmp t => ts.get t
  | .const v => ofVal v
  | .global g => match globAt globs g with
    | some x => .one (.vp x.1 x.2 0 0)
    | none => .one (.lit (.pointer (some ⟨g, 0, none⟩)))
  | .func f => .one (.fn f [])
/-- a value without addresses of the call's own -/
def litsOf : List C1 → Option (List Value)
  | [] => some []
  | .lit v :: r => match litsOf r with
    | some vs => some (v :: vs)
    | none => none
  | _ => none
def asVal : AV → Option Value
  | .v (.one (.lit v)) => some v
  | .v (.one (.fn f [])) => some (.func (.func f) #[] #[])
  | .v (.agg cs) => match litsOf cs with
    | some vs => some (.agg vs.toArray)
    | none => none
  | _ => none
/-- an operation that only computes -/
def pureRun (P : Program) {α : Type} : Sem α → Option α
  | .pure a => some a
  | .program k => pureRun P (k P)
  | _ => none

abbrev Upd := List (Nat × AO)
def Heap.upd (H : Heap) : Upd → Heap
  | [] => H
  | (l, o) :: U => Heap.upd (H.set l o) U
abbrev KO (β : Type) := AV → Upd → List AO → Option β
def iff' {β : Type} (c : Bool) (x : Option β) : Option β := match c with
  | true => x
  | false => none

def isNilC : C1 → Bool
  | .lit (.slice none 0 0) => true
  | _ => false
/-- the cells of a place -/
def cut (cs : List C1) (o n : Nat) : List C1 := (cs.drop o).take n
def cutN (cs : List C1) (o n : Nat) : Option (List C1) := if (cut cs o n).length == n then some (cut cs o n) else none
def mk2 (agg : Bool) (cs : List C1) : Option AV :=
  match agg, cs with
  | true, cs => some (.agg cs)
  | false, [c] => some (.one c)
  | _, _ => none
def cellsAt (H : Heap) : C1 → Nat → Option (List C1)
  | .ptr l off, n => match H.at l with
    | .cells _ cs => let r := cut cs off n; if r.length == n then some r else none
    | _ => none
  | .ep l _ i o, n => match H.at l with
    | .row _ s xs => let r := cut (s.avs (gt s xs i)) o n; if r.length == n then some r else none
    | _ => none
  | .vp s xs i o, n => let r := cut (s.avs (gt s xs i)) o n; if r.length == n then some r else none
  | _, _ => none
def storable : C1 → Bool
  | .any => false
  | _ => true
/-- slices of the call's own become what is read alone: the cells, and the rows that end -/
def freeze1 (H : Heap) : C1 → C1 × Upd
  | .own l _ => match H.at l with
    | .row _ s xs => (.vsl s xs, [(l, .dead)])
    | .nest _ _ s xs none => (.vsl s xs, [(l, .dead)])
    | _ => (.any, [])
  | .sl l _ off len => match H.at l with
    | .row _ s xs => (.vsl s ((xs.drop off).take len), [(l, .dead)])
    | _ => (.any, [])
  | c => (c, [])
def freeze (H : Heap) : List C1 → List C1 × Upd
  | [] => ([], [])
  | c :: cs => let (c', U) := freeze1 H c; let (cs', U') := freeze (H.upd U) cs; (c' :: cs', U ++ U')
def putCells (cs : List C1) (o : Nat) (vs : List C1) : List C1 := cs.take o ++ vs ++ cs.drop (o + vs.length)

/-- what a slice holds: the shape and the elements -/
def elemsOf (H : Heap) : C1 → Option (Σ s : Sh, List s.T)
  | .own l _ => match H.at l with
    | .row _ s xs => some ⟨s, xs⟩
    | _ => none
  | .sl l _ off len => match H.at l with
    | .row _ s xs => some ⟨s, (xs.drop off).take len⟩
    | _ => none
  | .vsl s xs => some ⟨s, xs⟩
  | _ => none
def lenOf (H : Heap) : C1 → Option Int
  | .own l _ => match (H.at l).dim with
    | some (_, n) => some (n : Int)
    | none => none
  | .sl l _ _ len => match (H.at l).dim with
    | some _ => some (len : Int)
    | none => none
  | .vsl _ xs => some (xs.length : Int)
  | .lit (.slice _ n _) => some (n : Int)
  | .lit (.string s) => some (s.size : Int)
  | _ => none
def asI : AV → Option Int
  | .v (.one (.lit (.int _ n))) => some n
  | _ => none
def addOff : C1 → Nat → Option C1
  | .ptr l o, n => some (.ptr l (o + n))
  | .ep l sz i o, n => some (.ep l sz i (o + n))
  | .vp s xs i o, n => some (.vp s xs i (o + n))
  | _, _ => none
def notNil (H : Heap) : C1 → Bool
  | .lit (.pointer none) => false
  | .lit (.pointer (some _)) => true
  | .ptr l _ => (H.at l).isLive
  | .ep .. => true
  | .vp .. => true
  | .fn .. => true
  | _ => false
/-- the places of a struct's or an array's parts -/
def fieldOff (ti : TI) (fs : Array Field) (f : Nat) : Option (Nat × Nat × Bool) :=
  match fs[f]? with
  | some x => match ti x.type with
    | some r => some (x.offset, r.size, isAggD r.d)
    | none => none
  | none => none
def fillCells (place : Nat → Option (Nat × Nat)) (cells : List C1) : List (Nat × AV) → Option (List C1)
  | [] => some cells
  | (i, .v a) :: rest => match place i with
    | some (off, size) => if a.cells.length == size && decide (off + size ≤ cells.length) && a.cells.all storable then fillCells place (putCells cells off a.cells) rest else none
    | none => none
  | _ => none
def reps (z : List Value) : Nat → List C1
  | 0 => []
  | n + 1 => z.map .lit ++ reps z n
/-- elements back from cells -/
def decRow (s : Sh) : Nat → List C1 → Option (List s.T)
  | 0, [] => some []
  | 0, _ => none
  | n + 1, cs => match s.dec cs with
    | some (x, r) => (match decRow s n r with
      | some xs => some (x :: xs)
      | none => none)
    | none => none

/-! An element with slices of its own, laid open and closed -/
/-- its cells, the rows that they lead to, the kinds of elements that are left -/
def opnC : Nat → List TypeId → (s : Sh) → s.T → List C1 × List AO × List TypeId
  | n, es, .sl s, ys => (match es with
    | e :: es' => ([.own n s.sz], [.row e s ys], es')
    | [] => ([.any], [], []))
  | n, es, .pair a b, x => ((opnC n es a x.1).1 ++ (opnC (n + (opnC n es a x.1).2.1.length) (opnC n es a x.1).2.2 b x.2).1, (opnC n es a x.1).2.1 ++ (opnC (n + (opnC n es a x.1).2.1.length) (opnC n es a x.1).2.2 b x.2).2.1, (opnC (n + (opnC n es a x.1).2.1.length) (opnC n es a x.1).2.2 b x.2).2.2)
  | _, es, s, x => (s.avs x, [], es)
/-- back: the element, the cells that are left, the kinds that are left, the rows that went in -/
def decN (H : Heap) : List TypeId → (s : Sh) → List C1 → Option (s.T × List C1 × List TypeId × List (Option Nat))
  | es, .sl s, cs => (match es, cs with
    | e :: es', c :: cs' => if isNilC c then some ([], cs', es', [none]) else (match c with
      | .own l _ => (match H.at l with
        | .row e' s' ys => if h : s' = s then (if e' == e then some (h ▸ ys, cs', es', [some l]) else none) else none
        | _ => none)
      | .sl l _ 0 n => (match H.at l with
        | .row e' s' ys => if h : s' = s then (if e' == e then some ((h ▸ ys : List s.T).take n, cs', es', [some l]) else none) else none
        | _ => none)
      | _ => none)
    | _, _ => none)
  | es, .pair a b, cs => (match decN H es a cs with
    | some (x, cs1, es1, l1) => (match decN H es1 b cs1 with
      | some (y, cs2, es2, l2) => some ((x, y), cs2, es2, l1 ++ l2)
      | none => none)
    | none => none)
  | _, .rs _, _ => none
  | es, s, cs => (match s.dec cs with
    | some (x, r) => some (x, r, es, [])
    | none => none)
def noDup : List Nat → Bool
  | [] => true
  | d :: r => !(r.contains d) && noDup r
/-- an element is laid open -/
def openH (H : Heap) (l i : Nat) : Heap := match H.at l with
  | .nest e es s xs none => H.set l (.nest e es s xs (some (i, (opnC H.length es s (gt s xs i)).1))) ++ (opnC H.length es s (gt s xs i)).2.1
  | _ => H
/-- what lies open is closed: as updates -/
def closeU (H : Heap) (l : Nat) : Upd := match H.at l with
  | .nest e es s xs (some (i, cs)) => (match decN H es s cs with
    | some (x, [], [], ls) => if noDup (ls.filterMap id) && !((ls.filterMap id).contains l) then (l, .nest e es s (xs.set i x) none) :: (ls.filterMap id).map (fun k => (k, .dead)) else []
    | _ => [])
  | _ => []

structure Entry (P : Program) where
  f : FuncId
  /-- it leaves the objects as they are -/
  quiet : Bool
  run : {β : Type} → List AV → Heap → KO β → Option β
def find {P : Program} (tb : List (Entry P)) (f : FuncId) : Option (Entry P) :=
  match tb with
  | [] => none
  | e :: r => if e.f == f then some e else find r f

structure Ctx (P : Program) where
  ti : TI
  tb : List (Entry P)
  /-- how many objects, the first ones, are only read; how many stay in their places -/
  ro : Nat
  kp : Nat

def isNilSl : C1 → Bool
  | .lit (.slice none 0 0) => true
  | _ => false

section
variable {P : Program} (X : Ctx P) {β : Type}

/-- cells that are whole numbers of one kind -/
def arrInts : List C1 → Option (IntKind × List Int)
  | [] => none
  | [.lit (.int k n)] => some (k, [n])
  | .lit (.int k n) :: r => (match arrInts r with
    | some (k', ns) => if k = k' then some (k, n :: ns) else none
    | none => none)
  | _ => none
/-- a place in an array of whole numbers -/
def arrAt (H : Heap) (c : C1) : Option (IntKind × List Int × Nat) := match c with
  | .ptr l off => (match H.at l with
    | .cells e cs => (match X.ti e with
      | some re => (match re.d with
        | .array _ _ => (match arrInts cs with
          | some (k, ns) => some (k, ns, off)
          | none => none)
        | _ => none)
      | none => none)
    | _ => none)
  | _ => none
def opLoadC (ts : TS) (H : Heap) (t : TypeId) (a : Operand) (K : KO β) : Option β :=
  match X.ti t, ev ts a with
  | some r, .v (.one c) => match cellsAt H c (if isAggD r.d then r.size else 1) with
    | some cs => (match mk2 (isAggD r.d) cs with
      | some v => K v [] []
      | none => none)
    | none => none
  | _, _ => none
def opLoad (ts : TS) (H : Heap) (t : TypeId) (a : Operand) (K : KO β) : Option β :=
  match X.ti t, ev ts a with
  | some r, .v (.one c) => (match isAggD r.d, arrAt X H c with
    | false, some (k, ns, off) => iff' (decide (off < ns.length)) (K (.one (.lit (.int k (ns.getD off 0)))) [] [])
    | _, _ => opLoadC X ts H t a K)
  | _, _ => none
def opStore (ts : TS) (H : Heap) (t : TypeId) (a x : Operand) (K : KO β) : Option β :=
  match X.ti t, ev ts a, ev ts x with
  | some r, .v (.one c), .v v =>
    let vs := v.cells
    if vs.length == r.size && vs.all storable && decide (0 < r.size) then
      match c with
      | .ptr l off => if decide (X.ro ≤ l) then (match H.at l with
          | .cells e cs => if decide (off + vs.length ≤ cs.length) then K (.one .any) [(l, .cells e (putCells cs off vs))] [] else none
          | _ => none) else none
      | .ep l sz i o => if decide (X.ro ≤ l) then (match H.at l with
          | .row e s xs =>
            (match s.dec (putCells (s.avs (gt s xs i)) o (freeze H vs).1) with
            | some (x', []) => if (freeze H vs).2.all (fun u => decide (X.ro ≤ u.1) && (u.1 != l)) then K (.one .any) ((freeze H vs).2 ++ [(l, .row e s (xs.set i x'))]) [] else none
            | _ => none)
          | _ => none) else none
      | _ => none
    else none
  | _, _, _ => none
def opFieldAddr (ts : TS) (H : Heap) (s : TypeId) (x : Operand) (f : Nat) (K : KO β) : Option β :=
  match X.ti s, ev ts x with
  | some r, .v (.one c) => (match r.d with
    | .struct fs => (match fieldOff X.ti fs f with
      | some (off, size, _) => if decide (0 < size) && notNil H c then (match addOff c off with
        | some c' => K (.one c') [] []
        | none => none) else none
      | none => none)
    | _ => none)
  | _, _ => none
def opField (ts : TS) (H : Heap) (s : TypeId) (x : Operand) (f : Nat) (K : KO β) : Option β :=
  match X.ti s, ev ts x with
  | some r, .v (.agg cs) => (match r.d with
    | .struct fs => (match fieldOff X.ti fs f with
      | some (off, size, ag) => (match cutN cs off (if ag then size else 1) with
        | some r => (match mk2 ag r with
          | some v => K v [] []
          | none => none)
        | none => none)
      | none => none)
    | _ => none)
  | _, _ => none
def opIndexAddr (ts : TS) (H : Heap) (t : TypeId) (x ix : Operand) (K : KO β) : Option β :=
  match X.ti t, ev ts x, asI (ev ts ix) with
  | some r, .v (.one c), some i => (match r.d with
    | .slice e => (match X.ti e with
      | some re => (match c with
        | .own l sz => if sz == re.size then (match (H.at l).dim with
          | some (_, n) => iff' (decide (0 ≤ i ∧ i < (n : Int))) (K (.one (.ep l sz i.toNat 0)) [] [])
          | none => none) else none
        | .sl l sz off len => if sz == re.size then (match (H.at l).dim with
          | some _ => iff' (decide (0 ≤ i ∧ i < (len : Int))) (K (.one (.ep l sz (off + i.toNat) 0)) [] [])
          | none => none) else none
        | .vsl s xs => if s.sz == re.size && decide (0 < re.size) then iff' (decide (0 ≤ i ∧ i < (xs.length : Int))) (K (.one (.vp s xs i.toNat 0)) [] []) else none
        | _ => none)
      | none => none)
    | .array n e => (match X.ti e, c with
      | some re, .ptr l off => if (H.at l).isLive then iff' (decide (0 ≤ i ∧ i < (n : Int))) (K (.one (.ptr l (off + i.toNat * re.size))) [] []) else none
      | some re, .vp s xs i0 0 => if s.sz == re.size && Nat.ble (i0 + n) xs.length then iff' (decide (0 ≤ i ∧ i < (n : Int))) (K (.one (.vp s xs (i0 + i.toNat) 0)) [] []) else none
      | _, _ => none)
    | _ => none)
  | _, _, _ => none
def opIndex (ts : TS) (H : Heap) (t : TypeId) (x ix : Operand) (K : KO β) : Option β :=
  match X.ti t, ev ts x, asI (ev ts ix) with
  | some r, .v (.one (.lit (.string s))), some i => (match r.d with
    | .string => iff' (decide (0 ≤ i ∧ i < (s.size : Int))) (K (.one (.lit (.int .u8 (bt s i)))) [] [])
    | _ => none)
  | _, _, _ => none
def opt (ts : TS) (o : Option Operand) (d : Int) : Option Int :=
  match o with
  | none => some d
  | some x => asI (ev ts x)
def opSlice (ts : TS) (H : Heap) (t : TypeId) (x : Operand) (lo hi mx : Option Operand) (K : KO β) : Option β :=
  match X.ti t, ev ts x with
  | some r, .v (.one c) => (match lenOf H c with
    | some n => (match opt ts lo 0, opt ts hi n with
      | some l, some h => (match opt ts mx h, mx.isSome && hi.isNone with
        | some m, false => (match r.d with
          | .string => (match c with
            | .lit (.string s) => if mx.isSome then none else iff' (decide (0 ≤ l ∧ l ≤ h ∧ h ≤ n)) (K (.one (.lit (.string (s.extract l.toNat h.toNat)))) [] [])
            | _ => none)
          | .slice e => (match X.ti e with
            | some re => iff' (decide (0 ≤ l ∧ l ≤ h ∧ h ≤ m ∧ m ≤ n)) (match c with
              | .own k sz => if sz == re.size then K (.one (.sl k sz l.toNat (h.toNat - l.toNat))) [] [] else none
              | .sl k sz off _ => if sz == re.size then K (.one (.sl k sz (off + l.toNat) (h.toNat - l.toNat))) [] [] else none
              | .vsl s xs => if s.sz == re.size then K (.one (.vsl s ((xs.take h.toNat).drop l.toNat))) [] [] else none
              | _ => none)
            | none => none)
          | _ => none)
        | _, _ => none)
      | _, _ => none)
    | none => none)
  | _, _ => none
def opMake (ts : TS) (H : Heap) (t : TypeId) (n c : Operand) (K : KO β) : Option β :=
  match X.ti t, asI (ev ts n), asI (ev ts c) with
  | some r, some n, some c => (match r.d with
    | .slice e => (match X.ti e with
      | some re => (match re.sh.dec (re.zero.map .lit) with
        | some (z, []) => if re.sh.sz == re.size then
            iff' (decide (0 ≤ n ∧ n ≤ c) && (Nat.ble (c.toNat * re.bytes) 140737488355328 && Nat.ble c.toNat 1152921504606846976)) (K (.one (.own H.length re.sh.sz)) [] [.row e re.sh (List.replicate n.toNat z)])
          else none
        | _ => none)
      | none => none)
    | _ => none)
  | _, _, _ => none
def castL {s s' : Sh} (h : s' = s) (xs : List s'.T) : List s.T := h ▸ xs
def newsOf (H : Heap) (s : Sh) (c : C1) : Option (List s.T) :=
  if isNilSl c then some [] else match elemsOf H c with
    | some ⟨s', ys⟩ => if h : s' = s then some (castL h ys) else none
    | none => none
def rowOf : C1 → Option Nat
  | .own l _ => some l
  | .sl l _ _ _ => some l
  | _ => none
def oldsOf (ro : Nat) (H : Heap) (e : TypeId) (s : Sh) (c : C1) : Option (List s.T × Upd) :=
  if isNilSl c then some ([], []) else match rowOf c with
    | some l => if decide (ro ≤ l) then (match H.at l with
      | .row e' _ _ => if e' == e then (match newsOf H s c with
        | some ys => some (ys, [(l, .dead)])
        | none => none) else none
      | _ => none) else none
    | none => none
def opAppend (ts : TS) (H : Heap) (t : TypeId) (s x : Operand) (K : KO β) : Option β :=
  match X.ti t, ev ts s, ev ts x with
  | some r, .v (.one cs), .v (.one cx) => (match r.d with
    | .slice e => (match X.ti e with
      | some re =>
        (match oldsOf X.ro H e re.sh cs, newsOf H re.sh cx with
        | some (os, U), some ns =>
          if re.sh.sz == re.size && decide (0 < re.size) && decide (0 < re.bytes) then
            iff' (Nat.ble ((os.length + ns.length) * re.bytes) 140737488355328) (K (.one (.own H.length re.sh.sz)) U [.row e re.sh (os ++ ns)])
          else none
        | _, _ => none)
      | none => none)
    | _ => none)
  | _, _, _ => none
def partsOf (ts : TS) (parts : Array (Nat × Operand)) : List (Nat × AV) := parts.toList.map fun p => (p.1, ev ts p.2)
def allIn (ti : TI) (fs : Array Field) : Bool := fs.toList.all fun f => (ti f.type).isSome
def placeS (ti : TI) (fs : Array Field) (f : Nat) : Option (Nat × Nat) := match fieldOff ti fs f with
  | some (o, n, _) => some (o, n)
  | none => none
def opBuild (ts : TS) (H : Heap) (t : TypeId) (parts : Array (Nat × Operand)) (K : KO β) : Option β :=
  match X.ti t with
  | some r => (match r.d with
    | .struct fs => if allIn X.ti fs then (match fillCells (placeS X.ti fs) (r.zero.map .lit) (partsOf ts parts) with
      | some cs => K (.agg cs) [] []
      | none => none) else none
    | .array _ e => (match X.ti e with
      | some re => (match fillCells (fun i => some (i * re.size, re.size)) (r.zero.map .lit) (partsOf ts parts) with
        | some cs => K (.agg cs) [] []
        | none => none)
      | none => none)
    | _ => none)
  | none => none
def opBuildSlice (ts : TS) (H : Heap) (t : TypeId) (n : Nat) (parts : Array (Nat × Operand)) (K : KO β) : Option β :=
  match X.ti t with
  | some r => (match r.d with
    | .slice e => (match X.ti e with
      | some re =>
        (match fillCells (fun i => some (i * re.size, re.size)) (reps re.zero n) (partsOf ts parts) with
        | some cs =>
          if (freeze H cs).2.all (fun u => decide (X.ro ≤ u.1)) && decide (n * re.size ≤ 4096) && (re.sh.sz == re.size) && decide (0 < re.size) then
            (match decRow re.sh n (freeze H cs).1 with
            | some xs => K (.one (.own H.length re.sh.sz)) (freeze H cs).2 [.row e re.sh xs]
            | none => none)
          else none
        | none => none)
      | none => none)
    | _ => none)
  | none => none
def opDiv (op : BinOp) (x y : AV) (K : KO β) : Option β :=
  match x, y with
  | .v (.one (.lit (.int k a))), .v (.one (.lit (.int k' b))) =>
    if k = k' then iff' (decide (b ≠ 0)) (K (.one (.lit (.int k (match op with
      | .quo => k.wrap (a.tdiv b)
      | _ => a.tmod b)))) [] []) else none
  | _, _ => none
def opShift (op : BinOp) (x y : AV) (K : KO β) : Option β :=
  match x, y with
  | .v (.one (.lit (.int k a))), .v (.one (.lit (.int _ b))) =>
    iff' (decide (0 ≤ b)) (K (.one (.lit (.int k (match op with
      | .shl => k.wrap (a * 2 ^ (min b.toNat k.bits))
      | _ => a.fdiv (2 ^ (min b.toNat k.bits)))))) [] [])
  | _, _ => none
/-- every operand a plain value: the operation itself is computed -/
def vals (ts : TS) : List Operand → Option (List (Operand × Value))
  | [] => some []
  | x :: r => match asVal (ev ts x), vals ts r with
    | some v, some vs => some ((x, v) :: vs)
    | _, _ => none
def isNilP : AV → Bool
  | .v (.one (.lit (.pointer none))) => true
  | _ => false
def livePtr (H : Heap) : AV → Bool
  | .v (.one (.ptr l _)) => (H.at l).isLive
  | _ => false
/-- a place beside nil -/
def opNil (ts : TS) (H : Heap) (op : BinOp) (t : TypeId) (x y : Operand) (K : KO β) : Option β :=
  match X.ti t with
  | some r => (match r.d with
    | .pointer _ => if livePtr H (ev ts x) && isNilP (ev ts y) then (match op with
      | .eql => K (.one (.lit (.bool false))) [] []
      | .neq => K (.one (.lit (.bool true))) [] []
      | _ => none) else none
    | _ => none)
  | none => none
/-- a part of a struct's value -/
def partV (ti : TI) (t : TypeId) (o : Nat) (xs : List Value) : Option Value := match ti t with
  | some r => if ((xs.drop o).take (if isAggD r.d then r.size else 1)).length == (if isAggD r.d then r.size else 1) then
      some (if isAggD r.d then .agg ((xs.drop o).take (if isAggD r.d then r.size else 1)).toArray else ((xs.drop o).take (if isAggD r.d then r.size else 1)).headD undef) else none
  | none => none
def eqFs (ti : TI) (rec : TypeId → Value → Value → Option Bool) (xs ys : List Value) : List Field → Option Bool
  | [] => some true
  | f :: r => if f.name == "_" then eqFs ti rec xs ys r else match partV ti f.type f.offset xs, partV ti f.type f.offset ys with
    | some a, some b => (match rec f.type a b, eqFs ti rec xs ys r with
      | some c, some d => some (c && d)
      | _, _ => none)
    | _, _ => none
/-- are two values alike, part by part? -/
def eqV (P : Program) (ti : TI) : Nat → TypeId → Value → Value → Option Bool
  | 0, _, _, _ => none
  | n + 1, t, x, y => match ti t with
    | none => none
    | some r => (match r.d, x, y with
      | .int _, .int k a, .int k' b => if k = k' then some (a == b) else none
      | .bool, .bool a, .bool b => some (a == b)
      | .string, .string a, .string b => some (a == b)
      | .struct fs, .agg xs, .agg ys => if P.stoodInHeld t then none else eqFs ti (eqV P ti n) xs.toList ys.toList fs.toList
      | _, _, _ => none)
def opEqS (op : BinOp) (t : TypeId) (xs ys : Array Value) (K : KO β) : Option β :=
  if P.eqGuardType P.depth t then none else match eqV P X.ti 8 t (.agg xs) (.agg ys) with
  | some c => (match op with
    | .eql => K (.one (.lit (.bool c))) [] []
    | .neq => K (.one (.lit (.bool (!c)))) [] []
    | _ => none)
  | none => none
/-- bytes as a string -/
def bstr (xs : List Int) : ByteArray := xs.foldl (fun r n => r.push (UInt8.ofNat n.toNat)) ByteArray.empty
def opB2S (ts : TS) (H : Heap) (s d : TypeId) (x : Operand) (K : KO β) : Option β :=
  match X.ti s, X.ti d, ev ts x with
  | some r, some r', .v (.one c) => (match r.d, r'.d with
    | .slice e, .string => (match X.ti e with
      | some re => (match re.d, newsOf H (.int .u8) c with
        | .int .u8, some xs => K (.one (.lit (.string (bstr xs)))) [] []
        | _, _ => none)
      | none => none)
    | _, _ => none)
  | _, _, _ => none
def opPure (ts : TS) (H : Heap) (o : Oper) (K : KO β) : Option β :=
  match o.op with
  | .binOp op t x y _ => (match op with
    | .quo | .rem => opDiv op (ev ts x) (ev ts y) K
    | .shl | .shr => opShift op (ev ts x) (ev ts y) K
    | op => (match asVal (ev ts x), asVal (ev ts y) with
      | some (.agg xs), some (.agg ys) => opEqS X op t xs ys K
      | some a, some b => (match pureRun P (do eqGuard op t x y a b; binOp op t a b) with
        | some v => K (ofVal v) [] []
        | none => none)
      | _, _ => opNil X ts H op t x y K))
  | .unOp op _ x => (match asVal (ev ts x) with
    | some a => (match pureRun P (Op.unary op a) with
      | some v => K (ofVal v) [] []
      | none => none)
    | none => none)
  | .convert s d x => (match asVal (ev ts x) with
    | some a => (match pureRun P (convert s d a) with
      | some v => K (ofVal v) [] []
      | none => none)
    | none => opB2S X ts H s d x K)
  | _ => none
def lenT (H : Heap) (d : TypeDesc) (c : C1) : Option Int :=
  match d with
  | .string => (match c with
    | .lit (.string s) => some (s.size : Int)
    | _ => none)
  | .slice _ => (match c with
    | .lit (.string s) => none
    | c => lenOf H c)
  | _ => none
/-- the part of a row that a slice is: the row, where it begins, how long it is -/
def partOf (H : Heap) : C1 → Option (Nat × Nat × Nat)
  | .own l _ => match H.at l with
    | .row _ _ xs => some (l, 0, xs.length)
    | _ => none
  | .sl l _ off len => some (l, off, len)
  | _ => none
def opCopy (ts : TS) (H : Heap) (t : TypeId) (d x : Operand) (K : KO β) : Option β :=
  match X.ti t, ev ts d, ev ts x with
  | some r, .v (.one cd), .v (.one cx) => (match r.d, partOf H cd with
    | .slice e, some (l, off, len) => (match X.ti e, H.at l with
      | some re, .row e' s xs => (match newsOf H s cx with
        | some ys => if s.sz == re.size && decide (0 < re.size) && decide (X.ro ≤ l) then
            K (.one (.lit (.int .i64 ((Nat.min ys.length len : Nat) : Int)))) [(l, .row e' s (xs.take off ++ ys.take (Nat.min ys.length len) ++ xs.drop (off + Nat.min ys.length len)))] [] else none
        | none => none)
      | _, _ => none)
    | _, _ => none)
  | _, _, _ => none
def opBuiltin (ts : TS) (H : Heap) (o : Oper) (b : Builtin) (args : Array Operand) (tys : Array TypeId) (K : KO β) : Option β :=
  match b with
  | .len => (match args.toList, tys.toList with
    | [x], [t] => (match X.ti t, ev ts x with
      | some r, .v (.one c) => (match lenT H r.d c with
        | some n => K (.one (.lit (.int .i64 n))) [] []
        | none => none)
      | _, _ => none)
    | _, _ => none)
  | .append => (match args.toList, tys.toList with
    | [s, x], [t, t'] => if t == t' then opAppend X ts H t s x K else none
    | _, _ => none)
  | .copy => (match args.toList, tys.toList with
    | [d, x], [t, t'] => opCopy X ts H t d x K
    | _, _ => none)
  | .max => (match args.toList.map (fun x => asVal (ev ts x)) with
    | [some a, some b] => (match pureRun P (Builtin.max2 a b) with
      | some v => K (ofVal v) [] []
      | none => none)
    | _ => none)
  | .min => (match args.toList.map (fun x => asVal (ev ts x)) with
    | [some a, some b] => (match pureRun P (Builtin.min2 a b) with
      | some v => K (ofVal v) [] []
      | none => none)
    | _ => none)
  | _ => none
def opCall (ts : TS) (H : Heap) (f : Operand) (args : Array Operand) (K : KO β) : Option β :=
  match ev ts f with
  | .v (.one (.fn f caps)) => (match find X.tb f with
    | some e => e.run (args.toList.map (ev ts) ++ caps.map .one) H fun v U N => if U.all (fun u => decide (X.ro ≤ u.1)) then K v U N else none
    | none => none)
  | _ => none
def plainC : C1 → Bool
  | .fn _ _ => false
  | _ => true
def capsOf (ts : TS) : List Operand → Option (List C1)
  | [] => some []
  | x :: r => match ev ts x, capsOf ts r with
    | .v (.one c), some cs => if plainC c then some (c :: cs) else none
    | _, _ => none

def opEval (ts : TS) (H : Heap) (o : Oper) (K : KO β) : Option β :=
  match o.op with
  | .move x | .assign x => K (ev ts x) [] []
  | .pick c a b => (match ev ts c with
    | .v (.one (.lit (.bool t))) => (match ev ts a, ev ts b with
      | .v (.one (.lit (.bool x))), .v (.one (.lit (.bool y))) => K (.one (.lit (.bool (bif t then x else y)))) [] []
      | va, vb => (match t with
        | true => K va [] []
        | false => K vb [] []))
    | _ => none)
  | .alloc e => (match X.ti e with
    | some r => K (.one (.ptr H.length 0)) [] [.cells e (r.zero.map .lit)]
    | none => none)
  | .box e x => (match X.ti e, ev ts x with
    | some r, .v a => if a.cells.all storable then K (.one (.ptr H.length 0)) [] [.cells e a.cells] else none
    | _, _ => none)
  | .build t ps => opBuild X ts H t ps K
  | .buildSlice t n ps => opBuildSlice X ts H t n ps K
  | .load t a => opLoad X ts H t a K
  | .store t a x => opStore X ts H t a x K
  | .nilCheck x => (match ev ts x with
    | .v (.one c) => if notNil H c then K (.one c) [] [] else none
    | _ => none)
  | .fieldAddr s x f => opFieldAddr X ts H s x f K
  | .field s x f => opField X ts H s x f K
  | .indexAddr t x i => opIndexAddr X ts H t x i K
  | .index t x i => opIndex X ts H t x i K
  | .slice t x lo hi mx => opSlice X ts H t x lo hi mx K
  | .makeSlice t n c => opMake X ts H t n c K
  | .makeFunc (.func f) first caps => (match first.toList, capsOf ts caps.toList with
    | [], some cs => K (.one (.fn f cs)) [] []
    | _, _ => none)
  | .extract x i => (match ev ts x with
    | .tup vs => (match vs[i]? with
      | some a => K (.v a) [] []
      | none => none)
    | _ => none)
  | .call { callee := .builtin b, args, argTypes } => opBuiltin X ts H o b args argTypes K
  | .call { callee := .value f, args, .. } => opCall X ts H f args K
  | _ => opPure X ts H o K

/-- an element's cells, as far as they are told while it is closed -/
def Sh.avsN : (s : Sh) → s.T → List C1
  | .sl _, _ => [.any]
  | .pair a b, x => a.avsN x.1 ++ b.avsN x.2
  | s, x => s.avs x
def isLitNil : C1 → Bool
  | .lit (.slice none 0 0) => true
  | _ => false
/-- a string's bytes -/
def bytesL (b : ByteArray) : List Int := b.data.toList.map fun x => (x.toNat : Int)
/-- a string that is made a slice of bytes -/
def s2b (ts : TS) (s d : TypeId) (x : Operand) : Option ByteArray := match X.ti s, X.ti d, asVal (ev ts x) with
  | some r, some r', some (.string b) => (match r.d, r'.d with
    | .string, .slice e => (match X.ti e with
      | some re => (match re.d with
        | .int .u8 => some b
        | _ => none)
      | none => none)
    | _, _ => none)
  | _, _, _ => none
/-- what is done with rows whose elements have slices of their own, and what makes a slice to be read alone: under which condition, what is answered, what is written, what is new -/
def opN (ts : TS) (H : Heap) (o : Oper) : Option (Bool × AV × Upd × List AO) :=
  match o.op with
  | .load t a => (match X.ti t, ev ts a with
    | some r, .v (.one (.ep l _ i off)) => (match H.at l with
      | .nest _ _ s xs none => (match cutN (s.avsN (gt s xs i)) off (if isAggD r.d then r.size else 1) with
        | some cs => (match mk2 (isAggD r.d) cs with
          | some v => some (true, v, [], [])
          | none => none)
        | none => none)
      | .nest _ _ _ _ (some (i', ds)) => (match cutN ds off (if isAggD r.d then r.size else 1) with
        | some cs => (match mk2 (isAggD r.d) cs with
          | some v => some (decide (i' = i), v, [], [])
          | none => none)
        | none => none)
      | _ => none)
    | _, _ => none)
  | .store t a x => (match X.ti t, ev ts a, ev ts x with
    | some r, .v (.one (.ep l _ i off)), .v v => (match H.at l with
      | .nest e es s xs (some (i', ds)) => if v.cells.length == r.size && v.cells.all storable && decide (0 < r.size) && decide (X.ro ≤ l) && decide (off + v.cells.length ≤ s.sz) then
          some (decide (i' = i), .one .any, [(l, .nest e es s xs (some (i', putCells ds off v.cells)))], []) else none
      | _ => none)
    | _, _, _ => none)
  | .buildSlice t n ps => (match X.ti t, n with
    | some r, 1 => (match r.d with
      | .slice e => (match X.ti e, nestAt nests e with
        | some re, some es => (match fillCells (fun i => some (i * re.size, re.size)) (reps re.zero 1) (partsOf ts ps) with
          | some cs => if cs.all storable && decide (1 * re.size ≤ 4096) && (re.sh.sz == re.size) && decide (0 < re.size) && (cs.length == re.size) then
              some (true, .one (.own H.length re.sh.sz), [], [.nest e es re.sh [re.sh.dflt] (some (0, cs))]) else none
          | none => none)
        | _, _ => none)
      | _ => none)
    | _, _ => none)
  | .call { callee := .builtin .append, args, argTypes } => (match args.toList, argTypes.toList with
    | [s, x], [t, t'] => (match X.ti t, ev ts s, ev ts x with
      | some r, .v (.one c), .v (.one (.own l2 _)) => (match r.d, H.at l2 with
        | .slice e, .nest e2 es sh [_] (some (0, cs)) => (match X.ti e with
          | some re => if t == t' && e2 == e && decide (X.ro ≤ l2) && (sh.sz == re.size) && decide (0 < re.size) && decide (0 < re.bytes) then
              (if isLitNil c then some (Nat.ble ((0 + 1) * re.bytes) 140737488355328, .one (.own H.length sh.sz), [(l2, .dead)], [.nest e es sh [sh.dflt] (some (0, cs))])
              else match c with
                | .own l z => (match H.at l with
                  | .nest e1 es1 sh1 xs none => if hs : sh1 = sh then (if (e1 == e) && (es1 == es) && (l != l2) && decide (X.ro ≤ l) && (z == sh.sz) then
                      some (Nat.ble ((xs.length + 1) * re.bytes) 140737488355328, .one (.own H.length sh.sz), [(l, .dead), (l2, .dead)], [.nest e es sh ((hs ▸ xs : List sh.T) ++ [sh.dflt]) (some (xs.length, cs))]) else none) else none
                  | _ => none)
                | _ => none) else none
          | none => none)
        | _, _ => none)
      | _, _, _ => none)
    | _, _ => none)
  | .convert s d x => (match s2b X ts s d x with
    | some b => some (true, .one (.vsl (.int .u8) (bytesL b)), [], [])
    | none => none)
  | _ => none
/-- a row of elements whose slices are read alone -/
def asRead (ts : TS) (o : Oper) : Bool := match o.op with
  | .buildSlice _ _ ps => (partsOf ts ps).any fun p => match p.2 with
    | .v a => a.cells.any fun c => match c with
      | .vsl _ _ => true
      | _ => false
    | _ => false
  | _ => false
def opN1 (ts : TS) (H : Heap) (o : Oper) : Option (Bool × AV × Upd × List AO) := match asRead ts o with
  | true => none
  | false => opN X ts H o
def opAll (ts : TS) (H : Heap) (o : Oper) (K : KO β) : Option β := match opN1 X ts H o with
  | some (c, v, U, N) => iff' c (K v U N)
  | none => opEval X ts H o K

def putT (ts : TS) (d : Option Tmp) (v : AV) : TS := match d with
  | some t => (t, v) :: ts
  | none => ts
def dstOk (o : Oper) (N : Nat) : Bool := match o.dst with
  | some d => decide (d < N)
  | none => true
def guardVal (all : Array Oper) (ts : TS) (j : Nat) : Option Bool :=
  match all[j]? with
  | some oj => (match oj.dst with
    | some d => (match ts.get d with
      | .v (.one (.lit (.bool b))) => some b
      | _ => none)
    | none => none)
  | none => none
/-- a guard that has been left out itself -/
def guardOff (all : Array Oper) (ts : TS) (j : Nat) : Bool :=
  match all[j]? with
  | some oj => (match oj.dst with
    | some d => (match ts.get d with
      | .tup [] => true
      | _ => false)
    | none => false)
  | none => false
/-- an operation, if its guard lets it -/
def gEval (all : Array Oper) (ts : TS) (H : Heap) (o : Oper) (K : KO β) : Option β :=
  match o.guard with
  | none => opAll X ts H o K
  | some (j, want) => (match guardVal all ts j with
    | some b => bif b == want then opAll X ts H o K else K (.tup []) [] []
    | none => if guardOff all ts j then K (.tup []) [] [] else none)
/-- is it a guard? then it is told apart at once -/
def isG (all : Array Oper) (o : Oper) : Bool := all.toList.any fun o' => match o'.guard with
  | some (j, _) => (match all[j]? with
    | some oj => (match oj.dst, o.dst with
      | some d, some d' => d == d'
      | _, _ => false)
    | none => false)
  | none => false
def splitB {γ : Type} (c : Bool) (v : AV) (K : AV → γ) : γ := match c, v with
  | true, .v (.one (.lit (.bool b))) => bif b then K (.v (.one (.lit (.bool true)))) else K (.v (.one (.lit (.bool false))))
  | _, v => K v
theorem splitB_eq {γ : Type} (c : Bool) (v : AV) (K : AV → γ) : splitB c v K = K v := by
  unfold splitB
  split
  · rename_i b; cases b <;> rfl
  · rfl
/-- both ways come to the same -/
noncomputable def both {γ : Type} (a b : Option γ) : Option γ := open Classical in if a = b then a else none
theorem both_some {γ : Type} {a b : Option γ} {r : γ} (h : both a b = some r) : a = some r ∧ b = some r := by
  unfold both at h
  split at h
  · rename_i e; exact ⟨h, e ▸ h⟩
  · cases h
theorem both_self {γ : Type} (a : Option γ) : both a a = a := by unfold both; rw [if_pos rfl]
/-- a slice beside nil: whether the operation asks if it is nil, and whether it may be -/
def nilCmp (ts : TS) (H : Heap) (o : Oper) : Option (Bool × Bool) :=
  match o.guard, o.op with
  | none, .binOp op t x y _ => (match X.ti t, ev ts x, ev ts y with
    | some r, .v (.one c), .v (.one (.lit (.slice none 0 0))) => (match r.d, (match op with
        | .eql => some true
        | .neq => some false
        | _ => none : Option Bool) with
      | .slice _, some q => (match c with
        | .vsl s xs => if decide (0 < s.sz) then some (q, xs.isEmpty) else none
        | .own l _ => (match H.at l with
          | .row _ _ xs => some (q, xs.isEmpty)
          | _ => none)
        | _ => none)
      | _, _ => none)
    | _, _, _ => none)
  | _, _ => none
/-- bytes as bytes: read alone from there on -/
def convId (ts : TS) (H : Heap) (o : Oper) : Option (Nat × List Int) :=
  match o.guard, o.op with
  | none, .convert s d x => if s == d then (match X.ti s, ev ts x with
    | some r, .v (.one (.own l _)) => (match r.d with
      | .slice e => (match X.ti e with
        | some re => (match re.d, H.at l with
          | .int .u8, .row _ (.int .u8) xs => if decide (X.ro ≤ l) then some (l, xs) else none
          | _, _ => none)
        | none => none)
      | _ => none)
    | _, _ => none) else none
  | _, _ => none
/-! What is done to the objects without the world's doing: elements opened and closed, slices cut short told as rows of their own -/
def openFor (ro : Nat) (ts : TS) (H : Heap) (a : Operand) : Heap := match ev ts a with
  | .v (.one (.ep l _ i _)) => if decide (ro ≤ l) then openH H l i else H
  | _ => H
def AO.cutTo (n : Nat) : AO → Option AO
  | .row e s xs => some (.row e s (xs.take n))
  | .nest e es s xs none => some (.nest e es s (xs.take n) none)
  | _ => none
def trimC (ro : Nat) (H : Heap) (j c : Nat) : Heap := match H.at j with
  | .cells e cs => (match cs[c]? with
    | some (.sl l z 0 n) => if decide (ro ≤ j) && decide (ro ≤ l) then (match (H.at l).cutTo n with
      | some o => (H.set l .dead).set j (.cells e (cs.set c (.own H.length z))) ++ [o]
      | none => H) else H
    | _ => H)
  | _ => H
def trimJ (ro j : Nat) : Nat → Heap → Heap
  | 0, H => H
  | c + 1, H => trimJ ro j c (trimC ro H j c)
def trimN (ro : Nat) : Nat → Heap → Heap
  | 0, H => H
  | j + 1, H => trimN ro j (trimJ ro j (H.at j).cs.length H)
def trimAll (ro : Nat) (H : Heap) : Heap := trimN ro H.length H
def closesU : Nat → Heap → Upd
  | 0, _ => []
  | n + 1, H => closesU n H ++ closeU (H.upd (closesU n H)) n
def closeAll (ro : Nat) (H : Heap) : Heap := if (closesU H.length H).all (fun u => decide (ro ≤ u.1)) then H.upd (closesU H.length H) else H
def prepO (ro : Nat) (ts : TS) (H : Heap) (o : Oper) : Heap := match o.guard, o.op with
  | none, .load _ a => openFor ro ts H a
  | none, .store _ a _ => openFor ro ts H a
  | none, .call { callee := .value _, .. } => trimAll ro H
  | _, _ => H
def prepR (ro : Nat) (ts : TS) : List Oper → Heap → Heap
  | [], H => H
  | o :: r, H => prepR ro ts r (match o.op with
    | .move (.tmp t) => openFor ro ts H (.tmp t)
    | _ => H)
/-- what an operation comes to, as far as that is told ahead of its turn -/
def peek (ts : TS) (H : Heap) (o : Op) : AV := match o with
  | .move x => ev ts x
  | .fieldAddr s x f => (match X.ti s, ev ts x with
    | some r, .v (.one c) => (match r.d with
      | .struct fs => (match fieldOff X.ti fs f with
        | some (off, _, _) => (match addOff c off with
          | some c' => .one c'
          | none => .one .any)
        | none => .one .any)
      | _ => .one .any)
    | _, _ => .one .any)
  | .indexAddr _ x i => (match ev ts x, ev ts i with
    | .v (.one (.own l z)), .v (.one (.lit (.int _ n))) => .one (.ep l z n.toNat 0)
    | _, _ => .one .any)
  | .load t a => (match X.ti t, ev ts a with
    | some r, .v (.one c) => (match cellsAt H c (if isAggD r.d then r.size else 1) with
      | some cs => (match mk2 (isAggD r.d) cs with
        | some v => v
        | none => .one .any)
      | none => .one .any)
    | _, _ => .one .any)
  | _ => .one .any
/-- an element that is about to be read: where, which one, of how many -/
def openAt (ts : TS) (H : Heap) (o : Oper) : Option (Nat × Nat × Nat) := match o.guard, o.op with
  | none, .load _ a => (match ev ts a with
    | .v (.one (.ep l _ i _)) => if decide (X.ro ≤ l) then (match H.at l with
      | .nest _ _ _ xs none => some (l, i, xs.length)
      | _ => none) else none
    | _ => none)
  | _, _ => none
/-- ahead of a region: elements that it will read are laid open -/
def prepG : List Oper → TS → Heap → (Heap → Option β) → Option β
  | [], _, H, K => K H
  | o :: r, ts, H, K => (match openAt X ts H o with
    | some (l, i, n) => iff' (decide (i < n)) (prepG r (putT ts o.dst (peek X ts (openH H l i) o.op)) (openH H l i) K)
    | none => prepG r (putT ts o.dst (peek X ts H o.op)) H K)
/-- operations one behind the other -/
noncomputable def opsRun (all : Array Oper) (N : Nat) : List Oper → TS → Heap → (TS → Heap → Option β) → Option β
  | [], ts, H, K => K ts H
  | o :: r, ts, H, K => if dstOk o N then (match nilCmp X ts H o with
      | some (q, em) => bif em then both (opsRun all N r (putT ts o.dst (.one (.lit (.bool q)))) H K) (opsRun all N r (putT ts o.dst (.one (.lit (.bool (!q))))) H K) else opsRun all N r (putT ts o.dst (.one (.lit (.bool (!q))))) H K
      | none => (match convId X ts H o with
        | some (l, xs) => iff' (decide (0 < xs.length)) (opsRun all N r (putT ts o.dst (.one (.vsl (.int .u8) xs))) (H.set l .dead) K)
        | none => gEval X all ts (prepO X.ro ts H o) o fun v U Ns => splitB (isG all o) v fun v => opsRun all N r (putT ts o.dst v) ((prepO X.ro ts H o).upd U ++ Ns) K))
    else none
/-! operations in whatever order Go may choose -/
def preds (o : Oper) : List Nat := o.after.toList.filterMap fun e => if Region.binds .any e then some e.on else none
abbrev BV := List Bool
def BV.has (v : BV) (j : Nat) : Bool := v.getD j false
def orB : BV → BV → BV
  | [], v => v
  | v, [] => v
  | a :: v, b :: u => (a || b) :: orB v u
def bitB : Nat → BV
  | 0 => [true]
  | n + 1 => false :: bitB n
def ancOf (tab : List BV) : List Nat → BV
  | [] => []
  | p :: ps => orB (orB (bitB p) (tab.getD p [])) (ancOf tab ps)
/-- of each operation those that lie ahead of it -/
def ancTab : List Oper → List BV → List BV
  | [], tab => tab
  | o :: r, tab => ancTab r (tab ++ [ancOf tab (preds o)])
def isEvent : Op → Bool
  | .alloc _ | .box _ _ | .buildSlice _ _ _ | .store _ _ _ | .makeSlice _ _ _ | .convert _ _ _ => true
  | .call { callee := .builtin .append, .. } => true
  | .call { callee := .builtin .copy, .. } => true
  | .call { callee := .builtin _, .. } => false
  | .call _ => true
  | _ => false
def isConv : Op → Bool
  | .convert _ _ _ => true
  | _ => false
structure Rec where
  i : Nat
  d : Option Tmp
  v : AV
def dstsOf : List Oper → List Tmp
  | [] => []
  | o :: r => match o.dst with
    | some d => d :: dstsOf r
    | none => dstsOf r
def nodup : List Nat → Bool
  | [] => true
  | d :: r => !(r.contains d) && nodup r
def numbered : Nat → List Oper → List (Nat × Oper)
  | _, [] => []
  | i, o :: r => (i, o) :: numbered (i + 1) r
/-- events lie in a row; who goes ahead stands ahead -/
def rowOk (ev : BV) (tab : List BV) : List (Nat × Oper) → List Nat → Bool
  | [], _ => true
  | (i, o) :: r, es => (preds o).all (fun p => decide (p < i)) && (if ev.has i then es.all (fun e => (tab.getD i []).has e) && rowOk ev tab r (i :: es) else rowOk ev tab r es)
def recTS (v : BV) : List Rec → TS
  | [] => []
  | q :: r => match q.d with
    | some d => if v.has q.i then (d, q.v) :: recTS v r else recTS v r
    | none => recTS v r
def anyTS : List Tmp → TS
  | [] => []
  | d :: r => (d, .one .any) :: anyTS r
def allTS : List Rec → TS
  | [] => []
  | q :: r => match q.d with
    | some d => (d, q.v) :: allTS r
    | none => allTS r
def cntE (ev : BV) (v : BV) : List (Nat × Oper) → Nat
  | [] => 0
  | (i, o) :: r => if ev.has i && v.has i then cntE ev v r + 1 else cntE ev v r
/-- an event that leaves the objects as they are, if need be: whoever asks sees to it -/
def makes : Op → Bool
  | .alloc _ | .box _ _ | .makeSlice _ _ _ => true
  | _ => false
def quietOp {P : Program} (X : Ctx P) (num : List (Nat × Oper)) (tab : List BV) (i : Nat) (o : Oper) : Bool := match o.op with
  | .call { callee := .value (.func f), .. } => (match find X.tb f with
    | some e => e.quiet
    | none => false) || num.any fun p => p.1 != i && makes p.2.op && !(tab.getD i []).has p.1 && !(tab.getD p.1 []).has i
  | .buildSlice _ _ _ => num.any fun p => p.1 != i && (isEvent p.2.op && !isConv p.2.op) && !(tab.getD i []).has p.1 && !(tab.getD p.1 []).has i
  | .convert _ _ _ => true
  | _ => false
def evOf {P : Program} (X : Ctx P) (num : List (Nat × Oper)) (tab : List BV) : BV := num.map fun p => isEvent p.2.op && !quietOp X num tab p.1 p.2
/-- what such an event answers: a slice that it made is read alone from there on -/
def quieten (q : Bool) (n : Nat) (v : AV) (U : Upd) (Ns : List AO) : Option AV := match q, U, Ns with
  | false, _, _ => some v
  | true, [], [] => some v
  | true, [], [.row e s xs] => (match v with
    | .v (.one (.own l z)) => if l == n && z == s.sz then some (.one (.vsl s xs)) else none
    | _ => none)
  | true, _, _ => none
/-- is everything ahead of it or behind it? -/
def alone (tab : List BV) (n i : Nat) : Bool := (List.range n).all fun j => j == i || (tab.getD i []).has j || (tab.getD j []).has i
/-- what may or may not have been assigned when operation i runs -/
def maskB (tab : List BV) (i : Nat) : List (Nat × Oper) → List Tmp
  | [] => []
  | (j, o) :: r => match o.dst with
    | some d => if (tab.getD j []).has i then maskB tab i r else d :: maskB tab i r
    | none => maskB tab i r
def C1.ltB0 (n : Nat) : C1 → Bool
  | .ptr l _ | .ep l _ _ _ | .own l _ | .sl l _ _ _ => decide (l < n)
  | .fn _ _ => false
  | _ => true
/-- an update of cells alone, which leads to what was there -/
def cellU (H : Heap) (n0 : Nat) (U : Upd) : Bool := U.all fun u => match H.at u.1, u.2 with
  | .cells _ _, .cells _ cs => cs.all (C1.ltB0 n0)
  | _, _ => false
/-- an operation that doesn't load the cells 'ks' -/
def softOp (ts : TS) (ks : List Nat) (o : Oper) : Bool := (!isEvent o.op || isConv o.op) && match o.op with
  | .load _ a => (match ev ts a with
    | .v (.one (.ptr l _)) => !ks.contains l
    | _ => true)
  | _ => true
/-- an update of rows -/
def rowU (U : Upd) : Bool := U.all fun u => match u.2 with
  | .row _ _ _ => true
  | .dead => true
  | _ => false
/-- an operation that reads no object -/
def pureOp (o : Oper) : Bool := match o.op with
  | .move _ | .assign _ => true
  | _ => false
def pureAll (all : Array Oper) (tab : List BV) (i : Nat) : Bool := (numbered 0 all.toList).all fun p => p.1 == i || (tab.getD i []).has p.1 || (tab.getD p.1 []).has i || pureOp p.2
/-- rows alone, in place of rows of such elements -/
def rowT (H : Heap) (U : Upd) : Bool := U.all fun u => match H.at u.1, u.2 with
  | .row _ s _, .row _ s' _ => s.sz == s'.sz
  | _, _ => false
/-- .. as long as they were -/
def lenB (H : Heap) : Upd → Bool
  | [] => true
  | u :: U => (match (H.at u.1).dim, u.2.dim with
    | some (_, n), some (_, m) => decide (n = m)
    | _, _ => false) && lenB H U
/-- an operation that asks no more of the objects than how long they are -/
def lenOp (o : Oper) : Bool := match o.op with
  | .move _ | .assign _ | .binOp _ _ _ _ _ | .indexAddr _ _ _ => true
  | _ => false
def lenAll (all : Array Oper) (tab : List BV) (i : Nat) : Bool := (numbered 0 all.toList).all fun p => p.1 == i || (tab.getD i []).has p.1 || (tab.getD p.1 []).has i || lenOp p.2
def softAll (all : Array Oper) (tab : List BV) (ts : TS) (recs : List Rec) (i : Nat) (ks : List Nat) : Bool := (numbered 0 all.toList).all fun p =>
  p.1 == i || (tab.getD i []).has p.1 || (tab.getD p.1 []).has i ||
    (decide (p.1 < i) && softOp (recTS (tab.getD p.1 []) recs ++ (anyTS (maskB tab p.1 (numbered 0 all.toList)) ++ ts)) ks p.2)
section
variable (all : Array Oper) (N : Nat) (ev : BV) (tab : List BV) (ts : TS) (n0 : Nat)
def drawRun : List (Nat × Oper) → List Rec → List Heap → Heap → (TS → Heap → Option β) → Option β
  | [], recs, _, H, K => K (allTS recs ++ ts) H
  | (i, o) :: r, recs, Hs, H, K =>
    if dstOk o N then
      if ev.has i then
        gEval X all (recTS (tab.getD i []) recs ++ (anyTS (maskB tab i (numbered 0 all.toList)) ++ ts)) H o fun v U Ns =>
          if U.isEmpty || alone tab all.size i || (cellU H n0 U && softAll all tab ts recs i (U.map (·.1))) || (rowU U && pureAll all tab i) then splitB (isG all o) v fun v => drawRun r (recs ++ [⟨i, o.dst, v⟩]) (Hs ++ [H]) (H.upd U ++ Ns) K
          else if rowT H U && lenAll all tab i then iff' (lenB H U) (splitB (isG all o) v fun v => drawRun r (recs ++ [⟨i, o.dst, v⟩]) (Hs ++ [H]) (H.upd U ++ Ns) K) else none
      else
        gEval X all (recTS (tab.getD i []) recs ++ (anyTS (maskB tab i (numbered 0 all.toList)) ++ ts)) ((Hs ++ [H]).getD (cntE ev (tab.getD i []) (numbered 0 all.toList)) []) o fun v U Ns =>
          match quieten (isEvent o.op) ((Hs ++ [H]).getD (cntE ev (tab.getD i []) (numbered 0 all.toList)) []).length v U Ns with
          | some v => splitB (isG all o) v fun v => drawRun r (recs ++ [⟨i, o.dst, v⟩]) Hs H K
          | none => none
    else none
end
def drawAll (all : Array Oper) (N : Nat) (ts : TS) (H : Heap) (K : TS → Heap → Option β) : Option β :=
  let tab := ancTab all.toList []
  let ds := dstsOf all.toList
  let num := numbered 0 all.toList
  let ev := evOf X num tab
  if nodup ds && rowOk ev tab num [] then drawRun X all N ev tab ts H.length num [] [] H K else none
/-- one edge more: from i to j -/
def edgeTo (i : Nat) (o : Oper) : Oper := { o with after := o.after.push ⟨i, .data⟩ }
def edged (ops : Array Oper) (i j : Nat) : Array Oper := match ops.toList[j]? with
  | some o => (ops.toList.set j (edgeTo i o)).toArray
  | none => ops
def allocAt (ops : Array Oper) (i : Nat) : Bool := match ops.toList[i]? with
  | some o => (match o.op, o.guard with
    | .alloc _, none => true
    | _, _ => false)
  | none => false
/-- two allocs, the first events, neither ahead of the other: whoever comes behind the second comes behind the first -/
def predsAt (ops : Array Oper) (i : Nat) (l : List Nat) : Bool := match ops.toList[i]? with
  | some o => preds o == l
  | none => false
def pairOk (ops : Array Oper) (ev : BV) (tab : List BV) (i j : Nat) : Bool := decide (i < j) && allocAt ops i && allocAt ops j && ev.has i && ev.has j && predsAt ops i [] && predsAt ops j [i] &&
  (numbered 0 ops.toList).all (fun p => !((preds p.2).contains j) || (preds p.2).contains i) &&
  (numbered 0 ops.toList).all (fun p => !ev.has p.1 || p.1 == i || p.1 == j || ((tab.getD p.1 []).has i && !(tab.getD j []).has p.1))
/-- a region whose order is open, two allocs of it too -/
def drawSym (all : Array Oper) (N : Nat) (ts : TS) (H : Heap) (K : TS → Heap → Option β) : Option β :=
  if rowOk (evOf X (numbered 0 all.toList) (ancTab all.toList [])) (ancTab all.toList []) (numbered 0 all.toList) [] then drawAll X all N ts H K
  else match (numbered 0 all.toList).filter (fun p => (evOf X (numbered 0 all.toList) (ancTab all.toList [])).has p.1) with
    | p :: q :: _ => if pairOk (edged all p.1 q.1) (evOf X (numbered 0 (edged all p.1 q.1).toList) (ancTab (edged all p.1 q.1).toList [])) (ancTab (edged all p.1 q.1).toList []) p.1 q.1 then
        drawAll X (edged all p.1 q.1) N ts H K else none
    | _ => none
end
inductive Ex where
  | normal | exit (id : Nat) | ret
end
end Go.Proofs.YtaklapcbbdcdpaaDoor.X
