import Derived.Test.YtaklapcbbdcdpaaDoorPJ
import Derived.Test.YtaklapcbbdcdpaaDoorPH
namespace Go.Proofs.YtaklapcbbdcdpaaDoor.Pt
open Go Go.RowKit Go.Proofs Go.Proofs.YtaklapcbbdcdpaaDoor.X
set_option linter.unusedVariables false
set_option linter.unusedSimpArgs false
noncomputable section
/-! A pane painted onto a screen -/
def rowF (W : Nat) (f : Nat → Cel) : List Cel := (List.range W).map f
def tab (W H : Nat) (F : Nat → Nat → Cel) : List (List Cel) := (List.range H).map fun y => rowF W fun x => F x y
theorem rowF_len (W : Nat) (f : Nat → Cel) : (rowF W f).length = W := by simp [rowF]
theorem tab_len (W H : Nat) (F : Nat → Nat → Cel) : (tab W H F).length = H := by simp [tab]
theorem tab_at {W H : Nat} {F : Nat → Nat → Cel} {y : Nat} (h : y < H) : gt S43.sl (tab W H F) y = rowF W fun x => F x y := by
  have h1 : y < (tab W H F).length := by rw [tab_len]; exact h
  rw [gtx (s := S43.sl) h1]
  simp [tab]
theorem row_at {W : Nat} {f : Nat → Cel} {x : Nat} (h : x < W) : gt S43 (rowF W f) x = f x := by
  have h1 : x < (rowF W f).length := by rw [rowF_len]; exact h
  rw [gtx (s := S43) h1]
  simp [rowF]
theorem tab_set {W H : Nat} {F : Nat → Nat → Cel} {x y : Nat} (v : Cel) (hx : x < W) (hy : y < H) : (tab W H F).set y ((rowF W fun x => F x y).set x v) = tab W H fun x' y' => if x' = x ∧ y' = y then v else F x' y' := by
  apply List.ext_getElem
  · simp [tab]
  intro i h1 h2
  have hi : i < H := by simpa [tab] using h2
  by_cases hiy : y = i
  · subst hiy
    rw [List.getElem_set_self]
    simp only [tab, List.getElem_map, List.getElem_range]
    apply List.ext_getElem
    · simp [rowF]
    intro j h3 h4
    have hj : j < W := by simpa [rowF] using h4
    by_cases hjx : x = j
    · subst hjx; rw [List.getElem_set_self]; simp [rowF]
    · rw [List.getElem_set_ne hjx]
      have : ¬ j = x := fun q => hjx q.symm
      simp [rowF, this]
  · rw [List.getElem_set_ne hiy]
    have : ¬ i = y := fun q => hiy q.symm
    simp [tab, this]
theorem tab_congr {W H : Nat} {F G : Nat → Nat → Cel} (h : ∀ x y, x < W → y < H → F x y = G x y) : tab W H F = tab W H G := by
  unfold tab
  apply List.map_congr_left
  intro y hy
  unfold rowF
  apply List.map_congr_left
  intro x hx
  exact h x y (List.mem_range.1 hx) (List.mem_range.1 hy)
/-- what a pane has at a place -/
def cellV (rows : List (List Cel)) (l m : Int) : Cel := match rows[m.toNat]? with
  | none => bl
  | some r => match r[l.toNat]? with
    | none => bl
    | some c => if sty c.2 && (decide (c.1 = 0) || decide (width c.1 ≠ 0)) then c else bl
theorem cell_ok (k : Nat) (hk : 20 ≤ k) (a : R4) (b : Int) (c d : Bool) (e : ByteArray) (g : List (List Cel)) (h i : Int) (j : Bool) (l m : Int) (hl : 0 ≤ l) (hm : 0 ≤ m) (hw : ∀ r ∈ g, I64A r) :
    f49 k ((((a, b, c, d, e, g, h, i, j), ()), (l, ()), (m, ()), ()), ()) = some (((cellV g l m, ()), ()), ()) := by
  rw [e49_eq]
  unfold cellV
  by_cases h1 : m.toNat < g.length
  · have g1 : gt S43.sl g m.toNat = g[m.toNat] := gtx h1
    rw [cneg (by omega), cpos (by omega), List.getElem?_eq_getElem h1]
    simp only [g1]
    by_cases h2 : l.toNat < g[m.toNat].length
    · have g2 : gt S43 g[m.toNat] l.toNat = g[m.toNat][l.toNat] := gtx h2
      have hc := hw _ (List.getElem_mem h1) _ (List.getElem_mem h2)
      rw [cneg (by omega), cpos (by omega), cpos (by omega), List.getElem?_eq_getElem h2]
      simp only [g2]
      rw [sty1_ok k _ _ _ hc.2, Option.bind_some]
      generalize g[m.toNat][l.toNat] = q
      have es : (q.2.1, q.2.2.1, q.2.2.2) = q.2 := rfl
      rw [es]
      simp only
      cases hs : sty q.2 with
      | false => rw [Bool.not_false, cond_true, e39_eq]; simp
      | true =>
        rw [Bool.not_true, cond_false]
        simp only [bne, bq]
        by_cases h0 : q.1 = 0
        · rw [decide_eq_true h0]; simp
        · rw [decide_eq_false h0, Bool.not_false, cond_true, width_ok k _ hk, Option.bind_some]
          simp only
          by_cases w0 : width q.1 = 0
          · rw [decide_eq_true w0, cond_true, e39_eq]; simp [w0]
          · rw [decide_eq_false w0, cond_false]; simp [w0]
    · rw [cpos (by omega), e39_eq, List.getElem?_eq_none (by omega)]
      rfl
  · rw [cpos (by omega), e39_eq, List.getElem?_eq_none (by omega)]
    rfl
/-! A pane painted onto a screen, cell by cell -/
section onto
variable (k : Nat) (a : R4) (b : Int) (d : Bool) (e : ByteArray) (g : List (List Cel)) (h i : Int) (j : Bool) (n o : Int) (p : Bool)
abbrev Pn (a : R4) (b : Int) (d : Bool) (e : ByteArray) (g : List (List Cel)) (h i : Int) (j : Bool) : Pan × Unit := ((a, b, false, d, e, g, h, i, j), ())
abbrev Sn (W H : Int) (n o : Int) (p : Bool) : Int × Int × Unit × (Int × Int × Bool) × Unit := (W, H, (), (n, o, p), ())
abbrev Oi := ((Unit × Unit) × (Unit × Unit) × (Unit × Unit) × (Int × Unit) × (Int × Unit) × Unit) × List (List Cel) × (Pan × Unit) × (Int × Int × Unit × (Int × Int × Bool) × Unit) × (R4 × Unit) × Unit
abbrev Oo := ((Unit × Unit) × (Unit × Unit) × (Unit × Unit) × (Int × Unit) × Unit) × List (List Cel) × (Pan × Unit) × (Int × Int × Unit × (Int × Int × Bool) × Unit) × (R4 × Unit) × Unit
theorem inner_ok (q : List (List Cel)) (L : Oo → Option (Unit × List (List Cel) × Unit)) (W H : Nat) (part : R4) (F : Nat → Nat → Cel) (y xe : Nat) (hW : W ≤ 200) (hH : H ≤ 200) (hy : y < H) (hxe : part.1 + part.2.2.1 = (xe : Int)) (hxW : xe ≤ W)
    (ha : -5000 ≤ a.1 ∧ a.1 ≤ 5000 ∧ -5000 ≤ a.2.1 ∧ a.2.1 ≤ 5000) (hw : ∀ r ∈ g, I64A r) (hk : 300 ≤ k) (hay : a.2.1 ≤ (y : Int)) :
    ∀ (m k' x : Nat), x + m = xe → m + 1 ≤ k' → a.1 ≤ (x : Int) → loopN (e25_0 k a b false d e g h i j (W : Int) (H : Int) n o p q L) k' ((((), ()), ((), ()), ((), ()), ((y : Int), ()), ((x : Int), ()), ()), tab W H F, Pn a b d e g h i j, Sn W H n o p, (part, ()), ()) =
      L ((((), ()), ((), ()), ((), ()), (IntKind.i64.wrap ((y : Int) + 1), ()), ()), tab W H (fun x' y' => if y' = y ∧ x ≤ x' ∧ x' < xe then cellV g ((x' : Int) - a.1) ((y : Int) - a.2.1) else F x' y'), Pn a b d e g h i j, Sn W H n o p, (part, ()), ()) := by
  intro m
  induction m generalizing F with
  | zero =>
    intro k' x hx hk' hax
    obtain ⟨k', rfl⟩ : ∃ k2, k' = k2 + 1 := ⟨k' - 1, by omega⟩
    simp only [loopN_succ, e25_0]
    rw [wrapId (n := part.1 + part.2.2.1) (by omega) (by omega), cneg (by omega)]
    have : tab W H (fun x' y' => if y' = y ∧ x ≤ x' ∧ x' < xe then cellV g ((x' : Int) - a.1) ((y : Int) - a.2.1) else F x' y') = tab W H F := tab_congr fun x' y' _ _ => by rw [if_neg (by omega)]
    rw [this]
  | succ m ih =>
    intro k' x hx hk' hax
    obtain ⟨k', rfl⟩ : ∃ k2, k' = k2 + 1 := ⟨k' - 1, by omega⟩
    simp only [loopN_succ, e25_0]
    rw [wrapId (n := part.1 + part.2.2.1) (by omega) (by omega), cpos (by omega), tab_len, tn0, cpos hy, cpos (by omega), cpos trivial, wrapId (n := (x : Int) - a.1) (by omega) (by omega), wrapId (n := (y : Int) - a.2.1) (by omega) (by omega)]
    have hc := cell_ok k (by omega) a b false d e g h i j ((x : Int) - a.1) ((y : Int) - a.2.1) (by omega) (by omega) hw
    rw [show ((a.1, a.2.1, a.2.2.1, a.2.2.2) : R4) = a from rfl, hc, Option.bind_some, tab_at hy, rowF_len, cpos (by omega), tn0, wrapId (n := (x : Int) + 1) (by omega) (by omega), show ((x : Int) + 1) = ((x + 1 : Nat) : Int) by omega]
    have ts := tab_set (F := F) (cellV g ((x : Int) - a.1) ((y : Int) - a.2.1)) (show x < W by omega) hy
    refine Eq.trans ?_ ((ih (fun x' y' => if x' = x ∧ y' = y then cellV g ((x : Int) - a.1) ((y : Int) - a.2.1) else F x' y') k' (x + 1) (by omega) (by omega) (by omega)).trans ?_)
    · rw [← ts]
    · refine congrArg (fun t => L ((((), ()), ((), ()), ((), ()), (IntKind.i64.wrap ((y : Int) + 1), ()), ()), t, Pn a b d e g h i j, Sn W H n o p, (part, ()), ())) (tab_congr fun x' y' _ _ => ?_)
      by_cases hy' : y' = y
      · subst hy'
        by_cases hx' : x' = x
        · subst hx'
          rw [if_neg (by omega), if_pos ⟨rfl, rfl⟩, if_pos (by omega)]
        · by_cases hr : x + 1 ≤ x' ∧ x' < xe
          · rw [if_pos ⟨rfl, hr⟩, if_pos ⟨rfl, by omega, hr.2⟩]
          · rw [if_neg (by omega), if_neg (by omega), if_neg (by omega)]
      · rw [if_neg (by omega), if_neg (by omega), if_neg (by omega)]
theorem onto_ok (W H : Nat) (hW1 : 1 ≤ W) (hW : W ≤ 200) (hH1 : 1 ≤ H) (hH : H ≤ 200) (ha : Cl a) (hw : ∀ r ∈ g, I64A r) (hk : 300 ≤ k) (F : Nat → Nat → Cel) :
    f25 k ((Pn a b d e g h i j, Sn W H n o p, ()), tab W H F, ()) = some ((), tab W H (fun x y => if inR a x y = true then cellV g ((x : Int) - a.1) ((y : Int) - a.2.1) else F x y), ()) := by
  obtain ⟨p1, p2, p3, p4, p5, p6, p7⟩ := part_is ha W H (by omega) (by omega)
  have hb : -5000 ≤ a.1 ∧ a.1 ≤ 5000 ∧ -5000 ≤ a.2.1 ∧ a.2.1 ≤ 5000 := by
    rcases ha with rfl | ha
    · decide
    · omega
  have hm := meet_ok k ha W H (by omega) (by omega)
  have e1 := e25_eq k a b false d e g h i j W H n o p (tab W H F)
  refine e1.trans ?_
  rw [cond_false, hm, Option.bind_some]
  generalize hp : partR a W H = part at *
  obtain ⟨px, hpx⟩ : ∃ z : Nat, part.1 = (z : Int) := ⟨part.1.toNat, by omega⟩
  obtain ⟨py, hpy⟩ : ∃ z : Nat, part.2.1 = (z : Int) := ⟨part.2.1.toNat, by omega⟩
  obtain ⟨xe, hxe⟩ : ∃ z : Nat, part.1 + part.2.2.1 = (z : Int) := ⟨(part.1 + part.2.2.1).toNat, by omega⟩
  obtain ⟨ye, hye⟩ : ∃ z : Nat, part.2.1 + part.2.2.2 = (z : Int) := ⟨(part.2.1 + part.2.2.2).toNat, by omega⟩
  have outer : ∀ (m k' y : Nat) (G : Nat → Nat → Cel), y + m = ye → m + 1 ≤ k' → py ≤ y → loopN (e25_1 k a b false d e g h i j (W : Int) (H : Int) n o p (tab W H F)) k' ((((), ()), ((), ()), ((), ()), ((y : Int), ()), ()), tab W H G, Pn a b d e g h i j, Sn W H n o p, (part, ()), ()) =
      some ((), tab W H (fun x' y' => if y ≤ y' ∧ y' < ye ∧ px ≤ x' ∧ x' < xe then cellV g ((x' : Int) - a.1) ((y' : Int) - a.2.1) else G x' y'), ()) := by
    intro m
    induction m with
    | zero =>
      intro k' y G hy hk' hpy'
      obtain ⟨k', rfl⟩ : ∃ k2, k' = k2 + 1 := ⟨k' - 1, by omega⟩
      simp only [loopN_succ, e25_1]
      rw [wrapId (n := part.2.1 + part.2.2.2) (by omega) (by omega), cneg (by omega)]
      have : tab W H (fun x' y' => if y ≤ y' ∧ y' < ye ∧ px ≤ x' ∧ x' < xe then cellV g ((x' : Int) - a.1) ((y' : Int) - a.2.1) else G x' y') = tab W H G := tab_congr fun x' y' _ _ => by rw [if_neg (by omega)]
      rw [this]
    | succ m ih =>
      intro k' y G hy hk' hpy'
      obtain ⟨k', rfl⟩ : ∃ k2, k' = k2 + 1 := ⟨k' - 1, by omega⟩
      simp only [loopN_succ, e25_1]
      rw [wrapId (n := part.2.1 + part.2.2.2) (by omega) (by omega), cpos (by omega)]
      have hyH : y < H := by omega
      by_cases hne : px < xe
      · have hin : inR a px y = true := by
          rw [← p7 px y (by omega) (by omega) (by omega) (by omega)]
          unfold inR
          rw [decide_eq_true (by omega)]
        unfold inR at hin
        have hin := of_decide_eq_true hin
        have hi := inner_ok k a b d e g h i j n o p (tab W H F) (loopN (e25_1 k a b false d e g h i j (W : Int) (H : Int) n o p (tab W H F)) k') W H part G y xe hW hH hyH hxe (by omega) hb hw hk (by omega) (xe - px) k px (by omega) (by omega) (by omega)
        rw [← hpx] at hi
        refine Eq.trans hi ?_
        rw [wrapId (n := (y : Int) + 1) (by omega) (by omega), show ((y : Int) + 1) = ((y + 1 : Nat) : Int) by omega]
        refine (ih k' (y + 1) _ (by omega) (by omega) (by omega)).trans ?_
        refine congrArg (fun t => some ((), t, ())) (tab_congr fun x' y' _ _ => ?_)
        by_cases hy' : y' = y
        · subst hy'
          by_cases hr : px ≤ x' ∧ x' < xe
          · rw [if_neg (by omega), if_pos ⟨rfl, hr⟩, if_pos (by omega)]
          · rw [if_neg (by omega), if_neg (by omega), if_neg (by omega)]
        · by_cases hr : y + 1 ≤ y' ∧ y' < ye ∧ px ≤ x' ∧ x' < xe
          · rw [if_pos hr, if_pos (by omega)]
          · rw [if_neg hr, if_neg (by omega), if_neg (by omega)]
      · obtain ⟨k2, hk2⟩ : ∃ k2, k = k2 + 1 := ⟨k - 1, by omega⟩
        have hi : ∀ (L : Oo → Option (Unit × List (List Cel) × Unit)), loopN (e25_0 k a b false d e g h i j (W : Int) (H : Int) n o p (tab W H F) L) k ((((), ()), ((), ()), ((), ()), ((y : Int), ()), (part.1, ()), ()), tab W H G, Pn a b d e g h i j, Sn W H n o p, (part, ()), ()) = L ((((), ()), ((), ()), ((), ()), (IntKind.i64.wrap ((y : Int) + 1), ()), ()), tab W H G, Pn a b d e g h i j, Sn W H n o p, (part, ()), ()) := by
          intro L
          conv => lhs; arg 2; rw [hk2]
          simp only [loopN_succ, e25_0]
          rw [wrapId (n := part.1 + part.2.2.1) (by omega) (by omega), cneg (by omega)]
        refine Eq.trans (hi _) ?_
        rw [wrapId (n := (y : Int) + 1) (by omega) (by omega), show ((y : Int) + 1) = ((y + 1 : Nat) : Int) by omega]
        refine (ih k' (y + 1) G (by omega) (by omega) (by omega)).trans ?_
        refine congrArg (fun t => some ((), t, ())) (tab_congr fun x' y' _ _ => ?_)
        rw [if_neg (by omega), if_neg (by omega)]
  have ho := outer (ye - py) k py F (by omega) (by omega) (Nat.le_refl _)
  rw [← hpy] at ho
  refine Eq.trans ho ?_
  refine congrArg (fun t => some ((), t, ())) (tab_congr fun x y hx hy => ?_)
  have hq := p7 x y (by omega) (by omega) (by omega) (by omega)
  rw [← hq]
  unfold inR
  by_cases hr : py ≤ y ∧ y < ye ∧ px ≤ x ∧ x < xe
  · rw [if_pos hr, if_pos (decide_eq_true (by omega))]
  · rw [if_neg hr, if_neg (fun q => hr (by have := of_decide_eq_true q; omega))]
end onto
/-! One pane of narrow runes, painted -/
theorem blank14_ok (k : Nat) (a b : Int) (hk : 300 ≤ k) : f14 k (((a, ()), (b, ()), ()), ()) = some (((cl a, cl b, (), (0, 0, true), ()), ()), grid (cl a).toNat (cl b).toNat, ()) := by
  obtain ⟨a1, a2⟩ := cl_in a
  obtain ⟨b1, b2⟩ := cl_in b
  obtain ⟨W, hW⟩ : ∃ W : Nat, cl a = (W : Int) := ⟨(cl a).toNat, by omega⟩
  obtain ⟨H, hH⟩ : ∃ H : Nat, cl b = (H : Int) := ⟨(cl b).toNat, by omega⟩
  have loop : ∀ (j k' i : Nat), i + j = H → j + 1 ≤ k' → loopN (e14_0 k a b) k' ((((), ()), ((), ()), ((H : Int), ()), ((i : Int), ()), ()), ((0, 0, [], 0, 0, false), ()), ((W : Int), (H : Int), (), (0, 0, true), ()), grid W i, ()) = some ((((W : Int), (H : Int), (), (0, 0, true), ()), ()), grid W H, ()) := by
    intro j
    induction j with
    | zero =>
      intro k' i hi hk
      obtain ⟨k', rfl⟩ : ∃ k2, k' = k2 + 1 := ⟨k' - 1, by omega⟩
      simp only [loopN_succ, e14_0]
      rw [cneg (by omega), show i = H by omega]
    | succ j ih =>
      intro k' i hi hk'
      obtain ⟨k', rfl⟩ : ∃ k2, k' = k2 + 1 := ⟨k' - 1, by omega⟩
      simp only [loopN_succ, e14_0]
      rw [cpos (by omega), e39_eq, Option.bind_some]
      have hr := rep_ok k W (by omega) (by omega) hk
      rw [hr, Option.bind_some]
      have hb : (((grid W i).length + 1) * 24).ble 140737488355328 = true := ble_of (by simp; omega)
      rw [hb, cond_true, wrapId (n := (i : Int) + 1) (by omega) (by omega), show ((i : Int) + 1) = ((i + 1 : Nat) : Int) by omega]
      have hs : (grid W i ++ [S43.sl.dflt]).set (grid W i).length (List.replicate W bl) = grid W (i + 1) := by
        rw [set_last]
        exact (List.replicate_succ' (n := i) (a := List.replicate W bl)).symm
      have := ih k' (i + 1) (by omega) (by omega)
      rw [← hs] at this
      exact this
  rw [e14_eq, e37_eq, e37_eq]
  simp only [Option.bind_some]
  have c1 : imax 1 (imin a 200) = (W : Int) := hW
  have c2 : imax 1 (imin b 200) = (H : Int) := hH
  rw [c1, c2, hW, hH]
  exact loop H k 0 (by omega) (by omega)
theorem grid_tab (W H : Nat) : grid W H = tab W H fun _ _ => bl := by
  unfold grid tab rowF
  rw [List.map_const', List.map_const', List.length_range, List.length_range]
def Nar (c : Cel) : Prop := 32 ≤ c.1 ∧ c.1 < 127
theorem narrow_ok (k : Nat) (c : Int) (h : 32 ≤ c ∧ c < 127) : f50 k (((c, ()), ()), ()) = some (((1, ()), ()), ()) := by
  rw [e50_eq, cpos (by omega), cpos (by omega)]
theorem mendN_ok (k : Nat) (r : List Cel) (h : ∀ c ∈ r, Nar c) (hl : r.length ≤ 200) (hk : 300 ≤ k) : f27 k ((((), ()), ()), r, ()) = some ((), r, ()) := by
  rw [e27_eq]
  have loop : ∀ (j k' i : Nat), i + j = r.length → j + 1 ≤ k' → loopN (e27_0 k r) k' ((((), ()), ((i : Int), ()), ()), r, ()) = some ((), r, ()) := by
    intro j
    induction j with
    | zero =>
      intro k' i hi hk
      obtain ⟨k', rfl⟩ : ∃ k2, k' = k2 + 1 := ⟨k' - 1, by omega⟩
      simp only [loopN_succ, e27_0]
      rw [cneg (by omega)]
    | succ j ih =>
      intro k' i hi hk
      obtain ⟨k', rfl⟩ : ∃ k2, k' = k2 + 1 := ⟨k' - 1, by omega⟩
      have h1 : i < r.length := by omega
      have g0 : gt S43 r i = r[i] := gtx h1
      have hn := h _ (List.getElem_mem h1)
      simp only [loopN_succ, e27_0]
      rw [cpos (by omega), cpos (by omega)]
      simp only [tn0, g0]
      rw [narrow_ok k _ hn, Option.bind_some]
      simp only [bq]
      have n2 : decide ((1 : Int) = 2) = false := by decide
      have n0 : decide (r[i].1 = 0) = false := decide_eq_false (by unfold Nar at hn; omega)
      rw [n2, cond_false, cpos (by omega), n0, cond_false, cpos (by omega), Option.bind_some, n2, cond_false, wrapId (n := (i : Int) + 1) (by omega) (by omega), show ((i : Int) + 1) = ((i + 1 : Nat) : Int) by omega]
      exact ih k' (i + 1) (by omega) (by omega)
  exact loop r.length k 0 (by omega) (by omega)
abbrev pane (r : R4) (row : List Cel) : Pan := (r, 0, false, false, ByteArray.empty, [row], 0, 0, false)
theorem sort1 (k : Nat) (p : Pan) : f22 (k + 3) ((((), ()), ((), ()), ()), [p], ()) = some ((), [p], ()) := by kernel_rfl
abbrev Pst (n i : Int) (W H : Int) (rows : List (List Cel)) (ps : List Pan) : ((Unit × Unit) × (Unit × Unit) × (Unit × Unit) × (Int × Unit) × (Int × Unit) × Unit) × ((Int × Int × List (List Cel) × Int × Int × Bool) × Unit) × (Int × Int × Unit × (Int × Int × Bool) × Unit) × List (List Cel) × List Pan × Unit :=
  ((((), ()), ((), ()), ((), ()), (n, ()), (i, ()), ()), ((0, 0, [], 0, 0, false), ()), (W, H, (), (0, 0, false), ()), rows, ps, ())
theorem step1 (k : Nat) (a b : Int) (c : List Pan) (W H : Int) (rows : List (List Cel)) (r : R4) (row : List Cel) (L) :
    e8_1 k a b c (Pst 1 0 W H rows [pane r row]) L = (f17 k ((((r.1, r.2.1, r.2.2.1, r.2.2.2), ()), ()), ())).bind fun v =>
      (f25 k ((Pn (v.1.1.1.1, v.1.1.1.2.1, v.1.1.1.2.2.1, v.1.1.1.2.2.2) 0 false ByteArray.empty [row] 0 0 false, Sn W H 0 0 false, ()), rows, ())).bind fun v1 =>
        (f18 k ((((v.1.1.1.1, v.1.1.1.2.1, v.1.1.1.2.2.1, v.1.1.1.2.2.2), ()), (0, ()), (0, ()), ()), ())).bind fun v2 =>
          bif v2.1.1.1 then L (Pst 1 1 W H v1.2.1 [pane (v.1.1.1.1, v.1.1.1.2.1, v.1.1.1.2.2.1, v.1.1.1.2.2.2) row]) else L (Pst 1 1 W H v1.2.1 [pane (v.1.1.1.1, v.1.1.1.2.1, v.1.1.1.2.2.1, v.1.1.1.2.2.2) row]) := by kernel_rfl
def FF (r : R4) (row : List Cel) (x y : Nat) : Cel := if inR r x y = true then cellV [row] ((x : Int) - r.1) ((y : Int) - r.2.1) else bl
abbrev Thin (row : List Cel) : Prop := ∀ c ∈ row, (32 < c.1 ∧ c.1 < 127) ∧ c.2 = (0, 0, 1)
theorem FF_nar {r : R4} {row : List Cel} (h : Thin row) (x y : Nat) : Nar (FF r row x y) := by
  have hb : Nar bl := ⟨by decide, by decide⟩
  unfold FF
  split
  · unfold cellV
    split
    · exact hb
    · rename_i q hq
      split
      · exact hb
      · rename_i c hc
        split
        · have : q = row := by
            obtain ⟨h1, h2⟩ := List.getElem?_eq_some_iff.1 hq
            simpa using h2.symm
          subst this
          have := h c (List.mem_of_getElem? hc)
          exact ⟨by omega, by omega⟩
        · exact hb
  · exact hb
theorem unf (k m : Nat) (a b : Int) (c : List Pan) (W H : Int) (rows : List (List Cel)) (p : Pan) : loopN (e8_1 k a b c) (m + 1) (Pst (([p].length : Nat) : Int) 0 W H rows [p]) = e8_1 k a b c (Pst 1 0 W H rows [p]) (loopN (e8_1 k a b c) m) := loopN_succ _ _ _
theorem fin1 (k m : Nat) (a b : Int) (c : List Pan) (W H : Int) (rows : List (List Cel)) (p : Pan) : loopN (e8_1 k a b c) (m + 1) (Pst 1 1 W H rows [p]) = loopN (e8_0 k a b c) k ((((), ()), ((), ()), ((), ()), ((rows.length : Int), ()), ((0 : Int), ()), ()), ((0, 0, [], 0, 0, false), ()), (W, H, (), (0, 0, false), ()), rows, ()) := by kernel_rfl
set_option maxHeartbeats 1000000 in
theorem paint1_ok (k : Nat) (a b : Int) (r : R4) (row : List Cel) (hr : Cl r) (ht : Thin row) (hk : 300 ≤ k) :
    f8 k (((a, ()), (b, ()), ([pane r row], ()), ()), ()) = some ((((cl a, cl b, tab (cl a).toNat (cl b).toNat (FF r row), 0, 0, false), ()), ()), ()) := by
  obtain ⟨a1, a2⟩ := cl_in a
  obtain ⟨b1, b2⟩ := cl_in b
  obtain ⟨W, hW⟩ : ∃ W : Nat, cl a = (W : Int) := ⟨(cl a).toNat, by omega⟩
  obtain ⟨H, hH⟩ : ∃ H : Nat, cl b = (H : Int) := ⟨(cl b).toNat, by omega⟩
  have hw : ∀ q ∈ [row], I64A q := by
    intro q hq c hc
    obtain rfl : q = row := by simpa using hq
    have := ht c hc
    refine ⟨⟨by omega, by omega⟩, ?_⟩
    rw [this.2]; decide
  have mend : ∀ (j k' y : Nat), y + j = H → j + 1 ≤ k' → loopN (e8_0 k a b [pane r row]) k' ((((), ()), ((), ()), ((), ()), ((H : Int), ()), ((y : Int), ()), ()), ((0, 0, [], 0, 0, false), ()), ((W : Int), (H : Int), (), (0, 0, false), ()), tab W H (FF r row), ()) = some (((((W : Int), (H : Int), tab W H (FF r row), 0, 0, false), ()), ()), ()) := by
    intro j
    induction j with
    | zero =>
      intro k' y hy hk'
      obtain ⟨k', rfl⟩ : ∃ k2, k' = k2 + 1 := ⟨k' - 1, by omega⟩
      simp only [loopN_succ, e8_0]
      rw [cneg (by omega)]
    | succ j ih =>
      intro k' y hy hk'
      obtain ⟨k', rfl⟩ : ∃ k2, k' = k2 + 1 := ⟨k' - 1, by omega⟩
      have hyH : y < H := by omega
      simp only [loopN_succ, e8_0]
      rw [cpos (by omega), tab_len, cpos (by omega), cpos trivial, tn0, tab_at hyH, mendN_ok k _ (fun c hc => by
        unfold rowF at hc
        obtain ⟨x, _, rfl⟩ := List.mem_map.1 hc
        exact FF_nar ht x y) (by rw [rowF_len]; omega) hk, Option.bind_some]
      have hset : (tab W H (FF r row)).set y (rowF W fun x => FF r row x y) = tab W H (FF r row) := by
        apply List.ext_getElem
        · simp
        intro i h1 h2
        by_cases hi : y = i
        · subst hi; rw [List.getElem_set_self]; simp [tab]
        · rw [List.getElem_set_ne hi]
      rw [hset, wrapId (n := (y : Int) + 1) (by omega) (by omega), show ((y : Int) + 1) = ((y + 1 : Nat) : Int) by omega]
      exact ih k' (y + 1) (by omega) (by omega)
  rw [e8_eq, blank14_ok k a b hk, Option.bind_some]
  have hb : ((([] : List Pan).length + (List.drop (Int.toNat 0) (List.take (Int.toNat (imin (([pane r row].length : Nat) : Int) 24)) [pane r row])).length) * 112).ble 140737488355328 = true := rfl
  rw [cpos (by show (0 : Int) ≤ 0 ∧ 0 ≤ imin 1 24 ∧ imin 1 24 ≤ imin 1 24 ∧ imin 1 24 ≤ 1; decide), hb, cond_true, Option.bind_some]
  have hd : List.drop (Int.toNat 0) (List.take (Int.toNat (imin (([pane r row].length : Nat) : Int) 24)) [pane r row]) = [pane r row] := rfl
  obtain ⟨k1, rfl⟩ : ∃ k1, k = k1 + 3 := ⟨k - 3, by omega⟩
  simp only [hd]
  rw [sort1 k1 (pane r row), Option.bind_some]
  refine (unf (k1 + 3) (k1 + 2) a b [pane r row] (cl a) (cl b) (grid (cl a).toNat (cl b).toNat) (pane r row)).trans ?_
  rw [step1, hW, hH, Int.toNat_natCast, Int.toNat_natCast, grid_tab, clean_ok, Option.bind_some]
  have e : clean (r.1, r.2.1, r.2.2.1, r.2.2.2) = r := clean_id hr
  simp only [e]
  have ho := onto_ok (k1 + 3) r 0 false ByteArray.empty [row] 0 0 false 0 0 false W H (by omega) (by omega) (by omega) (by omega) hr hw hk (fun _ _ => bl)
  rw [show ((r.1, r.2.1, r.2.2.1, r.2.2.2) : R4) = r from rfl, ho, Option.bind_some]
  have hh := has_ok (k1 + 3) hr 0 0
  rw [show ((r.1, r.2.1, r.2.2.1, r.2.2.2) : R4) = r from rfl] at hh
  rw [hh, Option.bind_some]
  have fin : loopN (e8_1 (k1 + 3) a b [pane r row]) (k1 + 2) (Pst 1 1 (W : Int) (H : Int) (tab W H (FF r row)) [pane r row]) = some (((((W : Int), (H : Int), tab W H (FF r row), 0, 0, false), ()), ()), ()) := by
    have hm := mend H (k1 + 3) 0 (by omega) (by omega)
    refine (fin1 (k1 + 3) (k1 + 1) a b [pane r row] W H (tab W H (FF r row)) (pane r row)).trans ?_
    rw [tab_len]
    exact hm
  cases inR r 0 0 <;> exact fin
/-! The law of one pane -/
abbrev Rs (a b : Int) (h : List Int) (r : R4) (row : List Cel) (i : Int) : ((Int × Unit) × (Int × Unit) × (Unit × Unit) × (Unit × Unit) × (List Int × Unit) × (Int × Unit) × (Int × Unit) × Unit) × (R4 × Unit) × List Cel × Unit :=
  (((a, ()), (b, ()), ((), ()), ((), ()), (h, ()), ((h.length : Int), ()), (i, ()), ()), (r, ()), row, ())
theorem text_ok (a b : Int) (h : List Int) (r : R4) (hl : h.length ≤ 140737488355328) : ∀ (j k' i : Nat) (row : List Cel), i + j = h.length → j + 1 ≤ k' → Thin row → row.length ≤ i → row.length ≤ 250 →
    ∃ row', Thin row' ∧ row'.length ≤ 250 ∧ loopN e5_0 k' (Rs a b h r row i) = some (Sum.inl (((a, ()), (b, ()), ((), ()), (row', ()), ()), (r, ()), ())) := by
  intro j
  induction j with
  | zero =>
    intro k' i row hi hk ht h1 h2
    obtain ⟨k', rfl⟩ : ∃ k2, k' = k2 + 1 := ⟨k' - 1, by omega⟩
    refine ⟨row, ht, h2, ?_⟩
    simp only [loopN_succ, e5_0]
    rw [cneg (by omega)]
  | succ j ih =>
    intro k' i row hi hk ht h1 h2
    obtain ⟨k', rfl⟩ : ∃ k2, k' = k2 + 1 := ⟨k' - 1, by omega⟩
    have hih : i < h.length := by omega
    have g0 : gt (Sh.int IntKind.u8) h i = h[i] := gtx (s := Sh.int IntKind.u8) hih
    have ew : IntKind.i64.wrap ((i : Int) + 1) = ((i + 1 : Nat) : Int) := by rw [wrapId (by omega) (by omega)]; omega
    simp only [loopN_succ, e5_0]
    rw [cpos (by omega), cpos (by omega), tn0, g0, ew]
    have same := ih k' (i + 1) row (by omega) (by omega) ht (by omega) h2
    generalize hv : (h[i] : Int) = v
    by_cases c1 : v > 32
    · rw [cpos c1]
      by_cases c2 : v < 127
      · rw [cpos c2]
        by_cases c3 : (i : Int) < 250
        · have hb : ((row.length + [((IntKind.i32.wrap v, (0 : Int), (0 : Int), (1 : Int)) : Cel)].length) * 32).ble 140737488355328 = true := ble_of (by simp; omega)
          have hw : IntKind.i32.wrap v = v := by rw [IntKind.wrap_i32]; omega
          rw [cpos c3, hb, cond_true, hw]
          refine ih k' (i + 1) (row ++ [(v, 0, 0, 1)]) (by omega) (by omega) ?_ (by simp; omega) (by simp; omega)
          intro c hc
          rcases List.mem_append.1 hc with hc | hc
          · exact ht c hc
          · obtain rfl : c = (v, 0, 0, 1) := by simpa using hc
            exact ⟨⟨by simp only; omega, by simp only; omega⟩, rfl⟩
        · rw [cneg c3]; exact same
      · rw [cneg c2]; exact same
    · rw [cneg c1]; exact same
theorem FF_in {r : R4} {row : List Cel} {x y l : Nat} (ht : Thin row) (h : inR r x y = true) (hy : (y : Int) = r.2.1) (hl : (x : Int) - r.1 = (l : Int)) (hlt : l < row.length) : FF r row x y = row[l] := by
  unfold FF
  rw [if_pos h, hl, hy]
  unfold cellV
  have e0 : (r.2.1 - r.2.1).toNat = 0 := by omega
  rw [e0, Int.toNat_natCast]
  simp only [List.getElem?_cons_zero, List.getElem?_eq_getElem hlt]
  have hc := ht _ (List.getElem_mem hlt)
  have hs : sty row[l].2 = true := by rw [hc.2]; decide
  have hw : width row[l].1 = 1 := by unfold width; rw [if_pos (by omega)]
  rw [hs, hw]
  simp
theorem FF_out {r : R4} {row : List Cel} {x y : Nat} (h : ¬ (inR r x y = true ∧ (y : Int) = r.2.1 ∧ (x : Int) - r.1 < row.length)) : FF r row x y = bl := by
  unfold FF
  split
  · rename_i hin
    have hin' := hin
    unfold inR at hin'
    have hin' := of_decide_eq_true hin'
    unfold cellV
    by_cases hy : (y : Int) = r.2.1
    · have : ¬ ((x : Int) - r.1).toNat < row.length := fun q => h ⟨hin, hy, by omega⟩
      have e0 : ((y : Int) - r.2.1).toNat = 0 := by omega
      rw [e0]
      simp only [List.getElem?_cons_zero]
      rw [List.getElem?_eq_none (by omega)]
    · have : ([row] : List (List Cel))[((y : Int) - r.2.1).toNat]? = none := List.getElem?_eq_none (by simp; omega)
      rw [this]
  · rfl
section law
variable (k : Nat) (a b c d e g : Int) (h : List Int)
abbrev Ls (row : List Cel) (n y : Int) (r : R4) (s : Scr) : ((Unit × Unit) × (List Cel × Unit) × (Unit × Unit) × (Int × Unit) × (Int × Unit) × Unit) × (R4 × Unit) × (Scr × Unit) × Unit :=
  ((((), ()), (row, ()), ((), ()), (n, ()), (y, ()), ()), (r, ()), (s, ()), ())
theorem line_ok (W H : Nat) (r : R4) (row : List Cel) (s : Scr) (L) (n : Int) (y : Nat) (hr : Cl r) (ht : Thin row) (hlr : row.length ≤ 250) (hW : W ≤ 200) (hy : y < 200) (hk : 300 ≤ k) :
    loopN (e5_1 k a b c d e g h L) k ((((), ()), (row, ()), ((), ()), ((y : Int), ()), (n, ()), ((y : Int), ()), (rowF W fun x => FF r row x y, ()), ((W : Int), ()), ((0 : Int), ()), ()), (r, ()), (s, ()), ()) = L (Ls row n (IntKind.i64.wrap ((y : Int) + 1)) r s) := by
  have loop : ∀ (j k' x : Nat), x + j = W → j + 1 ≤ k' → loopN (e5_1 k a b c d e g h L) k' ((((), ()), (row, ()), ((), ()), ((y : Int), ()), (n, ()), ((y : Int), ()), (rowF W fun x => FF r row x y, ()), ((W : Int), ()), ((x : Int), ()), ()), (r, ()), (s, ()), ()) = L (Ls row n (IntKind.i64.wrap ((y : Int) + 1)) r s) := by
    intro j
    induction j with
    | zero =>
      intro k' x hx hk'
      obtain ⟨k', rfl⟩ : ∃ k2, k' = k2 + 1 := ⟨k' - 1, by omega⟩
      simp only [loopN_succ, e5_1]
      rw [cneg (by omega)]
    | succ j ih =>
      intro k' x hx hk'
      obtain ⟨k', rfl⟩ : ∃ k2, k' = k2 + 1 := ⟨k' - 1, by omega⟩
      have hxW : x < W := by omega
      have nx := ih k' (x + 1) (by omega) (by omega)
      have ew : IntKind.i64.wrap ((x : Int) + 1) = ((x + 1 : Nat) : Int) := by rw [wrapId (by omega) (by omega)]; omega
      simp only [loopN_succ, e5_1]
      rw [cpos (by omega), rowF_len, cpos (by omega)]
      have hh := has_ok k hr x y
      rw [hh, Option.bind_some, tn0, row_at (f := fun x => FF r row x y) hxW, ew]
      simp only [bq]
      have hbl : FF r row x y = bl → (bif !(decide ((FF r row x y).1 = 32) && (decide ((FF r row x y).2.1 = 0) && (decide ((FF r row x y).2.2.1 = 0) && (decide ((FF r row x y).2.2.2 = 0) && true)) && true)) then some (((false, ()), ()), ()) else loopN (e5_1 k a b c d e g h L) k' ((((), ()), (row, ()), ((), ()), ((y : Int), ()), (n, ()), ((y : Int), ()), (rowF W fun x => FF r row x y, ()), ((W : Int), ()), (((x + 1 : Nat) : Int), ()), ()), (r, ()), (s, ()), ())) = L (Ls row n (IntKind.i64.wrap ((y : Int) + 1)) r s) := fun q => by
        rw [q]; exact nx
      have hb : -5000 ≤ r.1 ∧ r.1 ≤ 5000 := by
        rcases hr with rfl | hr
        · decide
        · omega
      cases hin : inR r x y with
      | false =>
        rw [cond_false]
        exact hbl (FF_out (by rw [hin]; simp))
      | true =>
        have hin' := hin
        unfold inR at hin'
        have hin' := of_decide_eq_true hin'
        rw [cond_true]
        by_cases hy2 : (y : Int) = r.2.1
        · rw [decide_eq_true hy2, cond_true, wrapId (n := (x : Int) - r.1) (by omega) (by omega)]
          by_cases hl2 : (x : Int) - r.1 < row.length
          · obtain ⟨l, hl⟩ : ∃ l : Nat, (x : Int) - r.1 = (l : Int) := ⟨((x : Int) - r.1).toNat, by omega⟩
            have hlt : l < row.length := by omega
            have gl : gt S43 row l = row[l] := gtx hlt
            rw [cpos hl2, cpos (by omega), hl, tn0, gl, FF_in ht hin hy2 hl hlt]
            simp only [decide_true, Bool.and_self, Bool.not_true, cond_false]
            exact nx
          · rw [cneg hl2]
            exact hbl (FF_out fun q => hl2 q.2.2)
        · rw [decide_eq_false hy2, cond_false]
          exact hbl (FF_out fun q => hy2 q.2.1)
  exact loop W k 0 (by omega) (by omega)
theorem law_one (hl : h.length ≤ 140737488355328) (hk : 300 ≤ k) (hk2 : h.length + 1 ≤ k) : f5 k (((a, ()), (b, ()), ((c, d, e, g), ()), (h, ()), ()), ()) = V1 true := by
  have hr := clean_cl (c, d, e, g)
  rw [e5_eq, al7, Option.bind_some]
  simp only [Bool.not_true, cond_false]
  rw [clean_ok, Option.bind_some]
  generalize clean (c, d, e, g) = r at hr
  obtain ⟨row, ht, hlr, hrow⟩ := text_ok a b h r hl h.length k 0 [] (by omega) (by omega) (fun _ hc => by cases hc) (by simp) (by simp)
  have hrow2 : loopN e5_0 k (((a, ()), (b, ()), ((), ()), ((), ()), (h, ()), ((h.length : Int), ()), ((0 : Int), ()), ()), ((r.1, r.2.1, r.2.2.1, r.2.2.2), ()), [], ()) = some (Sum.inl (((a, ()), (b, ()), ((), ()), (row, ()), ()), (r, ()), ())) := hrow
  rw [hrow2, Option.bind_some]
  simp only [Sum.elim_inl]
  have hp := paint1_ok k a b r row hr ht hk
  rw [show (((r.1, r.2.1, r.2.2.1, r.2.2.2), (0 : Int), false, false, ByteArray.empty, [row], (0 : Int), (0 : Int), false) : Pan) = pane r row from rfl, hp, Option.bind_some]
  simp only [cl_is, bne_self_eq_false, cond_false, tab_len]
  obtain ⟨a1, a2⟩ := cl_in a
  obtain ⟨b1, b2⟩ := cl_in b
  obtain ⟨W, hW⟩ : ∃ W : Nat, cl a = (W : Int) := ⟨(cl a).toNat, by omega⟩
  obtain ⟨H, hH⟩ : ∃ H : Nat, cl b = (H : Int) := ⟨(cl b).toNat, by omega⟩
  rw [hW, hH, Int.toNat_natCast, Int.toNat_natCast]
  simp only [bne_self_eq_false, cond_false]
  have loop : ∀ (j k' y : Nat), y + j = H → j + 1 ≤ k' → loopN (e5_2 k a b c d e g h) k' (Ls row (H : Int) (y : Int) r ((W : Int), (H : Int), tab W H (FF r row), 0, 0, false)) = V1 true := by
    intro j
    induction j with
    | zero =>
      intro k' y hy hk'
      obtain ⟨k', rfl⟩ : ∃ k2, k' = k2 + 1 := ⟨k' - 1, by omega⟩
      simp only [loopN_succ, e5_2]
      rw [cneg (by omega)]
    | succ j ih =>
      intro k' y hy hk'
      obtain ⟨k', rfl⟩ : ∃ k2, k' = k2 + 1 := ⟨k' - 1, by omega⟩
      have hyH : y < H := by omega
      simp only [loopN_succ, e5_2]
      rw [cpos (by omega), tab_len, cpos (by omega), tn0, tab_at hyH, rowF_len, bne_self_eq_false, cond_false, cpos (by omega)]
      refine (line_ok k a b c d e g h W H r row ((W : Int), (H : Int), tab W H (FF r row), 0, 0, false) (loopN (e5_2 k a b c d e g h) k') (H : Int) y hr ht hlr (by omega) (by omega) hk).trans ?_
      rw [wrapId (n := (y : Int) + 1) (by omega) (by omega), show ((y : Int) + 1) = ((y + 1 : Nat) : Int) by omega]
      exact ih k' (y + 1) (by omega) (by omega)
  exact loop H k 0 (by omega) (by omega)
end law
end
end Go.Proofs.YtaklapcbbdcdpaaDoor.Pt
