/-
  No cell of these rows narrows 'for every input' (looked for: loops, veiled, ifaces, maps, wideKeys, modest, calm, conditions, laid).
  DERIVED. THE GIVEN ROWS OF THIS SEAT. 5 by the template 'for every input the law returns true; each argument reads behind the call as it read before'; 0 by the template 'total and deterministic' (their statements: YtgngbbkaghmnpaaTotals.lean).
  GIVEN WITH THE SEED: the statements are not yours to turn. If you find one false, say at which input.
  Laid BY PROGRAM, IN A SANDBOX (cutbox-rows.mjs): the forced cells as the released guide's own fill.sh prints them over the translation 207758a559ac7326… (all of the seat's roots in one cut). By AI agents, Wed Nov 11 2026. No macro, syntax, notation, axiom, sorry.
-/
import Derived.Test.YtgngbbkaghmnpaaChecked
import GoSem.Claim
import GoSem.ClaimJoined
import GoSem.ClaimMapViews
import Derived.JoinedTies
import Derived.KernelRfl
namespace Go.Proofs.Ytgngbbkaghmnpaa
/- THE CELL 'sum', in the pinned program and in every row, IS THE sha256 OF THE DUMP (.gsa) THAT YtgngbbkaghmnpaaProg.lean LOADS. Nothing in Lean hashes anything: it is a label: what it is worth is what the hold of that sum in a sandbox is worth. -/
noncomputable def Try.pinned : Pinned := { name := "ytgngbbkaghmnpaa", sum := "207758a559ac7326845306bb12d46c19b9a2c05e36edbedb9f59b34f1a9c900c", checked := Try.checked }
namespace Rows
def none {H : Type} : Left H := { results := [], args := [] }

/-- 'casementlaw13.CheckPlays': WHATEVER THE INPUT: true; the input reads as it did. -/
def checkPlaysSpec : ChangeSpec := { name := "checkPlays", fn := fun _ => fun
  | [d] => { results := [.lit (.bool true)], args := [d] }
  | _ => none }
def checkPlaysRow : OpenClaim := { program := "ytgngbbkaghmnpaa", sum := "207758a559ac7326845306bb12d46c19b9a2c05e36edbedb9f59b34f1a9c900c", func := "casement/casementlaw13.CheckPlays", spec := "checkPlays", apart := false }
def CheckPlaysSaid : Prop := checkPlaysRow.holds Try.pinned (OpenSpec.ofChange checkPlaysSpec)

/-- ITS FALSE NEIGHBOUR: 'it returns false'. Refute it at one input. -/
def checkPlaysWrong : ChangeSpec := { name := "checkPlays", fn := fun _ => fun
  | [d] => { results := [.lit (.bool false)], args := [d] }
  | _ => none }
def CheckPlaysWrongFalsely : Prop := checkPlaysRow.holds Try.pinned (OpenSpec.ofChange checkPlaysWrong)

/-- 'casementlaw13.CheckEffects': WHATEVER THE INPUT: true; the input reads as it did. -/
def checkEffectsSpec : ChangeSpec := { name := "checkEffects", fn := fun _ => fun
  | [d1, d2, d3, d4] => { results := [.lit (.bool true)], args := [d1, d2, d3, d4] }
  | _ => none }
def checkEffectsRow : OpenClaim := { program := "ytgngbbkaghmnpaa", sum := "207758a559ac7326845306bb12d46c19b9a2c05e36edbedb9f59b34f1a9c900c", func := "casement/casementlaw13.CheckEffects", spec := "checkEffects", apart := false }
def CheckEffectsSaid : Prop := checkEffectsRow.holds Try.pinned (OpenSpec.ofChange checkEffectsSpec)

/-- ITS FALSE NEIGHBOUR: 'it returns false'. Refute it at one input. -/
def checkEffectsWrong : ChangeSpec := { name := "checkEffects", fn := fun _ => fun
  | [d1, d2, d3, d4] => { results := [.lit (.bool false)], args := [d1, d2, d3, d4] }
  | _ => none }
def CheckEffectsWrongFalsely : Prop := checkEffectsRow.holds Try.pinned (OpenSpec.ofChange checkEffectsWrong)

/-- 'casementlaw13.CheckSound': WHATEVER THE INPUT: true; the input reads as it did. -/
def checkSoundSpec : ChangeSpec := { name := "checkSound", fn := fun _ => fun
  | [d] => { results := [.lit (.bool true)], args := [d] }
  | _ => none }
def checkSoundRow : OpenClaim := { program := "ytgngbbkaghmnpaa", sum := "207758a559ac7326845306bb12d46c19b9a2c05e36edbedb9f59b34f1a9c900c", func := "casement/casementlaw13.CheckSound", spec := "checkSound", apart := false }
def CheckSoundSaid : Prop := checkSoundRow.holds Try.pinned (OpenSpec.ofChange checkSoundSpec)

/-- ITS FALSE NEIGHBOUR: 'it returns false'. Refute it at one input. -/
def checkSoundWrong : ChangeSpec := { name := "checkSound", fn := fun _ => fun
  | [d] => { results := [.lit (.bool false)], args := [d] }
  | _ => none }
def CheckSoundWrongFalsely : Prop := checkSoundRow.holds Try.pinned (OpenSpec.ofChange checkSoundWrong)

/-- 'casementlaw13.CheckDead': WHATEVER THE INPUT: true; the input reads as it did. -/
def checkDeadSpec : ChangeSpec := { name := "checkDead", fn := fun _ => fun
  | [d1, d2, d3] => { results := [.lit (.bool true)], args := [d1, d2, d3] }
  | _ => none }
def checkDeadRow : OpenClaim := { program := "ytgngbbkaghmnpaa", sum := "207758a559ac7326845306bb12d46c19b9a2c05e36edbedb9f59b34f1a9c900c", func := "casement/casementlaw13.CheckDead", spec := "checkDead", apart := false }
def CheckDeadSaid : Prop := checkDeadRow.holds Try.pinned (OpenSpec.ofChange checkDeadSpec)

/-- ITS FALSE NEIGHBOUR: 'it returns false'. Refute it at one input. -/
def checkDeadWrong : ChangeSpec := { name := "checkDead", fn := fun _ => fun
  | [d1, d2, d3] => { results := [.lit (.bool false)], args := [d1, d2, d3] }
  | _ => none }
def CheckDeadWrongFalsely : Prop := checkDeadRow.holds Try.pinned (OpenSpec.ofChange checkDeadWrong)

/-- 'casementlaw13.CheckOne': WHATEVER THE INPUT: true; the input reads as it did. -/
def checkOneSpec : ChangeSpec := { name := "checkOne", fn := fun _ => fun
  | [d1, d2] => { results := [.lit (.bool true)], args := [d1, d2] }
  | _ => none }
def checkOneRow : OpenClaim := { program := "ytgngbbkaghmnpaa", sum := "207758a559ac7326845306bb12d46c19b9a2c05e36edbedb9f59b34f1a9c900c", func := "casement/casementlaw13.CheckOne", spec := "checkOne", apart := false }
def CheckOneSaid : Prop := checkOneRow.holds Try.pinned (OpenSpec.ofChange checkOneSpec)

/-- ITS FALSE NEIGHBOUR: 'it returns false'. Refute it at one input. -/
def checkOneWrong : ChangeSpec := { name := "checkOne", fn := fun _ => fun
  | [d1, d2] => { results := [.lit (.bool false)], args := [d1, d2] }
  | _ => none }
def CheckOneWrongFalsely : Prop := checkOneRow.holds Try.pinned (OpenSpec.ofChange checkOneWrong)

/- THE SECOND FORM. 'bulk': how many values and letters a reading holds, each counted each time it is reached (what is shared counts as often as it is met; a slice's spare places count too). A statement '..UptoSaid' is the law's where the arguments, and the package variables that the reading takes, are together of bulk at most 1048576: NARROWER than '..Said'. Prove '..Said' where nothing that the law and all that it calls make is longer than what came in: it says more and counts as full. Else prove '..UptoSaid'. A law counts once. -/
mutual
def uptoBulk {H : Type} : DataW H → Nat
  | .lit (.string bytes) => bytes.length + 1
  | .lit _ => 1
  | .nil => 1
  | .ptr d => uptoBulk d + 1
  | .slice elems spare => uptoBulkAll elems + uptoBulkAll spare + 1
  | .agg parts => uptoBulkAll parts + 1
  | .iface _ d => uptoBulk d + 1
  | .map entries => uptoBulkEntries entries + 1
  | .held _ => 1
def uptoBulkAll {H : Type} : List (DataW H) → Nat
  | [] => 0
  | d :: r => uptoBulk d + uptoBulkAll r
def uptoBulkEntries {H : Type} : List (Lit × DataW H) → Nat
  | [] => 0
  | x :: r => uptoBulkEntry x + uptoBulkEntries r
def uptoBulkEntry {H : Type} : Lit × DataW H → Nat
  | (.string bytes, d) => bytes.length + uptoBulk d + 1
  | (_, d) => uptoBulk d + 1
 end
def uptoSmall : (H : Type) → List (DataW H) → Bool := fun _ ds => decide (uptoBulkAll ds ≤ 1048576)
def OpenSpec.upto (s : _root_.Go.ChangeSpec) : _root_.Go.OpenSpec := { _root_.Go.OpenSpec.ofChange s with cond := some uptoSmall }

/-- 'casementlaw13.CheckPlays', WHERE WHAT IT READS IS OF BULK AT MOST 1048576: true; the input reads as it did. -/
def checkPlaysUptoRow : OpenClaim := { program := "ytgngbbkaghmnpaa", sum := "207758a559ac7326845306bb12d46c19b9a2c05e36edbedb9f59b34f1a9c900c", func := "casement/casementlaw13.CheckPlays", spec := "checkPlays", apart := false, narrowed := true }
def CheckPlaysUptoSaid : Prop := checkPlaysUptoRow.holds Try.pinned (OpenSpec.upto checkPlaysSpec)

/-- 'casementlaw13.CheckEffects', WHERE WHAT IT READS IS OF BULK AT MOST 1048576: true; the input reads as it did. -/
def checkEffectsUptoRow : OpenClaim := { program := "ytgngbbkaghmnpaa", sum := "207758a559ac7326845306bb12d46c19b9a2c05e36edbedb9f59b34f1a9c900c", func := "casement/casementlaw13.CheckEffects", spec := "checkEffects", apart := false, narrowed := true }
def CheckEffectsUptoSaid : Prop := checkEffectsUptoRow.holds Try.pinned (OpenSpec.upto checkEffectsSpec)

/-- 'casementlaw13.CheckSound', WHERE WHAT IT READS IS OF BULK AT MOST 1048576: true; the input reads as it did. -/
def checkSoundUptoRow : OpenClaim := { program := "ytgngbbkaghmnpaa", sum := "207758a559ac7326845306bb12d46c19b9a2c05e36edbedb9f59b34f1a9c900c", func := "casement/casementlaw13.CheckSound", spec := "checkSound", apart := false, narrowed := true }
def CheckSoundUptoSaid : Prop := checkSoundUptoRow.holds Try.pinned (OpenSpec.upto checkSoundSpec)

/-- 'casementlaw13.CheckDead', WHERE WHAT IT READS IS OF BULK AT MOST 1048576: true; the input reads as it did. -/
def checkDeadUptoRow : OpenClaim := { program := "ytgngbbkaghmnpaa", sum := "207758a559ac7326845306bb12d46c19b9a2c05e36edbedb9f59b34f1a9c900c", func := "casement/casementlaw13.CheckDead", spec := "checkDead", apart := false, narrowed := true }
def CheckDeadUptoSaid : Prop := checkDeadUptoRow.holds Try.pinned (OpenSpec.upto checkDeadSpec)

/-- 'casementlaw13.CheckOne', WHERE WHAT IT READS IS OF BULK AT MOST 1048576: true; the input reads as it did. -/
def checkOneUptoRow : OpenClaim := { program := "ytgngbbkaghmnpaa", sum := "207758a559ac7326845306bb12d46c19b9a2c05e36edbedb9f59b34f1a9c900c", func := "casement/casementlaw13.CheckOne", spec := "checkOne", apart := false, narrowed := true }
def CheckOneUptoSaid : Prop := checkOneUptoRow.holds Try.pinned (OpenSpec.upto checkOneSpec)

end Rows
end Go.Proofs.Ytgngbbkaghmnpaa
