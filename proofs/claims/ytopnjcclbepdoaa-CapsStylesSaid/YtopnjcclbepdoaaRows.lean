/-
  NARROWER THAN 'FOR EVERY INPUT', by the rows' own cells (each row's printed sentence says how): SwapKeeps: loops · SwapChooses: loops · SwapGrows: loops.
  DERIVED. THE GIVEN ROWS OF THIS SEAT. 6 by the template 'for every input the law returns true; each argument reads behind the call as it read before'; 0 by the template 'total and deterministic' (their statements: YtopnjcclbepdoaaTotals.lean).
  GIVEN WITH THE SEED: the statements are not yours to turn. If you find one false, say at which input.
  Laid BY PROGRAM, IN A SANDBOX (cutbox-rows.mjs): the forced cells as the released guide's own fill.sh prints them over the translation 4fd25ba1fff346c8… (all of the seat's roots in one cut). By AI agents, Wed Nov 11 2026. No macro, syntax, notation, axiom, sorry.
-/
import Derived.Test.YtopnjcclbepdoaaChecked
import GoSem.Claim
import GoSem.ClaimJoined
import GoSem.ClaimMapViews
import Derived.JoinedTies
import Derived.KernelRfl
namespace Go.Proofs.Ytopnjcclbepdoaa
/- THE CELL 'sum', in the pinned program and in every row, IS THE sha256 OF THE DUMP (.gsa) THAT YtopnjcclbepdoaaProg.lean LOADS. Nothing in Lean hashes anything: it is a label: what it is worth is what the hold of that sum in a sandbox is worth. -/
noncomputable def Try.pinned : Pinned := { name := "ytopnjcclbepdoaa", sum := "4fd25ba1fff346c8f482e94bdcf10e615943814e0a8cf142c6c9559077af5e8d", checked := Try.checked }
namespace Rows
def none {H : Type} : Left H := { results := [], args := [] }

/-- 'casementlaw11.SwapKeeps': WHATEVER THE INPUT: true; the input reads as it did. -/
def swapKeepsSpec : ChangeSpec := { name := "swapKeeps", fn := fun _ => fun
  | [d1, d2, d3] => { results := [.lit (.bool true)], args := [d1, d2, d3] }
  | _ => none }
def swapKeepsRow : OpenClaim := { program := "ytopnjcclbepdoaa", sum := "4fd25ba1fff346c8f482e94bdcf10e615943814e0a8cf142c6c9559077af5e8d", func := "casement/casementlaw11.SwapKeeps", spec := "swapKeeps", unfollowed := true, recurses := true, loops := true, apart := false }
def SwapKeepsSaid : Prop := swapKeepsRow.holds Try.pinned (OpenSpec.ofChange swapKeepsSpec)

/-- ITS FALSE NEIGHBOUR: 'it returns false'. Refute it at one input. -/
def swapKeepsWrong : ChangeSpec := { name := "swapKeeps", fn := fun _ => fun
  | [d1, d2, d3] => { results := [.lit (.bool false)], args := [d1, d2, d3] }
  | _ => none }
def SwapKeepsWrongFalsely : Prop := swapKeepsRow.holds Try.pinned (OpenSpec.ofChange swapKeepsWrong)

/-- 'casementlaw11.SwapChooses': WHATEVER THE INPUT: true; the input reads as it did. -/
def swapChoosesSpec : ChangeSpec := { name := "swapChooses", fn := fun _ => fun
  | [d1, d2] => { results := [.lit (.bool true)], args := [d1, d2] }
  | _ => none }
def swapChoosesRow : OpenClaim := { program := "ytopnjcclbepdoaa", sum := "4fd25ba1fff346c8f482e94bdcf10e615943814e0a8cf142c6c9559077af5e8d", func := "casement/casementlaw11.SwapChooses", spec := "swapChooses", unfollowed := true, recurses := true, loops := true, apart := false }
def SwapChoosesSaid : Prop := swapChoosesRow.holds Try.pinned (OpenSpec.ofChange swapChoosesSpec)

/-- ITS FALSE NEIGHBOUR: 'it returns false'. Refute it at one input. -/
def swapChoosesWrong : ChangeSpec := { name := "swapChooses", fn := fun _ => fun
  | [d1, d2] => { results := [.lit (.bool false)], args := [d1, d2] }
  | _ => none }
def SwapChoosesWrongFalsely : Prop := swapChoosesRow.holds Try.pinned (OpenSpec.ofChange swapChoosesWrong)

/-- 'casementlaw11.SwapGrows': WHATEVER THE INPUT: true; the input reads as it did. -/
def swapGrowsSpec : ChangeSpec := { name := "swapGrows", fn := fun _ => fun
  | [d1, d2, d3] => { results := [.lit (.bool true)], args := [d1, d2, d3] }
  | _ => none }
def swapGrowsRow : OpenClaim := { program := "ytopnjcclbepdoaa", sum := "4fd25ba1fff346c8f482e94bdcf10e615943814e0a8cf142c6c9559077af5e8d", func := "casement/casementlaw11.SwapGrows", spec := "swapGrows", unfollowed := true, recurses := true, loops := true, apart := false }
def SwapGrowsSaid : Prop := swapGrowsRow.holds Try.pinned (OpenSpec.ofChange swapGrowsSpec)

/-- ITS FALSE NEIGHBOUR: 'it returns false'. Refute it at one input. -/
def swapGrowsWrong : ChangeSpec := { name := "swapGrows", fn := fun _ => fun
  | [d1, d2, d3] => { results := [.lit (.bool false)], args := [d1, d2, d3] }
  | _ => none }
def SwapGrowsWrongFalsely : Prop := swapGrowsRow.holds Try.pinned (OpenSpec.ofChange swapGrowsWrong)

/-- 'casementlaw15.CapsKeeps': WHATEVER THE INPUT: true; the input reads as it did. -/
def capsKeepsSpec : ChangeSpec := { name := "capsKeeps", fn := fun _ => fun
  | [d1, d2, d3, d4, d5, d6] => { results := [.lit (.bool true)], args := [d1, d2, d3, d4, d5, d6] }
  | _ => none }
def capsKeepsRow : OpenClaim := { program := "ytopnjcclbepdoaa", sum := "4fd25ba1fff346c8f482e94bdcf10e615943814e0a8cf142c6c9559077af5e8d", func := "casement/casementlaw15.CapsKeeps", spec := "capsKeeps", unfollowed := true, recurses := true, apart := false }
def CapsKeepsSaid : Prop := capsKeepsRow.holds Try.pinned (OpenSpec.ofChange capsKeepsSpec)

/-- ITS FALSE NEIGHBOUR: 'it returns false'. Refute it at one input. -/
def capsKeepsWrong : ChangeSpec := { name := "capsKeeps", fn := fun _ => fun
  | [d1, d2, d3, d4, d5, d6] => { results := [.lit (.bool false)], args := [d1, d2, d3, d4, d5, d6] }
  | _ => none }
def CapsKeepsWrongFalsely : Prop := capsKeepsRow.holds Try.pinned (OpenSpec.ofChange capsKeepsWrong)

/-- 'casementlaw15.CapsBytes': WHATEVER THE INPUT: true; the input reads as it did. -/
def capsBytesSpec : ChangeSpec := { name := "capsBytes", fn := fun _ => fun
  | [d1, d2, d3] => { results := [.lit (.bool true)], args := [d1, d2, d3] }
  | _ => none }
def capsBytesRow : OpenClaim := { program := "ytopnjcclbepdoaa", sum := "4fd25ba1fff346c8f482e94bdcf10e615943814e0a8cf142c6c9559077af5e8d", func := "casement/casementlaw15.CapsBytes", spec := "capsBytes", unfollowed := true, recurses := true, apart := false }
def CapsBytesSaid : Prop := capsBytesRow.holds Try.pinned (OpenSpec.ofChange capsBytesSpec)

/-- ITS FALSE NEIGHBOUR: 'it returns false'. Refute it at one input. -/
def capsBytesWrong : ChangeSpec := { name := "capsBytes", fn := fun _ => fun
  | [d1, d2, d3] => { results := [.lit (.bool false)], args := [d1, d2, d3] }
  | _ => none }
def CapsBytesWrongFalsely : Prop := capsBytesRow.holds Try.pinned (OpenSpec.ofChange capsBytesWrong)

/-- 'casementlaw15.CapsStyles': WHATEVER THE INPUT: true; the input reads as it did. -/
def capsStylesSpec : ChangeSpec := { name := "capsStyles", fn := fun _ => fun
  | [d1, d2, d3, d4] => { results := [.lit (.bool true)], args := [d1, d2, d3, d4] }
  | _ => none }
def capsStylesRow : OpenClaim := { program := "ytopnjcclbepdoaa", sum := "4fd25ba1fff346c8f482e94bdcf10e615943814e0a8cf142c6c9559077af5e8d", func := "casement/casementlaw15.CapsStyles", spec := "capsStyles", unfollowed := true, recurses := true, apart := false }
def CapsStylesSaid : Prop := capsStylesRow.holds Try.pinned (OpenSpec.ofChange capsStylesSpec)

/-- ITS FALSE NEIGHBOUR: 'it returns false'. Refute it at one input. -/
def capsStylesWrong : ChangeSpec := { name := "capsStyles", fn := fun _ => fun
  | [d1, d2, d3, d4] => { results := [.lit (.bool false)], args := [d1, d2, d3, d4] }
  | _ => none }
def CapsStylesWrongFalsely : Prop := capsStylesRow.holds Try.pinned (OpenSpec.ofChange capsStylesWrong)

/- THE SECOND FORM. 'bulk': how many values and letters a reading holds, each counted each time it is reached (what is shared counts as often as it is met; a slice's spare places count too). A statement '..UptoSaid' is the law's where the arguments, and the package variables that the reading takes, are together of bulk at most 1048576: NARROWER than '..Said'. Prove '..Said' where nothing that the law and all that it calls make is longer than what came in: it says more and counts as full. Else prove '..UptoSaid'. A law counts once. -/
mutual
def uptoBulk {H : Type} : DataW H → Nat
  | .lit (.string bytes) => bytes.length + 1
  | .lit _ => 1
  | .nil => 1
  | .ptr d => uptoBulk d + 1
  | .slice elems spare => uptoBulkAll elems + uptoBulkAll spare + 1
  | .agg parts => uptoBulkAll parts + 1
  | .iface _ d => uptoBulk d + 1
  | .map entries => uptoBulkEntries entries + 1
  | .held _ => 1
def uptoBulkAll {H : Type} : List (DataW H) → Nat
  | [] => 0
  | d :: r => uptoBulk d + uptoBulkAll r
def uptoBulkEntries {H : Type} : List (Lit × DataW H) → Nat
  | [] => 0
  | x :: r => uptoBulkEntry x + uptoBulkEntries r
def uptoBulkEntry {H : Type} : Lit × DataW H → Nat
  | (.string bytes, d) => bytes.length + uptoBulk d + 1
  | (_, d) => uptoBulk d + 1
 end
def uptoSmall : (H : Type) → List (DataW H) → Bool := fun _ ds => decide (uptoBulkAll ds ≤ 1048576)
def OpenSpec.upto (s : _root_.Go.ChangeSpec) : _root_.Go.OpenSpec := { _root_.Go.OpenSpec.ofChange s with cond := some uptoSmall }

/-- 'casementlaw11.SwapKeeps', WHERE WHAT IT READS IS OF BULK AT MOST 1048576: true; the input reads as it did. -/
def swapKeepsUptoRow : OpenClaim := { program := "ytopnjcclbepdoaa", sum := "4fd25ba1fff346c8f482e94bdcf10e615943814e0a8cf142c6c9559077af5e8d", func := "casement/casementlaw11.SwapKeeps", spec := "swapKeeps", unfollowed := true, recurses := true, loops := true, apart := false, narrowed := true }
def SwapKeepsUptoSaid : Prop := swapKeepsUptoRow.holds Try.pinned (OpenSpec.upto swapKeepsSpec)

/-- 'casementlaw11.SwapChooses', WHERE WHAT IT READS IS OF BULK AT MOST 1048576: true; the input reads as it did. -/
def swapChoosesUptoRow : OpenClaim := { program := "ytopnjcclbepdoaa", sum := "4fd25ba1fff346c8f482e94bdcf10e615943814e0a8cf142c6c9559077af5e8d", func := "casement/casementlaw11.SwapChooses", spec := "swapChooses", unfollowed := true, recurses := true, loops := true, apart := false, narrowed := true }
def SwapChoosesUptoSaid : Prop := swapChoosesUptoRow.holds Try.pinned (OpenSpec.upto swapChoosesSpec)

/-- 'casementlaw11.SwapGrows', WHERE WHAT IT READS IS OF BULK AT MOST 1048576: true; the input reads as it did. -/
def swapGrowsUptoRow : OpenClaim := { program := "ytopnjcclbepdoaa", sum := "4fd25ba1fff346c8f482e94bdcf10e615943814e0a8cf142c6c9559077af5e8d", func := "casement/casementlaw11.SwapGrows", spec := "swapGrows", unfollowed := true, recurses := true, loops := true, apart := false, narrowed := true }
def SwapGrowsUptoSaid : Prop := swapGrowsUptoRow.holds Try.pinned (OpenSpec.upto swapGrowsSpec)

/-- 'casementlaw15.CapsKeeps', WHERE WHAT IT READS IS OF BULK AT MOST 1048576: true; the input reads as it did. -/
def capsKeepsUptoRow : OpenClaim := { program := "ytopnjcclbepdoaa", sum := "4fd25ba1fff346c8f482e94bdcf10e615943814e0a8cf142c6c9559077af5e8d", func := "casement/casementlaw15.CapsKeeps", spec := "capsKeeps", unfollowed := true, recurses := true, apart := false, narrowed := true }
def CapsKeepsUptoSaid : Prop := capsKeepsUptoRow.holds Try.pinned (OpenSpec.upto capsKeepsSpec)

/-- 'casementlaw15.CapsBytes', WHERE WHAT IT READS IS OF BULK AT MOST 1048576: true; the input reads as it did. -/
def capsBytesUptoRow : OpenClaim := { program := "ytopnjcclbepdoaa", sum := "4fd25ba1fff346c8f482e94bdcf10e615943814e0a8cf142c6c9559077af5e8d", func := "casement/casementlaw15.CapsBytes", spec := "capsBytes", unfollowed := true, recurses := true, apart := false, narrowed := true }
def CapsBytesUptoSaid : Prop := capsBytesUptoRow.holds Try.pinned (OpenSpec.upto capsBytesSpec)

/-- 'casementlaw15.CapsStyles', WHERE WHAT IT READS IS OF BULK AT MOST 1048576: true; the input reads as it did. -/
def capsStylesUptoRow : OpenClaim := { program := "ytopnjcclbepdoaa", sum := "4fd25ba1fff346c8f482e94bdcf10e615943814e0a8cf142c6c9559077af5e8d", func := "casement/casementlaw15.CapsStyles", spec := "capsStyles", unfollowed := true, recurses := true, apart := false, narrowed := true }
def CapsStylesUptoSaid : Prop := capsStylesUptoRow.holds Try.pinned (OpenSpec.upto capsStylesSpec)

end Rows
end Go.Proofs.Ytopnjcclbepdoaa
