-- written by a program of this session after the way of the kit's print; not the kit's own print. Lean checks it.
import Derived.Test.YthllpilgfipkpaaQx0
import Derived.Test.YthllpilgfipkpaaOpens
namespace Go.Proofs.Ythllpilgfipkpaa.Q
open Go.RowKit Go.Proofs.YthllpilgfipkpaaW.PrintWords Go.Proofs.YthllpilgfipkpaaW.PrintLast Go.Proofs.YthllpilgfipkpaaW.PrintMore
attribute [local go_sem] max2_int min2_int max_two min_two max_three min_three max_four min_four   -- for this text's walks alone
set_option linter.unusedVariables false
set_option linter.unusedSimpArgs false

open Go.Proofs.Ythllpilgfipkpaa.Opens
theorem op70 {H : Type} {enc : TypeId × Value → H} {w : World} : Opn enc Try.prog w 70 k70 okS70 :=
  Opn.iso (fun a => ⟨a.1, a.2⟩) (fun _ => rfl) (fun a h => ⟨h.1, h.2⟩) (Opn.struct Try.underlying70 (FOp.cons rfl (by kernel_rfl) (Opn.int Try.underlying3) (FOp.last rfl (by kernel_rfl) (by kernel_rfl) (Opn.int Try.underlying3))))
end Go.Proofs.Ythllpilgfipkpaa.Q
